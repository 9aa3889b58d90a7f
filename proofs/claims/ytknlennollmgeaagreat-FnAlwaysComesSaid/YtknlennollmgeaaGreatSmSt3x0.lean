/- Each function comes to its tree; no condition. -/
import Derived.Test.YtknlennollmgeaaGreatSmTab0
namespace Go.Proofs.YtknlennollmgeaaGreat
open Go Go.Sm Go.Sm.Q
set_option maxRecDepth 100000
theorem ZnA:Zq cx Zcv=some Zet:=by kernel_rfl
theorem ZnB:Zq cx Zcw=some Zeu:=by kernel_rfl
theorem ZnC:Zq cx Zcx=some Zev:=by kernel_rfl
theorem ZnD:Zq cx Zcy=some Zew:=by kernel_rfl
theorem ZnE:Zq cx Zcz=some Zex:=by kernel_rfl
theorem ZnF:Zq cx ZcA=some Zey:=by kernel_rfl
theorem ZnG:Zq cx ZcB=some Zez:=by kernel_rfl
theorem ZnH:Zq cx ZcC=some ZeA:=by kernel_rfl
theorem ZnI:Zq cx ZcD=some ZeB:=by kernel_rfl
theorem ZnJ:Zq cx ZcE=some ZeC:=by kernel_rfl
theorem ZnK:Zq cx ZcF=some ZeD:=by kernel_rfl
theorem ZnL:Zq cx ZcG=some ZeE:=by kernel_rfl
theorem ZnM:Zq cx ZcH=some ZeF:=by kernel_rfl
theorem ZnN:Zq cx ZcI=some ZeG:=by kernel_rfl
theorem ZnO:Zq cx ZcJ=some ZeH:=by kernel_rfl
theorem ZnP:Zq cx ZcK=some ZeI:=by kernel_rfl
theorem ZnQ:Zq cx ZcL=some ZeJ:=by kernel_rfl
theorem ZnR:Zq cx ZcM=some ZeK:=by kernel_rfl
theorem ZnS:Zq cx ZcN=some ZeL:=by kernel_rfl
theorem ZnT:Zq cx ZcO=some ZeM:=by kernel_rfl
theorem ZnU:Zq cx ZcP=some ZeN:=by kernel_rfl
theorem ZnV:Zq cx ZcQ=some ZeO:=by kernel_rfl
theorem ZnW:Zq cx ZcR=some ZeP:=by kernel_rfl
theorem ZnX:Zq cx ZcS=some ZeQ:=by kernel_rfl
theorem ZnY:Zq cx ZcT=some ZeR:=by kernel_rfl
theorem ZnZ:Zq cx ZcU=some ZeS:=by kernel_rfl
theorem Zn_:Zq cx ZcV=some ZeT:=by kernel_rfl
theorem Zo0:Zq cx ZcW=some ZeU:=by kernel_rfl
theorem Zo1:Zq cx ZcX=some ZeV:=by kernel_rfl
theorem Zo2:Zq cx ZcY=some ZeW:=by kernel_rfl
end Go.Proofs.YtknlennollmgeaaGreat
