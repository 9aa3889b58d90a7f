/- Each function comes to its tree; no condition. -/
import Derived.Test.YtknlennollmgeaaGreatSmTab0
namespace Go.Proofs.YtknlennollmgeaaGreat
open Go Go.Sm Go.Sm.Q
set_option maxRecDepth 100000
theorem ZnQ:Zm cx Zcv=some Zes:=by kernel_rfl
theorem ZnR:Zm cx Zcw=some Zet:=by kernel_rfl
theorem ZnS:Zm cx Zcx=some Zeu:=by kernel_rfl
theorem ZnT:Zm cx Zcy=some Zev:=by kernel_rfl
theorem ZnU:Zm cx Zcz=some Zew:=by kernel_rfl
theorem ZnV:Zm cx ZcA=some Zex:=by kernel_rfl
theorem ZnW:Zm cx ZcB=some Zey:=by kernel_rfl
theorem ZnX:Zm cx ZcC=some Zez:=by kernel_rfl
theorem ZnY:Zm cx ZcD=some ZeA:=by kernel_rfl
theorem ZnZ:Zm cx ZcE=some ZeB:=by kernel_rfl
theorem Zn_:Zm cx ZcF=some ZeC:=by kernel_rfl
theorem Zo0:Zm cx ZcG=some ZeD:=by kernel_rfl
theorem Zo1:Zm cx ZcH=some ZeE:=by kernel_rfl
theorem Zo2:Zm cx ZcI=some ZeF:=by kernel_rfl
theorem Zo3:Zm cx ZcJ=some ZeG:=by kernel_rfl
theorem Zo4:Zm cx ZcK=some ZeH:=by kernel_rfl
theorem Zo5:Zm cx ZcL=some ZeI:=by kernel_rfl
theorem Zo6:Zm cx ZcM=some ZeJ:=by kernel_rfl
theorem Zo7:Zm cx ZcN=some ZeK:=by kernel_rfl
theorem Zo8:Zm cx ZcO=some ZeL:=by kernel_rfl
theorem Zo9:Zm cx ZcP=some ZeM:=by kernel_rfl
theorem Zoa:Zm cx ZcQ=some ZeN:=by kernel_rfl
theorem Zob:Zm cx ZE=some ZeO:=by kernel_rfl
theorem Zoc:Zm cx ZcR=some ZeP:=by kernel_rfl
theorem Zod:Zm cx ZcS=some ZeQ:=by kernel_rfl
theorem Zoe:Zm cx ZcT=some ZeR:=by kernel_rfl
theorem Zof:Zm cx ZcU=some ZeS:=by kernel_rfl
theorem Zog:Zm cx ZcV=some ZeT:=by kernel_rfl
theorem Zoh:Zm cx ZcW=some ZeU:=by kernel_rfl
theorem Zoi:Zm cx ZcX=some ZeV:=by kernel_rfl
end Go.Proofs.YtknlennollmgeaaGreat
