/- Each function comes to its tree; no condition. -/
import Derived.Test.YtknlennollmgeaaGreatSmTab0
namespace Go.Proofs.YtknlennollmgeaaGreat
open Go Go.Sm Go.Sm.Q
set_option maxRecDepth 100000
theorem ZmT:Zs cx Zct=some Zem:=by kernel_rfl
theorem ZmU:Zs cx Zcu=some Zen:=by kernel_rfl
theorem ZmV:Zs cx Zcv=some Zeo:=by kernel_rfl
theorem ZmW:Zs cx Zcw=some Zep:=by kernel_rfl
theorem ZmX:Zs cx Zcx=some Zeq:=by kernel_rfl
theorem ZmY:Zs cx Zcy=some Zer:=by kernel_rfl
theorem ZmZ:Zs cx Zcz=some Zes:=by kernel_rfl
theorem Zm_:Zs cx ZcA=some Zet:=by kernel_rfl
theorem Zn0:Zs cx ZcB=some Zeu:=by kernel_rfl
theorem Zn1:Zs cx ZcC=some Zev:=by kernel_rfl
theorem Zn2:Zs cx ZcD=some Zew:=by kernel_rfl
theorem Zn3:Zs cx ZcE=some Zex:=by kernel_rfl
theorem Zn4:Zs cx ZcF=some Zey:=by kernel_rfl
theorem Zn5:Zs cx ZcG=some Zez:=by kernel_rfl
theorem Zn6:Zs cx ZcH=some ZeA:=by kernel_rfl
theorem Zn7:Zs cx ZcI=some ZeB:=by kernel_rfl
theorem Zn8:Zs cx ZcJ=some ZeC:=by kernel_rfl
theorem Zn9:Zs cx ZcK=some ZeD:=by kernel_rfl
theorem Zna:Zs cx ZcL=some ZeE:=by kernel_rfl
theorem Znb:Zs cx ZcM=some ZeF:=by kernel_rfl
theorem Znc:Zs cx ZcN=some ZeG:=by kernel_rfl
theorem Znd:Zs cx ZcO=some ZeH:=by kernel_rfl
theorem Zne:Zs cx ZcP=some ZeI:=by kernel_rfl
theorem Znf:Zs cx ZcQ=some ZeJ:=by kernel_rfl
theorem Zng:Zs cx ZcR=some ZeK:=by kernel_rfl
theorem Znh:Zs cx ZcS=some ZeL:=by kernel_rfl
end Go.Proofs.YtknlennollmgeaaGreat
