/- Each function comes to its tree; no condition. -/
import Derived.Test.YtdgpohclhppodaaGreatSmTab0
namespace Go.Proofs.YtdgpohclhppodaaGreat
open Go Go.Sm Go.Sm.Q
set_option maxRecDepth 100000
theorem ZpJ:Zs cx Zck=some ZeI:=by kernel_rfl
theorem ZpK:Zs cx Zcl=some ZeJ:=by kernel_rfl
theorem ZpL:Zs cx Zcm=some ZeK:=by kernel_rfl
theorem ZpM:Zs cx Zcn=some ZeL:=by kernel_rfl
theorem ZpN:Zs cx Zco=some ZeM:=by kernel_rfl
theorem ZpO:Zs cx Zcp=some ZeN:=by kernel_rfl
theorem ZpP:Zs cx Zcq=some ZeO:=by kernel_rfl
theorem ZpQ:Zs cx Zcr=some ZeP:=by kernel_rfl
theorem ZpR:Zs cx Zcs=some ZeQ:=by kernel_rfl
theorem ZpS:Zs cx Zct=some ZeR:=by kernel_rfl
theorem ZpT:Zs cx Zcu=some ZeS:=by kernel_rfl
theorem ZpU:Zs cx Zcv=some ZeT:=by kernel_rfl
theorem ZpV:Zs cx Zcw=some ZeU:=by kernel_rfl
theorem ZpW:Zs cx Zcx=some ZeV:=by kernel_rfl
theorem ZpX:Zs cx Zcy=some ZeW:=by kernel_rfl
theorem ZpY:Zs cx Zcz=some ZeX:=by kernel_rfl
theorem ZpZ:Zs cx ZcA=some ZeY:=by kernel_rfl
theorem Zp_:Zs cx ZcB=some ZeZ:=by kernel_rfl
theorem Zq0:Zs cx ZcC=some Ze_:=by kernel_rfl
theorem Zq1:Zs cx ZcD=some Zf0:=by kernel_rfl
theorem Zq2:Zs cx ZcE=some Zf1:=by kernel_rfl
theorem Zq3:Zs cx ZcF=some Zf2:=by kernel_rfl
theorem Zq4:Zs cx ZcG=some Zf3:=by kernel_rfl
theorem Zq5:Zs cx ZcH=some Zf4:=by kernel_rfl
theorem Zq6:Zs cx ZcI=some Zf5:=by kernel_rfl
theorem Zq7:Zs cx ZcJ=some Zf6:=by kernel_rfl
theorem Zq8:Zs cx ZcK=some Zf7:=by kernel_rfl
theorem Zq9:Zs cx ZcL=some Zf8:=by kernel_rfl
theorem Zqa:Zs cx ZcM=some Zf9:=by kernel_rfl
theorem Zqb:Zs cx ZcN=some Zfa:=by kernel_rfl
end Go.Proofs.YtdgpohclhppodaaGreat
