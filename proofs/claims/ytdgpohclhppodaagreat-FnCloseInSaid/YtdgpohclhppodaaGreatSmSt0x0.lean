/- Each function comes to its tree; no condition. -/
import Derived.Test.YtdgpohclhppodaaGreatSmTab0
namespace Go.Proofs.YtdgpohclhppodaaGreat
open Go Go.Sm Go.Sm.Q
set_option maxRecDepth 100000
theorem ZoM:Zs cx Zbo=some ZdL:=by kernel_rfl
theorem ZoN:Zs cx ZI=some ZdM:=by kernel_rfl
theorem ZoO:Zs cx Zbp=some ZdN:=by kernel_rfl
theorem ZoP:Zs cx Zbq=some ZdO:=by kernel_rfl
theorem ZoQ:Zs cx Zbr=some ZdP:=by kernel_rfl
theorem ZoR:Zs cx Zbs=some ZdQ:=by kernel_rfl
theorem ZoS:Zs cx Zbt=some ZdR:=by kernel_rfl
theorem ZoT:Zs cx Zbu=some ZdS:=by kernel_rfl
theorem ZoU:Zs cx Zbv=some ZdT:=by kernel_rfl
theorem ZoV:Zs cx Zbw=some ZdU:=by kernel_rfl
theorem ZoW:Zs cx Zbx=some ZdV:=by kernel_rfl
theorem ZoX:Zs cx Zby=some ZdW:=by kernel_rfl
theorem ZoY:Zs cx Zbz=some ZdX:=by kernel_rfl
theorem ZoZ:Zs cx ZbA=some ZdY:=by kernel_rfl
theorem Zo_:Zs cx ZbB=some ZdZ:=by kernel_rfl
theorem Zp0:Zs cx ZbC=some Zd_:=by kernel_rfl
theorem Zp1:Zs cx ZbD=some Ze0:=by kernel_rfl
theorem Zp2:Zs cx ZbE=some Ze1:=by kernel_rfl
theorem Zp3:Zs cx ZbF=some Ze2:=by kernel_rfl
theorem Zp4:Zs cx ZbG=some Ze3:=by kernel_rfl
theorem Zp5:Zs cx ZbH=some Ze4:=by kernel_rfl
theorem Zp6:Zs cx ZbI=some Ze5:=by kernel_rfl
theorem Zp7:Zs cx ZbJ=some Ze6:=by kernel_rfl
theorem Zp8:Zs cx ZbK=some Ze7:=by kernel_rfl
theorem Zp9:Zs cx ZbL=some Ze8:=by kernel_rfl
theorem Zpa:Zs cx ZbM=some Ze9:=by kernel_rfl
theorem Zpb:Zs cx ZbN=some Zea:=by kernel_rfl
theorem Zpc:Zs cx ZbO=some Zeb:=by kernel_rfl
theorem Zpd:Zs cx ZbP=some Zec:=by kernel_rfl
theorem Zpe:Zs cx ZbQ=some Zed:=by kernel_rfl
end Go.Proofs.YtdgpohclhppodaaGreat
