/- Each function comes to its tree; no condition. -/
import Derived.Test.YtknlennollmgeaaGreatSmTab0
namespace Go.Proofs.YtknlennollmgeaaGreat
open Go Go.Sm Go.Sm.Q
set_option maxRecDepth 100000
theorem Zls:Zs cx Zb3=some ZcW:=by kernel_rfl
theorem Zlt:Zs cx Zb4=some ZcX:=by kernel_rfl
theorem Zlu:Zs cx Zb5=some ZcY:=by kernel_rfl
theorem Zlv:Zs cx Zb6=some ZcZ:=by kernel_rfl
theorem Zlw:Zs cx Zb7=some Zc_:=by kernel_rfl
theorem Zlx:Zs cx Zb8=some Zd0:=by kernel_rfl
theorem Zly:Zs cx Zb9=some Zd1:=by kernel_rfl
theorem Zlz:Zs cx Zba=some Zd2:=by kernel_rfl
theorem ZlA:Zs cx Zbb=some Zd3:=by kernel_rfl
theorem ZlB:Zs cx Zbc=some Zd4:=by kernel_rfl
theorem ZlC:Zs cx Zbd=some Zd5:=by kernel_rfl
theorem ZlD:Zs cx Zbe=some Zd6:=by kernel_rfl
theorem ZlE:Zs cx Zbf=some Zd7:=by kernel_rfl
theorem ZlF:Zs cx Zbg=some Zd8:=by kernel_rfl
theorem ZlG:Zs cx Zbh=some Zd9:=by kernel_rfl
theorem ZlH:Zs cx Zbi=some Zda:=by kernel_rfl
theorem ZlI:Zs cx Zbj=some Zdb:=by kernel_rfl
theorem ZlJ:Zs cx Zbk=some Zdc:=by kernel_rfl
theorem ZlK:Zs cx Zbl=some Zdd:=by kernel_rfl
theorem ZlL:Zs cx Zbm=some Zde:=by kernel_rfl
theorem ZlM:Zs cx Zbn=some Zdf:=by kernel_rfl
theorem ZlN:Zs cx Zbo=some Zdg:=by kernel_rfl
theorem ZlO:Zs cx Zbp=some Zdh:=by kernel_rfl
theorem ZlP:Zs cx Zbq=some Zdi:=by kernel_rfl
theorem ZlQ:Zs cx Zbr=some Zdj:=by kernel_rfl
theorem ZlR:Zs cx Zbs=some Zdk:=by kernel_rfl
theorem ZlS:Zs cx Zbt=some Zdl:=by kernel_rfl
theorem ZlT:Zs cx Zbu=some Zdm:=by kernel_rfl
theorem ZlU:Zs cx Zbv=some Zdn:=by kernel_rfl
theorem ZlV:Zs cx Zbw=some Zdo:=by kernel_rfl
end Go.Proofs.YtknlennollmgeaaGreat
