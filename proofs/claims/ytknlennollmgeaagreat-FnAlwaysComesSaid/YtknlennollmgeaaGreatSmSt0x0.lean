/- Each function comes to its tree; no condition. -/
import Derived.Test.YtknlennollmgeaaGreatSmTab0
namespace Go.Proofs.YtknlennollmgeaaGreat
open Go Go.Sm Go.Sm.Q
set_option maxRecDepth 100000
theorem Zm9:Zq cx Zb5=some Zd2:=by kernel_rfl
theorem Zma:Zq cx Zb6=some Zd3:=by kernel_rfl
theorem Zmb:Zq cx Zb7=some Zd4:=by kernel_rfl
theorem Zmc:Zq cx Zb8=some Zd5:=by kernel_rfl
theorem Zmd:Zq cx Zb9=some Zd6:=by kernel_rfl
theorem Zme:Zq cx Zba=some Zd7:=by kernel_rfl
theorem Zmf:Zq cx Zbb=some Zd8:=by kernel_rfl
theorem Zmg:Zq cx Zbc=some Zd9:=by kernel_rfl
theorem Zmh:Zq cx Zbd=some Zda:=by kernel_rfl
theorem Zmi:Zq cx Zbe=some Zdb:=by kernel_rfl
theorem Zmj:Zq cx Zbf=some Zdc:=by kernel_rfl
theorem Zmk:Zq cx Zbg=some Zdd:=by kernel_rfl
theorem Zml:Zq cx Zbh=some Zde:=by kernel_rfl
theorem Zmm:Zq cx Zbi=some Zdf:=by kernel_rfl
theorem Zmn:Zq cx Zbj=some Zdg:=by kernel_rfl
theorem Zmo:Zq cx Zbk=some Zdh:=by kernel_rfl
theorem Zmp:Zq cx Zbl=some Zdi:=by kernel_rfl
theorem Zmq:Zq cx Zbm=some Zdj:=by kernel_rfl
theorem Zmr:Zq cx Zbn=some Zdk:=by kernel_rfl
theorem Zms:Zq cx Zbo=some Zdl:=by kernel_rfl
theorem Zmt:Zq cx Zbp=some Zdm:=by kernel_rfl
theorem Zmu:Zq cx Zbq=some Zdn:=by kernel_rfl
theorem Zmv:Zq cx Zbr=some Zdo:=by kernel_rfl
theorem Zmw:Zq cx Zbs=some Zdp:=by kernel_rfl
theorem Zmx:Zq cx Zbt=some Zdq:=by kernel_rfl
theorem Zmy:Zq cx Zbu=some Zdr:=by kernel_rfl
theorem Zmz:Zq cx Zbv=some Zds:=by kernel_rfl
theorem ZmA:Zq cx Zbw=some Zdt:=by kernel_rfl
theorem ZmB:Zq cx Zbx=some Zdu:=by kernel_rfl
theorem ZmC:Zq cx Zby=some Zdv:=by kernel_rfl
end Go.Proofs.YtknlennollmgeaaGreat
