/- Each function comes to its tree; no condition. -/
import Derived.Test.YtknlennollmgeaaGreatSmTab0
namespace Go.Proofs.YtknlennollmgeaaGreat
open Go Go.Sm Go.Sm.Q
set_option maxRecDepth 100000
theorem Zmp:Zs cx Zc0=some ZdT:=by kernel_rfl
theorem Zmq:Zs cx Zc1=some ZdU:=by kernel_rfl
theorem Zmr:Zs cx Zc2=some ZdV:=by kernel_rfl
theorem Zms:Zs cx Zc3=some ZdW:=by kernel_rfl
theorem Zmt:Zs cx Zc4=some ZdX:=by kernel_rfl
theorem Zmu:Zs cx Zc5=some ZdY:=by kernel_rfl
theorem Zmv:Zs cx Zc6=some ZdZ:=by kernel_rfl
theorem Zmw:Zs cx Zc7=some Zd_:=by kernel_rfl
theorem Zmx:Zs cx Zc8=some Ze0:=by kernel_rfl
theorem Zmy:Zs cx Zc9=some Ze1:=by kernel_rfl
theorem Zmz:Zs cx Zca=some Ze2:=by kernel_rfl
theorem ZmA:Zs cx Zcb=some Ze3:=by kernel_rfl
theorem ZmB:Zs cx Zcc=some Ze4:=by kernel_rfl
theorem ZmC:Zs cx Zcd=some Ze5:=by kernel_rfl
theorem ZmD:Zs cx Zce=some Ze6:=by kernel_rfl
theorem ZmE:Zs cx Zcf=some Ze7:=by kernel_rfl
theorem ZmF:Zs cx Zcg=some Ze8:=by kernel_rfl
theorem ZmG:Zs cx Zch=some Ze9:=by kernel_rfl
theorem ZmH:Zs cx Zci=some Zea:=by kernel_rfl
theorem ZmI:Zs cx Zcj=some Zeb:=by kernel_rfl
theorem ZmJ:Zs cx Zck=some Zec:=by kernel_rfl
theorem ZmK:Zs cx Zcl=some Zed:=by kernel_rfl
theorem ZmL:Zs cx Zcm=some Zee:=by kernel_rfl
theorem ZmM:Zs cx Zcn=some Zef:=by kernel_rfl
theorem ZmN:Zs cx Zco=some Zeg:=by kernel_rfl
theorem ZmO:Zs cx Zcp=some Zeh:=by kernel_rfl
theorem ZmP:Zs cx ZJ=some Zei:=by kernel_rfl
theorem ZmQ:Zs cx Zcq=some Zej:=by kernel_rfl
theorem ZmR:Zs cx Zcr=some Zek:=by kernel_rfl
theorem ZmS:Zs cx Zcs=some Zel:=by kernel_rfl
end Go.Proofs.YtknlennollmgeaaGreat
