/- Each function comes to its tree; no condition. -/
import Derived.Test.YtknlennollmgeaaGreatSmTab0
namespace Go.Proofs.YtknlennollmgeaaGreat
open Go Go.Sm Go.Sm.Q
set_option maxRecDepth 100000
theorem Znm:Zm cx Zc1=some ZdZ:=by kernel_rfl
theorem Znn:Zm cx Zc2=some Zd_:=by kernel_rfl
theorem Zno:Zm cx Zc3=some Ze0:=by kernel_rfl
theorem Znp:Zm cx Zc4=some Ze1:=by kernel_rfl
theorem Znq:Zm cx Zc5=some Ze2:=by kernel_rfl
theorem Znr:Zm cx Zc6=some Ze3:=by kernel_rfl
theorem Zns:Zm cx Zc7=some Ze4:=by kernel_rfl
theorem Znt:Zm cx Zc8=some Ze5:=by kernel_rfl
theorem Znu:Zm cx Zc9=some Ze6:=by kernel_rfl
theorem Znv:Zm cx Zca=some Ze7:=by kernel_rfl
theorem Znw:Zm cx Zcb=some Ze8:=by kernel_rfl
theorem Znx:Zm cx Zcc=some Ze9:=by kernel_rfl
theorem Zny:Zm cx Zcd=some Zea:=by kernel_rfl
theorem Znz:Zm cx Zce=some Zeb:=by kernel_rfl
theorem ZnA:Zm cx Zcf=some Zec:=by kernel_rfl
theorem ZnB:Zm cx Zcg=some Zed:=by kernel_rfl
theorem ZnC:Zm cx Zch=some Zee:=by kernel_rfl
theorem ZnD:Zm cx Zci=some Zef:=by kernel_rfl
theorem ZnE:Zm cx Zcj=some Zeg:=by kernel_rfl
theorem ZnF:Zm cx Zck=some Zeh:=by kernel_rfl
theorem ZnG:Zm cx Zcl=some Zei:=by kernel_rfl
theorem ZnH:Zm cx Zcm=some Zej:=by kernel_rfl
theorem ZnI:Zm cx Zcn=some Zek:=by kernel_rfl
theorem ZnJ:Zm cx Zco=some Zel:=by kernel_rfl
theorem ZnK:Zm cx Zcp=some Zem:=by kernel_rfl
theorem ZnL:Zm cx Zcq=some Zen:=by kernel_rfl
theorem ZnM:Zm cx Zcr=some Zeo:=by kernel_rfl
theorem ZnN:Zm cx Zcs=some Zep:=by kernel_rfl
theorem ZnO:Zm cx Zct=some Zeq:=by kernel_rfl
theorem ZnP:Zm cx Zcu=some Zer:=by kernel_rfl
end Go.Proofs.YtknlennollmgeaaGreat
