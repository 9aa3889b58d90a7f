/- Each function comes to its tree; no condition. -/
import Derived.Test.YtknlennollmgeaaGreatSmTab0
namespace Go.Proofs.YtknlennollmgeaaGreat
open Go Go.Sm Go.Sm.Q
set_option maxRecDepth 100000
theorem Zn6:Zq cx Zc2=some Zd_:=by kernel_rfl
theorem Zn7:Zq cx Zc3=some Ze0:=by kernel_rfl
theorem Zn8:Zq cx Zc4=some Ze1:=by kernel_rfl
theorem Zn9:Zq cx Zc5=some Ze2:=by kernel_rfl
theorem Zna:Zq cx Zc6=some Ze3:=by kernel_rfl
theorem Znb:Zq cx Zc7=some Ze4:=by kernel_rfl
theorem Znc:Zq cx Zc8=some Ze5:=by kernel_rfl
theorem Znd:Zq cx Zc9=some Ze6:=by kernel_rfl
theorem Zne:Zq cx Zca=some Ze7:=by kernel_rfl
theorem Znf:Zq cx Zcb=some Ze8:=by kernel_rfl
theorem Zng:Zq cx Zcc=some Ze9:=by kernel_rfl
theorem Znh:Zq cx Zcd=some Zea:=by kernel_rfl
theorem Zni:Zq cx Zce=some Zeb:=by kernel_rfl
theorem Znj:Zq cx Zcf=some Zec:=by kernel_rfl
theorem Znk:Zq cx Zcg=some Zed:=by kernel_rfl
theorem Znl:Zq cx Zch=some Zee:=by kernel_rfl
theorem Znm:Zq cx Zci=some Zef:=by kernel_rfl
theorem Znn:Zq cx Zcj=some Zeg:=by kernel_rfl
theorem Zno:Zq cx Zck=some Zeh:=by kernel_rfl
theorem Znp:Zq cx Zcl=some Zei:=by kernel_rfl
theorem Znq:Zq cx Zcm=some Zej:=by kernel_rfl
theorem Znr:Zq cx Zcn=some Zek:=by kernel_rfl
theorem Zns:Zq cx ZG=some Zel:=by kernel_rfl
theorem Znt:Zq cx Zco=some Zem:=by kernel_rfl
theorem Znu:Zq cx Zcp=some Zen:=by kernel_rfl
theorem Znv:Zq cx Zcq=some Zeo:=by kernel_rfl
theorem Znw:Zq cx Zcr=some Zep:=by kernel_rfl
theorem Znx:Zq cx Zcs=some Zeq:=by kernel_rfl
theorem Zny:Zq cx Zct=some Zer:=by kernel_rfl
theorem Znz:Zq cx Zcu=some Zes:=by kernel_rfl
end Go.Proofs.YtknlennollmgeaaGreat
