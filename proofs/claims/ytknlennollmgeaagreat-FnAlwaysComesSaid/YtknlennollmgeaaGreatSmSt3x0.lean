/- Each function comes to its tree; no condition. -/
import Derived.Test.YtknlennollmgeaaGreatSmTab0
namespace Go.Proofs.YtknlennollmgeaaGreat
open Go Go.Sm Go.Sm.Q
set_option maxRecDepth 100000
theorem Zoj:Zm cx ZcY=some ZeW:=by kernel_rfl
theorem Zok:Zm cx ZcZ=some ZeX:=by kernel_rfl
theorem Zol:Zm cx Zc_=some ZeY:=by kernel_rfl
theorem Zom:Zm cx Zd0=some ZeZ:=by kernel_rfl
theorem Zon:Zm cx Zd1=some Ze_:=by kernel_rfl
theorem Zoo:Zm cx Zd2=some Zf0:=by kernel_rfl
theorem Zop:Zm cx Zd3=some Zf1:=by kernel_rfl
theorem Zoq:Zm cx Zd4=some Zf2:=by kernel_rfl
theorem Zor:Zm cx Zd5=some Zf3:=by kernel_rfl
theorem Zos:Zm cx Zd6=some Zf4:=by kernel_rfl
theorem Zot:Zm cx Zd7=some Zf5:=by kernel_rfl
theorem Zou:Zm cx Zd8=some Zf6:=by kernel_rfl
theorem Zov:Zm cx Zd9=some Zf7:=by kernel_rfl
theorem Zow:Zm cx Zda=some Zf8:=by kernel_rfl
theorem Zox:Zm cx Zdb=some Zf9:=by kernel_rfl
theorem Zoy:Zm cx Zdc=some Zfa:=by kernel_rfl
theorem Zoz:Zm cx Zdd=some Zfb:=by kernel_rfl
theorem ZoA:Zm cx Zde=some Zfc:=by kernel_rfl
theorem ZoB:Zm cx Zdf=some Zfd:=by kernel_rfl
theorem ZoC:Zm cx Zdg=some Zfe:=by kernel_rfl
theorem ZoD:Zm cx Zdh=some Zff:=by kernel_rfl
theorem ZoE:Zm cx Zdi=some Zfg:=by kernel_rfl
theorem ZoF:Zm cx Zdj=some Zfh:=by kernel_rfl
theorem ZoG:Zm cx Zdk=some Zfi:=by kernel_rfl
theorem ZoH:Zm cx Zdl=some Zfj:=by kernel_rfl
theorem ZoI:Zm cx Zdm=some Zfk:=by kernel_rfl
theorem ZoJ:Zm cx Zdn=some Zfl:=by kernel_rfl
theorem ZoK:Zm cx Zdo=some Zfm:=by kernel_rfl
theorem ZoL:Zm cx Zdp=some Zfn:=by kernel_rfl
theorem ZoM:Zm cx Zdq=some Zfo:=by kernel_rfl
end Go.Proofs.YtknlennollmgeaaGreat
