/- Each function comes to its tree; no condition. -/
import Derived.Test.YtdgpohclhppodaaGreatSmTab0
namespace Go.Proofs.YtdgpohclhppodaaGreat
open Go Go.Sm Go.Sm.Q
set_option maxRecDepth 100000
theorem Zqc:Zs cx ZcO=some Zfb:=by kernel_rfl
theorem Zqd:Zs cx ZcP=some Zfc:=by kernel_rfl
theorem Zqe:Zs cx ZcQ=some Zfd:=by kernel_rfl
theorem Zqf:Zs cx ZcR=some Zfe:=by kernel_rfl
theorem Zqg:Zs cx ZcS=some Zff:=by kernel_rfl
theorem Zqh:Zs cx ZcT=some Zfg:=by kernel_rfl
theorem Zqi:Zs cx ZcU=some Zfh:=by kernel_rfl
theorem Zqj:Zs cx ZcV=some Zfi:=by kernel_rfl
theorem Zqk:Zs cx ZcW=some Zfj:=by kernel_rfl
theorem Zql:Zs cx ZcX=some Zfk:=by kernel_rfl
theorem Zqm:Zs cx ZcY=some Zfl:=by kernel_rfl
theorem Zqn:Zs cx ZcZ=some Zfm:=by kernel_rfl
theorem Zqo:Zs cx Zc_=some Zfn:=by kernel_rfl
theorem Zqp:Zs cx Zd0=some Zfo:=by kernel_rfl
theorem Zqq:Zs cx Zd1=some Zfp:=by kernel_rfl
theorem Zqr:Zs cx Zd2=some Zfq:=by kernel_rfl
theorem Zqs:Zs cx Zd3=some Zfr:=by kernel_rfl
theorem Zqt:Zs cx Zd4=some Zfs:=by kernel_rfl
theorem Zqu:Zs cx Zd5=some Zft:=by kernel_rfl
theorem Zqv:Zs cx Zd6=some Zfu:=by kernel_rfl
theorem Zqw:Zs cx Zd7=some Zfv:=by kernel_rfl
theorem Zqx:Zs cx Zd8=some Zfw:=by kernel_rfl
theorem Zqy:Zs cx Zd9=some Zfx:=by kernel_rfl
theorem Zqz:Zs cx Zda=some Zfy:=by kernel_rfl
theorem ZqA:Zs cx Zdb=some Zfz:=by kernel_rfl
theorem ZqB:Zs cx Zdc=some ZfA:=by kernel_rfl
theorem ZqC:Zs cx Zdd=some ZfB:=by kernel_rfl
theorem ZqD:Zs cx Zde=some ZfC:=by kernel_rfl
theorem ZqE:Zs cx Zdf=some ZfD:=by kernel_rfl
theorem ZqF:Zs cx Zdg=some ZfE:=by kernel_rfl
end Go.Proofs.YtdgpohclhppodaaGreat
