/- Each function comes to its tree; no condition. -/
import Derived.Test.YtdgpohclhppodaaGreatSmTab0
namespace Go.Proofs.YtdgpohclhppodaaGreat
open Go Go.Sm Go.Sm.Q
set_option maxRecDepth 100000
theorem ZqG:Zs cx Zdh=some ZfF:=by kernel_rfl
theorem ZqH:Zs cx Zdi=some ZfG:=by kernel_rfl
theorem ZqI:Zs cx Zdj=some ZfH:=by kernel_rfl
theorem ZqJ:Zs cx Zdk=some ZfI:=by kernel_rfl
theorem ZqK:Zs cx Zdl=some ZfJ:=by kernel_rfl
theorem ZqL:Zs cx Zdm=some ZfK:=by kernel_rfl
theorem ZqM:Zs cx Zdn=some ZfL:=by kernel_rfl
theorem ZqN:Zs cx Zdo=some ZfM:=by kernel_rfl
theorem ZqO:Zs cx Zdp=some ZfN:=by kernel_rfl
theorem ZqP:Zs cx Zdq=some ZfO:=by kernel_rfl
theorem ZqQ:Zs cx Zdr=some ZfP:=by kernel_rfl
theorem ZqR:Zs cx Zds=some ZfQ:=by kernel_rfl
theorem ZqS:Zs cx Zdt=some ZfR:=by kernel_rfl
theorem ZqT:Zs cx Zdu=some ZfS:=by kernel_rfl
theorem ZqU:Zs cx Zdv=some ZfT:=by kernel_rfl
theorem ZqV:Zs cx Zdw=some ZfU:=by kernel_rfl
theorem ZqW:Zs cx Zdx=some ZfV:=by kernel_rfl
theorem ZqX:Zs cx Zdy=some ZfW:=by kernel_rfl
theorem ZqY:Zs cx Zdz=some ZfX:=by kernel_rfl
theorem ZqZ:Zs cx ZdA=some ZfY:=by kernel_rfl
theorem Zq_:Zs cx ZdB=some ZfZ:=by kernel_rfl
theorem Zr0:Zs cx ZdC=some Zf_:=by kernel_rfl
theorem Zr1:Zs cx ZdD=some Zg0:=by kernel_rfl
theorem Zr2:Zs cx ZdE=some Zg1:=by kernel_rfl
theorem Zr3:Zs cx ZdF=some Zg2:=by kernel_rfl
theorem Zr4:Zs cx ZdG=some Zg3:=by kernel_rfl
theorem Zr5:Zs cx ZdH=some Zg4:=by kernel_rfl
theorem Zr6:Zs cx ZdI=some Zg5:=by kernel_rfl
end Go.Proofs.YtdgpohclhppodaaGreat
