/- Each function comes to its tree; no condition. -/
import Derived.Test.YtknlennollmgeaaGreatSmTab0
namespace Go.Proofs.YtknlennollmgeaaGreat
open Go Go.Sm Go.Sm.Q
set_option maxRecDepth 100000
theorem ZlW:Zs cx Zbx=some Zdp:=by kernel_rfl
theorem ZlX:Zs cx Zby=some Zdq:=by kernel_rfl
theorem ZlY:Zs cx Zbz=some Zdr:=by kernel_rfl
theorem ZlZ:Zs cx ZbA=some Zds:=by kernel_rfl
theorem Zl_:Zs cx ZbB=some Zdt:=by kernel_rfl
theorem Zm0:Zs cx ZbC=some Zdu:=by kernel_rfl
theorem Zm1:Zs cx ZbD=some Zdv:=by kernel_rfl
theorem Zm2:Zs cx ZbE=some Zdw:=by kernel_rfl
theorem Zm3:Zs cx ZbF=some Zdx:=by kernel_rfl
theorem Zm4:Zs cx ZbG=some Zdy:=by kernel_rfl
theorem Zm5:Zs cx ZbH=some Zdz:=by kernel_rfl
theorem Zm6:Zs cx ZbI=some ZdA:=by kernel_rfl
theorem Zm7:Zs cx ZbJ=some ZdB:=by kernel_rfl
theorem Zm8:Zs cx ZbK=some ZdC:=by kernel_rfl
theorem Zm9:Zs cx ZbL=some ZdD:=by kernel_rfl
theorem Zma:Zs cx ZbM=some ZdE:=by kernel_rfl
theorem Zmb:Zs cx ZbN=some ZdF:=by kernel_rfl
theorem Zmc:Zs cx ZbO=some ZdG:=by kernel_rfl
theorem Zmd:Zs cx ZbP=some ZdH:=by kernel_rfl
theorem Zme:Zs cx ZbQ=some ZdI:=by kernel_rfl
theorem Zmf:Zs cx ZbR=some ZdJ:=by kernel_rfl
theorem Zmg:Zs cx ZbS=some ZdK:=by kernel_rfl
theorem Zmh:Zs cx ZbT=some ZdL:=by kernel_rfl
theorem Zmi:Zs cx ZbU=some ZdM:=by kernel_rfl
theorem Zmj:Zs cx ZbV=some ZdN:=by kernel_rfl
theorem Zmk:Zs cx ZbW=some ZdO:=by kernel_rfl
theorem Zml:Zs cx ZbX=some ZdP:=by kernel_rfl
theorem Zmm:Zs cx ZbY=some ZdQ:=by kernel_rfl
theorem Zmn:Zs cx ZbZ=some ZdR:=by kernel_rfl
theorem Zmo:Zs cx Zb_=some ZdS:=by kernel_rfl
end Go.Proofs.YtknlennollmgeaaGreat
