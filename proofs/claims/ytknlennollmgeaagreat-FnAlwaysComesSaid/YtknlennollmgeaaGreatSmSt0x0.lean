/- Each function comes to its tree; no condition. -/
import Derived.Test.YtknlennollmgeaaGreatSmTab0
namespace Go.Proofs.YtknlennollmgeaaGreat
open Go Go.Sm Go.Sm.Q
set_option maxRecDepth 100000
theorem ZmT:Zm cx Zby=some Zdv:=by kernel_rfl
theorem ZmU:Zm cx Zbz=some Zdw:=by kernel_rfl
theorem ZmV:Zm cx ZbA=some Zdx:=by kernel_rfl
theorem ZmW:Zm cx ZbB=some Zdy:=by kernel_rfl
theorem ZmX:Zm cx ZbC=some Zdz:=by kernel_rfl
theorem ZmY:Zm cx ZbD=some ZdA:=by kernel_rfl
theorem ZmZ:Zm cx ZbE=some ZdB:=by kernel_rfl
theorem Zm_:Zm cx ZbF=some ZdC:=by kernel_rfl
theorem Zn0:Zm cx ZbG=some ZdD:=by kernel_rfl
theorem Zn1:Zm cx ZbH=some ZdE:=by kernel_rfl
theorem Zn2:Zm cx ZbI=some ZdF:=by kernel_rfl
theorem Zn3:Zm cx ZbJ=some ZdG:=by kernel_rfl
theorem Zn4:Zm cx ZbK=some ZdH:=by kernel_rfl
theorem Zn5:Zm cx ZbL=some ZdI:=by kernel_rfl
theorem Zn6:Zm cx ZbM=some ZdJ:=by kernel_rfl
theorem Zn7:Zm cx ZbN=some ZdK:=by kernel_rfl
theorem Zn8:Zm cx ZbO=some ZdL:=by kernel_rfl
theorem Zn9:Zm cx ZbP=some ZdM:=by kernel_rfl
theorem Zna:Zm cx ZbQ=some ZdN:=by kernel_rfl
theorem Znb:Zm cx ZbR=some ZdO:=by kernel_rfl
theorem Znc:Zm cx ZbS=some ZdP:=by kernel_rfl
theorem Znd:Zm cx ZbT=some ZdQ:=by kernel_rfl
theorem Zne:Zm cx ZbU=some ZdR:=by kernel_rfl
theorem Znf:Zm cx ZbV=some ZdS:=by kernel_rfl
theorem Zng:Zm cx ZbW=some ZdT:=by kernel_rfl
theorem Znh:Zm cx ZbX=some ZdU:=by kernel_rfl
theorem Zni:Zm cx ZbY=some ZdV:=by kernel_rfl
theorem Znj:Zm cx ZbZ=some ZdW:=by kernel_rfl
theorem Znk:Zm cx Zb_=some ZdX:=by kernel_rfl
theorem Znl:Zm cx Zc0=some ZdY:=by kernel_rfl
end Go.Proofs.YtknlennollmgeaaGreat
