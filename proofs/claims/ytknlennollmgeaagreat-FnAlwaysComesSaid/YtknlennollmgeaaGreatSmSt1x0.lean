/- Each function comes to its tree; no condition. -/
import Derived.Test.YtknlennollmgeaaGreatSmTab0
namespace Go.Proofs.YtknlennollmgeaaGreat
open Go Go.Sm Go.Sm.Q
set_option maxRecDepth 100000
theorem ZmD:Zq cx Zbz=some Zdw:=by kernel_rfl
theorem ZmE:Zq cx ZbA=some Zdx:=by kernel_rfl
theorem ZmF:Zq cx ZbB=some Zdy:=by kernel_rfl
theorem ZmG:Zq cx ZbC=some Zdz:=by kernel_rfl
theorem ZmH:Zq cx ZbD=some ZdA:=by kernel_rfl
theorem ZmI:Zq cx ZbE=some ZdB:=by kernel_rfl
theorem ZmJ:Zq cx ZbF=some ZdC:=by kernel_rfl
theorem ZmK:Zq cx ZbG=some ZdD:=by kernel_rfl
theorem ZmL:Zq cx ZbH=some ZdE:=by kernel_rfl
theorem ZmM:Zq cx ZbI=some ZdF:=by kernel_rfl
theorem ZmN:Zq cx ZbJ=some ZdG:=by kernel_rfl
theorem ZmO:Zq cx ZbK=some ZdH:=by kernel_rfl
theorem ZmP:Zq cx ZbL=some ZdI:=by kernel_rfl
theorem ZmQ:Zq cx ZbM=some ZdJ:=by kernel_rfl
theorem ZmR:Zq cx ZbN=some ZdK:=by kernel_rfl
theorem ZmS:Zq cx ZbO=some ZdL:=by kernel_rfl
theorem ZmT:Zq cx ZbP=some ZdM:=by kernel_rfl
theorem ZmU:Zq cx ZbQ=some ZdN:=by kernel_rfl
theorem ZmV:Zq cx ZbR=some ZdO:=by kernel_rfl
theorem ZmW:Zq cx ZbS=some ZdP:=by kernel_rfl
theorem ZmX:Zq cx ZbT=some ZdQ:=by kernel_rfl
theorem ZmY:Zq cx ZbU=some ZdR:=by kernel_rfl
theorem ZmZ:Zq cx ZbV=some ZdS:=by kernel_rfl
theorem Zm_:Zq cx ZbW=some ZdT:=by kernel_rfl
theorem Zn0:Zq cx ZbX=some ZdU:=by kernel_rfl
theorem Zn1:Zq cx ZbY=some ZdV:=by kernel_rfl
theorem Zn2:Zq cx ZbZ=some ZdW:=by kernel_rfl
theorem Zn3:Zq cx Zb_=some ZdX:=by kernel_rfl
theorem Zn4:Zq cx Zc0=some ZdY:=by kernel_rfl
theorem Zn5:Zq cx Zc1=some ZdZ:=by kernel_rfl
end Go.Proofs.YtknlennollmgeaaGreat
