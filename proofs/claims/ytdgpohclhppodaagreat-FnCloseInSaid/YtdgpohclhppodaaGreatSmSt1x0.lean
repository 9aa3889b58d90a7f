/- Each function comes to its tree; no condition. -/
import Derived.Test.YtdgpohclhppodaaGreatSmTab0
namespace Go.Proofs.YtdgpohclhppodaaGreat
open Go Go.Sm Go.Sm.Q
set_option maxRecDepth 100000
theorem Zpf:Zs cx ZbR=some Zee:=by kernel_rfl
theorem Zpg:Zs cx ZbS=some Zef:=by kernel_rfl
theorem Zph:Zs cx ZbT=some Zeg:=by kernel_rfl
theorem Zpi:Zs cx ZbU=some Zeh:=by kernel_rfl
theorem Zpj:Zs cx ZbV=some Zei:=by kernel_rfl
theorem Zpk:Zs cx ZbW=some Zej:=by kernel_rfl
theorem Zpl:Zs cx ZbX=some Zek:=by kernel_rfl
theorem Zpm:Zs cx ZbY=some Zel:=by kernel_rfl
theorem Zpn:Zs cx ZbZ=some Zem:=by kernel_rfl
theorem Zpo:Zs cx Zb_=some Zen:=by kernel_rfl
theorem Zpp:Zs cx Zc0=some Zeo:=by kernel_rfl
theorem Zpq:Zs cx Zc1=some Zep:=by kernel_rfl
theorem Zpr:Zs cx Zc2=some Zeq:=by kernel_rfl
theorem Zps:Zs cx Zc3=some Zer:=by kernel_rfl
theorem Zpt:Zs cx Zc4=some Zes:=by kernel_rfl
theorem Zpu:Zs cx Zc5=some Zet:=by kernel_rfl
theorem Zpv:Zs cx Zc6=some Zeu:=by kernel_rfl
theorem Zpw:Zs cx Zc7=some Zev:=by kernel_rfl
theorem Zpx:Zs cx Zc8=some Zew:=by kernel_rfl
theorem Zpy:Zs cx Zc9=some Zex:=by kernel_rfl
theorem Zpz:Zs cx Zca=some Zey:=by kernel_rfl
theorem ZpA:Zs cx Zcb=some Zez:=by kernel_rfl
theorem ZpB:Zs cx Zcc=some ZeA:=by kernel_rfl
theorem ZpC:Zs cx Zcd=some ZeB:=by kernel_rfl
theorem ZpD:Zs cx Zce=some ZeC:=by kernel_rfl
theorem ZpE:Zs cx Zcf=some ZeD:=by kernel_rfl
theorem ZpF:Zs cx Zcg=some ZeE:=by kernel_rfl
theorem ZpG:Zs cx Zch=some ZeF:=by kernel_rfl
theorem ZpH:Zs cx Zci=some ZeG:=by kernel_rfl
theorem ZpI:Zs cx Zcj=some ZeH:=by kernel_rfl
end Go.Proofs.YtdgpohclhppodaaGreat
