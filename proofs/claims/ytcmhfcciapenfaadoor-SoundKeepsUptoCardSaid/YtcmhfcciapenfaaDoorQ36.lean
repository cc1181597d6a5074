/- A part of the proof. -/
import Derived.Test.YtcmhfcciapenfaaDoorQ35
set_option linter.all false
namespace Go.Proofs.YtcmhfcciapenfaaDoor.Pa
open Go Go.RowKit Go.Proofs.YtcmhfcciapenfaaDoorW.PrintWords Am
attribute [local go_sem] areg aseq gstep astep apick aop aslice alen aappend unw opTmps opnds tmpsOf aev Am.get ofConst ofConst1 putT strip abin aun initT AThen AIn ares oneOr bound asInt fieldOf ldv boxBlk setSeg Blk.put AV.cells AV.whole AV.cell tys ty33 ty26 ty41 ty28 ty45 ty29 ty48 ty70 ty49 ty3 ty2 ty4 ty9 ty35 Ty.agg ty27 ty43 ty46 afill zeroRow newRowBlk litGet appBlk litCells
attribute [local go_sem] adraw awit adchk pchk qchk gchk looks restr tfin
attribute [local go_sem] dX holBlk dY dZ stpBlk seaV holV winV blkV stpV Has hget hget0 hat_z hat_s specs9 tarV_all tarV_len tarV_take tarV_15 tarV_16 tarV_17 tarV_18
attribute [local go_sem] C9_ty C9_fn
set_option maxRecDepth 10000
theorem tarIn_mk (t:Tar) (L:Heap):TarIn t (tarH t ++ L) where
 g0 X:=rfl
 g1 X:=rfl
 g2 X:=rfl
 g3 X:=rfl
 g4 X i s h:=by
  unfold hat
  rw[List.append_assoc,List.getElem?_append_left (by have:=(List.getElem?_eq_some_iff.1 h).1;simp[tarH];omega)]
  simp[tarH,h]
end Go.Proofs.YtcmhfcciapenfaaDoor.Pa
