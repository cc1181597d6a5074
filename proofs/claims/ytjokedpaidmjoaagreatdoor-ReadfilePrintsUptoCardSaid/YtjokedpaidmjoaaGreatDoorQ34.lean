/- A part of the proof. -/
import Derived.Test.YtjokedpaidmjoaaGreatDoorQ33
set_option linter.all false
namespace Go.Proofs.YtjokedpaidmjoaaGreatDoor.Rf
open Go Go.RowKit Go.Proofs.YtjokedpaidmjoaaGreatDoor.Am Go.Proofs.YtjokedpaidmjoaaGreatDoor.Pu Go.Proofs.YtjokedpaidmjoaaGreatDoor
attribute [local go_sem] areg aseq gstep gwant astep apick aop aslice alen aappend aappendS aconvS aconvB unw opTmps opnds tmpsOf aev Am.get ofConst ofConst1 putT strip abin aun initT AThen AIn ws_n ws_r ws_e ws_g aw_seq aw_reg aw_draw aw_cond aw_block aw_skip aw_ret aw_exit aw_goto aw_label aw_loop aw_scope ANoGoto AJ ares oneOr bound asInt fieldOf ldv setSeg AV.cells AV.whole AV.cell tys Ty.agg ty9 ty3 ty2 ty5 ty4 ty89 ty21 ty37 ty46 ty83 ty73 ty81 ty41 ty23 ty25 ty27 ty28 ty48 afill zeroRow litGet litCells adraw awit adchk pchk qchk gchk looks restr tfin Has hat_z hat_s hat_len hat_appL hat_appN hat_appK hat_setS hat_setN set_appL set_appN set_appK box_t bu aD aG aH aI ax aJ row_t bz aK aC aM row_one aN
attribute [local go_sem] aY bA aQ aR aT
attribute [local go_sem] C10_ty C10_fn fq fu s10_text s10_at bL
attribute [local go_sem] List.set_set
set_option maxRecDepth 10000
def rtCol (ws:List ByteArray) (f:Fi):Int:=
 if ((wAt ws 1).toList == (txt f.reads.length).toList)=false then colP ws 1
 else if (decide ((sumR (sumL f.reads)).2=0) && ((wAt ws 2).toList == (txt (sumR (sumL f.reads)).1).toList))=false then colP ws 2
 else 0
end Go.Proofs.YtjokedpaidmjoaaGreatDoor.Rf
