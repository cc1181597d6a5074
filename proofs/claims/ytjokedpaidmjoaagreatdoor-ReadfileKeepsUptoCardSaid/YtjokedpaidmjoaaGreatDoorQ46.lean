/- A part of the proof. -/
import Derived.Test.YtjokedpaidmjoaaGreatDoorQ44
import Derived.Test.YtjokedpaidmjoaaGreatDoorQ45
set_option linter.all false
namespace Go.Proofs.YtjokedpaidmjoaaGreatDoor.Rf
open Go Go.RowKit Go.Proofs.YtjokedpaidmjoaaGreatDoor.Am Go.Proofs.YtjokedpaidmjoaaGreatDoor.Pu Go.Proofs.YtjokedpaidmjoaaGreatDoor
attribute [local go_sem] areg aseq gstep gwant astep apick aop aslice alen aappend aappendS aconvS aconvB unw opTmps opnds tmpsOf aev Am.get ofConst ofConst1 putT strip abin aun initT AThen AIn ws_n ws_r ws_e ws_g aw_seq aw_reg aw_draw aw_cond aw_block aw_skip aw_ret aw_exit aw_goto aw_label aw_loop aw_scope ANoGoto AJ ares oneOr bound asInt fieldOf ldv setSeg AV.cells AV.whole AV.cell tys Ty.agg ty9 ty3 ty2 ty5 ty4 ty89 ty21 ty37 ty46 ty83 ty73 ty81 ty41 ty23 ty25 ty27 ty28 ty48 ty65 ty38 ty67 ty88 afill zeroRow litGet litCells adraw awit adchk pchk qchk gchk looks restr tfin Has hat_z hat_s hat_len hat_appL hat_appN hat_appK hat_setS hat_setN set_appL set_appN set_appK box_t bn aD aG aH aI ax aJ row_t bq aK ay aM row_one aN
attribute [local go_sem] aQ bu aR aT aU keepT tysB
attribute [local go_sem] C14_ty C14_fn C14_ext C14_eqt s14_n bG eqs7 leqs ceq Am.fits
attribute [local go_sem] List.set_set
set_option maxRecDepth 10000
theorem s14_can:eT 16=none:=rfl
theorem s14_same:eT 12=none:=rfl
theorem s14_parse:eT 11=none:=rfl
theorem e7_can:ext7 16=none:=rfl
theorem e7_same:ext7 12=none:=rfl
theorem e7_parse:ext7 11=none:=rfl
attribute [local go_sem] s14_can s14_same s14_parse e7_can e7_same e7_parse
end Go.Proofs.YtjokedpaidmjoaaGreatDoor.Rf
