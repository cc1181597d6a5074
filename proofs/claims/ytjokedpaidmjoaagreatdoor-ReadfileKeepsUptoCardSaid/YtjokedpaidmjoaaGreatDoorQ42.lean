/- A part of the proof. -/
import Derived.Test.YtjokedpaidmjoaaGreatDoorQ41
set_option linter.all false
namespace Go.Proofs.YtjokedpaidmjoaaGreatDoor.Rf
open Go Go.RowKit Go.Proofs.YtjokedpaidmjoaaGreatDoor.Am Go.Proofs.YtjokedpaidmjoaaGreatDoor.Pu Go.Proofs.YtjokedpaidmjoaaGreatDoor
attribute [local go_sem] areg aseq gstep gwant astep apick aop aslice alen aappend aappendS aconvS aconvB unw opTmps opnds tmpsOf aev Am.get ofConst ofConst1 putT strip abin aun initT AThen AIn ws_n ws_r ws_e ws_g aw_seq aw_reg aw_draw aw_cond aw_block aw_skip aw_ret aw_exit aw_goto aw_label aw_loop aw_scope ANoGoto AJ ares oneOr bound asInt fieldOf ldv setSeg AV.cells AV.whole AV.cell tys Ty.agg ty9 ty3 ty2 ty5 ty4 ty89 ty21 ty37 ty46 ty83 ty73 ty81 ty41 ty23 ty25 ty27 ty28 ty48 ty65 ty38 ty67 ty88 afill zeroRow litGet litCells adraw awit adchk pchk qchk gchk looks restr tfin Has hat_z hat_s hat_len hat_appL hat_appN hat_appK hat_setS hat_setN set_appL set_appN set_appK box_t bn aD aG aH aI ax aJ row_t bq aK ay aM row_one aN
attribute [local go_sem] aQ bu aR aT aU keepT tysB
attribute [local go_sem] C13_ty C13_fn C13_ext C13_eqt
attribute [local go_sem] List.set_set
set_option maxRecDepth 10000
theorem s13_rname:bS 49=some dB:=rfl
theorem s13_rstep:bS 52=some cu:=rfl
theorem s13_rtext:bS 53=some bG:=rfl
attribute [local go_sem] s13_rname s13_rstep s13_rtext dB cu bG
theorem spN_ok:SpecOk Tryz.prog 37 bG:=by
 refine⟨⟨Tryz.f37,Tryz.func37,by kernel_rfl,by kernel_rfl⟩,fun args H v H1 ob h hob=>?_⟩
 unfold bG at h
 split at h
 ·cases h
  refine acalls_ofN (C:=C13) (nt:=Tryz.f37.ntmps) C13ok Tryz.func37 rfl rfl ?_
  refine awalk_sound C13ok _ _ _ _ ?_
  simp[go_sem]
  exact⟨hob,.inr rfl,_,_,rfl,trivial,rfl,rfl⟩
 ·cases h
noncomputable def eT:FuncId → Option Am.Spec:=fun f=>match f with
 |37=>some bG
 |f=>bS f
noncomputable def C14:Ctx:={ P:=Tryz.prog,ty:=tysB,fn:=eT,ext:=ext7,eqt:=eqs7 }
theorem C14ok:CtxOk C14:=by
 refine⟨tysBOk,fun f s h=>?_,eqs7_ok,dC⟩
 unfold C14 eT at h
 simp only at h
 split at h
 ·cases h;exact spN_ok
 ·exact C13ok.fn _ _ h
theorem C14_ty:C14.ty=tysB:=rfl
theorem C14_fn:C14.fn=eT:=rfl
theorem C14_ext:C14.ext=ext7:=rfl
theorem C14_eqt:C14.eqt=eqs7:=rfl
theorem s14_n:eT 37=some bG:=rfl
attribute [local go_sem] C14_ty C14_fn C14_ext C14_eqt s14_n
end Go.Proofs.YtjokedpaidmjoaaGreatDoor.Rf
