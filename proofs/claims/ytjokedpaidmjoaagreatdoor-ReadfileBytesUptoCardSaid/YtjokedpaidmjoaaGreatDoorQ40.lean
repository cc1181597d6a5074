/- A part of the proof. -/
import Derived.Test.YtjokedpaidmjoaaGreatDoorQ39
set_option linter.all false
namespace Go.Proofs.YtjokedpaidmjoaaGreatDoor.Rf
open Go Go.RowKit Go.Proofs.YtjokedpaidmjoaaGreatDoor.Am Go.Proofs.YtjokedpaidmjoaaGreatDoor.Pu Go.Proofs.YtjokedpaidmjoaaGreatDoor
attribute [local go_sem] areg aseq gstep gwant astep apick aop aslice alen aappend aappendS aconvS aconvB unw opTmps opnds tmpsOf aev Am.get ofConst ofConst1 putT strip abin aun initT AThen AIn ws_n ws_r ws_e ws_g aw_seq aw_reg aw_draw aw_cond aw_block aw_skip aw_ret aw_exit aw_goto aw_label aw_loop aw_scope ANoGoto AJ ares oneOr bound asInt fieldOf ldv setSeg AV.cells AV.whole AV.cell tys Ty.agg ty9 ty3 ty2 ty5 ty4 ty89 ty21 ty37 ty46 ty83 ty73 ty81 ty41 ty23 ty25 ty27 ty28 ty48 ty65 ty38 ty67 ty88 afill zeroRow litGet litCells adraw awit adchk pchk qchk gchk looks restr tfin Has hat_z hat_s hat_len hat_appL hat_appN hat_appK hat_setS hat_setN set_appL set_appN set_appK box_t bn aI aJ aK aM ax aN row_t bq aQ aC aR row_one aT
attribute [local go_sem] aU aZ aD aG aH keepT tysB
attribute [local go_sem] C13_ty C13_fn C13_ext C13_eqt
attribute [local go_sem] List.set_set
set_option maxRecDepth 10000
theorem s13_rname:bP 49=some dz:=rfl
theorem s13_rstep:bP 52=some bX:=rfl
theorem s13_rtext:bP 53=some bA:=rfl
attribute [local go_sem] s13_rname s13_rstep s13_rtext dz bX bA
theorem spN_ok:SpecOk Tryz.prog 37 bA:=by
 refine⟨⟨Tryz.f37,Tryz.func37,by kernel_rfl,by kernel_rfl⟩,fun args H v H1 ob h hob=>?_⟩
 unfold bA at h
 split at h
 ·cases h
  refine acalls_ofN (C:=C13) (nt:=Tryz.f37.ntmps) C13ok Tryz.func37 rfl rfl ?_
  refine awalk_sound C13ok _ _ _ _ ?_
  simp[go_sem]
  exact⟨hob,.inr rfl,_,_,rfl,trivial,rfl,rfl⟩
 ·cases h
theorem flag_dec {r:Rd} (h:0≤r.flag∧r.flag≤255):flagB (flT r.flag)=(r.flag == 65 || r.flag == 69 || r.flag == 83):=by
 obtain⟨n,hn⟩ : ∃ n:Nat,r.flag=n:=⟨r.flag.toNat,by omega⟩
 have hl:n < 256:=by omega
 rw[hn]
 have key : ∀ n:Fin 256,flagB (flT ((n.val:Nat):Int))=(((n.val:Nat):Int) == 65 || ((n.val:Nat):Int) == 69 || ((n.val:Nat):Int) == 83):=by decide +kernel
 exact key ⟨n,hl⟩
noncomputable def eZ:FuncId → Option Am.Spec:=fun f=>match f with
 |37=>some bA
 |f=>bP f
noncomputable def C14:Ctx:={ P:=Tryz.prog,ty:=tysB,fn:=eZ,ext:=ext7,eqt:=eqs7 }
theorem C14ok:CtxOk C14:=by
 refine⟨tysBOk,fun f s h=>?_,eqs7_ok,dA⟩
 unfold C14 eZ at h
 simp only at h
 split at h
 ·cases h;exact spN_ok
 ·exact C13ok.fn _ _ h
theorem C14_ty:C14.ty=tysB:=rfl
theorem C14_fn:C14.fn=eZ:=rfl
theorem C14_ext:C14.ext=ext7:=rfl
theorem C14_eqt:C14.eqt=eqs7:=rfl
theorem s14_n:eZ 37=some bA:=rfl
attribute [local go_sem] C14_ty C14_fn C14_ext C14_eqt s14_n
end Go.Proofs.YtjokedpaidmjoaaGreatDoor.Rf
