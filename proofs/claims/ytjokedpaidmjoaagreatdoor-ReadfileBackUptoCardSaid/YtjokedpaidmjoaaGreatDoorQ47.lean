/- A part of the proof. -/
import Derived.Test.YtjokedpaidmjoaaGreatDoorQ46
set_option linter.all false
namespace Go.Proofs.YtjokedpaidmjoaaGreatDoor.Rf
open Go Go.RowKit Go.Proofs.YtjokedpaidmjoaaGreatDoor.Am Go.Proofs.YtjokedpaidmjoaaGreatDoor.Pu Go.Proofs.YtjokedpaidmjoaaGreatDoor
attribute [local go_sem] areg aseq gstep gwant astep apick aop aslice alen aappend aappendS aconvS aconvB unw opTmps opnds tmpsOf aev Am.get ofConst ofConst1 putT strip abin aun initT AThen AIn ws_n ws_r ws_e ws_g aw_seq aw_reg aw_draw aw_cond aw_block aw_skip aw_ret aw_exit aw_goto aw_label aw_loop aw_scope ANoGoto AJ ares oneOr bound asInt fieldOf ldv setSeg AV.cells AV.whole AV.cell tys Ty.agg ty9 ty3 ty2 ty5 ty4 ty89 ty21 ty37 ty46 ty83 ty73 ty81 ty41 ty23 ty25 ty27 ty28 ty48 ty65 ty38 ty67 ty88 afill zeroRow litGet litCells adraw awit adchk pchk qchk gchk looks restr tfin Has hat_z hat_s hat_len hat_appL hat_appN hat_appK hat_setS hat_setN set_appL set_appN set_appK box_t bn aH aI aJ aK ay aM row_t bq aN az aQ row_one aR
attribute [local go_sem] aU bi aA aC aD keepT tysB
attribute [local go_sem] C14_ty C14_fn C14_ext C14_eqt s14_n bG eqs7 leqs ceq Am.fits
attribute [local go_sem] List.set_set
set_option maxRecDepth 10000
theorem s14_can:eO 16=none:=rfl
theorem s14_same:eO 12=none:=rfl
theorem s14_parse:eO 11=none:=rfl
theorem e7_can:ext7 16=none:=rfl
theorem e7_same:ext7 12=none:=rfl
theorem e7_parse:ext7 11=none:=rfl
attribute [local go_sem] s14_can s14_same s14_parse e7_can e7_same e7_parse
set_option maxHeartbeats 4000000 in
theorem back_calls {H:Heap} {f:Fi} {vr:AV} (hr:RdsG H vr f.reads) (hf:FiFit f):ACalls Tryz.prog 5 [.agg (fiV f vr)] H fun v H'=>v = .bool true∧Fr [67,5,81] H H':=by
 refine acalls_ofN (C:=C14) (nt:=Tryz.f5.ntmps) C14ok Tryz.func5 rfl rfl ?_
 have cc:=hr.cell
 have hc:=cc
 simp only[AV.cell] at hc
 refine awp_step C14ok fun K hK=>?_
 simp[go_sem,fiV,hc]
 rw[hK,athen_n]
 refine awp_live [1] ?_
 simp[go_sem]
 clear hK K
 change AWp C14 _ H _ _ _ (H ++ [fiB f vr])
 obtain⟨G,hG⟩ : ∃ G,G=H ++ [fiB f vr]:=⟨_,rfl⟩
 have hP:PF H G H.length f vr:=by rw[hG];exact⟨hat_new _ _,hr.keep (Fr.app [] _ _) (by simp)⟩
 have hF:Fr [] H G:=hG ▸ Fr.app _ _ _
 rw[← hG]
 clear hG
 obtain⟨fb,hfb⟩ : ∃ fb,fb=H.length:=⟨_,rfl⟩
 rw[← hfb] at hP ⊢
 clear hfb
 refine awp_seq ?_
 refine awp_seq (awp_region (aops_pref C14ok 0 ?_))
 simp[go_sem]
 refine aops_call rfl rfl rfl rfl Tryz.func9 (by kernel_rfl) (by kernel_rfl) awake_calls ?_
 rintro v G1 ⟨rfl,hF1⟩
 refine⟨_,rfl,aops_pref C14ok 1 ?_⟩
 simp[go_sem]
 refine aops_nil ?_
 refine awp_live [1,9] ?_
 simp[go_sem]
 have hP:=hP.keep hF1 (by simp) (by simp)
 have hF:=(hF.mono (ts':=[81]) (by simp)).trans hF1
 clear hF1
 refine awalk_sound C14ok _ _ _ _ ?_
 simp[go_sem]
 have fil:=hP.fil
 simp only[fiB,fiV] at fil
 refine awp_seq (awp_region (aops_pref C14ok 1 ?_))
 simp[go_sem,fil,hc]
 refine aops_call rfl rfl rfl rfl Tryz.func15 (by kernel_rfl) (by kernel_rfl) (copyFile_calls hP.rds hf.len) ?_
 rintro v G3 ⟨hF3,vs,rfl,hs⟩
 refine⟨_,rfl,?_⟩
 refine aops_call rfl rfl rfl rfl Tryz.func14 (by kernel_rfl) (by kernel_rfl) (print_calls hs hf.rw hf.len hf.met hf.num) ?_
 rintro v G4 ⟨rfl,hF4⟩
 have hP:=(hP.keep hF3 (by simp) (by simp)).keep hF4 (by simp) (by simp)
 have hF:=(hF.mono (ts':=[67,5,81]) (by simp)).trans ((hF3.mono (by simp)).trans (hF4.mono (by simp)))
 clear hF3 hF4 hs fil
 have fil:=hP.fil
 simp only[fiB,fiV] at fil
 cases hok:bz f with
 |false=>
  refine⟨_,rfl,aops_pref C14ok 5 ?_⟩
  simp[go_sem]
  refine aops_nil ?_
  refine awp_live [1,3,4] ?_
  simp[go_sem]
  refine awp_step C14ok fun K hK=>?_
  simp[go_sem,fil,hc]
  refine awp_region (aops_pref C14ok 8 ?_)
  simp[go_sem,fil,hc]
  refine aops_optC (d:=25) rfl ?_
  refine aops_gcallC (j:=6) (d:=24) (want:=true) rfl rfl rfl rfl rfl rfl Tryz.func16 (by kernel_rfl) (by kernel_rfl) (can_calls hP.rds (fun r h=>(hf.rd r h).2) hf.len hf.met) ?_
  rintro v G5 ⟨rfl,hF5⟩
  refine⟨_,rfl,aops_pref C14ok 3 ?_⟩
  rw[hok]
  simp[go_sem]
  refine aops_nil ?_
  rw[ws_n]
  simp[go_sem]
  rw[hK,athen_r]
  refine⟨.inr rfl,?_⟩
  simp[go_sem]
  exact⟨_,True,⟨rfl,trivial⟩,trivial,rfl,hF.trans (hF5.mono (by simp))⟩
 |true=>
  refine⟨_,rfl,aops_pref C14ok 5 ?_⟩
  simp[go_sem]
  refine aops_nil ?_
  refine awp_live [1,3,4] ?_
  simp[go_sem]
  refine awp_step C14ok fun K hK=>?_
  simp[go_sem]
  rw[hK,athen_n]
  refine awp_live [1,3] ?_
  simp[go_sem]
  clear hK K
  refine awp_seq (awp_seq (awp_region (aops_pref C14ok 3 ?_)))
  simp[go_sem]
  refine aops_nil ?_
  refine awp_live [1,3,31] ?_
  simp[go_sem]
  refine awalk_sound C14ok _ _ _ _ ?_
  by_cases hL:1048576 < (fq f).size
  ·have hL2:1048576 < ((fq f).size:Int):=by omega
   simp[go_sem,hL,hL2]
   refine⟨.inr rfl,?_⟩
   simp[go_sem]
   exact⟨_,True,⟨rfl,trivial⟩,trivial,rfl,hF⟩
  simp[go_sem]
  refine⟨fun q=>absurd q (by omega),fun _=>?_⟩
  have hb:=back_law hok hf (by omega)
  generalize fq f=z at *
  refine awp_seq (awp_region (aops_pref C14ok 1 ?_))
  simp[go_sem]
  refine aops_call rfl rfl rfl rfl Tryz.func11 (by kernel_rfl) (by kernel_rfl) (parse_calls (a:=z) (by omega)) ?_
  rintro v G5 hv
  obtain⟨hF5,vs,rfl,hs5,_⟩:=post_val (pPost_r hv)
  rw[hb] at hs5 ⊢
  have hcels:=hs5.cell
  simp only[AV.cell] at hcels
  refine⟨_,rfl,aops_pref C14ok 9 ?_⟩
  simp[go_sem,fiV,pVal,hcels]
  refine aops_nil ?_
  refine awp_live [1,5,6,7] ?_
  simp[go_sem]
  have hP:=hP.keep hF5 (by simp) (by simp)
  have hF:=hF.trans (hF5.mono (by simp))
  change AWp C14 _ H _ _ _ (G5 ++ [fiB f vs,plB 0 0])
  obtain⟨G6,hG6⟩ : ∃ G6,G6=G5 ++ [fiB f vs,plB 0 0]:=⟨_,rfl⟩
  have k1:hat G6 G5.length=some (fiB f vs):=hG6 ▸ hat_appN rfl
  have k2:hat G6 (G5.length+1)=some (plB 0 0):=hG6 ▸ hat_appK 1 rfl
  have r1:Rds G6 vs f.reads:=hG6 ▸ hs5.keep (Fr.app [] _ _) (by simp)
  have hP:PF H G6 fb f vr:=hG6 ▸ hP.keep (Fr.app [] _ _) (by simp) (by simp)
  have hF:Fr [67,5,81] H G6:=hG6 ▸ hF.trans (Fr.app _ _ _)
  rw[← hG6]
  clear hG6 hs5 hv hF5 fil
  have fil:=hP.fil
  generalize G5.length+1=q2 at *
  generalize G5.length=q1 at *
  simp only[fiB,fiV,plB] at k1 k2 fil
  refine awp_step C14ok fun K hK=>?_
  simp[go_sem,k1,k2,fil,hc]
  trace_state
  refine awp_region (aops_pref C14ok 10 ?_)
  simp[go_sem,k1,k2,fil,hc]
  refine aops_optC (d:=46) rfl (aops_optC (d:=47) rfl ?_)
  refine aops_gcallC (j:=7) (d:=45) (want:=true) rfl rfl rfl rfl rfl rfl Tryz.func12 (by kernel_rfl) (by kernel_rfl) (same_calls r1.g hP.rds (by have:=hf.len;omega)) ?_
  rintro v G7 ⟨rfl,hF7⟩
  refine⟨_,rfl,aops_pref C14ok 2 ?_⟩
  rw[sameF_refl f]
  simp[go_sem]
  refine aops_nil ?_
  trace_state
  rw[hK,athen_n]
  refine awalk_sound C14ok _ _ _ _ ?_
  simp[go_sem]
  exact⟨.inr rfl,_,_,rfl,trivial,rfl,hF.trans (hF7.mono (by simp))⟩
end Go.Proofs.YtjokedpaidmjoaaGreatDoor.Rf
