/- A part of the proof. -/
import Derived.Test.YtjokedpaidmjoaaGreatDoorQ47
set_option linter.all false
namespace Go.Proofs.YtjokedpaidmjoaaGreatDoor.Rf
open Go Go.RowKit Go.Proofs.YtjokedpaidmjoaaGreatDoor.Am Go.Proofs.YtjokedpaidmjoaaGreatDoor.Pu Go.Proofs.YtjokedpaidmjoaaGreatDoor
attribute [local go_sem] areg aseq gstep gwant astep apick aop aslice alen aappend aappendS aconvS aconvB unw opTmps opnds tmpsOf aev Am.get ofConst ofConst1 putT strip abin aun initT AThen AIn ws_n ws_r ws_e ws_g aw_seq aw_reg aw_draw aw_cond aw_block aw_skip aw_ret aw_exit aw_goto aw_label aw_loop aw_scope ANoGoto AJ ares oneOr bound asInt fieldOf ldv setSeg AV.cells AV.whole AV.cell tys Ty.agg ty9 ty3 ty2 ty5 ty4 ty89 ty21 ty37 ty46 ty83 ty73 ty81 ty41 ty23 ty25 ty27 ty28 ty48 ty65 ty38 ty67 ty88 afill zeroRow litGet litCells adraw awit adchk pchk qchk gchk looks restr tfin Has hat_z hat_s hat_len hat_appL hat_appN hat_appK hat_setS hat_setN set_appL set_appN set_appK box_t bu aC aD aG aH az aI row_t bv aJ aA aK row_one aM
attribute [local go_sem] aY bi aN aQ aR keepT tysB
attribute [local go_sem] C14_ty C14_fn C14_ext C14_eqt s14_n bG eqs7 leqs ceq Am.fits
attribute [local go_sem] List.set_set
set_option maxRecDepth 10000
theorem byte_count {a:ByteArray} {j:Nat} (h:j < a.size):((1+(((Bs a).take (j+1)).count 10:Nat):Int))=(1+(((Bs a).take j).count 10:Nat):Int)+(if byteAt a (j:Int)=10 then 1 else 0):=by
 have hl:j < (Bs a).length:=by rw[ai];exact h
 have e:byteAt a (j:Int)=((Bs a)[j].toNat:Int):=by
  unfold byteAt
  rw[Int.toNat_natCast,getElem?_pos a j h]
  rfl
 rw[List.take_succ_eq_append_getElem hl,List.count_append,e]
 by_cases hc:(Bs a)[j]=10
 ·rw[hc]
  simp
  omega
 ·have h2 : ¬ ((Bs a)[j].toNat:Int)=10:=fun q=>hc (UInt8.toNat_inj.1 (by rw[show(10:UInt8).toNat=10 from rfl];omega))
  rw[if_neg h2,List.count_singleton]
  simp[hc]
set_option maxHeartbeats 4000000 in
theorem text_calls {H:Heap} {a:ByteArray} (hs:a.size≤70368744177664):ACalls Tryz.prog 6 [.str a] H fun v H'=>v = .bool true∧Fr [67,5,81] H H':=by
 refine acalls_ofN (C:=C14) (nt:=Tryz.f6.ntmps) C14ok Tryz.func6 rfl rfl ?_
 refine awp_step C14ok fun K hK=>?_
 simp[go_sem]
 rw[hK,athen_n]
 refine awp_live [0] ?_
 simp[go_sem]
 clear hK K
 refine awp_seq ?_
 refine awp_seq (awp_region (aops_pref C14ok 0 ?_))
 simp[go_sem]
 refine aops_call rfl rfl rfl rfl Tryz.func9 (by kernel_rfl) (by kernel_rfl) awake_calls ?_
 rintro v G1 ⟨rfl,hF1⟩
 refine⟨_,rfl,aops_pref C14ok 1 ?_⟩
 simp[go_sem]
 refine aops_nil ?_
 refine awp_live [0,11] ?_
 simp[go_sem]
 refine awalk_sound C14ok _ _ _ _ ?_
 simp[go_sem]
 refine awp_seq (awp_region (aops_pref C14ok 1 ?_))
 simp[go_sem]
 refine aops_call rfl rfl rfl rfl Tryz.func11 (by kernel_rfl) (by kernel_rfl) (parse_calls hs) ?_
 rintro v G5 hv
 obtain⟨hF5,vs,rfl,hs5,_⟩:=post_val (pPost_r hv)
 have hcels:=hs5.cell
 simp only[AV.cell] at hcels
 have hF:=(hF1.trans hF5).mono (ts':=[67,5,81]) (by simp)
 clear hF1 hv
 have hpr:pVal (pR a)=pVal (pR a):=rfl
 obtain⟨⟨f,l,c,e⟩,hq⟩ : ∃ q,q=pVal (pR a):=⟨_,rfl⟩
 rw[← hq] at hs5 ⊢
 dsimp only at hs5 ⊢
 refine⟨_,rfl,aops_pref C14ok 9 ?_⟩
 simp[go_sem,fiV,hcels]
 refine aops_nil ?_
 refine awp_live [0,3,4,5] ?_
 simp[go_sem]
 change AWp C14 _ H _ _ _ (G5 ++ [fiB f vs,plB l c])
 obtain⟨G6,hG6⟩ : ∃ G6,G6=G5 ++ [fiB f vs,plB l c]:=⟨_,rfl⟩
 have k1:hat G6 G5.length=some (fiB f vs):=hG6 ▸ hat_appN rfl
 have k2:hat G6 (G5.length+1)=some (plB l c):=hG6 ▸ hat_appK 1 rfl
 have r1:Rds G6 vs f.reads:=hG6 ▸ hs5.keep (Fr.app [] _ _) (by simp)
 have hF:Fr [67,5,81] H G6:=hG6 ▸ hF.trans (Fr.app _ _ _)
 rw[← hG6]
 clear hG6 hs5 hF5 hpr
 generalize G5.length+1=q2 at *
 generalize G5.length=q1 at *
 simp only[fiB,fiV,plB] at k1 k2
 cases hp:pR a with
 |large=>
  rw[hp] at hq
  cases hq
  have hL:1048576 < a.size:=by
   unfold pR at hp
   split at hp
   ·assumption
   ·exfalso
    exact rL_large _ _ _ _ _ hp
  refine awp_seq ?_
  refine awalk_sound C14ok _ _ _ _ ?_
  have hL2:1048576 < (a.size:Int):=by omega
  simp[go_sem,k1,k2]
  refine⟨.inr rfl,?_⟩
  simp[go_sem,hL2]
  exact⟨_,True,⟨rfl,trivial⟩,trivial,by first|rfl|simp[hL2]|simp,hF⟩
 |bad l c=>
  rw[hp] at hq
  cases hq
  obtain⟨w1,w2,w3⟩:=bad_law hp
  refine awp_seq ?_
  refine awalk_sound C14ok _ _ _ _ ?_
  simp[go_sem]
  refine awp_seq ?_
  refine awalk_sound C14ok _ _ _ _ ?_
  simp[go_sem]
  refine awp_live [0,3,4,5,6,7] ?_
  simp[go_sem]
  have hsz:a.size≤1048576:=by
   unfold pR at hp
   split at hp
   ·cases hp
   ·omega
  refine awp_loopQ (fun k T G=>∃ j:Nat,k+j=a.size∧G=G6∧T = [(0,.str a),(3,.ptr q1 0 0 0),(4,.ptr q2 0 0 0),(5,.int .i64 1),(6,.int .i64 (1+(((Bs a).take j).count 10:Nat))),(7,.int .i64 j)]) a.size ⟨0,rfl,rfl,by simp⟩ ?_
  rintro k T G ⟨j,hj,rfl,rfl⟩ Q hN hX
  refine awp_step C14ok fun K hK=>?_
  simp[go_sem]
  refine⟨fun hjn=>?_,fun hjn=>?_⟩
  ·rw[hK,athen_n]
   refine awp_live [0,3,4,5,6,7] ?_
   simp[go_sem]
   have hjl:j < a.size:=by omega
   have hst:((1+(((Bs a).take (j+1)).count 10:Nat):Int))=(1+(((Bs a).take j).count 10:Nat):Int)+(if byteAt a (j:Int)=10 then 1 else 0):=byte_count hjl
   have hcn:((Bs a).take j).count 10≤1048576:=Nat.le_trans List.count_le_length (by rw[List.length_take,ai];omega)
   generalize hN2:((Bs a).take (j+1)).count 10=N2 at *
   generalize ((Bs a).take j).count 10=N1 at *
   have hw1:IntKind.i64.wrap ((j:Int)+1)=(j:Int)+1:=aT (by omega) (by omega)
   have hw2:IntKind.i64.wrap (1+(N1:Int)+1)=1+(N1:Int)+1:=aT (by omega) (by omega)
   refine awalk_sound C14ok _ _ _ _ ?_
   by_cases hb:byteAt a (j:Int)=10
   ·rw[if_pos hb] at hst
    simp[go_sem,hb,hjl,hw1,hw2]
    exact hN (k - 1) _ _ (T2:=[(0,.str a),(3,.ptr q1 0 0 0),(4,.ptr q2 0 0 0),(5,.int .i64 1),(6,.int .i64 (1+(N2:Int))),(7,.int .i64 ((j+1:Nat):Int))]) (by omega) ⟨rfl,rfl,rfl,rfl,by show AV.int .i64 (1+(N1:Int)+1) = .int .i64 _;rw[hst],rfl,trivial⟩ ⟨j+1,by omega,rfl,by rw[hN2]⟩
   ·rw[if_neg hb] at hst
    simp[go_sem,hb,hjl,hw1,hw2]
    exact hN (k - 1) _ _ (T2:=[(0,.str a),(3,.ptr q1 0 0 0),(4,.ptr q2 0 0 0),(5,.int .i64 1),(6,.int .i64 (1+(N2:Int))),(7,.int .i64 ((j+1:Nat):Int))]) (by omega) ⟨rfl,rfl,rfl,rfl,by show AV.int .i64 (1+(N1:Int)) = .int .i64 _;rw[hst,Int.add_zero],rfl,trivial⟩ ⟨j+1,by omega,rfl,by rw[hN2]⟩
  ·rw[hK]
   refine hX (.exit 0) _ _ (by simp) ?_
   have hjl:a.size≤j:=by omega
   rw[List.take_of_length_le (by rw[ai];exact hjl)]
   generalize (Bs a).count 10=N at *
   rcases r1 with ⟨rfl,_⟩|⟨b,v,B,rfl,g2,g3,g4,g5,g6,g7,g8⟩
   ·simp[go_sem,k1,k2,f0,w1,w2,w3,pVal]
    refine⟨.inr rfl,?_⟩
    simp[go_sem,w1,w2,w3]
    exact⟨_,True,⟨rfl,trivial⟩,trivial,rfl,hF⟩
   ·simp[go_sem,k1,k2,g2,g3,f0,w1,w2,w3,pVal]
    refine⟨.inr rfl,?_⟩
    simp[go_sem,w1,w2,w3]
    exact⟨_,True,⟨rfl,trivial⟩,trivial,rfl,hF⟩
 |good f=>
  rw[hp] at hq
  cases hq
  obtain⟨w1,w2,w3⟩:=again_law hp
  refine awp_seq ?_
  refine awalk_sound C14ok _ _ _ _ ?_
  simp[go_sem]
  refine awp_seq ?_
  refine awalk_sound C14ok _ _ _ _ ?_
  simp[go_sem]
  refine awp_seq (awp_region (aops_pref C14ok 1 ?_))
  simp[go_sem,k1,k2,hcels]
  refine aops_call rfl rfl rfl rfl Tryz.func14 (by kernel_rfl) (by kernel_rfl) (print_calls r1.g w3.rw w3.len w3.met w3.num) ?_
  rintro v G7 ⟨rfl,hF7⟩
  rw[w1]
  refine⟨_,rfl,aops_pref C14ok 5 ?_⟩
  simp[go_sem,w2]
  refine aops_nil ?_
  have k2:=hF7.keep _ _ k2 (by simp only[box_t];decide)
  refine awp_live [0,4,8,9] ?_
  simp[go_sem]
  refine awalk_sound C14ok _ _ _ _ ?_
  simp[go_sem,k2]
  refine⟨.inr rfl,?_⟩
  simp[go_sem]
  exact⟨_,True,⟨rfl,trivial⟩,trivial,rfl,hF.trans (hF7.mono (by simp))⟩
end Go.Proofs.YtjokedpaidmjoaaGreatDoor.Rf
