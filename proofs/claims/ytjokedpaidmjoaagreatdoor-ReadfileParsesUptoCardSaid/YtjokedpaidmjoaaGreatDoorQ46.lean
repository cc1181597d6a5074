/- A part of the proof. -/
import Derived.Test.YtjokedpaidmjoaaGreatDoorQ45
set_option linter.all false
namespace Go.Proofs.YtjokedpaidmjoaaGreatDoor.Rf
open Go Go.RowKit Go.Proofs.YtjokedpaidmjoaaGreatDoor.Am Go.Proofs.YtjokedpaidmjoaaGreatDoor.Pu Go.Proofs.YtjokedpaidmjoaaGreatDoor
attribute [local go_sem] areg aseq gstep gwant astep apick aop aslice alen aappend unw opTmps opnds tmpsOf aev Am.get ofConst ofConst1 putT strip abin aun initT AThen AIn ws_n ws_r ws_e ws_g aw_seq aw_reg aw_draw aw_cond aw_block aw_skip aw_ret aw_exit aw_goto aw_label aw_loop aw_scope ANoGoto AJ ares oneOr bound asInt fieldOf ldv setSeg AV.cells AV.whole AV.cell tys Ty.agg ty9 ty3 ty2 ty5 ty4 ty89 ty21 ty37 ty46 ty83 ty73 ty81 ty41 ty23 ty25 ty27 ty28 ty48 afill zeroRow litGet litCells adraw awit adchk pchk qchk gchk looks restr tfin Has hat_z hat_s hat_len hat_appL hat_appN hat_appK hat_setS hat_setN set_appL set_appN set_appK box_t bz aM aN aQ aR aA aT row_t bA aU aC aV row_one aW
attribute [local go_sem] aG bM bi bn bq keepT
attribute [local go_sem] C11_ty C11_fn C11_ext C11_eqt eqs7 leqs ceq Am.fits
attribute [local go_sem] List.set_set
set_option maxRecDepth 10000
theorem s10_ex:bU 18=some spEx:=rfl
def exF:Fi:=⟨⟨#[109,45,49]⟩,1767225600,15,4,1,0,[⟨0,100,0,-5,65⟩,⟨1,120,0,0,65⟩,⟨3,90,10,2,69⟩]⟩
theorem ex_good:pR exT = .good exF:=by kernel_rfl
theorem ex_small:exT.size≤70368744177664:=Nat.le_of_ble_eq_true (by kernel_rfl)
def pVal:POut → Fi × Int × Int × Int
 |.large=>(f0,0,0,9)
 |.bad l c=>(f0,l,c,1)
 |.good f=>(f,0,0,0)
theorem rL_len (cut:Bool) : ∀ (ls:List ByteArray) (i:Int) (f g:Fi) (d:Bool),rL cut ls i f d = .good g → g.reads.length≤f.reads.length+ls.length
 |[],i,f,g,d,h=>by
  unfold rL at h
  split at h
  ·cases h
  ·cases h;omega
 |l :: r,i,f,g,d,h=>by
  unfold rL at h
  split at h
  ·cases h
  ·split at h
   ·cases h
   ·split at h
    ·have h1:=rL_len cut r _ _ g _ h
     have h2:(rLine i (WS l).1 f).2.1.reads.length≤f.reads.length+1:=by
      unfold rLine
      split
      ·exact Nat.le_succ _
      ·split
       ·simp
       ·split <;> exact Nat.le_succ _
     simp only[List.length_cons]
     omega
    ·cases h
theorem pR_len {a:ByteArray} {f:Fi} (h:pR a = .good f):f.reads.length≤1048576:=by
 unfold pR at h
 split at h
 ·cases h
 ·rename_i hl
  have h1:=rL_len _ _ _ _ _ _ h
  have h2:=(dz a (by omega)).1
  have h3:f0.reads.length=0:=rfl
  omega
theorem post_val {a:ByteArray} {H H' : Heap} {v:AV} (h:rPost a H v H'):Fr [81] H H'∧∃ vr,v = .tup [.agg (fiV (pVal (pR a)).1 vr),.agg [.int .i64 (pVal (pR a)).2.1,.int .i64 (pVal (pR a)).2.2.1],.int .i64 (pVal (pR a)).2.2.2]∧Rds H' vr (pVal (pR a)).1.reads∧∀ b n v,vr = .sl b 0 n v → H.length≤b:=by
 obtain⟨h1,h2⟩:=h
 refine⟨h1,?_⟩
 cases hp:pR a with
 |large=>rw[hp] at h2;exact⟨.nilsl,h2,.inl ⟨rfl,rfl⟩,fun b n v e=>by cases e⟩
 |bad l c=>rw[hp] at h2;exact⟨.nilsl,h2,.inl ⟨rfl,rfl⟩,fun b n v e=>by cases e⟩
 |good f=>
  rw[hp] at h2
  obtain⟨vr,e,h3,h4⟩:=h2
  exact⟨vr,e,h3,h4⟩
theorem pPost_r {a:ByteArray} {H H' : Heap} {v:AV} (h:pPost a H v H'):rPost a H v H':=by
 unfold pPost at h
 rw[parse_same] at h
 exact h
theorem pVal_len (a:ByteArray):(pVal (pR a)).1.reads.length≤1048576:=by
 cases hp:pR a with
 |large=>exact Nat.zero_le _
 |bad l c=>exact Nat.zero_le _
 |good f=>exact pR_len hp
set_option maxHeartbeats 4000000 in
theorem awake_calls {H:Heap} : ACalls Tryz.prog 9 [] H fun v H'=>v = .bool true∧Fr [81] H H':=by
 refine acalls_ofN (C:=C11) (nt:=Tryz.f9.ntmps) C11ok Tryz.func9 rfl rfl ?_
 refine awp_step C11ok fun K hK=>?_
 simp[go_sem]
 rw[hK,athen_n]
 refine awp_live [] ?_
 simp[go_sem]
 clear hK K
 refine awp_step C11ok fun K hK=>?_
 simp[go_sem]
 refine awp_region (aops_pref C11ok 1 ?_)
 simp[go_sem,s10_ex,spEx]
 refine aops_call rfl rfl rfl rfl Tryz.func11 (by kernel_rfl) (by kernel_rfl) (parse_calls ex_small) ?_
 rintro v G hv
 obtain⟨hF,vr,rfl,hr,_⟩:=post_val (pPost_r hv)
 rw[ex_good] at hr ⊢
 obtain⟨b,w,B,rfl,g2,g3,g4,g5,g6,g7,g8⟩ : ∃ b v B,vr = .sl b 0 3 v∧hat G b=some B∧B.ver=v∧B.own=true∧B.len=3∧B.t=41∧B.sz=5∧B.get 2=rdV ⟨3,90,10,2,69⟩:=by
  rcases hr with ⟨_,h0⟩|⟨b,v,B,h1,h2,h3,h4,h5,h6,h7,h8⟩
  ·cases h0
  ·exact⟨b,v,B,h1,h2,h3,h4,h5,h6,h7,h8 2 _ rfl⟩
 refine⟨_,rfl,aops_pref C11ok 9 ?_⟩
 simp only[rdV] at g8
 simp[go_sem,pVal,fiV,exF]
 refine aops_nil ?_
 rw[hK,athen_n]
 refine awp_live [1,2,3] ?_
 simp[go_sem]
 clear hK K
 have lb:=hat_lt g2
 refine awalk_sound C11ok _ _ _ _ ?_
 simp[go_sem,g2,g3,g5,g7,g8,lb]
 refine⟨.inr rfl,?_⟩
 simp[go_sem]
 exact⟨_,True,⟨rfl,trivial⟩,trivial,rfl,hF.trans (Fr.app _ _ _)⟩
set_option maxHeartbeats 4000000 in
theorem parses_calls {H:Heap} {a:ByteArray} (hs:a.size≤70368744177664):ACalls Tryz.prog 3 [.str a] H fun v H'=>v = .bool true∧Fr [81] H H':=by
 refine acalls_ofN (C:=C11) (nt:=Tryz.f3.ntmps) C11ok Tryz.func3 rfl rfl ?_
 refine awp_step C11ok fun K hK=>?_
 simp[go_sem]
 rw[hK,athen_n]
 refine awp_live [0] ?_
 simp[go_sem]
 clear hK K
 refine awp_seq ?_
 refine awp_step C11ok fun K hK=>?_
 simp[go_sem]
 refine awp_region (aops_pref C11ok 0 ?_)
 simp[go_sem]
 refine aops_call rfl rfl rfl rfl Tryz.func9 (by kernel_rfl) (by kernel_rfl) awake_calls ?_
 rintro v G ⟨rfl,hF0⟩
 refine⟨_,rfl,aops_pref C11ok 1 ?_⟩
 simp[go_sem]
 refine aops_nil ?_
 rw[hK,athen_n]
 refine awp_live [0,10] ?_
 simp[go_sem]
 clear hK K
 refine awalk_sound C11ok _ _ _ _ ?_
 simp[go_sem]
 refine awp_step C11ok fun K hK=>?_
 simp[go_sem]
 refine awp_region (aops_pref C11ok 1 ?_)
 simp[go_sem]
 refine aops_call rfl rfl rfl rfl Tryz.func10 (by kernel_rfl) (by kernel_rfl) (rparse_calls hs) ?_
 rintro v G1 hv
 obtain⟨hF1,vr,rfl,hr,_⟩:=post_val hv
 have hlen:=pVal_len a
 have hsame:=sameF_refl (pVal (pR a)).1
 have hcell:=hr.cell
 simp only[AV.cell] at hcell
 obtain⟨⟨f,l,c,e⟩,hq⟩ : ∃ q,q=pVal (pR a):=⟨_,rfl⟩
 rw[← hq] at hr hlen hsame ⊢
 dsimp only at hr hlen hsame ⊢
 refine⟨_,rfl,aops_pref C11ok 9 ?_⟩
 simp[go_sem,fiV,hcell]
 refine aops_nil ?_
 rw[hK,athen_n]
 refine awp_live [0,3,4,5] ?_
 simp[go_sem]
 clear hK K
 change AWp C11 _ H _ _ _ (G1 ++ [fiB f vr,plB l c])
 obtain⟨G2,hG2⟩ : ∃ G2,G2=G1 ++ [fiB f vr,plB l c]:=⟨_,rfl⟩
 have ka:hat G2 G1.length=some (fiB f vr):=hG2 ▸ hat_appN rfl
 have kb:hat G2 (G1.length+1)=some (plB l c):=hG2 ▸ hat_appK 1 rfl
 have hr2:Rds G2 vr f.reads:=hG2 ▸ hr.keep (Fr.app [] _ _) (by simp)
 have hF2:Fr [81] H G2:=hG2 ▸ (hF0.trans hF1).trans (Fr.app _ _ _)
 rw[← hG2]
 clear hG2 hr
 generalize G1.length+1=q2 at *
 generalize G1.length=q1 at *
 clear hv hF0 hF1
 refine awp_step C11ok fun K hK=>?_
 simp[go_sem]
 refine awp_region (aops_pref C11ok 1 ?_)
 simp[go_sem]
 refine aops_call rfl rfl rfl rfl Tryz.func11 (by kernel_rfl) (by kernel_rfl) (parse_calls hs) ?_
 rintro v G3 hv
 obtain⟨hF3,vs,rfl,hs3,_⟩:=post_val (pPost_r hv)
 have hcels:=hs3.cell
 simp only[AV.cell] at hcels
 rw[← hq] at hs3 ⊢
 dsimp only at hs3 ⊢
 refine⟨_,rfl,aops_pref C11ok 9 ?_⟩
 simp[go_sem,fiV,hcels]
 refine aops_nil ?_
 rw[hK,athen_n]
 refine awp_live [3,4,5,6,7,8] ?_
 simp[go_sem]
 clear hK K
 have ja:=hF3.keep _ _ ka (by simp only[fiB,box_t];decide)
 have jb:=hF3.keep _ _ kb (by simp only[plB,box_t];decide)
 have jr:=hr2.keep hF3 (by decide)
 change AWp C11 _ H _ _ _ (G3 ++ [fiB f vs,plB l c])
 obtain⟨G4,hG4⟩ : ∃ G4,G4=G3 ++ [fiB f vs,plB l c]:=⟨_,rfl⟩
 have k1:hat G4 G3.length=some (fiB f vs):=hG4 ▸ hat_appN rfl
 have k2:hat G4 (G3.length+1)=some (plB l c):=hG4 ▸ hat_appK 1 rfl
 have k3:hat G4 q1=some (fiB f vr):=hG4 ▸ hat_app ja _
 have k4:hat G4 q2=some (plB l c):=hG4 ▸ hat_app jb _
 have r1:Rds G4 vs f.reads:=hG4 ▸ hs3.keep (Fr.app [] _ _) (by simp)
 have r2:Rds G4 vr f.reads:=hG4 ▸ jr.keep (Fr.app [] _ _) (by simp)
 have hF4:Fr [81] H G4:=hG4 ▸ (hF2.trans hF3).trans (Fr.app _ _ _)
 rw[← hG4]
 clear hG4
 generalize G3.length+1=q4 at *
 generalize G3.length=q3 at *
 clear hv hs3 hr2 jr ja jb ka kb hF2 hF3 hq
 simp only[fiB,fiV,plB] at k1 k2 k3 k4
 refine awp_step C11ok fun K hK=>?_
 simp[go_sem,k1,k2,k3,k4]
 refine awp_region (aops_pref C11ok 11 ?_)
 simp[go_sem,k1,k2,k3,k4]
 refine aops_optC (d:=32) rfl (aops_optC (d:=33) rfl ?_)
 refine aops_gcallC (j:=8) (d:=31) (want:=true) rfl rfl rfl rfl rfl rfl Tryz.func12 (by kernel_rfl) (by kernel_rfl) (same_calls r1.g r2.g (by omega)) ?_
 rintro v G5 ⟨rfl,hF5⟩
 refine⟨_,rfl,aops_pref C11ok 2 ?_⟩
 rw[hsame]
 simp[go_sem]
 refine aops_nil ?_
 rw[hK,athen_n]
 refine awalk_sound C11ok _ _ _ _ ?_
 simp[go_sem]
 exact⟨.inr rfl,_,_,rfl,trivial,rfl,hF4.trans (hF5.mono (by simp))⟩
end Go.Proofs.YtjokedpaidmjoaaGreatDoor.Rf
