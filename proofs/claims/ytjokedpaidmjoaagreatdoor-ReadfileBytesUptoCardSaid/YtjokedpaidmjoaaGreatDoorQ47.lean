/- A part of the proof. -/
import Derived.Test.YtjokedpaidmjoaaGreatDoorQ45
import Derived.Test.YtjokedpaidmjoaaGreatDoorQ46
set_option linter.all false
namespace Go.Proofs.YtjokedpaidmjoaaGreatDoor.Rf
open Go Go.RowKit Go.Proofs.YtjokedpaidmjoaaGreatDoor.Am Go.Proofs.YtjokedpaidmjoaaGreatDoor.Pu Go.Proofs.YtjokedpaidmjoaaGreatDoor
attribute [local go_sem] areg aseq gstep gwant astep apick aop aslice alen aappend aappendS aconvS aconvB unw opTmps opnds tmpsOf aev Am.get ofConst ofConst1 putT strip abin aun initT AThen AIn ws_n ws_r ws_e ws_g aw_seq aw_reg aw_draw aw_cond aw_block aw_skip aw_ret aw_exit aw_goto aw_label aw_loop aw_scope ANoGoto AJ ares oneOr bound asInt fieldOf ldv setSeg AV.cells AV.whole AV.cell tys Ty.agg ty9 ty3 ty2 ty5 ty4 ty89 ty21 ty37 ty46 ty83 ty73 ty81 ty41 ty23 ty25 ty27 ty28 ty48 ty65 ty38 ty67 ty88 afill zeroRow litGet litCells adraw awit adchk pchk qchk gchk looks restr tfin Has hat_z hat_s hat_len hat_appL hat_appN hat_appK hat_setS hat_setN set_appL set_appN set_appK box_t bn aI aJ aK aM ax aN row_t bq aQ aC aR row_one aT
attribute [local go_sem] aU aZ aD aG aH keepT tysB
attribute [local go_sem] C14_ty C14_fn C14_ext C14_eqt s14_n bA eqs7 leqs ceq Am.fits
attribute [local go_sem] s14_can s14_same s14_parse e7_can e7_same e7_parse
attribute [local go_sem] List.set_set Am.asInt Am.bound
set_option maxRecDepth 10000
theorem fU (B:Blk) (p n:Nat):(bytesAV B p n).size=n:=by
 unfold bytesAV
 show(List.toArray _).size=n
 simp
theorem printT_pos (f:Fi):0 < (bN f).size:=by
 have h:=printT_Bs f
 have h2:(Bs (bN f)).length=(bN f).size:=ai _
 rw[h] at h2
 rw[← h2,List.length_pos_iff]
 unfold flat
 simp
theorem at_lt {a:Int} {n:Nat} (hn:0 < n) (hm:n≤100000) : ∃ q:Nat,q < n∧IntKind.i64.wrap ((IntKind.u64.wrap a).tmod (IntKind.u64.wrap (n:Int)))=(q:Int):=by
 have h1:IntKind.u64.wrap (n:Int)=n:=by rw[IntKind.wrap_u64];omega
 have h0:0≤IntKind.u64.wrap a:=by rw[IntKind.wrap_u64];omega
 rw[h1,Int.tmod_eq_emod_of_nonneg h0]
 have h2:=Int.emod_nonneg (IntKind.u64.wrap a) (show(n:Int)≠0 by omega)
 have h3:=Int.emod_lt_of_pos (IntKind.u64.wrap a) (show(0:Int) < n by omega)
 refine⟨((IntKind.u64.wrap a) % (n:Int)).toNat,by omega,?_⟩
 rw[aA (by omega) (by omega)]
 omega
set_option maxHeartbeats 4000000 in
theorem bytes_calls {H:Heap} {f:Fi} {vr:AV} {at_ kd:Int} {b:UInt8} (hr:RdsG H vr f.reads) (hf:FiFit f):ACalls Tryz.prog 7 [.agg (fiV f vr),.int .i64 at_,.int .u8 b.toNat,.int .i64 kd] H fun v H'=>v = .bool true∧Fr [67,5,81] H H':=by
 refine acalls_ofN (C:=C14) (nt:=Tryz.f7.ntmps) C14ok Tryz.func7 rfl rfl ?_
 have cc:=hr.cell
 have hc:=cc
 simp only[AV.cell] at hc
 refine awp_step C14ok fun K hK=>?_
 simp[go_sem,fiV,hc]
 rw[hK,athen_n]
 refine awp_live [1,2,3,4] ?_
 simp[go_sem]
 clear hK K
 change AWp C14 _ H _ _ _ (H ++ [fiB f vr])
 obtain⟨G,hG⟩ : ∃ G,G=H ++ [fiB f vr]:=⟨_,rfl⟩
 have hP:PF H G H.length f vr:=by rw[hG];exact⟨hat_new _ _,hr.keep (Fr.app [] _ _) (by simp)⟩
 have hF:Fr [] H G:=hG ▸ Fr.app _ _ _
 rw[← hG]
 clear hG
 obtain⟨fb,hfb⟩ : ∃ fb,fb=H.length:=⟨_,rfl⟩
 rw[← hfb] at hP ⊢
 clear hfb
 refine awp_seq ?_
 refine awp_seq (awp_region (aops_pref C14ok 0 ?_))
 simp[go_sem]
 refine aops_call rfl rfl rfl rfl Tryz.func9 (by kernel_rfl) (by kernel_rfl) awake_calls ?_
 rintro v G1 ⟨rfl,hF1⟩
 refine⟨_,rfl,aops_pref C14ok 1 ?_⟩
 simp[go_sem]
 refine aops_nil ?_
 refine awp_live [1,2,3,4,16] ?_
 simp[go_sem]
 have hP:=hP.keep hF1 (by simp) (by simp)
 have hF:=(hF.mono (ts':=[81]) (by simp)).trans hF1
 clear hF1
 refine awalk_sound C14ok _ _ _ _ ?_
 simp[go_sem]
 have fil:=hP.fil
 simp only[fiB,fiV] at fil
 refine awp_seq (awp_region (aops_pref C14ok 1 ?_))
 simp[go_sem,fil,hc]
 refine aops_call rfl rfl rfl rfl Tryz.func15 (by kernel_rfl) (by kernel_rfl) (copyFile_calls hP.rds hf.len) ?_
 rintro v G3 ⟨hF3,vs,rfl,hs⟩
 refine⟨_,rfl,?_⟩
 refine aops_call rfl rfl rfl rfl Tryz.func14 (by kernel_rfl) (by kernel_rfl) (print_calls hs hf.rw hf.len hf.met hf.num) ?_
 rintro v G4 ⟨rfl,hF4⟩
 have hP:=(hP.keep hF3 (by simp) (by simp)).keep hF4 (by simp) (by simp)
 have hF:=(hF.mono (ts':=[67,5,81]) (by simp)).trans ((hF3.mono (by simp)).trans (hF4.mono (by simp)))
 clear hF3 hF4 hs fil
 have fil:=hP.fil
 simp only[fiB,fiV] at fil
 cases hok:bW f with
 |false=>
  refine⟨_,rfl,aops_pref C14ok 5 ?_⟩
  simp[go_sem]
  refine aops_nil ?_
  refine awp_live [1,2,3,4,9,10] ?_
  simp[go_sem]
  refine awalk_sound C14ok _ _ _ _ ?_
  simp[go_sem]
  refine⟨.inr rfl,?_⟩
  simp[go_sem]
  exact⟨_,True,⟨rfl,trivial⟩,trivial,rfl,hF⟩
 |true=>
  refine⟨_,rfl,aops_pref C14ok 5 ?_⟩
  simp[go_sem]
  refine aops_nil ?_
  refine awp_live [1,2,3,4,9,10] ?_
  simp[go_sem]
  refine awp_step C14ok fun K hK=>?_
  by_cases hL:100000 < (bN f).size
  ·have hL2:100000 < ((bN f).size:Int):=by omega
   simp[go_sem,hL,hL2]
   rw[hK,athen_r]
   refine⟨.inr rfl,?_⟩
   simp[go_sem]
   exact⟨_,True,⟨rfl,trivial⟩,trivial,rfl,hF⟩
  have hL2 : ¬ 100000 < ((bN f).size:Int):=by omega
  simp[go_sem,hL,hL2]
  rw[hK,athen_n]
  refine awp_live [1,2,3,4,9] ?_
  simp[go_sem]
  clear hK K
  have hz0:0 < (bN f).size:=printT_pos f
  obtain⟨q,hq,hqe⟩:=at_lt (a:=at_) hz0 (by omega)
  have hlaw:=fun t h=>bytes_law (t:=t) hok hf (by omega) h
  generalize bN f=z at *
  refine awp_step C14ok fun K hK=>?_
  simp[go_sem,hqe]
  refine⟨by rw[IntKind.wrap_u64];omega,?_⟩
  rw[hK,athen_n]
  refine awp_live [1,2,3,4,9] ?_
  simp[go_sem]
  clear hK K
  have hw1:IntKind.i64.wrap ((q:Int)+1)=(q:Int)+1:=aA (by omega) (by omega)
  have hq1:(q:Int)≤(z.size:Int):=by omega
  have hq2:(q:Int)+1≤(z.size:Int):=by omega
  have hmx:IntKind.i64.max=9223372036854775807:=by decide
  have e1:((q:Int)).toNat=q:=rfl
  have e2:((q:Int)+1).toNat=q+1:=by omega
  refine awp_step C14ok fun K hK=>?_
  suffices hsuf : ∀ T G5 t,t.size≤1048576 → Fr [] G4 G5 → Has T [(1,.int .i64 q),(2,.int .u8 b.toNat),(3,.int .i64 kd),(4,.ptr fb 0 0 0),(9,.str z),(11,.str t)] → K .normal T G5 by
   refine awp_draw C14ok (by kernel_rfl) [0,0,3,0,8,24,63,0,0,256,896,2047,4095] [.quiet [0,1,2],.quiet [0,1,2],.quiet [0,1,2],.quiet [0],.eff 0,.eff 1,.quiet [2],.quiet [0,1,2],.quiet [0,1,2],.quiet [0,1,2],.quiet [0,1,2],.quiet [2],.quiet [2]] 2 (by kernel_rfl) ?_
   simp[go_sem,hw1,hq1,hq2,hmx]
   have hb1:=fU (newRowBlk 5 1 1 (litGet 1 [.int .u8 (b.toNat:Int)])) 0 1
   have hsz:(z.extract 0 q ++ bytesAV (newRowBlk 5 1 1 (litGet 1 [.int .u8 (b.toNat:Int)])) 0 1 ++ z.extract (q+1) z.size).size≤1048576:=by
    rw[ByteArray.size_append,ByteArray.size_append,hb1,ByteArray.size_extract,ByteArray.size_extract]
    omega
   generalize bytesAV _ _ _=y at *
   refine⟨⟨⟨b,rfl⟩,by omega,by omega,by omega⟩,?_⟩
   exact hsuf _ _ _ hsz (Fr.app _ _ _) ⟨rfl,rfl,rfl,rfl,rfl,rfl,trivial⟩
  intro T G5 t ht hF5 hT
  rw[hK,athen_n]
  refine awp_weak ⟨hT,.inl rfl⟩ ?_
  clear hK K hT T
  have hP:=hP.keep hF5 (by simp) (by simp)
  have hF:=hF.trans (hF5.mono (by simp))
  clear hF5 fil
  refine awp_step C14ok fun K hK=>?_
  suffices hsuf : ∀ T G6 t,t.size≤1048576 → Fr [] G5 G6 → Has T [(4,.ptr fb 0 0 0),(9,.str z),(11,.str t)] → K .normal T G6 by
   simp[go_sem]
   refine⟨fun h1=>?_,fun h1=>⟨fun h2=>?_,fun h2=>?_⟩⟩
   ·refine awp_draw C14ok (by kernel_rfl) [0,0,3,0,0,16,56,127,255] [.quiet [0],.quiet [0],.quiet [0],.quiet [0],.quiet [0],.quiet [0],.quiet [0],.quiet [0],.quiet [0]] 0 (by kernel_rfl) ?_
    simp[go_sem,hw1,hq1,hq2,hmx]
    have hsz:(z.extract 0 q ++ z.extract (q+1) z.size).size≤1048576:=by
     rw[ByteArray.size_append,ByteArray.size_extract,ByteArray.size_extract]
     omega
    refine⟨⟨by omega,by omega⟩,?_⟩
    exact hsuf _ _ _ hsz (Fr.refl _ _) ⟨rfl,rfl,rfl,trivial⟩
   ·refine awp_draw C14ok (by kernel_rfl) [0,0,3,0,8,24,63,0,0,384,1023,2047] [.quiet [0,1,2],.quiet [0,1,2],.quiet [0,1,2],.quiet [0],.eff 0,.eff 1,.quiet [2],.quiet [0,1,2],.quiet [0,1,2],.quiet [0,1,2],.quiet [2],.quiet [2]] 2 (by kernel_rfl) ?_
    simp[go_sem,hw1,hq1,hq2,hmx]
    have hb1:=fU (newRowBlk 5 1 1 (litGet 1 [.int .u8 (b.toNat:Int)])) 0 1
    have hsz:(z.extract 0 q ++ bytesAV (newRowBlk 5 1 1 (litGet 1 [.int .u8 (b.toNat:Int)])) 0 1 ++ z.extract q z.size).size≤1048576:=by
     rw[ByteArray.size_append,ByteArray.size_append,hb1,ByteArray.size_extract,ByteArray.size_extract]
     omega
    generalize bytesAV _ _ _=y at *
    refine⟨⟨⟨b,rfl⟩,by omega,by omega⟩,?_⟩
    exact hsuf _ _ _ hsz (Fr.app _ _ _) ⟨rfl,rfl,rfl,trivial⟩
   ·exact hsuf _ _ _ ht (Fr.refl _ _) ⟨rfl,rfl,rfl,trivial⟩
  clear ht t
  intro T G6 t ht hF6 hT
  rw[hK,athen_n]
  refine awp_weak ⟨hT,.inl rfl⟩ ?_
  clear hK K hT T
  have hP:=hP.keep hF6 (by simp) (by simp)
  have hF:=hF.trans (hF6.mono (by simp))
  clear hF6 hq hqe hw1 hq1 hq2 hmx e1 e2 q
  have hlw:=hlaw t ht
  refine awp_seq (awp_region (aops_pref C14ok 1 ?_))
  simp[go_sem]
  refine aops_call rfl rfl rfl rfl Tryz.func11 (by kernel_rfl) (by kernel_rfl) (parse_calls (a:=t) (by omega)) ?_
  rintro v G7 hv
  obtain⟨hF7,vs,rfl,hs7,_⟩:=post_val (pPost_r hv)
  have hcels:=hs7.cell
  simp only[AV.cell] at hcels
  have hP:=hP.keep hF7 (by simp) (by simp)
  have hF:=hF.trans (hF7.mono (by simp))
  obtain⟨⟨g,l,c,e⟩,hq⟩ : ∃ q,q=pVal (pR t):=⟨_,rfl⟩
  rw[← hq] at hs7 ⊢
  dsimp only at hs7 ⊢
  refine⟨_,rfl,aops_pref C14ok 9 ?_⟩
  simp[go_sem,fiV,hcels]
  refine aops_nil ?_
  refine awp_live [4,9,11,12,14] ?_
  simp[go_sem]
  change AWp C14 _ H _ _ _ (G7 ++ [fiB g vs,plB l c])
  obtain⟨G8,hG8⟩ : ∃ G8,G8=G7 ++ [fiB g vs,plB l c]:=⟨_,rfl⟩
  have k1:hat G8 G7.length=some (fiB g vs):=hG8 ▸ hat_appN rfl
  have r1:Rds G8 vs g.reads:=hG8 ▸ hs7.keep (Fr.app [] _ _) (by simp)
  have hP:PF H G8 fb f vr:=hG8 ▸ hP.keep (Fr.app [] _ _) (by simp) (by simp)
  have hF:Fr [67,5,81] H G8:=hG8 ▸ hF.trans (Fr.app _ _ _)
  rw[← hG8]
  clear hG8 hs7 hv hF7
  have fil:=hP.fil
  generalize G7.length=q1 at *
  simp only[fiB,fiV] at k1 fil
  refine awp_step C14ok fun K hK=>?_
  rcases hlw with ⟨he,hp⟩|⟨he,⟨l',c',hp⟩|⟨g',hp,hsm⟩⟩
  ·rw[hp] at hq
   cases hq
   simp[go_sem,he,k1,fil,hc,hcels]
   refine awp_region (aops_pref C14ok 5 ?_)
   simp[go_sem,k1,fil,hc,hcels]
   refine aops_optC (d:=93) rfl (aops_optC (d:=94) rfl ?_)
   refine aops_gcallC (j:=2) (d:=92) (want:=true) rfl rfl rfl rfl rfl rfl Tryz.func12 (by kernel_rfl) (by kernel_rfl) (same_calls hP.rds r1.g (by have:=hf.len;omega)) ?_
   rintro v G9 ⟨rfl,hF9⟩
   refine⟨_,rfl,aops_pref C14ok 2 ?_⟩
   rw[sameF_refl f]
   simp[go_sem]
   refine aops_nil ?_
   rw[ws_n]
   simp[go_sem]
   rw[hK,athen_r]
   refine⟨.inr rfl,?_⟩
   simp[go_sem]
   exact⟨_,True,⟨rfl,trivial⟩,trivial,rfl,hF.trans (hF9.mono (by simp))⟩
  ·rw[hp] at hq
   cases hq
   simp[go_sem,he]
   rw[hK,athen_n]
   refine awp_live [4,12,14] ?_
   simp[go_sem]
   refine awalk_sound C14ok _ _ _ _ ?_
   simp[go_sem,k1,fil]
   refine⟨.inr rfl,?_⟩
   simp[go_sem]
   exact⟨_,True,⟨rfl,trivial⟩,trivial,rfl,hF⟩
  ·rw[hp] at hq
   cases hq
   simp[go_sem,he]
   rw[hK,athen_n]
   refine awp_live [4,12,14] ?_
   simp[go_sem]
   clear hK K
   refine awp_step C14ok fun K hK=>?_
   simp[go_sem,k1,fil,hc,hcels]
   refine awp_region (aops_pref C14ok 8 ?_)
   simp[go_sem,k1,fil,hc,hcels]
   refine aops_optC (d:=103) rfl (aops_optC (d:=104) rfl (aops_optC (d:=102) rfl ?_))
   refine aops_gcallC (j:=5) (d:=102) (want:=true) rfl rfl rfl rfl rfl rfl Tryz.func12 (by kernel_rfl) (by kernel_rfl) (same_calls hP.rds r1.g (by have:=hf.len;omega)) ?_
   rintro v G9 ⟨rfl,hF9⟩
   refine⟨_,rfl,aops_pref C14ok 4 ?_⟩
   rw[hsm]
   simp[go_sem]
   refine aops_nil ?_
   rw[hK,athen_n]
   refine awalk_sound C14ok _ _ _ _ ?_
   simp[go_sem]
   exact⟨.inr rfl,_,_,rfl,trivial,rfl,hF.trans (hF9.mono (by simp))⟩
end Go.Proofs.YtjokedpaidmjoaaGreatDoor.Rf
