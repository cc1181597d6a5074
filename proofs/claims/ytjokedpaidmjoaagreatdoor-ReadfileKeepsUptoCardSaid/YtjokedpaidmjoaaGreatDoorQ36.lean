/- A part of the proof. -/
import Derived.Test.YtjokedpaidmjoaaGreatDoorQ35
set_option linter.all false
namespace Go.Proofs.YtjokedpaidmjoaaGreatDoor.Rf
open Go Go.RowKit Go.Proofs.YtjokedpaidmjoaaGreatDoor.Am Go.Proofs.YtjokedpaidmjoaaGreatDoor.Pu Go.Proofs.YtjokedpaidmjoaaGreatDoor
attribute [local go_sem] areg aseq gstep gwant astep apick aop aslice alen aappend aappendS aconvS aconvB unw opTmps opnds tmpsOf aev Am.get ofConst ofConst1 putT strip abin aun initT AThen AIn ws_n ws_r ws_e ws_g aw_seq aw_reg aw_draw aw_cond aw_block aw_skip aw_ret aw_exit aw_goto aw_label aw_loop aw_scope ANoGoto AJ ares oneOr bound asInt fieldOf ldv setSeg AV.cells AV.whole AV.cell tys Ty.agg ty9 ty3 ty2 ty5 ty4 ty89 ty21 ty37 ty46 ty83 ty73 ty81 ty41 ty23 ty25 ty27 ty28 ty48 afill zeroRow litGet litCells adraw awit adchk pchk qchk gchk looks restr tfin Has hat_z hat_s hat_len hat_appL hat_appN hat_appK hat_setS hat_setN set_appL set_appN set_appK box_t bn aD aG aH aI ax aJ row_t bq aK ay aM row_one aN
attribute [local go_sem] aQ bu aR aT aU keepT
attribute [local go_sem] C10_ty C10_fn fB fC
attribute [local go_sem] List.set_set
set_option maxRecDepth 10000
theorem s10_words:bT 20=some dD:=rfl
def rPost (a:ByteArray) (H:Heap):AV → Heap → Prop:=fun v H'=>Fr [81] H H'∧match pR a with
   |.large=>v = .tup [.agg (fiV f0 .nilsl),.agg [.int .i64 0,.int .i64 0],.int .i64 9]
   |.bad l c=>v = .tup [.agg (fiV f0 .nilsl),.agg [.int .i64 l,.int .i64 c],.int .i64 1]
   |.good f=>∃ vr,v = .tup [.agg (fiV f vr),.agg [.int .i64 0,.int .i64 0],.int .i64 0]∧Rds H' vr f.reads∧∀ b n v,vr = .sl b 0 n v → H.length≤b
def plB (l c:Int):Blk:=boxBlk 27 2 [.int .i64 l,.int .i64 c]
def txB (lb:Nat) (a:ByteArray):Blk:=boxBlk 48 2 [.sl lb 0 (aC a).length 0,.bool (decide (cutN a < a.size))]
structure RB (a:ByteArray) (H G:Heap) (c2 c3 c5 fb lb:Nat) (f:Fi) (vr:AV):Prop where
 k2:hat G c2=some (fiB f0 .nilsl)
 k3:hat G c3=some (plB 0 0)
 k5:hat G c5=some (txB lb a)
 lns:hat G lb=some (strB (aC a))
 fil:hat G fb=some (fiB f vr)
 rds:Rds G vr f.reads
 n2:c2≠fb
 m2:H.length≤c2
 m3:H.length≤c3
 mf:H.length≤fb
 row : ∀ b n v,vr = .sl b 0 n v → H.length≤b
 old:Fr [81] H G
theorem RB.frm {a:ByteArray} {H G G' : Heap} {c2 c3 c5 fb lb:Nat} {f:Fi} {vr:AV} (h:RB a H G c2 c3 c5 fb lb f vr) (hf:Fr [] G G'):RB a H G' c2 c3 c5 fb lb f vr:=
 ⟨hf.keep _ _ h.k2 (by simp),hf.keep _ _ h.k3 (by simp),hf.keep _ _ h.k5 (by simp),hf.keep _ _ h.lns (by simp),hf.keep _ _ h.fil (by simp),h.rds.keep hf (by simp),h.n2,h.m2,h.m3,h.mf,h.row,h.old.trans (hf.mono (by simp))⟩
theorem RB.head {a:ByteArray} {H G G' : Heap} {c2 c3 c5 fb lb:Nat} {f:Fi} {vr:AV} (h:RB a H G c2 c3 c5 fb lb f vr) (hF:FrF fb G G'):hat G' c2=some (fiB f0 .nilsl)∧hat G' c3=some (plB 0 0)∧Fr [81] H G'∧∀ f',hat G' fb=some (fiB f' vr) → f'.reads=f.reads → RB a H G' c2 c3 c5 fb lb f' vr:=by
 have q2:=hF.fil _ _ h.k2 (by simp only[fiB,box_t]) h.n2
 have q3:=hF.fr.keep _ _ h.k3 (by simp only[plB,box_t];decide)
 have qo:Fr [81] H G':=by
  refine⟨by have:=h.old.len;have:=hF.fr.len;omega,fun b B hb ht=>?_⟩
  have q1:=h.old.keep _ _ hb ht
  have q2:=hat_lt hb
  by_cases t1:B.t=25
  ·exact hF.fil _ _ q1 t1 (by have:=h.mf;omega)
  ·exact hF.fr.keep _ _ q1 (by simp only[List.mem_cons,List.not_mem_nil,or_false] at ht ⊢;intro h;rcases h with h|h;exact ht h;exact t1 h)
 refine⟨q2,q3,qo,fun f' hf hr=>⟨q2,q3,hF.fr.keep _ _ h.k5 (by simp only[txB,box_t];decide),hF.fr.keep _ _ h.lns (by simp only[aQ];decide),hf,by rw[hr];exact h.rds.keep hF.fr (by decide),h.n2,h.m2,h.m3,h.mf,h.row,qo⟩⟩
theorem RB.recd {a:ByteArray} {H G G' : Heap} {c2 c3 c5 fb lb:Nat} {f:Fi} {vr vr' : AV} (h:RB a H G c2 c3 c5 fb lb f vr) (hF:Fr [25,41] G G') (hK:KR fb vr G vr' G'):hat G' c2=some (fiB f0 .nilsl)∧hat G' c3=some (plB 0 0)∧Fr [81] H G'∧∀ f',hat G' fb=some (fiB f' vr') → Rds G' vr' f'.reads → RB a H G' c2 c3 c5 fb lb f' vr':=by
 have q2:=hK.fil _ _ h.k2 (by simp only[fiB,box_t]) h.n2
 have q3:=hF.keep _ _ h.k3 (by simp only[plB,box_t];decide)
 have qo:Fr [81] H G':=by
  refine⟨by have:=h.old.len;have:=hF.len;omega,fun b B hb ht=>?_⟩
  have q1:=h.old.keep _ _ hb ht
  have q2:=hat_lt hb
  by_cases t1:B.t=25
  ·exact hK.fil _ _ q1 t1 (by have:=h.mf;omega)
  by_cases t2:B.t=41
  ·exact hK.old _ _ q1 t2 (fun n v e=>by have:=h.row _ _ _ e;omega)
  ·exact hF.keep _ _ q1 (by simp only[List.mem_cons,List.not_mem_nil,or_false];intro h;rcases h with h|h;exact t1 h;exact t2 h)
 refine⟨q2,q3,qo,fun f' hf hr=>⟨q2,q3,hF.keep _ _ h.k5 (by simp only[txB,box_t];decide),hF.keep _ _ h.lns (by simp only[aQ];decide),hf,hr,h.n2,h.m2,h.m3,h.mf,?_,qo⟩⟩
 intro b n v e
 rcases hK.new b n v e with ⟨n',v',e'⟩|q
 ·exact h.row _ _ _ e'
 ·have:=h.old.len;omega
theorem rrR_in {ws:List ByteArray} (hz : ∀ k,(wAt ws k).size≤1048576) {sl:Int} : RdW (rrR ws sl):=
 ⟨numP_in (hz _) _ _ (by decide) (by rw[IntKind.wrap_i64];omega),numP_in (hz _) _ _ (by decide) (by decide),numP_in (hz _) _ _ (by decide) (by decide),numP_in (hz _) _ _ (by decide) (by decide)⟩
def RM (a:ByteArray) (H:Heap) (j:Nat) (ws:List ByteArray) (f:Fi) (c2 c3 c5 fb lb:Nat) (T:Tmps) (G:Heap):Prop:=
 ∃ (f' : Fi) (vr' : AV) (done:Bool) (col:Int),Has T [(2,.ptr c2 0 0 0),(3,.ptr c3 0 0 0),(5,.ptr c5 0 0 0),(7,.ptr fb 0 0 0),(8,.bool done),(9,.int .i64 j),(11,.int .i64 col)]∧rLine j ws f=(col,f',done)∧hat G c2=some (fiB f0 .nilsl)∧hat G c3=some (plB 0 0)∧Fr [81] H G∧(col=0 → RB a H G c2 c3 c5 fb lb f' vr'∧f'.reads.length≤j+1∧∀ r∈f'.reads,RdW r)
theorem dI {a:ByteArray} {H G:Heap} {c2 c3:Nat} {l c e:Int} {T:Tmps} (k2:hat G c2=some (fiB f0 .nilsl)) (k3:hat G c3=some (plB 0 0)) (m2:H.length≤c2) (m3:H.length≤c3) (old:Fr [81] H G) (hp : ∀ G',Fr [81] H G' → rPost a H (.tup [.agg (fiV f0 .nilsl),.agg [.int .i64 l,.int .i64 c],.int .i64 e]) G') (t2:Am.get T 2 = .ptr c2 0 0 0) (t3:Am.get T 3 = .ptr c3 0 0 0) (t4:Am.get T 4 = .int .i64 e) {X2 X3:Blk} (e2:X2=fiB f0 .nilsl) (e3:X3=plB l c):ABodyN C10 Tryz.f10 (rPost a H) .ret T ((G.set c2 X2).set c3 X3):=by
 subst e2 e3
 have n23:c2≠c3:=ne_of_t k2 k3 (by simp only[fiB,plB,box_t];decide)
 have l2:=hat_lt k2
 have l3:=hat_lt k3
 simp only[go_sem,fiB,fiV,f0,plB] at k2 k3
 refine⟨.inr rfl,?_⟩
 simp[go_sem,t2,t3,t4,fiB,plB,fiV,n23,n23.symm,l2,l3]
 exact⟨_,True,⟨rfl,trivial⟩,trivial,hp _ (Fr.set' (Fr.set' old m2) m3)⟩
theorem fw {a:ByteArray} {H:Heap} {l c:Int} (hp:pR a = .bad l c) (G' : Heap) (hf:Fr [81] H G'):rPost a H (.tup [.agg (fiV f0 .nilsl),.agg [.int .i64 l,.int .i64 c],.int .i64 1]) G':=by
 refine⟨hf,?_⟩
 rw[hp]
theorem rPost_large {a:ByteArray} {H:Heap} (hp:pR a = .large) (G' : Heap) (hf:Fr [81] H G'):rPost a H (.tup [.agg (fiV f0 .nilsl),.agg [.int .i64 0,.int .i64 0],.int .i64 9]) G':=by
 refine⟨hf,?_⟩
 rw[hp]
set_option maxHeartbeats 4000000 in
theorem rparse_calls {H:Heap} {a:ByteArray} (hs:a.size≤70368744177664):ACalls Tryz.prog 10 [.str a] H (rPost a H):=by
 refine acalls_ofN (C:=C10) (nt:=131) C10ok Tryz.func10 rfl rfl ?_
 refine awp_step C10ok fun K hK=>?_
 simp[go_sem]
 rw[hK,athen_n]
 refine awp_live [0,2,3] ?_
 simp[go_sem]
 clear hK K
 refine awp_step C10ok fun K hK=>?_
 simp[go_sem]
 refine awp_region (aops_pref C10ok 1 ?_)
 simp[go_sem]
 refine aops_call rfl rfl rfl rfl Tryz.func19 (by kernel_rfl) (by kernel_rfl) (split_calls hs) ?_
 rintro v G1 ⟨f1,hv⟩
 have k2:hat G1 H.length=some (fiB f0 .nilsl):=f1.keep _ _ (hat_appN rfl) (by simp)
 have k3:hat G1 (H.length+1)=some (plB 0 0):=f1.keep _ _ (hat_appK 1 rfl) (by simp)
 have fh:Fr [] H G1:=(Fr.app _ _ _).trans f1
 have lh:=f1.len
 simp at lh
 obtain⟨c2,hc2⟩ : ∃ c2,c2=H.length:=⟨_,rfl⟩
 obtain⟨c3,hc3⟩ : ∃ c3,c3=H.length+1:=⟨_,rfl⟩
 rw[← hc3] at k3 ⊢
 rw[← hc2] at k2 ⊢
 have n23:c2≠c3:=by omega
 by_cases hl:1048576 < a.size
 ·rw[if_pos hl] at hv
  subst hv
  refine⟨_,rfl,aops_pref C10ok 8 ?_⟩
  simp[go_sem]
  refine aops_nil ?_
  rw[hK,athen_n]
  refine awp_live [2,3,6] ?_
  simp[go_sem]
  clear hK K
  refine awp_step C10ok fun K hK=>?_
  have k2':=hat_app k2 [boxBlk 48 2 [.nilsl,.bool false]]
  have k3':=hat_app k3 [boxBlk 48 2 [.nilsl,.bool false]]
  have k2u:=k2'
  have k3u:=k3'
  have l2:=hat_lt k2
  have l3:=hat_lt k3
  simp only[fiB,fiV,f0,plB] at k2u k3u
  simp[go_sem,k2u,k3u,n23,n23.symm]
  rw[hK,athen_r]
  refine dI k2' k3' (by omega) (by omega) ((fh.trans (Fr.app _ _ _)).mono (by simp)) (rPost_large (if_pos hl)) rfl rfl rfl rfl rfl
 ·rw[if_neg hl] at hv
  obtain⟨lb,rfl,kl,hlb⟩:=hv
  have hp0:pR a=rL (decide (cutN a < a.size)) ((aC a).drop 0) ((0:Nat):Int) f0 false:=if_neg hl
  obtain⟨hn,hline⟩:=dH a (by omega)
  refine⟨_,rfl,aops_pref C10ok 8 ?_⟩
  simp[go_sem]
  refine aops_nil ?_
  rw[hK,athen_n]
  refine awp_live [2,3,5,6] ?_
  simp[go_sem]
  clear hK K
  refine awp_step C10ok fun K hK=>?_
  simp[go_sem]
  rw[hK,athen_n]
  refine awp_live [2,3,5] ?_
  simp[go_sem]
  clear hK K
  refine awp_step C10ok fun K hK=>?_
  simp[go_sem]
  rw[hK,athen_n]
  refine awp_live [2,3,5,7] ?_
  simp[go_sem]
  clear hK K
  refine awp_step C10ok fun K hK=>?_
  simp[go_sem]
  rw[hK,athen_n]
  refine awp_live [2,3,5,7,8] ?_
  simp[go_sem]
  clear hK K
  obtain⟨G,hG⟩ : ∃ G,G=G1 ++ [txB lb a,fiB f0 .nilsl]:=⟨_,rfl⟩
  have hR:RB a H G c2 c3 G1.length (G1.length+1) lb f0 .nilsl:=by
   rw[hG]
   exact⟨hat_app k2 _,hat_app k3 _,hat_appN rfl,hat_app kl _,hat_appK 1 rfl,.inl ⟨rfl,rfl⟩,by have:=hat_lt k2;omega,by omega,by omega,by omega,fun b n v e=>(by cases e),(fh.trans (Fr.app _ _ _)).mono (by simp)⟩
  change AWp C10 131 H _ _ _ (G1 ++ [txB lb a,fiB f0 .nilsl])
  rw[← hG]
  clear hG kl k2 k3 fh f1
  obtain⟨fb,hfb⟩ : ∃ fb,fb=G1.length+1:=⟨_,rfl⟩
  rw[← hfb] at hR ⊢
  generalize G1.length=c5 at *
  clear hfb hlb lh hc2 hc3
  refine awp_seq ?_
  refine awp_step C10ok fun K hK=>?_
  simp[go_sem]
  rw[hK,athen_n]
  refine awp_live [2,3,5,7,8,9] ?_
  simp[go_sem]
  clear hK K
  refine awp_block (awp_loopQ (fun k T G=>∃ (j:Nat) (f:Fi) (vr:AV) (done:Bool),k+j=(aC a).length∧RB a H G c2 c3 c5 fb lb f vr∧pR a=rL (decide (cutN a < a.size)) ((aC a).drop j) (j:Int) f done∧f.reads.length≤j∧(∀ r∈f.reads,RdW r)∧T = [(2,.ptr c2 0 0 0),(3,.ptr c3 0 0 0),(5,.ptr c5 0 0 0),(7,.ptr fb 0 0 0),(8,.bool done),(9,.int .i64 j)]) (aC a).length ⟨0,f0,.nilsl,false,by omega,hR,hp0,Nat.le_refl _,by simp[f0],rfl⟩ ?_)
  clear hR hp0 G
  rintro k T G ⟨j,f,vr,done,hj,hR,hp,hrl,hrd,rfl⟩ Q hN hX
  have u2:=hR.k2
  have u3:=hR.k3
  have u5:=hR.k5
  have ul:=hR.lns
  have l2:=hat_lt u2
  have l3:=hat_lt u3
  simp only[fiB,fiV,f0,plB,txB] at u2 u3 u5
  refine awp_step C10ok fun K hK=>?_
  simp[go_sem,u5,ul]
  refine⟨fun hjn=>?_,fun hjn=>?_⟩
  ·rw[hK,athen_n]
   refine awp_live [2,3,5,7,8,9] ?_
   simp[go_sem]
   clear hK K
   have hw:IntKind.i64.wrap ((j:Int)+1)=(j:Int)+1:=av (by omega) (by omega)
   have hwl : ∃ l,l=(aC a)[j]:=⟨_,rfl⟩
   obtain⟨l,hle⟩:=hwl
   have hdr:(aC a).drop j=l :: (aC a).drop (j+1):=by rw[hle];exact List.drop_eq_getElem_cons hjn
   have hsz:l.size≤1048576:=by rw[hle];exact hline _ (List.getElem_mem hjn)
   rw[hdr] at hp
   refine awp_seq (awp_block ?_)
   refine awp_step C10ok fun K hK=>?_
   cases done with
   |true=>
    simp[go_sem,u2,u3,n23,n23.symm,l2,l3,hw]
    rw[hK,athen_r]
    refine hX .ret _ _ (by simp) ?_
    exact dI hR.k2 hR.k3 hR.m2 hR.m3 hR.old (fw (by rw[hp];rfl)) rfl rfl rfl rfl rfl
   |false=>
    simp[go_sem]
    rw[hK,athen_n]
    refine awp_live [2,3,5,7,8,9] ?_
    simp[go_sem]
    clear hK K
    rw[rL_c] at hp
    refine awp_step C10ok fun K hK=>?_
    have hat1:strAt (strB (aC a)) j=l:=by
     show(aC a).getD j _=l
     rw[hle]
     simp[hjn]
    have hws:=@ws_ok l
    simp[go_sem,u5,ul,hjn,s10_words,dD]
    rw[← hle]
    refine⟨by omega,?_⟩
    rw[hK,athen_n]
    refine awp_live [2,3,5,7,8,9,10,11,12] ?_
    simp[go_sem]
    clear hK K u2 u3 u5 ul l2 l3
    have hR2:=hR.frm (Fr.app [] G [strB (WS l).1])
    have hwd:hat (G ++ [strB (WS l).1]) G.length=some (strB (WS l).1):=hat_new _ _
    generalize G ++ [strB (WS l).1]=G2 at *
    generalize G.length=wb at *
    clear hR hat1 hle
    generalize WS l=r at *
    obtain⟨ws,col,code⟩:=r
    dsimp only at hp hws hwd ⊢
    have u2:=hR2.k2
    have u3:=hR2.k3
    have l2:=hat_lt u2
    have l3:=hat_lt u3
    simp only[fiB,fiV,f0,plB] at u2 u3
    refine awp_step C10ok fun K hK=>?_
    simp[go_sem]
    by_cases c0:code=0
    ·rw[if_neg (by simp[c0])] at hp
     obtain⟨w1,w2,w3,w4,w5⟩:=hws c0
     simp[go_sem,c0]
     rw[hK,athen_n]
     refine awp_live [2,3,5,7,8,9,10] ?_
     simp[go_sem]
     clear hK K
     refine awp_step C10ok fun K hK=>?_
     simp[go_sem]
     rw[hK,athen_n]
     refine awp_live [2,3,5,7,8,9,10,11] ?_
     simp[go_sem]
     clear hK K
     have wl:0 < ws.length:=List.length_pos_iff.2 w1
     have wa0:strAt (strB ws) 0=wAt ws 0:=rfl
     refine awp_seq (awp_mono (R:=fun e T G'=>e = .normal∧RM a H j ws f c2 c3 c5 fb lb T G') (awp_block ?_) ?_)
     ·have hw0:ws[0]=wAt ws 0:=by unfold wAt;simp[wl]
      have htot:tot (ws.map Bs)≤900000000:=by omega
      have hz : ∀ a∈ws,a.size≤1048576∧a.size≠0:=fun w hw=>⟨by have:=(w5 w hw).1;omega,(w5 w hw).2⟩
      by_cases hj0:j=0
      ·subst hj0
       refine awp_step C10ok fun K hK=>?_
       simp[go_sem,hwd,wl,hw0]
       rw[hK,athen_n]
       refine awp_live [2,3,5,7,8,9,10,11,53] ?_
       simp[go_sem]
       clear hK K
       rw[show((wAt ws 0).toList == [109,101,116,101,114] && (ws.length:Int) == 7)=isV ws dG 7 from rfl]
       by_cases cM:isV ws dG 7=true
       ·rw[cM]
        refine awp_cond (b:=true) rfl (fun _=>?_) (fun h=>by cases h)
        refine awp_region (aops_pref C10ok 1 ?_)
        simp[go_sem]
        refine aops_call rfl rfl rfl rfl Tryz.func21 (by kernel_rfl) (by kernel_rfl) (rhead_calls hwd hR2.fil hR2.rds.cell (dh cM) htot hz) ?_
        rintro v G3 ⟨rfl,hF,hfil⟩
        refine⟨_,rfl,aops_pref C10ok 1 ?_⟩
        simp[go_sem]
        refine aops_nil ?_
        obtain⟨q2,q3,qo,hq⟩:=hR2.head hF
        have hrf:(rhF ws f).reads=f.reads:=rfl
        exact⟨rfl,rhF ws f,vr,false,rhCol ws,⟨rfl,rfl,rfl,rfl,rfl,rfl,rfl,trivial⟩,rLine_head f cM,q2,q3,qo,fun hc=>⟨hq _ (hfil hc) hrf,by rw[hrf];omega,by rw[hrf];exact hrd⟩⟩
       ·have cM' : isV ws dG 7=false:=by simpa using cM
        rw[cM']
        refine awp_cond (b:=false) rfl (fun h=>by cases h) (fun _=>?_)
        refine awalk_sound C10ok _ _ _ _ ?_
        have fil:=hR2.fil
        have hrds:=hR2.rds
        simp only[fiB,fiV] at fil
        have fin : ∀ T,Has T [(2,.ptr c2 0 0 0),(3,.ptr c3 0 0 0),(5,.ptr c5 0 0 0),(7,.ptr fb 0 0 0),(8,.bool false),(9,.int .i64 ((0:Nat):Int)),(11,.int .i64 1)] → RM a H 0 ws f c2 c3 c5 fb lb T G2:=fun T hT=>⟨f,vr,false,1,hT,rLine_no0 f cM,hR2.k2,hR2.k3,hR2.old,fun h=>by cases h⟩
        rcases hrds with ⟨hv,h0⟩|⟨b,v,B,hv,g2,g3,g4,g5,g6,g7,g8⟩
        ·rw[hv] at fil
         simp[go_sem,fil,hwd,wl,hw0]
         exact fin _ ⟨rfl,rfl,rfl,rfl,rfl,rfl,rfl,trivial⟩
        ·rw[hv] at fil
         simp[go_sem,fil,hwd,wl,hw0,g2,g3]
         exact fin _ ⟨rfl,rfl,rfl,rfl,rfl,rfl,rfl,trivial⟩
      ·have hjb:((j:Int) == 0)=false:=by simp[hj0]
       have hjp:0 < j:=by omega
       have hjp2:(0:Int) < j:=by omega
       refine awp_step C10ok fun K hK=>?_
       simp[go_sem,hwd,wl,hjb,hw0]
       rw[hK,athen_n]
       refine awp_live [2,3,5,7,8,9,10,11,53] ?_
       simp[go_sem]
       clear hK K
       refine awp_cond (b:=false) rfl (fun h=>by cases h) (fun _=>?_)
       refine awp_seq (awp_mono (R:=fun e T G'=>e = .normal∧G' = G2∧Has T [(2,.ptr c2 0 0 0),(3,.ptr c3 0 0 0),(5,.ptr c5 0 0 0),(7,.ptr fb 0 0 0),(8,.bool false),(9,.int .i64 j),(10,.sl wb 0 ws.length 0),(11,.int .i64 1),(69,.bool (isV ws wRead 6 && decide ((f.reads.length:Int) < f.slots)))]) ?_ ?_)
       ·have fil:=hR2.fil
        simp only[fiB,fiV] at fil
        have hrds:=hR2.rds
        refine awalk_sound C10ok _ _ _ _ ?_
        rcases hrds with ⟨hv,h0⟩|⟨b,v,B,hv,g2,g3,g4,g5,g6,g7,g8⟩
        ·rw[hv] at fil
         simp[go_sem,fil,hwd,wl,hw0,hjp,h0]
         rfl
        ·rw[hv] at fil
         simp[go_sem,fil,hwd,wl,hw0,hjp,g2,g3]
         rfl
       ·rintro e T G3 ⟨rfl,rfl,hT⟩
        refine awp_weak ⟨hT,.inl rfl⟩ ?_
        clear hT T
        by_cases cR:(isV ws wRead 6 && decide ((f.reads.length:Int) < f.slots))=true
        ·rw[cR]
         have cR2:isV ws wRead 6=true∧(f.reads.length:Int) < f.slots:=by simpa using cR
         refine awp_cond (b:=true) rfl (fun _=>?_) (fun h=>by cases h)
         refine awp_region (aops_pref C10ok 1 ?_)
         simp[go_sem]
         refine aops_call rfl rfl rfl rfl Tryz.func22 (by kernel_rfl) (by kernel_rfl) (rrecord_calls hwd hR2.fil hR2.rds (by omega) (dh cR2.1) htot hz) ?_
         rintro v G4 ⟨rfl,hF,vr',hKR,hq⟩
         refine⟨_,rfl,aops_pref C10ok 1 ?_⟩
         simp[go_sem]
         refine aops_nil ?_
         obtain⟨q2,q3,qo,hq2⟩:=hR2.recd hF hKR
         have hwz : ∀ k,(wAt ws k).size≤1048576:=by
          intro k
          unfold wAt
          cases hk:ws[k]? with
          |none=>exact Nat.zero_le _
          |some w=>exact(hz w (List.mem_of_getElem? hk)).1
         have rdw : ∀ r∈f.reads ++ [rrR ws f.slots],RdW r:=by
          intro r hr
          rcases List.mem_append.1 hr with hr|hr
          ·exact hrd r hr
          ·rw[List.mem_singleton.1 hr]
           exact rrR_in hwz
         exact⟨rfl,{ f with reads:=f.reads ++ [rrR ws f.slots] },vr',false,rrCol ws f.slots,⟨rfl,rfl,rfl,rfl,rfl,rfl,rfl,trivial⟩,rLine_read hjp2 f cR2.1 cR2.2,q2,q3,qo,fun hc=>⟨hq2 _ (hq hc).1 (hq hc).2,by simp;omega,rdw⟩⟩
        ·have cR' : (isV ws wRead 6 && decide ((f.reads.length:Int) < f.slots))=false:=by simpa using cR
         have cRn : ¬ (isV ws wRead 6=true∧(f.reads.length:Int) < f.slots):=fun q=>cR (by simp[q.1,q.2])
         rw[cR']
         refine awp_cond (b:=false) rfl (fun h=>by cases h) (fun _=>?_)
         refine awp_step C10ok fun K hK=>?_
         simp[go_sem,hwd,wl,hw0,hjp]
         rw[hK,athen_n]
         refine awp_live [2,3,5,7,8,9,10,11,93] ?_
         simp[go_sem]
         clear hK K
         rw[show((wAt ws 0).toList == [101,110,100] && (ws.length:Int) == 3)=isV ws wEnd 3 from rfl]
         by_cases cE:isV ws wEnd 3=true
         ·rw[cE]
          refine awp_cond (b:=true) rfl (fun _=>?_) (fun h=>by cases h)
          refine awp_step C10ok fun K hK=>?_
          have fil:=hR2.fil
          simp only[fiB,fiV] at fil
          simp[go_sem,fil]
          refine awp_region (aops_pref C10ok 2 ?_)
          simp[go_sem,fil]
          refine aops_call rfl rfl rfl rfl Tryz.func23 (by kernel_rfl) (by kernel_rfl) (rtail_calls hwd hR2.rds hrd (by omega) (dh cE) htot hz) ?_
          rintro v G4 ⟨rfl,hF⟩
          refine⟨_,rfl,aops_pref C10ok 1 ?_⟩
          simp[go_sem]
          refine aops_nil ?_
          rw[hK,athen_n]
          refine awalk_sound C10ok _ _ _ _ ?_
          simp[go_sem]
          have hR4:=hR2.frm hF
          exact⟨f,vr,true,rtCol ws f,⟨rfl,rfl,rfl,rfl,rfl,rfl,rfl,trivial⟩,rLine_end hjp2 f cE,hR4.k2,hR4.k3,hR4.old,fun hc=>⟨hR4,by omega,hrd⟩⟩
         ·have cE' : isV ws wEnd 3=false:=by simpa using cE
          rw[cE']
          refine awp_cond (b:=false) rfl (fun h=>by cases h) (fun _=>?_)
          refine awalk_sound C10ok _ _ _ _ ?_
          simp[go_sem]
          exact⟨f,vr,false,1,⟨rfl,rfl,rfl,rfl,rfl,rfl,rfl,trivial⟩,rLine_no hjp2 f cE cRn,hR2.k2,hR2.k3,hR2.old,fun h=>by cases h⟩
     ·rintro e T G3 ⟨rfl,f',vr',done,col',hT,hl,q2,q3,qo,hR3⟩
      rw[hl] at hp
      dsimp only at hp
      refine awp_weak ⟨hT,.inl rfl⟩ ?_
      clear hT T
      by_cases hc:col' = 0
      ·rw[if_pos hc] at hp
       obtain⟨hR4,hr1,hr2⟩:=hR3 hc
       subst hc
       refine awalk_sound C10ok _ _ _ _ ?_
       simp[go_sem]
       refine awalk_sound C10ok _ _ _ _ ?_
       simp[go_sem,hw]
       exact hN (k - 1) _ _ (T2:=[(2,.ptr c2 0 0 0),(3,.ptr c3 0 0 0),(5,.ptr c5 0 0 0),(7,.ptr fb 0 0 0),(8,.bool done),(9,.int .i64 ((j+1:Nat):Int))]) (by omega) ⟨rfl,rfl,rfl,rfl,rfl,rfl,trivial⟩ ⟨j+1,f',vr',done,by omega,hR4,hp,hr1,hr2,rfl⟩
      ·rw[if_neg hc] at hp
       have v2:=q2
       have v3:=q3
       have l2:=hat_lt v2
       have l3:=hat_lt v3
       simp only[fiB,fiV,f0,plB] at v2 v3
       refine awalk_sound C10ok _ _ _ _ ?_
       simp[go_sem,hc,v2,v3,n23,n23.symm,l2,l3,hw]
       refine hX .ret _ _ (by simp) ?_
       exact dI q2 q3 hR2.m2 hR2.m3 qo (fw hp) rfl rfl rfl rfl rfl
    ·rw[if_pos c0] at hp
     simp[go_sem,c0,u2,u3,n23,n23.symm,l2,l3,hw]
     rw[hK,athen_r]
     refine hX .ret _ _ (by simp) ?_
     exact dI hR2.k2 hR2.k3 hR2.m2 hR2.m3 hR2.old (fw hp) rfl rfl rfl rfl rfl
  ·rw[hK]
   refine hX (.exit 0) _ _ (by simp) ?_
   show AWp _ _ _ _ _ _ _
   refine awp_live [2,3,5,7,8] ?_
   simp[go_sem]
   clear hK K hX hN Q
   rw[List.drop_of_length_le hjn] at hp
   have hjl:j=(aC a).length:=by omega
   refine awp_step C10ok fun K hK=>?_
   simp[go_sem,u5]
   refine⟨fun hb=>?_,fun h1 h2=>?_⟩
   ·have hw:IntKind.i64.wrap (((aC a).length:Int)+1)=((aC a).length:Int)+1:=av (by omega) (by omega)
    have hpb:pR a = .bad (((aC a).length:Int)+1) 1:=by
     rw[hp,← hjl]
     unfold rL
     rw[if_pos]
     rcases hb with h|h
     ·exact .inl (by simpa using h)
     ·exact .inr h
    have n25:c2≠c5:=ne_of_t hR.k2 hR.k5 (by simp only[fiB,txB,box_t];decide)
    have n35:c3≠c5:=ne_of_t hR.k3 hR.k5 (by simp only[plB,txB,box_t];decide)
    have n2l:c2≠lb:=ne_of_t hR.k2 hR.lns (by simp only[fiB,aQ,box_t];decide)
    have n3l:c3≠lb:=ne_of_t hR.k3 hR.lns (by simp only[plB,aQ,box_t];decide)
    refine awp_draw C10ok (by kernel_rfl) [0,0,2,6,14,30,1,127,255] [.quiet [0],.quiet [0,1],.quiet [0,1],.quiet [0,1],.quiet [0,1],.quiet [0,1],.eff 0,.eff 1,.quiet [2]] 2 (by kernel_rfl) ?_
    simp[go_sem,u2,u3,u5,ul,n23,n23.symm,l2,l3,hw,n25,n35,n2l,n3l]
    rw[hK,athen_r]
    exact dI hR.k2 hR.k3 hR.m2 hR.m3 hR.old (fw hpb) rfl rfl rfl rfl rfl
   ·rw[hK,athen_n]
    refine awp_live [2,3,7] ?_
    simp[go_sem]
    clear hK K
    have hpg:pR a = .good f:=by
     rw[hp]
     unfold rL
     rw[if_neg]
     rintro(h|h)
     ·exact absurd h (by simp;omega)
     ·rw[h] at h2;cases h2
    have fil:=hR.fil
    have hcell:=hR.rds.cell
    have n2:=hR.n2
    simp only[AV.cell] at hcell
    simp only[fiB,fiV] at fil
    refine awalk_sound C10ok _ _ _ _ ?_
    simp[go_sem,u2,u3,fil,n23,n23.symm,l2,l3,hcell,n2,n2.symm]
    refine⟨.inr rfl,?_⟩
    simp[go_sem,u2,u3,fil,n23,n23.symm,l2,l3,hcell,n2,n2.symm]
    refine⟨_,True,⟨rfl,trivial⟩,trivial,Fr.set' (Fr.set' hR.old hR.m2) hR.m3,?_⟩
    rw[hpg]
    refine⟨vr,rfl,?_,hR.row⟩
    exact hR.rds.keep ((Fr.set (ts:=[25,27]) hR.k2 (by simp[fiB,box_t]) _).trans (Fr.set (B:=plB 0 0) (by rw[hat_setN n23];exact hR.k3) (by simp[plB,box_t]) _)) (by decide)
end Go.Proofs.YtjokedpaidmjoaaGreatDoor.Rf
