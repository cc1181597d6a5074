/- A part of the proof. -/
import Derived.Test.YtjokedpaidmjoaaGreatDoorQ20
set_option linter.all false
namespace Go.Proofs.YtjokedpaidmjoaaGreatDoor.Rf
open Go Go.RowKit Go.Proofs.YtjokedpaidmjoaaGreatDoor.Am Go.Proofs.YtjokedpaidmjoaaGreatDoor.Pu Go.Proofs.YtjokedpaidmjoaaGreatDoor
attribute [local go_sem] areg aseq gstep gwant astep apick aop aslice alen aappend aappendS aconvS aconvB unw opTmps opnds tmpsOf aev Am.get ofConst ofConst1 putT strip abin aun initT AThen AIn ws_n ws_r ws_e ws_g aw_seq aw_reg aw_draw aw_cond aw_block aw_skip aw_ret aw_exit aw_goto aw_label aw_loop aw_scope ANoGoto AJ ares oneOr bound asInt fieldOf ldv setSeg AV.cells AV.whole AV.cell tys Ty.agg ty9 ty3 ty2 ty5 ty4 ty89 ty21 ty37 ty46 ty83 ty73 ty81 ty41 ty23 ty25 ty27 ty28 ty48 afill zeroRow litGet litCells adraw awit adchk pchk qchk gchk looks restr tfin Has hat_z hat_s hat_len hat_appL hat_appN hat_appK hat_setS hat_setN set_appL set_appN set_appK box_t bn aD aG aH aI ax aJ row_t bq aK ay aM row_one aN
attribute [local go_sem] aQ bu aR aT aU intB_t eU dQ dR dS
attribute [local go_sem] C8_ty C8_fn C8_ext C8_eqt s8_num1 s8_is s8_good s8_name s8_cols s8_flag s8_step s8_words fZ s8_text s8_last dU fI spIs cu
attribute [local go_sem] List.set_set
set_option maxRecDepth 10000
def bR (a b c d e:AV):Blk:=boxBlk 41 5 [a,b,c,d,e]
theorem At.app {H:Heap} {sb lb wb fb:Nat} {s:Sr} {f:Fi} {vr:AV} (h:At H sb lb wb fb s f vr) (L:Heap):At (H ++ L) sb lb wb fb s f vr:=⟨h.src.app L,hat_app h.wds L,hat_app h.fil L⟩
theorem At.setQ {H:Heap} {sb lb wb fb q:Nat} {s:Sr} {f:Fi} {vr:AV} {B:Blk} (h:At H sb lb wb fb s f vr) (hq:hat H q=some B) (ht:B.t=41) (X:Blk):At (H.set q X) sb lb wb fb s f vr:=by
 have n1:q≠sb:=ne_of_t hq h.src.src (by rw[ht];simp only[srcB,box_t];decide)
 have n2:q≠lb:=ne_of_t hq h.src.lns (by rw[ht];simp only[aQ];decide)
 have n3:q≠wb:=ne_of_t hq h.wds (by rw[ht];simp only[aQ];decide)
 have n4:q≠fb:=ne_of_t hq h.fil (by rw[ht];simp only[fiB,box_t];decide)
 exact⟨⟨by rw[hat_setN n1];exact h.src.src,by rw[hat_setN n2];exact h.src.lns⟩,by rw[hat_setN n3];exact h.wds,by rw[hat_setN n4];exact h.fil⟩
theorem Rds.keep {ts:List Nat} {H H' : Heap} {vr:AV} {l:List Rd} (h:Rds H vr l) (hf:Fr ts H H') (ht:41 ∉ ts):Rds H' vr l:=by
 rcases h with h|⟨b,v,B,h1,h2,h3,h4,h5,h6,h7⟩
 ·exact .inl h
 ·exact .inr ⟨b,v,B,h1,hf.keep _ _ h2 (by rw[h6];exact ht),h3,h4,h5,h6,h7⟩
theorem Rds.setQ {H:Heap} {vr:AV} {l:List Rd} {q:Nat} (h:Rds H vr l) (hq : ∀ b v n,vr = .sl b 0 n v → q≠b) (X:Blk):Rds (H.set q X) vr l:=by
 rcases h with h|⟨b,v,B,h1,h2,h3⟩
 ·exact .inl h
 ·exact .inr ⟨b,v,B,h1,by rw[hat_setN (hq _ _ _ h1)];exact h2,h3⟩
theorem Rds.cell {H:Heap} {vr:AV} {l:List Rd} (h:Rds H vr l):vr.cell=true:=by
 rcases h with ⟨rfl,_⟩|⟨b,v,B,rfl,_⟩ <;> rfl
structure KR (fb:Nat) (vr:AV) (H:Heap) (vr' : AV) (H' : Heap):Prop where
 old : ∀ b B,hat H b=some B → B.t=41 → (∀ n v,vr≠.sl b 0 n v) → hat H' b=some B
 new : ∀ b n v,vr' = .sl b 0 n v → (∃ n v,vr = .sl b 0 n v)∨H.length≤b
 fil : ∀ b B,hat H b=some B → B.t=25 → b≠fb → hat H' b=some B
theorem rec_app {H0 H:Heap} {sb lb wb fb q:Nat} {s:Sr} {f:Fi} {vr:AV} {r:Rd} (ha:At H sb lb wb fb s f vr) (hr:Rds H vr f.reads) (hq:hat H q=some (boxBlk 41 5 (rdV r))) (hn:f.reads.length≤1048577) {T:Tmps} {R:APost} (t1:Am.get T 1 = .ptr fb 0 0 0) (t4:Am.get T 4 = .ptr q 0 0 0)
  (hR : ∀ T1 H1 vr',At H1 sb lb wb fb s { f with reads:=f.reads ++ [r] } vr' → Rds H1 vr' (f.reads ++ [r]) → Fr [81,25,41] H H1 → KR fb vr H vr' H1 → R .normal T1 H1) :
  AWp C8 51 H0 (tln 7 (dA Tryz.f30)) R T H:=by
 simp only[dA,Tryz.f30,Option.getD_some,tln,tl,hdc]
 have fil:=ha.fil
 have lf:=hat_lt fil
 have lq:=hat_lt hq
 have ml:maxLen=9223372036854775807:=by decide
 rcases hr with ⟨rfl,h0⟩|⟨b,v,B,rfl,h2,h3,h4,h5,h6,h7,h8⟩
 ·simp only[go_sem,fiB,fiV] at fil
  simp only[rdV] at hq
  refine awp_draw C8ok (by kernel_rfl) [0,0,2,6,14,0,32,126,255,511,1023] [.quiet [0,1,2],.quiet [0,1],.quiet [0,1],.quiet [0,1],.quiet [0,1],.quiet [0],.eff 0,.eff 1,.quiet [2],.quiet [2],.eff 2] 3 (by kernel_rfl) ?_
  simp[go_sem,t1,t4,fil,hq,lf,lq]
  refine⟨by rw[ml];omega,hR _ _ (.sl (H.length+1) 0 1 0) ?_ ?_ ?_ ⟨?_,?_,?_⟩⟩
  ·have:=(ha.setF { f with reads:=f.reads ++ [r] } (.sl (H.length+1) 0 1 0)).app [newRowBlk 41 5 1 (litGet 5 (rdV r)),newRowBlk 41 5 1 fun i=>List.take 5 (List.drop (i * 5) (rdV r))]
   exact this
  ·refine .inr ⟨H.length+1,0,newRowBlk 41 5 1 fun i=>List.take 5 (List.drop (i * 5) (rdV r)),by rw[h0];rfl,?_,rfl,rfl,by rw[h0];rfl,rfl,rfl,fun i x hx=>?_⟩
   ·rw[hat_appK 1 (by simp)]
    rfl
   ·rw[h0] at hx
    cases i with
    |zero=>simp at hx;subst hx;rfl
    |succ i=>simp at hx
  ·exact((ha.frF _).fr.mono (by simp)).trans (Fr.app _ _ _)
  ·intro b B hB ht _
   exact(((ha.frF _).fr.trans (Fr.app _ _ _))).keep _ _ hB (by rw[ht];decide)
  ·intro b n v e
   cases e
   exact .inr (by omega)
  ·intro b B hB ht hne
   exact hat_app ((ha.frF _).fil _ _ hB ht hne) _
 ·have nfb:fb≠b:=ne_of_t fil h2 (by rw[h6];simp only[fiB,box_t];decide)
  have nbf:b≠fb:=fun e=>nfb e.symm
  have lb':=hat_lt h2
  have hgg:(fun i=>List.take 5 (List.drop (i * 5) (rdV r)))=fun i=>litGet 5 (rdV r) i:=rfl
  simp only[go_sem,fiB,fiV] at fil
  simp only[rdV] at hq
  refine awp_draw C8ok (by kernel_rfl) [0,0,2,6,14,0,32,126,255,511,1023] [.quiet [0,1,2],.quiet [0,1],.quiet [0,1],.quiet [0,1],.quiet [0,1],.quiet [0],.eff 0,.eff 1,.quiet [2],.quiet [2],.eff 2] 3 (by kernel_rfl) ?_
  simp[go_sem,t1,t4,fil,hq,lf,lq,h2,h3,h4,h5,h6,h7,nfb,nbf,lb']
  obtain⟨X,hX⟩ : ∃ X,X=appBlk B 1 fun i=>List.take 5 (List.drop (i * 5) (rdV r)):=⟨_,rfl⟩
  refine⟨⟨by rw[ml];omega,by omega⟩,hR _ _ (.sl b 0 (f.reads.length+1) (v+1)) ?_ ?_ ?_ ⟨?_,?_,?_⟩⟩
  ·have:=((ha.setQ h2 h6 X).setF { f with reads:=f.reads ++ [r] } (.sl b 0 (f.reads.length+1) (v+1))).app [newRowBlk 41 5 1 (litGet 5 (rdV r))]
   rw[hX] at this
   exact this
  ·refine .inr ⟨b,v+1,X,by simp,?_,by rw[hX,← h3];rfl,by rw[hX];rfl,by rw[hX];show B.len+1=_;rw[h5];simp,by rw[hX];exact h6,by rw[hX];exact h7,fun i x hx=>?_⟩
   ·rw[hat_appL (by simp;exact lb'),hat_setN nfb,hat_setS lb',hX]
    rfl
   ·rw[hX]
    show(if i < B.len then B.get i else List.take 5 (List.drop ((i - B.len) * 5) (rdV r)))=rdV x
    by_cases hi:i < B.len
    ·rw[if_pos hi]
     rw[List.getElem?_append_left (by omega)] at hx
     exact h8 i x hx
    ·rw[if_neg hi]
     rw[List.getElem?_append_right (by omega)] at hx
     have he:i - f.reads.length=0:=by
      have:=(List.getElem?_eq_some_iff.1 hx).1
      simp at this
      omega
     rw[he] at hx
     simp at hx
     subst hx
     rw[h5,he]
     rfl
  ·refine((Fr.set h2 (by rw[h6];decide) _).trans (Fr.set (B:=fiB f (.sl b 0 f.reads.length v)) ?_ (by simp[fiB,box_t]) _)).trans (Fr.app _ _ _)
   rw[hat_setN nbf]
   exact ha.fil
  ·intro b' B' hB' ht hne
   have h1:b≠b':=fun e=>hne f.reads.length v (by rw[e])
   have h2:fb≠b':=ne_of_t ha.fil hB' (by rw[ht];simp only[fiB,box_t];decide)
   rw[hat_appL (by simp;exact hat_lt hB'),hat_setN h2,hat_setN h1]
   exact hB'
  ·intro b' n' v' e
   cases e
   exact .inl ⟨_,_,rfl⟩
  ·intro b' B' hB' ht hne
   have h1:b≠b':=ne_of_t h2 hB' (by rw[ht,h6];decide)
   rw[hat_appL (by simp;exact hat_lt hB'),hat_setN (fun e=>hne e.symm),hat_setN h1]
   exact hB'
def rdN1 (s:Sr) (sl:Int):=numS s 0 (IntKind.i64.wrap (sl - 1))
def rd1 (s:Sr) (sl:Int):Sr:=takeS s (rdN1 s sl).2
def rdN2 (s:Sr) (sl:Int):=numS (rd1 s sl) 0 10000000
def rd2 (s:Sr) (sl:Int):Sr:=takeS (rd1 s sl) (rdN2 s sl).2
def rdN3 (s:Sr) (sl:Int):=numS (rd2 s sl) 0 10000000
def rd3 (s:Sr) (sl:Int):Sr:=takeS (rd2 s sl) (rdN3 s sl).2
def rdN4 (s:Sr) (sl:Int):=numS (rd3 s sl) (-10000000) 10000000
def rd4 (s:Sr) (sl:Int):Sr:=takeS (rd3 s sl) (rdN4 s sl).2
def rdW (s:Sr) (sl:Int):ByteArray:=s.words[((rd4 s sl).word+1).toNat]?.getD ⟨#[]⟩
def rd5 (s:Sr) (sl:Int):Sr:=takeS (rd4 s sl) (flagB (rdW s sl))
def rdR (s:Sr) (sl:Int):Rd:=⟨(rdN1 s sl).1,(rdN2 s sl).1,(rdN3 s sl).1,(rdN4 s sl).1,byteAt (rdW s sl) 0⟩
set_option maxHeartbeats 4000000 in
theorem record_calls {H:Heap} {sb lb wb fb:Nat} {s:Sr} {f:Fi} {vr:AV} (ha:At H sb lb wb fb s f vr) (hr:Rds H vr f.reads) (hn:f.reads.length≤1048577) (hk:Wok s) (h6:s.words.length=6) (h0:s.word=0) :
  ACalls Tryz.prog 30 [.ptr sb 0 0 0,.ptr fb 0 0 0] H fun v H'=>v = .tup []∧∃ vr',At H' sb lb wb fb (rd5 s f.slots) { f with reads:=f.reads ++ [rdR s f.slots] } vr'∧Rds H' vr' (f.reads ++ [rdR s f.slots])∧Fr [81,25,41] H H'∧KR fb vr H vr' H':=by
 refine acalls_ofN (C:=C8) (nt:=51) C8ok Tryz.func30 rfl rfl ?_
 refine awalk_sound C8ok _ _ _ _ ?_
 have hcell:=hr.cell
 rw[aw_seq]
 generalize hK:WSeq _ _ _ _ _=K
 simp[go_sem]
 rw[show H ++ [boxBlk 41 5 [.int .i64 0,.int .i64 0,.int .i64 0,.int .i64 0,.int .u8 0]]=H ++ [bR (.int .i64 0) (.int .i64 0) (.int .i64 0) (.int .i64 0) (.int .u8 0)] from rfl]
 obtain⟨q,hq⟩ : ∃ q,q=H.length:=⟨_,rfl⟩
 have a0:=ha.app [bR (.int .i64 0) (.int .i64 0) (.int .i64 0) (.int .i64 0) (.int .u8 0)]
 have r0:Rds (H ++ [bR (.int .i64 0) (.int .i64 0) (.int .i64 0) (.int .i64 0) (.int .u8 0)]) vr f.reads:=hr.keep (Fr.app [] _ _) (by simp)
 have q0:hat (H ++ [bR (.int .i64 0) (.int .i64 0) (.int .i64 0) (.int .i64 0) (.int .u8 0)]) q=some (bR (.int .i64 0) (.int .i64 0) (.int .i64 0) (.int .i64 0) (.int .u8 0)):=by rw[hq];exact hat_new _ _
 have g0:=FrF.app fb H [bR (.int .i64 0) (.int .i64 0) (.int .i64 0) (.int .i64 0) (.int .u8 0)]
 have hql:H.length≤q:=by omega
 have hqr : ∀ b v n,vr = .sl b 0 n v → q≠b:=by
  intro b v n e
  subst e
  rcases hr with ⟨h,_⟩|⟨b',v',B,h1,h2,_⟩
  ·cases h
  ·cases h1
   have:=hat_lt h2
   omega
 rw[← hq]
 clear hq
 generalize H ++ [bR (.int .i64 0) (.int .i64 0) (.int .i64 0) (.int .i64 0) (.int .u8 0)]=G0 at a0 r0 q0 g0 ⊢
 rw[← hK,ws_n,aw_seq]
 clear hK
 generalize hK:WSeq _ _ _ _ _=K
 have fl:=a0.fil
 simp only[go_sem,fiB,fiV] at fl
 simp[go_sem,fl]
 refine awp_region (aops_pref C8ok 6 ?_)
 simp[go_sem,fl]
 refine aops_call rfl rfl rfl rfl Tryz.func58 (by kernel_rfl) (by kernel_rfl) (bg 0 (IntKind.i64.wrap (f.slots - 1)) a0.src a0.wds hk (by rw[h0];show _ < ((s.words.length:Nat):Int);omega)) ?_
 rintro v H1 ⟨rfl,h1,f1⟩
 have b1:At H1 sb lb wb fb (rd1 s f.slots) f vr:=a0.call _ h1 f1
 have p1:=f1.keep _ _ q0 (by simp[bR,box_t])
 have s1:=r0.keep f1 (by decide)
 have e1:=g0.trans (fr_sf f1)
 rw[show numS s 0 (IntKind.i64.wrap (f.slots - 1))=rdN1 s f.slots from rfl]
 have k1:Wok (rd1 s f.slots):=hk.take _ (by omega)
 have w1:(rd1 s f.slots).word=1:=by show s.word+1=1;omega
 have l1:=hat_lt p1
 have pp1:=p1
 simp only[bR] at pp1
 refine⟨_,rfl,aops_pref C8ok 5 ?_⟩
 simp[go_sem,pp1,l1]
 refine aops_nil ?_
 rw[← hK,ws_n,aw_seq]
 clear hK
 generalize hK:WSeq _ _ _ _ _=K
 simp[go_sem,pp1,l1]
 rw[show List.set H1 q (boxBlk 41 5 [.int .i64 (rdN1 s f.slots).1,.int .i64 0,.int .i64 0,.int .i64 0,.int .u8 0])=H1.set q (bR (.int .i64 (rdN1 s f.slots).1) (.int .i64 0) (.int .i64 0) (.int .i64 0) (.int .u8 0)) from rfl]
 have a1:=b1.setQ p1 rfl (bR (.int .i64 (rdN1 s f.slots).1) (.int .i64 0) (.int .i64 0) (.int .i64 0) (.int .u8 0))
 have r1:=s1.setQ hqr (bR (.int .i64 (rdN1 s f.slots).1) (.int .i64 0) (.int .i64 0) (.int .i64 0) (.int .u8 0))
 have q1:hat (H1.set q (bR (.int .i64 (rdN1 s f.slots).1) (.int .i64 0) (.int .i64 0) (.int .i64 0) (.int .u8 0))) q=some (bR (.int .i64 (rdN1 s f.slots).1) (.int .i64 0) (.int .i64 0) (.int .i64 0) (.int .u8 0)):=hat_setS l1
 have g1:=FrF.set' (X:=bR (.int .i64 (rdN1 s f.slots).1) (.int .i64 0) (.int .i64 0) (.int .i64 0) (.int .u8 0)) e1 hql
 generalize H1.set q (bR (.int .i64 (rdN1 s f.slots).1) (.int .i64 0) (.int .i64 0) (.int .i64 0) (.int .u8 0))=G1 at a1 r1 q1 g1 ⊢
 rw[← hK,ws_n,aw_seq]
 clear hK
 generalize hK:WSeq _ _ _ _ _=K
 simp[go_sem]
 refine awp_region (aops_pref C8ok 1 ?_)
 simp[go_sem]
 refine aops_call rfl rfl rfl rfl Tryz.func58 (by kernel_rfl) (by kernel_rfl) (bg 0 10000000 a1.src a1.wds k1 (by rw[w1];show _ < ((s.words.length:Nat):Int);omega)) ?_
 rintro v H2 ⟨rfl,h2,f2⟩
 have b2:At H2 sb lb wb fb (rd2 s f.slots) f vr:=a1.call _ h2 f2
 have p2:=f2.keep _ _ q1 (by simp[bR,box_t])
 have s2:=r1.keep f2 (by decide)
 have e2:=g1.trans (fr_sf f2)
 rw[show numS (rd1 s f.slots) 0 10000000=rdN2 s f.slots from rfl]
 have k2:Wok (rd2 s f.slots):=k1.take _ (by omega)
 have w2:(rd2 s f.slots).word=2:=by show(rd1 s f.slots).word+1=2;omega
 have l2:=hat_lt p2
 have pp2:=p2
 simp only[bR] at pp2
 refine⟨_,rfl,aops_pref C8ok 5 ?_⟩
 simp[go_sem,pp2,l2]
 refine aops_nil ?_
 rw[show List.set H2 q (boxBlk 41 5 [.int .i64 (rdN1 s f.slots).1,.int .i64 (rdN2 s f.slots).1,.int .i64 0,.int .i64 0,.int .u8 0])=H2.set q (bR (.int .i64 (rdN1 s f.slots).1) (.int .i64 (rdN2 s f.slots).1) (.int .i64 0) (.int .i64 0) (.int .u8 0)) from rfl]
 have a2:=b2.setQ p2 rfl (bR (.int .i64 (rdN1 s f.slots).1) (.int .i64 (rdN2 s f.slots).1) (.int .i64 0) (.int .i64 0) (.int .u8 0))
 have r2:=s2.setQ hqr (bR (.int .i64 (rdN1 s f.slots).1) (.int .i64 (rdN2 s f.slots).1) (.int .i64 0) (.int .i64 0) (.int .u8 0))
 have q2:hat (H2.set q (bR (.int .i64 (rdN1 s f.slots).1) (.int .i64 (rdN2 s f.slots).1) (.int .i64 0) (.int .i64 0) (.int .u8 0))) q=some (bR (.int .i64 (rdN1 s f.slots).1) (.int .i64 (rdN2 s f.slots).1) (.int .i64 0) (.int .i64 0) (.int .u8 0)):=hat_setS l2
 have g2:=FrF.set' (X:=bR (.int .i64 (rdN1 s f.slots).1) (.int .i64 (rdN2 s f.slots).1) (.int .i64 0) (.int .i64 0) (.int .u8 0)) e2 hql
 generalize H2.set q (bR (.int .i64 (rdN1 s f.slots).1) (.int .i64 (rdN2 s f.slots).1) (.int .i64 0) (.int .i64 0) (.int .u8 0))=G2 at a2 r2 q2 g2 ⊢
 rw[← hK,ws_n,aw_seq]
 clear hK
 generalize hK:WSeq _ _ _ _ _=K
 simp[go_sem]
 refine awp_region (aops_pref C8ok 1 ?_)
 simp[go_sem]
 refine aops_call rfl rfl rfl rfl Tryz.func58 (by kernel_rfl) (by kernel_rfl) (bg 0 10000000 a2.src a2.wds k2 (by rw[w2];show _ < ((s.words.length:Nat):Int);omega)) ?_
 rintro v H3 ⟨rfl,h3,f3⟩
 have b3:At H3 sb lb wb fb (rd3 s f.slots) f vr:=a2.call _ h3 f3
 have p3:=f3.keep _ _ q2 (by simp[bR,box_t])
 have s3:=r2.keep f3 (by decide)
 have e3:=g2.trans (fr_sf f3)
 rw[show numS (rd2 s f.slots) 0 10000000=rdN3 s f.slots from rfl]
 have k3:Wok (rd3 s f.slots):=k2.take _ (by omega)
 have w3:(rd3 s f.slots).word=3:=by show(rd2 s f.slots).word+1=3;omega
 have l3:=hat_lt p3
 have pp3:=p3
 simp only[bR] at pp3
 refine⟨_,rfl,aops_pref C8ok 5 ?_⟩
 simp[go_sem,pp3,l3]
 refine aops_nil ?_
 rw[show List.set H3 q (boxBlk 41 5 [.int .i64 (rdN1 s f.slots).1,.int .i64 (rdN2 s f.slots).1,.int .i64 (rdN3 s f.slots).1,.int .i64 0,.int .u8 0])=H3.set q (bR (.int .i64 (rdN1 s f.slots).1) (.int .i64 (rdN2 s f.slots).1) (.int .i64 (rdN3 s f.slots).1) (.int .i64 0) (.int .u8 0)) from rfl]
 have a3:=b3.setQ p3 rfl (bR (.int .i64 (rdN1 s f.slots).1) (.int .i64 (rdN2 s f.slots).1) (.int .i64 (rdN3 s f.slots).1) (.int .i64 0) (.int .u8 0))
 have r3:=s3.setQ hqr (bR (.int .i64 (rdN1 s f.slots).1) (.int .i64 (rdN2 s f.slots).1) (.int .i64 (rdN3 s f.slots).1) (.int .i64 0) (.int .u8 0))
 have q3:hat (H3.set q (bR (.int .i64 (rdN1 s f.slots).1) (.int .i64 (rdN2 s f.slots).1) (.int .i64 (rdN3 s f.slots).1) (.int .i64 0) (.int .u8 0))) q=some (bR (.int .i64 (rdN1 s f.slots).1) (.int .i64 (rdN2 s f.slots).1) (.int .i64 (rdN3 s f.slots).1) (.int .i64 0) (.int .u8 0)):=hat_setS l3
 have g3:=FrF.set' (X:=bR (.int .i64 (rdN1 s f.slots).1) (.int .i64 (rdN2 s f.slots).1) (.int .i64 (rdN3 s f.slots).1) (.int .i64 0) (.int .u8 0)) e3 hql
 generalize H3.set q (bR (.int .i64 (rdN1 s f.slots).1) (.int .i64 (rdN2 s f.slots).1) (.int .i64 (rdN3 s f.slots).1) (.int .i64 0) (.int .u8 0))=G3 at a3 r3 q3 g3 ⊢
 rw[← hK,ws_n,aw_seq]
 clear hK
 generalize hK:WSeq _ _ _ _ _=K
 simp[go_sem]
 refine awp_region (aops_pref C8ok 1 ?_)
 simp[go_sem]
 refine aops_call rfl rfl rfl rfl Tryz.func58 (by kernel_rfl) (by kernel_rfl) (bg (-10000000) 10000000 a3.src a3.wds k3 (by rw[w3];show _ < ((s.words.length:Nat):Int);omega)) ?_
 rintro v H4 ⟨rfl,h4,f4⟩
 have b4:At H4 sb lb wb fb (rd4 s f.slots) f vr:=a3.call _ h4 f4
 have p4:=f4.keep _ _ q3 (by simp[bR,box_t])
 have s4:=r3.keep f4 (by decide)
 have e4:=g3.trans (fr_sf f4)
 rw[show numS (rd3 s f.slots) (-10000000) 10000000=rdN4 s f.slots from rfl]
 have k4:Wok (rd4 s f.slots):=k3.take _ (by omega)
 have w4:(rd4 s f.slots).word=4:=by show(rd3 s f.slots).word+1=4;omega
 have l4:=hat_lt p4
 have pp4:=p4
 simp only[bR] at pp4
 refine⟨_,rfl,aops_pref C8ok 5 ?_⟩
 simp[go_sem,pp4,l4]
 refine aops_nil ?_
 rw[show List.set H4 q (boxBlk 41 5 [.int .i64 (rdN1 s f.slots).1,.int .i64 (rdN2 s f.slots).1,.int .i64 (rdN3 s f.slots).1,.int .i64 (rdN4 s f.slots).1,.int .u8 0])=H4.set q (bR (.int .i64 (rdN1 s f.slots).1) (.int .i64 (rdN2 s f.slots).1) (.int .i64 (rdN3 s f.slots).1) (.int .i64 (rdN4 s f.slots).1) (.int .u8 0)) from rfl]
 have a4:=b4.setQ p4 rfl (bR (.int .i64 (rdN1 s f.slots).1) (.int .i64 (rdN2 s f.slots).1) (.int .i64 (rdN3 s f.slots).1) (.int .i64 (rdN4 s f.slots).1) (.int .u8 0))
 have r4:=s4.setQ hqr (bR (.int .i64 (rdN1 s f.slots).1) (.int .i64 (rdN2 s f.slots).1) (.int .i64 (rdN3 s f.slots).1) (.int .i64 (rdN4 s f.slots).1) (.int .u8 0))
 have q4:hat (H4.set q (bR (.int .i64 (rdN1 s f.slots).1) (.int .i64 (rdN2 s f.slots).1) (.int .i64 (rdN3 s f.slots).1) (.int .i64 (rdN4 s f.slots).1) (.int .u8 0))) q=some (bR (.int .i64 (rdN1 s f.slots).1) (.int .i64 (rdN2 s f.slots).1) (.int .i64 (rdN3 s f.slots).1) (.int .i64 (rdN4 s f.slots).1) (.int .u8 0)):=hat_setS l4
 have g4:=FrF.set' (X:=bR (.int .i64 (rdN1 s f.slots).1) (.int .i64 (rdN2 s f.slots).1) (.int .i64 (rdN3 s f.slots).1) (.int .i64 (rdN4 s f.slots).1) (.int .u8 0)) e4 hql
 generalize H4.set q (bR (.int .i64 (rdN1 s f.slots).1) (.int .i64 (rdN2 s f.slots).1) (.int .i64 (rdN3 s f.slots).1) (.int .i64 (rdN4 s f.slots).1) (.int .u8 0))=G4 at a4 r4 q4 g4 ⊢
 rw[← hK,ws_n,aw_seq]
 clear hK
 generalize hK:WSeq _ _ _ _ _=K
 simp[go_sem]
 refine awp_region (aops_pref C8ok 1 ?_)
 simp[go_sem]
 refine aops_call rfl rfl rfl rfl Tryz.func31 (by kernel_rfl) (by kernel_rfl) (dY a4.src a4.wds k4 (by rw[w4];show _ < ((s.words.length:Nat):Int);omega) s8_flag rfl (fun _=>trivial)) ?_
 rintro v H5 ⟨rfl,h5,f5⟩
 have b5:At H5 sb lb wb fb (rd5 s f.slots) f vr:=a4.call _ h5 f5
 have p5:=f5.keep _ _ q4 (by simp[bR,box_t])
 have s5:=r4.keep f5 (by decide)
 have e5:=g4.trans (fr_sf f5)
 rw[show(rd4 s f.slots).words[((rd4 s f.slots).word+1).toNat]?.getD ⟨#[]⟩=rdW s f.slots from rfl]
 have hw:0 < (rdW s f.slots).size:=by
  unfold rdW
  rw[w4]
  have h5' : ((4:Int)+1).toNat < s.words.length:=by rw[h6];decide
  rw[List.getElem?_eq_getElem h5']
  exact Nat.pos_of_ne_zero (hk.w _ (List.getElem_mem h5')).2
 have l5:=hat_lt p5
 have pp5:=p5
 simp only[bR] at pp5
 refine⟨_,rfl,aops_pref C8ok 3 ?_⟩
 simp[go_sem,pp5,l5,hw]
 refine aops_nil ?_
 rw[show List.set H5 q (boxBlk 41 5 [.int .i64 (rdN1 s f.slots).1,.int .i64 (rdN2 s f.slots).1,.int .i64 (rdN3 s f.slots).1,.int .i64 (rdN4 s f.slots).1,.int .u8 (byteAt (rdW s f.slots) 0)])=H5.set q (bR (.int .i64 (rdN1 s f.slots).1) (.int .i64 (rdN2 s f.slots).1) (.int .i64 (rdN3 s f.slots).1) (.int .i64 (rdN4 s f.slots).1) (.int .u8 (byteAt (rdW s f.slots) 0))) from rfl]
 have a5:=b5.setQ p5 rfl (bR (.int .i64 (rdN1 s f.slots).1) (.int .i64 (rdN2 s f.slots).1) (.int .i64 (rdN3 s f.slots).1) (.int .i64 (rdN4 s f.slots).1) (.int .u8 (byteAt (rdW s f.slots) 0)))
 have r5:=s5.setQ hqr (bR (.int .i64 (rdN1 s f.slots).1) (.int .i64 (rdN2 s f.slots).1) (.int .i64 (rdN3 s f.slots).1) (.int .i64 (rdN4 s f.slots).1) (.int .u8 (byteAt (rdW s f.slots) 0)))
 have q5:hat (H5.set q (bR (.int .i64 (rdN1 s f.slots).1) (.int .i64 (rdN2 s f.slots).1) (.int .i64 (rdN3 s f.slots).1) (.int .i64 (rdN4 s f.slots).1) (.int .u8 (byteAt (rdW s f.slots) 0)))) q=some (bR (.int .i64 (rdN1 s f.slots).1) (.int .i64 (rdN2 s f.slots).1) (.int .i64 (rdN3 s f.slots).1) (.int .i64 (rdN4 s f.slots).1) (.int .u8 (byteAt (rdW s f.slots) 0))):=hat_setS l5
 have g5:=FrF.set' (X:=bR (.int .i64 (rdN1 s f.slots).1) (.int .i64 (rdN2 s f.slots).1) (.int .i64 (rdN3 s f.slots).1) (.int .i64 (rdN4 s f.slots).1) (.int .u8 (byteAt (rdW s f.slots) 0))) e5 hql
 generalize H5.set q (bR (.int .i64 (rdN1 s f.slots).1) (.int .i64 (rdN2 s f.slots).1) (.int .i64 (rdN3 s f.slots).1) (.int .i64 (rdN4 s f.slots).1) (.int .u8 (byteAt (rdW s f.slots) 0)))=G5 at a5 r5 q5 g5 ⊢
 rw[← hK,ws_n]
 rw[aw_draw]
 refine rec_app (r:=rdR s f.slots) a5 r5 q5 hn ?_ ?_ ?_
 ·simp[go_sem]
 ·simp[go_sem]
 intro T1 H1 vr' x1 x2 x3 x4
 have ll:=g5.fr.len
 refine⟨.inl rfl,_,_,rfl,trivial,rfl,vr',x1,x2,(g5.fr.mono (by simp)).trans x3,⟨fun b B hB ht hne=>x4.old _ _ (g5.fr.keep _ _ hB (by rw[ht];decide)) ht hne,fun b n v e=>(x4.new b n v e).imp id (fun h=>by omega),fun b B hB ht hne=>x4.fil _ _ (g5.fil _ _ hB ht hne) ht hne⟩⟩
end Go.Proofs.YtjokedpaidmjoaaGreatDoor.Rf
