/- A part of the proof. -/
import Derived.Test.YtjokedpaidmjoaaGreatDoorQ46
set_option linter.all false
namespace Go.Proofs.YtjokedpaidmjoaaGreatDoor.Rf
open Go Go.RowKit Go.Proofs.YtjokedpaidmjoaaGreatDoor.Am Go.Proofs.YtjokedpaidmjoaaGreatDoor.Pu Go.Proofs.YtjokedpaidmjoaaGreatDoor
attribute [local go_sem] areg aseq gstep gwant astep apick aop aslice alen aappend aappendS aconvS aconvB unw opTmps opnds tmpsOf aev Am.get ofConst ofConst1 putT strip abin aun initT AThen AIn ws_n ws_r ws_e ws_g aw_seq aw_reg aw_draw aw_cond aw_block aw_skip aw_ret aw_exit aw_goto aw_label aw_loop aw_scope ANoGoto AJ ares oneOr bound asInt fieldOf ldv setSeg AV.cells AV.whole AV.cell tys Ty.agg ty9 ty3 ty2 ty5 ty4 ty89 ty21 ty37 ty46 ty83 ty73 ty81 ty41 ty23 ty25 ty27 ty28 ty48 ty65 ty38 ty67 ty88 afill zeroRow litGet litCells adraw awit adchk pchk qchk gchk looks restr tfin Has hat_z hat_s hat_len hat_appL hat_appN hat_appK hat_setS hat_setN set_appL set_appN set_appK box_t bn aD aG aH aI ax aJ row_t bq aK ay aM row_one aN
attribute [local go_sem] aQ bu aR aT aU keepT tysB
attribute [local go_sem] C14_ty C14_fn C14_ext C14_eqt s14_n bG eqs7 leqs ceq Am.fits
attribute [local go_sem] s14_can s14_same s14_parse e7_can e7_same e7_parse
attribute [local go_sem] List.set_set Am.asInt Am.bound
set_option maxRecDepth 10000
section
variable (B:Blk) (m:Nat) (g:Nat → List AV)
theorem app_t:(appBlk B m g).t=B.t:=rfl
theorem app_sz:(appBlk B m g).sz=B.sz:=rfl
theorem app_ver:(appBlk B m g).ver=B.ver+1:=rfl
theorem app_len:(appBlk B m g).len=B.len+m:=rfl
theorem app_own:(appBlk B m g).own=true:=rfl
theorem app_one:(appBlk B m g).one=false:=rfl
theorem app_get (k:Nat):(appBlk B m g).get k=if k < B.len then B.get k else g (k - B.len):=rfl
end
attribute [local go_sem] app_t app_sz app_ver app_len app_own app_one
structure Room (B:Blk) (l:List Rd):Prop where
 ver:B.ver=2
 own:B.own=true
 len:B.len=l.length+1
 t:B.t=41
 sz:B.sz=5
 get : ∀ i x,l[i]? = some x → B.get i=rdV x
 more:B.get l.length = [.int .i64 77,.int .i64 0,.int .i64 0,.int .i64 0,.int .u8 0]
theorem Room.g {B:Blk} {l:List Rd} (h:Room B l) {G:Heap} {b:Nat} (hb:hat G b=some B):RdsG G (.sl b 0 l.length 2) l:=
 .inr ⟨b,0,2,B,rfl,hb,h.ver,by have:=h.len;omega,h.t,h.sz,fun i x hx=>by rw[Nat.zero_add];exact h.get i x hx⟩
def Own (G:Heap) (v:AV) (m:Nat) (v2 v3:AV):Prop:=
 (v = .nilsl∧m=0)∨∃ b w B,v = .sl b 0 m w∧hat G b=some B∧B.ver=w∧B.own=true∧B.len=m∧B.t=41∧B.sz=5∧B.one=false∧(∀ b' n' w',v2 = .sl b' 0 n' w' → b≠b')∧(∀ b' n' w',v3 = .sl b' 0 n' w' → b≠b')
theorem Own.cell {G:Heap} {v:AV} {m:Nat} {v2 v3:AV} (h:Own G v m v2 v3):v.cell=true:=by
 rcases h with ⟨rfl,_⟩|⟨b,w,B,rfl,_⟩ <;> rfl
structure K3 (G:Heap) (q1 q2 q3:Nat) (f:Fi) (v:AV) (m:Nat) (v2 v3:AV):Prop where
 k1:hat G q1=some (fiB f v)
 k2:hat G q2=some (fiB f v2)
 k3:hat G q3=some (fiB f v3)
 n2:q1≠q2
 n3:q1≠q3
 own:Own G v m v2 v3
 r2:Rds G v2 f.reads
 r3:Rds G v3 f.reads
theorem rds_lt {H:Heap} {v:AV} {l:List Rd} (h:Rds H v l) : ∀ b n w,v = .sl b 0 n w → b < H.length:=by
 intro b n w e
 rcases h with ⟨rfl,_⟩|⟨b',w',B,rfl,h2,_⟩
 ·cases e
 ·cases e
  exact hat_lt h2
theorem K3.app {G:Heap} {q1 q2 q3:Nat} {f:Fi} {v:AV} {m:Nat} {v2 v3:AV} (h:K3 G q1 q2 q3 f v m v2 v3) (L:Heap):K3 (G ++ L) q1 q2 q3 f v m v2 v3:=by
 refine⟨hat_app h.k1 L,hat_app h.k2 L,hat_app h.k3 L,h.n2,h.n3,?_,h.r2.keep (Fr.app [] _ _) (by simp),h.r3.keep (Fr.app [] _ _) (by simp)⟩
 rcases h.own with e|⟨b,w,B,g1,g2,g3⟩
 ·exact .inl e
 ·exact .inr ⟨b,w,B,g1,hat_app g2 L,g3⟩
theorem K3.put {G:Heap} {q1 q2 q3:Nat} {f:Fi} {v:AV} {m:Nat} {v2 v3:AV} (h:K3 G q1 q2 q3 f v m v2 v3) {b w:Nat} {B:Blk} (e:v = .sl b 0 m w) (hB:hat G b=some B) (ht:B.t=41) (d2 : ∀ b' n' w',v2 = .sl b' 0 n' w' → b≠b') (d3 : ∀ b' n' w',v3 = .sl b' 0 n' w' → b≠b')
  (X:Blk) (x1:X.ver=w) (x2:X.own=true) (x3:X.len=m) (x4:X.t=41) (x5:X.sz=5) (x6:X.one=false):K3 (G.set b X) q1 q2 q3 f v m v2 v3:=by
 have n1:b≠q1:=ne_of_t hB h.k1 (by rw[ht];simp only[fiB,box_t];decide)
 have n2:b≠q2:=ne_of_t hB h.k2 (by rw[ht];simp only[fiB,box_t];decide)
 have n3:b≠q3:=ne_of_t hB h.k3 (by rw[ht];simp only[fiB,box_t];decide)
 exact⟨by rw[hat_setN n1];exact h.k1,by rw[hat_setN n2];exact h.k2,by rw[hat_setN n3];exact h.k3,h.n2,h.n3,.inr ⟨b,w,X,e,hat_setS (hat_lt hB),x1,x2,x3,x4,x5,x6,d2,d3⟩,h.r2.setQ (fun b' w' n' e=>d2 b' n' w' e) _,h.r3.setQ (fun b' w' n' e=>d3 b' n' w' e) _⟩
theorem K3.more {G:Heap} {q1 q2 q3:Nat} {f:Fi} {v:AV} {m:Nat} {v2 v3:AV} (h:K3 G q1 q2 q3 f v m v2 v3) {b w:Nat} {B:Blk} (hB:hat G b=some B) (ht:B.t=41) (d2 : ∀ b' n' w',v2 = .sl b' 0 n' w' → b≠b') (d3 : ∀ b' n' w',v3 = .sl b' 0 n' w' → b≠b')
  (X:Blk) (x1:X.ver=w) (x2:X.own=true) (x3:X.len=m+1) (x4:X.t=41) (x5:X.sz=5) (x6:X.one=false):K3 ((G.set b X).set q1 (fiB f (.sl b 0 (m+1) w))) q1 q2 q3 f (.sl b 0 (m+1) w) (m+1) v2 v3:=by
 have n1:b≠q1:=ne_of_t hB h.k1 (by rw[ht];simp only[fiB,box_t];decide)
 have n2:b≠q2:=ne_of_t hB h.k2 (by rw[ht];simp only[fiB,box_t];decide)
 have n3:b≠q3:=ne_of_t hB h.k3 (by rw[ht];simp only[fiB,box_t];decide)
 have l1:=hat_lt h.k1
 have s2:Rds (G.set b X) v2 f.reads:=h.r2.setQ (fun b' w' n' e=>d2 b' n' w' e) _
 have s3:Rds (G.set b X) v3 f.reads:=h.r3.setQ (fun b' w' n' e=>d3 b' n' w' e) _
 have k1:hat (G.set b X) q1=some (fiB f v):=by rw[hat_setN n1];exact h.k1
 have hF:Fr [25] (G.set b X) ((G.set b X).set q1 (fiB f (.sl b 0 (m+1) w))):=Fr.set k1 (by simp only[fiB,box_t];decide) _
 exact⟨hat_setS (by simpa using l1),by rw[hat_setN h.n2,hat_setN n2];exact h.k2,by rw[hat_setN h.n3,hat_setN n3];exact h.k3,h.n2,h.n3,.inr ⟨b,w,X,rfl,by rw[hat_setN (fun q=>n1 q.symm)];exact hat_setS (hat_lt hB),x1,x2,x3,x4,x5,x6,d2,d3⟩,s2.keep hF (by simp),s3.keep hF (by simp)⟩
theorem K3.first {G:Heap} {q1 q2 q3:Nat} {f:Fi} {m:Nat} {v2 v3:AV} {v:AV} (h:K3 G q1 q2 q3 f v m v2 v3) (X:Blk) (x1:X.ver=0) (x2:X.own=true) (x3:X.len=1) (x4:X.t=41) (x5:X.sz=5) (x6:X.one=false) (Y:Blk):K3 (G.set q1 (fiB f (.sl (G.length+1) 0 1 0)) ++ [Y,X]) q1 q2 q3 f (.sl (G.length+1) 0 1 0) 1 v2 v3:=by
 have l1:=hat_lt h.k1
 have hF:Fr [25] G (G.set q1 (fiB f (.sl (G.length+1) 0 1 0)) ++ [Y,X]):=(Fr.set h.k1 (by simp only[fiB,box_t];decide) _).trans (Fr.app _ _ _)
 refine⟨hat_app (hat_setS l1) _,hat_app (by rw[hat_setN h.n2];exact h.k2) _,hat_app (by rw[hat_setN h.n3];exact h.k3) _,h.n2,h.n3,.inr ⟨G.length+1,0,X,rfl,hat_appK 1 (by simp),x1,x2,x3,x4,x5,x6,fun b' n' w' e=>?_,fun b' n' w' e=>?_⟩,h.r2.keep hF (by simp),h.r3.keep hF (by simp)⟩
 ·have:=rds_lt h.r2 _ _ _ e
  omega
 ·have:=rds_lt h.r3 _ _ _ e
  omega
set_option maxHeartbeats 8000000 in
theorem keeps_calls {H:Heap} {f:Fi} {vr:AV} {a:ByteArray} (hr:RdsG H vr f.reads) (hf:FiFit f) (hs:a.size≤70368744177664):ACalls Tryz.prog 8 [.agg (fiV f vr),.str a] H fun v _=>v = .bool true:=by
 refine acalls_ofN (C:=C14) (nt:=Tryz.f8.ntmps) C14ok Tryz.func8 rfl rfl ?_
 have cc:=hr.cell
 have hc:=cc
 simp only[AV.cell] at hc
 have ml:maxLen=9223372036854775807:=by decide
 have hfl:=hf.len
 refine awp_step C14ok fun K hK=>?_
 simp[go_sem,fiV,hc]
 rw[hK,athen_n]
 refine awp_live [1,2] ?_
 simp[go_sem]
 clear hK K
 change AWp C14 _ H _ _ _ (H ++ [fiB f vr])
 obtain⟨G,hG⟩ : ∃ G,G=H ++ [fiB f vr]:=⟨_,rfl⟩
 have hP:PF H G H.length f vr:=by rw[hG];exact⟨hat_new _ _,hr.keep (Fr.app [] _ _) (by simp)⟩
 rw[← hG]
 have hl:H.length≤G.length:=by rw[hG];simp
 clear hG
 obtain⟨fb,hfb⟩ : ∃ fb,fb=H.length:=⟨_,rfl⟩
 rw[← hfb] at hP ⊢
 clear hfb
 refine awp_seq ?_
 refine awp_seq (awp_region (aops_pref C14ok 0 ?_))
 simp[go_sem]
 refine aops_call rfl rfl rfl rfl Tryz.func9 (by kernel_rfl) (by kernel_rfl) awake_calls ?_
 rintro v G1 ⟨rfl,hF1⟩
 refine⟨_,rfl,aops_pref C14ok 1 ?_⟩
 simp[go_sem]
 refine aops_nil ?_
 refine awp_live [1,2,18] ?_
 simp[go_sem]
 have hP:=hP.keep hF1 (by simp) (by simp)
 clear hF1
 refine awalk_sound C14ok _ _ _ _ ?_
 simp[go_sem]
 refine awp_step C14ok fun K hK=>?_
 suffices hsuf : ∀ T G2 rb B,Has T [(1,.str a),(2,.ptr fb 0 0 0),(5,.sl rb 0 (f.reads.length+1) 2)] → PF H G2 fb f vr → hat G2 rb=some B → Room B f.reads → K .normal T G2 by
  obtain⟨fil,rds⟩:=hP
  simp only[fiB,fiV] at fil
  rcases rds with ⟨rfl,h0⟩|⟨b,p,v,B,rfl,h2,h3,h5,h6,h7,h8⟩
  ·have fa:=fun L=>hat_app fil L
   simp[go_sem,fil,fa]
   simp only[h0] at hsuf
   refine⟨by rw[ml];omega,?_⟩
   exact hsuf _ _ G1.length _ ⟨rfl,rfl,rfl,trivial⟩ ⟨by simpa [fiB,fiV] using fa _,.inl ⟨rfl,h0⟩⟩ (hat_appN rfl) ⟨rfl,rfl,rfl,rfl,rfl,fun i x hx=>by simp at hx,rfl⟩
  ·have fa:=fun L=>hat_app fil L
   have ha:=fun L=>hat_app h2 L
   simp[go_sem,fil,fa,ha,h2,h3,h7]
   refine⟨⟨by omega,by omega⟩,?_⟩
   refine hsuf _ _ G1.length _ ⟨rfl,rfl,rfl,trivial⟩ ⟨by simpa [fiB,fiV] using fa _,?_⟩ (hat_appN rfl) ⟨rfl,rfl,?_,rfl,rfl,?_,?_⟩
   ·exact .inr ⟨b,p,v,B,rfl,ha _,h3,h5,h6,h7,h8⟩
   ·show 0+f.reads.length+1=f.reads.length+1
    omega
   ·intro i x hx
    have hi:=(List.getElem?_eq_some_iff.1 hx).1
    rw[app_get,app_len,app_get,ay,if_pos (by omega),if_neg (by omega),Nat.sub_zero]
    exact h8 i x hx
   ·rw[app_get,app_len,ay,if_neg (by omega)]
    simp
 clear hP
 intro T G2 rb B hT hP hb hR
 rw[hK,athen_n]
 refine awp_weak ⟨hT,.inl rfl⟩ ?_
 clear hK K hT T
 have fil:=hP.fil
 simp only[fiB,fiV] at fil
 refine awp_step C14ok fun K hK=>?_
 simp[go_sem,fil,hc]
 rw[hK,athen_n]
 refine awp_live [1,2,5,6] ?_
 simp[go_sem]
 clear hK K
 change AWp C14 _ H _ _ _ (G2 ++ [fiB f vr])
 obtain⟨G3,hG3⟩ : ∃ G3,G3=G2 ++ [fiB f vr]:=⟨_,rfl⟩
 have k6:hat G3 G2.length=some (fiB f vr):=hG3 ▸ hat_appN rfl
 have hP:PF H G3 fb f vr:=hG3 ▸ hP.keep (Fr.app [] _ _) (by simp) (by simp)
 have hb:hat G3 rb=some B:=hG3 ▸ hat_app hb _
 have hn:G2.length≠fb:=fun e=>by have:=hat_lt fil;omega
 have hn2:rb≠G2.length:=fun e=>by rw[e] at hb;rw[k6] at hb;have:=hR.t;rw[← Option.some.inj hb] at this;simp only[fiB,box_t] at this;exact absurd this (by decide)
 rw[← hG3]
 clear hG3 fil
 have fil:=hP.fil
 generalize G2.length=p6 at *
 have u6:=k6
 have l6:=hat_lt k6
 simp only[fiB,fiV] at u6 fil
 refine awp_step C14ok fun K hK=>?_
 suffices hsuf:K .normal [(1,.str a),(6,.ptr p6 0 0 0),(2,.ptr fb 0 0 0),(5,.sl rb 0 (f.reads.length+1) 2)] (G3.set p6 (fiB f (.sl rb 0 f.reads.length 2))) by
  rcases hP.rds with ⟨rfl,h0⟩|⟨b,p,v,B',rfl,h2,h3,h5,h6,h7,h8⟩
  ·simp[go_sem,u6,fil,hb,hR.ver,hR.sz,hR.own,hR.len]
   refine⟨by omega,?_⟩
   rw[hK,athen_n]
   rw[h0,hK,athen_n] at hsuf
   refine awp_live [1,6,2,5] ?_
   simp[go_sem]
   rw[h0]
   exact hsuf
  ·simp[go_sem,u6,fil,hb,h2,h3,hR.ver,hR.sz,hR.own,hR.len]
   refine⟨by omega,?_⟩
   rw[hK,athen_n]
   rw[hK,athen_n] at hsuf
   refine awp_live [1,6,2,5] ?_
   simp[go_sem]
   exact hsuf
 rw[hK,athen_n]
 clear hK K
 obtain⟨G4,hG4⟩ : ∃ G4,G4=G3.set p6 (fiB f (.sl rb 0 f.reads.length 2)):=⟨_,rfl⟩
 have k6' : hat G4 p6=some (fiB f (.sl rb 0 f.reads.length 2)):=hG4 ▸ hat_setS l6
 have hb:hat G4 rb=some B:=hG4 ▸ (by rw[hat_setN (fun e=>hn2 e.symm)];exact hb)
 have hP:PF H G4 fb f vr:=by
  rw[hG4]
  exact⟨by rw[hat_setN hn];exact hP.fil,by
   refine hP.rds.keep (Fr.set k6 (by simp only[fiB,box_t];decide) _) (ts:=[25]) (by simp)⟩
 rw[← hG4]
 clear hG4 u6 k6 l6 hn hn2 fil
 have k6:=k6'
 clear k6'
 have cin:=AV.cell
 have fil:=hP.fil
 have u6:=k6
 simp only[fiB,fiV] at u6 fil
 refine awp_seq (awp_region (aops_pref C14ok 1 ?_))
 simp[go_sem,u6]
 refine aops_call rfl rfl rfl rfl Tryz.func14 (by kernel_rfl) (by kernel_rfl) (print_calls (hR.g hb) hf.rw hf.len hf.met hf.num) ?_
 rintro v G5 ⟨rfl,hF5⟩
 refine⟨_,rfl,?_⟩
 refine aops_nil ?_
 refine awp_live [1,2,5,6] ?_
 simp[go_sem]
 have hP:=hP.keep hF5 (by simp) (by simp)
 have k6:=hF5.keep _ _ k6 (by simp only[fiB,box_t];decide)
 have hb:=hF5.keep _ _ hb (by rw[hR.t];decide)
 clear hF5 u6 fil
 have fil:=hP.fil
 have u6:=k6
 simp only[fiB,fiV] at u6 fil
 refine awp_seq (awp_region (aops_pref C14ok 1 ?_))
 simp[go_sem,u6]
 refine aops_call rfl rfl rfl rfl Tryz.func17 (by kernel_rfl) (by kernel_rfl) (dO (hR.g hb) hf.rw hf.len) ?_
 rintro v G6 ⟨rfl,hF5⟩
 refine⟨_,rfl,?_⟩
 refine aops_nil ?_
 refine awp_live [1,2,5,6] ?_
 simp[go_sem]
 have hP:=hP.keep hF5 (by simp) (by simp)
 have k6:=hF5.keep _ _ k6 (by simp only[fiB,box_t];decide)
 have hb:=hF5.keep _ _ hb (by rw[hR.t];decide)
 clear hF5 u6 fil
 obtain⟨⟨g,l,c,e⟩,hq⟩ : ∃ q,q=pVal (pR a):=⟨_,rfl⟩
 have hgl:=pVal_len a
 refine awp_seq (awp_region (aops_pref C14ok 1 ?_))
 simp[go_sem]
 refine aops_call rfl rfl rfl rfl Tryz.func11 (by kernel_rfl) (by kernel_rfl) (eH hs) ?_
 rintro v G7 hv
 obtain⟨hF7,v1,rfl,r1,_⟩:=fP (pPost_r hv)
 have c1:=r1.cell
 simp only[AV.cell] at c1
 rw[← hq] at r1 hgl ⊢
 dsimp only at r1 hgl ⊢
 refine⟨_,rfl,aops_pref C14ok 9 ?_⟩
 simp[go_sem,fiV,c1]
 refine aops_nil ?_
 refine awp_live [1,2,5,6,7] ?_
 simp[go_sem]
 change AWp C14 _ H _ _ _ (G7 ++ [fiB g v1,plB l c])
 have hP:=hP.keep (hF7.trans (Fr.app _ _ [fiB g v1,plB l c])) (by simp) (by simp)
 have k6:=(hF7.trans (Fr.app _ _ [fiB g v1,plB l c])).keep _ _ k6 (by simp only[fiB,box_t];decide)
 have hb:=(hF7.trans (Fr.app _ _ [fiB g v1,plB l c])).keep _ _ hb (by rw[hR.t];decide)
 have r1:Rds (G7 ++ [fiB g v1,plB l c]) v1 g.reads:=r1.keep (Fr.app [] _ _) (by simp)
 have q1:hat (G7 ++ [fiB g v1,plB l c]) G7.length=some (fiB g v1):=hat_appN rfl
 generalize G7 ++ [fiB g v1,plB l c]=G8 at *
 generalize G7.length=p1 at *
 clear hF7 hv
 refine awp_seq (awp_region (aops_pref C14ok 1 ?_))
 simp[go_sem]
 refine aops_call rfl rfl rfl rfl Tryz.func11 (by kernel_rfl) (by kernel_rfl) (eH hs) ?_
 rintro v G9 hv
 obtain⟨hF7,v2,rfl,r2,n2⟩:=fP (pPost_r hv)
 have c2:=r2.cell
 simp only[AV.cell] at c2
 rw[← hq] at r2 ⊢
 dsimp only at r2 ⊢
 refine⟨_,rfl,aops_pref C14ok 9 ?_⟩
 simp[go_sem,fiV,c2]
 refine aops_nil ?_
 refine awp_live [1,2,5,6,7,10] ?_
 simp[go_sem]
 change AWp C14 _ H _ _ _ (G9 ++ [fiB g v2,plB l c])
 have n12 : ∀ b n w b' n' w',v1 = .sl b 0 n w → v2 = .sl b' 0 n' w' → b≠b':=fun b n w b' n' w' e1 e2=>by
  have h1:=rds_lt r1 _ _ _ e1
  have h2:=n2 _ _ _ e2
  omega
 have m12:p1≠G9.length:=by have h1:=hat_lt q1;have:=hF7.len;omega
 have hP:=hP.keep (hF7.trans (Fr.app _ _ [fiB g v2,plB l c])) (by simp) (by simp)
 have k6:=(hF7.trans (Fr.app _ _ [fiB g v2,plB l c])).keep _ _ k6 (by simp only[fiB,box_t];decide)
 have hb:=(hF7.trans (Fr.app _ _ [fiB g v2,plB l c])).keep _ _ hb (by rw[hR.t];decide)
 have r1:=r1.keep (hF7.trans (Fr.app _ _ [fiB g v2,plB l c])) (by simp)
 have q1:=(hF7.trans (Fr.app _ _ [fiB g v2,plB l c])).keep _ _ q1 (by simp only[fiB,box_t];decide)
 have r2:Rds (G9 ++ [fiB g v2,plB l c]) v2 g.reads:=r2.keep (Fr.app [] _ _) (by simp)
 have q2:hat (G9 ++ [fiB g v2,plB l c]) G9.length=some (fiB g v2):=hat_appN rfl
 generalize G9 ++ [fiB g v2,plB l c]=G10 at *
 generalize G9.length=p2 at *
 clear hF7 hv n2
 refine awp_seq (awp_region (aops_pref C14ok 1 ?_))
 simp[go_sem]
 refine aops_call rfl rfl rfl rfl Tryz.func10 (by kernel_rfl) (by kernel_rfl) (rparse_calls hs) ?_
 rintro v G11 hv
 obtain⟨hF7,v3,rfl,r3,n3⟩:=fP hv
 have c3:=r3.cell
 simp only[AV.cell] at c3
 rw[← hq] at r3 ⊢
 dsimp only at r3 ⊢
 refine⟨_,rfl,aops_pref C14ok 9 ?_⟩
 simp[go_sem,fiV,c3]
 refine aops_nil ?_
 refine awp_live [2,5,6,7,10,13] ?_
 simp[go_sem]
 change AWp C14 _ H _ _ _ (G11 ++ [fiB g v3,plB l c])
 have n13 : ∀ b n w b' n' w',v1 = .sl b 0 n w → v3 = .sl b' 0 n' w' → b≠b':=fun b n w b' n' w' e1 e2=>by
  have h1:=rds_lt r1 _ _ _ e1
  have h2:=n3 _ _ _ e2
  omega
 have m13:p1≠G11.length:=by have h1:=hat_lt q1;have:=hF7.len;omega
 have hP:=hP.keep (hF7.trans (Fr.app _ _ [fiB g v3,plB l c])) (by simp) (by simp)
 have k6:=(hF7.trans (Fr.app _ _ [fiB g v3,plB l c])).keep _ _ k6 (by simp only[fiB,box_t];decide)
 have hb:=(hF7.trans (Fr.app _ _ [fiB g v3,plB l c])).keep _ _ hb (by rw[hR.t];decide)
 have r1:=r1.keep (hF7.trans (Fr.app _ _ [fiB g v3,plB l c])) (by simp)
 have r2:=r2.keep (hF7.trans (Fr.app _ _ [fiB g v3,plB l c])) (by simp)
 have q1:=(hF7.trans (Fr.app _ _ [fiB g v3,plB l c])).keep _ _ q1 (by simp only[fiB,box_t];decide)
 have q2:=(hF7.trans (Fr.app _ _ [fiB g v3,plB l c])).keep _ _ q2 (by simp only[fiB,box_t];decide)
 have r3:Rds (G11 ++ [fiB g v3,plB l c]) v3 g.reads:=r3.keep (Fr.app [] _ _) (by simp)
 have q3:hat (G11 ++ [fiB g v3,plB l c]) G11.length=some (fiB g v3):=hat_appN rfl
 generalize G11 ++ [fiB g v3,plB l c]=G12 at *
 generalize G11.length=p3 at *
 clear hF7 hv n3
 have fil:=hP.fil
 have u6:=k6
 have u1:=q1
 have u3:=q3
 simp only[fiB,fiV] at u6 fil u1 u3
 refine awp_seq (awp_seq (awp_mono (R:=fun e T G'=>e = .normal∧Fr [] G12 G'∧Has T [(7,.ptr p1 0 0 0),(10,.ptr p2 0 0 0),(13,.ptr p3 0 0 0),(74,.bool false)]) ?_ ?_))
 ·refine awp_region (aops_pref C14ok 2 ?_)
  simp[go_sem,u6,fil,hc]
  refine aops_call rfl rfl rfl rfl Tryz.func12 (by kernel_rfl) (by kernel_rfl) (eB (hR.g hb) hP.rds (by omega)) ?_
  rintro v G13 ⟨rfl,hF13⟩
  rw[eD f]
  have hP:=hP.keep hF13 (by simp) (by simp)
  have hb:=hF13.keep _ _ hb (by rw[hR.t];decide)
  have r1:=r1.keep hF13 (by simp)
  have r3:=r3.keep hF13 (by simp)
  have q1:=hF13.keep _ _ q1 (by simp only[fiB,box_t];decide)
  have q3:=hF13.keep _ _ q3 (by simp only[fiB,box_t];decide)
  clear u6 fil u1 u3 k6
  have fil:=hP.fil
  have u1:=q1
  have u3:=q3
  simp only[fiB,fiV] at fil u1 u3
  have hmore:=hR.more
  refine⟨_,rfl,aops_pref C14ok 14 ?_⟩
  rcases hP.rds with ⟨hv0,h0⟩|⟨b,p,v,B',hv0,h2,h3,h5,h6,h7,h8⟩
  ·rw[hv0] at fil
   have hm0:B.get 0 = [.int .i64 77,.int .i64 0,.int .i64 0,.int .i64 0,.int .u8 0]:=by rw[h0] at hmore;exact hmore
   simp[go_sem,fil,hb,hR.ver,hR.sz,hR.own,hR.len,hm0,u1,u3,c1,c3]
   refine aops_optC (d:=70) rfl (aops_optC (d:=71) rfl ?_)
   refine aops_gcallC (j:=14) (d:=69) (want:=false) rfl rfl rfl rfl rfl rfl Tryz.func12 (by kernel_rfl) (by kernel_rfl) (eB r1.g r3.g (by omega)) ?_
   rintro v G14 ⟨rfl,hF14⟩
   rw[eD g]
   refine⟨_,rfl,aops_pref C14ok 2 ?_⟩
   simp[go_sem]
   refine aops_nil ?_
   exact⟨rfl,hF13.trans hF14,rfl,rfl,rfl,rfl⟩
  ·rw[hv0] at fil
   simp[go_sem,fil,hb,hR.ver,hR.sz,hR.own,hR.len,h2,h3,hmore,u1,u3,c1,c3]
   refine⟨by omega,?_⟩
   refine aops_optC (d:=70) rfl (aops_optC (d:=71) rfl ?_)
   refine aops_gcallC (j:=14) (d:=69) (want:=false) rfl rfl rfl rfl rfl rfl Tryz.func12 (by kernel_rfl) (by kernel_rfl) (eB r1.g r3.g (by omega)) ?_
   rintro v G14 ⟨rfl,hF14⟩
   rw[eD g]
   refine⟨_,rfl,aops_pref C14ok 2 ?_⟩
   simp[go_sem]
   refine aops_nil ?_
   exact⟨rfl,hF13.trans hF14,rfl,rfl,rfl,rfl⟩
 rintro e T G14 ⟨rfl,hF,hT⟩
 refine awp_weak ⟨hT,.inl rfl⟩ ?_
 clear hT T
 have r1:=r1.keep hF (by simp)
 have r2:=r2.keep hF (by simp)
 have r3:=r3.keep hF (by simp)
 have q1:=hF.keep _ _ q1 (by simp only[fiB,box_t];decide)
 have q2:=hF.keep _ _ q2 (by simp only[fiB,box_t];decide)
 have q3:=hF.keep _ _ q3 (by simp only[fiB,box_t];decide)
 clear hF u6 fil u1 u3
 refine awalk_sound C14ok _ _ _ _ ?_
 simp[go_sem]
 clear k6 hb hP hR
 have hK3:K3 G14 p1 p2 p3 g v1 g.reads.length v2 v3∨∃ b B,hat G14 b=some B∧B.own=true∧K3 (G14.set b B.plain) p1 p2 p3 g v1 g.reads.length v2 v3:=by
  have r1':=r1
  rcases r1' with ⟨e1,e2⟩|⟨b,v,B,e1,g2,g3,g4,g5,g6,g7,g8⟩
  ·exact .inl ⟨q1,q2,q3,m12,m13,.inl ⟨e1,by rw[e2];rfl⟩,r2,r3⟩
  ·have hl:=hat_lt g2
   have n1:b≠p1:=ne_of_t g2 q1 (by rw[g6];simp only[fiB,box_t];decide)
   have n2:b≠p2:=ne_of_t g2 q2 (by rw[g6];simp only[fiB,box_t];decide)
   have n3:b≠p3:=ne_of_t g2 q3 (by rw[g6];simp only[fiB,box_t];decide)
   have d2 : ∀ b' n' w',v2 = .sl b' 0 n' w' → b≠b':=fun b' n' w' e=>n12 _ _ _ _ _ _ e1 e
   have d3 : ∀ b' n' w',v3 = .sl b' 0 n' w' → b≠b':=fun b' n' w' e=>n13 _ _ _ _ _ _ e1 e
   refine .inr ⟨b,B,g2,g4,⟨by rw[hat_setN n1];exact q1,by rw[hat_setN n2];exact q2,by rw[hat_setN n3];exact q3,m12,m13,.inr ⟨b,v,B.plain,e1,hat_setS hl,g3,g4,g5,g6,g7,rfl,d2,d3⟩,r2.setQ (fun b' w' n' e=>d2 b' n' w' e) _,r3.setQ (fun b' w' n' e=>d3 b' n' w' e) _⟩⟩
 have hgo : ∃ G,K3 G p1 p2 p3 g v1 g.reads.length v2 v3∧∀ (c:Code) (R:APost) T,AWp C14 99 H c R T G → AWp C14 99 H c R T G14:=by
  rcases hK3 with h|⟨b,B,hB,ho,h⟩
  ·exact⟨_,h,fun _ _ _ h=>h⟩
  ·exact⟨_,h,fun _ _ _ h=>awp_plain hB ho h⟩
 obtain⟨G15,hk,hto⟩:=hgo
 refine hto _ _ _ ?_
 clear hto hK3 r1 r2 r3 q1 q2 q3 n12 n13 m12 m13
 refine awp_seq ?_
 refine awp_seq (awp_mono (R:=fun e T G'=>e = .normal∧G' = G15∧Has T [(7,.ptr p1 0 0 0),(10,.ptr p2 0 0 0),(13,.ptr p3 0 0 0),(77,.int .i64 g.reads.length),(78,.int .i64 ((0:Nat):Int))]) ?_ ?_)
 ·refine awalk_sound C14ok _ _ _ _ ?_
  have u1:=hk.k1
  simp only[fiB,fiV] at u1
  rcases hk.own with ⟨rfl,h0⟩|⟨b,w,B,rfl,g2,g3,g4,g5,g6,g7,g8,g9,g10⟩
  ·simp[go_sem,u1,h0]
  ·simp[go_sem,u1,g2,g3]
 rintro e T G' ⟨rfl,rfl,hT⟩
 refine awp_weak ⟨hT,.inl rfl⟩ ?_
 clear hT T
 refine awp_block (awp_loopQ (fun k T G=>∃ j:Nat,k+j=g.reads.length∧K3 G p1 p2 p3 g v1 g.reads.length v2 v3∧T = [(7,.ptr p1 0 0 0),(10,.ptr p2 0 0 0),(13,.ptr p3 0 0 0),(77,.int .i64 g.reads.length),(78,.int .i64 j)]) g.reads.length ⟨0,rfl,hk,rfl⟩ ?_)
 clear hk
 rintro k T G ⟨j,hj,hk,rfl⟩ Q hN hX
 refine awp_step C14ok fun K hK=>?_
 simp[go_sem]
 rw[hK,athen_n]
 refine awp_live [7,10,13,77,78,79] ?_
 simp[go_sem]
 clear hK K
 refine awp_step C14ok fun K hK=>?_
 simp[go_sem]
 refine⟨fun hjn=>?_,fun hjn=>?_⟩
 ·rw[hK,athen_n]
  refine awp_live [7,10,13,77,78] ?_
  simp[go_sem]
  clear hK K
  have hw:IntKind.i64.wrap ((j:Int)+1)=(j:Int)+1:=av (by omega) (by omega)
  have u1:=hk.k1
  simp only[fiB,fiV] at u1
  obtain⟨e1,e0⟩|⟨b,w,B,e1,g2,g3,g4,g5,g6,g7,g8,g9,g10⟩:=hk.own
  ·omega
  refine awalk_sound C14ok _ _ _ _ ?_
  rw[e1] at u1
  simp[go_sem,u1,g2,g3,g4,g5,g7,g8,hw]
  refine⟨hjn,?_⟩
  exact hN (k - 1) _ _ (T2:=[(7,.ptr p1 0 0 0),(10,.ptr p2 0 0 0),(13,.ptr p3 0 0 0),(77,.int .i64 g.reads.length),(78,.int .i64 ((j+1:Nat):Int))]) (by omega) ⟨rfl,rfl,rfl,rfl,rfl,trivial⟩ ⟨j+1,by omega,hk.put e1 g2 g6 g9 g10 _ g3 g4 g5 g6 g7 g8,rfl⟩
 ·rw[hK]
  refine hX (.exit 0) _ _ (by simp) ?_
  show AWp _ _ _ _ _ _ _
  clear hN hX hK K Q hj hjn
  refine awp_seq ?_
  refine awp_step C14ok fun K hK=>?_
  simp[go_sem]
  rw[hK,athen_n]
  refine awp_live [7,10,13,87] ?_
  simp[go_sem]
  clear hK K
  refine awp_block (awp_loopQ (fun k T G=>∃ (j m:Nat) (v:AV),k+j=20∧m≤g.reads.length+j∧K3 G p1 p2 p3 g v m v2 v3∧T = [(7,.ptr p1 0 0 0),(10,.ptr p2 0 0 0),(13,.ptr p3 0 0 0),(87,.int .i64 j)]) 20 ⟨0,_,_,rfl,Nat.le_refl _,hk,rfl⟩ ?_)
  clear hk
  rintro k T G ⟨j,m,v,hj,hm,hk,rfl⟩ Q hN hX
  refine awp_step C14ok fun K hK=>?_
  simp[go_sem]
  rw[hK,athen_n]
  refine awp_live [7,10,13,87,88] ?_
  simp[go_sem]
  clear hK K
  refine awp_step C14ok fun K hK=>?_
  have u1:=hk.k1
  have u2:=hk.k2
  have u3:=hk.k3
  have lp:=hat_lt u1
  have hcv:=hk.own.cell
  have hc2:=hk.r2.cell
  have hc3:=hk.r3.cell
  simp only[AV.cell] at hcv hc2 hc3
  simp only[fiB,fiV] at u1 u2 u3
  by_cases hjn:j < 20
  ·have hjn2:(j:Int) < 20:=by omega
   simp[go_sem,hjn,hjn2]
   rw[hK,athen_n]
   refine awp_live [7,10,13,87] ?_
   simp[go_sem]
   clear hK K
   have hw:IntKind.i64.wrap ((j:Int)+1)=(j:Int)+1:=av (by omega) (by omega)
   refine awalk_sound C14ok _ _ _ _ ?_
   rcases hk.own with ⟨rfl,h0⟩|⟨b,w,B,rfl,g2,g3,g4,g5,g6,g7,g8,g9,g10⟩
   ·have ua:=fun L=>hat_app u1 L
    simp[go_sem,u1,ua,lp,hw]
    refine⟨by rw[ml];omega,?_⟩
    exact hN (k - 1) _ _ (T2:=[(7,.ptr p1 0 0 0),(10,.ptr p2 0 0 0),(13,.ptr p3 0 0 0),(87,.int .i64 ((j+1:Nat):Int))]) (by omega) ⟨rfl,rfl,rfl,rfl,trivial⟩ ⟨j+1,1,_,by omega,by omega,hk.first _ rfl rfl rfl rfl rfl rfl _,rfl⟩
   ·have ua:=fun L=>hat_app u1 L
    have ub:=fun L=>hat_app g2 L
    have lb:=hat_lt g2
    have nbp:b≠p1:=ne_of_t g2 hk.k1 (by rw[g6];simp only[fiB,box_t];decide)
    have npb:p1≠b:=fun e=>nbp e.symm
    simp[go_sem,u1,ua,ub,g2,g3,g4,g5,g6,g7,g8,lb,lp,nbp,npb,hw]
    refine⟨⟨by rw[ml];omega,by omega⟩,?_⟩
    exact hN (k - 1) _ _ (T2:=[(7,.ptr p1 0 0 0),(10,.ptr p2 0 0 0),(13,.ptr p3 0 0 0),(87,.int .i64 ((j+1:Nat):Int))]) (by omega) ⟨rfl,rfl,rfl,rfl,trivial⟩ ⟨j+1,m+1,_,by omega,by omega,(hk.more g2 g6 g9 g10 (appBlk B 1 _) (by rw[app_ver,g3]) rfl (by rw[app_len,g5]) g6 g7 rfl).app _,rfl⟩
  ·have hjn2 : ¬ (j:Int) < 20:=by omega
   simp[go_sem,hjn,hjn2]
   rw[hK]
   refine hX (.exit 2) _ _ (by simp) ?_
   show AWp _ _ _ _ _ _ _
   refine awp_seq (awp_region (aops_pref C14ok 2 ?_))
   simp[go_sem,u2,u3]
   refine aops_call rfl rfl rfl rfl Tryz.func12 (by kernel_rfl) (by kernel_rfl) (eB hk.r2.g hk.r3.g (by omega)) ?_
   rintro v G14 ⟨rfl,hF14⟩
   rw[eD g]
   refine⟨_,rfl,aops_pref C14ok 1 ?_⟩
   simp[go_sem]
   refine aops_nil ?_
   refine awalk_sound C14ok _ _ _ _ ?_
   simp[go_sem]
   refine⟨.inr rfl,?_⟩
   simp[go_sem]
   exact⟨_,True,⟨rfl,trivial⟩,trivial,rfl⟩
end Go.Proofs.YtjokedpaidmjoaaGreatDoor.Rf
