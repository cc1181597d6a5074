/- A part of the proof. -/
import Derived.Test.YtcmhfcciapenfaaDoorQ39
set_option linter.all false
namespace Go.Proofs.YtcmhfcciapenfaaDoor.Pa
open Go Go.RowKit Go.Proofs.YtcmhfcciapenfaaDoorW.PrintWords Am
theorem reads_at {α:Type} {R:α → List Value → Prop} {φ:Emb} {H:Heap} {base:Nat} {W:World} {b o n v:Nat} {B:Blk} {u:Value} {xs:List α} (hS:Sim φ H base W) (hx:VRel φ H (.sl b o n v) u) (hB:H[b]? = some B) (hv:B.ver=v) (hl:o+n≤B.len) (hxs:xs.length=n) (hn:n≤9223372036854775807)
  (hR : ∀ i x c,xs[i]? = some x → VRels φ H (B.get (o+i)) c → R x c) : ∃ A c,u = .slice A n c∧n≤c∧bF R B.sz W A n xs:=by
 obtain⟨A,c,e1,e2,e3⟩:=sl_val hS hx hB hv
 refine⟨A,c,e1,e2,hxs,hn,fun h0=>⟨_,e3 (by omega),fun j p hj=>?_⟩⟩
 have hlt:o+j < B.len:=by have:=(List.getElem?_eq_some_iff.1 hj).1;omega
 obtain⟨us,u1,u2,u3,u4⟩:=cells_at hS hB hlt B.sz 0 (by omega)
 have hw:=hS.wf b B hB (o+j) hlt
 rw[List.drop_zero,← hw,List.take_length] at u2
 refine⟨us,u1,hR j p us hj u2,fun i y hy=>?_⟩
 rw[Am.add_at]
 have:=u3 i y hy
 rw[Nat.add_zero,Nat.add_mul] at this
 rw[show(φ b).off+o * B.sz+(j * B.sz+i)=(φ b).off+(o * B.sz+j * B.sz)+i by omega]
 exact this
def RowO {α:Type} (H:Heap) (sz:Nat) (E:α → List AV → Prop) (l:List α) (s:AV):Prop:=(s = .nilsl∧l = [])∨∃ b o v B,s = .sl b o l.length v∧H[b]? = some B∧B.ver=v∧o+l.length≤B.len∧B.sz=sz∧∀ i x,l[i]? = some x → E x (B.get (o+i))
def blkO (H:Heap) (x:S48) (c:List AV):Prop:=∃ s,c = [.str x.f0,s]∧RowO H 2 stpE x.f1 s
structure RepO (t:Tar) (H:Heap) (s15 s16 s17 s18:AV):Prop where
 r15:RowO H 3 seaE t.f15 s15
 r16:RowO H 4 holE t.f16 s16
 r17:RowO H 5 winE t.f17 s17
 r18:RowO H 2 (blkO H) t.f18 s18
theorem dW {α:Type} {R:α → List Value → Prop} {E:α → List AV → Prop} {φ:Emb} {H:Heap} {base:Nat} {W:World} {sz:Nat} {s:AV} {u:Value} {xs:List α} (hS:Sim φ H base W) (h:RowO H sz E xs s) (hx:VRel φ H s u) (hn:xs.length≤9223372036854775807)
  (hR : ∀ x a c,x∈xs → E x a → VRels φ H a c → R x c) : ∃ A c,u = .slice A xs.length c∧xs.length≤c∧bF R sz W A xs.length xs:=by
 rcases h with ⟨rfl,rfl⟩|⟨b,o,v,B,rfl,hB,hv,hl,rfl,hE⟩
 ·obtain rfl:=(show u = .slice none 0 0 from hx)
  exact⟨none,0,rfl,Nat.le_refl _,rfl,by simp,fun h=>absurd h (by simp)⟩
 ·exact reads_at hS hx hB hv hl rfl hn (fun i x c hi hr=>hR x _ c (List.mem_of_getElem? hi) (hE i x hi) hr)
theorem repO_K {φ:Emb} {H:Heap} {base:Nat} {W:World} {t:Tar} {s15 s16 s17 s18:AV} {u:Value} (hS:Sim φ H base W) (hr:RepO t H s15 s16 s17 s18) (hx:VRel φ H (.agg (repV t s15 s16 s17 s18)) u) (hl:eu t) : ∃ cs:List Value,u = .agg cs.toArray∧kTar.K W t cs:=by
 obtain⟨vs,rfl,h⟩:=hx
 refine⟨vs.toList,by simp,?_⟩
 unfold repV at h
 generalize vs.toList=us at h ⊢
 iterate 15 (obtain⟨_,_,rfl,rfl,h_⟩:=cons_inv h;clear h;have h:=h_;clear h_)
 obtain⟨_,_,rfl,q15,h_⟩:=cons_inv h;clear h;have h:=h_;clear h_
 obtain⟨_,_,rfl,q16,h_⟩:=cons_inv h;clear h;have h:=h_;clear h_
 obtain⟨_,_,rfl,q17,h_⟩:=cons_inv h;clear h;have h:=h_;clear h_
 obtain⟨_,_,rfl,q18,h_⟩:=cons_inv h;clear h;have h:=h_;clear h_
 iterate 9 (obtain⟨_,_,rfl,rfl,h_⟩:=cons_inv h;clear h;have h:=h_;clear h_)
 obtain rfl:=(show _ = [] from h)
 obtain⟨A15,c15,rfl,l15,g15⟩:=dW (R:=k41.K W) hS hr.r15 q15 hl.l15 (fun x a c _ ha hr=>by
  unfold seaE at ha;subst ha
  obtain⟨_,_,rfl,rfl,hr_⟩:=cons_inv hr;clear hr;have hr:=hr_;clear hr_
  obtain⟨_,_,rfl,rfl,hr_⟩:=cons_inv hr;clear hr;have hr:=hr_;clear hr_
  obtain⟨_,_,rfl,rfl,hr_⟩:=cons_inv hr;clear hr;have hr:=hr_;clear hr_
  obtain rfl:=(show _ = [] from hr)
  exact k41_mk W x)
 obtain⟨A16,c16,rfl,l16,g16⟩:=dW (R:=k43.K W) hS hr.r16 q16 hl.l16 (fun x a c _ ha hr=>by
  unfold holE at ha;subst ha
  obtain⟨_,_,rfl,rfl,hr_⟩:=cons_inv hr;clear hr;have hr:=hr_;clear hr_
  obtain⟨_,_,rfl,rfl,hr_⟩:=cons_inv hr;clear hr;have hr:=hr_;clear hr_
  obtain⟨_,_,rfl,rfl,hr_⟩:=cons_inv hr;clear hr;have hr:=hr_;clear hr_
  obtain⟨_,_,rfl,rfl,hr_⟩:=cons_inv hr;clear hr;have hr:=hr_;clear hr_
  obtain rfl:=(show _ = [] from hr)
  exact k43_mk W x)
 obtain⟨A17,c17,rfl,l17,g17⟩:=dW (R:=k45.K W) hS hr.r17 q17 hl.l17 (fun x a c _ ha hr=>by
  unfold winE at ha;subst ha
  obtain⟨_,_,rfl,rfl,hr_⟩:=cons_inv hr;clear hr;have hr:=hr_;clear hr_
  obtain⟨_,_,rfl,rfl,hr_⟩:=cons_inv hr;clear hr;have hr:=hr_;clear hr_
  obtain⟨_,_,rfl,rfl,hr_⟩:=cons_inv hr;clear hr;have hr:=hr_;clear hr_
  obtain⟨_,_,rfl,rfl,hr_⟩:=cons_inv hr;clear hr;have hr:=hr_;clear hr_
  obtain⟨_,_,rfl,rfl,hr_⟩:=cons_inv hr;clear hr;have hr:=hr_;clear hr_
  obtain rfl:=(show _ = [] from hr)
  exact k45_mk W x)
 obtain⟨A18,c18,rfl,l18,g18⟩:=dW (R:=k48.K W) hS hr.r18 q18 hl.l18 (fun x a c hm ha hr=>by
  obtain⟨s,rfl,hs⟩:=ha
  obtain⟨_,_,rfl,rfl,hr_⟩:=cons_inv hr;clear hr;have hr:=hr_;clear hr_
  obtain⟨_,_,rfl,q,hr_⟩:=cons_inv hr;clear hr;have hr:=hr_;clear hr_
  obtain rfl:=(show _ = [] from hr)
  obtain⟨A1,c1,rfl,e1,e2⟩:=dW (R:=k70.K W) hS hs q (hl.ls x hm) (fun y a d _ ha hr=>by
   unfold stpE at ha;subst ha
   obtain⟨_,_,rfl,rfl,hr_⟩:=cons_inv hr;clear hr;have hr:=hr_;clear hr_
   obtain⟨_,_,rfl,rfl,hr_⟩:=cons_inv hr;clear hr;have hr:=hr_;clear hr_
   obtain rfl:=(show _ = [] from hr)
   exact k70_mk W y)
  exact k48_mk W x e1 e2)
 exact kTar_mk t l15 g15 l16 g16 l17 g17 l18 g18
theorem check_callsO {t:Tar} {H:Heap} {s15 s16 s17 s18:AV} {n e:Int} (hr:RepO t H s15 s16 s17 s18) (hl:eu t) (hk : ∃ k,sCheck.f k t=some (n,e)):ACalls Tryd.prog 12 [.agg (repV t s15 s16 s17 s18)] H fun v H'=>v = .tup [.int .i64 n,.int .i64 e]∧H' = H:=by
 intro φ base W vs hS hv
 obtain⟨u,us,rfl,hu,hus⟩:=cons_inv hv
 obtain rfl:=(show us = [] from hus)
 obtain⟨cs,rfl,hK⟩:=repO_K hS hr hu hl
 obtain⟨k,hk⟩:=hk
 refine(sCheck.calls k t cs n e W hK hk).mono ?_
 rintro e1 W' ⟨rfl,hb⟩
 obtain⟨h1,h2⟩:=Sim.below_heap hS hb
 exact⟨φ,.tup [.int .i64 n,.int .i64 e],_,H,rfl,⟨rfl,rfl⟩,Ext.refl _ _,h1,concD_rel (a:=.tup [.int .i64 n,.int .i64 e]) rfl,h2⟩
theorem rchk_calls {t:Tar} {H:Heap} {s15 s16 s17 s18:AV} {n e:Int} (hr:RepO t H s15 s16 s17 s18) (hl:eu t) (hk : ∃ k,rCheck.f k t=some (n,e)):ACalls Tryd.prog 11 [.agg (repV t s15 s16 s17 s18)] H fun v H'=>v = .tup [.int .i64 n,.int .i64 e]∧H' = H:=by
 intro φ base W vs hS hv
 obtain⟨u,us,rfl,hu,hus⟩:=cons_inv hv
 obtain rfl:=(show us = [] from hus)
 obtain⟨cs,rfl,hK⟩:=repO_K hS hr hu hl
 obtain⟨k,hk⟩:=hk
 refine(rCheck.calls k t cs n e W hK hk).mono ?_
 rintro e1 W' ⟨rfl,hb⟩
 obtain⟨h1,h2⟩:=Sim.below_heap hS hb
 exact⟨φ,.tup [.int .i64 n,.int .i64 e],_,H,rfl,⟨rfl,rfl⟩,Ext.refl _ _,h1,concD_rel (a:=.tup [.int .i64 n,.int .i64 e]) rfl,h2⟩
theorem RowIn.rowO {α:Type} {H:Heap} {sz:Nat} {E:α → List AV → Prop} {l:List α} {s:AV} (h:RowIn H sz E l s):RowO H sz E l s:=by
 rcases h with h|⟨b,v,B,h1,h2,h3,h4,h5,h6⟩
 ·exact .inl h
 ·exact .inr ⟨b,0,v,B,h1,h2,h3,by omega,h5,fun i x hx=>by rw[Nat.zero_add];exact h6 i x hx⟩
theorem RepT.repO {t:Tar} {H:Heap} {s15 s16 s17 s18:AV} (h:RepT t H s15 s16 s17 s18):RepO t H s15 s16 s17 s18:=by
 refine⟨h.r15.rowO,h.r16.rowO,h.r17.rowO,?_⟩
 rcases h.r18 with h|⟨b,v,B,h1,h2,h3,h4,h5,h6⟩
 ·exact .inl h
 ·refine .inr ⟨b,0,v,B,h1,h2,h3,by omega,h5,fun i x hx=>?_⟩
  obtain⟨s,e,r⟩:=h6 i x hx
  exact⟨s,by rw[Nat.zero_add];exact e,r.rowO⟩
theorem tarIn_mk0 (t:Tar) (L:Heap):TarIn t (tarH t ++ L) where
 g0 X:=rfl
 g1 X:=rfl
 g2 X:=rfl
 g3 X:=rfl
 g4 X i s h:=by
  unfold hat
  rw[List.append_assoc,List.getElem?_append_left (by have:=(List.getElem?_eq_some_iff.1 h).1;simp[tarH];omega)]
  simp[tarH,h]
theorem tarIn_repT {t:Tar} {H:Heap} (h:TarIn t H) (X:Heap):RepT t (H ++ X) (.sl 0 0 t.f15.length 0) (.sl 1 0 t.f16.length 0) (.sl 2 0 t.f17.length 0) (.sl 3 0 t.f18.length 0):=by
 refine⟨.inr ⟨0,0,_,rfl,h.g0 X,rfl,Nat.le_refl _,rfl,fun i x hx=>?_⟩,.inr ⟨1,0,_,rfl,h.g1 X,rfl,Nat.le_refl _,rfl,fun i x hx=>?_⟩,.inr ⟨2,0,_,rfl,h.g2 X,rfl,Nat.le_refl _,rfl,fun i x hx=>?_⟩,.inr ⟨3,0,_,rfl,h.g3 X,rfl,Nat.le_refl _,rfl,fun i x hx=>⟨_,?_,.inr ⟨i+4,0,_,rfl,h.g4 X i x hx,rfl,Nat.le_refl _,rfl,fun q y hy=>?_⟩⟩⟩⟩
 ·show seaV (t.f15.getD i z41)=seaV x
  rw[List.getD_eq_getElem?_getD,hx];rfl
 ·show holV (t.f16.getD i z43)=holV x
  rw[List.getD_eq_getElem?_getD,hx];rfl
 ·show winV (t.f17.getD i z45)=winV x
  rw[List.getD_eq_getElem?_getD,hx];rfl
 ·show blkV i (t.f18.getD i z48)=_
  rw[List.getD_eq_getElem?_getD,hx];rfl
 ·show stpV (x.f1.getD q z70)=stpV y
  rw[List.getD_eq_getElem?_getD,hy];rfl
end Go.Proofs.YtcmhfcciapenfaaDoor.Pa
