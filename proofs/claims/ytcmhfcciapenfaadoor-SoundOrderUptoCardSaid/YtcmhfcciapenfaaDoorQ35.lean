/- A part of the proof. -/
import Derived.Test.YtcmhfcciapenfaaDoorQ33
import Derived.Test.YtcmhfcciapenfaaDoorQ34
import Derived.Test.YtcmhfcciapenfaaDoorQ31
set_option linter.all false
namespace Go.Proofs.YtcmhfcciapenfaaDoor.Pa
open Go Go.RowKit Go.Proofs.YtcmhfcciapenfaaDoorW.PrintWords Am
def flatD:AV → Bool
 |.agg cs=>cs.all AV.flat
 |.tup cs=>cs.all AV.flat
 |a=>a.flat
def concD:AV → Value
 |.agg cs=>.agg (cs.map conc).toArray
 |.tup cs=>.tuple (cs.map conc).toArray
 |a=>conc a
theorem eY {φ:Emb} {H:Heap} : ∀ {l:List AV} {us:List Value},l.all AV.flat=true → VRels φ H l us → us=l.map conc
 |[],_,_,h=>h
 |a :: r,_,hf,⟨u,us',e,h1,h2⟩=>by
  simp only[List.all_cons,Bool.and_eq_true] at hf
  rw[e,flat_rel hf.1 h1,eY hf.2 h2]
  rfl
theorem flatD_rel {φ:Emb} {H:Heap} {a:AV} (h:flatD a=true) {u:Value} (hr:VRel φ H a u):u=concD a:=by
 cases a with
 |agg cs=>
  obtain⟨vs,rfl,h2⟩:=hr
  have:=eY h h2
  show Value.agg vs = .agg (cs.map conc).toArray
  rw[← this]
 |tup cs=>
  obtain⟨vs,rfl,h2⟩:=hr
  have:=eY h h2
  show Value.tuple vs = .tuple (cs.map conc).toArray
  rw[← this]
 |undef=>cases h
 |ptr=>cases h
 |sl=>cases h
 |fn=>cases h
 |opt=>cases h
 |bool=>exact hr
 |int=>exact hr
 |str=>exact hr
 |nilptr=>exact hr
 |nilsl=>exact hr
theorem concD_rel {φ:Emb} {H:Heap} {a:AV} (h:flatD a=true):VRel φ H a (concD a):=by
 cases a with
 |agg cs=>exact⟨_,rfl,by simpa using flats_rel h⟩
 |tup cs=>exact⟨_,rfl,by simpa using flats_rel h⟩
 |undef=>cases h
 |ptr=>cases h
 |sl=>cases h
 |fn=>cases h
 |opt=>cases h
 |bool=>rfl
 |int=>rfl
 |str=>rfl
 |nilptr=>rfl
 |nilsl=>rfl
theorem flatDs {φ:Emb} {H:Heap} : ∀ {l:List AV} {us:List Value},(∀ a∈l,flatD a=true) → VRels φ H l us → us=l.map concD
 |[],_,_,h=>h
 |a :: r,_,hf,⟨u,us',e,h1,h2⟩=>by
  rw[e,flatD_rel (hf a (by simp)) h1,flatDs (fun b hb=>hf b (by simp[hb])) h2]
  rfl
theorem Sim.below_heap {φ:Emb} {H:Heap} {base:Nat} {W W' : World} (hS:Sim φ H base W) (hb:Below W.heap.size W W'):Sim φ H base W'∧Below base W W':=by
 have h1:=hb.mono hS.big
 refine⟨hS.same h1 (fun b B hB ho hn=>?_),h1⟩
 rcases hS.ow b B hB ho with q|⟨_,cur,c1,_⟩
 ·rw[hn] at q;cases q.1
 ·exact hb.block _ (Array.getElem?_eq_some_iff.1 c1).1
theorem eD {P:Program} {f:FuncId} {args:List AV} {H:Heap} {v:AV} (ha : ∀ a∈args,flatD a=true) (hv:flatD v=true) (h : ∀ W,Calls P f (args.map concD).toArray W fun e W'=>e = .returned (concD v)∧Below W.heap.size W W'):ACalls P f args H fun v' H'=>v' = v∧H' = H:=by
 intro φ base W vs hS hvs
 rw[flatDs ha hvs]
 refine(h W).mono ?_
 rintro e W' ⟨rfl,hb⟩
 obtain⟨h1,h2⟩:=Sim.below_heap hS hb
 exact⟨φ,v,concD v,H,rfl,⟨rfl,rfl⟩,Ext.refl _ _,h1,concD_rel hv,h2⟩
theorem dW {α:Type} {R:α → List Value → Prop} {φ:Emb} {H:Heap} {base:Nat} {W:World} {b n v:Nat} {B:Blk} {u:Value} {xs:List α} (hS:Sim φ H base W) (hx:VRel φ H (.sl b 0 n v) u) (hB:H[b]? = some B) (hv:B.ver=v) (hl:n≤B.len) (hxs:xs.length=n) (hn:n≤9223372036854775807)
  (hR : ∀ i x c,xs[i]? = some x → VRels φ H (B.get i) c → R x c) : ∃ A c,u = .slice A n c∧n≤c∧bA R B.sz W A n xs:=by
 obtain⟨A,c,e1,e2,e3⟩:=sl_val hS hx hB hv
 refine⟨A,c,e1,e2,hxs,hn,fun h0=>⟨_,e3 (by omega),fun j p hj=>?_⟩⟩
 have hlt:j < B.len:=by have:=(List.getElem?_eq_some_iff.1 hj).1;omega
 obtain⟨us,u1,u2,u3,u4⟩:=cells_at hS hB hlt B.sz 0 (by omega)
 have hw:=hS.wf b B hB j hlt
 rw[List.drop_zero,← hw,List.take_length] at u2
 refine⟨us,u1,hR j p us hj u2,fun i y hy=>?_⟩
 rw[Am.add_at,Nat.zero_mul,Nat.add_zero]
 have:=u3 i y hy
 rw[Nat.add_zero,Nat.add_assoc] at this
 exact this
theorem cons_inv {φ:Emb} {H:Heap} {a:AV} {l:List AV} {us:List Value} (h:VRels φ H (a :: l) us) : ∃ u us',us=u :: us'∧VRel φ H a u∧VRels φ H l us':=h
structure TarLen (t:Tar):Prop where
 l15:t.f15.length≤9223372036854775807
 l16:t.f16.length≤9223372036854775807
 l17:t.f17.length≤9223372036854775807
 l18:t.f18.length≤9223372036854775807
 ls : ∀ b∈t.f18,b.f1.length≤9223372036854775807
theorem tar_K {φ:Emb} {L:Heap} {base:Nat} {W:World} {t:Tar} {u:Value} (hS:Sim φ (tarH t ++ L) base W) (hx:VRel φ (tarH t ++ L) (.agg (tarV t)) u) (hl:TarLen t) : ∃ cs:List Value,u = .agg cs.toArray∧kTar.K W t cs:=by
 obtain⟨vs,rfl,h⟩:=hx
 refine⟨vs.toList,by simp,?_⟩
 have getD_of : ∀ {α:Type} {xs:List α} {i:Nat} {x z:α},xs[i]? = some x → xs.getD i z=x:=fun h=>by rw[List.getD_eq_getElem?_getD,h];rfl
 unfold tarV at h
 generalize vs.toList=us at h ⊢
 iterate 15 (obtain⟨_,_,rfl,rfl,h_⟩:=cons_inv h;clear h;have h:=h_;clear h_)
 obtain⟨_,_,rfl,q15,h_⟩:=cons_inv h;clear h;have h:=h_;clear h_
 obtain⟨_,_,rfl,q16,h_⟩:=cons_inv h;clear h;have h:=h_;clear h_
 obtain⟨_,_,rfl,q17,h_⟩:=cons_inv h;clear h;have h:=h_;clear h_
 obtain⟨_,_,rfl,q18,h_⟩:=cons_inv h;clear h;have h:=h_;clear h_
 iterate 9 (obtain⟨_,_,rfl,rfl,h_⟩:=cons_inv h;clear h;have h:=h_;clear h_)
 obtain rfl:=(show _ = [] from h)
 obtain⟨A15,c15,rfl,l15,g15⟩:=dW (R:=k41.K W) (xs:=t.f15) hS q15 (B:=seaBlk t.f15) (by simp[tarH]) rfl (Nat.le_refl _) rfl hl.l15 (fun i x c hx hr=>by
  have hr:VRels φ _ (seaV (t.f15.getD i z41)) c:=hr
  rw[getD_of hx] at hr
  obtain⟨_,_,rfl,rfl,hr_⟩:=cons_inv hr;clear hr;have hr:=hr_;clear hr_
  obtain⟨_,_,rfl,rfl,hr_⟩:=cons_inv hr;clear hr;have hr:=hr_;clear hr_
  obtain⟨_,_,rfl,rfl,hr_⟩:=cons_inv hr;clear hr;have hr:=hr_;clear hr_
  obtain rfl:=(show _ = [] from hr)
  exact k41_mk W x)
 obtain⟨A16,c16,rfl,l16,g16⟩:=dW (R:=k43.K W) (xs:=t.f16) hS q16 (B:=holBlk t.f16) (by simp[tarH]) rfl (Nat.le_refl _) rfl hl.l16 (fun i x c hx hr=>by
  have hr:VRels φ _ (holV (t.f16.getD i z43)) c:=hr
  rw[getD_of hx] at hr
  obtain⟨_,_,rfl,rfl,hr_⟩:=cons_inv hr;clear hr;have hr:=hr_;clear hr_
  obtain⟨_,_,rfl,rfl,hr_⟩:=cons_inv hr;clear hr;have hr:=hr_;clear hr_
  obtain⟨_,_,rfl,rfl,hr_⟩:=cons_inv hr;clear hr;have hr:=hr_;clear hr_
  obtain⟨_,_,rfl,rfl,hr_⟩:=cons_inv hr;clear hr;have hr:=hr_;clear hr_
  obtain rfl:=(show _ = [] from hr)
  exact k43_mk W x)
 obtain⟨A17,c17,rfl,l17,g17⟩:=dW (R:=k45.K W) (xs:=t.f17) hS q17 (B:=winBlk t.f17) (by simp[tarH]) rfl (Nat.le_refl _) rfl hl.l17 (fun i x c hx hr=>by
  have hr:VRels φ _ (winV (t.f17.getD i z45)) c:=hr
  rw[getD_of hx] at hr
  obtain⟨_,_,rfl,rfl,hr_⟩:=cons_inv hr;clear hr;have hr:=hr_;clear hr_
  obtain⟨_,_,rfl,rfl,hr_⟩:=cons_inv hr;clear hr;have hr:=hr_;clear hr_
  obtain⟨_,_,rfl,rfl,hr_⟩:=cons_inv hr;clear hr;have hr:=hr_;clear hr_
  obtain⟨_,_,rfl,rfl,hr_⟩:=cons_inv hr;clear hr;have hr:=hr_;clear hr_
  obtain⟨_,_,rfl,rfl,hr_⟩:=cons_inv hr;clear hr;have hr:=hr_;clear hr_
  obtain rfl:=(show _ = [] from hr)
  exact k45_mk W x)
 obtain⟨A18,c18,rfl,l18,g18⟩:=dW (R:=k48.K W) (xs:=t.f18) hS q18 (B:=blkBlk t.f18) (by simp[tarH]) rfl (Nat.le_refl _) rfl hl.l18 (fun i x c hx hr=>by
  have hr:VRels φ _ (blkV i (t.f18.getD i z48)) c:=hr
  rw[getD_of hx] at hr
  obtain⟨_,_,rfl,rfl,hr_⟩:=cons_inv hr;clear hr;have hr:=hr_;clear hr_
  obtain⟨_,_,rfl,q,hr_⟩:=cons_inv hr;clear hr;have hr:=hr_;clear hr_
  obtain rfl:=(show _ = [] from hr)
  have hilt:=(List.getElem?_eq_some_iff.1 hx).1
  obtain⟨A1,c1,rfl,e1,e2⟩:=dW (R:=k70.K W) (xs:=x.f1) hS q (B:=fB x.f1) (by
   rw[List.getElem?_append_left (by simp[tarH];exact hilt)]
   simp[tarH,hx]) rfl (Nat.le_refl _) rfl (hl.ls x (List.mem_of_getElem? hx)) (fun j y d hy hr=>by
   have hr:VRels φ _ (stpV (x.f1.getD j z70)) d:=hr
   rw[getD_of hy] at hr
   obtain⟨_,_,rfl,rfl,hr_⟩:=cons_inv hr;clear hr;have hr:=hr_;clear hr_
   obtain⟨_,_,rfl,rfl,hr_⟩:=cons_inv hr;clear hr;have hr:=hr_;clear hr_
   obtain rfl:=(show _ = [] from hr)
   exact k70_mk W y)
  exact k48_mk W x e1 e2)
 exact eZ t l15 g15 l16 g16 l17 g17 l18 g18
end Go.Proofs.YtcmhfcciapenfaaDoor.Pa
