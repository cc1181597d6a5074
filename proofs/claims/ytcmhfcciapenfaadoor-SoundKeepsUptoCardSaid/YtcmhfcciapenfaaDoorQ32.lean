/- A part of the proof. -/
import Derived.Test.YtcmhfcciapenfaaDoorQ30
import Derived.Test.YtcmhfcciapenfaaDoorQ31
import Derived.Test.YtcmhfcciapenfaaDoorQ28
set_option linter.all false
namespace Go.Proofs.YtcmhfcciapenfaaDoor.Pa
open Go Go.RowKit Go.Proofs.YtcmhfcciapenfaaDoorW.PrintWords Am
def flatD:AV → Bool
 |.agg cs=>cs.all AV.flat
 |.tup cs=>cs.all AV.flat
 |a=>a.flat
def concD:AV → Value
 |.agg cs=>.agg (cs.map conc).toArray
 |.tup cs=>.tuple (cs.map conc).toArray
 |a=>conc a
theorem eD {φ:Emb} {H:Heap} : ∀ {l:List AV} {us:List Value},l.all AV.flat=true → VRels φ H l us → us=l.map conc
 |[],_,_,h=>h
 |a :: r,_,hf,⟨u,us',e,h1,h2⟩=>by
  simp only[List.all_cons,Bool.and_eq_true] at hf
  rw[e,flat_rel hf.1 h1,eD hf.2 h2]
  rfl
theorem flatD_rel {φ:Emb} {H:Heap} {a:AV} (h:flatD a=true) {u:Value} (hr:VRel φ H a u):u=concD a:=by
 cases a with
 |agg cs=>
  obtain⟨vs,rfl,h2⟩:=hr
  have:=eD h h2
  show Value.agg vs = .agg (cs.map conc).toArray
  rw[← this]
 |tup cs=>
  obtain⟨vs,rfl,h2⟩:=hr
  have:=eD h h2
  show Value.tuple vs = .tuple (cs.map conc).toArray
  rw[← this]
 |undef=>cases h
 |ptr=>cases h
 |sl=>cases h
 |fn=>cases h
 |opt=>cases h
 |bool=>exact hr
 |int=>exact hr
 |str=>exact hr
 |nilptr=>exact hr
 |nilsl=>exact hr
theorem concD_rel {φ:Emb} {H:Heap} {a:AV} (h:flatD a=true):VRel φ H a (concD a):=by
 cases a with
 |agg cs=>exact⟨_,rfl,by simpa using flats_rel h⟩
 |tup cs=>exact⟨_,rfl,by simpa using flats_rel h⟩
 |undef=>cases h
 |ptr=>cases h
 |sl=>cases h
 |fn=>cases h
 |opt=>cases h
 |bool=>rfl
 |int=>rfl
 |str=>rfl
 |nilptr=>rfl
 |nilsl=>rfl
theorem flatDs {φ:Emb} {H:Heap} : ∀ {l:List AV} {us:List Value},(∀ a∈l,flatD a=true) → VRels φ H l us → us=l.map concD
 |[],_,_,h=>h
 |a :: r,_,hf,⟨u,us',e,h1,h2⟩=>by
  rw[e,flatD_rel (hf a (by simp)) h1,flatDs (fun b hb=>hf b (by simp[hb])) h2]
  rfl
theorem Sim.below_heap {φ:Emb} {H:Heap} {base:Nat} {W W' : World} (hS:Sim φ H base W) (hb:Below W.heap.size W W'):Sim φ H base W'∧Below base W W':=by
 have h1:=hb.mono hS.big
 refine⟨hS.same h1 (fun b B hB ho hn=>?_),h1⟩
 rcases hS.ow b B hB ho with q|⟨_,cur,c1,_⟩
 ·rw[hn] at q;cases q.1
 ·exact hb.block _ (Array.getElem?_eq_some_iff.1 c1).1
theorem dH {P:Program} {f:FuncId} {args:List AV} {H:Heap} {v:AV} (ha : ∀ a∈args,flatD a=true) (hv:flatD v=true) (h : ∀ W,Calls P f (args.map concD).toArray W fun e W'=>e = .returned (concD v)∧Below W.heap.size W W'):ACalls P f args H fun v' H'=>v' = v∧H' = H:=by
 intro φ base W vs hS hvs
 rw[flatDs ha hvs]
 refine(h W).mono ?_
 rintro e W' ⟨rfl,hb⟩
 obtain⟨h1,h2⟩:=Sim.below_heap hS hb
 exact⟨φ,v,concD v,H,rfl,⟨rfl,rfl⟩,Ext.refl _ _,h1,concD_rel hv,h2⟩
theorem reads_of {α:Type} {R:α → List Value → Prop} {φ:Emb} {H:Heap} {base:Nat} {W:World} {b n v:Nat} {B:Blk} {u:Value} {xs:List α} (hS:Sim φ H base W) (hx:VRel φ H (.sl b 0 n v) u) (hB:H[b]? = some B) (hv:B.ver=v) (hl:n≤B.len) (hxs:xs.length=n) (hn:n≤9223372036854775807)
  (hR : ∀ i x c,xs[i]? = some x → VRels φ H (B.get i) c → R x c) : ∃ A c,u = .slice A n c∧n≤c∧bA R B.sz W A n xs:=by
 obtain⟨A,c,e1,e2,e3⟩:=sl_val hS hx hB hv
 refine⟨A,c,e1,e2,hxs,hn,fun h0=>⟨_,e3 (by omega),fun j p hj=>?_⟩⟩
 have hlt:j < B.len:=by have:=(List.getElem?_eq_some_iff.1 hj).1;omega
 obtain⟨us,u1,u2,u3,u4⟩:=cells_at hS hB hlt B.sz 0 (by omega)
 have hw:=hS.wf b B hB j hlt
 rw[List.drop_zero,← hw,List.take_length] at u2
 refine⟨us,u1,hR j p us hj u2,fun i y hy=>?_⟩
 rw[Am.add_at,Nat.zero_mul,Nat.add_zero]
 have:=u3 i y hy
 rw[Nat.add_zero,Nat.add_assoc] at this
 exact this
theorem cons_inv {φ:Emb} {H:Heap} {a:AV} {l:List AV} {us:List Value} (h:VRels φ H (a :: l) us) : ∃ u us',us=u :: us'∧VRel φ H a u∧VRels φ H l us':=h
structure TarLen (t:Tar):Prop where
 l15:t.f15.length≤9223372036854775807
 l16:t.f16.length≤9223372036854775807
 l17:t.f17.length≤9223372036854775807
 l18:t.f18.length≤9223372036854775807
 ls : ∀ b∈t.f18,b.f1.length≤9223372036854775807
end Go.Proofs.YtcmhfcciapenfaaDoor.Pa
