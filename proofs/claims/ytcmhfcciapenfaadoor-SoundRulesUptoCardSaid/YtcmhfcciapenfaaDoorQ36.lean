/- A part of the proof. -/
import Derived.Test.YtcmhfcciapenfaaDoorQ34
import Derived.Test.YtcmhfcciapenfaaDoorQ35
import Derived.Test.YtcmhfcciapenfaaDoorQ32
set_option linter.all false
namespace Go.Proofs.YtcmhfcciapenfaaDoor.Pa
open Go Go.RowKit Go.Proofs.YtcmhfcciapenfaaDoorW.PrintWords Am
def flatD:AV → Bool
 |.agg cs=>cs.all AV.flat
 |.tup cs=>cs.all AV.flat
 |a=>a.flat
def concD:AV → Value
 |.agg cs=>.agg (cs.map conc).toArray
 |.tup cs=>.tuple (cs.map conc).toArray
 |a=>conc a
theorem fD {φ:Emb} {H:Heap} : ∀ {l:List AV} {us:List Value},l.all AV.flat=true → VRels φ H l us → us=l.map conc
 |[],_,_,h=>h
 |a :: r,_,hf,⟨u,us',e,h1,h2⟩=>by
  simp only[List.all_cons,Bool.and_eq_true] at hf
  rw[e,flat_rel hf.1 h1,fD hf.2 h2]
  rfl
theorem flatD_rel {φ:Emb} {H:Heap} {a:AV} (h:flatD a=true) {u:Value} (hr:VRel φ H a u):u=concD a:=by
 cases a with
 |agg cs=>
  obtain⟨vs,rfl,h2⟩:=hr
  have:=fD h h2
  show Value.agg vs = .agg (cs.map conc).toArray
  rw[← this]
 |tup cs=>
  obtain⟨vs,rfl,h2⟩:=hr
  have:=fD h h2
  show Value.tuple vs = .tuple (cs.map conc).toArray
  rw[← this]
 |undef=>cases h
 |ptr=>cases h
 |sl=>cases h
 |fn=>cases h
 |opt=>cases h
 |bool=>exact hr
 |int=>exact hr
 |str=>exact hr
 |nilptr=>exact hr
 |nilsl=>exact hr
theorem concD_rel {φ:Emb} {H:Heap} {a:AV} (h:flatD a=true):VRel φ H a (concD a):=by
 cases a with
 |agg cs=>exact⟨_,rfl,by simpa using flats_rel h⟩
 |tup cs=>exact⟨_,rfl,by simpa using flats_rel h⟩
 |undef=>cases h
 |ptr=>cases h
 |sl=>cases h
 |fn=>cases h
 |opt=>cases h
 |bool=>rfl
 |int=>rfl
 |str=>rfl
 |nilptr=>rfl
 |nilsl=>rfl
theorem flatDs {φ:Emb} {H:Heap} : ∀ {l:List AV} {us:List Value},(∀ a∈l,flatD a=true) → VRels φ H l us → us=l.map concD
 |[],_,_,h=>h
 |a :: r,_,hf,⟨u,us',e,h1,h2⟩=>by
  rw[e,flatD_rel (hf a (by simp)) h1,flatDs (fun b hb=>hf b (by simp[hb])) h2]
  rfl
theorem Sim.below_heap {φ:Emb} {H:Heap} {base:Nat} {W W' : World} (hS:Sim φ H base W) (hb:Below W.heap.size W W'):Sim φ H base W'∧Below base W W':=by
 have h1:=hb.mono hS.big
 refine⟨hS.same h1 (fun b B hB ho hn=>?_),h1⟩
 rcases hS.ow b B hB ho with q|⟨_,cur,c1,_⟩
 ·rw[hn] at q;cases q.1
 ·exact hb.block _ (Array.getElem?_eq_some_iff.1 c1).1
theorem eU {P:Program} {f:FuncId} {args:List AV} {H:Heap} {v:AV} (ha : ∀ a∈args,flatD a=true) (hv:flatD v=true) (h : ∀ W,Calls P f (args.map concD).toArray W fun e W'=>e = .returned (concD v)∧Below W.heap.size W W'):ACalls P f args H fun v' H'=>v' = v∧H' = H:=by
 intro φ base W vs hS hvs
 rw[flatDs ha hvs]
 refine(h W).mono ?_
 rintro e W' ⟨rfl,hb⟩
 obtain⟨h1,h2⟩:=Sim.below_heap hS hb
 exact⟨φ,v,concD v,H,rfl,⟨rfl,rfl⟩,Ext.refl _ _,h1,concD_rel hv,h2⟩
theorem cons_inv {φ:Emb} {H:Heap} {a:AV} {l:List AV} {us:List Value} (h:VRels φ H (a :: l) us) : ∃ u us',us=u :: us'∧VRel φ H a u∧VRels φ H l us':=h
structure eu (t:Tar):Prop where
 l15:t.f15.length≤9223372036854775807
 l16:t.f16.length≤9223372036854775807
 l17:t.f17.length≤9223372036854775807
 l18:t.f18.length≤9223372036854775807
 ls : ∀ b∈t.f18,b.f1.length≤9223372036854775807
end Go.Proofs.YtcmhfcciapenfaaDoor.Pa
