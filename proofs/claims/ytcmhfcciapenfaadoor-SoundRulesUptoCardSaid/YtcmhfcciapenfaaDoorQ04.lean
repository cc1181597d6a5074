/- A part of the proof. -/
import Derived.Deep.MidRow
import Derived.Test.YtcmhfcciapenfaaDoorQ00
set_option linter.all false
namespace Go.Proofs.YtcmhfcciapenfaaDoor
open Go Go.RowKit Go.Proofs.YtcmhfcciapenfaaDoorW.PrintWords
section
variable {P:Program} {ops:Array Oper} {rest:List Oper} {o:Oper} {a:Act} {Q:Exit → Act → World → Prop}
theorem fq (b:Nat) : ∀ (vs:List Value) (i:Nat) (w:World) (cs:Array Value) (t:TypeId),w.heap[b]? = some (.cells cs t (0,0)) → i+vs.length≤cs.size →
  ∃ cs',(w.setCells b i vs).heap[b]? = some (.cells cs' t (0,0))∧cs'.size=cs.size∧(∀ j,j < vs.length → cs'[i+j]? = vs[j]?)∧(∀ j,j < i∨i+vs.length≤j → cs'[j]? = cs[j]?)
 |[],i,w,cs,t,h,_=>⟨cs,h,rfl,by simp,fun _ _=>rfl⟩
 |v :: r,i,w,cs,t,h,hl=>by
  have h1:=blk_set h i v
  obtain⟨cs',h2,h3,h4,h5⟩:=fq b r (i+1) _ _ t h1 (by simp at hl ⊢;omega)
  refine⟨cs',h2,by simpa using h3,fun j hj=>?_,fun j hj=>?_⟩
  ·cases j with
   |zero=>
    rw[Nat.add_zero,h5 i (Or.inl (by omega))]
    have:i < cs.size:=by simp at hl;omega
    simp[this]
   |succ j=>
    have:=h4 j (by simpa using hj)
    rw[show i+(j+1)=i+1+j by omega,this]
    simp
  ·rw[h5 j (by simp at hj;omega)]
   have:i≠j:=by simp at hj;omega
   simp[Array.getElem?_setIfInBounds,this]
theorem heap_setCells_other (b:Nat) : ∀ (vs:List Value) (i:Nat) (w:World) (k:Nat),k≠b → (w.setCells b i vs).heap[k]? = w.heap[k]?
 |[],_,_,_,_=>rfl
 |v :: r,i,w,k,h=>(heap_setCells_other b r (i+1) _ k h).trans (Below.heap_setCell w ⟨b,i,none⟩ v k h)
theorem dQ (b:Nat) : ∀ (vs:List Value) (i:Nat) (w:World),(w.setCells b i vs).os=w.os∧(w.setCells b i vs).tape=w.tape∧(w.setCells b i vs).output=w.output∧(w.setCells b i vs).heap.size=w.heap.size
 |[],_,_=>⟨rfl,rfl,rfl,rfl⟩
 |v :: r,i,w=>by
  obtain⟨h1,h2,h3,h4⟩:=dQ b r (i+1) (w.setCell ⟨b,i,none⟩ v)
  exact⟨h1,h2,h3,h4.trans (World.size_setCell _ _ _)⟩
theorem eY {W:World} (hgd:o.guard=none) (ty:TypeId) (x y:Operand) (ho:o.op = .store ty x y) {g:Nat} {cs:Array Value} {t:TypeId} (hb:W.heap[g]? = some (.cells cs t (0,0))) {V:Array Value}
  (hx:a.eval x = .pointer (some ⟨g,0,none⟩)) (hy:a.eval y = .agg V) (hs:V.size=cs.size) (hi:(P.info? ty).map (·.size)=some V.size) (h1:V.toList.all (·.oneCell')=true)
  (h : ∀ w1,w1.heap[g]? = some (.cells V t (0,0)) → W.grownBy w1 (some g) → wpList P ops Q rest (a.put o.dst undef) w1):wpList P ops Q (o :: rest) a W:=by
 have ht:W.there g 0 V.size:=fun j hj=>by
  refine⟨?_,ai hb _⟩
  rw[Nat.zero_add,ah hb j,Array.getElem?_eq_getElem (by omega)]
  rfl
 refine wpList_store_mid hgd ty x y ho g 0 V hx hy ht hi (by rw[← Array.all_toList];exact h1) ?_
 obtain⟨cs',h2,h3,h4,h5⟩:=fq g V.toList 0 W cs t hb (by simp;omega)
 obtain⟨f1,f2,f3,f4⟩:=dQ g V.toList 0 W
 have e:cs' = V:=by
  apply Array.ext_getElem?
  intro j
  rcases Nat.lt_or_ge j V.size with hj|hj
  ·have:=h4 j (by simpa using hj)
   rw[Nat.zero_add] at this
   rw[this]
   simp
  ·rw[Array.getElem?_eq_none (by omega),Array.getElem?_eq_none (by omega)]
 subst e
 exact h _ h2 ⟨f1,f2,f3,by omega,fun k _ hne=>heap_setCells_other g _ 0 W k (fun e=>hne (by rw[e]))⟩
theorem load_whole {W:World} (hgd:o.guard=none) (ty:TypeId) (x:Operand) (ho:o.op = .load ty x) {g:Nat} {V:Array Value} {t:TypeId} (hb:W.heap[g]? = some (.cells V t (0,0)))
  (hx:a.eval x = .pointer (some ⟨g,0,none⟩)) (d:TypeDesc) (hu:P.underlying ty=some d) (hd:d.isRow=true) (hi:(P.info? ty).map (·.size)=some V.size)
  (h:wpList P ops Q rest (a.put o.dst (.agg V)) W):wpList P ops Q (o :: rest) a W:=by
 refine wpList_load_mid hgd ty x ho g 0 hx V.toList d ?_ hu hd (by simpa using hi) h
 intro j v hj
 rw[Nat.zero_add,ah hb j]
 simpa using hj
def dF (cs:Array Value):Nat → List Value → Array Value
 |_,[]=>cs
 |i,v :: r=>dF (cs.setIfInBounds i v) (i+1) r
theorem dL (cs:Array Value) (i:Nat) (vs:List Value):(dF cs i vs).size=cs.size:=by
 induction vs generalizing cs i with
 |nil=>rfl
 |cons v r ih=>rw[dF,ih];simp
theorem heap_segSet (b:Nat) : ∀ (vs:List Value) (i:Nat) (w:World) (cs:Array Value) (t:TypeId),w.heap[b]? = some (.cells cs t (0,0)) → (w.setCells b i vs).heap[b]? = some (.cells (dF cs i vs) t (0,0))
 |[],_,_,_,_,h=>h
 |v :: r,i,w,cs,t,h=>heap_segSet b r (i+1) _ _ t (blk_set h i v)
theorem fu {W:World} (hgd:o.guard=none) (ty:TypeId) (x y:Operand) (ho:o.op = .store ty x y) {g i:Nat} {cs:Array Value} {t:TypeId} (hb:W.heap[g]? = some (.cells cs t (0,0))) {u:Value} {seg:List Value}
  (hx:a.eval x = .pointer (some ⟨g,i,none⟩)) (hy:a.eval y=u) (hu:u.cells.toList=seg) (hi:(P.info? ty).map (·.size)=some seg.length) (hfit:i+seg.length≤cs.size) (h1 : ∀ q∈seg,q.oneCell' = true)
  (h : ∀ w1,w1.heap[g]? = some (.cells (dF cs i seg) t (0,0)) → W.grownBy w1 (some g) → wpList P ops Q rest (a.put o.dst undef) w1):wpList P ops Q (o :: rest) a W:=by
 refine wpList_plain hgd fun K hK=>?_
 unfold Oper.wp execOp
 simp only[ho,hx,hy,Sem.run_bind,run_store_run ty u seg hb hu hi hfit h1,Result.andThen_ok,Sem.run_pure]
 obtain⟨f1,f2,f3,f4⟩:=dQ g seg i W
 exact hK _ _ (h _ (heap_segSet g seg i W cs t hb) ⟨f1,f2,f3,by omega,fun k _ hne=>heap_setCells_other g _ i W k (fun e=>hne (by rw[e]))⟩)
theorem segSet_get {cs:Array Value} {i:Nat} {v:Value} {n:Nat} (hs:cs.size=n) (hi:i < n):(dF cs i [v])[i]? = some v:=by
 simp only[dF]
 rw[Array.getElem?_setIfInBounds_self_of_lt (by omega)]
theorem segSet_twice (cs:Array Value) (i:Nat) (u v:Value):dF (dF cs i [u]) i [v]=dF cs i [v]:=by
 simp only[dF]
 apply Array.ext_getElem?
 intro j
 simp only[Array.getElem?_setIfInBounds,Array.size_setIfInBounds]
 by_cases h:i=j
 ·rw[if_pos h,if_pos h]
 ·rw[if_neg h,if_neg h,if_neg h]
end
end Go.Proofs.YtcmhfcciapenfaaDoor
