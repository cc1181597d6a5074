/- A part of the proof. -/
import Derived.Test.YtcmhfcciapenfaaDoorProg
import Derived.Test.YtcmhfcciapenfaaDoorQ00
set_option linter.all false
namespace Go.Proofs.YtcmhfcciapenfaaDoor
open Go Go.RowKit Go.Proofs.YtcmhfcciapenfaaDoorW.PrintWords Go.Proofs.YtcmhfcciapenfaaDoorW.PrintLast
section
variable {P:Program} {ops:Array Oper} {Q:Exit → Act → World → Prop}
def waits (ops:Array Oper) (i j:Nat):Bool:=match ops[i]? with
 |some o=>o.after.any fun e=>Region.binds .any e && e.on == j
 |none=>false
def srcOk (ops:Array Oper) (i:Nat):Tmp × Option Nat → Bool
 |(t,some j)=>(match ops[j]? with|some o=>o.dst == some t|none=>false) && waits ops i j
 |(t,none)=>(List.range ops.size).all fun j=>(match ops[j]? with|some o=>o.dst != some t|none=>true) || waits ops j i || j == i
def confOk (ops:Array Oper) (E:List (List (Tmp × Option Nat))):Bool:=
 ((List.range ops.size).all fun i=>(E.getD i []).all (srcOk ops i)) &&
 ((List.range ops.size).all fun i=>match ops[i]? with|some o=>o.after.all fun e=>!Region.binds .any e || decide (e.on < i)|none=>true) &&
 ((List.range ops.size).all fun i=>(List.range ops.size).all fun j=>i == j || match ops[i]?,ops[j]? with|some o,some o'=>o.dst.isNone || o.dst != o'.dst|_,_=>true)
def EnvFact (R:Nat → Value → World → Prop) (a0 a:Act) (w:World):Tmp × Option Nat → Prop
 |(t,some j)=>∃ v,a.tmps[t]? = some v∧R j v w
 |(t,none)=>a.tmps[t]? = a0.tmps[t]?
def EnvAll (R:Nat → Value → World → Prop) (a0 a:Act) (w:World):List (Tmp × Option Nat) → Prop
 |[]=>True
 |p :: r=>EnvFact R a0 a w p∧EnvAll R a0 a w r
def StepAt (P:Program) (ops:Array Oper) (Q:Exit → Act → World → Prop) (a0:Act) (w0:World) (R:Nat → Value → World → Prop) (E:List (List (Tmp × Option Nat))) (i:Nat) (o:Oper):Prop:=
 ∀ a w,Below w0.heap.size w0 w → EnvAll R a0 a w (E.getD i []) → ∀ K:Act → World → Prop,(∀ v w',Below w.heap.size w w' → R i v w' → K (a.put o.dst v) w') →
  if Region.wanted o (yielded ops a.tmps)=true then Oper.wp P o a w K Q else K (a.put o.dst undef) w
def dJ (P:Program) (ops:Array Oper) (Q:Exit → Act → World → Prop) (a0:Act) (w0:World) (R:Nat → Value → World → Prop) (E:List (List (Tmp × Option Nat))):Nat → List Oper → Prop
 |_,[]=>True
 |i,o :: r=>StepAt P ops Q a0 w0 R E i o∧dJ P ops Q a0 w0 R E (i+1) r
theorem dJ.get {a0:Act} {w0:World} {R:Nat → Value → World → Prop} {E:List (List (Tmp × Option Nat))} (l:List Oper) : ∀ {i:Nat},dJ P ops Q a0 w0 R E i l → ∀ {j:Nat} {o:Oper},l[j]? = some o → StepAt P ops Q a0 w0 R E (i+j) o:=by
 induction l with
 |nil=>intro i _ j o hj;simp at hj
 |cons o r ih=>
  intro i h j o' hj
  cases j with
  |zero=>
   have:o=o':=by simpa using hj
   subst this
   exact h.1
  |succ j=>
   have h2:=ih h.2 (j:=j) (o:=o') (by simpa using hj)
   rwa [Nat.add_assoc,Nat.add_comm 1 j] at h2
structure Conf (ops:Array Oper) (a0:Act) (w0:World) (R:Nat → Value → World → Prop) (l:Array Bool) (a:Act) (w:World):Prop where
 size:a.tmps.size=a0.tmps.size
 defers:a.defers=a0.defers
 below:Below w0.heap.size w0 w
 done : ∀ (j:Nat) (o:Oper) (t:Tmp),ops[j]? = some o → o.dst=some t → l.getD j false=true → t < a0.tmps.size → ∃ v,a.tmps[t]? = some v∧R j v w
 keep : ∀ t:Tmp,(∀ (j:Nat) (o:Oper),ops[j]? = some o → l.getD j false=true → o.dst≠some t) → a.tmps[t]? = a0.tmps[t]?
theorem count_set : ∀ (l:List Bool) (i:Nat),l[i]? = some false → (l.set i true).count false+1=l.count false
 |b :: r,0,h=>by cases h;simp
 |b :: r,i+1,h=>by
  have:=count_set r i h
  rw[List.set_cons_succ,List.count_cons,List.count_cons]
  omega
theorem all_listed {l:Array Bool} (hn:l.size=ops.size) (hb:(List.range ops.size).all (fun i=>match ops[i]? with|some o=>o.after.all fun e=>!Region.binds .any e || decide (e.on < i)|none=>true)=true) (hr:Region.ready .any ops l = []) : ∀ i,i < ops.size → l.getD i false=true:=by
 intro i
 induction i using Nat.strongRecOn with
 |_ i ih=>
  intro hi
  cases hl:l.getD i false with
  |true=>rfl
  |false=>
   exfalso
   have hl' : l.getD i true=false:=by
    rw[Array.getD_eq_getD_getElem?] at hl ⊢
    rw[Array.getElem?_eq_getElem (by omega)] at hl ⊢
    exact hl
   have:i∈Region.ready .any ops l:=by
    refine mem_ready.2 ⟨hl',ops[i],Array.getElem?_eq_getElem hi,fun e he hbe=>?_⟩
    have h1:=List.all_eq_true.1 hb i (List.mem_range.2 hi)
    rw[Array.getElem?_eq_getElem hi] at h1
    have h2:=(Array.all_eq_true_iff_forall_mem.1 h1) e he
    rw[hbe] at h2
    have h3:e.on < i:=by simpa using h2
    exact ih e.on h3 (by omega)
   rw[hr] at this
   cases this
theorem env_of {a0:Act} {w0:World} {R:Nat → Value → World → Prop} {l:Array Bool} {a:Act} {w:World} {i:Nat} (hC:Conf ops a0 w0 R l a w) (hz : ∀ (t:Tmp) (j:Nat) (o:Oper),ops[j]? = some o → o.dst=some t → t < a0.tmps.size) (hi:i∈Region.ready .any ops l)
  (hcl : ∀ j o,ops[j]? = some o → l.getD j false=true → ∀ e∈o.after,Region.binds .any e=true → l.getD e.on false=true) :
  ∀ E:List (Tmp × Option Nat),E.all (srcOk ops i)=true → EnvAll R a0 a w E
 |[],_=>trivial
 |p :: r,h=>by
  simp only[List.all_cons,Bool.and_eq_true] at h
  refine⟨?_,env_of hC hz hi hcl r h.2⟩
  obtain⟨hun,oi,hoi,hall⟩:=mem_ready.1 hi
  obtain⟨t,src⟩:=p
  cases src with
  |some j=>
   simp only[srcOk,Bool.and_eq_true] at h
   obtain⟨⟨h1,h2⟩,_⟩:=h
   cases hj:ops[j]? with
   |none=>rw[hj] at h1;cases h1
   |some oj=>
    rw[hj] at h1
    have hd:oj.dst=some t:=by simpa using h1
    unfold waits at h2
    rw[hoi] at h2
    obtain⟨e,he,h3⟩:=Array.any_eq_true'.1 h2
    simp only[Bool.and_eq_true,beq_iff_eq] at h3
    have:=hall e he h3.1
    rw[h3.2] at this
    exact hC.done j oj t hj hd this (hz t j oj hj hd)
  |none=>
   refine hC.keep t fun j oj hj hl hd=>?_
   simp only[srcOk] at h
   have h1:=List.all_eq_true.1 h.1 j (List.mem_range.2 (Array.getElem?_eq_some_iff.1 hj).1)
   rw[hj] at h1
   simp only[hd,bne_self_eq_false,Bool.false_or,Bool.or_eq_true,beq_iff_eq] at h1
   have hilt:i < l.size:=by
    rcases Nat.lt_or_ge i l.size with h'|h'
    ·exact h'
    ·simp[Array.getElem?_eq_none h',Array.getD_eq_getD_getElem?] at hun
   have hif:l.getD i false=false:=by
    rw[Array.getD_eq_getD_getElem?] at hun ⊢
    rw[Array.getElem?_eq_getElem hilt] at hun ⊢
    exact hun
   rcases h1 with h1|h1
   ·unfold waits at h1
    rw[hj] at h1
    obtain⟨e,he,h3⟩:=Array.any_eq_true'.1 h1
    simp only[Bool.and_eq_true,beq_iff_eq] at h3
    have:=hcl j oj hj hl e he h3.1
    rw[h3.2,hif] at this
    cases this
   ·subst h1
    rw[hif] at hl
    cases hl
theorem wpAny_conf {a0:Act} {w0:World} {R:Nat → Value → World → Prop} {E:List (List (Tmp × Option Nat))} (hok:confOk ops E=true)
  (hR : ∀ i v w w',Below w0.heap.size w0 w → R i v w → Below w.heap.size w w' → R i v w')
  (hz : ∀ (t:Tmp) (j:Nat) (o:Oper),ops[j]? = some o → o.dst=some t → t < a0.tmps.size)
  (hs:dJ P ops Q a0 w0 R E 0 ops.toList)
  (hend : ∀ a w,a.tmps.size=a0.tmps.size → a.defers=a0.defers → Below w0.heap.size w0 w → (∀ (j:Nat) (o:Oper) (t:Tmp),ops[j]? = some o → o.dst=some t → ∃ v,a.tmps[t]? = some v∧R j v w) → (∀ t:Tmp,(∀ (j:Nat) (o:Oper),ops[j]? = some o → o.dst≠some t) → a.tmps[t]? = a0.tmps[t]?) → Q .normal a w) :
  ∀ (fuel:Nat) (l:Array Bool) (a:Act) (w:World),l.size=ops.size → l.toList.count false≤fuel →
   (∀ (j:Nat) (o:Oper),ops[j]? = some o → l.getD j false=true → ∀ e∈o.after,Region.binds .any e=true → l.getD e.on false=true) →
   Conf ops a0 w0 R l a w → wpAny P .any ops Q fuel l a w:=by
 simp only[confOk,Bool.and_eq_true] at hok
 obtain⟨⟨hE,hB⟩,hD⟩:=hok
 have fin : ∀ (l:Array Bool) (a:Act) (w:World),l.size=ops.size → Conf ops a0 w0 R l a w → Region.ready .any ops l = [] → Q .normal a w:=by
  intro l a w hn hC hr
  have hall:=all_listed hn hB hr
  refine hend a w hC.size hC.defers hC.below (fun j o t hj hd=>hC.done j o t hj hd (hall j (Array.getElem?_eq_some_iff.1 hj).1) (hz t j o hj hd)) (fun t ht=>hC.keep t (fun j o hj _=>ht j o hj))
 intro fuel
 induction fuel with
 |zero=>
  intro l a w hn hf hcl hC
  have hr:Region.ready .any ops l = []:=by
   cases hr:Region.ready .any ops l with
   |nil=>rfl
   |cons i r=>
    exfalso
    obtain⟨hun,o,ho,_⟩:=mem_ready.1 (hr ▸ List.mem_cons_self:i∈Region.ready .any ops l)
    have hlt:i < l.size:=by rw[hn];exact(Array.getElem?_eq_some_iff.1 ho).1
    rw[Array.getD_eq_getD_getElem?,Array.getElem?_eq_getElem hlt] at hun
    have hm:false∈l.toList:=by
     have:l[i]=false:=hun
     rw[← this]
     exact Array.mem_toList_iff.2 (Array.getElem_mem hlt)
    have:=List.count_pos_iff.2 hm
    omega
  exact⟨hr,fin l a w hn hC hr⟩
 |succ fuel ih=>
  intro l a w hn hf hcl hC
  refine⟨fun hr=>fin l a w hn hC hr,fun i hi=>?_⟩
  obtain⟨hun,o,ho,hall⟩:=mem_ready.1 hi
  have hio:=(Array.getElem?_eq_some_iff.1 ho).1
  have hlt:i < l.size:=by rw[hn];exact hio
  have hst:=dJ.get ops.toList hs (j:=i) (o:=o) (by simpa using ho)
  rw[Nat.zero_add] at hst
  have henv:=env_of hC hz hi hcl (E.getD i []) (List.all_eq_true.1 hE i (List.mem_range.2 hio))
  refine wpOp_step ho fun K' hK=>hst a w hC.below henv K' fun v w' hb hRv=>hK _ _ ?_
  have hg : ∀ j d,(l.setIfInBounds i true).getD j d=if i=j then true else l.getD j d:=fun j d=>by
   by_cases e:i=j
   ·subst e
    rw[if_pos rfl]
    simp[Array.getD_eq_getD_getElem?,Array.getElem?_setIfInBounds,hlt]
   ·rw[if_neg e]
    exact getD_set_ne d e
  refine ih _ _ _ (by simpa using hn) ?_ ?_ ?_
  ·have h1:l.toList[i]? = some false:=by
    rw[Array.getD_eq_getD_getElem?,Array.getElem?_eq_getElem hlt] at hun
    have:l[i]=false:=hun
    simp[this,hlt]
   have:=count_set l.toList i h1
   rw[Array.toList_setIfInBounds]
   omega
  ·intro j oj hj hl e he hbe
   rw[hg] at hl ⊢
   by_cases ee:i=e.on
   ·rw[if_pos ee]
   ·rw[if_neg ee]
    by_cases ej:i=j
    ·subst ej
     have:oj=o:=Option.some.inj (hj.symm.trans ho)
     subst this
     exact hall e he hbe
    ·rw[if_neg ej] at hl
     exact hcl j oj hj hl e he hbe
  ·have hb':=aj hC.below hb
   refine⟨?_,?_,hb',?_,?_⟩
   ·cases hd:o.dst <;> simp[Act.put,hC.size]
   ·cases hd:o.dst <;> simp[Act.put,hC.defers]
   ·intro j oj t hj hd hl ht
    rw[hg] at hl
    by_cases ej:i=j
    ·subst ej
     have:oj=o:=Option.some.inj (hj.symm.trans ho)
     subst this
     refine⟨v,?_,hRv⟩
     rw[hd]
     simp[Act.put,hC.size,ht]
    ·rw[if_neg ej] at hl
     obtain⟨v0,hv0,hr0⟩:=hC.done j oj t hj hd hl ht
     refine⟨v0,?_,hR j v0 w w' hC.below hr0 hb⟩
     have hjo:=(Array.getElem?_eq_some_iff.1 hj).1
     have h1:=List.all_eq_true.1 (List.all_eq_true.1 hD j (List.mem_range.2 hjo)) i (List.mem_range.2 hio)
     rw[hj,ho] at h1
     have hne:o.dst≠some t:=by
      intro e
      simp[hd,e,Ne.symm ej] at h1
     cases hd2:o.dst with
     |none=>simpa [Act.put] using hv0
     |some d=>
      have:d≠t:=fun e=>hne (by rw[hd2,e])
      simpa [Act.put,Array.getElem?_setIfInBounds,this] using hv0
   ·intro t ht
    have hne:o.dst≠some t:=ht i o ho (by rw[hg,if_pos rfl])
    have hk:=hC.keep t (fun j oj hj hl=>ht j oj hj (by rw[hg];split <;> first|rfl|exact hl))
    cases hd2:o.dst with
    |none=>simpa [Act.put] using hk
    |some d=>
     have:d≠t:=fun e=>hne (by rw[hd2,e])
     simpa [Act.put,Array.getElem?_setIfInBounds,this] using hk
theorem wp_region_conf {id:Nat} {a0:Act} {w0:World} (R:Nat → Value → World → Prop) (E:List (List (Tmp × Option Nat))) (hm:P.follows .mixedOrders=true) (hok:confOk ops E=true)
  (hR : ∀ i v w w',Below w0.heap.size w0 w → R i v w → Below w.heap.size w w' → R i v w')
  (hz:(ops.all fun o=>match o.dst with|some t=>decide (t < a0.tmps.size)|none=>true)=true)
  (hs:dJ P ops Q a0 w0 R E 0 ops.toList)
  (hend : ∀ a w,a.tmps.size=a0.tmps.size → a.defers=a0.defers → Below w0.heap.size w0 w → (∀ (j:Nat) (o:Oper) (t:Tmp),ops[j]? = some o → o.dst=some t → ∃ v,a.tmps[t]? = some v∧R j v w) → (∀ t:Tmp,(∀ (j:Nat) (o:Oper),ops[j]? = some o → o.dst≠some t) → a.tmps[t]? = a0.tmps[t]?) → Q .normal a w) :
  (Code.region id ops true).wp P Q a0 w0:=by
 refine wp_region_any hm (wpAny_conf (R:=R) (E:=E) (a0:=a0) (w0:=w0) hok hR ?_ hs hend ops.size _ a0 _ (by simp) (by simp) ?_ ⟨rfl,rfl,fF (Below.refl _ _),?_,fun _ _=>rfl⟩)
 ·intro t j o hj hd
  have:=(Array.all_eq_true_iff_forall_mem.1 hz) o (Array.mem_of_getElem? hj)
  rw[hd] at this
  simpa using this
 ·intro j o hj hl
  exfalso
  simp[Array.getD_eq_getD_getElem?,Array.getElem?_replicate] at hl
  split at hl <;> simp at hl
 ·intro j o t hj hd hl
  exfalso
  simp[Array.getD_eq_getD_getElem?,Array.getElem?_replicate] at hl
  split at hl <;> simp at hl
end
section
variable {P:Program} {ops:Array Oper} {Q:Exit → Act → World → Prop}
theorem aC {a:Act} {t:Tmp} {v:Value} (h:a.tmps[t]? = some v):a.eval (.tmp t)=v:=by
 show a.tmps.getD t undef=v
 rw[Array.getD_eq_getD_getElem?,h]
 rfl
theorem aM {o:Oper} (h:o.guard=none) (f:Nat → Option Bool):Region.wanted o f=true:=by
 unfold Region.wanted
 rw[h]
theorem aD {o:Oper} {g:Nat} {b x:Bool} (h:o.guard=some (g,b)) {t:Tmp} (hd:((ops[g]?).bind (·.dst))=some t) {a:Act} (ht:a.tmps[t]? = some (.bool x)):Region.wanted o (yielded ops a.tmps)=(x == b):=by
 unfold Region.wanted
 rw[h]
 simp only[yielded,hd,Option.bind_some,ht]
 cases x <;> cases b <;> rfl
theorem bE {o:Oper} {g:Nat} {b:Bool} (h:o.guard=some (g,b)) {t:Tmp} (hd:((ops[g]?).bind (·.dst))=some t) {a:Act} (ht:a.tmps[t]? = some undef):Region.wanted o (yielded ops a.tmps)=false:=by
 unfold Region.wanted
 rw[h]
 simp only[yielded,hd,Option.bind_some,ht]
 cases b <;> rfl
theorem step_make {R:Nat → Value → World → Prop} {i:Nat} {o:Oper} {a:Act} {w w1:World} {K:Act → World → Prop} (hK : ∀ v w',Below w.heap.size w w' → R i v w' → K (a.put o.dst v) w') (v:Value) (hw:Region.wanted o (yielded ops a.tmps)=true) (hrun:(execOp a.eval o).run P w = .ok (.value v) w1) (hb:Below w.heap.size w w1) (hR:R i v w1):if Region.wanted o (yielded ops a.tmps)=true then Oper.wp P o a w K Q else K (a.put o.dst undef) w:=
 value_ hw rfl hrun (hK v w1 hb hR)
theorem aG {R:Nat → Value → World → Prop} {i:Nat} {o:Oper} {a:Act} {w:World} {K:Act → World → Prop} (hK : ∀ v w',Below w.heap.size w w' → R i v w' → K (a.put o.dst v) w') (v:Value) (hw:Region.wanted o (yielded ops a.tmps)=true) (hrun:(execOp a.eval o).run P w = .ok (.value v) w) (hR:R i v w):if Region.wanted o (yielded ops a.tmps)=true then Oper.wp P o a w K Q else K (a.put o.dst undef) w:=
 value_ hw rfl hrun (hK v w (Below.refl _ _) hR)
theorem aT {R:Nat → Value → World → Prop} {i:Nat} {o:Oper} {a:Act} {w:World} {K:Act → World → Prop} (hK : ∀ v w',Below w.heap.size w w' → R i v w' → K (a.put o.dst v) w') (hw:Region.wanted o (yielded ops a.tmps)=false) (hR:R i undef w):if Region.wanted o (yielded ops a.tmps)=true then Oper.wp P o a w K Q else K (a.put o.dst undef) w:=
 off_ hw (hK undef w (Below.refl _ _) hR)
theorem bG {R:Nat → Value → World → Prop} {i:Nat} {o:Oper} {a:Act} {w:World} {K:Act → World → Prop} {f:FuncId} {fn:Func} {ys:Array Operand} {ts:Array TypeId} (hK : ∀ v w',Below w.heap.size w w' → R i v w' → K (a.put o.dst v) w') (hw:Region.wanted o (yielded ops a.tmps)=true) (hf:P.funcs[f]? = some fn) (hname:(fn.name == "runtime.NumGoroutine")=false) (hb:fn.body.isSome=true) (args:Array Value)
  (hop:o.op = .call { callee:=.value (.func f),args:=ys,argTypes:=ts }) (hargs:ys.map a.eval=args)
  (h:Calls P f args w fun e w'=>∃ v,e = .returned v∧Below w.heap.size w w'∧R i v w'):if Region.wanted o (yielded ops a.tmps)=true then Oper.wp P o a w K Q else K (a.put o.dst undef) w:=
 goes_ hf hname hb args hw rfl hop hargs (h.mono fun e w' ⟨v,he,hb,hr⟩=>⟨v,he,hK v w' hb hr⟩)
theorem act_of {a a0:Act} (vs:List (Tmp × Value)) (hs:a.tmps.size=a0.tmps.size) (hd:a.defers=a0.defers) (hp : ∀ p∈vs,a.tmps[p.1]? = some p.2) (hk : ∀ t:Tmp,(vs.all fun p=>p.1 != t)=true → a.tmps[t]? = a0.tmps[t]?):a = { tmps:=vs.foldl (fun x p=>x.setIfInBounds p.1 p.2) a0.tmps,defers:=a0.defers }:=by
 have key : ∀ (l:List (Tmp × Value)) (x:Array Value),x.size=a.tmps.size → (∀ p∈l,a.tmps[p.1]? = some p.2) → (∀ t:Tmp,(l.all fun p=>p.1 != t)=true → a.tmps[t]? = x[t]?) → a.tmps=l.foldl (fun x p=>x.setIfInBounds p.1 p.2) x:=by
  intro l
  induction l with
  |nil=>
   intro x hx _ hk
   apply Array.ext_getElem?
   intro t
   exact hk t rfl
  |cons p l ih=>
   intro x hx hp hk
   rw[List.foldl_cons]
   refine ih _ (by simpa using hx) (fun q hq=>hp q (List.mem_cons_of_mem _ hq)) (fun t ht=>?_)
   rw[Array.getElem?_setIfInBounds]
   by_cases e:p.1=t
   ·subst e
    rw[if_pos rfl]
    have h1:=hp p List.mem_cons_self
    have:p.1 < x.size:=by rw[hx];exact(Array.getElem?_eq_some_iff.1 h1).1
    rw[if_pos this]
    exact h1
   ·rw[if_neg e]
    exact hk t (by simp[ht,e])
 cases a with
 |mk tm df=>
  have h1:=key vs a0.tmps hs.symm hp hk
  simp only at h1 hd
  rw[h1,hd]
def fM (R:Nat → Value → World → Prop) (w:World) (F:Array Value → Prop):List (Nat × Tmp) → Array Value → Prop
 |[],x=>F x
 |(i,t) :: r,x=>∀ v,R i v w → fM R w F r (x.setIfInBounds t v)
theorem fM.get {R:Nat → Value → World → Prop} {w:World} {F:Array Value → Prop} : ∀ {ds:List (Nat × Tmp)} {x:Array Value} (vs:List (Tmp × Value)),fM R w F ds x → vs.map (·.1)=ds.map (·.2) → (∀ (n:Nat) (p:Nat × Tmp) (q:Tmp × Value),ds[n]? = some p → vs[n]? = some q → R p.1 q.2 w) → F (vs.foldl (fun x p=>x.setIfInBounds p.1 p.2) x)
 |[],x,[],h,_,_=>h
 |(i,t) :: r,x,(t',v) :: vs,h,hm,hr=>by
  simp only[List.map_cons,List.cons.injEq] at hm
  obtain⟨e,hm⟩:=hm
  subst e
  exact fM.get vs (h v (hr 0 (i,t') (t',v) rfl rfl)) hm (fun n p q hp hq=>hr (n+1) p q hp hq)
def dsOk (ops:Array Oper) (ds:List (Nat × Tmp)):Bool:=
 (ds.all fun p=>match ops[p.1]? with|some o=>o.dst == some p.2|none=>false) && (ops.all fun o=>match o.dst with|some t=>ds.any (fun p=>p.2 == t)|none=>true)
theorem eB {id:Nat} {a0:Act} {w0:World} (R:Nat → Value → World → Prop) (E:List (List (Tmp × Option Nat))) (ds:List (Nat × Tmp)) (hm:P.follows .mixedOrders=true) (hok:confOk ops E=true) (hds:dsOk ops ds=true)
  (hR : ∀ i v w w',Below w0.heap.size w0 w → R i v w → Below w.heap.size w w' → R i v w')
  (hz:(ops.all fun o=>match o.dst with|some t=>decide (t < a0.tmps.size)|none=>true)=true)
  (hs:dJ P ops Q a0 w0 R E 0 ops.toList)
  (hend : ∀ w,Below w0.heap.size w0 w → fM R w (fun x=>Q .normal { tmps:=x,defers:=a0.defers } w) ds a0.tmps) :
  (Code.region id ops true).wp P Q a0 w0:=by
 refine wp_region_conf R E hm hok hR hz hs ?_
 intro a w h1 h2 hb hdone hkeep
 simp only[dsOk,Bool.and_eq_true] at hds
 obtain⟨hd1,hd2⟩:=hds
 have hv : ∀ p∈ds,∃ v,a.tmps[p.2]? = some v∧R p.1 v w:=by
  intro p hp
  have:=List.all_eq_true.1 hd1 p hp
  cases ho:ops[p.1]? with
  |none=>rw[ho] at this;cases this
  |some o=>rw[ho] at this;exact hdone p.1 o p.2 ho (by simpa using this)
 have hvs : ∃ vs:List (Tmp × Value),vs.map (·.1)=ds.map (·.2)∧(∀ (n:Nat) (p:Nat × Tmp) (q:Tmp × Value),ds[n]? = some p → vs[n]? = some q → R p.1 q.2 w)∧(∀ q∈vs,a.tmps[q.1]? = some q.2):=by
  clear hd1 hd2 hend
  induction ds with
  |nil=>exact⟨[],rfl,by simp,by simp⟩
  |cons p r ih=>
   obtain⟨v,hv1,hv2⟩:=hv p List.mem_cons_self
   obtain⟨vs,e1,e2,e3⟩:=ih (fun q hq=>hv q (List.mem_cons_of_mem _ hq))
   refine⟨(p.2,v) :: vs,by simp[e1],?_,?_⟩
   ·intro n p' q' hp' hq'
    cases n with
    |zero=>cases hp';cases hq';exact hv2
    |succ n=>exact e2 n p' q' hp' hq'
   ·intro q hq
    rcases List.mem_cons.1 hq with rfl|hq
    ·exact hv1
    ·exact e3 q hq
 obtain⟨vs,e1,e2,e3⟩:=hvs
 have hf:=fM.get vs (hend w hb) e1 e2
 have ha:=act_of (a:=a) (a0:=a0) vs h1 h2 e3 (fun t ht=>hkeep t (fun j o hj hd=>by
  have:=(Array.all_eq_true_iff_forall_mem.1 hd2) o (Array.mem_of_getElem? hj)
  rw[hd] at this
  obtain⟨p,hp,h3⟩:=List.any_eq_true.1 this
  have h4:p.2∈vs.map (·.1):=by rw[e1];exact List.mem_map.2 ⟨p,hp,rfl⟩
  obtain⟨q,hq,h5⟩:=List.mem_map.1 h4
  have h6:=List.all_eq_true.1 ht q hq
  rw[h5] at h6
  simp at h3 h6
  exact h6 h3))
 rw[ha]
 exact hf
end
end Go.Proofs.YtcmhfcciapenfaaDoor
