/- A part of the proof. -/
import Derived.Test.YtcmhfcciapenfaaDoorQ07
namespace Go.Proofs.YtcmhfcciapenfaaDoor
open Go Go.RowKit Go.Proofs.YtcmhfcciapenfaaDoorW.PrintWords Go.Proofs.YtcmhfcciapenfaaDoorW.PrintLast
section
variable {P:Program} {ops:Array Oper} {Q:Exit → Act → World → Prop}
def eF (ops:Array Oper):Nat → Nat → List Nat
 |0,_=>[]
 |k+1,i=>match ops[i]? with
  |some o=>o.after.toList.flatMap fun e=>if Region.binds .any e then e.on :: eF ops k e.on else []
  |none=>[]
def tailOk (ops:Array Oper) (n:Nat):Bool:=
 ((List.range n).all fun j=>(eF ops n n).contains j) && ((List.range (ops.size - n)).all fun d=>d == 0 || waits ops (n+d) (n+d - 1)) && decide (n < ops.size)
theorem eB {l:Array Bool} (hcl : ∀ (j:Nat) (o:Oper),ops[j]? = some o → l.getD j false=true → ∀ e∈o.after,Region.binds .any e=true → l.getD e.on false=true) :
  ∀ (k i:Nat) (o:Oper),ops[i]? = some o → (∀ e∈o.after,Region.binds .any e=true → l.getD e.on false=true) → ∀ j∈eF ops k i,l.getD j false=true
 |0,_,_,_,_,j,hj=>by simp[eF] at hj
 |k+1,i,o,ho,h,j,hj=>by
  simp only[eF,ho,List.mem_flatMap] at hj
  obtain⟨e,he,hj⟩:=hj
  have he' : e∈o.after:=by simpa using he
  split at hj
  ·rename_i hb
   have hl:=h e he' hb
   rcases List.mem_cons.1 hj with rfl|hj
   ·exact hl
   ·cases hoe:ops[e.on]? with
    |none=>
     cases k with
     |zero=>simp[eF] at hj
     |succ k=>simp[eF,hoe] at hj
    |some oe=>exact eB hcl k e.on oe hoe (hcl e.on oe hoe hl) j hj
  ·cases hj
def First (l:Array Bool) (m:Nat):Prop:=(∀ j,j < m → l.getD j false=true)∧∀ j,m≤j → l.getD j false=false
theorem wpAny_tail {n:Nat} (hB:(List.range ops.size).all (fun i=>match ops[i]? with|some o=>o.after.all fun e=>!Region.binds .any e || decide (e.on < i)|none=>true)=true) (ht:tailOk ops n=true) :
  ∀ (fuel m:Nat) (l:Array Bool) (a:Act) (w:World),n≤m → m≤ops.size → l.size=ops.size → First l m → ops.size - m≤fuel → wpList P ops Q (ops.toList.drop m) a w → wpAny P .any ops Q fuel l a w:=by
 simp only[tailOk,Bool.and_eq_true] at ht
 obtain⟨⟨_,hw⟩,_⟩:=ht
 have hready : ∀ (m:Nat) (l:Array Bool),n≤m → m≤ops.size → l.size=ops.size → First l m → ∀ i,i∈Region.ready .any ops l → i=m∧m < ops.size:=by
  intro m l hnm hms hsz hF i hi
  obtain⟨hun,o,ho,hall⟩:=mem_ready.1 hi
  have hio:=(Array.getElem?_eq_some_iff.1 ho).1
  have hun' : l.getD i false=false:=by
   rw[Array.getD_eq_getD_getElem?] at hun ⊢
   rw[Array.getElem?_eq_getElem (by omega)] at hun ⊢
   exact hun
  have hmi:m≤i:=by
   apply Decidable.byContradiction
   intro hlt
   have:=hF.1 i (by omega)
   rw[hun'] at this
   cases this
  refine⟨?_,by omega⟩
  apply Decidable.byContradiction
  intro hne
  have h1:=List.all_eq_true.1 hw (i - n) (List.mem_range.2 (by omega))
  rw[show n+(i - n)=i by omega] at h1
  simp only[Bool.or_eq_true,beq_iff_eq] at h1
  rcases h1 with h1|h1
  ·omega
  ·unfold waits at h1
   rw[ho] at h1
   obtain⟨e,he,h3⟩:=Array.any_eq_true'.1 h1
   simp only[Bool.and_eq_true,beq_iff_eq] at h3
   have h4:=hall e he h3.1
   rw[h3.2,hF.2 (i - 1) (by omega)] at h4
   cases h4
 intro fuel
 induction fuel with
 |zero=>
  intro m l a w hnm hms hsz hF hf h
  have hm:m=ops.size:=by omega
  subst hm
  have hr:Region.ready .any ops l = []:=by
   cases hr:Region.ready .any ops l with
   |nil=>rfl
   |cons i r=>
    have:=(hready _ l hnm (Nat.le_refl _) hsz hF i (by rw[hr];exact List.mem_cons_self)).2
    omega
  refine⟨hr,?_⟩
  rw[List.drop_eq_nil_of_le (by simp)] at h
  exact h
 |succ fuel ih=>
  intro m l a w hnm hms hsz hF hf h
  refine⟨fun hr=>?_,fun i hi=>?_⟩
  ·have hm:m=ops.size:=by
    apply Decidable.byContradiction
    intro hne
    have hlt:m < ops.size:=by omega
    have:m∈Region.ready .any ops l:=by
     refine mem_ready.2 ⟨?_,ops[m],Array.getElem?_eq_getElem hlt,fun e he hbe=>?_⟩
     ·have:=hF.2 m (Nat.le_refl _)
      rw[Array.getD_eq_getD_getElem?] at this ⊢
      rw[Array.getElem?_eq_getElem (by omega)] at this ⊢
      exact this
     ·have h1:=List.all_eq_true.1 hB m (List.mem_range.2 hlt)
      rw[Array.getElem?_eq_getElem hlt] at h1
      have h2:=(Array.all_eq_true_iff_forall_mem.1 h1) e he
      rw[hbe] at h2
      exact hF.1 e.on (by simpa using h2)
    rw[hr] at this
    cases this
   subst hm
   rw[List.drop_eq_nil_of_le (by simp)] at h
   exact h
  ·obtain⟨rfl,hlt⟩:=hready m l hnm hms hsz hF i hi
   have hd:ops.toList.drop i=ops[i] :: ops.toList.drop (i+1):=by
    rw[List.drop_eq_getElem_cons (by simpa using hlt)]
    simp
   rw[hd] at h
   unfold wpOp
   rw[Array.getElem?_eq_getElem hlt]
   have hF' : First (l.setIfInBounds i true) (i+1):=by
    refine⟨fun j hj=>?_,fun j hj=>?_⟩
    ·by_cases e:i=j
     ·subst e
      simp[Array.getD_eq_getD_getElem?,Array.getElem?_setIfInBounds,hsz,hlt]
     ·rw[show(l.setIfInBounds i true).getD j false=l.getD j false from getD_set_ne false e]
      exact hF.1 j (by omega)
    ·rw[show(l.setIfInBounds i true).getD j false=l.getD j false from getD_set_ne false (by omega)]
     exact hF.2 j (by omega)
   have hih : ∀ a w,wpList P ops Q (ops.toList.drop (i+1)) a w → wpAny P .any ops Q fuel (l.setIfInBounds i true) a w:=fun a w hk=>ih (i+1) _ a w (by omega) (by omega) (by simpa using hsz) hF' (by omega) hk
   simp only[wpList] at h
   split at h
   ·rename_i hwd
    dsimp only
    rw[if_pos hwd]
    rcases h with h|h
    ·exact .inl (Oper.wp_mono hih h)
    ·exact .inr h
   ·rename_i hwd
    dsimp only
    rw[if_neg hwd]
    exact hih _ _ h
theorem wpAny_confT {n:Nat} {a0:Act} {w0:World} {R:Nat → Value → World → Prop} {E:List (List (Tmp × Option Nat))} (hok:confOk ops E=true) (ht:tailOk ops n=true)
  (hR : ∀ i v w w',Below w0.heap.size w0 w → R i v w → Below w.heap.size w w' → R i v w')
  (hz : ∀ (t:Tmp) (j:Nat) (o:Oper),ops[j]? = some o → o.dst=some t → t < a0.tmps.size)
  (hs:cZ P ops Q a0 w0 R E 0 (ops.toList.take n))
  (hend : ∀ a w,a.tmps.size=a0.tmps.size → a.defers=a0.defers → Below w0.heap.size w0 w → (∀ (j:Nat) (o:Oper) (t:Tmp),j < n → ops[j]? = some o → o.dst=some t → ∃ v,a.tmps[t]? = some v∧R j v w) → (∀ t:Tmp,(∀ (j:Nat) (o:Oper),j < n → ops[j]? = some o → o.dst≠some t) → a.tmps[t]? = a0.tmps[t]?) → wpList P ops Q (ops.toList.drop n) a w) :
  ∀ (fuel:Nat) (l:Array Bool) (a:Act) (w:World),l.size=ops.size → l.toList.count false≤fuel → (∀ j,n≤j → l.getD j false=false) →
   (∀ (j:Nat) (o:Oper),ops[j]? = some o → l.getD j false=true → ∀ e∈o.after,Region.binds .any e=true → l.getD e.on false=true) →
   Conf ops a0 w0 R l a w → wpAny P .any ops Q fuel l a w:=by
 have htl:=ht
 simp only[confOk,Bool.and_eq_true] at hok
 obtain⟨⟨hE,hB⟩,hD⟩:=hok
 simp only[tailOk,Bool.and_eq_true,decide_eq_true_eq] at ht
 obtain⟨⟨hpre,hw⟩,hns⟩:=ht
 have whole : ∀ (l:Array Bool) (a:Act) (w:World) (fuel:Nat),l.size=ops.size → l.toList.count false≤fuel → First l n → Conf ops a0 w0 R l a w → wpAny P .any ops Q fuel l a w:=by
  intro l a w fuel hn hf hF hC
  refine wpAny_tail hB htl fuel n l a w (Nat.le_refl _) (by omega) hn hF ?_ (hend a w hC.size hC.defers hC.below (fun j o t hj ho hd=>hC.done j o t ho hd (hF.1 j hj) (hz t j o ho hd)) (fun t h=>hC.keep t (fun j o ho hl=>?_)))
  ·have:ops.size - n≤l.toList.count false:=by
    have h1:(l.toList.drop n).count false=(l.toList.drop n).length:=by
     rw[List.count_eq_length]
     intro b hb
     obtain⟨j,hj⟩:=List.getElem?_of_mem hb
     rw[List.getElem?_drop] at hj
     have:=hF.2 (n+j) (by omega)
     rw[Array.getD_eq_getD_getElem?,← Array.getElem?_toList,hj] at this
     exact this.symm
    have h2:=List.Sublist.count_le false (List.drop_sublist n l.toList)
    rw[h1,List.length_drop,Array.length_toList,hn] at h2
    exact h2
   omega
  ·by_cases hj:j < n
   ·exact h j o hj ho
   ·rw[hF.2 j (by omega)] at hl
    cases hl
 intro fuel
 induction fuel with
 |zero=>
  intro l a w hn hf hT hcl hC
  exfalso
  have h1:false ∉ l.toList:=by
   intro h
   have:=List.count_pos_iff.2 h
   omega
  have h2:=hT n (Nat.le_refl _)
  rw[Array.getD_eq_getD_getElem?,Array.getElem?_eq_getElem (by omega)] at h2
  exact h1 (by rw[← (show l[n]=false from h2)];exact Array.mem_toList_iff.2 (Array.getElem_mem _))
 |succ fuel ih=>
  intro l a w hn hf hT hcl hC
  by_cases hall : ∀ j,j < n → l.getD j false=true
  ·exact whole l a w _ hn hf ⟨hall,hT⟩ hC
  have hlow : ∀ i,i∈Region.ready .any ops l → i < n:=by
   intro i hi
   obtain⟨hun,o,ho,hready⟩:=mem_ready.1 hi
   have hio:=(Array.getElem?_eq_some_iff.1 ho).1
   apply Decidable.byContradiction
   intro hge
   by_cases e:i=n
   ·subst e
    exact hall fun j hj=>eB hcl i i o ho hready j (by simpa using List.all_eq_true.1 hpre j (List.mem_range.2 hj))
   ·have h1:=List.all_eq_true.1 hw (i - n) (List.mem_range.2 (by omega))
    rw[show n+(i - n)=i by omega] at h1
    simp only[Bool.or_eq_true,beq_iff_eq] at h1
    rcases h1 with h1|h1
    ·omega
    ·unfold waits at h1
     rw[ho] at h1
     obtain⟨e,he,h3⟩:=Array.any_eq_true'.1 h1
     simp only[Bool.and_eq_true,beq_iff_eq] at h3
     have h4:=hready e he h3.1
     rw[h3.2,hT (i - 1) (by omega)] at h4
     cases h4
  refine⟨fun hr=>?_,fun i hi=>?_⟩
  ·exfalso
   have:=all_listed hn hB hr n hns
   rw[hT n (Nat.le_refl _)] at this
   cases this
  have hin:=hlow i hi
  obtain⟨hun,o,ho,hready⟩:=mem_ready.1 hi
  have hio:=(Array.getElem?_eq_some_iff.1 ho).1
  have hlt:i < l.size:=by rw[hn];exact hio
  have hst:=cZ.get (ops.toList.take n) hs (j:=i) (o:=o) (by rw[List.getElem?_take,if_pos hin];simpa using ho)
  rw[Nat.zero_add] at hst
  have henv:=env_of hC hz hi hcl (E.getD i []) (List.all_eq_true.1 hE i (List.mem_range.2 hio))
  refine wpOp_step ho fun K' hK=>hst a w hC.below henv K' fun v w' hb hRv=>hK _ _ ?_
  have hg : ∀ j d,(l.setIfInBounds i true).getD j d=if i=j then true else l.getD j d:=fun j d=>by
   by_cases e:i=j
   ·subst e
    rw[if_pos rfl]
    simp[Array.getD_eq_getD_getElem?,Array.getElem?_setIfInBounds,hlt]
   ·rw[if_neg e]
    exact getD_set_ne d e
  refine ih _ _ _ (by simpa using hn) ?_ ?_ ?_ ?_
  ·have h1:l.toList[i]? = some false:=by
    rw[Array.getD_eq_getD_getElem?,Array.getElem?_eq_getElem hlt] at hun
    have:l[i]=false:=hun
    simp[this,hlt]
   have:=count_set l.toList i h1
   rw[Array.toList_setIfInBounds]
   omega
  ·intro j hj
   rw[hg,if_neg (by omega)]
   exact hT j hj
  ·intro j oj hj hl e he hbe
   rw[hg] at hl ⊢
   by_cases ee:i=e.on
   ·rw[if_pos ee]
   ·rw[if_neg ee]
    by_cases ej:i=j
    ·subst ej
     have:oj=o:=Option.some.inj (hj.symm.trans ho)
     subst this
     exact hready e he hbe
    ·rw[if_neg ej] at hl
     exact hcl j oj hj hl e he hbe
  ·have hb':=ax hC.below hb
   refine⟨?_,?_,hb',?_,?_⟩
   ·cases hd:o.dst <;> simp[Act.put,hC.size]
   ·cases hd:o.dst <;> simp[Act.put,hC.defers]
   ·intro j oj t hj hd hl ht
    rw[hg] at hl
    by_cases ej:i=j
    ·subst ej
     have:oj=o:=Option.some.inj (hj.symm.trans ho)
     subst this
     refine⟨v,?_,hRv⟩
     rw[hd]
     simp[Act.put,hC.size,ht]
    ·rw[if_neg ej] at hl
     obtain⟨v0,hv0,hr0⟩:=hC.done j oj t hj hd hl ht
     refine⟨v0,?_,hR j v0 w w' hC.below hr0 hb⟩
     have hjo:=(Array.getElem?_eq_some_iff.1 hj).1
     have h1:=List.all_eq_true.1 (List.all_eq_true.1 hD j (List.mem_range.2 hjo)) i (List.mem_range.2 hio)
     rw[hj,ho] at h1
     have hne:o.dst≠some t:=by
      intro e
      simp[hd,e,Ne.symm ej] at h1
     cases hd2:o.dst with
     |none=>simpa [Act.put] using hv0
     |some d=>
      have:d≠t:=fun e=>hne (by rw[hd2,e])
      simpa [Act.put,Array.getElem?_setIfInBounds,this] using hv0
   ·intro t ht
    have hne:o.dst≠some t:=ht i o ho (by rw[hg,if_pos rfl])
    have hk:=hC.keep t (fun j oj hj hl=>ht j oj hj (by rw[hg];split <;> first|rfl|exact hl))
    cases hd2:o.dst with
    |none=>simpa [Act.put] using hk
    |some d=>
     have:d≠t:=fun e=>hne (by rw[hd2,e])
     simpa [Act.put,Array.getElem?_setIfInBounds,this] using hk
def dsOkN (ops:Array Oper) (n:Nat) (ds:List (Nat × Tmp)):Bool:=
 (ds.all fun p=>decide (p.1 < n) && match ops[p.1]? with|some o=>o.dst == some p.2|none=>false) && ((List.range n).all fun j=>match ops[j]? with|some o=>(match o.dst with|some t=>ds.any (fun p=>p.2 == t)|none=>true)|none=>true)
theorem wp_region_confT {id:Nat} {a0:Act} {w0:World} (n:Nat) (R:Nat → Value → World → Prop) (E:List (List (Tmp × Option Nat))) (ds:List (Nat × Tmp)) (hm:P.follows .mixedOrders=true) (hok:confOk ops E=true) (ht:tailOk ops n=true) (hds:dsOkN ops n ds=true)
  (hR : ∀ i v w w',Below w0.heap.size w0 w → R i v w → Below w.heap.size w w' → R i v w')
  (hz:(ops.all fun o=>match o.dst with|some t=>decide (t < a0.tmps.size)|none=>true)=true)
  (hs:cZ P ops Q a0 w0 R E 0 (ops.toList.take n))
  (hend : ∀ w,Below w0.heap.size w0 w → eu R w (fun x=>wpList P ops Q (ops.toList.drop n) { tmps:=x,defers:=a0.defers } w) ds a0.tmps) :
  (Code.region id ops true).wp P Q a0 w0:=by
 refine wp_region_any hm (wpAny_confT (n:=n) (R:=R) (E:=E) (a0:=a0) (w0:=w0) hok ht hR ?_ hs ?_ ops.size _ a0 _ (by simp) (by simp) ?_ ?_ ⟨rfl,rfl,fe (Below.refl _ _),?_,fun _ _=>rfl⟩)
 ·intro t j o hj hd
  have:=(Array.all_eq_true_iff_forall_mem.1 hz) o (Array.mem_of_getElem? hj)
  rw[hd] at this
  simpa using this
 ·intro a w h1 h2 hb hdone hkeep
  simp only[dsOkN,Bool.and_eq_true] at hds
  obtain⟨hd1,hd2⟩:=hds
  have hv : ∀ p∈ds,∃ v,a.tmps[p.2]? = some v∧R p.1 v w:=by
   intro p hp
   have:=List.all_eq_true.1 hd1 p hp
   simp only[Bool.and_eq_true,decide_eq_true_eq] at this
   cases ho:ops[p.1]? with
   |none=>rw[ho] at this;cases this.2
   |some o=>rw[ho] at this;exact hdone p.1 o p.2 this.1 ho (by simpa using this.2)
  have hvs : ∃ vs:List (Tmp × Value),vs.map (·.1)=ds.map (·.2)∧(∀ (n:Nat) (p:Nat × Tmp) (q:Tmp × Value),ds[n]? = some p → vs[n]? = some q → R p.1 q.2 w)∧(∀ q∈vs,a.tmps[q.1]? = some q.2):=by
   clear hd1 hd2 hend
   induction ds with
   |nil=>exact⟨[],rfl,by simp,by simp⟩
   |cons p r ih=>
    obtain⟨v,hv1,hv2⟩:=hv p List.mem_cons_self
    obtain⟨vs,e1,e2,e3⟩:=ih (fun q hq=>hv q (List.mem_cons_of_mem _ hq))
    refine⟨(p.2,v) :: vs,by simp[e1],?_,?_⟩
    ·intro n p' q' hp' hq'
     cases n with
     |zero=>cases hp';cases hq';exact hv2
     |succ n=>exact e2 n p' q' hp' hq'
    ·intro q hq
     rcases List.mem_cons.1 hq with rfl|hq
     ·exact hv1
     ·exact e3 q hq
  obtain⟨vs,e1,e2,e3⟩:=hvs
  have hf:=eu.get vs (hend w hb) e1 e2
  have ha:=act_of (a:=a) (a0:=a0) vs h1 h2 e3 (fun t ht=>hkeep t (fun j o hjn hj hd=>by
   have:=List.all_eq_true.1 hd2 j (List.mem_range.2 hjn)
   rw[hj] at this
   dsimp only at this
   rw[hd] at this
   obtain⟨p,hp,h3⟩:=List.any_eq_true.1 this
   have h4:p.2∈vs.map (·.1):=by rw[e1];exact List.mem_map.2 ⟨p,hp,rfl⟩
   obtain⟨q,hq,h5⟩:=List.mem_map.1 h4
   have h6:=List.all_eq_true.1 ht q hq
   rw[h5] at h6
   simp at h3 h6
   exact h6 h3))
  rw[ha]
  exact hf
 ·intro j hj
  rw[Array.getD_eq_getD_getElem?,Array.getElem?_replicate]
  split <;> rfl
 ·intro j o hj hl
  exfalso
  simp[Array.getD_eq_getD_getElem?,Array.getElem?_replicate] at hl
  split at hl <;> simp at hl
 ·intro j o t hj hd hl
  exfalso
  simp[Array.getD_eq_getD_getElem?,Array.getElem?_replicate] at hl
  split at hl <;> simp at hl
end
end Go.Proofs.YtcmhfcciapenfaaDoor
