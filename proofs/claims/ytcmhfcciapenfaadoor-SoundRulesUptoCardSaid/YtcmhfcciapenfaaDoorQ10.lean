/- A part of the proof. -/
import Derived.Test.YtcmhfcciapenfaaDoorQ06
import Derived.Test.YtcmhfcciapenfaaDoorQ09
set_option linter.all false
namespace Go.Proofs.YtcmhfcciapenfaaDoor.Pa
open Go Go.RowKit Go.Maps Go.Proofs.YtcmhfcciapenfaaDoorW.PrintWords Go.Proofs.YtcmhfcciapenfaaDoorW.PrintLast Go.Proofs.YtcmhfcciapenfaaDoorW.PrintMore
abbrev DK:=List UInt8 × Int
def dkOk (q:DK):Prop:=q.1.length≤140737488355328∧-9223372036854775808≤q.2∧q.2 < 9223372036854775808
def dkLit (q:DK):Lit:=.string (keyBytes [.string q.1,.int .i64 q.2])
def dkVal (q:DK):Value:=dayVal ⟨q.1.toArray⟩ q.2
theorem fI {q:DK} (h:dkOk q):keyOf Tryd.prog 83 (dkVal q)=some (dkLit q):=day_key (s:=⟨q.1.toArray⟩) (by simpa [ByteArray.size] using h.1) h.2
theorem dk_inj {q q' : DK} (h:dkOk q) (h' : dkOk q') (e:dkLit q=dkLit q'):q=q':=by
 have h1:=fI h
 have h2:=fI h'
 rw[← e] at h2
 have h3:=dB.inj h1 h2
 obtain⟨a,b⟩:=q
 obtain⟨a',b'⟩:=q'
 simp only[dkVal,dayVal,Value.agg.injEq] at h3
 have h4:=congrArg (fun (x:Array Value)=>x.toList) h3
 simp at h4
 exact Prod.ext h4.1 h4.2
def heldE (v:Value):Option (DataW Value × List MemPlace):=some (.held v,[])
structure MDV (w:World) (b n:Nat) (ks:List DK) (V:DK → Value) (D:DataW Value):Prop where
 own:w.ownsMap Tryd.prog 83 heldE b n D
 oks : ∀ q∈ks,dkOk q
 keys : ∀ kl,Maps.has D kl=true → ∃ q∈ks,kl=dkLit q
 val : ∀ q∈ks,∀ z,D.atKey (dkLit q) z = .held (V q)
variable {w w' : World} {b n:Nat} {ks:List DK} {V:DK → Value} {D:DataW Value}
theorem MDV.made (w:World) (V:DK → Value):MDV (w.alloc (.map #[] 0)) w.heap.size 0 [] V (.map []):=⟨World.ownsMap_made _ _ _ _,(fun q hq=>by simp at hq),(fun kl h=>by simp[Maps.has] at h),(fun q hq=>by simp at hq)⟩
theorem MDV.kept {row:Option Nat} (h:MDV w b n ks V D) (hg:w.grownBy w' row) (hne:some b≠row):MDV w' b n ks V D:=⟨h.own.kept hg hne,h.oks,h.keys,h.val⟩
theorem MDV.below (h:MDV w b n ks V D) (hb:Below w.heap.size w w'):MDV w' b n ks V D:=h.kept (row:=none) ⟨hb.os,hb.tape,hb.output,hb.size,fun k hk _=>hb.block k hk⟩ (by simp)
theorem MDV.lt (h:MDV w b n ks V D):b < w.heap.size:=h.own.lt
theorem MDV.has {q:DK} (h:MDV w b n ks V D) (hq:dkOk q):Maps.has D (dkLit q)=decide (q∈ks):=by
 cases e:Maps.has D (dkLit q)
 ·refine(decide_eq_false fun hm=>?_).symm
  rw[Maps.has_true_of_atKey (fun z=>h.val q hm z)] at e
  cases e
 ·obtain⟨q',hm,e2⟩:=h.keys _ e
  have:=dk_inj hq (h.oks q' hm) e2
  subst this
  exact(decide_eq_true hm).symm
theorem MDV.put_keys {q:DK} (h:MDV w b n ks V D) (hq:dkOk q) (v:Value):(∀ kl,Maps.has (D.put (dkLit q) (.held v)) kl=true → ∃ p∈q :: ks,kl=dkLit p)∧∀ p∈q :: ks,∀ z,(D.put (dkLit q) (.held v)).atKey (dkLit p) z = .held (if p=q then v else V p):=by
 have hm:=World.ownsMap.isMap h.own
 have hk:WideAt.IsKeyLit (dkLit q):=trivial
 refine⟨fun kl hkl=>?_,fun p hp z=>?_⟩
 ·by_cases e:kl=dkLit q
  ·exact⟨q,List.mem_cons_self,e⟩
  ·rw[Maps.has_put_other e] at hkl
   obtain⟨p,hp,e2⟩:=h.keys kl hkl
   exact⟨p,List.mem_cons_of_mem _ hp,e2⟩
 ·by_cases e:p=q
  ·subst e
   rw[if_pos rfl,Maps.atKey_put_same hm hk]
  ·rw[if_neg e]
   have hp' : p∈ks:=by
    rcases List.mem_cons.1 hp with h1|h1
    ·exact absurd h1 e
    ·exact h1
   rw[Maps.atKey_put_other (fun e2=>e (dk_inj (h.oks p hp') hq e2)),h.val p hp']
theorem eP {ops:Array Oper} {rest:List Oper} {o:Oper} {a:Act} {Q:Exit → Act → World → Prop} (hg:o.guard=none) (m x v:Operand) (hop:o.op=Op.mapUpdate 81 m x v) {q:DK} (hq:dkOk q) (val:Value)
  (hm:a.eval m = .map (some b)) (h:MDV w b n ks V D) (hn:n < 140737488355328) (hx:a.eval x=dkVal q) (hv:a.eval v=val)
  (hK : ∀ w',MDV w' b (n+1) (q :: ks) (fun p=>if p=q then val else V p) (D.put (dkLit q) (.held val)) → w.grownBy w' (some b) → wpList Tryd.prog ops Q rest (a.put o.dst undef) w'):wpList Tryd.prog ops Q (o :: rest) a w:=by
 refine wpList_mapUpdate_own w hg m x v 81 hop 83 77 dB Tryd.underlying81 heldE b n D hm h.own (by unfold maxLen;omega) (dkVal q) val (dkLit q) hx hv (fI hq) (.held val) [] rfl ?_
 intro w' r1 r2
 obtain⟨h1,h2⟩:=h.put_keys hq val
 refine hK w' ⟨r1,fun p hp=>?_,h1,h2⟩ r2
 rcases List.mem_cons.1 hp with rfl|hp
 ·exact hq
 ·exact h.oks p hp
theorem fO (w:World):(zeroValue 77).run Tryd.prog w = .ok (.slice none 0 0) w:=by kernel_rfl
theorem bv {ops:Array Oper} {rest:List Oper} {o:Oper} {a:Act} {Q:Exit → Act → World → Prop} (hg:o.guard=none) (m x:Operand) (hop:o.op=Op.lookup 81 m x true) {q:DK} (hq:dkOk q)
  (hm:a.eval m = .map (some b)) (h:MDV w b n ks V D) (hx:a.eval x=dkVal q)
  (hK : ∀ v,wpList Tryd.prog ops Q rest (a.put o.dst (.tuple #[v,.bool (decide (q∈ks))])) w):wpList Tryd.prog ops Q (o :: rest) a w:=by
 refine wpList_lookup_own_ok w hg m x 81 hop 83 77 dB Tryd.underlying81 heldE (fO w) (.held (.slice none 0 0)) [] rfl b n D hm h.own (dkVal q) (dkLit q) hx (fI hq) ?_
 intro v ps _
 rw[h.has hq]
 exact hK v
theorem bZ {ops:Array Oper} {rest:List Oper} {o:Oper} {a:Act} {Q:Exit → Act → World → Prop} {t:TypeId} {m s x:Operand} (_h:o.op=Op.entryStore t m s x) (h:wpList Tryd.prog ops Q (o :: rest) a w):wpList Tryd.prog ops Q (o :: rest) a w:=h
theorem dh {ops:Array Oper} {rest:List Oper} {o:Oper} {a:Act} {Q:Exit → Act → World → Prop} {t:TypeId} {m x:Operand} (_h:o.op=Op.mapEntry t m x) (h:wpList Tryd.prog ops Q (o :: rest) a w):wpList Tryd.prog ops Q (o :: rest) a w:=h
def MOpen (w1:World) (b n:Nat) (ks:List DK) (V:DK → Value) (D:DataW Value) (q:DK) (st:Nat):Prop:=
 ∀ (w2:World) (val:Value),w2.heap[b]? = w1.heap[b]? → ∃ w3 D',(Instr.entryStore 81 (.map (some b)) (goInt st) val).run Tryd.prog w2 = .ok () w3∧MDV w3 b (n+1) ks (fun p=>if p=q then val else V p) D'∧w2.grownBy w3 (some b)
theorem eQ {w:World} {b:Nat} {es:Array MapEntry} {clock:Nat} {es' : Array MapEntry} {clock' : Nat} (hb:w.heap[b]? = some (.map es clock)):w.grownBy (ChangeMaps.setBlock w b (.map es' clock')) (some b):=
 ⟨rfl,rfl,rfl,by simp[ChangeMaps.setBlock],fun i _ hi=>ChangeMaps.heap_setBlock_other hb _ (fun e=>hi (by rw[e]))⟩
theorem bD {ops:Array Oper} {rest:List Oper} {o:Oper} {a:Act} {Q:Exit → Act → World → Prop} (hg:o.guard=none) (m x:Operand) (hop:o.op=Op.mapEntry 81 m x) {q:DK} (hq:dkOk q) (hqk:q∈ks)
  (hm:a.eval m = .map (some b)) (h:MDV w b n ks V D) (hn:n < 140737488355328) (hx:a.eval x=dkVal q)
  (hK : ∀ w1 st,w.grownBy w1 (some b) → w1.heap.size=w.heap.size → MOpen w1 b n ks V D q st → wpList Tryd.prog ops Q rest (a.put o.dst (.tuple #[V q,goInt st])) w1):wpList Tryd.prog ops Q (o :: rest) a w:=by
 refine wpList_plain hg fun K' hK'=>?_
 have hown:=h.own
 obtain⟨es,clock,hb,F,hs,hD⟩:=h.own
 obtain⟨v0,st,es1,clock1,hrun,hv0,hstore⟩:=WideElems.entry_then_store (R:=heldE) day_law Tryd.underlying81 (z:=.slice none 0 0) (fun u=>fO u) hb F (fI hq)
 have hV:v0=V q:=by
  rcases hv0 with ⟨e0,he0,hk0,rfl⟩|⟨hno,_⟩
  ·rcases Maps.fit_look (R:=heldE) false dB Tryd.underlying81 (fO w) hb F (fI hq) with ⟨_,hno,_⟩|⟨e1,y,he1,hk1,_,hR1,hat,_⟩
   ·exact absurd hk0 (hno e0 he0)
   ·have e:e0=e1:=entry_eq_of_key ((MapKept.stamped_iff es clock).1 F.stamped).2.2 he0 he1 (hk0.trans hk1.symm)
    subst e
    have h1:=hat .nil
    rw[← hD] at h1
    have h2:=h.val q hqk .nil
    rw[h1] at h2
    have h3:y=(.held e0.val,[]):=(Option.some.inj hR1).symm
    rw[h3] at h2
    simpa using h2
  ·exfalso
   rcases Maps.fit_look (R:=heldE) false dB Tryd.underlying81 (fO w) hb F (fI hq) with ⟨_,_,hat⟩|⟨e1,y,he1,hk1,_⟩
   ·have h1:=hat .nil
    rw[← hD,h.val q hqk .nil] at h1
    cases h1
   ·exact hno e1 he1 hk1
 unfold Oper.wp
 simp[execOp,hop,hm,hx,hrun,Result.andThen]
 rw[hV]
 refine hK' _ _ (hK _ st (eQ hb) (by simp[ChangeMaps.setBlock]) ?_)
 intro w2 val hw2
 have hw2' : w2.heap[b]? = some (.map es1 clock1):=hw2.trans (ChangeMaps.heap_setBlock_same hb _)
 obtain⟨es',clock',hr1,hr2⟩:=hstore w2 val hw2'
 obtain⟨w',hr3,hr4,hr5⟩:=hown.update dB Tryd.underlying81 (by unfold maxLen;omega) (fI hq) (val:=val) (d:=.held val) (ps:=[]) rfl
 rw[hr2] at hr3
 have ew:ChangeMaps.setBlock w b (.map es' clock')=w':=by
  injection hr3
 subst ew
 have hput:=h.put_keys hq val
 refine⟨_,_,hr1,⟨?_,h.oks,fun kl hkl=>?_,fun p hp z=>hput.2 p (List.mem_cons_of_mem _ hp) z⟩,eQ hw2'⟩
 ·obtain⟨es2,clock2,hb2,F2,hs2,hD2⟩:=hr4
  rw[ChangeMaps.heap_setBlock_same hb] at hb2
  injection hb2 with hb2
  injection hb2 with e1 e2
  subst e1 e2
  exact⟨es',clock',ChangeMaps.heap_setBlock_same hw2' _,F2,hs2,hD2⟩
 ·obtain⟨p,hp,e⟩:=hput.1 kl hkl
  rcases List.mem_cons.1 hp with rfl|hp
  ·exact⟨p,hqk,e⟩
  ·exact⟨p,hp,e⟩
theorem bf {w1:World} {ops:Array Oper} {rest:List Oper} {o:Oper} {a:Act} {Q:Exit → Act → World → Prop} (hg:o.guard=none) (m s x:Operand) (hop:o.op=Op.entryStore 81 m s x) {q:DK} {st:Nat} (val:Value)
  (hO:MOpen w1 b n ks V D q st) (hw:w.heap[b]? = w1.heap[b]?) (hm:a.eval m = .map (some b)) (hs:a.eval s=goInt st) (hx:a.eval x=val)
  (hK : ∀ w' D',MDV w' b (n+1) ks (fun p=>if p=q then val else V p) D' → w.grownBy w' (some b) → wpList Tryd.prog ops Q rest (a.put o.dst undef) w'):wpList Tryd.prog ops Q (o :: rest) a w:=by
 refine wpList_plain hg fun K' hK'=>?_
 obtain⟨w3,D',hrun,h1,h2⟩:=hO w val hw
 unfold Oper.wp
 simp[execOp,hop,hm,hs,hx,hrun,Result.andThen]
 exact hK' _ _ (hK _ _ h1 h2)
end Go.Proofs.YtcmhfcciapenfaaDoor.Pa
