/- A part of the proof. -/
import Derived.Test.YtcmhfcciapenfaaDoorQ04
namespace Go.Proofs.YtcmhfcciapenfaaDoor
open Go Go.RowKit Go.Proofs.YtcmhfcciapenfaaDoorW.PrintWords
section
variable {P:Program} {ops:Array Oper} {rest:List Oper} {o:Oper} {a:Act} {Q:Exit → Act → World → Prop}
theorem gate_store {W:World} (ty:TypeId) {x y:Operand} (_ho:o.op = .store ty x y) (h:wpList P ops Q (o :: rest) a W):wpList P ops Q (o :: rest) a W:=h
theorem store_event {W:World} (hgd:o.guard=none) (ty:TypeId) (x y:Operand) (ho:o.op = .store ty x y) {g:Nat} {cs:Array Value} {t:TypeId} (hb:W.heap[g]? = some (.cells cs t (0,0))) {V:Array Value}
  (hx:a.eval x = .pointer (some ⟨g,0,none⟩)) (hy:a.eval y = .agg V) (hs:V.size=cs.size) (hi:(P.info? ty).map (·.size)=some V.size) (h1:V.toList.all (·.oneCell')=true)
  (h : ∀ w1,w1.heap[g]? = some (.cells V t (0,0)) → W.grownBy w1 (some g) → wpList P ops Q rest (a.put o.dst undef) w1):wpList P ops Q (o :: rest) a W:=dU hgd ty x y ho hb hx hy hs hi h1 h
end
end Go.Proofs.YtcmhfcciapenfaaDoor
