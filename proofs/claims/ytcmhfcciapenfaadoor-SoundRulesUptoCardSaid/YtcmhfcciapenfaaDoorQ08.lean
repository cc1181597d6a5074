/- A part of the proof. -/
import Derived.Test.YtcmhfcciapenfaaDoorQ04
set_option linter.all false
namespace Go.Proofs.YtcmhfcciapenfaaDoor
open Go Go.RowKit Go.Proofs.YtcmhfcciapenfaaDoorW.PrintWords
section
variable {P:Program} {ops:Array Oper} {rest:List Oper} {o:Oper} {a:Act} {Q:Exit → Act → World → Prop}
theorem gate_store {W:World} (ty:TypeId) {x y:Operand} (_ho:o.op = .store ty x y) (h:wpList P ops Q (o :: rest) a W):wpList P ops Q (o :: rest) a W:=h
theorem gate_load {W:World} (ty:TypeId) {x:Operand} (_ho:o.op = .load ty x) (h:wpList P ops Q (o :: rest) a W):wpList P ops Q (o :: rest) a W:=h
theorem store_event {W:World} (hgd:o.guard=none) (ty:TypeId) (x y:Operand) (ho:o.op = .store ty x y) {g:Nat} {cs:Array Value} {t:TypeId} (hb:W.heap[g]? = some (.cells cs t (0,0))) {V:Array Value}
  (hx:a.eval x = .pointer (some ⟨g,0,none⟩)) (hy:a.eval y = .agg V) (hs:V.size=cs.size) (hi:(P.info? ty).map (·.size)=some V.size) (h1:V.toList.all (·.oneCell')=true)
  (h : ∀ w1,w1.heap[g]? = some (.cells V t (0,0)) → W.grownBy w1 (some g) → wpList P ops Q rest (a.put o.dst undef) w1):wpList P ops Q (o :: rest) a W:=eY hgd ty x y ho hb hx hy hs hi h1 h
theorem load_event {W:World} (hgd:o.guard=none) (ty:TypeId) (x:Operand) (ho:o.op = .load ty x) {g:Nat} {V:Array Value} {t:TypeId} (hb:W.heap[g]? = some (.cells V t (0,0)))
  (hx:a.eval x = .pointer (some ⟨g,0,none⟩)) (d:TypeDesc) (hu:P.underlying ty=some d) (hd:d.isRow=true) (hi:(P.info? ty).map (·.size)=some V.size)
  (h:wpList P ops Q rest (a.put o.dst (.agg V)) W):wpList P ops Q (o :: rest) a W:=load_whole hgd ty x ho hb hx d hu hd hi h
end
end Go.Proofs.YtcmhfcciapenfaaDoor
