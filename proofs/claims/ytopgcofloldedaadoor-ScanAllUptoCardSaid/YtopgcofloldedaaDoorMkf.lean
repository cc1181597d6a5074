-- MkFar: cells that lie ahead of a call's own blocks (laid by mk.py as <Name>Mkf.lean, for the texts that name it).
import Derived.Test.YtopgcofloldedaaDoorWWords
namespace Go.Proofs.YtopgcofloldedaaDoorW.PrintWords
theorem cell_farH {w0 W : World} {g o : Nat} {a : Addr} {v : Value} (hw : w0.cell? a = some v) (hg : w0.heap.size ≤ g) (u : Value) : (W.setCell ⟨g, o, none⟩ u).cell? a = W.cell? a :=
  cell_far (p := ⟨g, o, none⟩) (Nat.ne_of_lt (Nat.lt_of_lt_of_le (World.block_lt_of_cell? w0 a hw) hg)) u
end Go.Proofs.YtopgcofloldedaaDoorW.PrintWords
