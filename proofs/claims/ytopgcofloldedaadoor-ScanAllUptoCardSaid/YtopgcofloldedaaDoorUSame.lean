-- pure text: a list of words is the same as itself
import Derived.Test.YtopgcofloldedaaDoorUBase
import Derived.Test.YtopgcofloldedaaDoorPa6
namespace Go.Proofs.YtopgcofloldedaaDoor.Pu
open Go.RowKit Go.Proofs.YtopgcofloldedaaDoorW.PrintWords Go.Proofs.YtopgcofloldedaaDoor.Pa

theorem same_loop (xs : List ByteArray) (hn : xs.length < 9223372036854775807) (d : Nat) : ∀ (k i : Nat), i ≤ xs.length → xs.length - i = d → d < k → pylonref06_SameWords.l0 k xs xs (xs.length : Int) (i : Int) = some true := by
  induction d with
  | zero =>
    intro k i h0 hd hk
    obtain ⟨k, rfl⟩ : ∃ m, k = m + 1 := ⟨k - 1, by omega⟩
    simp only [pylonref06_SameWords.l0]
    rw [if_neg (by omega)]
  | succ d ih =>
    intro k i h0 hd hk
    obtain ⟨k, rfl⟩ : ∃ m, k = m + 1 := ⟨k - 1, by omega⟩
    simp only [pylonref06_SameWords.l0]
    have e : wrap64 ((i : Int) + 1) = ((i + 1 : Nat) : Int) := by rw [w64 (by omega) (by omega)]; omega
    rw [if_pos (by omega), if_pos (by omega), if_pos (by omega), if_pos (by omega), if_pos trivial, e]
    exact ih k (i + 1) (by omega) (by omega) (by omega)
theorem same_ev (xs : List ByteArray) (hn : xs.length < 9223372036854775807) : Ev (fun k => pylonref06_SameWords.f k xs xs) true := by
  refine ⟨xs.length + 1, fun k hk => ?_⟩
  show pylonref06_SameWords.f k xs xs = _
  unfold pylonref06_SameWords.f
  rw [if_pos rfl]
  exact same_loop xs hn xs.length k 0 (by omega) (by omega) (by omega)

end Go.Proofs.YtopgcofloldedaaDoor.Pu
