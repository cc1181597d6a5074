-- pure text: ScanNames
import Derived.Test.YtopgcofloldedaaDoorUNameLaw
import Derived.Test.YtopgcofloldedaaDoorUNumbers
import Derived.Test.YtopgcofloldedaaDoorPa3
namespace Go.Proofs.YtopgcofloldedaaDoor.Pu
open Go.RowKit Go.Proofs.YtopgcofloldedaaDoorW.PrintWords Go.Proofs.YtopgcofloldedaaDoor.Pa

theorem nameL_parts {l : List UInt8} (h : nameL l = true) : ∃ c r, l = c :: r ∧ l.length ≤ 24 ∧ (∀ x ∈ l, mark x = true) ∧ 97 ≤ c.toNat ∧ c.toNat ≤ 122 := by
  cases l with
  | nil => simp [nameL] at h
  | cons c r =>
    simp only [nameL, Bool.and_eq_true, decide_eq_true_eq, List.all_eq_true] at h
    exact ⟨c, r, rfl, h.1.1.2, h.1.2, h.2.1, h.2.2⟩
theorem scanNames (a : ByteArray) (h : a.size ≤ 140737488351232) : ∃ k, pylonlaw06_ScanNames.f k a = some true := by
  obtain ⟨K0, hA⟩ := awake06_ev
  have hl := Bs_length a
  have hN := name_at a (by omega)
  cases hn : nameL (Bs a) with
  | false =>
    obtain ⟨K1, hR⟩ := refName_ev a (by omega)
    refine ⟨max K0 K1, ?_⟩
    have h0 := hA (max K0 K1) (Nat.le_max_left _ _)
    have h1 := hR (max K0 K1) (Nat.le_max_right _ _)
    simp only [hn] at h0 h1
    unfold pylonlaw06_ScanNames.f
    rw [h0]
    simp only [Option.bind_some, if_true]
    rw [hN, hn]
    simp only [Option.bind_some, Bool.false_eq_true, if_false]
    rw [h1]
    rfl
  | true =>
    obtain ⟨c, r, ea, h24, hm, h97, h122⟩ := nameL_parts hn
    rw [hl] at h24
    obtain ⟨K1, hX⟩ := words_ev a (by omega)
    refine ⟨max K0 K1, ?_⟩
    have h0 := hA (max K0 K1) (Nat.le_max_left _ _)
    have h1 := hX (max K0 K1) (Nat.le_max_right _ _)
    have hw : WS a = ([toB (c :: r)], 0, 0) := by
      unfold WS
      rw [ea]
      simp only [wd]
      rw [if_pos (mark_pr (hm c (by rw [ea]; simp))), wd_marks _ _ _ (fun x hx => hm x (by rw [ea]; simp [hx]))]
      rfl
    have hnum : fix_Read.f a = some (0, 1) := by
      refine fix_Read.bad a (by omega) ?_
      rw [← Bool.not_eq_true, isNum_iff]
      rintro ⟨_, _, h3⟩
      rw [tail_cons ea] at h3
      rw [if_neg (by rintro rfl; exact absurd h97 (by decide))] at h3
      have := h3 c (by simp)
      omega
    simp only [hw] at h0 h1
    unfold pylonlaw06_ScanNames.f
    rw [h0]
    simp only [Option.bind_some, if_true]
    rw [hN, hn]
    simp only [Option.bind_some, if_true]
    rw [h1]
    unfold scan_Number.f
    rw [hnum]
    simp only [Option.bind_some, List.length_singleton]
    rw [if_neg (by decide)]
    simp only [Option.bind_some]
    rw [if_pos trivial, if_pos (by decide), if_pos trivial, if_neg (by omega)]
    by_cases h1s : (a.size : Int) = 1
    · rw [if_pos h1s]
    · rw [if_neg h1s]
      have hrl : a.size = r.length + 1 := by rw [← hl, ea]; rfl
      have hw1 := Aside0.mk (w64 (x := (a.size : Int) - 1) (by omega) (by omega))
      rw [hw1.out, if_pos (by omega), if_pos (by omega)]
      have ht : ((a.size : Int) - 1).toNat = r.length := by omega
      rw [ht]
      have hx : Bs (a.extract 0 r.length) = c :: r.take (r.length - 1) := by
        rw [Bs_extract, ea]
        simp only [List.drop_zero, Nat.sub_zero]
        have : r.length = (r.length - 1) + 1 := by omega
        rw [this, List.take_succ_cons, Nat.add_sub_cancel]
      rw [name_at _ (by rw [ByteArray.size_extract]; omega), hx]
      simp only [Option.bind_some, Option.some.injEq]
      unfold nameL
      simp only [Bool.and_eq_true, decide_eq_true_eq, List.all_eq_true, List.length_cons]
      refine ⟨⟨⟨by omega, ?_⟩, ?_⟩, h97, h122⟩
      · have := List.length_take_le (r.length - 1) r
        omega
      · intro x hx
        refine hm x ?_
        rw [ea]
        rcases List.mem_cons.1 hx with rfl | hx
        · simp
        · exact List.mem_cons_of_mem _ (List.mem_of_mem_take hx)
end Go.Proofs.YtopgcofloldedaaDoor.Pu
