/-
  The law pylon/pylonlaw06.ScanLines, where its arguments are of bulk at most 1048576: it answers true, and each argument reads as it did.
-/
import Derived.Test.YtopgcofloldedaaRows
import Derived.Test.YtopgcofloldedaaPa7
import Derived.Test.YtopgcofloldedaaULinesLaw
import Derived.WalkKit
import Derived.ProofKit
import Derived.OpenShut
import Derived.ShutString
import Derived.ChangeOld
import Derived.Below
import Derived.JoinedCond
import Derived.SliceStrings
namespace Go.Proofs.Ytopgcofloldedaa.scanLines
open Go.ChangeShapes Go.WideShapes Go.ChangeAt Go.RowKit
open Go.ChangeMaps (open_string shut_string)
set_option linter.unusedVariables false
theorem own : ownKnob Try.prog.godebug = none := by kernel_rfl
theorem laidOut : laidOutB Try.prog = true := by kernel_rfl
theorem bulk_len {H : Type} (l : List (DataW H)) : l.length ≤ Rows.uptoBulkAll l := by
  induction l with
  | nil => simp [Rows.uptoBulkAll]
  | cons x r ih =>
    have : 1 ≤ Rows.uptoBulk x := by cases x with
      | lit l => cases l <;> simp [Rows.uptoBulk]
      | nil => simp [Rows.uptoBulk]
      | ptr d => simp [Rows.uptoBulk]
      | slice elems spare => simp [Rows.uptoBulk]
      | agg parts => simp [Rows.uptoBulk]
      | iface t d => simp [Rows.uptoBulk]
      | map entries => simp [Rows.uptoBulk]
      | held h => simp [Rows.uptoBulk]
    simp only [Rows.uptoBulkAll, List.length_cons]
    omega
/-- a list of strings: its bulk -/
theorem bulk_strs {H : Type} (l : List ByteArray) : Rows.uptoBulkAll (strs l : List (DataW H)) = (l.map fun a => a.size + 1).sum := by
  induction l with
  | nil => rfl
  | cons a r ih =>
    have e : (strs (a :: r) : List (DataW H)) = DataW.lit (.string a.data.toList) :: strs r := rfl
    rw [e]
    simp only [Rows.uptoBulkAll, Rows.uptoBulk, List.map_cons, List.sum_cons, ih, Array.length_toList]
    rfl
set_option maxRecDepth 100000 in
theorem lifted (os : Os) (started : os.Started) (H : Type) (enc : TypeId × Value → H) (F : Stop.Interp) :
    ReturnsInHanded {} Try.checked os 6 .any ((Rows.OpenSpec.upto Rows.scanLinesSpec).pre6 enc Try.prog Try.f6 Rows.scanLinesUptoRow.domain false) (((Rows.OpenSpec.upto Rows.scanLinesSpec).at F).post enc Try.prog Try.f6 false true false false) := by
  refine returnsInHanded_of_cond (C := Try.checked) (s := Rows.OpenSpec.upto Rows.scanLinesSpec) (k := Rows.uptoSmall) rfl own started (by kernel_rfl) Try.func6
    (OpenSpec.witness (enc := enc) (C := Try.checked) (s := Rows.OpenSpec.upto Rows.scanLinesSpec) (k := Rows.uptoSmall) rfl false ⟨#[], #[.slice none 0 0, .slice none 0 0], []⟩ 8 (by kernel_rfl) (by kernel_rfl) (by kernel_rfl) (x := ([.nil, .nil], [], [])) (by kernel_rfl) rfl (by kernel_rfl)) ?_
  intro W base args ds gs before hval0 hW _ hk _
  have hval : ∀ (j : Nat) t v, Try.f6.params[j]? = some t → args[j]? = some v → Value.okWide Try.prog W .any base t v := hval0
  have hW' := hW
  obtain ⟨p, q, hA0, hV, rfl, hfz, hnd⟩ := hW
  have hA : DataW.TrodAll enc Try.prog W 0 (fun _ => true) true Try.f6.params.toList args.toList ds p := hA0
  rw [Try.params6] at hA hval
  obtain ⟨v0, vs0, d0, ds0, p0, q0, hargs, rfl, rfl, h0, r0⟩ := trodAll_cons hA
  obtain ⟨v1, vs1, d1, ds1, p1, q1, rfl, rfl, rfl, h1, r1⟩ := trodAll_cons r0
  obtain ⟨rfl, rfl, rfl⟩ := trodAll_nil r1
  obtain rfl : args = #[v0, v1] := by cases args; simp_all
  obtain ⟨rfl, rfl⟩ := trodVars_none hV
  obtain ⟨A0, len0, cap0, rfl⟩ := okWide_slice Try.underlying23 (hval 0 23 v0 rfl rfl)
  have k0 := h0
  have lt0 : ∀ x ∈ p0, x.block < W.heap.size := by obtain ⟨m, hm⟩ := k0; exact DataW.trod_lt m _ _ _ hm
  obtain ⟨l0, hr0, hl0, hc0, hb0⟩ : ∃ l : List ByteArray, YtopgcofloldedaaW.PrintWords.Kd.C YtopgcofloldedaaW.PrintWords.Kd.string W A0 l.length l ∧ l.length = len0 ∧ len0 ≤ cap0 ∧ (l.map fun a => a.size + 1).sum ≤ Rows.uptoBulk d0 := by
    obtain ⟨fuel, hf⟩ := h0
    rcases open_strings Try.underlying23 Try.underlying9 (by kernel_rfl) hf with ⟨hcs, hx⟩ | ⟨x, l, c, ss, hcs, _, hl, hm, hlen, hx, hcell, hss⟩
    · simp [Value.cells] at hcs
      obtain ⟨rfl, rfl, rfl⟩ := hcs
      exact ⟨[], ⟨rfl, Nat.zero_le _, fun h => absurd h (by simp)⟩, rfl, Nat.le_refl _, by simp⟩
    · simp [Value.cells] at hcs
      obtain ⟨rfl, rfl, rfl⟩ := hcs
      have hlen' : ss.length = cap0 := by simpa using hlen
      have hd : d0 = .slice (strs (ss.take len0)) (strs (ss.drop len0)) := congrArg Prod.fst hx
      have hn : (ss.take len0).length = len0 := by rw [List.length_take]; omega
      refine ⟨ss.take len0, ?_, hn, hl, ?_⟩
      · refine YtopgcofloldedaaW.PrintWords.Kd.C_of_reads (d := ByteArray.empty) (h1 := fun _ => rfl) ⟨rfl, by unfold maxLen at hm; omega, fun _ => ⟨x, rfl, fun j hj => ?_⟩⟩
        rw [hn] at hj
        have := hcell j (by omega)
        rw [this]
        congr 2
        rw [List.getD_eq_getElem?_getD, List.getD_eq_getElem?_getD, List.getElem?_take, if_pos hj]
      · rw [hd]
        simp only [Rows.uptoBulk, bulk_strs]
        omega
  subst hl0
  obtain ⟨A1, len1, cap1, rfl⟩ := okWide_slice Try.underlying23 (hval 1 23 v1 rfl rfl)
  have k1 := h1
  have lt1 : ∀ x ∈ p1, x.block < W.heap.size := by obtain ⟨m, hm⟩ := k1; exact DataW.trod_lt m _ _ _ hm
  obtain ⟨l1, hr1, hl1, hc1, hb1⟩ : ∃ l : List ByteArray, YtopgcofloldedaaW.PrintWords.Kd.C YtopgcofloldedaaW.PrintWords.Kd.string W A1 l.length l ∧ l.length = len1 ∧ len1 ≤ cap1 ∧ (l.map fun a => a.size + 1).sum ≤ Rows.uptoBulk d1 := by
    obtain ⟨fuel, hf⟩ := h1
    rcases open_strings Try.underlying23 Try.underlying9 (by kernel_rfl) hf with ⟨hcs, hx⟩ | ⟨x, l, c, ss, hcs, _, hl, hm, hlen, hx, hcell, hss⟩
    · simp [Value.cells] at hcs
      obtain ⟨rfl, rfl, rfl⟩ := hcs
      exact ⟨[], ⟨rfl, Nat.zero_le _, fun h => absurd h (by simp)⟩, rfl, Nat.le_refl _, by simp⟩
    · simp [Value.cells] at hcs
      obtain ⟨rfl, rfl, rfl⟩ := hcs
      have hlen' : ss.length = cap1 := by simpa using hlen
      have hd : d1 = .slice (strs (ss.take len1)) (strs (ss.drop len1)) := congrArg Prod.fst hx
      have hn : (ss.take len1).length = len1 := by rw [List.length_take]; omega
      refine ⟨ss.take len1, ?_, hn, hl, ?_⟩
      · refine YtopgcofloldedaaW.PrintWords.Kd.C_of_reads (d := ByteArray.empty) (h1 := fun _ => rfl) ⟨rfl, by unfold maxLen at hm; omega, fun _ => ⟨x, rfl, fun j hj => ?_⟩⟩
        rw [hn] at hj
        have := hcell j (by omega)
        rw [this]
        congr 2
        rw [List.getD_eq_getElem?_getD, List.getD_eq_getElem?_getD, List.getElem?_take, if_pos hj]
      · rw [hd]
        simp only [Rows.uptoBulk, bulk_strs]
        omega
  subst hl1
  have hk' : Rows.uptoBulkAll ([d0, d1] ++ [] : List (DataW H)) ≤ 1048576 := of_decide_eq_true hk
  simp only [Rows.uptoBulkAll, List.cons_append, List.nil_append] at hk'
  clear hA0 hval0
  obtain ⟨k, hP⟩ := Pu.scanLines l0 l1 (by omega)
  refine (Pa.pylonlaw06_ScanLines.calls k A0 cap0 l0 A1 cap1 l1 true W hr0 hc0 hr1 hc1 hP).mono fun e W' ⟨he, hbel⟩ => ?_
  have bel : Below W.heap.size W W' := hbel
  subst he
  exact ⟨_, rfl, _, _, _, [], _, [], hW', trodAll_mk1 (shut_bool Try.underlying4 _), (trodAll_cons_mk (Below.trod laidOut (by kernel_rfl) (of_decide_eq_true (by kernel_rfl)) k0 bel lt0) (trodAll_cons_mk (Below.trod laidOut (by kernel_rfl) (of_decide_eq_true (by kernel_rfl)) k1 bel lt1) trodAll_mk0)), rfl, bel.frame _, fun h => by cases h⟩
theorem over : Rows.scanLinesUptoRow.holds Try.pinned (Rows.OpenSpec.upto Rows.scanLinesSpec) :=
  OpenClaim.holds_of_cond 6 Try.f6 rfl rfl rfl rfl rfl rfl rfl ⟨rfl, rfl, rfl, rfl, rfl⟩ rfl rfl rfl rfl rfl (by kernel_rfl) Try.func6 (by kernel_rfl)
    (of_decide_eq_true (by kernel_rfl)) (by unfold Func.isWrapper; first | (rw [if_pos (by decide +kernel)]; kernel_rfl) | (rw [if_neg (by decide +kernel)]; exact ⟨rfl, rfl⟩))
    (fun os started H enc _ F => lifted os started H enc F)
theorem proved : Rows.ScanLinesUptoSaid := over
#print axioms proved
end Go.Proofs.Ytopgcofloldedaa.scanLines
namespace Go.Proofs.Ytopgcofloldedaa
/-- The law, under a short name, for the claim. -/
theorem scanLines_holds : Rows.ScanLinesUptoSaid := scanLines.proved
end Go.Proofs.Ytopgcofloldedaa
