-- pure text: ScanCuts
import Derived.Test.YtopgcofloldedaaUWords
import Derived.Test.YtopgcofloldedaaPa2
import Derived.Test.YtopgcofloldedaaPa1
namespace Go.Proofs.Ytopgcofloldedaa.Pu
open Go.RowKit Go.Proofs.YtopgcofloldedaaW.PrintWords Go.Proofs.Ytopgcofloldedaa.Pa

theorem awake06_ev : Ev (fun k => pylonlaw06_awake.f k) true := by
  obtain ⟨K, hK⟩ := words_ev (⟨#[114, 101, 97, 100, 32, 48, 32, 53]⟩ : ByteArray) (by decide)
  refine ⟨K, fun k hk => ?_⟩
  show pylonlaw06_awake.f k = _
  unfold pylonlaw06_awake.f
  have h := hK k hk
  simp only at h
  rw [h]
  have e : WS (⟨#[114, 101, 97, 100, 32, 48, 32, 53]⟩ : ByteArray) = ([toB [114, 101, 97, 100], toB [48], toB [53]], 0, 0) := by
    unfold WS
    have : wd (Bs (⟨#[114, 101, 97, 100, 32, 48, 32, 53]⟩ : ByteArray)) none 0 = .ok [[114, 101, 97, 100], [48], [53]] := rfl
    rw [this]
    rfl
  rw [e]
  simp only [Option.bind_some, List.length_cons, List.length_nil]
  rw [if_pos trivial, if_pos trivial, if_pos (by decide), if_pos (by decide)]
  have : rdOf ByteArray.empty [toB [114, 101, 97, 100], toB [48], toB [53]] 2 = toB [53] := rfl
  rw [this, toList_Bs, Bs_toB]
  rfl

theorem same_loop (xs : List ByteArray) (hn : xs.length < 9223372036854775807) (d : Nat) : ∀ (k i : Nat), i ≤ xs.length → xs.length - i = d → d < k → pylonref06_SameWords.l0 k xs xs (xs.length : Int) (i : Int) = some true := by
  induction d with
  | zero =>
    intro k i h0 hd hk
    obtain ⟨k, rfl⟩ : ∃ m, k = m + 1 := ⟨k - 1, by omega⟩
    simp only [pylonref06_SameWords.l0]
    rw [if_neg (by omega)]
  | succ d ih =>
    intro k i h0 hd hk
    obtain ⟨k, rfl⟩ : ∃ m, k = m + 1 := ⟨k - 1, by omega⟩
    simp only [pylonref06_SameWords.l0]
    have e : wrap64 ((i : Int) + 1) = ((i + 1 : Nat) : Int) := by rw [w64 (by omega) (by omega)]; omega
    rw [if_pos (by omega), if_pos (by omega), if_pos (by omega), if_pos (by omega), if_pos trivial, e]
    exact ih k (i + 1) (by omega) (by omega) (by omega)
theorem same_ev (xs : List ByteArray) (hn : xs.length < 9223372036854775807) : Ev (fun k => pylonref06_SameWords.f k xs xs) true := by
  refine ⟨xs.length + 1, fun k hk => ?_⟩
  show pylonref06_SameWords.f k xs xs = _
  unfold pylonref06_SameWords.f
  rw [if_pos rfl]
  exact same_loop xs hn xs.length k 0 (by omega) (by omega) (by omega)

theorem wd_len (l : List UInt8) : ∀ (st : Option (List UInt8)) (at_ : Nat) (ws : List (List UInt8)), wd l st at_ = .ok ws → ws.length ≤ l.length + 1 := by
  induction l with
  | nil =>
    intro st at_ ws h
    cases st with
    | none => simp [wd] at h
    | some cur => simp only [wd, Except.ok.injEq] at h; subst h; simp
  | cons c r ih =>
    intro st at_ ws h
    cases st with
    | none =>
      simp only [wd] at h
      split at h
      · have := ih _ _ _ h; simp; omega
      · cases h
    | some cur =>
      simp only [wd] at h
      split at h
      · have := ih _ _ _ h; simp; omega
      · split at h
        · split at h
          · rename_i vs hv
            simp only [Except.ok.injEq] at h
            subst h
            have := ih _ _ _ hv
            simp; omega
          · cases h
        · cases h

theorem Bs_ne {a : ByteArray} : a.toList = ([] : List UInt8) ↔ Bs a = [] := by rw [toList_Bs]
theorem Bs_size0 {a : ByteArray} (h : Bs a = []) : a.size = 0 := by rw [← Bs_length, h]; rfl

theorem scanCuts (a b : ByteArray) (h : a.size + b.size ≤ 1048576) : ∃ k, pylonlaw06_ScanCuts.f k a b = some true := by
  obtain ⟨K0, hA⟩ := awake06_ev
  obtain ⟨K1, hX⟩ := words_ev a (by omega)
  obtain ⟨K2, hY⟩ := words_ev b (by omega)
  have hsz1 : (a ++ (⟨#[32]⟩ : ByteArray)).size = a.size + 1 := by rw [ByteArray.size_append]; rfl
  obtain ⟨K3, hZ⟩ := words_ev ((a ++ (⟨#[32]⟩ : ByteArray)) ++ b) (by rw [ByteArray.size_append, hsz1]; omega)
  have hS : ∀ ws : List ByteArray, ws.length ≤ 3000000 → ∃ K, ∀ k, K ≤ k → pylonref06_SameWords.f k ws ws = some true := fun ws hw => same_ev ws (by omega)
  have hB : Bs ((a ++ (⟨#[32]⟩ : ByteArray)) ++ b) = Bs a ++ 32 :: Bs b := by
    rw [Bs_append, Bs_append]
    show (Bs a ++ [32]) ++ Bs b = _
    simp
  have lenA := Bs_length a
  have lenB := Bs_length b
  cases eA : wd (Bs a) none 0 with
  | ok xs =>
    cases eB : wd (Bs b) none 0 with
    | ok ys =>
      have nx := wd_len _ _ _ _ eA
      have ny := wd_len _ _ _ _ eB
      have hbn : Bs b ≠ [] := by intro e; rw [e] at eB; simp [wd] at eB
      have eZ : wd (Bs a ++ 32 :: Bs b) none 0 = .ok (xs ++ ys) := by
        rw [wd_cut_ok _ _ _ _ _ eA, Nat.zero_add, show (Bs a).length + 1 = ((Bs a).length + 1) + 0 from rfl, wd_shift _ _ _ _ (.inl hbn), eB]
      obtain ⟨K4, hS4⟩ := hS (xs.map toB ++ ys.map toB) (by simp; omega)
      refine ⟨max (max K0 K1) (max (max K2 K3) K4) + 3, ?_⟩
      generalize hk : max (max K0 K1) (max (max K2 K3) K4) = K
      unfold pylonlaw06_ScanCuts.f
      have h0 := hA (K + 3) (by omega)
      have h1 := hX (K + 3) (by omega)
      have h2 := hY (K + 3) (by omega)
      have h3 := hZ (K + 3) (by omega)
      have h4 := hS4 (K + 2) (by omega)
      simp only [WS, eA, eB, hB, eZ, res, List.nil_append, List.map_append] at h0 h1 h2 h3
      rw [h0]
      simp only [Option.bind_some, if_true]
      rw [h1]
      simp only [Option.bind_some]
      rw [h2]
      simp only [Option.bind_some]
      rw [if_pos (by omega), if_pos (by rw [hsz1]; omega), h3]
      simp only [Option.bind_some, if_true, beq_self_eq_true]
      simp only [pylonlaw06_ScanCuts.j0, if_true, Option.bind_some, List.nil_append, List.length_nil, List.length_map]
      rw [if_pos (by omega), if_pos (by omega), h4]
      rfl
    | error d =>
      obtain ⟨c', eZ, hc'⟩ : ∃ c' : Nat, wd (Bs a ++ 32 :: Bs b) none 0 = .error c' ∧ (Bs b ≠ [] ∧ c' = (Bs a).length + 1 + d ∨ Bs b = [] ∧ c' = (Bs a).length + 1) := by
        by_cases hb : Bs b = []
        · refine ⟨(Bs a).length + 1, ?_, .inr ⟨hb, rfl⟩⟩
          rw [wd_cut_ok _ _ _ _ _ eA, hb, Nat.zero_add]
          simp [wd]
        · refine ⟨(Bs a).length + 1 + d, ?_, .inl ⟨hb, rfl⟩⟩
          rw [wd_cut_ok _ _ _ _ _ eA, Nat.zero_add, show (Bs a).length + 1 = ((Bs a).length + 1) + 0 from rfl, wd_shift _ _ _ _ (.inl hb), eB]
      refine ⟨max (max K0 K1) (max K2 K3) + 3, ?_⟩
      generalize hk : max (max K0 K1) (max K2 K3) = K
      unfold pylonlaw06_ScanCuts.f
      have h0 := hA (K + 3) (by omega)
      have h1 := hX (K + 3) (by omega)
      have h2 := hY (K + 3) (by omega)
      have h3 := hZ (K + 3) (by omega)
      simp only [WS, eA, eB, hB, eZ, res, List.nil_append] at h0 h1 h2 h3
      have hd := (wd_err _ _ _ _ eB).2
      rw [h0]
      simp only [Option.bind_some, if_true]
      rw [h1]
      simp only [Option.bind_some]
      rw [h2]
      simp only [Option.bind_some]
      rw [if_pos (by omega), if_pos (by rw [hsz1]; omega), h3]
      simp only [Option.bind_some, if_true]
      rw [show ((1 : Int) == 0) = false from rfl]
      simp only [pylonlaw06_ScanCuts.j0, pylonlaw06_ScanCuts.j1, pylonlaw06_ScanCuts.j2, if_true, Bool.false_eq_true, if_false, List.length_nil]
      rw [show (((0 : Nat) : Int) != 0) = false from rfl]
      simp only [Bool.false_eq_true, if_false]
      rcases hc' with ⟨hb, rfl⟩ | ⟨hb, rfl⟩
      · have : (b.toList != ([] : List UInt8)) = true := by rw [toList_Bs]; simpa using hb
        rw [this]
        simp only [if_true]
        rw [w64 (x := (a.size : Int) + 1) (by omega) (by omega), w64 (by omega) (by omega), lenA]
        simp only [Option.some.injEq, beq_iff_eq]
        omega
      · have : (b.toList != ([] : List UInt8)) = false := by rw [toList_Bs, hb]; rfl
        rw [this]
        simp only [Bool.false_eq_true, if_false]
        rw [w64 (x := (a.size : Int) + 1) (by omega) (by omega), lenA]
        simp only [Option.some.injEq, beq_iff_eq]
        omega
  | error c =>
    obtain ⟨c', eZ, hc'⟩ := wd_cut_error (Bs b) _ _ _ _ eA
    obtain ⟨yw, d, f, eY⟩ : ∃ (yw : List ByteArray) (d f : Int), WS b = (yw, d, f) := ⟨_, _, _, rfl⟩
    refine ⟨max (max K0 K1) (max K2 K3) + 3, ?_⟩
    generalize hk : max (max K0 K1) (max K2 K3) = K
    unfold pylonlaw06_ScanCuts.f
    have h0 := hA (K + 3) (by omega)
    have h1 := hX (K + 3) (by omega)
    have h2 := hY (K + 3) (by omega)
    have h3 := hZ (K + 3) (by omega)
    rw [eY] at h2
    simp only [WS, eA, hB, eZ, res, List.nil_append] at h0 h1 h2 h3
    rw [h0]
    simp only [Option.bind_some, if_true]
    rw [h1]
    simp only [Option.bind_some]
    rw [h2]
    simp only [Option.bind_some]
    rw [if_pos (by omega), if_pos (by rw [hsz1]; omega), h3]
    simp only [Option.bind_some]
    rw [if_neg (by decide)]
    simp only [pylonlaw06_ScanCuts.j0, pylonlaw06_ScanCuts.j1, pylonlaw06_ScanCuts.j2, if_true, Bool.false_eq_true, if_false, List.length_nil]
    rw [show (((0 : Nat) : Int) != 0) = false from rfl]
    simp only [Bool.false_eq_true, if_false]
    rw [if_neg (by decide), if_neg (by decide)]
    by_cases ha : Bs a = []
    · have e0 : a.toList = ([] : List UInt8) := Bs_ne.2 ha
      rw [if_pos e0]
      rw [ha] at eA eZ
      simp only [wd, Nat.lt_irrefl, if_false, Except.error.injEq] at eA
      simp only [List.nil_append, wd, pr_32, Bool.false_eq_true, if_false, Except.error.injEq] at eZ
      rw [if_pos (by omega)]
    · have e0 : ¬ a.toList = ([] : List UInt8) := fun e => ha (Bs_ne.1 e)
      rw [if_neg e0]
      have hpos : 0 < a.size := by rw [← lenA]; exact List.length_pos_iff.2 ha
      by_cases hcc : c' = c
      · rw [if_pos (by omega)]
      · rcases hc' with hc' | ⟨h5, h6, h7⟩
        · exact absurd hc' hcc
        · rw [if_neg (by omega), if_pos (by omega), w64 (x := (a.size : Int) - 1) (by omega) (by omega), if_pos (by omega), if_pos (by omega)]
          have hl : (Bs a).getLast? = some 32 := by rcases h7 with h7 | h7; exact absurd h7 ha; exact h7
          rw [List.getLast?_eq_getElem?] at hl
          have e9 : ((a.size : Int) - 1) = (((Bs a).length - 1 : Nat) : Int) := by omega
          rw [e9, bt_get hl, if_pos (by decide), w64 (by omega) (by omega)]
          simp only [Option.some.injEq, beq_iff_eq]
          omega
end Go.Proofs.Ytopgcofloldedaa.Pu
