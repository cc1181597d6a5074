-- pure text: ScanKeeps
import Derived.Test.YtopgcofloldedaaURefWords
import Derived.Test.YtopgcofloldedaaPa5
namespace Go.Proofs.Ytopgcofloldedaa.Pu
open Go.RowKit Go.Proofs.YtopgcofloldedaaW.PrintWords Go.Proofs.Ytopgcofloldedaa.Pa

/-- The loops over what was answered: they change no answer that is asked afterwards. -/
theorem keeps_l2 (x8 : List Int) (x12 : List ByteArray) (x15 : List Int) (x16 : List ByteArray) (h8 : ∀ j, j ≤ 1000000000 → True) (K : Nat) (hI : ∀ k, K ≤ k → pylonref15_SameInts.f k x8 x15 = some true) (hW : ∀ k, K ≤ k → pylonref06_SameWords.f k x12 x16 = some true) (d : Nat) :
    ∀ (k i : Nat) (x7 : List Int) (x9 : List ByteArray), i ≤ 20 → 20 - i = d → K + d < k → x7.length + d < 8796093022208 → x9.length + d < 8796093022208 → pylonlaw06_ScanKeeps.l2 k x7 x8 x9 x12 x15 x16 (i : Int) = some true := by
  induction d with
  | zero =>
    intro k i x7 x9 hi hd hk _ _
    obtain ⟨k, rfl⟩ : ∃ m, k = m + 1 := ⟨k - 1, by omega⟩
    simp only [pylonlaw06_ScanKeeps.l2]
    rw [if_neg (by omega), hI k (by omega)]
    simp only [Option.bind_some, if_true]
    rw [hW k (by omega)]
    rfl
  | succ d ih =>
    intro k i x7 x9 hi hd hk h7 h9
    obtain ⟨k, rfl⟩ : ∃ m, k = m + 1 := ⟨k - 1, by omega⟩
    have e : wrap64 ((i : Int) + 1) = ((i + 1 : Nat) : Int) := by rw [w64 (by omega) (by omega)]; omega
    simp only [pylonlaw06_ScanKeeps.l2]
    rw [if_pos (by omega), if_pos (by omega), if_pos (by omega), e]
    exact ih k (i + 1) _ _ (by omega) (by omega) (by omega) (by simp; omega) (by simp; omega)
theorem keeps_l1 (x8 : List Int) (x12 : List ByteArray) (x15 : List Int) (x16 : List ByteArray) (K : Nat) (hI : ∀ k, K ≤ k → pylonref15_SameInts.f k x8 x15 = some true) (hW : ∀ k, K ≤ k → pylonref06_SameWords.f k x12 x16 = some true) (n : Nat) (hn : n ≤ 1000000000) (d : Nat) :
    ∀ (k i : Nat) (x7 : List Int) (x9 : List ByteArray), x9.length = n → i ≤ n → n - i = d → K + 21 + d < k → x7.length ≤ 1000000000 → pylonlaw06_ScanKeeps.l1 k x7 x8 x9 x12 x15 x16 (n : Int) (i : Int) = some true := by
  induction d with
  | zero =>
    intro k i x7 x9 h9 hi hd hk h7
    obtain ⟨k, rfl⟩ : ∃ m, k = m + 1 := ⟨k - 1, by omega⟩
    simp only [pylonlaw06_ScanKeeps.l1]
    rw [if_neg (by omega)]
    exact keeps_l2 x8 x12 x15 x16 (fun _ _ => trivial) K hI hW 20 k 0 x7 x9 (by omega) (by omega) (by omega) (by omega) (by omega)
  | succ d ih =>
    intro k i x7 x9 h9 hi hd hk h7
    obtain ⟨k, rfl⟩ : ∃ m, k = m + 1 := ⟨k - 1, by omega⟩
    have e : wrap64 ((i : Int) + 1) = ((i + 1 : Nat) : Int) := by rw [w64 (by omega) (by omega)]; omega
    simp only [pylonlaw06_ScanKeeps.l1]
    rw [if_pos (by omega), if_pos (by omega), if_pos (by omega), e]
    exact ih k (i + 1) _ _ (by simp [h9]) (by omega) (by omega) (by omega) h7
theorem keeps_l0 (x8 : List Int) (x12 : List ByteArray) (x15 : List Int) (x16 : List ByteArray) (K : Nat) (hI : ∀ k, K ≤ k → pylonref15_SameInts.f k x8 x15 = some true) (hW : ∀ k, K ≤ k → pylonref06_SameWords.f k x12 x16 = some true) (x9 : List ByteArray) (h9 : x9.length ≤ 1000000000) (n : Nat) (hn : n ≤ 1000000000) (d : Nat) :
    ∀ (k i : Nat) (x7 : List Int), x7.length = n → i ≤ n → n - i = d → K + 22 + x9.length + d < k → pylonlaw06_ScanKeeps.l0 k x7 x8 x9 x12 x15 x16 (n : Int) (i : Int) = some true := by
  induction d with
  | zero =>
    intro k i x7 h7 hi hd hk
    obtain ⟨k, rfl⟩ : ∃ m, k = m + 1 := ⟨k - 1, by omega⟩
    simp only [pylonlaw06_ScanKeeps.l0]
    rw [if_neg (by omega)]
    exact keeps_l1 x8 x12 x15 x16 K hI hW x9.length h9 x9.length k 0 x7 x9 rfl (by omega) (by omega) (by omega) (by omega)
  | succ d ih =>
    intro k i x7 h7 hi hd hk
    obtain ⟨k, rfl⟩ : ∃ m, k = m + 1 := ⟨k - 1, by omega⟩
    have e : wrap64 ((i : Int) + 1) = ((i + 1 : Nat) : Int) := by rw [w64 (by omega) (by omega)]; omega
    simp only [pylonlaw06_ScanKeeps.l0]
    rw [if_pos (by omega), if_pos (by omega), if_pos (by omega), e]
    exact ih k (i + 1) _ (by simp [h7]) (by omega) (by omega) (by omega)

theorem res_len (a : ByteArray) (h : a.size ≤ 1048576) : (WS a).1.length ≤ 1048577 := by
  unfold WS
  cases e : wd (Bs a) none 0 with
  | ok vs =>
    have := wd_len _ _ _ _ e
    rw [Bs_length] at this
    simp only [res, List.nil_append, List.length_map]
    omega
  | error c => simp [res]

theorem scanKeeps (a : ByteArray) (l : List ByteArray) (h : a.size + (l.map fun a => a.size + 1).sum ≤ 1048576) : ∃ k, pylonlaw06_ScanKeeps.f k a l = some true := by
  obtain ⟨K0, hA⟩ := awake06_ev
  obtain ⟨K1, hX⟩ := words_ev a (by omega)
  obtain ⟨K2, hR⟩ := refWords_ev a (by omega)
  have ht := tot_Bs l
  have hl := tot_len (l.map Bs)
  rw [List.length_map] at hl
  obtain ⟨K3, hC⟩ := columns_ev (l.map Bs) (by omega)
  obtain ⟨K4, hD⟩ := refColumns_ev (l.map Bs) (by omega)
  rw [map_toB] at hC hD
  have hcl : (cf 1 (l.map Bs)).length = l.length := by rw [cf_length, List.length_map]
  have hrl := res_len a (by omega)
  obtain ⟨K5, hI⟩ := sameInts_ev (cf 1 (l.map Bs)) (by omega)
  obtain ⟨K6, hW⟩ := same_ev (WS a).1 (by omega)
  obtain ⟨K7, hL⟩ := same_ev l (by omega)
  generalize hM : max (max (max K0 K1) (max K2 K3)) (max (max K4 K5) (max K6 K7)) = M
  refine ⟨M + 30 + l.length + (WS a).1.length + l.length, ?_⟩
  generalize hk : M + 30 + l.length + (WS a).1.length + l.length = k
  have h0 := hA k (by omega)
  have h1 := hX k (by omega)
  have h2 := hR k (by omega)
  have h3 := hC k (by omega)
  have h4 := hD k (by omega)
  have h5 := hI k (by omega)
  have h6 := hW k (by omega)
  have h7 := hL k (by omega)
  simp only at h0 h1 h2 h3 h4 h5 h6 h7
  have et : (l ++ [(⟨#[115, 112, 97, 114, 101]⟩ : ByteArray)]).take ((l.length : Int)).toNat = l := by
    have : ((l.length : Int)).toNat = l.length := by omega
    rw [this, List.take_left]
  have el : rdOf ByteArray.empty (l ++ [(⟨#[115, 112, 97, 114, 101]⟩ : ByteArray)]) (l.length : Int) = ⟨#[115, 112, 97, 114, 101]⟩ := by
    rw [rdOf_get, List.getD_eq_getElem?_getD, List.getElem?_append_right (Nat.le_refl _), Nat.sub_self]
    rfl
  unfold pylonlaw06_ScanKeeps.f
  rw [h0]
  simp only [Option.bind_some, if_true, List.length_nil, List.nil_append, Nat.zero_add]
  rw [if_pos (by omega), if_pos (by omega), if_pos (by omega), if_pos (by simp; omega), et, h3]
  simp only [Option.bind_some]
  rw [h1]
  simp only [Option.bind_some]
  rw [h4]
  simp only [Option.bind_some]
  rw [h2]
  simp only [Option.bind_some]
  rw [h5]
  simp only [Option.bind_some, if_true]
  rw [h6]
  simp only [Option.bind_some, if_true]
  rw [if_pos (by simp; omega), el, if_pos (by rw [toList_Bs]; rfl), h7]
  simp only [Option.bind_some, Bool.not_true]
  obtain ⟨k, rfl⟩ : ∃ m, k = m + 1 := ⟨k - 1, by omega⟩
  simp only [pylonlaw06_ScanKeeps.j0, Bool.false_eq_true, if_false]
  exact keeps_l0 _ _ _ _ M (fun j hj => hI j (by omega)) (fun j hj => hW j (by omega)) (WS a).1 (by omega) _ (by omega) (cf 1 (l.map Bs)).length k 0 _ rfl (by omega) (by omega) (by omega)
end Go.Proofs.Ytopgcofloldedaa.Pu
