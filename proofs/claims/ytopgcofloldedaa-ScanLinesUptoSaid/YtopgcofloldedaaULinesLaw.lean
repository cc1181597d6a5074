-- pure text: ScanLines
import Derived.Test.YtopgcofloldedaaULines
import Derived.Test.YtopgcofloldedaaPa7
import Derived.Test.YtopgcofloldedaaPa6
namespace Go.Proofs.Ytopgcofloldedaa.Pu
open Go.RowKit Go.Proofs.YtopgcofloldedaaW.PrintWords Go.Proofs.Ytopgcofloldedaa.Pa

/-- A text up to its first line feed, of 1000 bytes at most. -/
def cl (l : List UInt8) : List UInt8 := (l.takeWhile (· != 10)).take 1000
theorem cl_no (l : List UInt8) : (10 : UInt8) ∉ cl l := by
  intro h
  have h1 := List.mem_of_mem_take h
  have := List.all_eq_true.1 (List.all_takeWhile (p := (· != 10)) (l := l)) 10 h1
  simp at this
theorem cl_len (l : List UInt8) : (cl l).length ≤ l.length := by
  unfold cl
  rw [List.length_take]
  have := List.IsPrefix.length_le (List.takeWhile_prefix (· != 10) (l := l))
  omega
theorem clean_loop (a : ByteArray) (hs : a.size ≤ 4398046511104) (r : List UInt8) : ∀ (k i : Nat), (Bs a).drop i = r → i ≤ a.size → i ≤ 1000 → (∀ c ∈ (Bs a).take i, (c != 10) = true) → r.length < k → pylonlaw06_clean.l0 k a (i : Int) = some (toB (cl (Bs a))) := by
  induction r with
  | nil =>
    intro k i hd hi h1000 hp hk
    obtain ⟨k, rfl⟩ : ∃ m, k = m + 1 := ⟨k - 1, by omega⟩
    have hl := drop_len hd (by rw [Bs_length]; exact hi)
    rw [Bs_length] at hl
    simp only [List.length_nil, Nat.add_zero] at hl
    simp only [pylonlaw06_clean.l0]
    rw [if_neg (by omega)]
    have hall : (Bs a).take i = Bs a := List.take_of_length_le (by rw [Bs_length]; omega)
    rw [hall] at hp
    have : cl (Bs a) = Bs a := by
      unfold cl
      have e : (Bs a).takeWhile (· != 10) = Bs a := by
        have := List.takeWhile_append_of_pos (l₂ := []) hp
        simpa using this
      rw [e, List.take_of_length_le (by rw [Bs_length]; omega)]
    rw [this, toB_Bs]
  | cons c r ih =>
    intro k i hd hi h1000 hp hk
    obtain ⟨k, rfl⟩ : ∃ m, k = m + 1 := ⟨k - 1, by omega⟩
    have hlt := drop_lt hd
    rw [Bs_length] at hlt
    simp only [List.length_cons] at hk
    have e : wrap64 ((i : Int) + 1) = ((i + 1 : Nat) : Int) := by rw [w64 (by omega) (by omega)]; omega
    have hsplit : Bs a = (Bs a).take i ++ c :: r := by rw [← hd, List.take_append_drop]
    have hlen : ((Bs a).take i).length = i := by rw [List.length_take, Bs_length]; omega
    have htw : (Bs a).takeWhile (· != 10) = (Bs a).take i ++ (c :: r).takeWhile (· != 10) := by
      conv => lhs; rw [hsplit]
      exact List.takeWhile_append_of_pos hp
    have hex : a.extract 0 ((i : Int)).toNat = toB ((Bs a).take i) := by
      rw [extract_toB]
      simp
    simp only [pylonlaw06_clean.l0]
    rw [if_pos (by omega), if_pos (by omega), bt_drop hd]
    by_cases h10 : c = 10
    · subst h10
      rw [if_pos (by decide), if_pos (by omega), hex]
      have ec : cl (Bs a) = (Bs a).take i := by
        unfold cl
        rw [htw]
        simp only [List.takeWhile_cons, bne_self_eq_false, Bool.false_eq_true, if_false, List.append_nil]
        rw [List.take_of_length_le (by omega)]
      rw [ec]
    · rw [if_neg (by
        intro h
        exact h10 (UInt8.toNat_inj.1 (by rw [show (10 : UInt8).toNat = 10 from rfl]; omega)))]
      by_cases hk2 : i = 1000
      · subst hk2
        rw [if_pos (by decide), if_pos (by omega), hex]
        have ec : cl (Bs a) = (Bs a).take 1000 := by
          unfold cl
          rw [htw, List.take_append_of_le_length (by omega), List.take_take]
          simp
        rw [ec]
      · rw [if_neg (by omega), e]
        refine ih k (i + 1) (drop_succ hd) (by omega) (by omega) ?_ (by omega)
        intro x hx
        have e1 : (Bs a)[i]? = some c := by
          have : ((Bs a).drop i)[0]? = some c := by rw [hd]; rfl
          rwa [List.getElem?_drop, Nat.add_zero] at this
        rw [List.take_add_one, e1] at hx
        rcases List.mem_append.1 hx with hx | hx
        · exact hp x hx
        · simp at hx
          subst hx
          simpa using h10
/-- What clean answers. -/
def C (a : ByteArray) : ByteArray := toB (cl (Bs a))
theorem clean_at (a : ByteArray) (hs : a.size ≤ 4398046511104) (k : Nat) (hk : a.size < k) : pylonlaw06_clean.f k a = some (C a) := by
  unfold pylonlaw06_clean.f
  exact clean_loop a hs (Bs a) k 0 (by simp) (by omega) (by omega) (by simp) (by rw [Bs_length]; exact hk)
theorem C_size (a : ByteArray) : (C a).size ≤ a.size := by
  unfold C
  rw [toB_size, ← Bs_length a]
  exact cl_len _

/-- Lines, each with its line feed. -/
def lj (l : List ByteArray) : List UInt8 := (l.map fun a => cl (Bs a) ++ [10]).flatten
theorem lj_cons (a : ByteArray) (l : List ByteArray) : lj (a :: l) = cl (Bs a) ++ 10 :: lj l := by simp [lj]
theorem lj_len (l : List ByteArray) : (lj l).length ≤ (l.map fun a => a.size + 1).sum := by
  induction l with
  | nil => simp [lj]
  | cons a r ih =>
    rw [lj_cons]
    have := cl_len (Bs a)
    rw [Bs_length] at this
    simp only [List.length_append, List.length_cons, List.map_cons, List.sum_cons]
    omega
theorem lf_lj (l : List ByteArray) (r : List UInt8) : lf (lj l ++ r) [] = (match lf r [] with | .ok ls => .ok (l.map (fun a => cl (Bs a)) ++ ls) | .error n => .error (l.length + n)) := by
  induction l with
  | nil => simp only [lj, List.map_nil, List.flatten_nil, List.nil_append, List.length_nil, Nat.zero_add]; cases lf r [] <;> rfl
  | cons a l ih =>
    rw [lj_cons, List.append_assoc, List.cons_append, lf_some _ _ _ (cl_no _), ih]
    cases lf r [] with
    | ok ls => simp
    | error n => simp only [List.length_cons]; congr 1; omega

attribute [local irreducible] C lj cl
theorem l3_loop (a b : List ByteArray) (hn : a.length + b.length ≤ 1048576) (hb : ∀ x ∈ b, x.size ≤ 1048576) (d : Nat) : ∀ (k i : Nat), i ≤ b.length → b.length - i = d → d + 1048577 < k → pylonlaw06_ScanLines.l3 k a b (a.map C ++ b.map C) (b.length : Int) (i : Int) = some true := by
  induction d with
  | zero =>
    intro k i hi hd hk
    obtain ⟨k, rfl⟩ : ∃ m, k = m + 1 := ⟨k - 1, by omega⟩
    simp only [pylonlaw06_ScanLines.l3]
    rw [if_neg (by omega)]
  | succ d ih =>
    intro k i hi hd hk
    obtain ⟨k, rfl⟩ : ∃ m, k = m + 1 := ⟨k - 1, by omega⟩
    have e : wrap64 ((i : Int) + 1) = ((i + 1 : Nat) : Int) := by rw [w64 (by omega) (by omega)]; omega
    have e2 : wrap64 ((a.length : Int) + (i : Int)) = ((a.length + i : Nat) : Int) := by rw [w64 (by omega) (by omega)]; omega
    have hib : i < b.length := by omega
    have e3 : rdOf ByteArray.empty b (i : Int) = b[i] := by rw [rdOf_get, List.getD_eq_getElem?_getD, List.getElem?_eq_getElem hib]; rfl
    have e4 : rdOf ByteArray.empty (a.map C ++ b.map C) ((a.length + i : Nat) : Int) = C b[i] := by
      rw [rdOf_get, List.getD_eq_getElem?_getD, List.getElem?_append_right (by simp), List.length_map, Nat.add_sub_cancel_left, List.getElem?_map, List.getElem?_eq_getElem hib]
      rfl
    have hsz := hb b[i] (List.getElem_mem hib)
    simp only [pylonlaw06_ScanLines.l3, List.length_append, List.length_map]
    rw [e2, e3, e4, clean_at _ (by omega) k (by omega), if_pos (by omega), if_pos (by omega), if_pos (by omega), if_pos (by omega), if_pos (by omega)]
    simp only [Option.bind_some, if_true]
    rw [e]
    exact ih k (i + 1) (by omega) (by omega) (by omega)
theorem l2_loop (a b : List ByteArray) (hn : a.length + b.length ≤ 1048576) (ha : ∀ x ∈ a, x.size ≤ 1048576) (hb : ∀ x ∈ b, x.size ≤ 1048576) (d : Nat) : ∀ (k i : Nat), i ≤ a.length → a.length - i = d → d + b.length + 1048580 < k → pylonlaw06_ScanLines.l2 k a b (a.map C ++ b.map C) (a.length : Int) (i : Int) = some true := by
  induction d with
  | zero =>
    intro k i hi hd hk
    obtain ⟨k, rfl⟩ : ∃ m, k = m + 1 := ⟨k - 1, by omega⟩
    simp only [pylonlaw06_ScanLines.l2]
    rw [if_neg (by omega)]
    exact l3_loop a b hn hb b.length k 0 (by omega) (by omega) (by omega)
  | succ d ih =>
    intro k i hi hd hk
    obtain ⟨k, rfl⟩ : ∃ m, k = m + 1 := ⟨k - 1, by omega⟩
    have e : wrap64 ((i : Int) + 1) = ((i + 1 : Nat) : Int) := by rw [w64 (by omega) (by omega)]; omega
    have hia : i < a.length := by omega
    have e3 : rdOf ByteArray.empty a (i : Int) = a[i] := by rw [rdOf_get, List.getD_eq_getElem?_getD, List.getElem?_eq_getElem hia]; rfl
    have e4 : rdOf ByteArray.empty (a.map C ++ b.map C) (i : Int) = C a[i] := by
      rw [rdOf_get, List.getD_eq_getElem?_getD, List.getElem?_append_left (by simp; omega), List.getElem?_map, List.getElem?_eq_getElem hia]
      rfl
    have hsz := ha a[i] (List.getElem_mem hia)
    simp only [pylonlaw06_ScanLines.l2, List.length_append, List.length_map]
    rw [e3, e4, clean_at _ (by omega) k (by omega), if_pos (by omega), if_pos (by omega), if_pos (by omega), if_pos (by omega)]
    simp only [Option.bind_some, if_true]
    rw [e]
    exact ih k (i + 1) (by omega) (by omega) (by omega)

theorem lines_end (a b : List ByteArray) (hn : (a.map fun a => a.size + 1).sum + (b.map fun a => a.size + 1).sum ≤ 1048576) (hla : a.length + b.length ≤ 1048576) (ha : ∀ x ∈ a, x.size ≤ 1048576) (hb : ∀ x ∈ b, x.size ≤ 1048576) (K : Nat)
    (h1 : ∀ k, K ≤ k → scan_Lines.f k (toB (lj a) ++ toB (lj b)) = some (LS (toB (lj a) ++ toB (lj b)))) (h2 : ∀ k, K ≤ k → scan_Lines.f k (toB (lj a) ++ toB (lj b) ++ (⟨#[33]⟩ : ByteArray)) = some (LS (toB (lj a) ++ toB (lj b) ++ (⟨#[33]⟩ : ByteArray)))) (k i : Nat) (hi : i = b.length) (hk : K + a.length + b.length + 1048590 < k) :
    pylonlaw06_ScanLines.l1 k a b (toB (lj a)) (toB (lj b)) (b.length : Int) (i : Int) = some true := by
  obtain ⟨k, rfl⟩ : ∃ m, k = m + 2 := ⟨k - 2, by omega⟩
  have sa := lj_len a
  have sb := lj_len b
  simp only [pylonlaw06_ScanLines.l1]
  rw [if_neg (by omega), toB_size, toB_size, w64 (by omega) (by omega)]
  by_cases hbig : ((lj a).length : Int) + ((lj b).length : Int) > 1048574
  · rw [if_pos hbig]
  · rw [if_neg hbig, if_pos (by omega), h1 (k + 1) (by omega)]
    simp only [Option.bind_some]
    have hsz : (toB (lj a) ++ toB (lj b)).size = (lj a).length + (lj b).length := by rw [ByteArray.size_append, toB_size, toB_size]
    have hsz2 : (toB (lj a) ++ toB (lj b) ++ (⟨#[33]⟩ : ByteArray)).size = (lj a).length + (lj b).length + 1 := by rw [ByteArray.size_append, hsz]; rfl
    rw [hsz, if_pos (by omega), h2 (k + 1) (by omega)]
    simp only [Option.bind_some]
    have hB1 : Bs (toB (lj a) ++ toB (lj b)) = lj a ++ (lj b ++ []) := by rw [Bs_append, Bs_toB, Bs_toB, List.append_nil]
    have hB2 : Bs (toB (lj a) ++ toB (lj b) ++ (⟨#[33]⟩ : ByteArray)) = lj a ++ (lj b ++ [33]) := by
      rw [Bs_append, Bs_append, Bs_toB, Bs_toB, List.append_assoc]
      rfl
    have L1 : LS (toB (lj a) ++ toB (lj b)) = (a.map C ++ b.map C, 0, 0) := by
      unfold LS
      rw [if_neg (by omega), hB1, lf_lj, lf_lj]
      simp only [lf, lres, List.append_nil, List.nil_append, List.map_append, List.map_map]
      have ec : (toB ∘ fun a => cl (Bs a)) = C := by funext a; unfold C; rfl
      rw [ec]
    have L2 : LS (toB (lj a) ++ toB (lj b) ++ (⟨#[33]⟩ : ByteArray)) = ([], ((a.length + b.length + 1 : Nat) : Int), 1) := by
      unfold LS
      rw [if_neg (by omega), hB2, lf_lj, lf_lj]
      have : lf [33] [] = .error 0 := rfl
      rw [this]
      simp only [lres, List.length_nil]
      congr 4
      omega
    rw [L1, L2]
    simp only [if_true, List.length_append, List.length_map, List.length_nil]
    rw [w64 (x := (a.length : Int) + (b.length : Int)) (by omega) (by omega), w64 (by omega) (by omega), if_pos (by omega), if_pos (by decide)]
    have hne : (((a.length + b.length + 1 : Nat) : Int) != ((a.length : Int) + (b.length : Int) + 1)) = false := by
      rw [bne_eq_false_iff_eq]; omega
    rw [hne]
    simp only [pylonlaw06_ScanLines.j2, Bool.false_eq_true, if_false]
    have h := l2_loop a b hla ha hb a.length k 0 (by omega) (by omega) (by omega)
    have e0 : ((0 : Nat) : Int) = 0 := rfl
    rw [e0] at h
    exact h

theorem take_last {l : List ByteArray} {i : Nat} (h : i < l.length) : lj (l.take (i + 1)) = lj (l.take i) ++ (cl (Bs l[i]) ++ [10]) := by
  rw [List.take_add_one, List.getElem?_eq_getElem h]
  unfold lj
  rw [List.map_append, List.flatten_append]
  simp
theorem lj_take (l : List ByteArray) (i : Nat) : (lj (l.take i)).length ≤ (lj l).length := by
  have : lj l = lj (l.take i) ++ lj (l.drop i) := by
    conv => lhs; rw [← List.take_append_drop i l]
    unfold lj
    rw [List.map_append, List.flatten_append]
  rw [this, List.length_append]
  omega
theorem step_line (s : List UInt8) (x : ByteArray) : toB s ++ C x ++ (⟨#[10]⟩ : ByteArray) = toB (s ++ (cl (Bs x) ++ [10])) := by
  refine Bs_inj ?_
  rw [Bs_append, Bs_append, Bs_toB, Bs_toB]
  unfold C
  rw [Bs_toB, List.append_assoc]
  have e : Bs (⟨#[10]⟩ : ByteArray) = [10] := rfl
  rw [e]

theorem l1_loop (a b : List ByteArray) (hn : (a.map fun a => a.size + 1).sum + (b.map fun a => a.size + 1).sum ≤ 1048576) (hla : a.length + b.length ≤ 1048576) (ha : ∀ x ∈ a, x.size ≤ 1048576) (hb : ∀ x ∈ b, x.size ≤ 1048576) (K : Nat)
    (h1 : ∀ k, K ≤ k → scan_Lines.f k (toB (lj a) ++ toB (lj b)) = some (LS (toB (lj a) ++ toB (lj b)))) (h2 : ∀ k, K ≤ k → scan_Lines.f k (toB (lj a) ++ toB (lj b) ++ (⟨#[33]⟩ : ByteArray)) = some (LS (toB (lj a) ++ toB (lj b) ++ (⟨#[33]⟩ : ByteArray)))) (d : Nat) :
    ∀ (k i : Nat), i ≤ b.length → b.length - i = d → d + K + a.length + b.length + 1048600 < k → pylonlaw06_ScanLines.l1 k a b (toB (lj a)) (toB (lj (b.take i))) (b.length : Int) (i : Int) = some true := by
  have sb := lj_len b
  induction d with
  | zero =>
    intro k i hi hd hk
    rw [List.take_of_length_le (by omega)]
    exact lines_end a b hn hla ha hb K h1 h2 k i (by omega) (by omega)
  | succ d ih =>
    intro k i hi hd hk
    have hib : i < b.length := by clear hn sb h1 h2 hk; omega
    obtain ⟨k, rfl⟩ : ∃ m, k = m + 1 := ⟨k - 1, by omega⟩
    have e3 : rdOf ByteArray.empty b (i : Int) = b[i] := by rw [rdOf_get, List.getD_eq_getElem?_getD, List.getElem?_eq_getElem hib]; rfl
    have hsz := hb b[i] (List.getElem_mem hib)
    have hc := C_size b[i]
    have ht := lj_take b i
    have big : (lj (b.take i)).length + (C b[i]).size ≤ 2097152 := by clear ih hk hd h1 h2; omega
    have hsz2 : b[i].size < k := by clear ih hd h1 h2 hn sb ht hc big; omega
    have hin : i ≤ 1048576 := by clear ih hd h1 h2 hn sb ht hc big hk; omega
    have g2 : b.length - (i + 1) = d := by clear ih hn sb ht hc h1 h2 big hk hsz hsz2 hin hla; omega
    have g3 : d + K + a.length + b.length + 1048600 < k := by clear ih hn sb ht hc h1 h2 big hd hsz hsz2 hin hla hi; omega
    have c1 : (i : Int) < (b.length : Int) := by clear ih hn sb ht hc h1 h2 big hk hsz hsz2 hin hla hd; omega
    have z0 : b[i].size ≤ 4398046511104 := by clear ih hn sb ht hc h1 h2 big hk hsz2 hin hla hd hi; omega
    clear hn sb ht hc h1 h2 hk hd hi hsz hla
    have e := Aside0.mk (show wrap64 ((i : Int) + 1) = ((i + 1 : Nat) : Int) by rw [w64 (by omega) (by omega)]; omega)
    simp only [pylonlaw06_ScanLines.l1]
    rw [e3, clean_at _ z0 k hsz2, if_pos c1, if_pos (by omega), if_pos (by omega)]
    simp only [Option.bind_some]
    rw [ByteArray.size_append, toB_size, if_pos (by omega), if_pos (by omega), e.out, step_line, ← take_last hib]
    exact ih k (i + 1) hib g2 g3
theorem l0_loop (a b : List ByteArray) (hn : (a.map fun a => a.size + 1).sum + (b.map fun a => a.size + 1).sum ≤ 1048576) (hla : a.length + b.length ≤ 1048576) (ha : ∀ x ∈ a, x.size ≤ 1048576) (hb : ∀ x ∈ b, x.size ≤ 1048576) (K : Nat)
    (h1 : ∀ k, K ≤ k → scan_Lines.f k (toB (lj a) ++ toB (lj b)) = some (LS (toB (lj a) ++ toB (lj b)))) (h2 : ∀ k, K ≤ k → scan_Lines.f k (toB (lj a) ++ toB (lj b) ++ (⟨#[33]⟩ : ByteArray)) = some (LS (toB (lj a) ++ toB (lj b) ++ (⟨#[33]⟩ : ByteArray)))) (d : Nat) :
    ∀ (k i : Nat), i ≤ a.length → a.length - i = d → d + K + a.length + 2 * b.length + 1048610 < k → pylonlaw06_ScanLines.l0 k a b (toB (lj (a.take i))) (⟨#[]⟩ : ByteArray) (a.length : Int) (i : Int) = some true := by
  have sa := lj_len a
  induction d with
  | zero =>
    intro k i hi hd hk
    obtain ⟨k, rfl⟩ : ∃ m, k = m + 1 := ⟨k - 1, by omega⟩
    rw [List.take_of_length_le (by omega)]
    simp only [pylonlaw06_ScanLines.l0]
    rw [if_neg (by omega)]
    have h := l1_loop a b hn hla ha hb K h1 h2 b.length k 0 (by omega) (by omega) (by omega)
    have e0 : ((0 : Nat) : Int) = 0 := rfl
    have e1 : toB (lj (b.take 0)) = (⟨#[]⟩ : ByteArray) := by unfold lj; rfl
    rw [e0, e1] at h
    exact h
  | succ d ih =>
    intro k i hi hd hk
    have hia : i < a.length := by clear hn sa h1 h2 hk; omega
    obtain ⟨k, rfl⟩ : ∃ m, k = m + 1 := ⟨k - 1, by omega⟩
    have e3 : rdOf ByteArray.empty a (i : Int) = a[i] := by rw [rdOf_get, List.getD_eq_getElem?_getD, List.getElem?_eq_getElem hia]; rfl
    have hsz := ha a[i] (List.getElem_mem hia)
    have hc := C_size a[i]
    have ht := lj_take a i
    have big : (lj (a.take i)).length + (C a[i]).size ≤ 2097152 := by clear ih hk hd h1 h2; omega
    have hsz2 : a[i].size < k := by clear ih hd h1 h2 hn sa ht hc big; omega
    have hin : i ≤ 1048576 := by clear ih hd h1 h2 hn sa ht hc big hk; omega
    have g2 : a.length - (i + 1) = d := by clear ih hn sa ht hc h1 h2 big hk hsz hsz2 hin hla; omega
    have g3 : d + K + a.length + 2 * b.length + 1048610 < k := by clear ih hn sa ht hc h1 h2 big hd hsz hsz2 hin hla hi; omega
    have c1 : (i : Int) < (a.length : Int) := by clear ih hn sa ht hc h1 h2 big hk hsz hsz2 hin hla hd; omega
    have z0 : a[i].size ≤ 4398046511104 := by clear ih hn sa ht hc h1 h2 big hk hsz2 hin hla hd hi; omega
    clear hn sa ht hc h1 h2 hk hd hi hsz hla
    have e := Aside0.mk (show wrap64 ((i : Int) + 1) = ((i + 1 : Nat) : Int) by rw [w64 (by omega) (by omega)]; omega)
    simp only [pylonlaw06_ScanLines.l0]
    rw [e3, clean_at _ z0 k hsz2, if_pos c1, if_pos (by omega), if_pos (by omega)]
    simp only [Option.bind_some]
    rw [ByteArray.size_append, toB_size, if_pos (by omega), if_pos (by omega), e.out, step_line, ← take_last hia]
    exact ih k (i + 1) hia g2 g3

theorem sum_mem {l : List ByteArray} {x : ByteArray} (h : x ∈ l) : x.size + 1 ≤ (l.map fun a => a.size + 1).sum := by
  induction l with
  | nil => cases h
  | cons a r ih =>
    simp only [List.map_cons, List.sum_cons]
    rcases List.mem_cons.1 h with rfl | h
    · omega
    · have := ih h; omega
theorem sum_len (l : List ByteArray) : l.length ≤ (l.map fun a => a.size + 1).sum := by
  induction l with
  | nil => simp
  | cons a r ih => simp only [List.map_cons, List.sum_cons, List.length_cons]; omega
theorem scanLines (a b : List ByteArray) (h : (a.map fun a => a.size + 1).sum + (b.map fun a => a.size + 1).sum ≤ 1048576) : ∃ k, pylonlaw06_ScanLines.f k a b = some true := by
  obtain ⟨K0, hA⟩ := awake06_ev
  obtain ⟨K1, h1⟩ := lines_ev (toB (lj a) ++ toB (lj b))
  obtain ⟨K2, h2⟩ := lines_ev (toB (lj a) ++ toB (lj b) ++ (⟨#[33]⟩ : ByteArray))
  have la := sum_len a
  have lb := sum_len b
  have m0 : K0 ≤ max K0 (max K1 K2) := Nat.le_max_left _ _
  have m1 : K1 ≤ max K0 (max K1 K2) := Nat.le_trans (Nat.le_max_left _ _) (Nat.le_max_right _ _)
  have m2 : K2 ≤ max K0 (max K1 K2) := Nat.le_trans (Nat.le_max_right _ _) (Nat.le_max_right _ _)
  generalize max K0 (max K1 K2) = M at m0 m1 m2
  refine ⟨M + a.length + 2 * b.length + 1048620 + a.length, ?_⟩
  have h0 := hA (M + a.length + 2 * b.length + 1048620 + a.length) (by clear h la lb; omega)
  simp only at h0
  unfold pylonlaw06_ScanLines.f
  rw [h0]
  simp only [Option.bind_some, if_true]
  have hab : a.length + b.length ≤ 1048576 := Nat.le_trans (Nat.add_le_add la lb) h
  have ha : ∀ x ∈ a, x.size ≤ 1048576 := fun x hx => Nat.le_trans (Nat.le_of_lt (sum_mem hx)) (Nat.le_trans (Nat.le_add_right _ _) h)
  have hb : ∀ x ∈ b, x.size ≤ 1048576 := fun x hx => Nat.le_trans (Nat.le_of_lt (sum_mem hx)) (Nat.le_trans (Nat.le_add_left _ _) h)
  have hl := l0_loop a b h hab ha hb M (fun k hk => h1 k (Nat.le_trans m1 hk)) (fun k hk => h2 k (Nat.le_trans m2 hk)) a.length (M + a.length + 2 * b.length + 1048620 + a.length) 0 (Nat.zero_le _) (Nat.sub_zero _) (by clear h la lb hab ha hb h0 m0 m1 m2 hA h1 h2; omega)
  have e0 : ((0 : Nat) : Int) = 0 := rfl
  have e1 : toB (lj (a.take 0)) = (⟨#[]⟩ : ByteArray) := by unfold lj; rfl
  rw [e0, e1] at hl
  exact hl
end Go.Proofs.Ytopgcofloldedaa.Pu
