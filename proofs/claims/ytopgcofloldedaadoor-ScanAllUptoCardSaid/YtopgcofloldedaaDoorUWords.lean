-- pure text: what scan.Words answers
import Derived.Test.YtopgcofloldedaaDoorUBase
import Derived.Test.YtopgcofloldedaaDoorPa1
namespace Go.Proofs.YtopgcofloldedaaDoor.Pu
open Go.RowKit Go.Proofs.YtopgcofloldedaaDoorW.PrintWords Go.Proofs.YtopgcofloldedaaDoor.Pa

/-- A byte of a word. -/
def pr (c : UInt8) : Bool := decide (32 < c.toNat) && decide (c.toNat < 127)

/-- The words of the bytes from a place on; 'cur': the word that has begun (none: a word's first byte is awaited). -/
def wd : List UInt8 → Option (List UInt8) → Nat → Except Nat (List (List UInt8))
  | [], none, at_ => .error (if 0 < at_ then at_ else 1)
  | [], some cur, _ => .ok [cur]
  | c :: r, none, at_ => if pr c then wd r (some [c]) (at_ + 1) else .error (at_ + 1)
  | c :: r, some cur, at_ => if pr c then wd r (some (cur ++ [c])) (at_ + 1) else if c = 32 then (match wd r none (at_ + 1) with | .ok ws => .ok (cur :: ws) | .error e => .error e) else .error (at_ + 1)

/-- As the answer of Words. -/
def res (ws : List ByteArray) : Except Nat (List (List UInt8)) → List ByteArray × Int × Int
  | .ok vs => (ws ++ vs.map toB, 0, 0)
  | .error c => ([], (c : Int), 1)

theorem printed_pr (c : UInt8) : scan_printed.f (c.toNat : Int) = some (pr c) := by
  unfold scan_printed.f pr
  by_cases h : 32 < c.toNat
  · rw [if_pos (by omega)]
    simp only [h, decide_true, Bool.true_and, Option.some.injEq, decide_eq_decide]
    omega
  · rw [if_neg (by omega)]
    simp [h]

theorem words_loops (a : ByteArray) (hsz : a.size ≤ 4398046511104) (r : List UInt8) : ∀ (k : Nat) (ws : List ByteArray) (i : Nat), r.length < k → ws.length + r.length < 8796093022207 →
    ((Bs a).drop i = r → i ≤ a.size → scan_Words.l0 k a ws (i : Int) = some (res ws (wd r none i))) ∧
    (∀ x6 cur, (Bs a).drop (i + 1) = r → i < a.size → x6 ≤ i → ((Bs a).drop x6).take (i + 1 - x6) = cur → scan_Words.l1 k a ws (x6 : Int) (i : Int) = some (res ws (wd r (some cur) (i + 1)))) := by
  induction r with
  | nil =>
    intro k ws i hk hw
    obtain ⟨k, rfl⟩ : ∃ m, k = m + 1 := ⟨k - 1, by simp at hk; omega⟩
    constructor
    · intro hd hi
      have hl := drop_len hd (by rw [Bs_length]; exact hi)
      rw [Bs_length] at hl
      simp only [List.length_nil, Nat.add_zero] at hl
      simp only [scan_Words.l0]
      rw [if_pos (by omega)]
      by_cases h0 : 0 < i
      · rw [if_pos (by omega)]
        simp [res, wd, h0]
      · rw [if_neg (by omega)]
        have : i = 0 := by omega
        subst this
        simp [res, wd]
    · intro x6 cur hd hi hx hc
      have hl := drop_len hd (by rw [Bs_length]; omega)
      rw [Bs_length] at hl
      simp only [List.length_nil, Nat.add_zero] at hl
      simp only [scan_Words.l1]
      simp only [List.length_nil, Nat.add_zero] at hw
      rw [if_neg (by omega), if_pos (by omega)]
      have e1 : ((x6 : Int)).toNat = x6 := by omega
      have e2 : ((i : Int) + 1).toNat = i + 1 := by omega
      rw [e1, e2, extract_toB, hc]
      simp [res, wd]
  | cons c r ih =>
    intro k ws i hk hw
    obtain ⟨k, rfl⟩ : ∃ m, k = m + 1 := ⟨k - 1, by simp at hk; omega⟩
    simp only [List.length_cons] at hk hw
    constructor
    · intro hd hi
      have hlt := drop_lt hd
      rw [Bs_length] at hlt
      simp only [scan_Words.l0]
      rw [if_neg (by omega), if_pos (by omega), bt_drop hd, printed_pr]
      simp only [Option.bind_some]
      by_cases hp : pr c = true
      · rw [if_pos hp, (ih k ws i (by omega) (by omega)).2 i [c] (drop_succ hd) hlt (Nat.le_refl _) (by rw [hd]; simp)]
        rw [wd, if_pos hp]
      · rw [if_neg hp, wd, if_neg hp]
        simp [res]
    · intro x6 cur hd hi hx hc
      have hlt := drop_lt hd
      rw [Bs_length] at hlt
      simp only [scan_Words.l1]
      have e0 : ((i : Int) + 1) = ((i + 1 : Nat) : Int) := by omega
      rw [if_pos (by omega), e0, bt_drop hd, printed_pr]
      simp only [Option.bind_some]
      by_cases hp : pr c = true
      · rw [if_pos hp, (ih k ws (i + 1) (by omega) (by omega)).2 x6 (cur ++ [c]) (drop_succ hd) hlt (by omega) (by
          rw [← hc]
          have e3 : i + 1 + 1 - x6 = (i + 1 - x6) + 1 := by omega
          rw [e3, List.take_add_one, List.getElem?_drop]
          congr 1
          have e4 : x6 + (i + 1 - x6) = i + 1 := by omega
          rw [e4]
          have e5 : ((Bs a).drop (i + 1))[0]? = some c := by rw [hd]; rfl
          rw [List.getElem?_drop, Nat.add_zero] at e5
          rw [e5]
          rfl)]
        rw [wd, if_pos hp]
      · rw [if_neg hp, if_pos (by omega)]
        have e1 : ((x6 : Int)).toNat = x6 := by omega
        have e2 : (((i + 1 : Nat) : Int)).toNat = i + 1 := by omega
        rw [e1, e2, extract_toB, hc]
        rw [wd, if_neg hp]
        have e6 : (((i + 1 : Nat) : Int)) + 1 = ((i + 1 + 1 : Nat) : Int) := by omega
        by_cases h32 : c = 32
        · subst h32
          rw [if_pos (by decide), if_pos rfl, e6, (ih k (ws ++ [toB cur]) (i + 1 + 1) (by omega) (by simp; omega)).1 (drop_succ hd) (by omega)]
          cases wd r none (i + 1 + 1) with
          | ok vs => simp [res]
          | error e => simp [res]
        · rw [if_neg (by
            intro h
            exact h32 (u8_eq.1 (by rw [h]; decide))), if_neg h32, e6]
          simp [res]

/-- What Words answers. -/
def WS (a : ByteArray) : List ByteArray × Int × Int := res [] (wd (Bs a) none 0)
theorem words_ev (a : ByteArray) (h : a.size ≤ 4398046511104) : Ev (fun k => scan_Words.f k a) (WS a) := by
  refine ⟨a.size + 1, fun k hk => ?_⟩
  show scan_Words.f k a = _
  unfold scan_Words.f
  rw [if_pos (by omega)]
  exact (words_loops a h (Bs a) k [] 0 (by rw [Bs_length]; omega) (by rw [Bs_length]; simp; omega)).1 (by simp) (by omega)

theorem wd_shift (B : List UInt8) : ∀ (st : Option (List UInt8)) (n at_ : Nat), (B ≠ [] ∨ st ≠ none ∨ 0 < at_) → wd B st (n + at_) = (match wd B st at_ with | .ok vs => .ok vs | .error c => .error (n + c)) := by
  induction B with
  | nil =>
    intro st n at_ h
    cases st with
    | none =>
      have h0 : 0 < at_ := by simpa using h
      simp only [wd]
      rw [if_pos (by omega), if_pos h0]
    | some cur => simp only [wd]
  | cons c r ih =>
    intro st n at_ h
    cases st with
    | none =>
      simp only [wd]
      split
      · rw [Nat.add_assoc, ih _ n (at_ + 1) (by simp)]
      · rfl
    | some cur =>
      simp only [wd]
      split
      · rw [Nat.add_assoc, ih _ n (at_ + 1) (by simp)]
      · split
        · rw [Nat.add_assoc, ih _ n (at_ + 1) (by simp)]
          cases wd r none (at_ + 1) <;> rfl
        · rfl
theorem wd_err (l : List UInt8) : ∀ (st : Option (List UInt8)) (at_ c : Nat), wd l st at_ = .error c → 1 ≤ c ∧ (c ≤ at_ + l.length ∨ c = 1 ∧ at_ + l.length = 0) := by
  induction l with
  | nil =>
    intro st at_ c h
    cases st with
    | none =>
      simp only [wd, Except.error.injEq] at h
      split at h <;> simp <;> omega
    | some cur => simp [wd] at h
  | cons x r ih =>
    intro st at_ c h
    have e : at_ + (x :: r).length = at_ + 1 + r.length := by simp; omega
    rw [e]
    cases st with
    | none =>
      simp only [wd] at h
      split at h
      · exact ih _ _ _ h
      · simp only [Except.error.injEq] at h; omega
    | some cur =>
      simp only [wd] at h
      split at h
      · exact ih _ _ _ h
      · split at h
        · split at h
          · cases h
          · rename_i e' he
            simp only [Except.error.injEq] at h
            subst h
            exact ih _ _ _ he
        · simp only [Except.error.injEq] at h; omega
theorem pr_32 : pr 32 = false := by decide

theorem wd_cut_ok (B : List UInt8) (A : List UInt8) : ∀ (st : Option (List UInt8)) (at_ : Nat) (ws : List (List UInt8)), wd A st at_ = .ok ws →
    wd (A ++ 32 :: B) st at_ = (match wd B none (at_ + A.length + 1) with | .ok vs => .ok (ws ++ vs) | .error c => .error c) := by
  induction A with
  | nil =>
    intro st at_ ws h
    cases st with
    | none => simp [wd] at h
    | some cur =>
      simp only [wd, Except.ok.injEq] at h
      subst h
      simp only [List.nil_append, wd, pr_32, Bool.false_eq_true, if_false, if_true, List.length_nil, Nat.add_zero]
      cases wd B none (at_ + 1) <;> rfl
  | cons c r ih =>
    intro st at_ ws h
    have e : at_ + (c :: r).length + 1 = (at_ + 1) + r.length + 1 := by simp; omega
    rw [e]
    cases st with
    | none =>
      simp only [List.cons_append, wd] at h ⊢
      split at h
      · rename_i hp
        rw [if_pos hp, ih _ _ _ h]
      · cases h
    | some cur =>
      simp only [List.cons_append, wd] at h ⊢
      split at h
      · rename_i hp
        rw [if_pos hp, ih _ _ _ h]
      · rename_i hp
        rw [if_neg hp]
        split at h
        · rename_i h32
          rw [if_pos h32]
          split at h
          · rename_i vs hv
            simp only [Except.ok.injEq] at h
            subst h
            rw [ih _ _ _ hv]
            cases wd B none (at_ + 1 + r.length + 1) <;> rfl
          · cases h
        · cases h

theorem wd_cut_error (B : List UInt8) (A : List UInt8) : ∀ (st : Option (List UInt8)) (at_ c : Nat), wd A st at_ = .error c →
    ∃ c', wd (A ++ 32 :: B) st at_ = .error c' ∧ (c' = c ∨ (c = at_ + A.length ∧ c' = at_ + A.length + 1 ∧ (A = [] ∨ A.getLast? = some 32))) := by
  induction A with
  | nil =>
    intro st at_ c h
    cases st with
    | none =>
      simp only [wd, Except.error.injEq] at h
      refine ⟨at_ + 1, ?_, ?_⟩
      · simp only [List.nil_append, wd, pr_32, Bool.false_eq_true, if_false]
      · by_cases h0 : 0 < at_
        · rw [if_pos h0] at h
          exact .inr ⟨by simp [h], by simp, .inl rfl⟩
        · rw [if_neg h0] at h
          exact .inl (by omega)
    | some cur => simp [wd] at h
  | cons x r ih =>
    intro st at_ c h
    have e : at_ + (x :: r).length = (at_ + 1) + r.length := by simp; omega
    rw [e]
    have last : ∀ y, r = [] ∨ r.getLast? = some 32 → (r = [] → x = 32) → y = () → ((x :: r : List UInt8) = [] ∨ (x :: r).getLast? = some 32) := by
      intro _ hr hx _
      right
      rcases hr with rfl | hr
      · simp [hx rfl]
      · cases r with
        | nil => simp at hr
        | cons z zs => rw [List.getLast?_cons_cons]; exact hr
    cases st with
    | none =>
      simp only [List.cons_append, wd] at h ⊢
      split at h
      · rename_i hp
        rw [if_pos hp]
        obtain ⟨c', h1, h2⟩ := ih _ _ _ h
        refine ⟨c', h1, ?_⟩
        rcases h2 with h2 | ⟨h2, h3, h4⟩
        · exact .inl h2
        · refine .inr ⟨h2, h3, last () h4 (fun hr => ?_) rfl⟩
          subst hr
          simp [wd] at h
      · rename_i hp
        rw [if_neg hp]
        simp only [Except.error.injEq] at h
        exact ⟨_, rfl, .inl h⟩
    | some cur =>
      simp only [List.cons_append, wd] at h ⊢
      split at h
      · rename_i hp
        rw [if_pos hp]
        obtain ⟨c', h1, h2⟩ := ih _ _ _ h
        refine ⟨c', h1, ?_⟩
        rcases h2 with h2 | ⟨h2, h3, h4⟩
        · exact .inl h2
        · refine .inr ⟨h2, h3, last () h4 (fun hr => ?_) rfl⟩
          subst hr
          simp [wd] at h
      · rename_i hp
        rw [if_neg hp]
        split at h
        · rename_i h32
          rw [if_pos h32]
          split at h
          · cases h
          · rename_i e' he
            simp only [Except.error.injEq] at h
            subst h
            obtain ⟨c', h1, h2⟩ := ih _ _ _ he
            refine ⟨c', by rw [h1], ?_⟩
            rcases h2 with h2 | ⟨h2, h3, h4⟩
            · exact .inl h2
            · exact .inr ⟨h2, h3, last () h4 (fun _ => h32) rfl⟩
        · rename_i h32
          rw [if_neg h32]
          simp only [Except.error.injEq] at h
          exact ⟨_, rfl, .inl h⟩

theorem wd_len (l : List UInt8) : ∀ (st : Option (List UInt8)) (at_ : Nat) (ws : List (List UInt8)), wd l st at_ = .ok ws → ws.length ≤ l.length + 1 := by
  induction l with
  | nil =>
    intro st at_ ws h
    cases st with
    | none => simp [wd] at h
    | some cur => simp only [wd, Except.ok.injEq] at h; subst h; simp
  | cons c r ih =>
    intro st at_ ws h
    cases st with
    | none =>
      simp only [wd] at h
      split at h
      · have := ih _ _ _ h; simp; omega
      · cases h
    | some cur =>
      simp only [wd] at h
      split at h
      · have := ih _ _ _ h; simp; omega
      · split at h
        · split at h
          · rename_i vs hv
            simp only [Except.ok.injEq] at h
            subst h
            have := ih _ _ _ hv
            simp; omega
          · cases h
        · cases h

theorem Bs_ne {a : ByteArray} : a.toList = ([] : List UInt8) ↔ Bs a = [] := by rw [toList_Bs]
theorem Bs_size0 {a : ByteArray} (h : Bs a = []) : a.size = 0 := by rw [← Bs_length, h]; rfl

end Go.Proofs.YtopgcofloldedaaDoor.Pu
