-- pure text: ScanJoins
import Derived.Test.YtopgcofloldedaaUCuts
import Derived.Test.YtopgcofloldedaaPa3
import Derived.Test.YtopgcofloldedaaPa2
namespace Go.Proofs.Ytopgcofloldedaa.Pu
open Go.RowKit Go.Proofs.YtopgcofloldedaaW.PrintWords Go.Proofs.Ytopgcofloldedaa.Pa

/-- Words, each with a blank ahead; words with blanks between. -/
def jt : List (List UInt8) → List UInt8
  | [] => []
  | w :: r => 32 :: (w ++ jt r)
def jn : List (List UInt8) → List UInt8
  | [] => []
  | w :: r => w ++ jt r
theorem jt_jn {r : List (List UInt8)} (h : r ≠ []) : jt r = 32 :: jn r := by
  cases r with
  | nil => exact absurd rfl h
  | cons w r => rfl
/-- The columns of words, the first at c. -/
def cf (c : Int) : List (List UInt8) → List Int
  | [] => []
  | w :: r => c :: cf (c + ((w.length : Int) + 1)) r
theorem cf_length (c : Int) (l : List (List UInt8)) : (cf c l).length = l.length := by
  induction l generalizing c with
  | nil => rfl
  | cons w r ih => simp only [cf, List.length_cons, ih]
/-- How much words take. -/
def tot (l : List (List UInt8)) : Nat := (l.map fun w => w.length + 1).sum
theorem tot_cons (w : List UInt8) (r : List (List UInt8)) : tot (w :: r) = w.length + 1 + tot r := by simp [tot]
theorem jt_len (l : List (List UInt8)) : (jt l).length = tot l := by
  induction l with
  | nil => rfl
  | cons w r ih => simp only [jt, List.length_cons, List.length_append, ih, tot_cons]; omega

theorem wd_join (l : List UInt8) : ∀ (st : Option (List UInt8)) (at_ : Nat) (ws : List (List UInt8)), wd l st at_ = .ok ws → st ≠ some [] → (st.getD []) ++ l = jn ws ∧ ws ≠ [] ∧ ∀ v ∈ ws, v ≠ [] := by
  induction l with
  | nil =>
    intro st at_ ws h hs
    cases st with
    | none => simp [wd] at h
    | some cur =>
      simp only [wd, Except.ok.injEq] at h
      subst h
      have hc : cur ≠ [] := fun e => hs (by rw [e])
      simp [jn, jt, hc]
  | cons c r ih =>
    intro st at_ ws h hs
    cases st with
    | none =>
      simp only [wd] at h
      split at h
      · have := ih _ _ _ h (by simp)
        simpa using this
      · cases h
    | some cur =>
      simp only [wd] at h
      have hc : cur ≠ [] := fun e => hs (by rw [e])
      split at h
      · have := ih _ _ _ h (by simp)
        simpa using this
      · split at h
        · rename_i h32
          split at h
          · rename_i vs hv
            simp only [Except.ok.injEq] at h
            subst h
            obtain ⟨h1, h2, h3⟩ := ih _ _ _ hv (by simp)
            simp only [Option.getD_none, List.nil_append] at h1
            refine ⟨?_, by simp, ?_⟩
            · simp only [Option.getD_some, jn]
              rw [jt_jn h2, h32, h1]
            · intro v hv
              rcases List.mem_cons.1 hv with rfl | hv
              · exact hc
              · exact h3 v hv
          · cases h
        · cases h

theorem getD_drop {α : Type} {l : List α} {i : Nat} {x : α} {r : List α} (h : l.drop i = x :: r) (d : α) : l.getD i d = x := by
  have : (l.drop i)[0]? = some x := by rw [h]; rfl
  rw [List.getElem?_drop, Nat.add_zero] at this
  rw [List.getD_eq_getElem?_getD, this]
  rfl

theorem joined_loop (ws : List ByteArray) (hn : ws.length < 1000000000) (r : List (List UInt8)) : ∀ (k i : Nat) (s : ByteArray), 1 ≤ i → i ≤ ws.length → ws.drop i = r.map toB → r.length < k → s.size + tot r ≤ 1000000000 →
    pylonlaw06_joined.l0 k ws s (ws.length : Int) (i : Int) = some (s ++ toB (jt r)) := by
  induction r with
  | nil =>
    intro k i s h1 hi hd hk _
    obtain ⟨k, rfl⟩ : ∃ m, k = m + 1 := ⟨k - 1, by omega⟩
    have := drop_len hd hi
    simp only [List.map_nil, List.length_nil] at this
    simp only [pylonlaw06_joined.l0]
    rw [if_neg (by omega)]
    congr 1
    exact (Bs_inj (by rw [Bs_append, Bs_toB]; simp [jt])).symm
  | cons w r ih =>
    intro k i s h1 hi hd hk hs
    obtain ⟨k, rfl⟩ : ∃ m, k = m + 1 := ⟨k - 1, by omega⟩
    simp only [List.map_cons] at hd
    have hlt := drop_lt hd
    simp only [List.length_cons] at hk
    rw [tot_cons] at hs
    have e : wrap64 ((i : Int) + 1) = ((i + 1 : Nat) : Int) := by rw [w64 (by omega) (by omega)]; omega
    have hsz : (s ++ (⟨#[32]⟩ : ByteArray)).size = s.size + 1 := by rw [ByteArray.size_append]; rfl
    simp only [pylonlaw06_joined.l0]
    rw [rdOf_get, getD_drop hd, e, hsz, toB_size, if_pos (by omega), if_pos (by omega), if_pos (by omega), if_pos (by omega), if_pos (by omega), if_pos (by omega)]
    rw [ih k (i + 1) _ (by omega) (by omega) (drop_succ hd) (by omega) (by rw [ByteArray.size_append, hsz, toB_size]; omega)]
    congr 1
    refine Bs_inj ?_
    have e32 : Bs (⟨#[32]⟩ : ByteArray) = [32] := rfl
    simp only [Bs_append, Bs_toB, e32, jt, List.append_assoc, List.singleton_append, List.cons_append, List.nil_append]

theorem joined_ev (vs : List (List UInt8)) (h : tot vs ≤ 900000000) (hv : vs ≠ []) : Ev (fun k => pylonlaw06_joined.f k (vs.map toB)) (toB (jn vs)) := by
  cases vs with
  | nil => exact absurd rfl hv
  | cons w r =>
    rw [tot_cons] at h
    have hl : r.length ≤ tot r := by
      clear h hv
      induction r with
      | nil => simp
      | cons x r ih => rw [tot_cons]; simp; omega
    refine ⟨r.length + 3, fun k hk => ?_⟩
    show pylonlaw06_joined.f k _ = _
    obtain ⟨k, rfl⟩ : ∃ m, k = m + 1 := ⟨k - 1, by omega⟩
    unfold pylonlaw06_joined.f
    simp only [pylonlaw06_joined.l0, List.map_cons, List.length_cons, List.length_map]
    rw [if_pos (by omega), if_neg (by omega), if_pos (by omega), if_pos (by omega)]
    have e0 : rdOf ByteArray.empty (toB w :: List.map toB r) 0 = toB w := rfl
    have e1 : wrap64 (0 + 1) = ((1 : Nat) : Int) := by rw [w64 (by omega) (by omega)]; rfl
    have z : (⟨#[]⟩ : ByteArray).size = 0 := rfl
    rw [e0, e1, z, toB_size, if_pos (by omega)]
    have e2 : (((r.length + 1 : Nat)) : Int) = (((toB w :: List.map toB r).length : Nat) : Int) := by simp
    rw [e2, joined_loop (toB w :: List.map toB r) (by simp; omega) r k 1 _ (by omega) (by simp) (by simp) (by omega) (by rw [ByteArray.size_append, z, toB_size]; omega)]
    have e4 : ((⟨#[]⟩ : ByteArray) ++ toB w ++ toB (jt r)) = toB (jn (w :: r)) := by
      refine Bs_inj ?_
      have e3 : Bs (⟨#[]⟩ : ByteArray) = [] := rfl
      simp only [Bs_append, Bs_toB, e3, List.nil_append, jn]
    rw [e4]

theorem columns_loop (ws : List ByteArray) (hn : ws.length < 1000000000) (r : List (List UInt8)) : ∀ (k i : Nat) (pre : List Int) (c : Int), i ≤ ws.length → ws.drop i = r.map toB → pre.length = i → r.length < k → 0 ≤ c → c + tot r ≤ 1000000000 →
    scan_Columns.l0 k (pre ++ List.replicate r.length 0) c ws (ws.length : Int) (i : Int) = some (pre ++ cf c r) := by
  induction r with
  | nil =>
    intro k i pre c hi hd hp hk _ _
    obtain ⟨k, rfl⟩ : ∃ m, k = m + 1 := ⟨k - 1, by omega⟩
    have := drop_len hd hi
    simp only [List.map_nil, List.length_nil] at this
    simp only [scan_Columns.l0]
    rw [if_neg (by omega)]
    simp [cf]
  | cons w r ih =>
    intro k i pre c hi hd hp hk h0 hs
    obtain ⟨k, rfl⟩ : ∃ m, k = m + 1 := ⟨k - 1, by omega⟩
    simp only [List.map_cons] at hd
    have hlt := drop_lt hd
    simp only [List.length_cons] at hk
    rw [tot_cons] at hs
    have e : wrap64 ((i : Int) + 1) = ((i + 1 : Nat) : Int) := by rw [w64 (by omega) (by omega)]; omega
    simp only [scan_Columns.l0, List.length_append, List.length_replicate, List.length_cons]
    rw [rdOf_get, getD_drop hd, e, toB_size, w64 (x := (w.length : Int) + 1) (by omega) (by omega), w64 (by omega) (by omega), if_pos (by omega), if_pos (by omega), if_pos (by omega), if_pos (by omega)]
    have ei : ((i : Int)).toNat = i := by omega
    have es : (pre ++ List.replicate (r.length + 1) 0).set ((i : Int)).toNat c = (pre ++ [c]) ++ List.replicate r.length 0 := by
      rw [ei, ← hp, List.set_append_right _ _ (Nat.le_refl _), Nat.sub_self, List.replicate_succ, List.set_cons_zero]
      simp
    rw [es, ih k (i + 1) (pre ++ [c]) _ (by omega) (drop_succ hd) (by simp [hp]) (by omega) (by omega) (by omega)]
    simp [cf]
theorem tot_len (r : List (List UInt8)) : r.length ≤ tot r := by
  induction r with
  | nil => simp
  | cons x r ih => rw [tot_cons]; simp; omega
theorem columns_ev (vs : List (List UInt8)) (h : tot vs ≤ 900000000) : Ev (fun k => scan_Columns.f k (vs.map toB)) (cf 1 vs) := by
  have hl := tot_len vs
  refine ⟨vs.length + 1, fun k hk => ?_⟩
  show scan_Columns.f k _ = _
  unfold scan_Columns.f
  have e : (((vs.map toB).length : Int)).toNat = vs.length := by simp
  rw [e, if_pos (by omega), if_pos (by omega)]
  have := columns_loop (vs.map toB) (by simp; omega) vs k 0 [] 1 (by omega) (by simp) rfl (by omega) (by omega) (by omega)
  simpa using this

theorem joins_loop (a : ByteArray) (ha : a.size ≤ 1000000) (ws : List ByteArray) (cols : List Int) (hn : ws.length < 1000000000) (hcl : cols.length = ws.length) (r : List (List UInt8)) : ∀ (k i p : Nat), i ≤ ws.length → ws.drop i = r.map toB → cols.drop i = cf ((p : Int) + 1) r → r.length < k →
    (r ≠ [] → (Bs a).drop p = jn r) → (∀ v ∈ r, v ≠ []) → pylonlaw06_ScanJoins.l0 k a ws cols (ws.length : Int) (i : Int) = some true := by
  induction r with
  | nil =>
    intro k i p hi hd _ hk _ _
    obtain ⟨k, rfl⟩ : ∃ m, k = m + 1 := ⟨k - 1, by omega⟩
    have := drop_len hd hi
    simp only [List.map_nil, List.length_nil] at this
    simp only [pylonlaw06_ScanJoins.l0]
    rw [if_neg (by omega)]
  | cons w r ih =>
    intro k i p hi hd hcd hk hj hv
    obtain ⟨k, rfl⟩ : ∃ m, k = m + 1 := ⟨k - 1, by omega⟩
    simp only [List.map_cons] at hd
    have hlt := drop_lt hd
    simp only [List.length_cons] at hk
    have e : wrap64 ((i : Int) + 1) = ((i + 1 : Nat) : Int) := by rw [w64 (by omega) (by omega)]; omega
    have hj' := hj (by simp)
    simp only [jn] at hj'
    have hw : w ≠ [] := hv w (by simp)
    have hle : p + w.length ≤ a.size := by
      have h1 : p + (w ++ jt r).length = (Bs a).length := drop_len hj' (by
        apply Decidable.byContradiction
        intro hc
        rw [List.drop_eq_nil_iff.2 (by omega)] at hj'
        cases w with
        | nil => exact hw rfl
        | cons x w => cases hj')
      rw [List.length_append, Bs_length] at h1
      omega
    simp only [cf] at hcd
    simp only [pylonlaw06_ScanJoins.l0]
    rw [rdOf_get, getD_drop hd, rd_get, getD_drop hcd, toB_size, w64 (x := (p : Int) + 1 - 1) (by omega) (by omega), w64 (x := (a.size : Int) - (w.length : Int)) (by omega) (by omega), w64 (x := (p : Int) + 1 - 1 + (w.length : Int)) (by omega) (by omega), e]
    rw [if_pos (by omega), if_pos (by omega), if_pos (by omega), if_pos (by omega), if_neg (by rw [toList_Bs, Bs_toB]; exact hw), if_neg (by omega), if_neg (by omega), if_pos (by omega), if_pos (by omega), if_pos (by omega)]
    have ex : a.extract (((p : Int) + 1 - 1)).toNat (((p : Int) + 1 - 1 + (w.length : Int))).toNat = toB w := by
      rw [extract_toB]
      congr 1
      have e1 : (((p : Int) + 1 - 1)).toNat = p := by omega
      have e2 : (((p : Int) + 1 - 1 + (w.length : Int))).toNat - p = w.length := by omega
      rw [e1, e2, hj']
      simp
    rw [ex, if_pos rfl]
    refine ih k (i + 1) (p + w.length + 1) (by omega) (drop_succ hd) ?_ (by omega) ?_ (fun v h => hv v (by simp [h]))
    · rw [drop_succ hcd]
      congr 1
      omega
    · intro hr
      rw [← List.drop_drop, ← List.drop_drop, hj', List.drop_left, jt_jn hr]
      rfl

theorem scanJoins (a : ByteArray) (h : a.size ≤ 1048576) : ∃ k, pylonlaw06_ScanJoins.f k a = some true := by
  obtain ⟨K0, hA⟩ := awake06_ev
  obtain ⟨K1, hX⟩ := words_ev a (by omega)
  have lenA := Bs_length a
  cases eA : wd (Bs a) none 0 with
  | error c =>
    have hc := wd_err _ _ _ _ eA
    refine ⟨max K0 K1, ?_⟩
    generalize hk : max K0 K1 = K
    have h0 := hA K (by omega)
    have h1 := hX K (by omega)
    simp only [WS, eA, res] at h0 h1
    unfold pylonlaw06_ScanJoins.f
    rw [h0]
    simp only [Option.bind_some, if_true]
    rw [h1]
    simp only [Option.bind_some, List.length_nil]
    rw [if_neg (by decide), if_pos trivial, if_pos (by omega), if_pos (by decide)]
    by_cases hle : (c : Int) ≤ (a.size : Int)
    · rw [if_pos hle]
    · rw [if_neg hle]
      have h2 : c = 1 ∧ 0 + (Bs a).length = 0 := by
        rcases hc.2 with h2 | h2
        · omega
        · exact h2
      have e5 : Bs a = [] := List.length_eq_zero_iff.1 (by omega)
      rw [if_pos (by omega), toList_Bs, e5]
      rfl
  | ok vs =>
    obtain ⟨hj, hne, hall⟩ := wd_join _ _ _ _ eA (by simp)
    simp only [Option.getD_none, List.nil_append] at hj
    have hlen : vs.length ≠ 0 := fun e => hne (List.length_eq_zero_iff.1 e)
    by_cases hbig : (a.size : Int) > 100000
    · refine ⟨max K0 K1 + 1, ?_⟩
      generalize hk : max K0 K1 = K
      have h0 := hA (K + 1) (by omega)
      have h1 := hX (K + 1) (by omega)
      simp only [WS, eA, res, List.nil_append] at h0 h1
      unfold pylonlaw06_ScanJoins.f
      rw [h0]
      simp only [Option.bind_some, if_true]
      rw [h1]
      simp only [Option.bind_some, List.length_map, if_true]
      rw [if_neg (by omega), if_pos hbig]
      simp [pylonlaw06_ScanJoins.j0]
      omega
    · have ht : tot vs ≤ 200000 := by
        have := jt_len vs
        rw [jt_jn hne, List.length_cons, ← hj, lenA] at this
        omega
      obtain ⟨K2, hJ⟩ := joined_ev vs (by omega) hne
      obtain ⟨K3, hC⟩ := columns_ev vs (by omega)
      refine ⟨max (max K0 K1) (max K2 K3) + vs.length + 2, ?_⟩
      generalize hk : max (max K0 K1) (max K2 K3) = K
      have h0 := hA (K + vs.length + 2) (by omega)
      have h1 := hX (K + vs.length + 2) (by omega)
      have h2 := hJ (K + vs.length + 2) (by omega)
      have h3 := hC (K + vs.length + 1) (by omega)
      simp only [WS, eA, res, List.nil_append] at h0 h1 h2 h3
      unfold pylonlaw06_ScanJoins.f
      rw [h0]
      simp only [Option.bind_some, if_true]
      rw [h1]
      simp only [Option.bind_some, List.length_map, if_true]
      rw [if_neg (by omega), if_neg hbig, h2]
      simp only [Option.bind_some]
      have e1 : ((toB (jn vs)).toList != a.toList) = false := by rw [toList_Bs, toList_Bs, Bs_toB, hj]; simp
      rw [e1]
      simp only [pylonlaw06_ScanJoins.j0, Bool.false_eq_true, if_false]
      rw [h3]
      simp only [Option.bind_some, cf_length, List.length_map, if_true]
      have e2 : (vs.length : Int) = (((vs.map toB).length : Nat) : Int) := by simp
      rw [e2]
      have e3 : ((0 : Nat) : Int) = 0 := rfl
      rw [← e3]
      exact joins_loop a (by omega) (vs.map toB) (cf 1 vs) (by have := tot_len vs; simp; omega) (by simp [cf_length]) vs _ 0 0 (by omega) (by simp) (by simp) (by omega) (fun _ => by simp [hj]) hall
end Go.Proofs.Ytopgcofloldedaa.Pu
