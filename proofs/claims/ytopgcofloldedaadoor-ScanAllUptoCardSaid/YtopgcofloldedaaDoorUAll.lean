-- pure text: ScanAll
import Derived.Test.YtopgcofloldedaaDoorURefWords
import Derived.Test.YtopgcofloldedaaDoorURefLines
import Derived.Test.YtopgcofloldedaaDoorURefRead
import Derived.Test.YtopgcofloldedaaDoorUNameLaw
import Derived.Test.YtopgcofloldedaaDoorUSame
import Derived.Test.YtopgcofloldedaaDoorUAwake
import Derived.Test.YtopgcofloldedaaDoorPa7
import Derived.Test.YtopgcofloldedaaDoorPa3
import Derived.Test.YtopgcofloldedaaDoorPa6
namespace Go.Proofs.YtopgcofloldedaaDoor.Pu
open Go.RowKit Go.Proofs.YtopgcofloldedaaDoorW.PrintWords Go.Proofs.YtopgcofloldedaaDoor.Pa

theorem lf_len (l : List UInt8) : ∀ (cur : List UInt8) (vs : List (List UInt8)), lf l cur = .ok vs → vs.length ≤ l.length := by
  induction l with
  | nil =>
    intro cur vs h
    cases cur with
    | nil => simp only [lf] at h; injection h with h; rw [← h]; simp
    | cons x xs => simp only [lf] at h; cases h
  | cons c r ih =>
    intro cur vs h
    simp only [lf] at h
    split at h
    · cases e : lf r [] with
      | ok ls =>
        rw [e] at h
        injection h with h
        have := ih _ _ e
        rw [← h]
        simp only [List.length_cons]
        omega
      | error n => rw [e] at h; cases h
    · have := ih _ _ h
      simp only [List.length_cons]
      omega
theorem LS_len (a : ByteArray) (h : a.size ≤ 1048576) : (LS a).1.length ≤ 1048577 := by
  unfold LS
  rw [if_neg (by omega)]
  cases e : lf (Bs a) [] with
  | ok vs =>
    have := lf_len _ _ _ e
    rw [Bs_length] at this
    simp only [lres, List.nil_append, List.length_map]
    omega
  | error c => simp [lres]
theorem WS_len (a : ByteArray) (h : a.size ≤ 1048576) : (WS a).1.length ≤ 1048577 := by
  unfold WS
  cases e : wd (Bs a) none 0 with
  | ok vs =>
    have := wd_len _ _ _ _ e
    rw [Bs_length] at this
    simp only [res, List.nil_append, List.length_map]
    omega
  | error c => simp [res]
/-- What one call is worth. -/
theorem op_ev (z : Int) (s : ByteArray) (l : List ByteArray) (x y : Int) (hs : s.size ≤ 1048576) (hl : (l.map fun a => a.size + 1).sum ≤ 1048576) :
    ∃ q : List ByteArray × List Int × Int × Int × Bool × Int, Ev (fun k => pylonlaw06_plays.f k z s l x y) q ∧ Ev (fun k => pylonlaw06_wants.f k z s l x y) q ∧ q.1.length < 9223372036854775807 ∧ q.2.1.length < 9223372036854775807 := by
  unfold pylonlaw06_plays.f pylonlaw06_wants.f
  have z9 : 0 < 9223372036854775807 := by decide
  by_cases h1 : z = 1
  · refine ⟨((LS s).1, [], (LS s).2.1, 0, false, (LS s).2.2), ?_, ?_, by have := LS_len s hs; show (LS s).1.length < _; omega, z9⟩
    · exact ev_if_pos h1 (ev_bind (lines_ev s) (ev_const rfl))
    · exact ev_if_pos h1 (ev_bind (refLines_ev s) (ev_const rfl))
  by_cases h2 : z = 2
  · refine ⟨((WS s).1, [], (WS s).2.1, 0, false, (WS s).2.2), ?_, ?_, by have := WS_len s hs; show (WS s).1.length < _; omega, z9⟩
    · exact ev_if_neg h1 (ev_if_pos h2 (ev_bind (words_ev s (by omega)) (ev_const rfl)))
    · exact ev_if_neg h1 (ev_if_pos h2 (ev_bind (refWords_ev s (by omega)) (ev_const rfl)))
  by_cases h3 : z = 3
  · have ht : tot (l.map Bs) ≤ 900000000 := by rw [tot_Bs]; omega
    have hc := columns_ev (l.map Bs) ht
    have hr := refColumns_ev (l.map Bs) ht
    rw [map_toB] at hc hr
    refine ⟨([], cf 1 (l.map Bs), 0, 0, false, 0), ?_, ?_, z9, ?_⟩
    · exact ev_if_neg h1 (ev_if_neg h2 (ev_if_pos h3 (ev_bind hc (ev_const rfl))))
    · exact ev_if_neg h1 (ev_if_neg h2 (ev_if_pos h3 (ev_bind hr (ev_const rfl))))
    · show (cf 1 (l.map Bs)).length < _
      have := tot_len (l.map Bs)
      rw [cf_length]
      omega
  by_cases h4 : z = 4
  · obtain ⟨q, hq, hr⟩ := number_same s (by omega) x y
    refine ⟨([], [], 0, q.1, false, q.2), ?_, ?_, z9, z9⟩
    · exact ev_if_neg h1 (ev_if_neg h2 (ev_if_neg h3 (ev_if_pos h4 (ev_bind (ev_const hq) (ev_const rfl)))))
    · exact ev_if_neg h1 (ev_if_neg h2 (ev_if_neg h3 (ev_if_pos h4 (ev_bind hr (ev_const rfl)))))
  by_cases h5 : z = 5
  · refine ⟨([], [], 0, 0, nameL (Bs s), 0), ?_, ?_, z9, z9⟩
    · exact ev_if_neg h1 (ev_if_neg h2 (ev_if_neg h3 (ev_if_neg h4 (ev_if_pos h5 (ev_bind (ev_const (name_at s (by omega))) (ev_const rfl))))))
    · exact ev_if_neg h1 (ev_if_neg h2 (ev_if_neg h3 (ev_if_neg h4 (ev_if_pos h5 (ev_bind (refName_ev s (by omega)) (ev_const rfl))))))
  · refine ⟨([], [], 0, 0, false, 0), ?_, ?_, z9, z9⟩
    · exact ev_if_neg h1 (ev_if_neg h2 (ev_if_neg h3 (ev_if_neg h4 (ev_if_neg h5 (ev_const rfl)))))
    · exact ev_if_neg h1 (ev_if_neg h2 (ev_if_neg h3 (ev_if_neg h4 (ev_if_neg h5 (ev_const rfl)))))
/-- How much an op takes. -/
def opBulk (o : S37) : Nat := o.f1.size + (o.f2.map fun a => a.size + 1).sum
theorem all_loop (l : List S37) (hn : l.length ≤ 1048576) (hb : ∀ o ∈ l, opBulk o ≤ 1048576) (d : Nat) : ∀ i : Nat, i ≤ l.length → l.length - i = d → Ev (fun k => pylonlaw06_ScanAll.l0 k l (l.length : Int) (i : Int)) true := by
  induction d with
  | zero =>
    intro i h0 hd
    refine ⟨1, fun k hk => ?_⟩
    obtain ⟨k, rfl⟩ : ∃ m, k = m + 1 := ⟨k - 1, by omega⟩
    show pylonlaw06_ScanAll.l0 (k + 1) l (l.length : Int) (i : Int) = _
    simp only [pylonlaw06_ScanAll.l0]
    rw [if_neg (by omega)]
  | succ d ih =>
    intro i h0 hd
    have ho : rd_T37 l (i : Int) ∈ l := by
      unfold rd_T37
      rw [Int.toNat_natCast, List.getD_eq_getElem?_getD, List.getElem?_eq_getElem (by omega)]
      exact List.getElem_mem _
    have hbo := hb _ ho
    unfold opBulk at hbo
    obtain ⟨q, hp, hw, hq1, hq2⟩ := op_ev (rd_T37 l (i : Int)).f0 (rd_T37 l (i : Int)).f1 (rd_T37 l (i : Int)).f2 (rd_T37 l (i : Int)).f3 (rd_T37 l (i : Int)).f4 (by omega) (by omega)
    have hi := ih (i + 1) (by omega) (by omega)
    have e : wrap64 ((i : Int) + 1) = ((i + 1 : Nat) : Int) := by rw [w64 (by omega) (by omega)]; omega
    refine ev_step (fun k => pylonlaw06_ScanAll.l0.eq_2 _ _ _ _) ?_
    rw [e]
    refine ev_if_pos (by omega) (ev_if_pos (by omega) (ev_if_pos (by omega) (ev_bind hp (ev_bind hw ?_))))
    refine ev_if_pos rfl (ev_if_pos rfl (ev_if_neg (by simp) (ev_if_pos rfl (ev_bind (same_ev _ hq1) (ev_if_pos rfl (ev_bind (sameInts_ev _ hq2) (ev_if_pos rfl hi)))))))
def scanAllBulk (o : S37) : Nat := o.f1.size + (o.f2.map fun a => a.size + 1).sum + 1
theorem bulk_all (l : List S37) : l.length ≤ (l.map scanAllBulk).sum ∧ ∀ o ∈ l, opBulk o ≤ (l.map scanAllBulk).sum := by
  induction l with
  | nil => exact ⟨Nat.le_refl _, fun o ho => by simp at ho⟩
  | cons x r ih =>
    simp only [List.map_cons, List.sum_cons, List.length_cons]
    have hx : scanAllBulk x = opBulk x + 1 := rfl
    refine ⟨by omega, fun o ho => ?_⟩
    rcases List.mem_cons.1 ho with rfl | ho
    · omega
    · have := ih.2 o ho
      omega
theorem scanAll (l : List S37) (h : (l.map scanAllBulk).sum ≤ 1048576) : ∃ k, pylonlaw06_ScanAll.f k l = some true := by
  have hn := Nat.le_trans (bulk_all l).1 h
  have hb : ∀ o ∈ l, opBulk o ≤ 1048576 := fun o ho => Nat.le_trans ((bulk_all l).2 o ho) h
  have h := all_loop l hn hb l.length 0 (by omega) (by omega)
  have e0 : ((0 : Nat) : Int) = 0 := rfl
  rw [e0] at h
  have : Ev (fun k => pylonlaw06_ScanAll.f k l) true := by
    unfold pylonlaw06_ScanAll.f
    exact ev_bind awake06_ev (ev_if_pos rfl h)
  obtain ⟨K, hK⟩ := this
  exact ⟨K, hK K (Nat.le_refl _)⟩
end Go.Proofs.YtopgcofloldedaaDoor.Pu
