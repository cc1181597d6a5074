-- Written by mk.py (this repo's program), over the kit's printer: function by function, its Lean function and its contract.
import Derived.Test.YtopgcofloldedaaPa0
import Derived.Test.YtopgcofloldedaaPa1
import Derived.Test.YtopgcofloldedaaPa6
namespace Go.Proofs.Ytopgcofloldedaa.Pa
open Go.RowKit Go.Proofs.YtopgcofloldedaaW.PrintWords Go.Proofs.YtopgcofloldedaaW.PrintLast Go.Proofs.YtopgcofloldedaaW.PrintMore
attribute [local go_sem] max2_int min2_int max_two min_two max_three min_three max_four min_four   -- for this text's walks alone
set_option linter.unusedVariables false
set_option linter.unusedSimpArgs false

/-! ### pylonlaw06_ScanLines: function 6 -/
mutual
def pylonlaw06_ScanLines.l0 : Nat → List ByteArray → List ByteArray → ByteArray → ByteArray → Int → Int → Option (Bool)
  | 0, _, _, _, _, _, _ => none
  | k + 1, x0, x1, x5, x6, x20, x21 => if x21 < x20 then (if 0 ≤ x21 then (if x21 < (x0.length : Int) then ((pylonlaw06_clean.f k (rdOf ByteArray.empty x0 x21)).bind fun t235 => (if x5.size + t235.size ≤ 9223372036854775807 then (if (x5 ++ t235).size + 1 ≤ 9223372036854775807 then (pylonlaw06_ScanLines.l0 k x0 x1 ((x5 ++ t235) ++ (⟨#[10]⟩ : ByteArray)) x6 x20 (wrap64 (x21 + 1))) else (none)) else (none))) else (none)) else (none)) else (pylonlaw06_ScanLines.l1 k x0 x1 x5 x6 (x1.length : Int) 0)
def pylonlaw06_ScanLines.l1 : Nat → List ByteArray → List ByteArray → ByteArray → ByteArray → Int → Int → Option (Bool)
  | 0, _, _, _, _, _, _ => none
  | k + 1, x0, x1, x5, x6, x34, x35 => if x35 < x34 then (if 0 ≤ x35 then (if x35 < (x1.length : Int) then ((pylonlaw06_clean.f k (rdOf ByteArray.empty x1 x35)).bind fun t237 => (if x6.size + t237.size ≤ 9223372036854775807 then (if (x6 ++ t237).size + 1 ≤ 9223372036854775807 then (pylonlaw06_ScanLines.l1 k x0 x1 x5 ((x6 ++ t237) ++ (⟨#[10]⟩ : ByteArray)) x34 (wrap64 (x35 + 1))) else (none)) else (none))) else (none)) else (none)) else (if (wrap64 ((x5.size : Int) + (x6.size : Int))) > 1048574 then (some true) else (if x5.size + x6.size ≤ 9223372036854775807 then ((scan_Lines.f k (x5 ++ x6)).bind fun bt238 => (if (x5 ++ x6).size + 1 ≤ 9223372036854775807 then ((scan_Lines.f k ((x5 ++ x6) ++ (⟨#[33]⟩ : ByteArray))).bind fun bt243 => (if bt238.2.2 = 0 then (if bt238.2.1 = 0 then (if (bt238.1.length : Int) = (wrap64 ((x0.length : Int) + (x1.length : Int))) then (if bt243.2.2 = 1 then (if (bt243.1.length : Int) = 0 then (pylonlaw06_ScanLines.j2 k x0 x1 bt238.1 (bt243.2.1 != (wrap64 ((wrap64 ((x0.length : Int) + (x1.length : Int))) + 1)))) else (pylonlaw06_ScanLines.j2 k x0 x1 bt238.1 true)) else (pylonlaw06_ScanLines.j2 k x0 x1 bt238.1 true)) else (pylonlaw06_ScanLines.j2 k x0 x1 bt238.1 true)) else (pylonlaw06_ScanLines.j2 k x0 x1 bt238.1 true)) else (pylonlaw06_ScanLines.j2 k x0 x1 bt238.1 true))) else (none))) else (none)))
def pylonlaw06_ScanLines.j2 : Nat → List ByteArray → List ByteArray → List ByteArray → Bool → Option (Bool)
  | 0, _, _, _, _ => none
  | k + 1, x0, x1, x9, x104 => if x104 = true then (some false) else (pylonlaw06_ScanLines.l2 k x0 x1 x9 (x0.length : Int) 0)
def pylonlaw06_ScanLines.l2 : Nat → List ByteArray → List ByteArray → List ByteArray → Int → Int → Option (Bool)
  | 0, _, _, _, _, _ => none
  | k + 1, x0, x1, x9, x106, x107 => if x107 < x106 then (if 0 ≤ x107 then (if x107 < (x9.length : Int) then (if x107 < (x0.length : Int) then ((pylonlaw06_clean.f k (rdOf ByteArray.empty x0 x107)).bind fun t250 => (if (rdOf ByteArray.empty x9 x107).toList = t250.toList then (pylonlaw06_ScanLines.l2 k x0 x1 x9 x106 (wrap64 (x107 + 1))) else (some false))) else (none)) else (none)) else (none)) else (pylonlaw06_ScanLines.l3 k x0 x1 x9 (x1.length : Int) 0)
def pylonlaw06_ScanLines.l3 : Nat → List ByteArray → List ByteArray → List ByteArray → Int → Int → Option (Bool)
  | 0, _, _, _, _, _ => none
  | k + 1, x0, x1, x9, x122, x123 => if x123 < x122 then (if 0 ≤ (wrap64 ((x0.length : Int) + x123)) then (if (wrap64 ((x0.length : Int) + x123)) < (x9.length : Int) then (if 0 ≤ x123 then (if x123 < (x1.length : Int) then ((pylonlaw06_clean.f k (rdOf ByteArray.empty x1 x123)).bind fun t253 => (if (rdOf ByteArray.empty x9 (wrap64 ((x0.length : Int) + x123))).toList = t253.toList then (pylonlaw06_ScanLines.l3 k x0 x1 x9 x122 (wrap64 (x123 + 1))) else (some false))) else (none)) else (none)) else (none)) else (none)) else (some true)
end
def pylonlaw06_ScanLines.f (k : Nat) (l0 : List ByteArray) (l1 : List ByteArray) : Option (Bool) := (pylonlaw06_awake.f k).bind fun t233 => (if t233 = true then (pylonlaw06_ScanLines.l0 k l0 l1 (⟨#[]⟩ : ByteArray) (⟨#[]⟩ : ByteArray) (l0.length : Int) 0) else (some false))
theorem pylonlaw06_ScanLines.mono_l : ∀ k, (∀ y0 y1 y2 y3 y4 y5, LeO (pylonlaw06_ScanLines.l0 k y0 y1 y2 y3 y4 y5) (pylonlaw06_ScanLines.l0 (k + 1) y0 y1 y2 y3 y4 y5)) ∧ (∀ y0 y1 y2 y3 y4 y5, LeO (pylonlaw06_ScanLines.l1 k y0 y1 y2 y3 y4 y5) (pylonlaw06_ScanLines.l1 (k + 1) y0 y1 y2 y3 y4 y5)) ∧ (∀ y0 y1 y2 y3, LeO (pylonlaw06_ScanLines.j2 k y0 y1 y2 y3) (pylonlaw06_ScanLines.j2 (k + 1) y0 y1 y2 y3)) ∧ (∀ y0 y1 y2 y3 y4, LeO (pylonlaw06_ScanLines.l2 k y0 y1 y2 y3 y4) (pylonlaw06_ScanLines.l2 (k + 1) y0 y1 y2 y3 y4)) ∧ (∀ y0 y1 y2 y3 y4, LeO (pylonlaw06_ScanLines.l3 k y0 y1 y2 y3 y4) (pylonlaw06_ScanLines.l3 (k + 1) y0 y1 y2 y3 y4))
  | 0 => ⟨fun _ _ _ _ _ _ r h => by simp [pylonlaw06_ScanLines.l0] at h, fun _ _ _ _ _ _ r h => by simp [pylonlaw06_ScanLines.l1] at h, fun _ _ _ _ r h => by simp [pylonlaw06_ScanLines.j2] at h, fun _ _ _ _ _ r h => by simp [pylonlaw06_ScanLines.l2] at h, fun _ _ _ _ _ r h => by simp [pylonlaw06_ScanLines.l3] at h⟩
  | k + 1 => by
    obtain ⟨ih0, ih1, ih2, ih3, ih4⟩ := pylonlaw06_ScanLines.mono_l k
    refine ⟨?_, ?_, ?_, ?_, ?_⟩
    · intro y0 y1 y2 y3 y4 y5
      unfold pylonlaw06_ScanLines.l0
      repeat' first
      | (with_reducible exact ih0 _ _ _ _ _ _)
      | (with_reducible exact ih1 _ _ _ _ _ _)
      | (with_reducible exact ih2 _ _ _ _)
      | (with_reducible exact ih3 _ _ _ _ _)
      | (with_reducible exact ih4 _ _ _ _ _)
      | (with_reducible exact pylonlaw06_awake.mono _)
      | (with_reducible exact pylonlaw06_clean.mono _ _)
      | (with_reducible exact scan_Lines.mono _ _)
      | (with_reducible exact LeO.refl _)
      | (with_reducible exact LeO.none _)
      | (with_reducible refine LeO.ite ?_ ?_)
      | (with_reducible refine LeO.bind ?_ (fun _ => ?_))
      | exact ih0 _ _ _ _ _ _
      | exact ih1 _ _ _ _ _ _
      | exact ih2 _ _ _ _
      | exact ih3 _ _ _ _ _
      | exact ih4 _ _ _ _ _
      | exact pylonlaw06_awake.mono _
      | exact pylonlaw06_clean.mono _ _
      | exact scan_Lines.mono _ _
      | exact LeO.none _
      | refine LeO.ite ?_ ?_
      | refine LeO.bind ?_ (fun _ => ?_)
    · intro y0 y1 y2 y3 y4 y5
      unfold pylonlaw06_ScanLines.l1
      repeat' first
      | (with_reducible exact ih0 _ _ _ _ _ _)
      | (with_reducible exact ih1 _ _ _ _ _ _)
      | (with_reducible exact ih2 _ _ _ _)
      | (with_reducible exact ih3 _ _ _ _ _)
      | (with_reducible exact ih4 _ _ _ _ _)
      | (with_reducible exact pylonlaw06_awake.mono _)
      | (with_reducible exact pylonlaw06_clean.mono _ _)
      | (with_reducible exact scan_Lines.mono _ _)
      | (with_reducible exact LeO.refl _)
      | (with_reducible exact LeO.none _)
      | (with_reducible refine LeO.ite ?_ ?_)
      | (with_reducible refine LeO.bind ?_ (fun _ => ?_))
      | exact ih0 _ _ _ _ _ _
      | exact ih1 _ _ _ _ _ _
      | exact ih2 _ _ _ _
      | exact ih3 _ _ _ _ _
      | exact ih4 _ _ _ _ _
      | exact pylonlaw06_awake.mono _
      | exact pylonlaw06_clean.mono _ _
      | exact scan_Lines.mono _ _
      | exact LeO.none _
      | refine LeO.ite ?_ ?_
      | refine LeO.bind ?_ (fun _ => ?_)
    · intro y0 y1 y2 y3
      unfold pylonlaw06_ScanLines.j2
      repeat' first
      | (with_reducible exact ih0 _ _ _ _ _ _)
      | (with_reducible exact ih1 _ _ _ _ _ _)
      | (with_reducible exact ih2 _ _ _ _)
      | (with_reducible exact ih3 _ _ _ _ _)
      | (with_reducible exact ih4 _ _ _ _ _)
      | (with_reducible exact pylonlaw06_awake.mono _)
      | (with_reducible exact pylonlaw06_clean.mono _ _)
      | (with_reducible exact scan_Lines.mono _ _)
      | (with_reducible exact LeO.refl _)
      | (with_reducible exact LeO.none _)
      | (with_reducible refine LeO.ite ?_ ?_)
      | (with_reducible refine LeO.bind ?_ (fun _ => ?_))
      | exact ih0 _ _ _ _ _ _
      | exact ih1 _ _ _ _ _ _
      | exact ih2 _ _ _ _
      | exact ih3 _ _ _ _ _
      | exact ih4 _ _ _ _ _
      | exact pylonlaw06_awake.mono _
      | exact pylonlaw06_clean.mono _ _
      | exact scan_Lines.mono _ _
      | exact LeO.none _
      | refine LeO.ite ?_ ?_
      | refine LeO.bind ?_ (fun _ => ?_)
    · intro y0 y1 y2 y3 y4
      unfold pylonlaw06_ScanLines.l2
      repeat' first
      | (with_reducible exact ih0 _ _ _ _ _ _)
      | (with_reducible exact ih1 _ _ _ _ _ _)
      | (with_reducible exact ih2 _ _ _ _)
      | (with_reducible exact ih3 _ _ _ _ _)
      | (with_reducible exact ih4 _ _ _ _ _)
      | (with_reducible exact pylonlaw06_awake.mono _)
      | (with_reducible exact pylonlaw06_clean.mono _ _)
      | (with_reducible exact scan_Lines.mono _ _)
      | (with_reducible exact LeO.refl _)
      | (with_reducible exact LeO.none _)
      | (with_reducible refine LeO.ite ?_ ?_)
      | (with_reducible refine LeO.bind ?_ (fun _ => ?_))
      | exact ih0 _ _ _ _ _ _
      | exact ih1 _ _ _ _ _ _
      | exact ih2 _ _ _ _
      | exact ih3 _ _ _ _ _
      | exact ih4 _ _ _ _ _
      | exact pylonlaw06_awake.mono _
      | exact pylonlaw06_clean.mono _ _
      | exact scan_Lines.mono _ _
      | exact LeO.none _
      | refine LeO.ite ?_ ?_
      | refine LeO.bind ?_ (fun _ => ?_)
    · intro y0 y1 y2 y3 y4
      unfold pylonlaw06_ScanLines.l3
      repeat' first
      | (with_reducible exact ih0 _ _ _ _ _ _)
      | (with_reducible exact ih1 _ _ _ _ _ _)
      | (with_reducible exact ih2 _ _ _ _)
      | (with_reducible exact ih3 _ _ _ _ _)
      | (with_reducible exact ih4 _ _ _ _ _)
      | (with_reducible exact pylonlaw06_awake.mono _)
      | (with_reducible exact pylonlaw06_clean.mono _ _)
      | (with_reducible exact scan_Lines.mono _ _)
      | (with_reducible exact LeO.refl _)
      | (with_reducible exact LeO.none _)
      | (with_reducible refine LeO.ite ?_ ?_)
      | (with_reducible refine LeO.bind ?_ (fun _ => ?_))
      | exact ih0 _ _ _ _ _ _
      | exact ih1 _ _ _ _ _ _
      | exact ih2 _ _ _ _
      | exact ih3 _ _ _ _ _
      | exact ih4 _ _ _ _ _
      | exact pylonlaw06_awake.mono _
      | exact pylonlaw06_clean.mono _ _
      | exact scan_Lines.mono _ _
      | exact LeO.none _
      | refine LeO.ite ?_ ?_
      | refine LeO.bind ?_ (fun _ => ?_)
theorem pylonlaw06_ScanLines.mono : ∀ a0 a1 k, LeO (pylonlaw06_ScanLines.f k a0 a1) (pylonlaw06_ScanLines.f (k + 1) a0 a1) := by
  intro a0 a1 k
  obtain ⟨ih0, ih1, ih2, ih3, ih4⟩ := pylonlaw06_ScanLines.mono_l k
  unfold pylonlaw06_ScanLines.f
  repeat' first
      | (with_reducible exact ih0 _ _ _ _ _ _)
      | (with_reducible exact ih1 _ _ _ _ _ _)
      | (with_reducible exact ih2 _ _ _ _)
      | (with_reducible exact ih3 _ _ _ _ _)
      | (with_reducible exact ih4 _ _ _ _ _)
      | (with_reducible exact pylonlaw06_awake.mono _)
      | (with_reducible exact pylonlaw06_clean.mono _ _)
      | (with_reducible exact scan_Lines.mono _ _)
      | (with_reducible exact LeO.refl _)
      | (with_reducible exact LeO.none _)
      | (with_reducible refine LeO.ite ?_ ?_)
      | (with_reducible refine LeO.bind ?_ (fun _ => ?_))
      | exact ih0 _ _ _ _ _ _
      | exact ih1 _ _ _ _ _ _
      | exact ih2 _ _ _ _
      | exact ih3 _ _ _ _ _
      | exact ih4 _ _ _ _ _
      | exact pylonlaw06_awake.mono _
      | exact pylonlaw06_clean.mono _ _
      | exact scan_Lines.mono _ _
      | exact LeO.none _
      | refine LeO.ite ?_ ?_
      | refine LeO.bind ?_ (fun _ => ?_)
set_option maxHeartbeats 8000000 in
set_option maxRecDepth 100000 in
theorem pylonlaw06_ScanLines.calls (k : Nat) (A0 : Option Addr) (c0 : Nat) (l0 : List ByteArray) (A1 : Option Addr) (c1 : Nat) (l1 : List ByteArray) (r : Bool) (w : World) (hr0 : Kd.C Kd.string w A0 l0.length l0) (hc0 : l0.length ≤ c0) (hr1 : Kd.C Kd.string w A1 l1.length l1) (hc1 : l1.length ≤ c1) (h : pylonlaw06_ScanLines.f k l0 l1 = some r) :
    Calls Try.prog 6 #[.slice A0 l0.length c0, .slice A1 l1.length c1] w fun e w' => e = .returned (.bool r) ∧ Below w.heap.size w w' := by
  have HR0 := Aside0.mk hr0
  have HC0 := Aside0.mk hc0
  clear hr0 hc0
  have HR1 := Aside0.mk hr1
  have HC1 := Aside0.mk hc1
  clear hr1 hc1
  have HB := Aside0.mk (Below.refl w.heap.size w)
  have H : ((pylonlaw06_awake.f k).bind fun t233 => (if t233 = true then (pylonlaw06_ScanLines.l0 k l0 l1 (⟨#[]⟩ : ByteArray) (⟨#[]⟩ : ByteArray) (l0.length : Int) 0) else (some false))) = some r := h
  clear h
  replace H := Option.bind_eq_some_iff.mp H
  obtain ⟨t233, A30, H⟩ := H
  replace H : (if t233 = true then (pylonlaw06_ScanLines.l0 k l0 l1 (⟨#[]⟩ : ByteArray) (⟨#[]⟩ : ByteArray) (l0.length : Int) 0) else (some false)) = some r := H
  have A3 := Aside0.mk A30
  clear A30
  by_cases c4 : t233 = true
  · subst c4
    have H1 : (pylonlaw06_ScanLines.l0 k l0 l1 (⟨#[]⟩ : ByteArray) (⟨#[]⟩ : ByteArray) (l0.length : Int) 0) = some r := by rw [if_pos rfl] at H; exact H
    clear H
    have H := H1
    clear H1
    have H' := Aside0.mk H
    clear H
    go_enter Try.func6, Try.ntmps6
    go_wp2_with (first | (go_at_call 7; (with_reducible refine (pylonlaw06_awake.calls k  true _ A3.out).mono ?_); rintro e w5 ⟨rfl, hb⟩; have n0_ := Aside0.mk (below_step (by repeat (first | (with_reducible first | exact HB.out | apply below_alloc | apply pw_below_drewN | apply below_drew1) | exact HB.out)) hb); clear HB; have HB := n0_; clear n0_; (try clear hb); (try clear hb2); (try clear hk); (try clear hi)))
    repeat (go_quiet (first | (go_at_call 7; (with_reducible refine (pylonlaw06_awake.calls k  true _ A3.out).mono ?_); rintro e w5 ⟨rfl, hb⟩; have n0_ := Aside0.mk (below_step (by repeat (first | (with_reducible first | exact HB.out | apply below_alloc | apply pw_below_drewN | apply below_drew1) | exact HB.out)) hb); clear HB; have HB := n0_; clear n0_; (try clear hb); (try clear hb2); (try clear hk); (try clear hi))); try go_wp2_with (first | (go_at_call 7; (with_reducible refine (pylonlaw06_awake.calls k  true _ A3.out).mono ?_); rintro e w5 ⟨rfl, hb⟩; have n0_ := Aside0.mk (below_step (by repeat (first | (with_reducible first | exact HB.out | apply below_alloc | apply pw_below_drewN | apply below_drew1) | exact HB.out)) hb); clear HB; have HB := n0_; clear n0_; (try clear hb); (try clear hb2); (try clear hk); (try clear hi))))
    go_loopg [5, 21] k (fun kq v5 v21 w' => ∃ (x5_1 : ByteArray) (x21_1 : Int), v5 = .string x5_1 ∧ v21 = .int .i64 x21_1 ∧ Aside0 (pylonlaw06_ScanLines.l0 kq l0 l1 x5_1 (⟨#[]⟩ : ByteArray) (l0.length : Int) x21_1 = some r) ∧ Aside0 (kq ≤ k) ∧ Aside0 (Below w.heap.size w w'))
    case atStart => exact ⟨((⟨#[]⟩ : ByteArray)), (0), (by first | rfl | (simp; done) | (simp [*]; done) | (simp [isEmpty_bne]; done) | (simp [isEmpty_beq]; done)), (by first | rfl | (simp; done) | (simp [*]; done) | (simp [isEmpty_bne]; done) | (simp [isEmpty_beq]; done)), H', ⟨Nat.le_refl _⟩, ⟨by repeat (first | (with_reducible first | exact HB.out | apply below_alloc | apply pw_below_drewN | apply below_drew1) | exact HB.out)⟩⟩
    case round =>
      clear H'
      try clear c1
      try clear p2
      try clear c4
      obtain ⟨x5_1, x21_1, rfl, rfl, HA, HK1, HB⟩ := hrel
      cases gk with
      | zero => exact absurd HA.out (by simp [pylonlaw06_ScanLines.l0])
      | succ k1 =>
        have H := HA.out
        clear HA
        simp only [pylonlaw06_ScanLines.l0] at H
        by_cases c6 : x21_1 < (l0.length : Int)
        · rw [if_pos c6] at H
          have c6b0 : decide (x21_1 < (l0.length : Int)) = true := decide_eq_true c6
          clear c6
          by_cases c7 : 0 ≤ x21_1
          · rw [if_pos c7] at H
            have c7b0 : decide (0 ≤ x21_1) = true := decide_eq_true c7
            clear c7
            by_cases c8 : x21_1 < (l0.length : Int)
            · rw [if_pos c8] at H
              have c8b0 : decide (x21_1 < (l0.length : Int)) = true := decide_eq_true c8
              clear c8
              replace H := Option.bind_eq_some_iff.mp H
              obtain ⟨t235, A90, H⟩ := H
              replace H : (if x5_1.size + t235.size ≤ 9223372036854775807 then (if (x5_1 ++ t235).size + 1 ≤ 9223372036854775807 then (pylonlaw06_ScanLines.l0 k1 l0 l1 ((x5_1 ++ t235) ++ (⟨#[10]⟩ : ByteArray)) (⟨#[]⟩ : ByteArray) (l0.length : Int) (wrap64 (x21_1 + 1))) else (none)) else (none)) = some r := H
              have A9 := Aside0.mk A90
              clear A90
              by_cases c10 : x5_1.size + t235.size ≤ 9223372036854775807
              · rw [if_pos c10] at H
                have c10b0 := eq_true c10
                have c10b1 : decide (x5_1.size + t235.size ≤ 9223372036854775807) = true := decide_eq_true c10
                try have c10b2 : (9223372036854775807 < x5_1.size + t235.size) = False := eq_false (Nat.not_lt.2 c10)
                by_cases c11 : (x5_1 ++ t235).size + 1 ≤ 9223372036854775807
                · rw [if_pos c11] at H
                  have c11b0 := eq_true c11
                  have c11b1 : decide ((x5_1 ++ t235).size + 1 ≤ 9223372036854775807) = true := decide_eq_true c11
                  have c11n0 := c11
                  (try simp only [ByteArray.size_append] at c11n0)
                  have c11n1 := eq_true c11n0
                  have c11n2 := eq_false (Nat.not_lt.2 c11n0)
                  try have c11b2 : (9223372036854775807 < (x5_1 ++ t235).size + 1) = False := eq_false (Nat.not_lt.2 c11)
                  have H' := Aside0.mk H
                  clear H
                  have p234 : 0 ≤ (x21_1 : Int) := of_decide_eq_true (by first | (with_reducible assumption) | assumption)
                  have q234 : x21_1 < (l0.length : Int) := of_decide_eq_true (by first | (with_reducible assumption) | assumption)
                  obtain ⟨ad234, e234, hx234_0⟩ := Kd.at_string HR0.out x21_1 p234 q234
                  cases e234
                  replace hx234_0 := (HB.out.cell (World.block_lt_of_cell? w _ hx234_0)).trans hx234_0
                  replace p234 := eq_true p234
                  replace q234 := eq_true q234
                  go_wp2_with (first | (go_at_call 15; (with_reducible refine (pylonlaw06_clean.calls k1 (rdOf ByteArray.empty l0 x21_1) t235 _ A9.out).mono ?_); rintro e w' ⟨rfl, ⟨nd, rfl⟩⟩; (try first | exact ⟨rfl, _, World.drewN_drewN _ _ _⟩ | exact ⟨rfl, _, Eq.trans (World.drewN_drewN _ _ _) (congrArg (World.drewN _) (Nat.add_assoc _ _ _))⟩)))
                  repeat (go_quiet (first | (go_at_call 15; (with_reducible refine (pylonlaw06_clean.calls k1 (rdOf ByteArray.empty l0 x21_1) t235 _ A9.out).mono ?_); rintro e w' ⟨rfl, ⟨nd, rfl⟩⟩; (try first | exact ⟨rfl, _, World.drewN_drewN _ _ _⟩ | exact ⟨rfl, _, Eq.trans (World.drewN_drewN _ _ _) (congrArg (World.drewN _) (Nat.add_assoc _ _ _))⟩))); try go_wp2_with (first | (go_at_call 15; (with_reducible refine (pylonlaw06_clean.calls k1 (rdOf ByteArray.empty l0 x21_1) t235 _ A9.out).mono ?_); rintro e w' ⟨rfl, ⟨nd, rfl⟩⟩; (try first | exact ⟨rfl, _, World.drewN_drewN _ _ _⟩ | exact ⟨rfl, _, Eq.trans (World.drewN_drewN _ _ _) (congrArg (World.drewN _) (Nat.add_assoc _ _ _))⟩))))
                  go_roundg k1
                  case measure => have := HK1.out; omega
                  case rel => exact ⟨((x5_1 ++ t235) ++ (⟨#[10]⟩ : ByteArray)), (wrap64 (x21_1 + 1)), (by first | rfl | (simp; done) | (simp [*]; done) | (simp [isEmpty_bne]; done) | (simp [isEmpty_beq]; done)), (by first | rfl | (simp; done) | (simp [*]; done) | (simp [isEmpty_bne]; done) | (simp [isEmpty_beq]; done)), H', ⟨by have := HK1.out; omega⟩, ⟨by repeat (first | (with_reducible first | exact HB.out | apply below_alloc | apply pw_below_drewN | apply below_drew1) | exact HB.out)⟩⟩
                · rw [if_neg c11] at H
                  exact absurd H (by simp)
              · rw [if_neg c10] at H
                exact absurd H (by simp)
            · rw [if_neg c8] at H
              exact absurd H (by simp)
          · rw [if_neg c7] at H
            exact absurd H (by simp)
        · rw [if_neg c6] at H
          have c6b0 : decide (x21_1 < (l0.length : Int)) = false := decide_eq_false c6
          clear c6
          have H' := Aside0.mk H
          clear H
          go_wp2
          repeat (go_quiet (fail); try go_wp2)
          go_loopg [6, 35] k1 (fun kq v6 v35 w' => ∃ (x6_2 : ByteArray) (x35_2 : Int), v6 = .string x6_2 ∧ v35 = .int .i64 x35_2 ∧ Aside0 (pylonlaw06_ScanLines.l1 kq l0 l1 x5_1 x6_2 (l1.length : Int) x35_2 = some r) ∧ Aside0 (kq ≤ k1) ∧ Aside0 (Below w.heap.size w w'))
          case atStart => exact ⟨((⟨#[]⟩ : ByteArray)), (0), (by first | rfl | (simp; done) | (simp [*]; done) | (simp [isEmpty_bne]; done) | (simp [isEmpty_beq]; done)), (by first | rfl | (simp; done) | (simp [*]; done) | (simp [isEmpty_bne]; done) | (simp [isEmpty_beq]; done)), H', ⟨Nat.le_refl _⟩, ⟨by repeat (first | (with_reducible first | exact HB.out | apply below_alloc | apply pw_below_drewN | apply below_drew1) | exact HB.out)⟩⟩
          case round =>
            clear H'
            try clear c1
            try clear p2
            try clear q2
            try clear hx2
            try clear c4
            try clear c6
            try clear c6b0
            try clear p6
            try clear c7
            try clear c7b0
            try clear c8
            try clear c8b0
            try clear c10
            try clear c10b0
            try clear c10b1
            try clear c10b2
            try clear c11
            try clear c11b0
            try clear c11b1
            try clear c11b2
            try clear hx234_0
            try clear p2
            try clear p234
            try clear q234
            obtain ⟨x6_2, x35_2, rfl, rfl, HA, HK2, HB⟩ := hrel
            cases gk with
            | zero => exact absurd HA.out (by simp [pylonlaw06_ScanLines.l1])
            | succ k2 =>
              have H := HA.out
              clear HA
              simp only [pylonlaw06_ScanLines.l1] at H
              by_cases c12 : x35_2 < (l1.length : Int)
              · rw [if_pos c12] at H
                have c12b0 : decide (x35_2 < (l1.length : Int)) = true := decide_eq_true c12
                clear c12
                by_cases c13 : 0 ≤ x35_2
                · rw [if_pos c13] at H
                  have c13b0 : decide (0 ≤ x35_2) = true := decide_eq_true c13
                  clear c13
                  by_cases c14 : x35_2 < (l1.length : Int)
                  · rw [if_pos c14] at H
                    have c14b0 : decide (x35_2 < (l1.length : Int)) = true := decide_eq_true c14
                    clear c14
                    replace H := Option.bind_eq_some_iff.mp H
                    obtain ⟨t237, A150, H⟩ := H
                    replace H : (if x6_2.size + t237.size ≤ 9223372036854775807 then (if (x6_2 ++ t237).size + 1 ≤ 9223372036854775807 then (pylonlaw06_ScanLines.l1 k2 l0 l1 x5_1 ((x6_2 ++ t237) ++ (⟨#[10]⟩ : ByteArray)) (l1.length : Int) (wrap64 (x35_2 + 1))) else (none)) else (none)) = some r := H
                    have A15 := Aside0.mk A150
                    clear A150
                    by_cases c16 : x6_2.size + t237.size ≤ 9223372036854775807
                    · rw [if_pos c16] at H
                      have c16b0 := eq_true c16
                      have c16b1 : decide (x6_2.size + t237.size ≤ 9223372036854775807) = true := decide_eq_true c16
                      try have c16b2 : (9223372036854775807 < x6_2.size + t237.size) = False := eq_false (Nat.not_lt.2 c16)
                      by_cases c17 : (x6_2 ++ t237).size + 1 ≤ 9223372036854775807
                      · rw [if_pos c17] at H
                        have c17b0 := eq_true c17
                        have c17b1 : decide ((x6_2 ++ t237).size + 1 ≤ 9223372036854775807) = true := decide_eq_true c17
                        have c17n0 := c17
                        (try simp only [ByteArray.size_append] at c17n0)
                        have c17n1 := eq_true c17n0
                        have c17n2 := eq_false (Nat.not_lt.2 c17n0)
                        try have c17b2 : (9223372036854775807 < (x6_2 ++ t237).size + 1) = False := eq_false (Nat.not_lt.2 c17)
                        have H' := Aside0.mk H
                        clear H
                        have p236 : 0 ≤ (x35_2 : Int) := of_decide_eq_true (by first | (with_reducible assumption) | assumption)
                        have q236 : x35_2 < (l1.length : Int) := of_decide_eq_true (by first | (with_reducible assumption) | assumption)
                        obtain ⟨ad236, e236, hx236_0⟩ := Kd.at_string HR1.out x35_2 p236 q236
                        cases e236
                        replace hx236_0 := (HB.out.cell (World.block_lt_of_cell? w _ hx236_0)).trans hx236_0
                        replace p236 := eq_true p236
                        replace q236 := eq_true q236
                        go_wp2_with (first | (go_at_call 15; (with_reducible refine (pylonlaw06_clean.calls k2 (rdOf ByteArray.empty l1 x35_2) t237 _ A15.out).mono ?_); rintro e w' ⟨rfl, ⟨nd, rfl⟩⟩; (try first | exact ⟨rfl, _, World.drewN_drewN _ _ _⟩ | exact ⟨rfl, _, Eq.trans (World.drewN_drewN _ _ _) (congrArg (World.drewN _) (Nat.add_assoc _ _ _))⟩)))
                        repeat (go_quiet (first | (go_at_call 15; (with_reducible refine (pylonlaw06_clean.calls k2 (rdOf ByteArray.empty l1 x35_2) t237 _ A15.out).mono ?_); rintro e w' ⟨rfl, ⟨nd, rfl⟩⟩; (try first | exact ⟨rfl, _, World.drewN_drewN _ _ _⟩ | exact ⟨rfl, _, Eq.trans (World.drewN_drewN _ _ _) (congrArg (World.drewN _) (Nat.add_assoc _ _ _))⟩))); try go_wp2_with (first | (go_at_call 15; (with_reducible refine (pylonlaw06_clean.calls k2 (rdOf ByteArray.empty l1 x35_2) t237 _ A15.out).mono ?_); rintro e w' ⟨rfl, ⟨nd, rfl⟩⟩; (try first | exact ⟨rfl, _, World.drewN_drewN _ _ _⟩ | exact ⟨rfl, _, Eq.trans (World.drewN_drewN _ _ _) (congrArg (World.drewN _) (Nat.add_assoc _ _ _))⟩))))
                        go_roundg k2
                        case measure => have := HK1.out; have := HK2.out; omega
                        case rel => exact ⟨((x6_2 ++ t237) ++ (⟨#[10]⟩ : ByteArray)), (wrap64 (x35_2 + 1)), (by first | rfl | (simp; done) | (simp [*]; done) | (simp [isEmpty_bne]; done) | (simp [isEmpty_beq]; done)), (by first | rfl | (simp; done) | (simp [*]; done) | (simp [isEmpty_bne]; done) | (simp [isEmpty_beq]; done)), H', ⟨by have := HK1.out; have := HK2.out; omega⟩, ⟨by repeat (first | (with_reducible first | exact HB.out | apply below_alloc | apply pw_below_drewN | apply below_drew1) | exact HB.out)⟩⟩
                      · rw [if_neg c17] at H
                        exact absurd H (by simp)
                    · rw [if_neg c16] at H
                      exact absurd H (by simp)
                  · rw [if_neg c14] at H
                    exact absurd H (by simp)
                · rw [if_neg c13] at H
                  exact absurd H (by simp)
              · rw [if_neg c12] at H
                have c12b0 : decide (x35_2 < (l1.length : Int)) = false := decide_eq_false c12
                clear c12
                by_cases c18 : (wrap64 ((x5_1.size : Int) + (x6_2.size : Int))) > 1048574
                · rw [if_pos c18] at H
                  have c18b0 : decide (1048574 < (wrap64 ((x5_1.size : Int) + (x6_2.size : Int)))) = true := decide_eq_true c18
                  clear c18
                  obtain rfl := Option.some.inj H
                  go_wp2
                  repeat (go_quiet (fail); try go_wp2)
                  go_ret
                  exact ⟨by first | rfl | (simp [errW_none, errW_some] <;> rfl) | (simp [*, errW_none, errW_some] <;> rfl), by repeat (first | (with_reducible first | exact HB.out | apply below_alloc | apply pw_below_drewN | apply below_drew1) | exact HB.out)⟩
                · rw [if_neg c18] at H
                  have c18b0 : decide (1048574 < (wrap64 ((x5_1.size : Int) + (x6_2.size : Int)))) = false := decide_eq_false c18
                  clear c18
                  by_cases c19 : x5_1.size + x6_2.size ≤ 9223372036854775807
                  · rw [if_pos c19] at H
                    have c19b0 := eq_true c19
                    have c19b1 : decide (x5_1.size + x6_2.size ≤ 9223372036854775807) = true := decide_eq_true c19
                    have c19w : wrap64 ((x5_1.size : Int) + (x6_2.size : Int)) = (x5_1.size : Int) + (x6_2.size : Int) := by unfold wrap64; omega
                    have c18b0w := c18b0
                    rw [c19w] at c18b0w
                    clear c19w
                    try have c19b2 : (9223372036854775807 < x5_1.size + x6_2.size) = False := eq_false (Nat.not_lt.2 c19)
                    replace H := Option.bind_eq_some_iff.mp H
                    obtain ⟨⟨t238, t239, t240⟩, A200, H⟩ := H
                    replace H : (if (x5_1 ++ x6_2).size + 1 ≤ 9223372036854775807 then ((scan_Lines.f k2 ((x5_1 ++ x6_2) ++ (⟨#[33]⟩ : ByteArray))).bind fun bt243 => (if t240 = 0 then (if t239 = 0 then (if (t238.length : Int) = (wrap64 ((l0.length : Int) + (l1.length : Int))) then (if bt243.2.2 = 1 then (if (bt243.1.length : Int) = 0 then (pylonlaw06_ScanLines.j2 k2 l0 l1 t238 (bt243.2.1 != (wrap64 ((wrap64 ((l0.length : Int) + (l1.length : Int))) + 1)))) else (pylonlaw06_ScanLines.j2 k2 l0 l1 t238 true)) else (pylonlaw06_ScanLines.j2 k2 l0 l1 t238 true)) else (pylonlaw06_ScanLines.j2 k2 l0 l1 t238 true)) else (pylonlaw06_ScanLines.j2 k2 l0 l1 t238 true)) else (pylonlaw06_ScanLines.j2 k2 l0 l1 t238 true))) else (none)) = some r := H
                    have A20 := Aside0.mk A200
                    clear A200
                    by_cases c21 : (x5_1 ++ x6_2).size + 1 ≤ 9223372036854775807
                    · rw [if_pos c21] at H
                      have c21b0 := eq_true c21
                      have c21b1 : decide ((x5_1 ++ x6_2).size + 1 ≤ 9223372036854775807) = true := decide_eq_true c21
                      have c21n0 := c21
                      (try simp only [ByteArray.size_append] at c21n0)
                      have c21n1 := eq_true c21n0
                      have c21n2 := eq_false (Nat.not_lt.2 c21n0)
                      try have c21b2 : (9223372036854775807 < (x5_1 ++ x6_2).size + 1) = False := eq_false (Nat.not_lt.2 c21)
                      replace H := Option.bind_eq_some_iff.mp H
                      obtain ⟨⟨t243, t244, t245⟩, A220, H⟩ := H
                      replace H : (if t240 = 0 then (if t239 = 0 then (if (t238.length : Int) = (wrap64 ((l0.length : Int) + (l1.length : Int))) then (if t245 = 1 then (if (t243.length : Int) = 0 then (pylonlaw06_ScanLines.j2 k2 l0 l1 t238 (t244 != (wrap64 ((wrap64 ((l0.length : Int) + (l1.length : Int))) + 1)))) else (pylonlaw06_ScanLines.j2 k2 l0 l1 t238 true)) else (pylonlaw06_ScanLines.j2 k2 l0 l1 t238 true)) else (pylonlaw06_ScanLines.j2 k2 l0 l1 t238 true)) else (pylonlaw06_ScanLines.j2 k2 l0 l1 t238 true)) else (pylonlaw06_ScanLines.j2 k2 l0 l1 t238 true)) = some r := H
                      have A22 := Aside0.mk A220
                      clear A220
                      have HC23 := Aside0.mk H
                      clear H
                      go_upto_region 18 with (first | (go_at_call 16; (with_reducible refine (scan_Lines.calls k2 (x5_1 ++ x6_2) t238 t239 t240 _ A20.out).mono ?_); rintro e w24 ⟨v241, rfl, ho0, hb⟩; have n0_ := Aside0.mk (Kd.R_lower ho0 (below_size (by repeat (first | (with_reducible first | exact HB.out | apply below_alloc | apply pw_below_drewN | apply below_drew1) | exact HB.out)))); have n1_ := Aside0.mk (below_step (by repeat (first | (with_reducible first | exact HB.out | apply below_alloc | apply pw_below_drewN | apply below_drew1) | exact HB.out)) hb); clear HB; have HO242 := n0_; have HB := n1_; clear n0_ n1_; (try clear hb); (try clear hb2); (try clear hk); (try clear hi); (try clear ho0)) | (go_at_call 16; (with_reducible refine (scan_Lines.calls k2 ((x5_1 ++ x6_2) ++ (⟨#[33]⟩ : ByteArray)) t243 t244 t245 _ A22.out).mono ?_); rintro e w25 ⟨v246, rfl, ho0, hb⟩; have n0_ := Aside0.mk (Kd.R_elder' (by (with_reducible repeat (first | apply Kd.R_alloc | apply Kd.R_drewN | apply Kd.R_drew)); exact HO242.out) (Kd.R_base ho0) hb); have n1_ := Aside0.mk (Kd.R_lower (Kd.R_new' ho0 (Kd.R_lt (by (with_reducible repeat (first | apply Kd.R_alloc | apply Kd.R_drewN | apply Kd.R_drew)); exact HO242.out))) (below_size (by repeat (first | (with_reducible first | exact HB.out | apply below_alloc | apply pw_below_drewN | apply below_drew1) | exact HB.out)))); have n2_ := Aside0.mk (below_step (by repeat (first | (with_reducible first | exact HB.out | apply below_alloc | apply pw_below_drewN | apply below_drew1) | exact HB.out)) hb); clear HO242; clear HB; have HO242 := n0_; have HO247 := n1_; have HB := n2_; clear n0_ n1_ n2_; (try clear hb); (try clear hb2); (try clear hk); (try clear hi); (try clear ho0)))
                      repeat (go_quiet (first | (go_at_call 16; (with_reducible refine (scan_Lines.calls k2 (x5_1 ++ x6_2) t238 t239 t240 _ A20.out).mono ?_); rintro e w24 ⟨v241, rfl, ho0, hb⟩; have n0_ := Aside0.mk (Kd.R_lower ho0 (below_size (by repeat (first | (with_reducible first | exact HB.out | apply below_alloc | apply pw_below_drewN | apply below_drew1) | exact HB.out)))); have n1_ := Aside0.mk (below_step (by repeat (first | (with_reducible first | exact HB.out | apply below_alloc | apply pw_below_drewN | apply below_drew1) | exact HB.out)) hb); clear HB; have HO242 := n0_; have HB := n1_; clear n0_ n1_; (try clear hb); (try clear hb2); (try clear hk); (try clear hi); (try clear ho0)) | (go_at_call 16; (with_reducible refine (scan_Lines.calls k2 ((x5_1 ++ x6_2) ++ (⟨#[33]⟩ : ByteArray)) t243 t244 t245 _ A22.out).mono ?_); rintro e w25 ⟨v246, rfl, ho0, hb⟩; have n0_ := Aside0.mk (Kd.R_elder' (by (with_reducible repeat (first | apply Kd.R_alloc | apply Kd.R_drewN | apply Kd.R_drew)); exact HO242.out) (Kd.R_base ho0) hb); have n1_ := Aside0.mk (Kd.R_lower (Kd.R_new' ho0 (Kd.R_lt (by (with_reducible repeat (first | apply Kd.R_alloc | apply Kd.R_drewN | apply Kd.R_drew)); exact HO242.out))) (below_size (by repeat (first | (with_reducible first | exact HB.out | apply below_alloc | apply pw_below_drewN | apply below_drew1) | exact HB.out)))); have n2_ := Aside0.mk (below_step (by repeat (first | (with_reducible first | exact HB.out | apply below_alloc | apply pw_below_drewN | apply below_drew1) | exact HB.out)) hb); clear HO242; clear HB; have HO242 := n0_; have HO247 := n1_; have HB := n2_; clear n0_ n1_ n2_; (try clear hb); (try clear hb2); (try clear hk); (try clear hi); (try clear ho0))); go_upto_region 18 with (first | (go_at_call 16; (with_reducible refine (scan_Lines.calls k2 (x5_1 ++ x6_2) t238 t239 t240 _ A20.out).mono ?_); rintro e w24 ⟨v241, rfl, ho0, hb⟩; have n0_ := Aside0.mk (Kd.R_lower ho0 (below_size (by repeat (first | (with_reducible first | exact HB.out | apply below_alloc | apply pw_below_drewN | apply below_drew1) | exact HB.out)))); have n1_ := Aside0.mk (below_step (by repeat (first | (with_reducible first | exact HB.out | apply below_alloc | apply pw_below_drewN | apply below_drew1) | exact HB.out)) hb); clear HB; have HO242 := n0_; have HB := n1_; clear n0_ n1_; (try clear hb); (try clear hb2); (try clear hk); (try clear hi); (try clear ho0)) | (go_at_call 16; (with_reducible refine (scan_Lines.calls k2 ((x5_1 ++ x6_2) ++ (⟨#[33]⟩ : ByteArray)) t243 t244 t245 _ A22.out).mono ?_); rintro e w25 ⟨v246, rfl, ho0, hb⟩; have n0_ := Aside0.mk (Kd.R_elder' (by (with_reducible repeat (first | apply Kd.R_alloc | apply Kd.R_drewN | apply Kd.R_drew)); exact HO242.out) (Kd.R_base ho0) hb); have n1_ := Aside0.mk (Kd.R_lower (Kd.R_new' ho0 (Kd.R_lt (by (with_reducible repeat (first | apply Kd.R_alloc | apply Kd.R_drewN | apply Kd.R_drew)); exact HO242.out))) (below_size (by repeat (first | (with_reducible first | exact HB.out | apply below_alloc | apply pw_below_drewN | apply below_drew1) | exact HB.out)))); have n2_ := Aside0.mk (below_step (by repeat (first | (with_reducible first | exact HB.out | apply below_alloc | apply pw_below_drewN | apply below_drew1) | exact HB.out)) hb); clear HO242; clear HB; have HO242 := n0_; have HO247 := n1_; have HB := n2_; clear n0_ n1_ n2_; (try clear hb); (try clear hb2); (try clear hk); (try clear hi); (try clear ho0))))
                      (try simp only [Act.put, List.setIfInBounds_toArray, List.set_cons_zero, List.set_cons_succ])
                      go_cut [104] (fun v104 wc => ∃ (kq : Nat) (x104_22 : Bool), v104 = .bool x104_22 ∧ Aside0 (pylonlaw06_ScanLines.j2 kq l0 l1 t238 x104_22 = some r) ∧ Aside0 (kq ≤ k2) ∧ Aside0 (Kd.R Kd.string 9 wc w.heap.size (fun _ => True) v241 t238) ∧ Aside0 (Below w.heap.size w wc))
                      case first =>
                        have H := HC23.out
                        clear HC23
                        by_cases c26 : t240 = 0
                        · rw [if_pos c26] at H
                          have c26b0 : (t240 == 0) = true := beq_iff_eq.mpr c26
                          have c26b1 : (t240 != 0) = false := bne_eq_false_iff_eq.mpr c26
                          clear c26
                          (first | rw [c26b0] | (simp only [i64_w, i32_w]; rw [c26b0]) | skip)
                          by_cases c27 : t239 = 0
                          · rw [if_pos c27] at H
                            have c27b0 : (t239 == 0) = true := beq_iff_eq.mpr c27
                            have c27b1 : (t239 != 0) = false := bne_eq_false_iff_eq.mpr c27
                            clear c27
                            by_cases c28 : (t238.length : Int) = (wrap64 ((l0.length : Int) + (l1.length : Int)))
                            · rw [if_pos c28] at H
                              have c28b0 : ((t238.length : Int) == (wrap64 ((l0.length : Int) + (l1.length : Int)))) = true := beq_iff_eq.mpr c28
                              have c28b1 : ((t238.length : Int) != (wrap64 ((l0.length : Int) + (l1.length : Int)))) = false := bne_eq_false_iff_eq.mpr c28
                              clear c28
                              by_cases c29 : t245 = 1
                              · rw [if_pos c29] at H
                                have c29b0 : (t245 == 1) = true := beq_iff_eq.mpr c29
                                have c29b1 : (t245 != 1) = false := bne_eq_false_iff_eq.mpr c29
                                clear c29
                                by_cases c30 : (t243.length : Int) = 0
                                · rw [if_pos c30] at H
                                  have c30b0 : ((t243.length : Int) == 0) = true := beq_iff_eq.mpr c30
                                  have c30b1 : ((t243.length : Int) != 0) = false := bne_eq_false_iff_eq.mpr c30
                                  clear c30
                                  have H' := Aside0.mk H
                                  clear H
                                  obtain ⟨Ao31, co31, eo31⟩ := Kd.R_slice HO242.out
                                  subst eo31
                                  obtain ⟨Ao32, co32, eo32⟩ := Kd.R_slice HO247.out
                                  subst eo32
                                  go_wp2
                                  repeat (go_quiet (fail); try go_wp2)
                                  go_meet
                                  case rel => exact ⟨_, ((t244 != (wrap64 ((wrap64 ((l0.length : Int) + (l1.length : Int))) + 1)))), (by first | rfl | (simp; done) | (simp [*]; done) | (simp [isEmpty_bne]; done) | (simp [isEmpty_beq]; done)), H', ⟨by have := HK1.out; have := HK2.out; first | omega | exact Nat.le_refl _⟩, ⟨by (with_reducible repeat (first | apply Kd.R_alloc | apply Kd.R_drewN | apply Kd.R_drew)); exact Kd.R_mono HO242.out (fun _ hk => trivial)⟩, ⟨by repeat (first | (with_reducible first | exact HB.out | apply below_alloc | apply pw_below_drewN | apply below_drew1) | exact HB.out)⟩⟩
                                · rw [if_neg c30] at H
                                  have c30b0 : ((t243.length : Int) == 0) = false := beq_eq_false_iff_ne.mpr c30
                                  have c30b1 : ((t243.length : Int) != 0) = true := bne_iff_ne.mpr c30
                                  have c30b2 : ¬ (t243 = []) := fun h_ => c30 (by rw [h_]; rfl)
                                  have H' := Aside0.mk H
                                  clear H
                                  obtain ⟨Ao33, co33, eo33⟩ := Kd.R_slice HO242.out
                                  subst eo33
                                  obtain ⟨Ao34, co34, eo34⟩ := Kd.R_slice HO247.out
                                  subst eo34
                                  go_wp2
                                  repeat (go_quiet (fail); try go_wp2)
                                  go_meet
                                  case rel => exact ⟨_, (true), (by first | rfl | (simp; done) | (simp [*]; done) | (simp [isEmpty_bne]; done) | (simp [isEmpty_beq]; done)), H', ⟨by have := HK1.out; have := HK2.out; first | omega | exact Nat.le_refl _⟩, ⟨by (with_reducible repeat (first | apply Kd.R_alloc | apply Kd.R_drewN | apply Kd.R_drew)); exact Kd.R_mono HO242.out (fun _ hk => trivial)⟩, ⟨by repeat (first | (with_reducible first | exact HB.out | apply below_alloc | apply pw_below_drewN | apply below_drew1) | exact HB.out)⟩⟩
                              · rw [if_neg c29] at H
                                have c29b0 : (t245 == 1) = false := beq_eq_false_iff_ne.mpr c29
                                have c29b1 : (t245 != 1) = true := bne_iff_ne.mpr c29
                                have H' := Aside0.mk H
                                clear H
                                obtain ⟨Ao35, co35, eo35⟩ := Kd.R_slice HO242.out
                                subst eo35
                                go_wp2
                                repeat (go_quiet (fail); try go_wp2)
                                go_meet
                                case rel => exact ⟨_, (true), (by first | rfl | (simp; done) | (simp [*]; done) | (simp [isEmpty_bne]; done) | (simp [isEmpty_beq]; done)), H', ⟨by have := HK1.out; have := HK2.out; first | omega | exact Nat.le_refl _⟩, ⟨by (with_reducible repeat (first | apply Kd.R_alloc | apply Kd.R_drewN | apply Kd.R_drew)); exact Kd.R_mono HO242.out (fun _ hk => trivial)⟩, ⟨by repeat (first | (with_reducible first | exact HB.out | apply below_alloc | apply pw_below_drewN | apply below_drew1) | exact HB.out)⟩⟩
                            · rw [if_neg c28] at H
                              have c28b0 : ((t238.length : Int) == (wrap64 ((l0.length : Int) + (l1.length : Int)))) = false := beq_eq_false_iff_ne.mpr c28
                              have c28b1 : ((t238.length : Int) != (wrap64 ((l0.length : Int) + (l1.length : Int)))) = true := bne_iff_ne.mpr c28
                              have H' := Aside0.mk H
                              clear H
                              obtain ⟨Ao36, co36, eo36⟩ := Kd.R_slice HO242.out
                              subst eo36
                              go_wp2
                              repeat (go_quiet (fail); try go_wp2)
                              go_meet
                              case rel => exact ⟨_, (true), (by first | rfl | (simp; done) | (simp [*]; done) | (simp [isEmpty_bne]; done) | (simp [isEmpty_beq]; done)), H', ⟨by have := HK1.out; have := HK2.out; first | omega | exact Nat.le_refl _⟩, ⟨by (with_reducible repeat (first | apply Kd.R_alloc | apply Kd.R_drewN | apply Kd.R_drew)); exact Kd.R_mono HO242.out (fun _ hk => trivial)⟩, ⟨by repeat (first | (with_reducible first | exact HB.out | apply below_alloc | apply pw_below_drewN | apply below_drew1) | exact HB.out)⟩⟩
                          · rw [if_neg c27] at H
                            have c27b0 : (t239 == 0) = false := beq_eq_false_iff_ne.mpr c27
                            have c27b1 : (t239 != 0) = true := bne_iff_ne.mpr c27
                            have H' := Aside0.mk H
                            clear H
                            go_wp2
                            repeat (go_quiet (fail); try go_wp2)
                            go_meet
                            case rel => exact ⟨_, (true), (by first | rfl | (simp; done) | (simp [*]; done) | (simp [isEmpty_bne]; done) | (simp [isEmpty_beq]; done)), H', ⟨by have := HK1.out; have := HK2.out; first | omega | exact Nat.le_refl _⟩, ⟨by (with_reducible repeat (first | apply Kd.R_alloc | apply Kd.R_drewN | apply Kd.R_drew)); exact Kd.R_mono HO242.out (fun _ hk => trivial)⟩, ⟨by repeat (first | (with_reducible first | exact HB.out | apply below_alloc | apply pw_below_drewN | apply below_drew1) | exact HB.out)⟩⟩
                        · rw [if_neg c26] at H
                          have c26b0 : (t240 == 0) = false := beq_eq_false_iff_ne.mpr c26
                          have c26b1 : (t240 != 0) = true := bne_iff_ne.mpr c26
                          (first | rw [c26b0] | (simp only [i64_w, i32_w]; rw [c26b0]) | skip)
                          have H' := Aside0.mk H
                          clear H
                          go_wp2
                          repeat (go_quiet (fail); try go_wp2)
                          go_meet
                          case rel => exact ⟨_, (true), (by first | rfl | (simp; done) | (simp [*]; done) | (simp [isEmpty_bne]; done) | (simp [isEmpty_beq]; done)), H', ⟨by have := HK1.out; have := HK2.out; first | omega | exact Nat.le_refl _⟩, ⟨by (with_reducible repeat (first | apply Kd.R_alloc | apply Kd.R_drewN | apply Kd.R_drew)); exact Kd.R_mono HO242.out (fun _ hk => trivial)⟩, ⟨by repeat (first | (with_reducible first | exact HB.out | apply below_alloc | apply pw_below_drewN | apply below_drew1) | exact HB.out)⟩⟩
                      case rest =>
                        clear HC23
                        try clear c1
                        try clear c2
                        try clear p2
                        try clear q2
                        try clear hx2
                        try clear c3
                        try clear c4
                        try clear c6
                        try clear c6b0
                        try clear p6
                        try clear c7
                        try clear c7b0
                        try clear c8
                        try clear c8b0
                        try clear c10
                        try clear c10b0
                        try clear c10b1
                        try clear c10b2
                        try clear c11
                        try clear c11b0
                        try clear c11b1
                        try clear c11b2
                        try clear c12
                        try clear c12b0
                        try clear c13
                        try clear c13b0
                        try clear c14
                        try clear c14b0
                        try clear c16
                        try clear c16b0
                        try clear c16b1
                        try clear c16b2
                        try clear c17
                        try clear c17b0
                        try clear c17b1
                        try clear c17b2
                        try clear c18
                        try clear c18b0
                        try clear c19
                        try clear c19b0
                        try clear c19b1
                        try clear c19b2
                        try clear c21
                        try clear c21b0
                        try clear c21b1
                        try clear c21b2
                        try clear p23
                        try clear q23
                        try clear hx23
                        try clear c26
                        try clear c26b0
                        try clear c26b1
                        try clear c27
                        try clear c27b0
                        try clear c27b1
                        try clear c28
                        try clear c28b0
                        try clear c28b1
                        try clear c29
                        try clear c29b0
                        try clear c29b1
                        try clear c30
                        try clear c30b0
                        try clear c30b1
                        try clear c30b2
                        try clear hx234_0
                        try clear hx236_0
                        try clear p2
                        try clear p234
                        try clear p236
                        try clear p6
                        try clear q2
                        try clear q234
                        try clear q236
                        obtain ⟨kq, x104_22, rfl, HA, HJ22, HO_9, HB⟩ := hcut
                        cases kq with
                        | zero => exact absurd HA.out (by simp [pylonlaw06_ScanLines.j2])
                        | succ kj22 =>
                          have H := HA.out
                          clear HA
                          simp only [pylonlaw06_ScanLines.j2] at H
                          by_cases c37 : x104_22 = true
                          · subst c37
                            have H1 : (some false) = some r := by rw [if_pos rfl] at H; exact H
                            clear H
                            have H := H1
                            clear H1
                            obtain rfl := Option.some.inj H
                            go_wp2
                            repeat (go_quiet (fail); try go_wp2)
                            go_ret
                            exact ⟨by first | rfl | (simp [errW_none, errW_some] <;> rfl) | (simp [*, errW_none, errW_some] <;> rfl), by repeat (first | (with_reducible first | exact HB.out | apply below_alloc | apply pw_below_drewN | apply below_drew1) | exact HB.out)⟩
                          · replace c37 := Bool.eq_false_iff.mpr c37
                            subst c37
                            have H1 : (pylonlaw06_ScanLines.l2 kj22 l0 l1 t238 (l0.length : Int) 0) = some r := by rw [if_neg (show ¬ (false = true) by decide)] at H; exact H
                            clear H
                            have H := H1
                            clear H1
                            have H' := Aside0.mk H
                            clear H
                            go_wp2
                            repeat (go_quiet (fail); try go_wp2)
                            go_loopg [107] kj22 (fun kq v107 w' => ∃ (x107_4 : Int), v107 = .int .i64 x107_4 ∧ Aside0 (pylonlaw06_ScanLines.l2 kq l0 l1 t238 (l0.length : Int) x107_4 = some r) ∧ Aside0 (kq ≤ kj22) ∧ Aside0 (Kd.R Kd.string 9 w' w.heap.size (fun _ => True) v241 t238) ∧ Aside0 (Below w.heap.size w w'))
                            case atStart => exact ⟨(0), (by first | rfl | (simp; done) | (simp [*]; done) | (simp [isEmpty_bne]; done) | (simp [isEmpty_beq]; done)), H', ⟨Nat.le_refl _⟩, ⟨by (with_reducible repeat (first | apply Kd.R_alloc | apply Kd.R_drewN | apply Kd.R_drew)); exact HO_9.out⟩, ⟨by repeat (first | (with_reducible first | exact HB.out | apply below_alloc | apply pw_below_drewN | apply below_drew1) | exact HB.out)⟩⟩
                            case round =>
                              clear H'
                              try clear c1
                              try clear c2
                              try clear p2
                              try clear q2
                              try clear hx2
                              try clear c3
                              try clear c4
                              try clear c6
                              try clear c6b0
                              try clear p6
                              try clear c7
                              try clear c7b0
                              try clear c8
                              try clear c8b0
                              try clear c10
                              try clear c10b0
                              try clear c10b1
                              try clear c10b2
                              try clear c11
                              try clear c11b0
                              try clear c11b1
                              try clear c11b2
                              try clear c12
                              try clear c12b0
                              try clear c13
                              try clear c13b0
                              try clear c14
                              try clear c14b0
                              try clear c16
                              try clear c16b0
                              try clear c16b1
                              try clear c16b2
                              try clear c17
                              try clear c17b0
                              try clear c17b1
                              try clear c17b2
                              try clear c18
                              try clear c18b0
                              try clear c19
                              try clear c19b0
                              try clear c19b1
                              try clear c19b2
                              try clear c21
                              try clear c21b0
                              try clear c21b1
                              try clear c21b2
                              try clear p23
                              try clear q23
                              try clear hx23
                              try clear c26
                              try clear c26b0
                              try clear c26b1
                              try clear c27
                              try clear c27b0
                              try clear c27b1
                              try clear c28
                              try clear c28b0
                              try clear c28b1
                              try clear c29
                              try clear c29b0
                              try clear c29b1
                              try clear c30
                              try clear c30b0
                              try clear c30b1
                              try clear c30b2
                              try clear c37
                              try clear hx234_0
                              try clear hx236_0
                              try clear p2
                              try clear p23
                              try clear p234
                              try clear p236
                              try clear p6
                              try clear q2
                              try clear q23
                              try clear q234
                              try clear q236
                              obtain ⟨x107_4, rfl, HA, HK4, HO_9, HB⟩ := hrel
                              cases gk with
                              | zero => exact absurd HA.out (by simp [pylonlaw06_ScanLines.l2])
                              | succ k4 =>
                                have H := HA.out
                                clear HA
                                simp only [pylonlaw06_ScanLines.l2] at H
                                by_cases c38 : x107_4 < (l0.length : Int)
                                · rw [if_pos c38] at H
                                  have c38b0 : decide (x107_4 < (l0.length : Int)) = true := decide_eq_true c38
                                  clear c38
                                  by_cases c39 : 0 ≤ x107_4
                                  · rw [if_pos c39] at H
                                    have c39b0 : decide (0 ≤ x107_4) = true := decide_eq_true c39
                                    clear c39
                                    by_cases c40 : x107_4 < (t238.length : Int)
                                    · rw [if_pos c40] at H
                                      have c40b0 : decide (x107_4 < (t238.length : Int)) = true := decide_eq_true c40
                                      clear c40
                                      by_cases c41 : x107_4 < (l0.length : Int)
                                      · rw [if_pos c41] at H
                                        have c41b0 : decide (x107_4 < (l0.length : Int)) = true := decide_eq_true c41
                                        clear c41
                                        replace H := Option.bind_eq_some_iff.mp H
                                        obtain ⟨t250, A420, H⟩ := H
                                        replace H : (if (rdOf ByteArray.empty t238 x107_4).toList = t250.toList then (pylonlaw06_ScanLines.l2 k4 l0 l1 t238 (l0.length : Int) (wrap64 (x107_4 + 1))) else (some false)) = some r := H
                                        have A42 := Aside0.mk A420
                                        clear A420
                                        by_cases c43 : (rdOf ByteArray.empty t238 x107_4).toList = t250.toList
                                        · rw [if_pos c43] at H
                                          have c43b0 : ((rdOf ByteArray.empty t238 x107_4).toList == t250.toList) = true := beq_iff_eq.mpr c43
                                          have c43b1 : ((rdOf ByteArray.empty t238 x107_4).toList != t250.toList) = false := bne_eq_false_iff_eq.mpr c43
                                          clear c43
                                          have H' := Aside0.mk H
                                          clear H
                                          obtain ⟨Ao44, co44, eo44⟩ := Kd.R_slice HO_9.out
                                          subst eo44
                                          have p248 : 0 ≤ (x107_4 : Int) := of_decide_eq_true (by first | (with_reducible assumption) | assumption)
                                          have q248 : x107_4 < (t238.length : Int) := of_decide_eq_true (by first | (with_reducible assumption) | assumption)
                                          obtain ⟨ad248, e248, hx248_0⟩ := Kd.at_string (Kd.R_reads' HO_9.out).2.2 x107_4 p248 q248
                                          cases e248
                                          replace p248 := eq_true p248
                                          replace q248 := eq_true q248
                                          have p249 : 0 ≤ (x107_4 : Int) := of_decide_eq_true (by first | (with_reducible assumption) | assumption)
                                          have q249 : x107_4 < (l0.length : Int) := of_decide_eq_true (by first | (with_reducible assumption) | assumption)
                                          obtain ⟨ad249, e249, hx249_0⟩ := Kd.at_string HR0.out x107_4 p249 q249
                                          cases e249
                                          replace hx249_0 := (HB.out.cell (World.block_lt_of_cell? w _ hx249_0)).trans hx249_0
                                          replace p249 := eq_true p249
                                          replace q249 := eq_true q249
                                          go_wp2_with (first | (go_at_call 15; (with_reducible refine (pylonlaw06_clean.calls k4 (rdOf ByteArray.empty l0 x107_4) t250 _ A42.out).mono ?_); rintro e w' ⟨rfl, ⟨nd, rfl⟩⟩; (try first | exact ⟨rfl, _, World.drewN_drewN _ _ _⟩ | exact ⟨rfl, _, Eq.trans (World.drewN_drewN _ _ _) (congrArg (World.drewN _) (Nat.add_assoc _ _ _))⟩)))
                                          repeat (go_quiet (first | (go_at_call 15; (with_reducible refine (pylonlaw06_clean.calls k4 (rdOf ByteArray.empty l0 x107_4) t250 _ A42.out).mono ?_); rintro e w' ⟨rfl, ⟨nd, rfl⟩⟩; (try first | exact ⟨rfl, _, World.drewN_drewN _ _ _⟩ | exact ⟨rfl, _, Eq.trans (World.drewN_drewN _ _ _) (congrArg (World.drewN _) (Nat.add_assoc _ _ _))⟩))); try go_wp2_with (first | (go_at_call 15; (with_reducible refine (pylonlaw06_clean.calls k4 (rdOf ByteArray.empty l0 x107_4) t250 _ A42.out).mono ?_); rintro e w' ⟨rfl, ⟨nd, rfl⟩⟩; (try first | exact ⟨rfl, _, World.drewN_drewN _ _ _⟩ | exact ⟨rfl, _, Eq.trans (World.drewN_drewN _ _ _) (congrArg (World.drewN _) (Nat.add_assoc _ _ _))⟩))))
                                          go_roundg k4
                                          case measure => have := HK1.out; have := HK2.out; have := HJ22.out; have := HK4.out; omega
                                          case rel => exact ⟨(wrap64 (x107_4 + 1)), (by first | rfl | (simp; done) | (simp [*]; done) | (simp [isEmpty_bne]; done) | (simp [isEmpty_beq]; done)), H', ⟨by have := HK1.out; have := HK2.out; have := HJ22.out; have := HK4.out; omega⟩, ⟨by (with_reducible repeat (first | apply Kd.R_alloc | apply Kd.R_drewN | apply Kd.R_drew)); exact HO_9.out⟩, ⟨by repeat (first | (with_reducible first | exact HB.out | apply below_alloc | apply pw_below_drewN | apply below_drew1) | exact HB.out)⟩⟩
                                        · rw [if_neg c43] at H
                                          have c43b0 : ((rdOf ByteArray.empty t238 x107_4).toList == t250.toList) = false := beq_eq_false_iff_ne.mpr c43
                                          have c43b1 : ((rdOf ByteArray.empty t238 x107_4).toList != t250.toList) = true := bne_iff_ne.mpr c43
                                          obtain rfl := Option.some.inj H
                                          obtain ⟨Ao45, co45, eo45⟩ := Kd.R_slice HO_9.out
                                          subst eo45
                                          have p248 : 0 ≤ (x107_4 : Int) := of_decide_eq_true (by first | (with_reducible assumption) | assumption)
                                          have q248 : x107_4 < (t238.length : Int) := of_decide_eq_true (by first | (with_reducible assumption) | assumption)
                                          obtain ⟨ad248, e248, hx248_0⟩ := Kd.at_string (Kd.R_reads' HO_9.out).2.2 x107_4 p248 q248
                                          cases e248
                                          replace p248 := eq_true p248
                                          replace q248 := eq_true q248
                                          have p249 : 0 ≤ (x107_4 : Int) := of_decide_eq_true (by first | (with_reducible assumption) | assumption)
                                          have q249 : x107_4 < (l0.length : Int) := of_decide_eq_true (by first | (with_reducible assumption) | assumption)
                                          obtain ⟨ad249, e249, hx249_0⟩ := Kd.at_string HR0.out x107_4 p249 q249
                                          cases e249
                                          replace hx249_0 := (HB.out.cell (World.block_lt_of_cell? w _ hx249_0)).trans hx249_0
                                          replace p249 := eq_true p249
                                          replace q249 := eq_true q249
                                          go_wp2_with (first | (go_at_call 15; (with_reducible refine (pylonlaw06_clean.calls k4 (rdOf ByteArray.empty l0 x107_4) t250 _ A42.out).mono ?_); rintro e w' ⟨rfl, ⟨nd, rfl⟩⟩; (try first | exact ⟨rfl, _, World.drewN_drewN _ _ _⟩ | exact ⟨rfl, _, Eq.trans (World.drewN_drewN _ _ _) (congrArg (World.drewN _) (Nat.add_assoc _ _ _))⟩)))
                                          repeat (go_quiet (first | (go_at_call 15; (with_reducible refine (pylonlaw06_clean.calls k4 (rdOf ByteArray.empty l0 x107_4) t250 _ A42.out).mono ?_); rintro e w' ⟨rfl, ⟨nd, rfl⟩⟩; (try first | exact ⟨rfl, _, World.drewN_drewN _ _ _⟩ | exact ⟨rfl, _, Eq.trans (World.drewN_drewN _ _ _) (congrArg (World.drewN _) (Nat.add_assoc _ _ _))⟩))); try go_wp2_with (first | (go_at_call 15; (with_reducible refine (pylonlaw06_clean.calls k4 (rdOf ByteArray.empty l0 x107_4) t250 _ A42.out).mono ?_); rintro e w' ⟨rfl, ⟨nd, rfl⟩⟩; (try first | exact ⟨rfl, _, World.drewN_drewN _ _ _⟩ | exact ⟨rfl, _, Eq.trans (World.drewN_drewN _ _ _) (congrArg (World.drewN _) (Nat.add_assoc _ _ _))⟩))))
                                          go_ret
                                          exact ⟨by first | rfl | (simp [errW_none, errW_some] <;> rfl) | (simp [*, errW_none, errW_some] <;> rfl), by repeat (first | (with_reducible first | exact HB.out | apply below_alloc | apply pw_below_drewN | apply below_drew1) | exact HB.out)⟩
                                      · rw [if_neg c41] at H
                                        exact absurd H (by simp)
                                    · rw [if_neg c40] at H
                                      exact absurd H (by simp)
                                  · rw [if_neg c39] at H
                                    exact absurd H (by simp)
                                · rw [if_neg c38] at H
                                  have c38b0 : decide (x107_4 < (l0.length : Int)) = false := decide_eq_false c38
                                  clear c38
                                  have H' := Aside0.mk H
                                  clear H
                                  go_wp2
                                  repeat (go_quiet (fail); try go_wp2)
                                  go_loopg [123] k4 (fun kq v123 w' => ∃ (x123_5 : Int), v123 = .int .i64 x123_5 ∧ Aside0 (pylonlaw06_ScanLines.l3 kq l0 l1 t238 (l1.length : Int) x123_5 = some r) ∧ Aside0 (kq ≤ k4) ∧ Aside0 (Kd.R Kd.string 9 w' w.heap.size (fun _ => True) v241 t238) ∧ Aside0 (Below w.heap.size w w'))
                                  case atStart => exact ⟨(0), (by first | rfl | (simp; done) | (simp [*]; done) | (simp [isEmpty_bne]; done) | (simp [isEmpty_beq]; done)), H', ⟨Nat.le_refl _⟩, ⟨by (with_reducible repeat (first | apply Kd.R_alloc | apply Kd.R_drewN | apply Kd.R_drew)); exact HO_9.out⟩, ⟨by repeat (first | (with_reducible first | exact HB.out | apply below_alloc | apply pw_below_drewN | apply below_drew1) | exact HB.out)⟩⟩
                                  case round =>
                                    clear H'
                                    try clear c1
                                    try clear c2
                                    try clear p2
                                    try clear q2
                                    try clear hx2
                                    try clear c3
                                    try clear c4
                                    try clear c6
                                    try clear c6b0
                                    try clear p6
                                    try clear c7
                                    try clear c7b0
                                    try clear c8
                                    try clear c8b0
                                    try clear c10
                                    try clear c10b0
                                    try clear c10b1
                                    try clear c10b2
                                    try clear c11
                                    try clear c11b0
                                    try clear c11b1
                                    try clear c11b2
                                    try clear c12
                                    try clear c12b0
                                    try clear c13
                                    try clear c13b0
                                    try clear c14
                                    try clear c14b0
                                    try clear c16
                                    try clear c16b0
                                    try clear c16b1
                                    try clear c16b2
                                    try clear c17
                                    try clear c17b0
                                    try clear c17b1
                                    try clear c17b2
                                    try clear c18
                                    try clear c18b0
                                    try clear c19
                                    try clear c19b0
                                    try clear c19b1
                                    try clear c19b2
                                    try clear c21
                                    try clear c21b0
                                    try clear c21b1
                                    try clear c21b2
                                    try clear p23
                                    try clear q23
                                    try clear hx23
                                    try clear p24
                                    try clear q24
                                    try clear hx24
                                    try clear c26
                                    try clear c26b0
                                    try clear c26b1
                                    try clear c27
                                    try clear c27b0
                                    try clear c27b1
                                    try clear c28
                                    try clear c28b0
                                    try clear c28b1
                                    try clear c29
                                    try clear c29b0
                                    try clear c29b1
                                    try clear c30
                                    try clear c30b0
                                    try clear c30b1
                                    try clear c30b2
                                    try clear c37
                                    try clear c38
                                    try clear c38b0
                                    try clear c39
                                    try clear c39b0
                                    try clear c40
                                    try clear c40b0
                                    try clear c41
                                    try clear c41b0
                                    try clear c43
                                    try clear c43b0
                                    try clear c43b1
                                    try clear hx234_0
                                    try clear hx236_0
                                    try clear hx248_0
                                    try clear hx249_0
                                    try clear p2
                                    try clear p23
                                    try clear p234
                                    try clear p236
                                    try clear p248
                                    try clear p249
                                    try clear p6
                                    try clear q2
                                    try clear q23
                                    try clear q234
                                    try clear q236
                                    try clear q248
                                    try clear q249
                                    obtain ⟨x123_5, rfl, HA, HK5, HO_9, HB⟩ := hrel
                                    cases gk with
                                    | zero => exact absurd HA.out (by simp [pylonlaw06_ScanLines.l3])
                                    | succ k5 =>
                                      have H := HA.out
                                      clear HA
                                      simp only [pylonlaw06_ScanLines.l3] at H
                                      by_cases c46 : x123_5 < (l1.length : Int)
                                      · rw [if_pos c46] at H
                                        have c46b0 : decide (x123_5 < (l1.length : Int)) = true := decide_eq_true c46
                                        clear c46
                                        obtain ⟨ji47, hji47⟩ : ∃ j_ : Int, (wrap64 ((l0.length : Int) + x123_5)) = j_ := ⟨_, rfl⟩
                                        replace H : (if 0 ≤ (ji47) then (if (ji47) < (t238.length : Int) then (if 0 ≤ x123_5 then (if x123_5 < (l1.length : Int) then ((pylonlaw06_clean.f k5 (rdOf ByteArray.empty l1 x123_5)).bind fun t253 => (if (rdOf ByteArray.empty t238 (ji47)).toList = t253.toList then (pylonlaw06_ScanLines.l3 k5 l0 l1 t238 (l1.length : Int) (wrap64 (x123_5 + 1))) else (some false))) else (none)) else (none)) else (none)) else (none)) = some r := by first | (rw [hji47] at H; exact H) | (simp only [hji47] at H ⊢; exact H)
                                        have hji47w : (IntKind.i64.wrap ((l0.length : Int) + x123_5)) = ji47 := (i64_w _).trans hji47
                                        by_cases c48 : 0 ≤ (ji47)
                                        · rw [if_pos c48] at H
                                          have c48b0 : decide (0 ≤ (ji47)) = true := decide_eq_true c48
                                          clear c48
                                          by_cases c49 : (ji47) < (t238.length : Int)
                                          · rw [if_pos c49] at H
                                            have c49b0 : decide ((ji47) < (t238.length : Int)) = true := decide_eq_true c49
                                            clear c49
                                            by_cases c50 : 0 ≤ x123_5
                                            · rw [if_pos c50] at H
                                              have c50b0 : decide (0 ≤ x123_5) = true := decide_eq_true c50
                                              clear c50
                                              by_cases c51 : x123_5 < (l1.length : Int)
                                              · rw [if_pos c51] at H
                                                have c51b0 : decide (x123_5 < (l1.length : Int)) = true := decide_eq_true c51
                                                clear c51
                                                replace H := Option.bind_eq_some_iff.mp H
                                                obtain ⟨t253, A520, H⟩ := H
                                                replace H : (if (rdOf ByteArray.empty t238 (ji47)).toList = t253.toList then (pylonlaw06_ScanLines.l3 k5 l0 l1 t238 (l1.length : Int) (wrap64 (x123_5 + 1))) else (some false)) = some r := H
                                                have A52 := Aside0.mk A520
                                                clear A520
                                                by_cases c53 : (rdOf ByteArray.empty t238 (ji47)).toList = t253.toList
                                                · rw [if_pos c53] at H
                                                  have c53b0 : ((rdOf ByteArray.empty t238 (ji47)).toList == t253.toList) = true := beq_iff_eq.mpr c53
                                                  have c53b1 : ((rdOf ByteArray.empty t238 (ji47)).toList != t253.toList) = false := bne_eq_false_iff_eq.mpr c53
                                                  clear c53
                                                  have H' := Aside0.mk H
                                                  clear H
                                                  obtain ⟨Ao54, co54, eo54⟩ := Kd.R_slice HO_9.out
                                                  subst eo54
                                                  have p251 : 0 ≤ ((ji47) : Int) := of_decide_eq_true (by first | (with_reducible assumption) | assumption)
                                                  have q251 : (ji47) < (t238.length : Int) := of_decide_eq_true (by first | (with_reducible assumption) | assumption)
                                                  obtain ⟨ad251, e251, hx251_0⟩ := Kd.at_string (Kd.R_reads' HO_9.out).2.2 (ji47) p251 q251
                                                  cases e251
                                                  replace p251 := eq_true p251
                                                  replace q251 := eq_true q251
                                                  have p252 : 0 ≤ (x123_5 : Int) := of_decide_eq_true (by first | (with_reducible assumption) | assumption)
                                                  have q252 : x123_5 < (l1.length : Int) := of_decide_eq_true (by first | (with_reducible assumption) | assumption)
                                                  obtain ⟨ad252, e252, hx252_0⟩ := Kd.at_string HR1.out x123_5 p252 q252
                                                  cases e252
                                                  replace hx252_0 := (HB.out.cell (World.block_lt_of_cell? w _ hx252_0)).trans hx252_0
                                                  replace p252 := eq_true p252
                                                  replace q252 := eq_true q252
                                                  go_wp2_with (first | (go_at_call 15; (with_reducible refine (pylonlaw06_clean.calls k5 (rdOf ByteArray.empty l1 x123_5) t253 _ A52.out).mono ?_); rintro e w' ⟨rfl, ⟨nd, rfl⟩⟩; (try first | exact ⟨rfl, _, World.drewN_drewN _ _ _⟩ | exact ⟨rfl, _, Eq.trans (World.drewN_drewN _ _ _) (congrArg (World.drewN _) (Nat.add_assoc _ _ _))⟩)))
                                                  repeat (go_quiet (first | (go_at_call 15; (with_reducible refine (pylonlaw06_clean.calls k5 (rdOf ByteArray.empty l1 x123_5) t253 _ A52.out).mono ?_); rintro e w' ⟨rfl, ⟨nd, rfl⟩⟩; (try first | exact ⟨rfl, _, World.drewN_drewN _ _ _⟩ | exact ⟨rfl, _, Eq.trans (World.drewN_drewN _ _ _) (congrArg (World.drewN _) (Nat.add_assoc _ _ _))⟩))); try go_wp2_with (first | (go_at_call 15; (with_reducible refine (pylonlaw06_clean.calls k5 (rdOf ByteArray.empty l1 x123_5) t253 _ A52.out).mono ?_); rintro e w' ⟨rfl, ⟨nd, rfl⟩⟩; (try first | exact ⟨rfl, _, World.drewN_drewN _ _ _⟩ | exact ⟨rfl, _, Eq.trans (World.drewN_drewN _ _ _) (congrArg (World.drewN _) (Nat.add_assoc _ _ _))⟩))))
                                                  go_roundg k5
                                                  case measure => have := HK1.out; have := HK2.out; have := HJ22.out; have := HK4.out; have := HK5.out; omega
                                                  case rel => exact ⟨(wrap64 (x123_5 + 1)), (by first | rfl | (simp; done) | (simp [*]; done) | (simp [isEmpty_bne]; done) | (simp [isEmpty_beq]; done)), H', ⟨by have := HK1.out; have := HK2.out; have := HJ22.out; have := HK4.out; have := HK5.out; omega⟩, ⟨by (with_reducible repeat (first | apply Kd.R_alloc | apply Kd.R_drewN | apply Kd.R_drew)); exact HO_9.out⟩, ⟨by repeat (first | (with_reducible first | exact HB.out | apply below_alloc | apply pw_below_drewN | apply below_drew1) | exact HB.out)⟩⟩
                                                · rw [if_neg c53] at H
                                                  have c53b0 : ((rdOf ByteArray.empty t238 (ji47)).toList == t253.toList) = false := beq_eq_false_iff_ne.mpr c53
                                                  have c53b1 : ((rdOf ByteArray.empty t238 (ji47)).toList != t253.toList) = true := bne_iff_ne.mpr c53
                                                  obtain rfl := Option.some.inj H
                                                  obtain ⟨Ao55, co55, eo55⟩ := Kd.R_slice HO_9.out
                                                  subst eo55
                                                  have p251 : 0 ≤ ((ji47) : Int) := of_decide_eq_true (by first | (with_reducible assumption) | assumption)
                                                  have q251 : (ji47) < (t238.length : Int) := of_decide_eq_true (by first | (with_reducible assumption) | assumption)
                                                  obtain ⟨ad251, e251, hx251_0⟩ := Kd.at_string (Kd.R_reads' HO_9.out).2.2 (ji47) p251 q251
                                                  cases e251
                                                  replace p251 := eq_true p251
                                                  replace q251 := eq_true q251
                                                  have p252 : 0 ≤ (x123_5 : Int) := of_decide_eq_true (by first | (with_reducible assumption) | assumption)
                                                  have q252 : x123_5 < (l1.length : Int) := of_decide_eq_true (by first | (with_reducible assumption) | assumption)
                                                  obtain ⟨ad252, e252, hx252_0⟩ := Kd.at_string HR1.out x123_5 p252 q252
                                                  cases e252
                                                  replace hx252_0 := (HB.out.cell (World.block_lt_of_cell? w _ hx252_0)).trans hx252_0
                                                  replace p252 := eq_true p252
                                                  replace q252 := eq_true q252
                                                  go_wp2_with (first | (go_at_call 15; (with_reducible refine (pylonlaw06_clean.calls k5 (rdOf ByteArray.empty l1 x123_5) t253 _ A52.out).mono ?_); rintro e w' ⟨rfl, ⟨nd, rfl⟩⟩; (try first | exact ⟨rfl, _, World.drewN_drewN _ _ _⟩ | exact ⟨rfl, _, Eq.trans (World.drewN_drewN _ _ _) (congrArg (World.drewN _) (Nat.add_assoc _ _ _))⟩)))
                                                  repeat (go_quiet (first | (go_at_call 15; (with_reducible refine (pylonlaw06_clean.calls k5 (rdOf ByteArray.empty l1 x123_5) t253 _ A52.out).mono ?_); rintro e w' ⟨rfl, ⟨nd, rfl⟩⟩; (try first | exact ⟨rfl, _, World.drewN_drewN _ _ _⟩ | exact ⟨rfl, _, Eq.trans (World.drewN_drewN _ _ _) (congrArg (World.drewN _) (Nat.add_assoc _ _ _))⟩))); try go_wp2_with (first | (go_at_call 15; (with_reducible refine (pylonlaw06_clean.calls k5 (rdOf ByteArray.empty l1 x123_5) t253 _ A52.out).mono ?_); rintro e w' ⟨rfl, ⟨nd, rfl⟩⟩; (try first | exact ⟨rfl, _, World.drewN_drewN _ _ _⟩ | exact ⟨rfl, _, Eq.trans (World.drewN_drewN _ _ _) (congrArg (World.drewN _) (Nat.add_assoc _ _ _))⟩))))
                                                  go_ret
                                                  exact ⟨by first | rfl | (simp [errW_none, errW_some] <;> rfl) | (simp only [← hji47]; first | rfl | (simp [errW_none, errW_some] <;> rfl)) | (simp [*, errW_none, errW_some] <;> rfl), by repeat (first | (with_reducible first | exact HB.out | apply below_alloc | apply pw_below_drewN | apply below_drew1) | exact HB.out)⟩
                                              · rw [if_neg c51] at H
                                                exact absurd H (by simp)
                                            · rw [if_neg c50] at H
                                              exact absurd H (by simp)
                                          · rw [if_neg c49] at H
                                            exact absurd H (by simp)
                                        · rw [if_neg c48] at H
                                          exact absurd H (by simp)
                                      · rw [if_neg c46] at H
                                        have c46b0 : decide (x123_5 < (l1.length : Int)) = false := decide_eq_false c46
                                        clear c46
                                        obtain rfl := Option.some.inj H
                                        go_wp2
                                        repeat (go_quiet (fail); try go_wp2)
                                        go_ret
                                        exact ⟨by first | rfl | (simp [errW_none, errW_some] <;> rfl) | (simp [*, errW_none, errW_some] <;> rfl), by repeat (first | (with_reducible first | exact HB.out | apply below_alloc | apply pw_below_drewN | apply below_drew1) | exact HB.out)⟩
                    · rw [if_neg c21] at H
                      exact absurd H (by simp)
                  · rw [if_neg c19] at H
                    exact absurd H (by simp)
  · replace c4 := Bool.eq_false_iff.mpr c4
    subst c4
    have H1 : (some false) = some r := by rw [if_neg (show ¬ (false = true) by decide)] at H; exact H
    clear H
    have H := H1
    clear H1
    obtain rfl := Option.some.inj H
    go_enter Try.func6, Try.ntmps6
    go_wp2_with (first | (go_at_call 7; (with_reducible refine (pylonlaw06_awake.calls k  false _ A3.out).mono ?_); rintro e w56 ⟨rfl, hb⟩; have n0_ := Aside0.mk (below_step (by repeat (first | (with_reducible first | exact HB.out | apply below_alloc | apply pw_below_drewN | apply below_drew1) | exact HB.out)) hb); clear HB; have HB := n0_; clear n0_; (try clear hb); (try clear hb2); (try clear hk); (try clear hi)))
    repeat (go_quiet (first | (go_at_call 7; (with_reducible refine (pylonlaw06_awake.calls k  false _ A3.out).mono ?_); rintro e w56 ⟨rfl, hb⟩; have n0_ := Aside0.mk (below_step (by repeat (first | (with_reducible first | exact HB.out | apply below_alloc | apply pw_below_drewN | apply below_drew1) | exact HB.out)) hb); clear HB; have HB := n0_; clear n0_; (try clear hb); (try clear hb2); (try clear hk); (try clear hi))); try go_wp2_with (first | (go_at_call 7; (with_reducible refine (pylonlaw06_awake.calls k  false _ A3.out).mono ?_); rintro e w56 ⟨rfl, hb⟩; have n0_ := Aside0.mk (below_step (by repeat (first | (with_reducible first | exact HB.out | apply below_alloc | apply pw_below_drewN | apply below_drew1) | exact HB.out)) hb); clear HB; have HB := n0_; clear n0_; (try clear hb); (try clear hb2); (try clear hk); (try clear hi))))
    go_ret
    exact ⟨by first | rfl | (simp [errW_none, errW_some] <;> rfl) | (simp [*, errW_none, errW_some] <;> rfl), by repeat (first | (with_reducible first | exact HB.out | apply below_alloc | apply pw_below_drewN | apply below_drew1) | exact HB.out)⟩

end Go.Proofs.Ytopgcofloldedaa.Pa
