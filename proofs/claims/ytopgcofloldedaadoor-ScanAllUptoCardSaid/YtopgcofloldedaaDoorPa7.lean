-- Written by mk.py (this repo's program), over the kit's printer: function by function, its Lean function and its contract.
import Derived.Test.YtopgcofloldedaaDoorMkf
import Derived.Test.YtopgcofloldedaaDoorPa0
import Derived.Test.YtopgcofloldedaaDoorPa1
import Derived.Test.YtopgcofloldedaaDoorPa3
import Derived.Test.YtopgcofloldedaaDoorPa6
namespace Go.Proofs.YtopgcofloldedaaDoor.Pa
open Go.RowKit Go.Proofs.YtopgcofloldedaaDoorW.PrintWords Go.Proofs.YtopgcofloldedaaDoorW.PrintLast Go.Proofs.YtopgcofloldedaaDoorW.PrintMore
attribute [local go_sem] max2_int min2_int max_two min_two max_three min_three max_four min_four   -- for this text's walks alone
set_option linter.unusedVariables false
set_option linter.unusedSimpArgs false

/-! ### pylonlaw06_ScanAll: function 5 -/
def pylonlaw06_ScanAll.l0 : Nat → List (S37) → Int → Int → Option (Bool)
  | 0, _, _, _ => none
  | k + 1, x0, x9, x10 => if x10 < x9 then (if 0 ≤ x10 then (if x10 < (x0.length : Int) then ((pylonlaw06_plays.f k ((rd_T37 x0 x10).f0) ((rd_T37 x0 x10).f1) ((rd_T37 x0 x10).f2) ((rd_T37 x0 x10).f3) ((rd_T37 x0 x10).f4)).bind fun bt207 => ((pylonlaw06_wants.f k ((rd_T37 x0 x10).f0) ((rd_T37 x0 x10).f1) ((rd_T37 x0 x10).f2) ((rd_T37 x0 x10).f3) ((rd_T37 x0 x10).f4)).bind fun bt218 => (if bt207.2.2.1 = bt218.2.2.1 then (if bt207.2.2.2.1 = bt218.2.2.2.1 then (if (bt207.2.2.2.2.1 != bt218.2.2.2.2.1) = true then (some false) else (if bt207.2.2.2.2.2 = bt218.2.2.2.2.2 then ((pylonref06_SameWords.f k bt207.1 bt218.1).bind fun t230 => (if t230 = true then ((pylonref15_SameInts.f k bt207.2.1 bt218.2.1).bind fun t231 => (if t231 = true then (pylonlaw06_ScanAll.l0 k x0 x9 (wrap64 (x10 + 1))) else (some false))) else (some false))) else (some false))) else (some false)) else (some false)))) else (none)) else (none)) else (some true)
def pylonlaw06_ScanAll.f (k : Nat) (l0 : List (S37)) : Option (Bool) := (pylonlaw06_awake.f k).bind fun t205 => (if t205 = true then (pylonlaw06_ScanAll.l0 k l0 (l0.length : Int) 0) else (some false))
theorem pylonlaw06_ScanAll.mono_l : ∀ k, (∀ y0 y1 y2, LeO (pylonlaw06_ScanAll.l0 k y0 y1 y2) (pylonlaw06_ScanAll.l0 (k + 1) y0 y1 y2))
  | 0 => fun _ _ _ r h => by simp [pylonlaw06_ScanAll.l0] at h
  | k + 1 => by
    have ih0 := pylonlaw06_ScanAll.mono_l k
    · intro y0 y1 y2
      unfold pylonlaw06_ScanAll.l0
      repeat' first
      | (with_reducible exact ih0 _ _ _)
      | (with_reducible exact pylonlaw06_awake.mono _)
      | (with_reducible exact pylonlaw06_plays.mono _ _ _ _ _ _)
      | (with_reducible exact pylonlaw06_wants.mono _ _ _ _ _ _)
      | (with_reducible exact pylonref06_SameWords.mono _ _ _)
      | (with_reducible exact pylonref15_SameInts.mono _ _ _)
      | (with_reducible exact LeO.refl _)
      | (with_reducible exact LeO.none _)
      | (with_reducible refine LeO.ite ?_ ?_)
      | (with_reducible refine LeO.bind ?_ (fun _ => ?_))
      | exact ih0 _ _ _
      | exact pylonlaw06_awake.mono _
      | exact pylonlaw06_plays.mono _ _ _ _ _ _
      | exact pylonlaw06_wants.mono _ _ _ _ _ _
      | exact pylonref06_SameWords.mono _ _ _
      | exact pylonref15_SameInts.mono _ _ _
      | exact LeO.none _
      | refine LeO.ite ?_ ?_
      | refine LeO.bind ?_ (fun _ => ?_)
theorem pylonlaw06_ScanAll.mono : ∀ a0 k, LeO (pylonlaw06_ScanAll.f k a0) (pylonlaw06_ScanAll.f (k + 1) a0) := by
  intro a0 k
  have ih0 := pylonlaw06_ScanAll.mono_l k
  unfold pylonlaw06_ScanAll.f
  repeat' first
      | (with_reducible exact ih0 _ _ _)
      | (with_reducible exact pylonlaw06_awake.mono _)
      | (with_reducible exact pylonlaw06_plays.mono _ _ _ _ _ _)
      | (with_reducible exact pylonlaw06_wants.mono _ _ _ _ _ _)
      | (with_reducible exact pylonref06_SameWords.mono _ _ _)
      | (with_reducible exact pylonref15_SameInts.mono _ _ _)
      | (with_reducible exact LeO.refl _)
      | (with_reducible exact LeO.none _)
      | (with_reducible refine LeO.ite ?_ ?_)
      | (with_reducible refine LeO.bind ?_ (fun _ => ?_))
      | exact ih0 _ _ _
      | exact pylonlaw06_awake.mono _
      | exact pylonlaw06_plays.mono _ _ _ _ _ _
      | exact pylonlaw06_wants.mono _ _ _ _ _ _
      | exact pylonref06_SameWords.mono _ _ _
      | exact pylonref15_SameInts.mono _ _ _
      | exact LeO.none _
      | refine LeO.ite ?_ ?_
      | refine LeO.bind ?_ (fun _ => ?_)
def pylonlaw06_ScanAll.T6 : Bool × List (List Nat × List Nat) := (true, [([], []), ([], []), ([0, 1], [0, 1]), ([2], [2]), ([3], [3]), ([], []), ([], []), ([5, 6], [5, 6]), ([7], [7]), ([8, 4], [8]), ([], []), ([], []), ([10, 4, 9, 0, 1, 2, 3, 4, 10, 11], [4, 10]), ([11, 9, 12, 0, 1, 2, 3, 4, 5, 6, 7, 8, 9, 10, 11, 12], [9, 11])])
def pylonlaw06_ScanAll.B6 : List Nat := [0, 0, 3, 7, 15, 0, 0, 96, 224, 511, 0, 0, 4095, 8191]
theorem pylonlaw06_ScanAll.tab6 : rtab .any (opsOf Tryd.f5 6) = pylonlaw06_ScanAll.T6 := by kernel_rfl
theorem pylonlaw06_ScanAll.bits6 : waitsOk pylonlaw06_ScanAll.T6.2 pylonlaw06_ScanAll.B6 = true := by kernel_rfl
set_option maxHeartbeats 8000000 in
set_option maxRecDepth 100000 in
theorem pylonlaw06_ScanAll.calls (k : Nat) (A0 : Option Addr) (c0 : Nat) (l0 : List (S37)) (r : Bool) (w : World) (hV : GInv w) (hr0 : Kd.C k37 w A0 l0.length l0) (hc0 : l0.length ≤ c0) (h : pylonlaw06_ScanAll.f k l0 = some r) :
    Calls Tryd.prog 5 #[.slice A0 l0.length c0] w fun e w' => e = .returned (.bool r) ∧ Below w.heap.size w w' := by
  have hu37 := Tryd.underlying37
  have hu34 := Tryd.underlying34
  have HR0 := Aside0.mk hr0
  have HC0 := Aside0.mk hc0
  clear hr0 hc0
  have HB := Aside0.mk (Below.refl w.heap.size w)
  have H : ((pylonlaw06_awake.f k).bind fun t205 => (if t205 = true then (pylonlaw06_ScanAll.l0 k l0 (l0.length : Int) 0) else (some false))) = some r := h
  clear h
  replace H := Option.bind_eq_some_iff.mp H
  obtain ⟨t205, A20, H⟩ := H
  replace H : (if t205 = true then (pylonlaw06_ScanAll.l0 k l0 (l0.length : Int) 0) else (some false)) = some r := H
  have A2 := Aside0.mk A20
  clear A20
  by_cases c3 : t205 = true
  · subst c3
    have H1 : (pylonlaw06_ScanAll.l0 k l0 (l0.length : Int) 0) = some r := by rw [if_pos rfl] at H; exact H
    clear H
    have H := H1
    clear H1
    have H' := Aside0.mk H
    clear H
    go_enter Tryd.func5, Tryd.ntmps5
    go_wp2_with (first | ((with_reducible refine gate_callee (f := 6) rfl ?_); refine goesL_ (some 6) rfl rfl Tryd.func6 (by kernel_rfl) rfl #[] rfl (by (try simp only [List.map_toArray, List.map_cons, List.map_nil]); first | done | rfl | (simp only [List.length_drop, List.length_take]; rfl)) ?_; (with_reducible refine (pylonlaw06_awake.calls k  true _ A2.out).mono ?_); rintro e w4 ⟨rfl, hb⟩; refine ⟨_, rfl, ?_⟩; have n0_ := Aside0.mk (below_step (by repeat (first | (with_reducible first | exact HB.out | apply below_alloc | apply pw_below_drewN | apply below_drew1) | exact HB.out)) hb); clear HB; have HB := n0_; clear n0_; (try clear hb); (try clear hb2); (try clear hk); (try clear hi)))
    go_loopg [10] k (fun kq v10 w' => ∃ (x10_1 : Int), v10 = .int .i64 x10_1 ∧ Aside0 (pylonlaw06_ScanAll.l0 kq l0 (l0.length : Int) x10_1 = some r) ∧ Aside0 (kq ≤ k) ∧ Aside0 (Below w.heap.size w w'))
    case atStart => exact ⟨(0), (by first | rfl | (simp; done) | (simp [*]; done) | (simp [isEmpty_bne]; done) | (simp [isEmpty_beq]; done)), H', ⟨Nat.le_refl _⟩, ⟨by repeat (first | (with_reducible first | exact HB.out | apply below_alloc | apply pw_below_drewN | apply below_drew1) | exact HB.out)⟩⟩
    case round =>
      clear H'
      try clear p2
      try clear c3
      obtain ⟨x10_1, rfl, HA, HK1, HB⟩ := hrel
      cases gk with
      | zero => exact absurd HA.out (by simp [pylonlaw06_ScanAll.l0])
      | succ k1 =>
        have H := HA.out
        clear HA
        simp only [pylonlaw06_ScanAll.l0] at H
        by_cases c5 : x10_1 < (l0.length : Int)
        · rw [if_pos c5] at H
          have c5b0 : decide (x10_1 < (l0.length : Int)) = true := decide_eq_true c5
          clear c5
          by_cases c6 : 0 ≤ x10_1
          · rw [if_pos c6] at H
            have c6b0 : decide (0 ≤ x10_1) = true := decide_eq_true c6
            clear c6
            by_cases c7 : x10_1 < (l0.length : Int)
            · rw [if_pos c7] at H
              have c7b0 : decide (x10_1 < (l0.length : Int)) = true := decide_eq_true c7
              clear c7
              replace H := Option.bind_eq_some_iff.mp H
              obtain ⟨⟨t207, t210, t213, t214, t215, t216⟩, A80, H⟩ := H
              replace H : ((pylonlaw06_wants.f k1 ((rd_T37 l0 x10_1).f0) ((rd_T37 l0 x10_1).f1) ((rd_T37 l0 x10_1).f2) ((rd_T37 l0 x10_1).f3) ((rd_T37 l0 x10_1).f4)).bind fun bt218 => (if t213 = bt218.2.2.1 then (if t214 = bt218.2.2.2.1 then (if (t215 != bt218.2.2.2.2.1) = true then (some false) else (if t216 = bt218.2.2.2.2.2 then ((pylonref06_SameWords.f k1 t207 bt218.1).bind fun t230 => (if t230 = true then ((pylonref15_SameInts.f k1 t210 bt218.2.1).bind fun t231 => (if t231 = true then (pylonlaw06_ScanAll.l0 k1 l0 (l0.length : Int) (wrap64 (x10_1 + 1))) else (some false))) else (some false))) else (some false))) else (some false)) else (some false))) = some r := H
              have A8 := Aside0.mk A80
              clear A80
              replace H := Option.bind_eq_some_iff.mp H
              obtain ⟨⟨t218, t221, t224, t225, t226, t227⟩, A90, H⟩ := H
              replace H : (if t213 = t224 then (if t214 = t225 then (if (t215 != t226) = true then (some false) else (if t216 = t227 then ((pylonref06_SameWords.f k1 t207 t218).bind fun t230 => (if t230 = true then ((pylonref15_SameInts.f k1 t210 t221).bind fun t231 => (if t231 = true then (pylonlaw06_ScanAll.l0 k1 l0 (l0.length : Int) (wrap64 (x10_1 + 1))) else (some false))) else (some false))) else (some false))) else (some false)) else (some false)) = some r := H
              have A9 := Aside0.mk A90
              clear A90
              have HZ_ := Aside0.mk H
              clear H
              try go_wp2
              have n0_ := Aside0.mk (below_drew1 HB.out)
              clear HB
              have HB := n0_
              clear n0_
              have p206 : 0 ≤ (x10_1 : Int) := of_decide_eq_true (by first | (with_reducible assumption) | assumption)
              have q206 : x10_1 < (l0.length : Int) := of_decide_eq_true (by first | (with_reducible assumption) | assumption)
              obtain ⟨ad206, A206_2, c206_2, e206, hx206_0, hx206_1, hx206_2, hx206_3, hx206_4, hl206_2, hi206_2⟩ := at_T37 HR0.out x10_1 p206 q206
              have hw206_4 := hx206_4
              have hw206_3 := hx206_3
              have hw206_2 := hx206_2
              have hw206_1 := hx206_1
              have hw206_0 := hx206_0
              cases e206
              replace hx206_0 := (HB.out.cell (World.block_lt_of_cell? w _ hx206_0)).trans hx206_0
              replace hx206_1 := (HB.out.cell (World.block_lt_of_cell? w _ hx206_1)).trans hx206_1
              replace hx206_2 := (HB.out.cell (World.block_lt_of_cell? w _ hx206_2)).trans hx206_2
              replace hx206_3 := (HB.out.cell (World.block_lt_of_cell? w _ hx206_3)).trans hx206_3
              replace hx206_4 := (HB.out.cell (World.block_lt_of_cell? w _ hx206_4)).trans hx206_4
              have HR206_2 := Aside0.mk hi206_2
              have HC206_2 := Aside0.mk hl206_2
              clear hi206_2 hl206_2
              replace p206 := eq_true p206
              replace q206 := eq_true q206
              have p217 : 0 ≤ (x10_1 : Int) := of_decide_eq_true (by first | (with_reducible assumption) | assumption)
              have q217 : x10_1 < (l0.length : Int) := of_decide_eq_true (by first | (with_reducible assumption) | assumption)
              obtain ⟨ad217, A217_2, c217_2, e217, hx217_0, hx217_1, hx217_2, hx217_3, hx217_4, hl217_2, hi217_2⟩ := at_T37 HR0.out x10_1 p217 q217
              have hw217_4 := hx217_4
              have hw217_3 := hx217_3
              have hw217_2 := hx217_2
              have hw217_1 := hx217_1
              have hw217_0 := hx217_0
              obtain rfl : ad206 = ad217 := (by injection e217)
              replace hx217_0 := (HB.out.cell (World.block_lt_of_cell? w _ hx217_0)).trans hx217_0
              replace hx217_1 := (HB.out.cell (World.block_lt_of_cell? w _ hx217_1)).trans hx217_1
              replace hx217_2 := (HB.out.cell (World.block_lt_of_cell? w _ hx217_2)).trans hx217_2
              replace hx217_3 := (HB.out.cell (World.block_lt_of_cell? w _ hx217_3)).trans hx217_3
              replace hx217_4 := (HB.out.cell (World.block_lt_of_cell? w _ hx217_4)).trans hx217_4
              have HR217_2 := Aside0.mk hi217_2
              have HC217_2 := Aside0.mk hl217_2
              clear hi217_2 hl217_2
              replace p217 := eq_true p217
              replace q217 := eq_true q217
              have ea_ := Option.some.inj (hx206_2.symm.trans hx217_2)
              injection ea_ with ea_ en_ ec_
              subst ea_
              subst ec_
              clear en_
              refine start_ (n := 14) (S := fun w' => w'.cell? (ad206.add ((x10_1).toNat * 5)) = some (.int .i64 ((rd_T37 l0 x10_1).f0)) ∧ w'.cell? ⟨(ad206.add ((x10_1).toNat * 5)).block, (ad206.add ((x10_1).toNat * 5)).off + 1, none⟩ = some (.string ((rd_T37 l0 x10_1).f1)) ∧ w'.cell? ⟨(ad206.add ((x10_1).toNat * 5)).block, (ad206.add ((x10_1).toNat * 5)).off + 2, none⟩ = some (.slice A206_2 ((rd_T37 l0 x10_1).f2).length c206_2) ∧ w'.cell? ⟨(ad206.add ((x10_1).toNat * 5)).block, (ad206.add ((x10_1).toNat * 5)).off + 3, none⟩ = some (.int .i64 ((rd_T37 l0 x10_1).f3)) ∧ w'.cell? ⟨(ad206.add ((x10_1).toNat * 5)).block, (ad206.add ((x10_1).toNat * 5)).off + 4, none⟩ = some (.int .i64 ((rd_T37 l0 x10_1).f4)) ∧ w'.cell? (ad206.add ((x10_1).toNat * 5)) = some (.int .i64 ((rd_T37 l0 x10_1).f0)) ∧ w'.cell? ⟨(ad206.add ((x10_1).toNat * 5)).block, (ad206.add ((x10_1).toNat * 5)).off + 1, none⟩ = some (.string ((rd_T37 l0 x10_1).f1)) ∧ w'.cell? ⟨(ad206.add ((x10_1).toNat * 5)).block, (ad206.add ((x10_1).toNat * 5)).off + 2, none⟩ = some (.slice A206_2 ((rd_T37 l0 x10_1).f2).length c206_2) ∧ w'.cell? ⟨(ad206.add ((x10_1).toNat * 5)).block, (ad206.add ((x10_1).toNat * 5)).off + 3, none⟩ = some (.int .i64 ((rd_T37 l0 x10_1).f3)) ∧ w'.cell? ⟨(ad206.add ((x10_1).toNat * 5)).block, (ad206.add ((x10_1).toNat * 5)).off + 4, none⟩ = some (.int .i64 ((rd_T37 l0 x10_1).f4))) (ds := []) #[false, false, false, false, false, false, false, false, false, false, false, false, false, false] (by kernel_rfl) rfl rfl ⟨((HB.out.cell (World.block_lt_of_cell? w _ hw206_0)).trans hw206_0), ((HB.out.cell (World.block_lt_of_cell? w _ hw206_1)).trans hw206_1), ((HB.out.cell (World.block_lt_of_cell? w _ hw206_2)).trans hw206_2), ((HB.out.cell (World.block_lt_of_cell? w _ hw206_3)).trans hw206_3), ((HB.out.cell (World.block_lt_of_cell? w _ hw206_4)).trans hw206_4), ((HB.out.cell (World.block_lt_of_cell? w _ hw217_0)).trans hw217_0), ((HB.out.cell (World.block_lt_of_cell? w _ hw217_1)).trans hw217_1), ((HB.out.cell (World.block_lt_of_cell? w _ hw217_2)).trans hw217_2), ((HB.out.cell (World.block_lt_of_cell? w _ hw217_3)).trans hw217_3), ((HB.out.cell (World.block_lt_of_cell? w _ hw217_4)).trans hw217_4)⟩ (fun hHeld => ?_); refine with_tabW pylonlaw06_ScanAll.tab6 pylonlaw06_ScanAll.bits6 (fun HT_ HW_ => ?_)
              generalize wr.drew = w13 at HB HR206_2 HR217_2 hx206_0 hx206_1 hx206_2 hx206_3 hx206_4 hx217_0 hx217_1 hx217_2 hx217_3 hx217_4 hHeld ⊢
              refine pure_ (i := 0) (N := some 13) (v := ?_) (a' := ?_) #[true, false, false, false, false, false, false, false, false, false, false, false, false, false] rfl rfl (any_of HT_.out (by kernel_rfl)) (fun _ _ _ h => h) (Or.inl ⟨by rfl, ?_⟩) ?_ ?_
              rotate_left
              · intro w'
                go_simp
                with_reducible rfl
              rotate_left
              · simp only [Act.put, List.setIfInBounds_toArray, List.set_cons_zero, List.set_cons_succ, i64_w, i32_w]
                rfl
              refine pure_ (i := 1) (N := some 14) (v := ?_) (a' := ?_) #[true, true, false, false, false, false, false, false, false, false, false, false, false, false] rfl rfl (any_of HT_.out (by kernel_rfl)) (fun _ _ _ h => h) (Or.inl ⟨by rfl, ?_⟩) ?_ ?_
              rotate_left
              · intro w'
                go_simp
                with_reducible rfl
              rotate_left
              · simp only [Act.put, List.setIfInBounds_toArray, List.set_cons_zero, List.set_cons_succ, i64_w, i32_w]
                rfl
              refine pure_ (i := 2) (N := some 15) (v := ?_) (a' := ?_) #[true, true, true, false, false, false, false, false, false, false, false, false, false, false] rfl rfl (any_of HT_.out (by kernel_rfl)) (fun _ _ _ h => h) (Or.inl ⟨by rfl, ?_⟩) ?_ ?_
              rotate_left
              · intro w'
                go_simp
                with_reducible rfl
              rotate_left
              · simp only [Act.put, List.setIfInBounds_toArray, List.set_cons_zero, List.set_cons_succ, i64_w, i32_w]
                rfl
              refine pure_ (i := 5) (N := some 18) (v := ?_) (a' := ?_) #[true, true, true, false, false, true, false, false, false, false, false, false, false, false] rfl rfl (any_of HT_.out (by kernel_rfl)) (fun _ _ _ h => h) (Or.inl ⟨by rfl, ?_⟩) ?_ ?_
              rotate_left
              · intro w'
                go_simp
                with_reducible rfl
              rotate_left
              · simp only [Act.put, List.setIfInBounds_toArray, List.set_cons_zero, List.set_cons_succ, i64_w, i32_w]
                rfl
              refine pure_ (i := 6) (N := some 19) (v := ?_) (a' := ?_) #[true, true, true, false, false, true, true, false, false, false, false, false, false, false] rfl rfl (any_of HT_.out (by kernel_rfl)) (fun _ _ _ h => h) (Or.inl ⟨by rfl, ?_⟩) ?_ ?_
              rotate_left
              · intro w'
                go_simp
                with_reducible rfl
              rotate_left
              · simp only [Act.put, List.setIfInBounds_toArray, List.set_cons_zero, List.set_cons_succ, i64_w, i32_w]
                rfl
              refine pure_ (i := 7) (N := some 20) (v := ?_) (a' := ?_) #[true, true, true, false, false, true, true, true, false, false, false, false, false, false] rfl rfl (any_of HT_.out (by kernel_rfl)) (fun _ _ _ h => h) (Or.inl ⟨by rfl, ?_⟩) ?_ ?_
              rotate_left
              · intro w'
                go_simp
                with_reducible rfl
              rotate_left
              · simp only [Act.put, List.setIfInBounds_toArray, List.set_cons_zero, List.set_cons_succ, i64_w, i32_w]
                rfl
              refine take_ (i := 3) (N := some 16) (v := ?_) (a' := ?_) #[true, true, true, true, false, true, true, true, false, false, false, false, false, false] rfl rfl (take_ofW HT_.out HW_.out (by kernel_rfl)) (fun _ _ _ h => h) (Or.inl ⟨by rfl, ?_⟩) hHeld ?_ ?_
              rotate_left
              · rintro w' ⟨s0, s1, s2, s3, s4, s5, s6, s7, s8, s9⟩
                go_simp
                with_reducible rfl
              rotate_left
              · simp only [Act.put, List.setIfInBounds_toArray, List.set_cons_zero, List.set_cons_succ, i64_w, i32_w]
                rfl
              refine take_ (i := 8) (N := some 21) (v := ?_) (a' := ?_) #[true, true, true, true, false, true, true, true, true, false, false, false, false, false] rfl rfl (take_ofW HT_.out HW_.out (by kernel_rfl)) (fun _ _ _ h => h) (Or.inl ⟨by rfl, ?_⟩) hHeld ?_ ?_
              rotate_left
              · rintro w' ⟨s0, s1, s2, s3, s4, s5, s6, s7, s8, s9⟩
                go_simp
                with_reducible rfl
              rotate_left
              · simp only [Act.put, List.setIfInBounds_toArray, List.set_cons_zero, List.set_cons_succ, i64_w, i32_w]
                rfl
              refine join_ (σ := Value × Value × Value × Value × Nat × Nat) 2 #[true, true, true, true, true, true, true, true, true, true, true, true, false, false] (fun s_ => [(17, .agg #[s_.1, s_.2.1, .int .i64 t213, .int .i64 t214, .bool t215, .int .i64 t216]), (22, .agg #[s_.2.2.1, s_.2.2.2.1, .int .i64 t224, .int .i64 t225, .bool t226, .int .i64 t227]), (4, .pointer (some ⟨s_.2.2.2.2.1, 0, none⟩)), (5, .pointer (some ⟨s_.2.2.2.2.2, 0, none⟩))]) (fun s_ w' => (w'.cell? (ad206.add ((x10_1).toNat * 5)) = some (.int .i64 ((rd_T37 l0 x10_1).f0)) ∧ w'.cell? ⟨(ad206.add ((x10_1).toNat * 5)).block, (ad206.add ((x10_1).toNat * 5)).off + 1, none⟩ = some (.string ((rd_T37 l0 x10_1).f1)) ∧ w'.cell? ⟨(ad206.add ((x10_1).toNat * 5)).block, (ad206.add ((x10_1).toNat * 5)).off + 2, none⟩ = some (.slice A206_2 ((rd_T37 l0 x10_1).f2).length c206_2) ∧ w'.cell? ⟨(ad206.add ((x10_1).toNat * 5)).block, (ad206.add ((x10_1).toNat * 5)).off + 3, none⟩ = some (.int .i64 ((rd_T37 l0 x10_1).f3)) ∧ w'.cell? ⟨(ad206.add ((x10_1).toNat * 5)).block, (ad206.add ((x10_1).toNat * 5)).off + 4, none⟩ = some (.int .i64 ((rd_T37 l0 x10_1).f4)) ∧ w'.cell? (ad206.add ((x10_1).toNat * 5)) = some (.int .i64 ((rd_T37 l0 x10_1).f0)) ∧ w'.cell? ⟨(ad206.add ((x10_1).toNat * 5)).block, (ad206.add ((x10_1).toNat * 5)).off + 1, none⟩ = some (.string ((rd_T37 l0 x10_1).f1)) ∧ w'.cell? ⟨(ad206.add ((x10_1).toNat * 5)).block, (ad206.add ((x10_1).toNat * 5)).off + 2, none⟩ = some (.slice A206_2 ((rd_T37 l0 x10_1).f2).length c206_2) ∧ w'.cell? ⟨(ad206.add ((x10_1).toNat * 5)).block, (ad206.add ((x10_1).toNat * 5)).off + 3, none⟩ = some (.int .i64 ((rd_T37 l0 x10_1).f3)) ∧ w'.cell? ⟨(ad206.add ((x10_1).toNat * 5)).block, (ad206.add ((x10_1).toNat * 5)).off + 4, none⟩ = some (.int .i64 ((rd_T37 l0 x10_1).f4))) ∧ (Kd.R Kd.string 9 w' w.heap.size (fun k_ => some k_ ≠ (s_.2.2.1 : Value).ownBlock) s_.1 t207) ∧ (Kd.R (Kd.int .i64) 3 w' w.heap.size (fun k_ => some k_ ≠ (s_.2.2.2.1 : Value).ownBlock) s_.2.1 t210) ∧ (Kd.R Kd.string 9 w' w.heap.size (fun k_ => some k_ ≠ (s_.1 : Value).ownBlock) s_.2.2.1 t218) ∧ (Kd.R (Kd.int .i64) 3 w' w.heap.size (fun k_ => some k_ ≠ (s_.2.1 : Value).ownBlock) s_.2.2.2.1 t221) ∧ (w'.heap[s_.2.2.2.2.1]? = some (.cells #[.slice none 0 0, .slice none 0 0, .int .i64 0, .int .i64 0, .bool false, .int .i64 0] 34 (0, 0))) ∧ (w'.heap[s_.2.2.2.2.2]? = some (.cells #[.slice none 0 0, .slice none 0 0, .int .i64 0, .int .i64 0, .bool false, .int .i64 0] 34 (0, 0))) ∧ (w.heap.size ≤ s_.2.2.2.2.1) ∧ (w.heap.size ≤ s_.2.2.2.2.1) ∧ (s_.2.2.2.2.2 ≠ s_.2.2.2.2.1) ∧ (s_.2.2.2.2.1 ≠ s_.2.2.2.2.2) ∧ (w.heap.size ≤ s_.2.2.2.2.2) ∧ (w.heap.size ≤ s_.2.2.2.2.2) ∧ (Below w.heap.size w w')) ?_ ?_
              rotate_left
              · intro hJ4_9_10_11
                refine join_ (σ := Value × Value × Value × Value × Nat) 3 #[true, true, true, true, true, true, true, true, true, true, true, false, false, false] (fun s_ => [(17, .agg #[s_.1, s_.2.1, .int .i64 t213, .int .i64 t214, .bool t215, .int .i64 t216]), (22, .agg #[s_.2.2.1, s_.2.2.2.1, .int .i64 t224, .int .i64 t225, .bool t226, .int .i64 t227]), (4, .pointer (some ⟨s_.2.2.2.2, 0, none⟩))]) (fun s_ w' => (w'.cell? (ad206.add ((x10_1).toNat * 5)) = some (.int .i64 ((rd_T37 l0 x10_1).f0)) ∧ w'.cell? ⟨(ad206.add ((x10_1).toNat * 5)).block, (ad206.add ((x10_1).toNat * 5)).off + 1, none⟩ = some (.string ((rd_T37 l0 x10_1).f1)) ∧ w'.cell? ⟨(ad206.add ((x10_1).toNat * 5)).block, (ad206.add ((x10_1).toNat * 5)).off + 2, none⟩ = some (.slice A206_2 ((rd_T37 l0 x10_1).f2).length c206_2) ∧ w'.cell? ⟨(ad206.add ((x10_1).toNat * 5)).block, (ad206.add ((x10_1).toNat * 5)).off + 3, none⟩ = some (.int .i64 ((rd_T37 l0 x10_1).f3)) ∧ w'.cell? ⟨(ad206.add ((x10_1).toNat * 5)).block, (ad206.add ((x10_1).toNat * 5)).off + 4, none⟩ = some (.int .i64 ((rd_T37 l0 x10_1).f4)) ∧ w'.cell? (ad206.add ((x10_1).toNat * 5)) = some (.int .i64 ((rd_T37 l0 x10_1).f0)) ∧ w'.cell? ⟨(ad206.add ((x10_1).toNat * 5)).block, (ad206.add ((x10_1).toNat * 5)).off + 1, none⟩ = some (.string ((rd_T37 l0 x10_1).f1)) ∧ w'.cell? ⟨(ad206.add ((x10_1).toNat * 5)).block, (ad206.add ((x10_1).toNat * 5)).off + 2, none⟩ = some (.slice A206_2 ((rd_T37 l0 x10_1).f2).length c206_2) ∧ w'.cell? ⟨(ad206.add ((x10_1).toNat * 5)).block, (ad206.add ((x10_1).toNat * 5)).off + 3, none⟩ = some (.int .i64 ((rd_T37 l0 x10_1).f3)) ∧ w'.cell? ⟨(ad206.add ((x10_1).toNat * 5)).block, (ad206.add ((x10_1).toNat * 5)).off + 4, none⟩ = some (.int .i64 ((rd_T37 l0 x10_1).f4))) ∧ (Kd.R Kd.string 9 w' w.heap.size (fun k_ => some k_ ≠ (s_.2.2.1 : Value).ownBlock) s_.1 t207) ∧ (Kd.R (Kd.int .i64) 3 w' w.heap.size (fun k_ => some k_ ≠ (s_.2.2.2.1 : Value).ownBlock) s_.2.1 t210) ∧ (Kd.R Kd.string 9 w' w.heap.size (fun k_ => some k_ ≠ (s_.1 : Value).ownBlock) s_.2.2.1 t218) ∧ (Kd.R (Kd.int .i64) 3 w' w.heap.size (fun k_ => some k_ ≠ (s_.2.1 : Value).ownBlock) s_.2.2.2.1 t221) ∧ (w'.heap[s_.2.2.2.2]? = some (.cells #[.slice none 0 0, .slice none 0 0, .int .i64 0, .int .i64 0, .bool false, .int .i64 0] 34 (0, 0))) ∧ (w.heap.size ≤ s_.2.2.2.2) ∧ (w.heap.size ≤ s_.2.2.2.2) ∧ (Below w.heap.size w w')) ?_ ?_
                rotate_left
                · intro hJ4_9_10
                  refine join_ (σ := Value × Value × Value × Value × Nat) 3 #[true, true, true, true, true, true, true, true, true, true, false, true, false, false] (fun s_ => [(17, .agg #[s_.1, s_.2.1, .int .i64 t213, .int .i64 t214, .bool t215, .int .i64 t216]), (22, .agg #[s_.2.2.1, s_.2.2.2.1, .int .i64 t224, .int .i64 t225, .bool t226, .int .i64 t227]), (5, .pointer (some ⟨s_.2.2.2.2, 0, none⟩))]) (fun s_ w' => (w'.cell? (ad206.add ((x10_1).toNat * 5)) = some (.int .i64 ((rd_T37 l0 x10_1).f0)) ∧ w'.cell? ⟨(ad206.add ((x10_1).toNat * 5)).block, (ad206.add ((x10_1).toNat * 5)).off + 1, none⟩ = some (.string ((rd_T37 l0 x10_1).f1)) ∧ w'.cell? ⟨(ad206.add ((x10_1).toNat * 5)).block, (ad206.add ((x10_1).toNat * 5)).off + 2, none⟩ = some (.slice A206_2 ((rd_T37 l0 x10_1).f2).length c206_2) ∧ w'.cell? ⟨(ad206.add ((x10_1).toNat * 5)).block, (ad206.add ((x10_1).toNat * 5)).off + 3, none⟩ = some (.int .i64 ((rd_T37 l0 x10_1).f3)) ∧ w'.cell? ⟨(ad206.add ((x10_1).toNat * 5)).block, (ad206.add ((x10_1).toNat * 5)).off + 4, none⟩ = some (.int .i64 ((rd_T37 l0 x10_1).f4)) ∧ w'.cell? (ad206.add ((x10_1).toNat * 5)) = some (.int .i64 ((rd_T37 l0 x10_1).f0)) ∧ w'.cell? ⟨(ad206.add ((x10_1).toNat * 5)).block, (ad206.add ((x10_1).toNat * 5)).off + 1, none⟩ = some (.string ((rd_T37 l0 x10_1).f1)) ∧ w'.cell? ⟨(ad206.add ((x10_1).toNat * 5)).block, (ad206.add ((x10_1).toNat * 5)).off + 2, none⟩ = some (.slice A206_2 ((rd_T37 l0 x10_1).f2).length c206_2) ∧ w'.cell? ⟨(ad206.add ((x10_1).toNat * 5)).block, (ad206.add ((x10_1).toNat * 5)).off + 3, none⟩ = some (.int .i64 ((rd_T37 l0 x10_1).f3)) ∧ w'.cell? ⟨(ad206.add ((x10_1).toNat * 5)).block, (ad206.add ((x10_1).toNat * 5)).off + 4, none⟩ = some (.int .i64 ((rd_T37 l0 x10_1).f4))) ∧ (Kd.R Kd.string 9 w' w.heap.size (fun k_ => some k_ ≠ (s_.2.2.1 : Value).ownBlock) s_.1 t207) ∧ (Kd.R (Kd.int .i64) 3 w' w.heap.size (fun k_ => some k_ ≠ (s_.2.2.2.1 : Value).ownBlock) s_.2.1 t210) ∧ (Kd.R Kd.string 9 w' w.heap.size (fun k_ => some k_ ≠ (s_.1 : Value).ownBlock) s_.2.2.1 t218) ∧ (Kd.R (Kd.int .i64) 3 w' w.heap.size (fun k_ => some k_ ≠ (s_.2.1 : Value).ownBlock) s_.2.2.2.1 t221) ∧ (w'.heap[s_.2.2.2.2]? = some (.cells #[.slice none 0 0, .slice none 0 0, .int .i64 0, .int .i64 0, .bool false, .int .i64 0] 34 (0, 0))) ∧ (w.heap.size ≤ s_.2.2.2.2) ∧ (w.heap.size ≤ s_.2.2.2.2) ∧ (Below w.heap.size w w')) ?_ ?_
                  rotate_left
                  · intro hJ4_9_11
                    refine join_ (σ := Value × Value × Nat × Nat) 3 #[true, true, true, true, true, true, true, true, true, false, true, true, false, false] (fun s_ => [(17, .agg #[s_.1, s_.2.1, .int .i64 t213, .int .i64 t214, .bool t215, .int .i64 t216]), (4, .pointer (some ⟨s_.2.2.1, 0, none⟩)), (5, .pointer (some ⟨s_.2.2.2, 0, none⟩))]) (fun s_ w' => (w'.cell? (ad206.add ((x10_1).toNat * 5)) = some (.int .i64 ((rd_T37 l0 x10_1).f0)) ∧ w'.cell? ⟨(ad206.add ((x10_1).toNat * 5)).block, (ad206.add ((x10_1).toNat * 5)).off + 1, none⟩ = some (.string ((rd_T37 l0 x10_1).f1)) ∧ w'.cell? ⟨(ad206.add ((x10_1).toNat * 5)).block, (ad206.add ((x10_1).toNat * 5)).off + 2, none⟩ = some (.slice A206_2 ((rd_T37 l0 x10_1).f2).length c206_2) ∧ w'.cell? ⟨(ad206.add ((x10_1).toNat * 5)).block, (ad206.add ((x10_1).toNat * 5)).off + 3, none⟩ = some (.int .i64 ((rd_T37 l0 x10_1).f3)) ∧ w'.cell? ⟨(ad206.add ((x10_1).toNat * 5)).block, (ad206.add ((x10_1).toNat * 5)).off + 4, none⟩ = some (.int .i64 ((rd_T37 l0 x10_1).f4)) ∧ w'.cell? (ad206.add ((x10_1).toNat * 5)) = some (.int .i64 ((rd_T37 l0 x10_1).f0)) ∧ w'.cell? ⟨(ad206.add ((x10_1).toNat * 5)).block, (ad206.add ((x10_1).toNat * 5)).off + 1, none⟩ = some (.string ((rd_T37 l0 x10_1).f1)) ∧ w'.cell? ⟨(ad206.add ((x10_1).toNat * 5)).block, (ad206.add ((x10_1).toNat * 5)).off + 2, none⟩ = some (.slice A206_2 ((rd_T37 l0 x10_1).f2).length c206_2) ∧ w'.cell? ⟨(ad206.add ((x10_1).toNat * 5)).block, (ad206.add ((x10_1).toNat * 5)).off + 3, none⟩ = some (.int .i64 ((rd_T37 l0 x10_1).f3)) ∧ w'.cell? ⟨(ad206.add ((x10_1).toNat * 5)).block, (ad206.add ((x10_1).toNat * 5)).off + 4, none⟩ = some (.int .i64 ((rd_T37 l0 x10_1).f4))) ∧ (Kd.R Kd.string 9 w' w.heap.size (fun _ => True) s_.1 t207) ∧ (Kd.R (Kd.int .i64) 3 w' w.heap.size (fun _ => True) s_.2.1 t210) ∧ (w'.heap[s_.2.2.1]? = some (.cells #[.slice none 0 0, .slice none 0 0, .int .i64 0, .int .i64 0, .bool false, .int .i64 0] 34 (0, 0))) ∧ (w'.heap[s_.2.2.2]? = some (.cells #[.slice none 0 0, .slice none 0 0, .int .i64 0, .int .i64 0, .bool false, .int .i64 0] 34 (0, 0))) ∧ (w.heap.size ≤ s_.2.2.1) ∧ (w.heap.size ≤ s_.2.2.1) ∧ (s_.2.2.2 ≠ s_.2.2.1) ∧ (s_.2.2.1 ≠ s_.2.2.2) ∧ (w.heap.size ≤ s_.2.2.2) ∧ (w.heap.size ≤ s_.2.2.2) ∧ (Below w.heap.size w w')) ?_ ?_
                    rotate_left
                    · intro hJ4_10_11
                      refine join_ (σ := Value × Value × Value × Value) 4 #[true, true, true, true, true, true, true, true, true, true, false, false, false, false] (fun s_ => [(17, .agg #[s_.1, s_.2.1, .int .i64 t213, .int .i64 t214, .bool t215, .int .i64 t216]), (22, .agg #[s_.2.2.1, s_.2.2.2, .int .i64 t224, .int .i64 t225, .bool t226, .int .i64 t227])]) (fun s_ w' => (w'.cell? (ad206.add ((x10_1).toNat * 5)) = some (.int .i64 ((rd_T37 l0 x10_1).f0)) ∧ w'.cell? ⟨(ad206.add ((x10_1).toNat * 5)).block, (ad206.add ((x10_1).toNat * 5)).off + 1, none⟩ = some (.string ((rd_T37 l0 x10_1).f1)) ∧ w'.cell? ⟨(ad206.add ((x10_1).toNat * 5)).block, (ad206.add ((x10_1).toNat * 5)).off + 2, none⟩ = some (.slice A206_2 ((rd_T37 l0 x10_1).f2).length c206_2) ∧ w'.cell? ⟨(ad206.add ((x10_1).toNat * 5)).block, (ad206.add ((x10_1).toNat * 5)).off + 3, none⟩ = some (.int .i64 ((rd_T37 l0 x10_1).f3)) ∧ w'.cell? ⟨(ad206.add ((x10_1).toNat * 5)).block, (ad206.add ((x10_1).toNat * 5)).off + 4, none⟩ = some (.int .i64 ((rd_T37 l0 x10_1).f4)) ∧ w'.cell? (ad206.add ((x10_1).toNat * 5)) = some (.int .i64 ((rd_T37 l0 x10_1).f0)) ∧ w'.cell? ⟨(ad206.add ((x10_1).toNat * 5)).block, (ad206.add ((x10_1).toNat * 5)).off + 1, none⟩ = some (.string ((rd_T37 l0 x10_1).f1)) ∧ w'.cell? ⟨(ad206.add ((x10_1).toNat * 5)).block, (ad206.add ((x10_1).toNat * 5)).off + 2, none⟩ = some (.slice A206_2 ((rd_T37 l0 x10_1).f2).length c206_2) ∧ w'.cell? ⟨(ad206.add ((x10_1).toNat * 5)).block, (ad206.add ((x10_1).toNat * 5)).off + 3, none⟩ = some (.int .i64 ((rd_T37 l0 x10_1).f3)) ∧ w'.cell? ⟨(ad206.add ((x10_1).toNat * 5)).block, (ad206.add ((x10_1).toNat * 5)).off + 4, none⟩ = some (.int .i64 ((rd_T37 l0 x10_1).f4))) ∧ (Kd.R Kd.string 9 w' w.heap.size (fun k_ => some k_ ≠ (s_.2.2.1 : Value).ownBlock) s_.1 t207) ∧ (Kd.R (Kd.int .i64) 3 w' w.heap.size (fun k_ => some k_ ≠ (s_.2.2.2 : Value).ownBlock) s_.2.1 t210) ∧ (Kd.R Kd.string 9 w' w.heap.size (fun k_ => some k_ ≠ (s_.1 : Value).ownBlock) s_.2.2.1 t218) ∧ (Kd.R (Kd.int .i64) 3 w' w.heap.size (fun k_ => some k_ ≠ (s_.2.1 : Value).ownBlock) s_.2.2.2 t221) ∧ (Below w.heap.size w w')) ?_ ?_
                      rotate_left
                      · intro hJ4_9
                        refine join_ (σ := Value × Value × Nat) 4 #[true, true, true, true, true, true, true, true, true, false, true, false, false, false] (fun s_ => [(17, .agg #[s_.1, s_.2.1, .int .i64 t213, .int .i64 t214, .bool t215, .int .i64 t216]), (4, .pointer (some ⟨s_.2.2, 0, none⟩))]) (fun s_ w' => (w'.cell? (ad206.add ((x10_1).toNat * 5)) = some (.int .i64 ((rd_T37 l0 x10_1).f0)) ∧ w'.cell? ⟨(ad206.add ((x10_1).toNat * 5)).block, (ad206.add ((x10_1).toNat * 5)).off + 1, none⟩ = some (.string ((rd_T37 l0 x10_1).f1)) ∧ w'.cell? ⟨(ad206.add ((x10_1).toNat * 5)).block, (ad206.add ((x10_1).toNat * 5)).off + 2, none⟩ = some (.slice A206_2 ((rd_T37 l0 x10_1).f2).length c206_2) ∧ w'.cell? ⟨(ad206.add ((x10_1).toNat * 5)).block, (ad206.add ((x10_1).toNat * 5)).off + 3, none⟩ = some (.int .i64 ((rd_T37 l0 x10_1).f3)) ∧ w'.cell? ⟨(ad206.add ((x10_1).toNat * 5)).block, (ad206.add ((x10_1).toNat * 5)).off + 4, none⟩ = some (.int .i64 ((rd_T37 l0 x10_1).f4)) ∧ w'.cell? (ad206.add ((x10_1).toNat * 5)) = some (.int .i64 ((rd_T37 l0 x10_1).f0)) ∧ w'.cell? ⟨(ad206.add ((x10_1).toNat * 5)).block, (ad206.add ((x10_1).toNat * 5)).off + 1, none⟩ = some (.string ((rd_T37 l0 x10_1).f1)) ∧ w'.cell? ⟨(ad206.add ((x10_1).toNat * 5)).block, (ad206.add ((x10_1).toNat * 5)).off + 2, none⟩ = some (.slice A206_2 ((rd_T37 l0 x10_1).f2).length c206_2) ∧ w'.cell? ⟨(ad206.add ((x10_1).toNat * 5)).block, (ad206.add ((x10_1).toNat * 5)).off + 3, none⟩ = some (.int .i64 ((rd_T37 l0 x10_1).f3)) ∧ w'.cell? ⟨(ad206.add ((x10_1).toNat * 5)).block, (ad206.add ((x10_1).toNat * 5)).off + 4, none⟩ = some (.int .i64 ((rd_T37 l0 x10_1).f4))) ∧ (Kd.R Kd.string 9 w' w.heap.size (fun _ => True) s_.1 t207) ∧ (Kd.R (Kd.int .i64) 3 w' w.heap.size (fun _ => True) s_.2.1 t210) ∧ (w'.heap[s_.2.2]? = some (.cells #[.slice none 0 0, .slice none 0 0, .int .i64 0, .int .i64 0, .bool false, .int .i64 0] 34 (0, 0))) ∧ (w.heap.size ≤ s_.2.2) ∧ (w.heap.size ≤ s_.2.2) ∧ (Below w.heap.size w w')) ?_ ?_
                        rotate_left
                        · intro hJ4_10
                          refine join_ (σ := Value × Value × Nat) 4 #[true, true, true, true, true, true, true, true, true, false, false, true, false, false] (fun s_ => [(17, .agg #[s_.1, s_.2.1, .int .i64 t213, .int .i64 t214, .bool t215, .int .i64 t216]), (5, .pointer (some ⟨s_.2.2, 0, none⟩))]) (fun s_ w' => (w'.cell? (ad206.add ((x10_1).toNat * 5)) = some (.int .i64 ((rd_T37 l0 x10_1).f0)) ∧ w'.cell? ⟨(ad206.add ((x10_1).toNat * 5)).block, (ad206.add ((x10_1).toNat * 5)).off + 1, none⟩ = some (.string ((rd_T37 l0 x10_1).f1)) ∧ w'.cell? ⟨(ad206.add ((x10_1).toNat * 5)).block, (ad206.add ((x10_1).toNat * 5)).off + 2, none⟩ = some (.slice A206_2 ((rd_T37 l0 x10_1).f2).length c206_2) ∧ w'.cell? ⟨(ad206.add ((x10_1).toNat * 5)).block, (ad206.add ((x10_1).toNat * 5)).off + 3, none⟩ = some (.int .i64 ((rd_T37 l0 x10_1).f3)) ∧ w'.cell? ⟨(ad206.add ((x10_1).toNat * 5)).block, (ad206.add ((x10_1).toNat * 5)).off + 4, none⟩ = some (.int .i64 ((rd_T37 l0 x10_1).f4)) ∧ w'.cell? (ad206.add ((x10_1).toNat * 5)) = some (.int .i64 ((rd_T37 l0 x10_1).f0)) ∧ w'.cell? ⟨(ad206.add ((x10_1).toNat * 5)).block, (ad206.add ((x10_1).toNat * 5)).off + 1, none⟩ = some (.string ((rd_T37 l0 x10_1).f1)) ∧ w'.cell? ⟨(ad206.add ((x10_1).toNat * 5)).block, (ad206.add ((x10_1).toNat * 5)).off + 2, none⟩ = some (.slice A206_2 ((rd_T37 l0 x10_1).f2).length c206_2) ∧ w'.cell? ⟨(ad206.add ((x10_1).toNat * 5)).block, (ad206.add ((x10_1).toNat * 5)).off + 3, none⟩ = some (.int .i64 ((rd_T37 l0 x10_1).f3)) ∧ w'.cell? ⟨(ad206.add ((x10_1).toNat * 5)).block, (ad206.add ((x10_1).toNat * 5)).off + 4, none⟩ = some (.int .i64 ((rd_T37 l0 x10_1).f4))) ∧ (Kd.R Kd.string 9 w' w.heap.size (fun _ => True) s_.1 t207) ∧ (Kd.R (Kd.int .i64) 3 w' w.heap.size (fun _ => True) s_.2.1 t210) ∧ (w'.heap[s_.2.2]? = some (.cells #[.slice none 0 0, .slice none 0 0, .int .i64 0, .int .i64 0, .bool false, .int .i64 0] 34 (0, 0))) ∧ (w.heap.size ≤ s_.2.2) ∧ (w.heap.size ≤ s_.2.2) ∧ (Below w.heap.size w w')) ?_ ?_
                          rotate_left
                          · intro hJ4_11
                            refine join_ (σ := Nat × Nat) 4 #[true, true, true, true, false, true, true, true, true, false, true, true, false, false] (fun s_ => [(4, .pointer (some ⟨s_.1, 0, none⟩)), (5, .pointer (some ⟨s_.2, 0, none⟩))]) (fun s_ w' => (w'.cell? (ad206.add ((x10_1).toNat * 5)) = some (.int .i64 ((rd_T37 l0 x10_1).f0)) ∧ w'.cell? ⟨(ad206.add ((x10_1).toNat * 5)).block, (ad206.add ((x10_1).toNat * 5)).off + 1, none⟩ = some (.string ((rd_T37 l0 x10_1).f1)) ∧ w'.cell? ⟨(ad206.add ((x10_1).toNat * 5)).block, (ad206.add ((x10_1).toNat * 5)).off + 2, none⟩ = some (.slice A206_2 ((rd_T37 l0 x10_1).f2).length c206_2) ∧ w'.cell? ⟨(ad206.add ((x10_1).toNat * 5)).block, (ad206.add ((x10_1).toNat * 5)).off + 3, none⟩ = some (.int .i64 ((rd_T37 l0 x10_1).f3)) ∧ w'.cell? ⟨(ad206.add ((x10_1).toNat * 5)).block, (ad206.add ((x10_1).toNat * 5)).off + 4, none⟩ = some (.int .i64 ((rd_T37 l0 x10_1).f4)) ∧ w'.cell? (ad206.add ((x10_1).toNat * 5)) = some (.int .i64 ((rd_T37 l0 x10_1).f0)) ∧ w'.cell? ⟨(ad206.add ((x10_1).toNat * 5)).block, (ad206.add ((x10_1).toNat * 5)).off + 1, none⟩ = some (.string ((rd_T37 l0 x10_1).f1)) ∧ w'.cell? ⟨(ad206.add ((x10_1).toNat * 5)).block, (ad206.add ((x10_1).toNat * 5)).off + 2, none⟩ = some (.slice A206_2 ((rd_T37 l0 x10_1).f2).length c206_2) ∧ w'.cell? ⟨(ad206.add ((x10_1).toNat * 5)).block, (ad206.add ((x10_1).toNat * 5)).off + 3, none⟩ = some (.int .i64 ((rd_T37 l0 x10_1).f3)) ∧ w'.cell? ⟨(ad206.add ((x10_1).toNat * 5)).block, (ad206.add ((x10_1).toNat * 5)).off + 4, none⟩ = some (.int .i64 ((rd_T37 l0 x10_1).f4))) ∧ (w'.heap[s_.1]? = some (.cells #[.slice none 0 0, .slice none 0 0, .int .i64 0, .int .i64 0, .bool false, .int .i64 0] 34 (0, 0))) ∧ (w'.heap[s_.2]? = some (.cells #[.slice none 0 0, .slice none 0 0, .int .i64 0, .int .i64 0, .bool false, .int .i64 0] 34 (0, 0))) ∧ (w.heap.size ≤ s_.1) ∧ (w.heap.size ≤ s_.1) ∧ (s_.2 ≠ s_.1) ∧ (s_.1 ≠ s_.2) ∧ (w.heap.size ≤ s_.2) ∧ (w.heap.size ≤ s_.2) ∧ (Below w.heap.size w w')) ?_ ?_
                            rotate_left
                            · intro hJ10_11
                              refine join_ (σ := Value × Value) 5 #[true, true, true, true, true, true, true, true, true, false, false, false, false, false] (fun s_ => [(17, .agg #[s_.1, s_.2, .int .i64 t213, .int .i64 t214, .bool t215, .int .i64 t216])]) (fun s_ w' => (w'.cell? (ad206.add ((x10_1).toNat * 5)) = some (.int .i64 ((rd_T37 l0 x10_1).f0)) ∧ w'.cell? ⟨(ad206.add ((x10_1).toNat * 5)).block, (ad206.add ((x10_1).toNat * 5)).off + 1, none⟩ = some (.string ((rd_T37 l0 x10_1).f1)) ∧ w'.cell? ⟨(ad206.add ((x10_1).toNat * 5)).block, (ad206.add ((x10_1).toNat * 5)).off + 2, none⟩ = some (.slice A206_2 ((rd_T37 l0 x10_1).f2).length c206_2) ∧ w'.cell? ⟨(ad206.add ((x10_1).toNat * 5)).block, (ad206.add ((x10_1).toNat * 5)).off + 3, none⟩ = some (.int .i64 ((rd_T37 l0 x10_1).f3)) ∧ w'.cell? ⟨(ad206.add ((x10_1).toNat * 5)).block, (ad206.add ((x10_1).toNat * 5)).off + 4, none⟩ = some (.int .i64 ((rd_T37 l0 x10_1).f4)) ∧ w'.cell? (ad206.add ((x10_1).toNat * 5)) = some (.int .i64 ((rd_T37 l0 x10_1).f0)) ∧ w'.cell? ⟨(ad206.add ((x10_1).toNat * 5)).block, (ad206.add ((x10_1).toNat * 5)).off + 1, none⟩ = some (.string ((rd_T37 l0 x10_1).f1)) ∧ w'.cell? ⟨(ad206.add ((x10_1).toNat * 5)).block, (ad206.add ((x10_1).toNat * 5)).off + 2, none⟩ = some (.slice A206_2 ((rd_T37 l0 x10_1).f2).length c206_2) ∧ w'.cell? ⟨(ad206.add ((x10_1).toNat * 5)).block, (ad206.add ((x10_1).toNat * 5)).off + 3, none⟩ = some (.int .i64 ((rd_T37 l0 x10_1).f3)) ∧ w'.cell? ⟨(ad206.add ((x10_1).toNat * 5)).block, (ad206.add ((x10_1).toNat * 5)).off + 4, none⟩ = some (.int .i64 ((rd_T37 l0 x10_1).f4))) ∧ (Kd.R Kd.string 9 w' w.heap.size (fun _ => True) s_.1 t207) ∧ (Kd.R (Kd.int .i64) 3 w' w.heap.size (fun _ => True) s_.2 t210) ∧ (Below w.heap.size w w')) ?_ ?_
                              rotate_left
                              · intro hJ4
                                refine join_ (σ := Nat) 5 #[true, true, true, true, false, true, true, true, true, false, true, false, false, false] (fun s_ => [(4, .pointer (some ⟨s_, 0, none⟩))]) (fun s_ w' => (w'.cell? (ad206.add ((x10_1).toNat * 5)) = some (.int .i64 ((rd_T37 l0 x10_1).f0)) ∧ w'.cell? ⟨(ad206.add ((x10_1).toNat * 5)).block, (ad206.add ((x10_1).toNat * 5)).off + 1, none⟩ = some (.string ((rd_T37 l0 x10_1).f1)) ∧ w'.cell? ⟨(ad206.add ((x10_1).toNat * 5)).block, (ad206.add ((x10_1).toNat * 5)).off + 2, none⟩ = some (.slice A206_2 ((rd_T37 l0 x10_1).f2).length c206_2) ∧ w'.cell? ⟨(ad206.add ((x10_1).toNat * 5)).block, (ad206.add ((x10_1).toNat * 5)).off + 3, none⟩ = some (.int .i64 ((rd_T37 l0 x10_1).f3)) ∧ w'.cell? ⟨(ad206.add ((x10_1).toNat * 5)).block, (ad206.add ((x10_1).toNat * 5)).off + 4, none⟩ = some (.int .i64 ((rd_T37 l0 x10_1).f4)) ∧ w'.cell? (ad206.add ((x10_1).toNat * 5)) = some (.int .i64 ((rd_T37 l0 x10_1).f0)) ∧ w'.cell? ⟨(ad206.add ((x10_1).toNat * 5)).block, (ad206.add ((x10_1).toNat * 5)).off + 1, none⟩ = some (.string ((rd_T37 l0 x10_1).f1)) ∧ w'.cell? ⟨(ad206.add ((x10_1).toNat * 5)).block, (ad206.add ((x10_1).toNat * 5)).off + 2, none⟩ = some (.slice A206_2 ((rd_T37 l0 x10_1).f2).length c206_2) ∧ w'.cell? ⟨(ad206.add ((x10_1).toNat * 5)).block, (ad206.add ((x10_1).toNat * 5)).off + 3, none⟩ = some (.int .i64 ((rd_T37 l0 x10_1).f3)) ∧ w'.cell? ⟨(ad206.add ((x10_1).toNat * 5)).block, (ad206.add ((x10_1).toNat * 5)).off + 4, none⟩ = some (.int .i64 ((rd_T37 l0 x10_1).f4))) ∧ (w'.heap[s_]? = some (.cells #[.slice none 0 0, .slice none 0 0, .int .i64 0, .int .i64 0, .bool false, .int .i64 0] 34 (0, 0))) ∧ (w.heap.size ≤ s_) ∧ (w.heap.size ≤ s_) ∧ (Below w.heap.size w w')) ?_ ?_
                                rotate_left
                                · intro hJ10
                                  refine join_ (σ := Nat) 5 #[true, true, true, true, false, true, true, true, true, false, false, true, false, false] (fun s_ => [(5, .pointer (some ⟨s_, 0, none⟩))]) (fun s_ w' => (w'.cell? (ad206.add ((x10_1).toNat * 5)) = some (.int .i64 ((rd_T37 l0 x10_1).f0)) ∧ w'.cell? ⟨(ad206.add ((x10_1).toNat * 5)).block, (ad206.add ((x10_1).toNat * 5)).off + 1, none⟩ = some (.string ((rd_T37 l0 x10_1).f1)) ∧ w'.cell? ⟨(ad206.add ((x10_1).toNat * 5)).block, (ad206.add ((x10_1).toNat * 5)).off + 2, none⟩ = some (.slice A206_2 ((rd_T37 l0 x10_1).f2).length c206_2) ∧ w'.cell? ⟨(ad206.add ((x10_1).toNat * 5)).block, (ad206.add ((x10_1).toNat * 5)).off + 3, none⟩ = some (.int .i64 ((rd_T37 l0 x10_1).f3)) ∧ w'.cell? ⟨(ad206.add ((x10_1).toNat * 5)).block, (ad206.add ((x10_1).toNat * 5)).off + 4, none⟩ = some (.int .i64 ((rd_T37 l0 x10_1).f4)) ∧ w'.cell? (ad206.add ((x10_1).toNat * 5)) = some (.int .i64 ((rd_T37 l0 x10_1).f0)) ∧ w'.cell? ⟨(ad206.add ((x10_1).toNat * 5)).block, (ad206.add ((x10_1).toNat * 5)).off + 1, none⟩ = some (.string ((rd_T37 l0 x10_1).f1)) ∧ w'.cell? ⟨(ad206.add ((x10_1).toNat * 5)).block, (ad206.add ((x10_1).toNat * 5)).off + 2, none⟩ = some (.slice A206_2 ((rd_T37 l0 x10_1).f2).length c206_2) ∧ w'.cell? ⟨(ad206.add ((x10_1).toNat * 5)).block, (ad206.add ((x10_1).toNat * 5)).off + 3, none⟩ = some (.int .i64 ((rd_T37 l0 x10_1).f3)) ∧ w'.cell? ⟨(ad206.add ((x10_1).toNat * 5)).block, (ad206.add ((x10_1).toNat * 5)).off + 4, none⟩ = some (.int .i64 ((rd_T37 l0 x10_1).f4))) ∧ (w'.heap[s_]? = some (.cells #[.slice none 0 0, .slice none 0 0, .int .i64 0, .int .i64 0, .bool false, .int .i64 0] 34 (0, 0))) ∧ (w.heap.size ≤ s_) ∧ (w.heap.size ≤ s_) ∧ (Below w.heap.size w w')) ?_ ?_
                                  rotate_left
                                  · intro hJ11
                                    refine three_ (i := 4) (j := 10) (k := 11) (Ni := some 17) (Nj := some 4) (Nk := some 5) #[true, true, true, true, true, true, true, true, true, false, false, false, false, false] #[true, true, true, true, false, true, true, true, true, false, true, false, false, false] #[true, true, true, true, false, true, true, true, true, false, false, true, false, false] rfl rfl rfl rfl rfl rfl (three_of HT_.out (by kernel_rfl)) (by decide) (by decide) (by decide) (fun K hK => ?_) (fun K hK => ?_) (fun K hK => ?_)
                                    · skip
                                      refine goes_ Tryd.func11 (by kernel_rfl) rfl #[.agg #[.int .i64 ((rd_T37 l0 x10_1).f0), .string ((rd_T37 l0 x10_1).f1), .slice A206_2 ((rd_T37 l0 x10_1).f2).length c206_2, .int .i64 ((rd_T37 l0 x10_1).f3), .int .i64 ((rd_T37 l0 x10_1).f4)]] (by rfl) rfl rfl (by (try simp only [List.map_toArray, List.map_cons, List.map_nil]); first | done | rfl | (simp only [List.length_drop, List.length_take]; rfl)) ?_
                                      with_reducible refine (pylonlaw06_plays.calls k1 ((rd_T37 l0 x10_1).f0) ((rd_T37 l0 x10_1).f1) _ _ ((rd_T37 l0 x10_1).f2) ((rd_T37 l0 x10_1).f3) ((rd_T37 l0 x10_1).f4) t207 t210 t213 t214 t215 t216 _ ?side1 ?side2 ?side3 A8.out).mono ?_
                                      (case side1 => exact GInv.below hV (by repeat (first | (with_reducible first | exact HB.out | apply below_alloc | apply pw_below_drewN | apply below_drew1) | exact HB.out)))
                                      (case side2 => repeat (first | exact (Kd.C_below HR206_2.out HB.out) | (with_reducible refine Kd.C_alloc ?_ _) | (with_reducible refine Kd.C_drewN ?_ _) | (with_reducible refine Kd.C_drew ?_)))
                                      (case side3 => exact HC206_2.out)
                                      rintro e w14 ⟨v208, v211, rfl, ho0, ho1, hb⟩
                                      refine ⟨_, rfl, ?_⟩
                                      have n0_ := Aside0.mk (Kd.R_lower ho0 (below_size (by repeat (first | (with_reducible first | exact HB.out | apply below_alloc | apply pw_below_drewN | apply below_drew1) | exact HB.out))))
                                      have n1_ := Aside0.mk (Kd.R_lower ho1 (below_size (by repeat (first | (with_reducible first | exact HB.out | apply below_alloc | apply pw_below_drewN | apply below_drew1) | exact HB.out))))
                                      have n2_ := Aside0.mk (below_step (by repeat (first | (with_reducible first | exact HB.out | apply below_alloc | apply pw_below_drewN | apply below_drew1) | exact HB.out)) hb)
                                      clear HB
                                      have HO209 := n0_
                                      have HO212 := n1_
                                      have HB := n2_
                                      clear n0_ n1_ n2_
                                      (try clear hb)
                                      (try clear hb2)
                                      (try clear hk)
                                      (try clear hi)
                                      (try clear ho0)
                                      (try clear ho1)
                                      refine hK.out _ _ ⟨((HB.out.cell (World.block_lt_of_cell? w _ hw206_0)).trans hw206_0), ((HB.out.cell (World.block_lt_of_cell? w _ hw206_1)).trans hw206_1), ((HB.out.cell (World.block_lt_of_cell? w _ hw206_2)).trans hw206_2), ((HB.out.cell (World.block_lt_of_cell? w _ hw206_3)).trans hw206_3), ((HB.out.cell (World.block_lt_of_cell? w _ hw206_4)).trans hw206_4), ((HB.out.cell (World.block_lt_of_cell? w _ hw217_0)).trans hw217_0), ((HB.out.cell (World.block_lt_of_cell? w _ hw217_1)).trans hw217_1), ((HB.out.cell (World.block_lt_of_cell? w _ hw217_2)).trans hw217_2), ((HB.out.cell (World.block_lt_of_cell? w _ hw217_3)).trans hw217_3), ((HB.out.cell (World.block_lt_of_cell? w _ hw217_4)).trans hw217_4)⟩ (fun hHeld => ?_)
                                      clear hK K
                                      refine norm_ (a' := ?_) ?_ ?_
                                      rotate_left
                                      · show Act.put _ (some 17) _ = _
                                        simp only [Act.put, List.setIfInBounds_toArray, List.set_cons_zero, List.set_cons_succ, i64_w, i32_w]
                                        rfl
                                      exact norm_ (by first | (simp only [putAll, Act.put, List.setIfInBounds_toArray, List.set_cons_zero, List.set_cons_succ]; done) | (simp only [putAll, Act.put, List.setIfInBounds_toArray, List.set_cons_zero, List.set_cons_succ]; rfl)) (hJ4 (v208, v211) _ ⟨hHeld, (by (with_reducible repeat (first | apply Kd.R_alloc | apply Kd.R_drewN | apply Kd.R_drew)); exact HO209.out), (by (with_reducible repeat (first | apply Kd.R_alloc | apply Kd.R_drewN | apply Kd.R_drew)); exact HO212.out), (by repeat (first | (with_reducible first | exact HB.out | apply below_alloc | apply pw_below_drewN | apply below_drew1) | exact HB.out))⟩)
                                    · skip
                                      refine box_step ?hg (N := 4) ?hd (cs := #[.slice none 0 0, .slice none 0 0, .int .i64 0, .int .i64 0, .bool false, .int .i64 0]) (t := 34) ?hr ?_; (case hd => rfl); (case hg => rfl); (case hr => first | (go_simp; done) | (go_simp; rfl))
                                      intro gb228 hg w14 hbox hb
                                      have n0_ := Aside0.mk (below_step (by repeat (first | (with_reducible first | exact HB.out | apply below_alloc | apply pw_below_drewN | apply below_drew1) | exact HB.out)) hb)
                                      have n1_ := Aside0.mk (hbox)
                                      have n2_ := Aside0.mk ((by rw [hg]; exact (below_size (by repeat (first | (with_reducible first | exact HB.out | apply below_alloc | apply pw_below_drewN | apply below_drew1) | exact HB.out))) : w.heap.size ≤ gb228))
                                      have n3_ := Aside0.mk ((by rw [hg]; exact (below_size (by repeat (first | (with_reducible first | exact HB.out | apply below_alloc | apply pw_below_drewN | apply below_drew1) | exact HB.out))) : w.heap.size ≤ gb228))
                                      clear HB
                                      have HB := n0_
                                      have BK228 := n1_
                                      have GW228 := n2_
                                      have GE228 := n3_
                                      clear n0_ n1_ n2_ n3_
                                      clear hb hbox hg
                                      refine hK.out _ _ ⟨((HB.out.cell (World.block_lt_of_cell? w _ hw206_0)).trans hw206_0), ((HB.out.cell (World.block_lt_of_cell? w _ hw206_1)).trans hw206_1), ((HB.out.cell (World.block_lt_of_cell? w _ hw206_2)).trans hw206_2), ((HB.out.cell (World.block_lt_of_cell? w _ hw206_3)).trans hw206_3), ((HB.out.cell (World.block_lt_of_cell? w _ hw206_4)).trans hw206_4), ((HB.out.cell (World.block_lt_of_cell? w _ hw217_0)).trans hw217_0), ((HB.out.cell (World.block_lt_of_cell? w _ hw217_1)).trans hw217_1), ((HB.out.cell (World.block_lt_of_cell? w _ hw217_2)).trans hw217_2), ((HB.out.cell (World.block_lt_of_cell? w _ hw217_3)).trans hw217_3), ((HB.out.cell (World.block_lt_of_cell? w _ hw217_4)).trans hw217_4)⟩ (fun hHeld => ?_)
                                      clear hK K
                                      refine norm_ (a' := ?_) ?_ ?_
                                      rotate_left
                                      · show Act.put _ (some 4) _ = _
                                        simp only [Act.put, List.setIfInBounds_toArray, List.set_cons_zero, List.set_cons_succ, i64_w, i32_w]
                                        rfl
                                      exact norm_ (by first | (simp only [putAll, Act.put, List.setIfInBounds_toArray, List.set_cons_zero, List.set_cons_succ]; done) | (simp only [putAll, Act.put, List.setIfInBounds_toArray, List.set_cons_zero, List.set_cons_succ]; rfl)) (hJ10 (gb228) _ ⟨hHeld, (by (with_reducible repeat (first | refine blk_drewN ?_ _ | refine blk_drew ?_ | refine blk_alloc ?_ _)); exact BK228.out), GW228.out, GE228.out, (by repeat (first | (with_reducible first | exact HB.out | apply below_alloc | apply pw_below_drewN | apply below_drew1 | refine below_set ?_ GE228.out) | exact HB.out))⟩)
                                    · skip
                                      refine box_step ?hg (N := 5) ?hd (cs := #[.slice none 0 0, .slice none 0 0, .int .i64 0, .int .i64 0, .bool false, .int .i64 0]) (t := 34) ?hr ?_; (case hd => rfl); (case hg => rfl); (case hr => first | (go_simp; done) | (go_simp; rfl))
                                      intro gb229 hg w14 hbox hb
                                      have n0_ := Aside0.mk (below_step (by repeat (first | (with_reducible first | exact HB.out | apply below_alloc | apply pw_below_drewN | apply below_drew1) | exact HB.out)) hb)
                                      have n1_ := Aside0.mk (hbox)
                                      have n2_ := Aside0.mk ((by rw [hg]; exact (below_size (by repeat (first | (with_reducible first | exact HB.out | apply below_alloc | apply pw_below_drewN | apply below_drew1) | exact HB.out))) : w.heap.size ≤ gb229))
                                      have n3_ := Aside0.mk ((by rw [hg]; exact (below_size (by repeat (first | (with_reducible first | exact HB.out | apply below_alloc | apply pw_below_drewN | apply below_drew1) | exact HB.out))) : w.heap.size ≤ gb229))
                                      clear HB
                                      have HB := n0_
                                      have BK229 := n1_
                                      have GW229 := n2_
                                      have GE229 := n3_
                                      clear n0_ n1_ n2_ n3_
                                      clear hb hbox hg
                                      refine hK.out _ _ ⟨((HB.out.cell (World.block_lt_of_cell? w _ hw206_0)).trans hw206_0), ((HB.out.cell (World.block_lt_of_cell? w _ hw206_1)).trans hw206_1), ((HB.out.cell (World.block_lt_of_cell? w _ hw206_2)).trans hw206_2), ((HB.out.cell (World.block_lt_of_cell? w _ hw206_3)).trans hw206_3), ((HB.out.cell (World.block_lt_of_cell? w _ hw206_4)).trans hw206_4), ((HB.out.cell (World.block_lt_of_cell? w _ hw217_0)).trans hw217_0), ((HB.out.cell (World.block_lt_of_cell? w _ hw217_1)).trans hw217_1), ((HB.out.cell (World.block_lt_of_cell? w _ hw217_2)).trans hw217_2), ((HB.out.cell (World.block_lt_of_cell? w _ hw217_3)).trans hw217_3), ((HB.out.cell (World.block_lt_of_cell? w _ hw217_4)).trans hw217_4)⟩ (fun hHeld => ?_)
                                      clear hK K
                                      refine norm_ (a' := ?_) ?_ ?_
                                      rotate_left
                                      · show Act.put _ (some 5) _ = _
                                        simp only [Act.put, List.setIfInBounds_toArray, List.set_cons_zero, List.set_cons_succ, i64_w, i32_w]
                                        rfl
                                      exact norm_ (by first | (simp only [putAll, Act.put, List.setIfInBounds_toArray, List.set_cons_zero, List.set_cons_succ]; done) | (simp only [putAll, Act.put, List.setIfInBounds_toArray, List.set_cons_zero, List.set_cons_succ]; rfl)) (hJ11 (gb229) _ ⟨hHeld, (by (with_reducible repeat (first | refine blk_drewN ?_ _ | refine blk_drew ?_ | refine blk_alloc ?_ _)); exact BK229.out), GW229.out, GE229.out, (by repeat (first | (with_reducible first | exact HB.out | apply below_alloc | apply pw_below_drewN | apply below_drew1 | refine below_set ?_ GE229.out) | exact HB.out))⟩)
                                  · skip
                                    rintro gb229 w15 ⟨hS_, h0_, h1_, h2_, h3_⟩
                                    have n0_ : Aside0 (w15.heap[gb229]? = some (.cells #[.slice none 0 0, .slice none 0 0, .int .i64 0, .int .i64 0, .bool false, .int .i64 0] 34 (0, 0))) := ⟨h0_⟩
                                    have n1_ : Aside0 (w.heap.size ≤ gb229) := ⟨h1_⟩
                                    have n2_ : Aside0 (w.heap.size ≤ gb229) := ⟨h2_⟩
                                    have n3_ : Aside0 (Below w.heap.size w w15) := ⟨h3_⟩
                                    clear HB
                                    clear h0_ h1_ h2_ h3_
                                    have BK229 := n0_
                                    have GW229 := n1_
                                    have GE229 := n2_
                                    have HB := n3_
                                    clear n0_ n1_ n2_ n3_
                                    have hHeld : w15.cell? (ad206.add ((x10_1).toNat * 5)) = some (.int .i64 ((rd_T37 l0 x10_1).f0)) ∧ w15.cell? ⟨(ad206.add ((x10_1).toNat * 5)).block, (ad206.add ((x10_1).toNat * 5)).off + 1, none⟩ = some (.string ((rd_T37 l0 x10_1).f1)) ∧ w15.cell? ⟨(ad206.add ((x10_1).toNat * 5)).block, (ad206.add ((x10_1).toNat * 5)).off + 2, none⟩ = some (.slice A206_2 ((rd_T37 l0 x10_1).f2).length c206_2) ∧ w15.cell? ⟨(ad206.add ((x10_1).toNat * 5)).block, (ad206.add ((x10_1).toNat * 5)).off + 3, none⟩ = some (.int .i64 ((rd_T37 l0 x10_1).f3)) ∧ w15.cell? ⟨(ad206.add ((x10_1).toNat * 5)).block, (ad206.add ((x10_1).toNat * 5)).off + 4, none⟩ = some (.int .i64 ((rd_T37 l0 x10_1).f4)) ∧ w15.cell? (ad206.add ((x10_1).toNat * 5)) = some (.int .i64 ((rd_T37 l0 x10_1).f0)) ∧ w15.cell? ⟨(ad206.add ((x10_1).toNat * 5)).block, (ad206.add ((x10_1).toNat * 5)).off + 1, none⟩ = some (.string ((rd_T37 l0 x10_1).f1)) ∧ w15.cell? ⟨(ad206.add ((x10_1).toNat * 5)).block, (ad206.add ((x10_1).toNat * 5)).off + 2, none⟩ = some (.slice A206_2 ((rd_T37 l0 x10_1).f2).length c206_2) ∧ w15.cell? ⟨(ad206.add ((x10_1).toNat * 5)).block, (ad206.add ((x10_1).toNat * 5)).off + 3, none⟩ = some (.int .i64 ((rd_T37 l0 x10_1).f3)) ∧ w15.cell? ⟨(ad206.add ((x10_1).toNat * 5)).block, (ad206.add ((x10_1).toNat * 5)).off + 4, none⟩ = some (.int .i64 ((rd_T37 l0 x10_1).f4)) := hS_
                                    refine norm_ (a' := ?_) ?_ ?_
                                    rotate_left
                                    · simp only [putAll, Act.put, List.setIfInBounds_toArray, List.set_cons_zero, List.set_cons_succ]
                                      rfl
                                    refine two_ (i := 4) (j := 10) (Ni := some 17) (Nj := some 4) #[true, true, true, true, true, true, true, true, true, false, false, true, false, false] #[true, true, true, true, false, true, true, true, true, false, true, true, false, false] rfl rfl rfl rfl (two_of HT_.out (by kernel_rfl)) (by decide) (by decide) (fun K hK => ?_) (fun K hK => ?_)
                                    · skip
                                      refine goes_ Tryd.func11 (by kernel_rfl) rfl #[.agg #[.int .i64 ((rd_T37 l0 x10_1).f0), .string ((rd_T37 l0 x10_1).f1), .slice A206_2 ((rd_T37 l0 x10_1).f2).length c206_2, .int .i64 ((rd_T37 l0 x10_1).f3), .int .i64 ((rd_T37 l0 x10_1).f4)]] (by rfl) rfl rfl (by (try simp only [List.map_toArray, List.map_cons, List.map_nil]); first | done | rfl | (simp only [List.length_drop, List.length_take]; rfl)) ?_
                                      with_reducible refine (pylonlaw06_plays.calls k1 ((rd_T37 l0 x10_1).f0) ((rd_T37 l0 x10_1).f1) _ _ ((rd_T37 l0 x10_1).f2) ((rd_T37 l0 x10_1).f3) ((rd_T37 l0 x10_1).f4) t207 t210 t213 t214 t215 t216 _ ?side1 ?side2 ?side3 A8.out).mono ?_
                                      (case side1 => exact GInv.below hV (by repeat (first | (with_reducible first | exact HB.out | apply below_alloc | apply pw_below_drewN | apply below_drew1 | refine below_set ?_ GE229.out) | exact HB.out)))
                                      (case side2 => repeat (first | exact (Kd.C_below HR206_2.out HB.out) | (with_reducible refine Kd.C_alloc ?_ _) | (with_reducible refine Kd.C_drewN ?_ _) | (with_reducible refine Kd.C_drew ?_)))
                                      (case side3 => exact HC206_2.out)
                                      rintro e w16 ⟨v208, v211, rfl, ho0, ho1, hb⟩
                                      refine ⟨_, rfl, ?_⟩
                                      have n0_ := Aside0.mk (Kd.R_lower ho0 (below_size (by repeat (first | (with_reducible first | exact HB.out | apply below_alloc | apply pw_below_drewN | apply below_drew1 | refine below_set ?_ GE229.out) | exact HB.out))))
                                      have n1_ := Aside0.mk (Kd.R_lower ho1 (below_size (by repeat (first | (with_reducible first | exact HB.out | apply below_alloc | apply pw_below_drewN | apply below_drew1 | refine below_set ?_ GE229.out) | exact HB.out))))
                                      have n2_ := Aside0.mk (blk_below (g := gb229) (o := .cells #[.slice none 0 0, .slice none 0 0, .int .i64 0, .int .i64 0, .bool false, .int .i64 0] 34 (0, 0)) (by (with_reducible repeat (first | refine blk_drewN ?_ _ | refine blk_drew ?_ | refine blk_alloc ?_ _)); exact BK229.out) hb)
                                      have n3_ := Aside0.mk (below_step (by repeat (first | (with_reducible first | exact HB.out | apply below_alloc | apply pw_below_drewN | apply below_drew1 | refine below_set ?_ GE229.out) | exact HB.out)) hb)
                                      clear BK229
                                      clear HB
                                      have HO209 := n0_
                                      have HO212 := n1_
                                      have BK229 := n2_
                                      have HB := n3_
                                      clear n0_ n1_ n2_ n3_
                                      (try clear hb)
                                      (try clear hb2)
                                      (try clear hk)
                                      (try clear hi)
                                      (try clear ho0)
                                      (try clear ho1)
                                      refine hK.out _ _ ⟨((HB.out.cell (World.block_lt_of_cell? w _ hw206_0)).trans hw206_0), ((HB.out.cell (World.block_lt_of_cell? w _ hw206_1)).trans hw206_1), ((HB.out.cell (World.block_lt_of_cell? w _ hw206_2)).trans hw206_2), ((HB.out.cell (World.block_lt_of_cell? w _ hw206_3)).trans hw206_3), ((HB.out.cell (World.block_lt_of_cell? w _ hw206_4)).trans hw206_4), ((HB.out.cell (World.block_lt_of_cell? w _ hw217_0)).trans hw217_0), ((HB.out.cell (World.block_lt_of_cell? w _ hw217_1)).trans hw217_1), ((HB.out.cell (World.block_lt_of_cell? w _ hw217_2)).trans hw217_2), ((HB.out.cell (World.block_lt_of_cell? w _ hw217_3)).trans hw217_3), ((HB.out.cell (World.block_lt_of_cell? w _ hw217_4)).trans hw217_4)⟩ (fun hHeld => ?_)
                                      clear hK K
                                      refine norm_ (a' := ?_) ?_ ?_
                                      rotate_left
                                      · show Act.put _ (some 17) _ = _
                                        simp only [Act.put, List.setIfInBounds_toArray, List.set_cons_zero, List.set_cons_succ, i64_w, i32_w]
                                        rfl
                                      exact norm_ (by first | (simp only [putAll, Act.put, List.setIfInBounds_toArray, List.set_cons_zero, List.set_cons_succ]; done) | (simp only [putAll, Act.put, List.setIfInBounds_toArray, List.set_cons_zero, List.set_cons_succ]; rfl)) (hJ4_11 (v208, v211, gb229) _ ⟨hHeld, (by (with_reducible repeat (first | apply Kd.R_alloc | apply Kd.R_drewN | apply Kd.R_drew)); exact HO209.out), (by (with_reducible repeat (first | apply Kd.R_alloc | apply Kd.R_drewN | apply Kd.R_drew)); exact HO212.out), (by (with_reducible repeat (first | refine blk_drewN ?_ _ | refine blk_drew ?_ | refine blk_alloc ?_ _)); exact BK229.out), GW229.out, GE229.out, (by repeat (first | (with_reducible first | exact HB.out | apply below_alloc | apply pw_below_drewN | apply below_drew1 | refine below_set ?_ GE229.out) | exact HB.out))⟩)
                                    · skip
                                      refine box_step ?hg (N := 4) ?hd (cs := #[.slice none 0 0, .slice none 0 0, .int .i64 0, .int .i64 0, .bool false, .int .i64 0]) (t := 34) ?hr ?_; (case hd => rfl); (case hg => rfl); (case hr => first | (go_simp; done) | (go_simp; rfl))
                                      intro gb228 hg w16 hbox hb
                                      have n0_ := Aside0.mk (blk_below (g := gb229) (o := .cells #[.slice none 0 0, .slice none 0 0, .int .i64 0, .int .i64 0, .bool false, .int .i64 0] 34 (0, 0)) (by (with_reducible repeat (first | refine blk_drewN ?_ _ | refine blk_drew ?_ | refine blk_alloc ?_ _)); exact BK229.out) hb)
                                      have n1_ := Aside0.mk (below_step (by repeat (first | (with_reducible first | exact HB.out | apply below_alloc | apply pw_below_drewN | apply below_drew1 | refine below_set ?_ GE229.out) | exact HB.out)) hb)
                                      have n2_ := Aside0.mk (hbox)
                                      have n3_ := Aside0.mk ((by rw [hg]; exact (below_size (by repeat (first | (with_reducible first | exact HB.out | apply below_alloc | apply pw_below_drewN | apply below_drew1 | refine below_set ?_ GE229.out) | exact HB.out))) : w.heap.size ≤ gb228))
                                      have n4_ := Aside0.mk ((by rw [hg]; exact (below_size (by repeat (first | (with_reducible first | exact HB.out | apply below_alloc | apply pw_below_drewN | apply below_drew1 | refine below_set ?_ GE229.out) | exact HB.out))) : w.heap.size ≤ gb228))
                                      have n5_ := Aside0.mk ((by rw [hg]; exact Nat.ne_of_lt (blk_lt (g := gb229) (o := .cells #[.slice none 0 0, .slice none 0 0, .int .i64 0, .int .i64 0, .bool false, .int .i64 0] 34 (0, 0)) (by (with_reducible repeat (first | refine blk_drewN ?_ _ | refine blk_drew ?_ | refine blk_alloc ?_ _)); exact BK229.out)) : gb229 ≠ gb228))
                                      have n6_ := Aside0.mk ((by rw [hg]; exact Nat.ne_of_gt (blk_lt (g := gb229) (o := .cells #[.slice none 0 0, .slice none 0 0, .int .i64 0, .int .i64 0, .bool false, .int .i64 0] 34 (0, 0)) (by (with_reducible repeat (first | refine blk_drewN ?_ _ | refine blk_drew ?_ | refine blk_alloc ?_ _)); exact BK229.out)) : gb228 ≠ gb229))
                                      clear BK229
                                      clear HB
                                      have BK229 := n0_
                                      have HB := n1_
                                      have BK228 := n2_
                                      have GW228 := n3_
                                      have GE228 := n4_
                                      have NB229_228 := n5_
                                      have NB228_229 := n6_
                                      clear n0_ n1_ n2_ n3_ n4_ n5_ n6_
                                      clear hb hbox hg
                                      refine hK.out _ _ ⟨((HB.out.cell (World.block_lt_of_cell? w _ hw206_0)).trans hw206_0), ((HB.out.cell (World.block_lt_of_cell? w _ hw206_1)).trans hw206_1), ((HB.out.cell (World.block_lt_of_cell? w _ hw206_2)).trans hw206_2), ((HB.out.cell (World.block_lt_of_cell? w _ hw206_3)).trans hw206_3), ((HB.out.cell (World.block_lt_of_cell? w _ hw206_4)).trans hw206_4), ((HB.out.cell (World.block_lt_of_cell? w _ hw217_0)).trans hw217_0), ((HB.out.cell (World.block_lt_of_cell? w _ hw217_1)).trans hw217_1), ((HB.out.cell (World.block_lt_of_cell? w _ hw217_2)).trans hw217_2), ((HB.out.cell (World.block_lt_of_cell? w _ hw217_3)).trans hw217_3), ((HB.out.cell (World.block_lt_of_cell? w _ hw217_4)).trans hw217_4)⟩ (fun hHeld => ?_)
                                      clear hK K
                                      refine norm_ (a' := ?_) ?_ ?_
                                      rotate_left
                                      · show Act.put _ (some 4) _ = _
                                        simp only [Act.put, List.setIfInBounds_toArray, List.set_cons_zero, List.set_cons_succ, i64_w, i32_w]
                                        rfl
                                      exact norm_ (by first | (simp only [putAll, Act.put, List.setIfInBounds_toArray, List.set_cons_zero, List.set_cons_succ]; done) | (simp only [putAll, Act.put, List.setIfInBounds_toArray, List.set_cons_zero, List.set_cons_succ]; rfl)) (hJ10_11 (gb228, gb229) _ ⟨hHeld, (by (with_reducible repeat (first | refine blk_drewN ?_ _ | refine blk_drew ?_ | refine blk_alloc ?_ _)); exact BK228.out), (by (with_reducible repeat (first | refine blk_drewN ?_ _ | refine blk_drew ?_ | refine blk_alloc ?_ _)); exact BK229.out), GW228.out, GE228.out, NB229_228.out, NB228_229.out, GW229.out, GE229.out, (by repeat (first | (with_reducible first | exact HB.out | apply below_alloc | apply pw_below_drewN | apply below_drew1 | refine below_set ?_ GE229.out | refine below_set ?_ GE228.out) | exact HB.out))⟩)
                                · skip
                                  rintro gb228 w15 ⟨hS_, h0_, h1_, h2_, h3_⟩
                                  have n0_ : Aside0 (w15.heap[gb228]? = some (.cells #[.slice none 0 0, .slice none 0 0, .int .i64 0, .int .i64 0, .bool false, .int .i64 0] 34 (0, 0))) := ⟨h0_⟩
                                  have n1_ : Aside0 (w.heap.size ≤ gb228) := ⟨h1_⟩
                                  have n2_ : Aside0 (w.heap.size ≤ gb228) := ⟨h2_⟩
                                  have n3_ : Aside0 (Below w.heap.size w w15) := ⟨h3_⟩
                                  clear HB
                                  clear h0_ h1_ h2_ h3_
                                  have BK228 := n0_
                                  have GW228 := n1_
                                  have GE228 := n2_
                                  have HB := n3_
                                  clear n0_ n1_ n2_ n3_
                                  have hHeld : w15.cell? (ad206.add ((x10_1).toNat * 5)) = some (.int .i64 ((rd_T37 l0 x10_1).f0)) ∧ w15.cell? ⟨(ad206.add ((x10_1).toNat * 5)).block, (ad206.add ((x10_1).toNat * 5)).off + 1, none⟩ = some (.string ((rd_T37 l0 x10_1).f1)) ∧ w15.cell? ⟨(ad206.add ((x10_1).toNat * 5)).block, (ad206.add ((x10_1).toNat * 5)).off + 2, none⟩ = some (.slice A206_2 ((rd_T37 l0 x10_1).f2).length c206_2) ∧ w15.cell? ⟨(ad206.add ((x10_1).toNat * 5)).block, (ad206.add ((x10_1).toNat * 5)).off + 3, none⟩ = some (.int .i64 ((rd_T37 l0 x10_1).f3)) ∧ w15.cell? ⟨(ad206.add ((x10_1).toNat * 5)).block, (ad206.add ((x10_1).toNat * 5)).off + 4, none⟩ = some (.int .i64 ((rd_T37 l0 x10_1).f4)) ∧ w15.cell? (ad206.add ((x10_1).toNat * 5)) = some (.int .i64 ((rd_T37 l0 x10_1).f0)) ∧ w15.cell? ⟨(ad206.add ((x10_1).toNat * 5)).block, (ad206.add ((x10_1).toNat * 5)).off + 1, none⟩ = some (.string ((rd_T37 l0 x10_1).f1)) ∧ w15.cell? ⟨(ad206.add ((x10_1).toNat * 5)).block, (ad206.add ((x10_1).toNat * 5)).off + 2, none⟩ = some (.slice A206_2 ((rd_T37 l0 x10_1).f2).length c206_2) ∧ w15.cell? ⟨(ad206.add ((x10_1).toNat * 5)).block, (ad206.add ((x10_1).toNat * 5)).off + 3, none⟩ = some (.int .i64 ((rd_T37 l0 x10_1).f3)) ∧ w15.cell? ⟨(ad206.add ((x10_1).toNat * 5)).block, (ad206.add ((x10_1).toNat * 5)).off + 4, none⟩ = some (.int .i64 ((rd_T37 l0 x10_1).f4)) := hS_
                                  refine norm_ (a' := ?_) ?_ ?_
                                  rotate_left
                                  · simp only [putAll, Act.put, List.setIfInBounds_toArray, List.set_cons_zero, List.set_cons_succ]
                                    rfl
                                  refine two_ (i := 4) (j := 11) (Ni := some 17) (Nj := some 5) #[true, true, true, true, true, true, true, true, true, false, true, false, false, false] #[true, true, true, true, false, true, true, true, true, false, true, true, false, false] rfl rfl rfl rfl (two_of HT_.out (by kernel_rfl)) (by decide) (by decide) (fun K hK => ?_) (fun K hK => ?_)
                                  · skip
                                    refine goes_ Tryd.func11 (by kernel_rfl) rfl #[.agg #[.int .i64 ((rd_T37 l0 x10_1).f0), .string ((rd_T37 l0 x10_1).f1), .slice A206_2 ((rd_T37 l0 x10_1).f2).length c206_2, .int .i64 ((rd_T37 l0 x10_1).f3), .int .i64 ((rd_T37 l0 x10_1).f4)]] (by rfl) rfl rfl (by (try simp only [List.map_toArray, List.map_cons, List.map_nil]); first | done | rfl | (simp only [List.length_drop, List.length_take]; rfl)) ?_
                                    with_reducible refine (pylonlaw06_plays.calls k1 ((rd_T37 l0 x10_1).f0) ((rd_T37 l0 x10_1).f1) _ _ ((rd_T37 l0 x10_1).f2) ((rd_T37 l0 x10_1).f3) ((rd_T37 l0 x10_1).f4) t207 t210 t213 t214 t215 t216 _ ?side1 ?side2 ?side3 A8.out).mono ?_
                                    (case side1 => exact GInv.below hV (by repeat (first | (with_reducible first | exact HB.out | apply below_alloc | apply pw_below_drewN | apply below_drew1 | refine below_set ?_ GE228.out) | exact HB.out)))
                                    (case side2 => repeat (first | exact (Kd.C_below HR206_2.out HB.out) | (with_reducible refine Kd.C_alloc ?_ _) | (with_reducible refine Kd.C_drewN ?_ _) | (with_reducible refine Kd.C_drew ?_)))
                                    (case side3 => exact HC206_2.out)
                                    rintro e w16 ⟨v208, v211, rfl, ho0, ho1, hb⟩
                                    refine ⟨_, rfl, ?_⟩
                                    have n0_ := Aside0.mk (Kd.R_lower ho0 (below_size (by repeat (first | (with_reducible first | exact HB.out | apply below_alloc | apply pw_below_drewN | apply below_drew1 | refine below_set ?_ GE228.out) | exact HB.out))))
                                    have n1_ := Aside0.mk (Kd.R_lower ho1 (below_size (by repeat (first | (with_reducible first | exact HB.out | apply below_alloc | apply pw_below_drewN | apply below_drew1 | refine below_set ?_ GE228.out) | exact HB.out))))
                                    have n2_ := Aside0.mk (blk_below (g := gb228) (o := .cells #[.slice none 0 0, .slice none 0 0, .int .i64 0, .int .i64 0, .bool false, .int .i64 0] 34 (0, 0)) (by (with_reducible repeat (first | refine blk_drewN ?_ _ | refine blk_drew ?_ | refine blk_alloc ?_ _)); exact BK228.out) hb)
                                    have n3_ := Aside0.mk (below_step (by repeat (first | (with_reducible first | exact HB.out | apply below_alloc | apply pw_below_drewN | apply below_drew1 | refine below_set ?_ GE228.out) | exact HB.out)) hb)
                                    clear BK228
                                    clear HB
                                    have HO209 := n0_
                                    have HO212 := n1_
                                    have BK228 := n2_
                                    have HB := n3_
                                    clear n0_ n1_ n2_ n3_
                                    (try clear hb)
                                    (try clear hb2)
                                    (try clear hk)
                                    (try clear hi)
                                    (try clear ho0)
                                    (try clear ho1)
                                    refine hK.out _ _ ⟨((HB.out.cell (World.block_lt_of_cell? w _ hw206_0)).trans hw206_0), ((HB.out.cell (World.block_lt_of_cell? w _ hw206_1)).trans hw206_1), ((HB.out.cell (World.block_lt_of_cell? w _ hw206_2)).trans hw206_2), ((HB.out.cell (World.block_lt_of_cell? w _ hw206_3)).trans hw206_3), ((HB.out.cell (World.block_lt_of_cell? w _ hw206_4)).trans hw206_4), ((HB.out.cell (World.block_lt_of_cell? w _ hw217_0)).trans hw217_0), ((HB.out.cell (World.block_lt_of_cell? w _ hw217_1)).trans hw217_1), ((HB.out.cell (World.block_lt_of_cell? w _ hw217_2)).trans hw217_2), ((HB.out.cell (World.block_lt_of_cell? w _ hw217_3)).trans hw217_3), ((HB.out.cell (World.block_lt_of_cell? w _ hw217_4)).trans hw217_4)⟩ (fun hHeld => ?_)
                                    clear hK K
                                    refine norm_ (a' := ?_) ?_ ?_
                                    rotate_left
                                    · show Act.put _ (some 17) _ = _
                                      simp only [Act.put, List.setIfInBounds_toArray, List.set_cons_zero, List.set_cons_succ, i64_w, i32_w]
                                      rfl
                                    exact norm_ (by first | (simp only [putAll, Act.put, List.setIfInBounds_toArray, List.set_cons_zero, List.set_cons_succ]; done) | (simp only [putAll, Act.put, List.setIfInBounds_toArray, List.set_cons_zero, List.set_cons_succ]; rfl)) (hJ4_10 (v208, v211, gb228) _ ⟨hHeld, (by (with_reducible repeat (first | apply Kd.R_alloc | apply Kd.R_drewN | apply Kd.R_drew)); exact HO209.out), (by (with_reducible repeat (first | apply Kd.R_alloc | apply Kd.R_drewN | apply Kd.R_drew)); exact HO212.out), (by (with_reducible repeat (first | refine blk_drewN ?_ _ | refine blk_drew ?_ | refine blk_alloc ?_ _)); exact BK228.out), GW228.out, GE228.out, (by repeat (first | (with_reducible first | exact HB.out | apply below_alloc | apply pw_below_drewN | apply below_drew1 | refine below_set ?_ GE228.out) | exact HB.out))⟩)
                                  · skip
                                    refine box_step ?hg (N := 5) ?hd (cs := #[.slice none 0 0, .slice none 0 0, .int .i64 0, .int .i64 0, .bool false, .int .i64 0]) (t := 34) ?hr ?_; (case hd => rfl); (case hg => rfl); (case hr => first | (go_simp; done) | (go_simp; rfl))
                                    intro gb229 hg w16 hbox hb
                                    have n0_ := Aside0.mk (blk_below (g := gb228) (o := .cells #[.slice none 0 0, .slice none 0 0, .int .i64 0, .int .i64 0, .bool false, .int .i64 0] 34 (0, 0)) (by (with_reducible repeat (first | refine blk_drewN ?_ _ | refine blk_drew ?_ | refine blk_alloc ?_ _)); exact BK228.out) hb)
                                    have n1_ := Aside0.mk (below_step (by repeat (first | (with_reducible first | exact HB.out | apply below_alloc | apply pw_below_drewN | apply below_drew1 | refine below_set ?_ GE228.out) | exact HB.out)) hb)
                                    have n2_ := Aside0.mk (hbox)
                                    have n3_ := Aside0.mk ((by rw [hg]; exact (below_size (by repeat (first | (with_reducible first | exact HB.out | apply below_alloc | apply pw_below_drewN | apply below_drew1 | refine below_set ?_ GE228.out) | exact HB.out))) : w.heap.size ≤ gb229))
                                    have n4_ := Aside0.mk ((by rw [hg]; exact (below_size (by repeat (first | (with_reducible first | exact HB.out | apply below_alloc | apply pw_below_drewN | apply below_drew1 | refine below_set ?_ GE228.out) | exact HB.out))) : w.heap.size ≤ gb229))
                                    have n5_ := Aside0.mk ((by rw [hg]; exact Nat.ne_of_lt (blk_lt (g := gb228) (o := .cells #[.slice none 0 0, .slice none 0 0, .int .i64 0, .int .i64 0, .bool false, .int .i64 0] 34 (0, 0)) (by (with_reducible repeat (first | refine blk_drewN ?_ _ | refine blk_drew ?_ | refine blk_alloc ?_ _)); exact BK228.out)) : gb228 ≠ gb229))
                                    have n6_ := Aside0.mk ((by rw [hg]; exact Nat.ne_of_gt (blk_lt (g := gb228) (o := .cells #[.slice none 0 0, .slice none 0 0, .int .i64 0, .int .i64 0, .bool false, .int .i64 0] 34 (0, 0)) (by (with_reducible repeat (first | refine blk_drewN ?_ _ | refine blk_drew ?_ | refine blk_alloc ?_ _)); exact BK228.out)) : gb229 ≠ gb228))
                                    clear BK228
                                    clear HB
                                    have BK228 := n0_
                                    have HB := n1_
                                    have BK229 := n2_
                                    have GW229 := n3_
                                    have GE229 := n4_
                                    have NB228_229 := n5_
                                    have NB229_228 := n6_
                                    clear n0_ n1_ n2_ n3_ n4_ n5_ n6_
                                    clear hb hbox hg
                                    refine hK.out _ _ ⟨((HB.out.cell (World.block_lt_of_cell? w _ hw206_0)).trans hw206_0), ((HB.out.cell (World.block_lt_of_cell? w _ hw206_1)).trans hw206_1), ((HB.out.cell (World.block_lt_of_cell? w _ hw206_2)).trans hw206_2), ((HB.out.cell (World.block_lt_of_cell? w _ hw206_3)).trans hw206_3), ((HB.out.cell (World.block_lt_of_cell? w _ hw206_4)).trans hw206_4), ((HB.out.cell (World.block_lt_of_cell? w _ hw217_0)).trans hw217_0), ((HB.out.cell (World.block_lt_of_cell? w _ hw217_1)).trans hw217_1), ((HB.out.cell (World.block_lt_of_cell? w _ hw217_2)).trans hw217_2), ((HB.out.cell (World.block_lt_of_cell? w _ hw217_3)).trans hw217_3), ((HB.out.cell (World.block_lt_of_cell? w _ hw217_4)).trans hw217_4)⟩ (fun hHeld => ?_)
                                    clear hK K
                                    refine norm_ (a' := ?_) ?_ ?_
                                    rotate_left
                                    · show Act.put _ (some 5) _ = _
                                      simp only [Act.put, List.setIfInBounds_toArray, List.set_cons_zero, List.set_cons_succ, i64_w, i32_w]
                                      rfl
                                    exact norm_ (by first | (simp only [putAll, Act.put, List.setIfInBounds_toArray, List.set_cons_zero, List.set_cons_succ]; done) | (simp only [putAll, Act.put, List.setIfInBounds_toArray, List.set_cons_zero, List.set_cons_succ]; rfl)) (hJ10_11 (gb228, gb229) _ ⟨hHeld, (by (with_reducible repeat (first | refine blk_drewN ?_ _ | refine blk_drew ?_ | refine blk_alloc ?_ _)); exact BK228.out), (by (with_reducible repeat (first | refine blk_drewN ?_ _ | refine blk_drew ?_ | refine blk_alloc ?_ _)); exact BK229.out), GW228.out, GE228.out, NB229_228.out, NB228_229.out, GW229.out, GE229.out, (by repeat (first | (with_reducible first | exact HB.out | apply below_alloc | apply pw_below_drewN | apply below_drew1 | refine below_set ?_ GE228.out | refine below_set ?_ GE229.out) | exact HB.out))⟩)
                              · skip
                                rintro ⟨v208, v211⟩ w15 ⟨hS_, h0_, h1_, h2_⟩
                                have n0_ : Aside0 (Kd.R Kd.string 9 w15 w.heap.size (fun _ => True) v208 t207) := ⟨h0_⟩
                                have n1_ : Aside0 (Kd.R (Kd.int .i64) 3 w15 w.heap.size (fun _ => True) v211 t210) := ⟨h1_⟩
                                have n2_ : Aside0 (Below w.heap.size w w15) := ⟨h2_⟩
                                clear HB
                                clear h0_ h1_ h2_
                                have HO209 := n0_
                                have HO212 := n1_
                                have HB := n2_
                                clear n0_ n1_ n2_
                                have hHeld : w15.cell? (ad206.add ((x10_1).toNat * 5)) = some (.int .i64 ((rd_T37 l0 x10_1).f0)) ∧ w15.cell? ⟨(ad206.add ((x10_1).toNat * 5)).block, (ad206.add ((x10_1).toNat * 5)).off + 1, none⟩ = some (.string ((rd_T37 l0 x10_1).f1)) ∧ w15.cell? ⟨(ad206.add ((x10_1).toNat * 5)).block, (ad206.add ((x10_1).toNat * 5)).off + 2, none⟩ = some (.slice A206_2 ((rd_T37 l0 x10_1).f2).length c206_2) ∧ w15.cell? ⟨(ad206.add ((x10_1).toNat * 5)).block, (ad206.add ((x10_1).toNat * 5)).off + 3, none⟩ = some (.int .i64 ((rd_T37 l0 x10_1).f3)) ∧ w15.cell? ⟨(ad206.add ((x10_1).toNat * 5)).block, (ad206.add ((x10_1).toNat * 5)).off + 4, none⟩ = some (.int .i64 ((rd_T37 l0 x10_1).f4)) ∧ w15.cell? (ad206.add ((x10_1).toNat * 5)) = some (.int .i64 ((rd_T37 l0 x10_1).f0)) ∧ w15.cell? ⟨(ad206.add ((x10_1).toNat * 5)).block, (ad206.add ((x10_1).toNat * 5)).off + 1, none⟩ = some (.string ((rd_T37 l0 x10_1).f1)) ∧ w15.cell? ⟨(ad206.add ((x10_1).toNat * 5)).block, (ad206.add ((x10_1).toNat * 5)).off + 2, none⟩ = some (.slice A206_2 ((rd_T37 l0 x10_1).f2).length c206_2) ∧ w15.cell? ⟨(ad206.add ((x10_1).toNat * 5)).block, (ad206.add ((x10_1).toNat * 5)).off + 3, none⟩ = some (.int .i64 ((rd_T37 l0 x10_1).f3)) ∧ w15.cell? ⟨(ad206.add ((x10_1).toNat * 5)).block, (ad206.add ((x10_1).toNat * 5)).off + 4, none⟩ = some (.int .i64 ((rd_T37 l0 x10_1).f4)) := hS_
                                refine norm_ (a' := ?_) ?_ ?_
                                rotate_left
                                · simp only [putAll, Act.put, List.setIfInBounds_toArray, List.set_cons_zero, List.set_cons_succ]
                                  rfl
                                refine three_ (i := 9) (j := 10) (k := 11) (Ni := some 22) (Nj := some 4) (Nk := some 5) #[true, true, true, true, true, true, true, true, true, true, false, false, false, false] #[true, true, true, true, true, true, true, true, true, false, true, false, false, false] #[true, true, true, true, true, true, true, true, true, false, false, true, false, false] rfl rfl rfl rfl rfl rfl (three_of HT_.out (by kernel_rfl)) (by decide) (by decide) (by decide) (fun K hK => ?_) (fun K hK => ?_) (fun K hK => ?_)
                                · skip
                                  refine goes_ Tryd.func12 (by kernel_rfl) rfl #[.agg #[.int .i64 ((rd_T37 l0 x10_1).f0), .string ((rd_T37 l0 x10_1).f1), .slice A206_2 ((rd_T37 l0 x10_1).f2).length c206_2, .int .i64 ((rd_T37 l0 x10_1).f3), .int .i64 ((rd_T37 l0 x10_1).f4)]] (by rfl) rfl rfl (by (try simp only [List.map_toArray, List.map_cons, List.map_nil]); first | done | rfl | (simp only [List.length_drop, List.length_take]; rfl)) ?_
                                  with_reducible refine (pylonlaw06_wants.calls k1 ((rd_T37 l0 x10_1).f0) ((rd_T37 l0 x10_1).f1) _ _ ((rd_T37 l0 x10_1).f2) ((rd_T37 l0 x10_1).f3) ((rd_T37 l0 x10_1).f4) t218 t221 t224 t225 t226 t227 _ ?side1 ?side2 A9.out).mono ?_
                                  (case side1 => repeat (first | exact (Kd.C_below HR217_2.out HB.out) | (with_reducible refine Kd.C_alloc ?_ _) | (with_reducible refine Kd.C_drewN ?_ _) | (with_reducible refine Kd.C_drew ?_)))
                                  (case side2 => exact HC217_2.out)
                                  rintro e w16 ⟨v219, v222, rfl, ho0, ho1, hb⟩
                                  refine ⟨_, rfl, ?_⟩
                                  have n0_ := Aside0.mk (Kd.R_elder' (by (with_reducible repeat (first | apply Kd.R_alloc | apply Kd.R_drewN | apply Kd.R_drew)); exact HO209.out) (Kd.R_base ho0) hb)
                                  have n1_ := Aside0.mk (Kd.R_elder' (by (with_reducible repeat (first | apply Kd.R_alloc | apply Kd.R_drewN | apply Kd.R_drew)); exact HO212.out) (Kd.R_base ho1) hb)
                                  have n2_ := Aside0.mk (Kd.R_lower (Kd.R_new' ho0 (Kd.R_lt (by (with_reducible repeat (first | apply Kd.R_alloc | apply Kd.R_drewN | apply Kd.R_drew)); exact HO209.out))) (below_size (by repeat (first | (with_reducible first | exact HB.out | apply below_alloc | apply pw_below_drewN | apply below_drew1) | exact HB.out))))
                                  have n3_ := Aside0.mk (Kd.R_lower (Kd.R_new' ho1 (Kd.R_lt (by (with_reducible repeat (first | apply Kd.R_alloc | apply Kd.R_drewN | apply Kd.R_drew)); exact HO212.out))) (below_size (by repeat (first | (with_reducible first | exact HB.out | apply below_alloc | apply pw_below_drewN | apply below_drew1) | exact HB.out))))
                                  have n4_ := Aside0.mk (below_step (by repeat (first | (with_reducible first | exact HB.out | apply below_alloc | apply pw_below_drewN | apply below_drew1) | exact HB.out)) hb)
                                  clear HO209
                                  clear HO212
                                  clear HB
                                  have HO209 := n0_
                                  have HO212 := n1_
                                  have HO220 := n2_
                                  have HO223 := n3_
                                  have HB := n4_
                                  clear n0_ n1_ n2_ n3_ n4_
                                  (try clear hb)
                                  (try clear hb2)
                                  (try clear hk)
                                  (try clear hi)
                                  (try clear ho0)
                                  (try clear ho1)
                                  refine hK.out _ _ ⟨((HB.out.cell (World.block_lt_of_cell? w _ hw206_0)).trans hw206_0), ((HB.out.cell (World.block_lt_of_cell? w _ hw206_1)).trans hw206_1), ((HB.out.cell (World.block_lt_of_cell? w _ hw206_2)).trans hw206_2), ((HB.out.cell (World.block_lt_of_cell? w _ hw206_3)).trans hw206_3), ((HB.out.cell (World.block_lt_of_cell? w _ hw206_4)).trans hw206_4), ((HB.out.cell (World.block_lt_of_cell? w _ hw217_0)).trans hw217_0), ((HB.out.cell (World.block_lt_of_cell? w _ hw217_1)).trans hw217_1), ((HB.out.cell (World.block_lt_of_cell? w _ hw217_2)).trans hw217_2), ((HB.out.cell (World.block_lt_of_cell? w _ hw217_3)).trans hw217_3), ((HB.out.cell (World.block_lt_of_cell? w _ hw217_4)).trans hw217_4)⟩ (fun hHeld => ?_)
                                  clear hK K
                                  refine norm_ (a' := ?_) ?_ ?_
                                  rotate_left
                                  · show Act.put _ (some 22) _ = _
                                    simp only [Act.put, List.setIfInBounds_toArray, List.set_cons_zero, List.set_cons_succ, i64_w, i32_w]
                                    rfl
                                  exact norm_ (by first | (simp only [putAll, Act.put, List.setIfInBounds_toArray, List.set_cons_zero, List.set_cons_succ]; done) | (simp only [putAll, Act.put, List.setIfInBounds_toArray, List.set_cons_zero, List.set_cons_succ]; rfl)) (hJ4_9 (v208, v211, v219, v222) _ ⟨hHeld, (by (with_reducible repeat (first | apply Kd.R_alloc | apply Kd.R_drewN | apply Kd.R_drew)); exact Kd.R_mono HO209.out (fun _ hk => hk.2)), (by (with_reducible repeat (first | apply Kd.R_alloc | apply Kd.R_drewN | apply Kd.R_drew)); exact Kd.R_mono HO212.out (fun _ hk => hk.2)), (by (with_reducible repeat (first | apply Kd.R_alloc | apply Kd.R_drewN | apply Kd.R_drew)); exact Kd.R_mono HO220.out (fun _ hk => hk.2)), (by (with_reducible repeat (first | apply Kd.R_alloc | apply Kd.R_drewN | apply Kd.R_drew)); exact Kd.R_mono HO223.out (fun _ hk => hk.2)), (by repeat (first | (with_reducible first | exact HB.out | apply below_alloc | apply pw_below_drewN | apply below_drew1) | exact HB.out))⟩)
                                · skip
                                  refine box_step ?hg (N := 4) ?hd (cs := #[.slice none 0 0, .slice none 0 0, .int .i64 0, .int .i64 0, .bool false, .int .i64 0]) (t := 34) ?hr ?_; (case hd => rfl); (case hg => rfl); (case hr => first | (go_simp; done) | (go_simp; rfl))
                                  intro gb228 hg w16 hbox hb
                                  have n0_ := Aside0.mk (Kd.R_below (by (with_reducible repeat (first | apply Kd.R_alloc | apply Kd.R_drewN | apply Kd.R_drew)); exact HO209.out) hb)
                                  have n1_ := Aside0.mk (Kd.R_below (by (with_reducible repeat (first | apply Kd.R_alloc | apply Kd.R_drewN | apply Kd.R_drew)); exact HO212.out) hb)
                                  have n2_ := Aside0.mk (below_step (by repeat (first | (with_reducible first | exact HB.out | apply below_alloc | apply pw_below_drewN | apply below_drew1) | exact HB.out)) hb)
                                  have n3_ := Aside0.mk (hbox)
                                  have n4_ := Aside0.mk ((by rw [hg]; exact (below_size (by repeat (first | (with_reducible first | exact HB.out | apply below_alloc | apply pw_below_drewN | apply below_drew1) | exact HB.out))) : w.heap.size ≤ gb228))
                                  have n5_ := Aside0.mk ((by rw [hg]; exact (below_size (by repeat (first | (with_reducible first | exact HB.out | apply below_alloc | apply pw_below_drewN | apply below_drew1) | exact HB.out))) : w.heap.size ≤ gb228))
                                  clear HO209
                                  clear HO212
                                  clear HB
                                  have HO209 := n0_
                                  have HO212 := n1_
                                  have HB := n2_
                                  have BK228 := n3_
                                  have GW228 := n4_
                                  have GE228 := n5_
                                  clear n0_ n1_ n2_ n3_ n4_ n5_
                                  clear hb hbox hg
                                  refine hK.out _ _ ⟨((HB.out.cell (World.block_lt_of_cell? w _ hw206_0)).trans hw206_0), ((HB.out.cell (World.block_lt_of_cell? w _ hw206_1)).trans hw206_1), ((HB.out.cell (World.block_lt_of_cell? w _ hw206_2)).trans hw206_2), ((HB.out.cell (World.block_lt_of_cell? w _ hw206_3)).trans hw206_3), ((HB.out.cell (World.block_lt_of_cell? w _ hw206_4)).trans hw206_4), ((HB.out.cell (World.block_lt_of_cell? w _ hw217_0)).trans hw217_0), ((HB.out.cell (World.block_lt_of_cell? w _ hw217_1)).trans hw217_1), ((HB.out.cell (World.block_lt_of_cell? w _ hw217_2)).trans hw217_2), ((HB.out.cell (World.block_lt_of_cell? w _ hw217_3)).trans hw217_3), ((HB.out.cell (World.block_lt_of_cell? w _ hw217_4)).trans hw217_4)⟩ (fun hHeld => ?_)
                                  clear hK K
                                  refine norm_ (a' := ?_) ?_ ?_
                                  rotate_left
                                  · show Act.put _ (some 4) _ = _
                                    simp only [Act.put, List.setIfInBounds_toArray, List.set_cons_zero, List.set_cons_succ, i64_w, i32_w]
                                    rfl
                                  exact norm_ (by first | (simp only [putAll, Act.put, List.setIfInBounds_toArray, List.set_cons_zero, List.set_cons_succ]; done) | (simp only [putAll, Act.put, List.setIfInBounds_toArray, List.set_cons_zero, List.set_cons_succ]; rfl)) (hJ4_10 (v208, v211, gb228) _ ⟨hHeld, (by (with_reducible repeat (first | apply Kd.R_alloc | apply Kd.R_drewN | apply Kd.R_drew)); exact HO209.out), (by (with_reducible repeat (first | apply Kd.R_alloc | apply Kd.R_drewN | apply Kd.R_drew)); exact HO212.out), (by (with_reducible repeat (first | refine blk_drewN ?_ _ | refine blk_drew ?_ | refine blk_alloc ?_ _)); exact BK228.out), GW228.out, GE228.out, (by repeat (first | (with_reducible first | exact HB.out | apply below_alloc | apply pw_below_drewN | apply below_drew1 | refine below_set ?_ GE228.out) | exact HB.out))⟩)
                                · skip
                                  refine box_step ?hg (N := 5) ?hd (cs := #[.slice none 0 0, .slice none 0 0, .int .i64 0, .int .i64 0, .bool false, .int .i64 0]) (t := 34) ?hr ?_; (case hd => rfl); (case hg => rfl); (case hr => first | (go_simp; done) | (go_simp; rfl))
                                  intro gb229 hg w16 hbox hb
                                  have n0_ := Aside0.mk (Kd.R_below (by (with_reducible repeat (first | apply Kd.R_alloc | apply Kd.R_drewN | apply Kd.R_drew)); exact HO209.out) hb)
                                  have n1_ := Aside0.mk (Kd.R_below (by (with_reducible repeat (first | apply Kd.R_alloc | apply Kd.R_drewN | apply Kd.R_drew)); exact HO212.out) hb)
                                  have n2_ := Aside0.mk (below_step (by repeat (first | (with_reducible first | exact HB.out | apply below_alloc | apply pw_below_drewN | apply below_drew1) | exact HB.out)) hb)
                                  have n3_ := Aside0.mk (hbox)
                                  have n4_ := Aside0.mk ((by rw [hg]; exact (below_size (by repeat (first | (with_reducible first | exact HB.out | apply below_alloc | apply pw_below_drewN | apply below_drew1) | exact HB.out))) : w.heap.size ≤ gb229))
                                  have n5_ := Aside0.mk ((by rw [hg]; exact (below_size (by repeat (first | (with_reducible first | exact HB.out | apply below_alloc | apply pw_below_drewN | apply below_drew1) | exact HB.out))) : w.heap.size ≤ gb229))
                                  clear HO209
                                  clear HO212
                                  clear HB
                                  have HO209 := n0_
                                  have HO212 := n1_
                                  have HB := n2_
                                  have BK229 := n3_
                                  have GW229 := n4_
                                  have GE229 := n5_
                                  clear n0_ n1_ n2_ n3_ n4_ n5_
                                  clear hb hbox hg
                                  refine hK.out _ _ ⟨((HB.out.cell (World.block_lt_of_cell? w _ hw206_0)).trans hw206_0), ((HB.out.cell (World.block_lt_of_cell? w _ hw206_1)).trans hw206_1), ((HB.out.cell (World.block_lt_of_cell? w _ hw206_2)).trans hw206_2), ((HB.out.cell (World.block_lt_of_cell? w _ hw206_3)).trans hw206_3), ((HB.out.cell (World.block_lt_of_cell? w _ hw206_4)).trans hw206_4), ((HB.out.cell (World.block_lt_of_cell? w _ hw217_0)).trans hw217_0), ((HB.out.cell (World.block_lt_of_cell? w _ hw217_1)).trans hw217_1), ((HB.out.cell (World.block_lt_of_cell? w _ hw217_2)).trans hw217_2), ((HB.out.cell (World.block_lt_of_cell? w _ hw217_3)).trans hw217_3), ((HB.out.cell (World.block_lt_of_cell? w _ hw217_4)).trans hw217_4)⟩ (fun hHeld => ?_)
                                  clear hK K
                                  refine norm_ (a' := ?_) ?_ ?_
                                  rotate_left
                                  · show Act.put _ (some 5) _ = _
                                    simp only [Act.put, List.setIfInBounds_toArray, List.set_cons_zero, List.set_cons_succ, i64_w, i32_w]
                                    rfl
                                  exact norm_ (by first | (simp only [putAll, Act.put, List.setIfInBounds_toArray, List.set_cons_zero, List.set_cons_succ]; done) | (simp only [putAll, Act.put, List.setIfInBounds_toArray, List.set_cons_zero, List.set_cons_succ]; rfl)) (hJ4_11 (v208, v211, gb229) _ ⟨hHeld, (by (with_reducible repeat (first | apply Kd.R_alloc | apply Kd.R_drewN | apply Kd.R_drew)); exact HO209.out), (by (with_reducible repeat (first | apply Kd.R_alloc | apply Kd.R_drewN | apply Kd.R_drew)); exact HO212.out), (by (with_reducible repeat (first | refine blk_drewN ?_ _ | refine blk_drew ?_ | refine blk_alloc ?_ _)); exact BK229.out), GW229.out, GE229.out, (by repeat (first | (with_reducible first | exact HB.out | apply below_alloc | apply pw_below_drewN | apply below_drew1 | refine below_set ?_ GE229.out) | exact HB.out))⟩)
                            · skip
                              rintro ⟨gb228, gb229⟩ w16 ⟨hS_, h0_, h1_, h2_, h3_, h4_, h5_, h6_, h7_, h8_⟩
                              have n0_ : Aside0 (w16.heap[gb228]? = some (.cells #[.slice none 0 0, .slice none 0 0, .int .i64 0, .int .i64 0, .bool false, .int .i64 0] 34 (0, 0))) := ⟨h0_⟩
                              have n1_ : Aside0 (w16.heap[gb229]? = some (.cells #[.slice none 0 0, .slice none 0 0, .int .i64 0, .int .i64 0, .bool false, .int .i64 0] 34 (0, 0))) := ⟨h1_⟩
                              have n2_ : Aside0 (w.heap.size ≤ gb228) := ⟨h2_⟩
                              have n3_ : Aside0 (w.heap.size ≤ gb228) := ⟨h3_⟩
                              have n4_ : Aside0 (gb229 ≠ gb228) := ⟨h4_⟩
                              have n5_ : Aside0 (gb228 ≠ gb229) := ⟨h5_⟩
                              have n6_ : Aside0 (w.heap.size ≤ gb229) := ⟨h6_⟩
                              have n7_ : Aside0 (w.heap.size ≤ gb229) := ⟨h7_⟩
                              have n8_ : Aside0 (Below w.heap.size w w16) := ⟨h8_⟩
                              clear HB
                              clear h0_ h1_ h2_ h3_ h4_ h5_ h6_ h7_ h8_
                              have BK228 := n0_
                              have BK229 := n1_
                              have GW228 := n2_
                              have GE228 := n3_
                              have NB229_228 := n4_
                              have NB228_229 := n5_
                              have GW229 := n6_
                              have GE229 := n7_
                              have HB := n8_
                              clear n0_ n1_ n2_ n3_ n4_ n5_ n6_ n7_ n8_
                              have hHeld : w16.cell? (ad206.add ((x10_1).toNat * 5)) = some (.int .i64 ((rd_T37 l0 x10_1).f0)) ∧ w16.cell? ⟨(ad206.add ((x10_1).toNat * 5)).block, (ad206.add ((x10_1).toNat * 5)).off + 1, none⟩ = some (.string ((rd_T37 l0 x10_1).f1)) ∧ w16.cell? ⟨(ad206.add ((x10_1).toNat * 5)).block, (ad206.add ((x10_1).toNat * 5)).off + 2, none⟩ = some (.slice A206_2 ((rd_T37 l0 x10_1).f2).length c206_2) ∧ w16.cell? ⟨(ad206.add ((x10_1).toNat * 5)).block, (ad206.add ((x10_1).toNat * 5)).off + 3, none⟩ = some (.int .i64 ((rd_T37 l0 x10_1).f3)) ∧ w16.cell? ⟨(ad206.add ((x10_1).toNat * 5)).block, (ad206.add ((x10_1).toNat * 5)).off + 4, none⟩ = some (.int .i64 ((rd_T37 l0 x10_1).f4)) ∧ w16.cell? (ad206.add ((x10_1).toNat * 5)) = some (.int .i64 ((rd_T37 l0 x10_1).f0)) ∧ w16.cell? ⟨(ad206.add ((x10_1).toNat * 5)).block, (ad206.add ((x10_1).toNat * 5)).off + 1, none⟩ = some (.string ((rd_T37 l0 x10_1).f1)) ∧ w16.cell? ⟨(ad206.add ((x10_1).toNat * 5)).block, (ad206.add ((x10_1).toNat * 5)).off + 2, none⟩ = some (.slice A206_2 ((rd_T37 l0 x10_1).f2).length c206_2) ∧ w16.cell? ⟨(ad206.add ((x10_1).toNat * 5)).block, (ad206.add ((x10_1).toNat * 5)).off + 3, none⟩ = some (.int .i64 ((rd_T37 l0 x10_1).f3)) ∧ w16.cell? ⟨(ad206.add ((x10_1).toNat * 5)).block, (ad206.add ((x10_1).toNat * 5)).off + 4, none⟩ = some (.int .i64 ((rd_T37 l0 x10_1).f4)) := hS_
                              refine norm_ (a' := ?_) ?_ ?_
                              rotate_left
                              · simp only [putAll, Act.put, List.setIfInBounds_toArray, List.set_cons_zero, List.set_cons_succ]
                                rfl
                              refine one_ (i := 4) (N := some 17) #[true, true, true, true, true, true, true, true, true, false, true, true, false, false] rfl rfl (one_of HT_.out (by kernel_rfl)) (by decide) (fun K hK => ?_)
                              refine goes_ Tryd.func11 (by kernel_rfl) rfl #[.agg #[.int .i64 ((rd_T37 l0 x10_1).f0), .string ((rd_T37 l0 x10_1).f1), .slice A206_2 ((rd_T37 l0 x10_1).f2).length c206_2, .int .i64 ((rd_T37 l0 x10_1).f3), .int .i64 ((rd_T37 l0 x10_1).f4)]] (by rfl) rfl rfl (by (try simp only [List.map_toArray, List.map_cons, List.map_nil]); first | done | rfl | (simp only [List.length_drop, List.length_take]; rfl)) ?_
                              with_reducible refine (pylonlaw06_plays.calls k1 ((rd_T37 l0 x10_1).f0) ((rd_T37 l0 x10_1).f1) _ _ ((rd_T37 l0 x10_1).f2) ((rd_T37 l0 x10_1).f3) ((rd_T37 l0 x10_1).f4) t207 t210 t213 t214 t215 t216 _ ?side1 ?side2 ?side3 A8.out).mono ?_
                              (case side1 => exact GInv.below hV (by repeat (first | (with_reducible first | exact HB.out | apply below_alloc | apply pw_below_drewN | apply below_drew1 | refine below_set ?_ GE228.out | refine below_set ?_ GE229.out) | exact HB.out)))
                              (case side2 => repeat (first | exact (Kd.C_below HR206_2.out HB.out) | (with_reducible refine Kd.C_alloc ?_ _) | (with_reducible refine Kd.C_drewN ?_ _) | (with_reducible refine Kd.C_drew ?_)))
                              (case side3 => exact HC206_2.out)
                              rintro e w17 ⟨v208, v211, rfl, ho0, ho1, hb⟩
                              refine ⟨_, rfl, ?_⟩
                              have n0_ := Aside0.mk (Kd.R_lower ho0 (below_size (by repeat (first | (with_reducible first | exact HB.out | apply below_alloc | apply pw_below_drewN | apply below_drew1 | refine below_set ?_ GE228.out | refine below_set ?_ GE229.out) | exact HB.out))))
                              have n1_ := Aside0.mk (Kd.R_lower ho1 (below_size (by repeat (first | (with_reducible first | exact HB.out | apply below_alloc | apply pw_below_drewN | apply below_drew1 | refine below_set ?_ GE228.out | refine below_set ?_ GE229.out) | exact HB.out))))
                              have n2_ := Aside0.mk (blk_below (g := gb228) (o := .cells #[.slice none 0 0, .slice none 0 0, .int .i64 0, .int .i64 0, .bool false, .int .i64 0] 34 (0, 0)) (by (with_reducible repeat (first | refine blk_drewN ?_ _ | refine blk_drew ?_ | refine blk_alloc ?_ _)); exact BK228.out) hb)
                              have n3_ := Aside0.mk (blk_below (g := gb229) (o := .cells #[.slice none 0 0, .slice none 0 0, .int .i64 0, .int .i64 0, .bool false, .int .i64 0] 34 (0, 0)) (by (with_reducible repeat (first | refine blk_drewN ?_ _ | refine blk_drew ?_ | refine blk_alloc ?_ _)); exact BK229.out) hb)
                              have n4_ := Aside0.mk (below_step (by repeat (first | (with_reducible first | exact HB.out | apply below_alloc | apply pw_below_drewN | apply below_drew1 | refine below_set ?_ GE228.out | refine below_set ?_ GE229.out) | exact HB.out)) hb)
                              clear BK228
                              clear BK229
                              clear HB
                              have HO209 := n0_
                              have HO212 := n1_
                              have BK228 := n2_
                              have BK229 := n3_
                              have HB := n4_
                              clear n0_ n1_ n2_ n3_ n4_
                              (try clear hb)
                              (try clear hb2)
                              (try clear hk)
                              (try clear hi)
                              (try clear ho0)
                              (try clear ho1)
                              refine hK.out _ _ ⟨((HB.out.cell (World.block_lt_of_cell? w _ hw206_0)).trans hw206_0), ((HB.out.cell (World.block_lt_of_cell? w _ hw206_1)).trans hw206_1), ((HB.out.cell (World.block_lt_of_cell? w _ hw206_2)).trans hw206_2), ((HB.out.cell (World.block_lt_of_cell? w _ hw206_3)).trans hw206_3), ((HB.out.cell (World.block_lt_of_cell? w _ hw206_4)).trans hw206_4), ((HB.out.cell (World.block_lt_of_cell? w _ hw217_0)).trans hw217_0), ((HB.out.cell (World.block_lt_of_cell? w _ hw217_1)).trans hw217_1), ((HB.out.cell (World.block_lt_of_cell? w _ hw217_2)).trans hw217_2), ((HB.out.cell (World.block_lt_of_cell? w _ hw217_3)).trans hw217_3), ((HB.out.cell (World.block_lt_of_cell? w _ hw217_4)).trans hw217_4)⟩ (fun hHeld => ?_)
                              clear hK K
                              refine norm_ (a' := ?_) ?_ ?_
                              rotate_left
                              · show Act.put _ (some 17) _ = _
                                simp only [Act.put, List.setIfInBounds_toArray, List.set_cons_zero, List.set_cons_succ, i64_w, i32_w]
                                rfl
                              exact norm_ (by first | (simp only [putAll, Act.put, List.setIfInBounds_toArray, List.set_cons_zero, List.set_cons_succ]; done) | (simp only [putAll, Act.put, List.setIfInBounds_toArray, List.set_cons_zero, List.set_cons_succ]; rfl)) (hJ4_10_11 (v208, v211, gb228, gb229) _ ⟨hHeld, (by (with_reducible repeat (first | apply Kd.R_alloc | apply Kd.R_drewN | apply Kd.R_drew)); exact HO209.out), (by (with_reducible repeat (first | apply Kd.R_alloc | apply Kd.R_drewN | apply Kd.R_drew)); exact HO212.out), (by (with_reducible repeat (first | refine blk_drewN ?_ _ | refine blk_drew ?_ | refine blk_alloc ?_ _)); exact BK228.out), (by (with_reducible repeat (first | refine blk_drewN ?_ _ | refine blk_drew ?_ | refine blk_alloc ?_ _)); exact BK229.out), GW228.out, GE228.out, NB229_228.out, NB228_229.out, GW229.out, GE229.out, (by repeat (first | (with_reducible first | exact HB.out | apply below_alloc | apply pw_below_drewN | apply below_drew1 | refine below_set ?_ GE228.out | refine below_set ?_ GE229.out) | exact HB.out))⟩)
                          · skip
                            rintro ⟨v208, v211, gb229⟩ w16 ⟨hS_, h0_, h1_, h2_, h3_, h4_, h5_⟩
                            have n0_ : Aside0 (Kd.R Kd.string 9 w16 w.heap.size (fun _ => True) v208 t207) := ⟨h0_⟩
                            have n1_ : Aside0 (Kd.R (Kd.int .i64) 3 w16 w.heap.size (fun _ => True) v211 t210) := ⟨h1_⟩
                            have n2_ : Aside0 (w16.heap[gb229]? = some (.cells #[.slice none 0 0, .slice none 0 0, .int .i64 0, .int .i64 0, .bool false, .int .i64 0] 34 (0, 0))) := ⟨h2_⟩
                            have n3_ : Aside0 (w.heap.size ≤ gb229) := ⟨h3_⟩
                            have n4_ : Aside0 (w.heap.size ≤ gb229) := ⟨h4_⟩
                            have n5_ : Aside0 (Below w.heap.size w w16) := ⟨h5_⟩
                            clear HB
                            clear h0_ h1_ h2_ h3_ h4_ h5_
                            have HO209 := n0_
                            have HO212 := n1_
                            have BK229 := n2_
                            have GW229 := n3_
                            have GE229 := n4_
                            have HB := n5_
                            clear n0_ n1_ n2_ n3_ n4_ n5_
                            have hHeld : w16.cell? (ad206.add ((x10_1).toNat * 5)) = some (.int .i64 ((rd_T37 l0 x10_1).f0)) ∧ w16.cell? ⟨(ad206.add ((x10_1).toNat * 5)).block, (ad206.add ((x10_1).toNat * 5)).off + 1, none⟩ = some (.string ((rd_T37 l0 x10_1).f1)) ∧ w16.cell? ⟨(ad206.add ((x10_1).toNat * 5)).block, (ad206.add ((x10_1).toNat * 5)).off + 2, none⟩ = some (.slice A206_2 ((rd_T37 l0 x10_1).f2).length c206_2) ∧ w16.cell? ⟨(ad206.add ((x10_1).toNat * 5)).block, (ad206.add ((x10_1).toNat * 5)).off + 3, none⟩ = some (.int .i64 ((rd_T37 l0 x10_1).f3)) ∧ w16.cell? ⟨(ad206.add ((x10_1).toNat * 5)).block, (ad206.add ((x10_1).toNat * 5)).off + 4, none⟩ = some (.int .i64 ((rd_T37 l0 x10_1).f4)) ∧ w16.cell? (ad206.add ((x10_1).toNat * 5)) = some (.int .i64 ((rd_T37 l0 x10_1).f0)) ∧ w16.cell? ⟨(ad206.add ((x10_1).toNat * 5)).block, (ad206.add ((x10_1).toNat * 5)).off + 1, none⟩ = some (.string ((rd_T37 l0 x10_1).f1)) ∧ w16.cell? ⟨(ad206.add ((x10_1).toNat * 5)).block, (ad206.add ((x10_1).toNat * 5)).off + 2, none⟩ = some (.slice A206_2 ((rd_T37 l0 x10_1).f2).length c206_2) ∧ w16.cell? ⟨(ad206.add ((x10_1).toNat * 5)).block, (ad206.add ((x10_1).toNat * 5)).off + 3, none⟩ = some (.int .i64 ((rd_T37 l0 x10_1).f3)) ∧ w16.cell? ⟨(ad206.add ((x10_1).toNat * 5)).block, (ad206.add ((x10_1).toNat * 5)).off + 4, none⟩ = some (.int .i64 ((rd_T37 l0 x10_1).f4)) := hS_
                            refine norm_ (a' := ?_) ?_ ?_
                            rotate_left
                            · simp only [putAll, Act.put, List.setIfInBounds_toArray, List.set_cons_zero, List.set_cons_succ]
                              rfl
                            refine two_ (i := 9) (j := 10) (Ni := some 22) (Nj := some 4) #[true, true, true, true, true, true, true, true, true, true, false, true, false, false] #[true, true, true, true, true, true, true, true, true, false, true, true, false, false] rfl rfl rfl rfl (two_of HT_.out (by kernel_rfl)) (by decide) (by decide) (fun K hK => ?_) (fun K hK => ?_)
                            · skip
                              refine goes_ Tryd.func12 (by kernel_rfl) rfl #[.agg #[.int .i64 ((rd_T37 l0 x10_1).f0), .string ((rd_T37 l0 x10_1).f1), .slice A206_2 ((rd_T37 l0 x10_1).f2).length c206_2, .int .i64 ((rd_T37 l0 x10_1).f3), .int .i64 ((rd_T37 l0 x10_1).f4)]] (by rfl) rfl rfl (by (try simp only [List.map_toArray, List.map_cons, List.map_nil]); first | done | rfl | (simp only [List.length_drop, List.length_take]; rfl)) ?_
                              with_reducible refine (pylonlaw06_wants.calls k1 ((rd_T37 l0 x10_1).f0) ((rd_T37 l0 x10_1).f1) _ _ ((rd_T37 l0 x10_1).f2) ((rd_T37 l0 x10_1).f3) ((rd_T37 l0 x10_1).f4) t218 t221 t224 t225 t226 t227 _ ?side1 ?side2 A9.out).mono ?_
                              (case side1 => repeat (first | exact (Kd.C_below HR217_2.out HB.out) | (with_reducible refine Kd.C_alloc ?_ _) | (with_reducible refine Kd.C_drewN ?_ _) | (with_reducible refine Kd.C_drew ?_)))
                              (case side2 => exact HC217_2.out)
                              rintro e w17 ⟨v219, v222, rfl, ho0, ho1, hb⟩
                              refine ⟨_, rfl, ?_⟩
                              have n0_ := Aside0.mk (Kd.R_elder' (by (with_reducible repeat (first | apply Kd.R_alloc | apply Kd.R_drewN | apply Kd.R_drew)); exact HO209.out) (Kd.R_base ho0) hb)
                              have n1_ := Aside0.mk (Kd.R_elder' (by (with_reducible repeat (first | apply Kd.R_alloc | apply Kd.R_drewN | apply Kd.R_drew)); exact HO212.out) (Kd.R_base ho1) hb)
                              have n2_ := Aside0.mk (Kd.R_lower (Kd.R_new' ho0 (Kd.R_lt (by (with_reducible repeat (first | apply Kd.R_alloc | apply Kd.R_drewN | apply Kd.R_drew)); exact HO209.out))) (below_size (by repeat (first | (with_reducible first | exact HB.out | apply below_alloc | apply pw_below_drewN | apply below_drew1 | refine below_set ?_ GE229.out) | exact HB.out))))
                              have n3_ := Aside0.mk (Kd.R_lower (Kd.R_new' ho1 (Kd.R_lt (by (with_reducible repeat (first | apply Kd.R_alloc | apply Kd.R_drewN | apply Kd.R_drew)); exact HO212.out))) (below_size (by repeat (first | (with_reducible first | exact HB.out | apply below_alloc | apply pw_below_drewN | apply below_drew1 | refine below_set ?_ GE229.out) | exact HB.out))))
                              have n4_ := Aside0.mk (blk_below (g := gb229) (o := .cells #[.slice none 0 0, .slice none 0 0, .int .i64 0, .int .i64 0, .bool false, .int .i64 0] 34 (0, 0)) (by (with_reducible repeat (first | refine blk_drewN ?_ _ | refine blk_drew ?_ | refine blk_alloc ?_ _)); exact BK229.out) hb)
                              have n5_ := Aside0.mk (below_step (by repeat (first | (with_reducible first | exact HB.out | apply below_alloc | apply pw_below_drewN | apply below_drew1 | refine below_set ?_ GE229.out) | exact HB.out)) hb)
                              clear HO209
                              clear HO212
                              clear BK229
                              clear HB
                              have HO209 := n0_
                              have HO212 := n1_
                              have HO220 := n2_
                              have HO223 := n3_
                              have BK229 := n4_
                              have HB := n5_
                              clear n0_ n1_ n2_ n3_ n4_ n5_
                              (try clear hb)
                              (try clear hb2)
                              (try clear hk)
                              (try clear hi)
                              (try clear ho0)
                              (try clear ho1)
                              refine hK.out _ _ ⟨((HB.out.cell (World.block_lt_of_cell? w _ hw206_0)).trans hw206_0), ((HB.out.cell (World.block_lt_of_cell? w _ hw206_1)).trans hw206_1), ((HB.out.cell (World.block_lt_of_cell? w _ hw206_2)).trans hw206_2), ((HB.out.cell (World.block_lt_of_cell? w _ hw206_3)).trans hw206_3), ((HB.out.cell (World.block_lt_of_cell? w _ hw206_4)).trans hw206_4), ((HB.out.cell (World.block_lt_of_cell? w _ hw217_0)).trans hw217_0), ((HB.out.cell (World.block_lt_of_cell? w _ hw217_1)).trans hw217_1), ((HB.out.cell (World.block_lt_of_cell? w _ hw217_2)).trans hw217_2), ((HB.out.cell (World.block_lt_of_cell? w _ hw217_3)).trans hw217_3), ((HB.out.cell (World.block_lt_of_cell? w _ hw217_4)).trans hw217_4)⟩ (fun hHeld => ?_)
                              clear hK K
                              refine norm_ (a' := ?_) ?_ ?_
                              rotate_left
                              · show Act.put _ (some 22) _ = _
                                simp only [Act.put, List.setIfInBounds_toArray, List.set_cons_zero, List.set_cons_succ, i64_w, i32_w]
                                rfl
                              exact norm_ (by first | (simp only [putAll, Act.put, List.setIfInBounds_toArray, List.set_cons_zero, List.set_cons_succ]; done) | (simp only [putAll, Act.put, List.setIfInBounds_toArray, List.set_cons_zero, List.set_cons_succ]; rfl)) (hJ4_9_11 (v208, v211, v219, v222, gb229) _ ⟨hHeld, (by (with_reducible repeat (first | apply Kd.R_alloc | apply Kd.R_drewN | apply Kd.R_drew)); exact Kd.R_mono HO209.out (fun _ hk => hk.2)), (by (with_reducible repeat (first | apply Kd.R_alloc | apply Kd.R_drewN | apply Kd.R_drew)); exact Kd.R_mono HO212.out (fun _ hk => hk.2)), (by (with_reducible repeat (first | apply Kd.R_alloc | apply Kd.R_drewN | apply Kd.R_drew)); exact Kd.R_mono HO220.out (fun _ hk => hk.2)), (by (with_reducible repeat (first | apply Kd.R_alloc | apply Kd.R_drewN | apply Kd.R_drew)); exact Kd.R_mono HO223.out (fun _ hk => hk.2)), (by (with_reducible repeat (first | refine blk_drewN ?_ _ | refine blk_drew ?_ | refine blk_alloc ?_ _)); exact BK229.out), GW229.out, GE229.out, (by repeat (first | (with_reducible first | exact HB.out | apply below_alloc | apply pw_below_drewN | apply below_drew1 | refine below_set ?_ GE229.out) | exact HB.out))⟩)
                            · skip
                              refine box_step ?hg (N := 4) ?hd (cs := #[.slice none 0 0, .slice none 0 0, .int .i64 0, .int .i64 0, .bool false, .int .i64 0]) (t := 34) ?hr ?_; (case hd => rfl); (case hg => rfl); (case hr => first | (go_simp; done) | (go_simp; rfl))
                              intro gb228 hg w17 hbox hb
                              have n0_ := Aside0.mk (Kd.R_below (by (with_reducible repeat (first | apply Kd.R_alloc | apply Kd.R_drewN | apply Kd.R_drew)); exact HO209.out) hb)
                              have n1_ := Aside0.mk (Kd.R_below (by (with_reducible repeat (first | apply Kd.R_alloc | apply Kd.R_drewN | apply Kd.R_drew)); exact HO212.out) hb)
                              have n2_ := Aside0.mk (blk_below (g := gb229) (o := .cells #[.slice none 0 0, .slice none 0 0, .int .i64 0, .int .i64 0, .bool false, .int .i64 0] 34 (0, 0)) (by (with_reducible repeat (first | refine blk_drewN ?_ _ | refine blk_drew ?_ | refine blk_alloc ?_ _)); exact BK229.out) hb)
                              have n3_ := Aside0.mk (below_step (by repeat (first | (with_reducible first | exact HB.out | apply below_alloc | apply pw_below_drewN | apply below_drew1 | refine below_set ?_ GE229.out) | exact HB.out)) hb)
                              have n4_ := Aside0.mk (hbox)
                              have n5_ := Aside0.mk ((by rw [hg]; exact (below_size (by repeat (first | (with_reducible first | exact HB.out | apply below_alloc | apply pw_below_drewN | apply below_drew1 | refine below_set ?_ GE229.out) | exact HB.out))) : w.heap.size ≤ gb228))
                              have n6_ := Aside0.mk ((by rw [hg]; exact (below_size (by repeat (first | (with_reducible first | exact HB.out | apply below_alloc | apply pw_below_drewN | apply below_drew1 | refine below_set ?_ GE229.out) | exact HB.out))) : w.heap.size ≤ gb228))
                              have n7_ := Aside0.mk ((by rw [hg]; exact Nat.ne_of_lt (blk_lt (g := gb229) (o := .cells #[.slice none 0 0, .slice none 0 0, .int .i64 0, .int .i64 0, .bool false, .int .i64 0] 34 (0, 0)) (by (with_reducible repeat (first | refine blk_drewN ?_ _ | refine blk_drew ?_ | refine blk_alloc ?_ _)); exact BK229.out)) : gb229 ≠ gb228))
                              have n8_ := Aside0.mk ((by rw [hg]; exact Nat.ne_of_gt (blk_lt (g := gb229) (o := .cells #[.slice none 0 0, .slice none 0 0, .int .i64 0, .int .i64 0, .bool false, .int .i64 0] 34 (0, 0)) (by (with_reducible repeat (first | refine blk_drewN ?_ _ | refine blk_drew ?_ | refine blk_alloc ?_ _)); exact BK229.out)) : gb228 ≠ gb229))
                              clear HO209
                              clear HO212
                              clear BK229
                              clear HB
                              have HO209 := n0_
                              have HO212 := n1_
                              have BK229 := n2_
                              have HB := n3_
                              have BK228 := n4_
                              have GW228 := n5_
                              have GE228 := n6_
                              have NB229_228 := n7_
                              have NB228_229 := n8_
                              clear n0_ n1_ n2_ n3_ n4_ n5_ n6_ n7_ n8_
                              clear hb hbox hg
                              refine hK.out _ _ ⟨((HB.out.cell (World.block_lt_of_cell? w _ hw206_0)).trans hw206_0), ((HB.out.cell (World.block_lt_of_cell? w _ hw206_1)).trans hw206_1), ((HB.out.cell (World.block_lt_of_cell? w _ hw206_2)).trans hw206_2), ((HB.out.cell (World.block_lt_of_cell? w _ hw206_3)).trans hw206_3), ((HB.out.cell (World.block_lt_of_cell? w _ hw206_4)).trans hw206_4), ((HB.out.cell (World.block_lt_of_cell? w _ hw217_0)).trans hw217_0), ((HB.out.cell (World.block_lt_of_cell? w _ hw217_1)).trans hw217_1), ((HB.out.cell (World.block_lt_of_cell? w _ hw217_2)).trans hw217_2), ((HB.out.cell (World.block_lt_of_cell? w _ hw217_3)).trans hw217_3), ((HB.out.cell (World.block_lt_of_cell? w _ hw217_4)).trans hw217_4)⟩ (fun hHeld => ?_)
                              clear hK K
                              refine norm_ (a' := ?_) ?_ ?_
                              rotate_left
                              · show Act.put _ (some 4) _ = _
                                simp only [Act.put, List.setIfInBounds_toArray, List.set_cons_zero, List.set_cons_succ, i64_w, i32_w]
                                rfl
                              exact norm_ (by first | (simp only [putAll, Act.put, List.setIfInBounds_toArray, List.set_cons_zero, List.set_cons_succ]; done) | (simp only [putAll, Act.put, List.setIfInBounds_toArray, List.set_cons_zero, List.set_cons_succ]; rfl)) (hJ4_10_11 (v208, v211, gb228, gb229) _ ⟨hHeld, (by (with_reducible repeat (first | apply Kd.R_alloc | apply Kd.R_drewN | apply Kd.R_drew)); exact HO209.out), (by (with_reducible repeat (first | apply Kd.R_alloc | apply Kd.R_drewN | apply Kd.R_drew)); exact HO212.out), (by (with_reducible repeat (first | refine blk_drewN ?_ _ | refine blk_drew ?_ | refine blk_alloc ?_ _)); exact BK228.out), (by (with_reducible repeat (first | refine blk_drewN ?_ _ | refine blk_drew ?_ | refine blk_alloc ?_ _)); exact BK229.out), GW228.out, GE228.out, NB229_228.out, NB228_229.out, GW229.out, GE229.out, (by repeat (first | (with_reducible first | exact HB.out | apply below_alloc | apply pw_below_drewN | apply below_drew1 | refine below_set ?_ GE229.out | refine below_set ?_ GE228.out) | exact HB.out))⟩)
                        · skip
                          rintro ⟨v208, v211, gb228⟩ w16 ⟨hS_, h0_, h1_, h2_, h3_, h4_, h5_⟩
                          have n0_ : Aside0 (Kd.R Kd.string 9 w16 w.heap.size (fun _ => True) v208 t207) := ⟨h0_⟩
                          have n1_ : Aside0 (Kd.R (Kd.int .i64) 3 w16 w.heap.size (fun _ => True) v211 t210) := ⟨h1_⟩
                          have n2_ : Aside0 (w16.heap[gb228]? = some (.cells #[.slice none 0 0, .slice none 0 0, .int .i64 0, .int .i64 0, .bool false, .int .i64 0] 34 (0, 0))) := ⟨h2_⟩
                          have n3_ : Aside0 (w.heap.size ≤ gb228) := ⟨h3_⟩
                          have n4_ : Aside0 (w.heap.size ≤ gb228) := ⟨h4_⟩
                          have n5_ : Aside0 (Below w.heap.size w w16) := ⟨h5_⟩
                          clear HB
                          clear h0_ h1_ h2_ h3_ h4_ h5_
                          have HO209 := n0_
                          have HO212 := n1_
                          have BK228 := n2_
                          have GW228 := n3_
                          have GE228 := n4_
                          have HB := n5_
                          clear n0_ n1_ n2_ n3_ n4_ n5_
                          have hHeld : w16.cell? (ad206.add ((x10_1).toNat * 5)) = some (.int .i64 ((rd_T37 l0 x10_1).f0)) ∧ w16.cell? ⟨(ad206.add ((x10_1).toNat * 5)).block, (ad206.add ((x10_1).toNat * 5)).off + 1, none⟩ = some (.string ((rd_T37 l0 x10_1).f1)) ∧ w16.cell? ⟨(ad206.add ((x10_1).toNat * 5)).block, (ad206.add ((x10_1).toNat * 5)).off + 2, none⟩ = some (.slice A206_2 ((rd_T37 l0 x10_1).f2).length c206_2) ∧ w16.cell? ⟨(ad206.add ((x10_1).toNat * 5)).block, (ad206.add ((x10_1).toNat * 5)).off + 3, none⟩ = some (.int .i64 ((rd_T37 l0 x10_1).f3)) ∧ w16.cell? ⟨(ad206.add ((x10_1).toNat * 5)).block, (ad206.add ((x10_1).toNat * 5)).off + 4, none⟩ = some (.int .i64 ((rd_T37 l0 x10_1).f4)) ∧ w16.cell? (ad206.add ((x10_1).toNat * 5)) = some (.int .i64 ((rd_T37 l0 x10_1).f0)) ∧ w16.cell? ⟨(ad206.add ((x10_1).toNat * 5)).block, (ad206.add ((x10_1).toNat * 5)).off + 1, none⟩ = some (.string ((rd_T37 l0 x10_1).f1)) ∧ w16.cell? ⟨(ad206.add ((x10_1).toNat * 5)).block, (ad206.add ((x10_1).toNat * 5)).off + 2, none⟩ = some (.slice A206_2 ((rd_T37 l0 x10_1).f2).length c206_2) ∧ w16.cell? ⟨(ad206.add ((x10_1).toNat * 5)).block, (ad206.add ((x10_1).toNat * 5)).off + 3, none⟩ = some (.int .i64 ((rd_T37 l0 x10_1).f3)) ∧ w16.cell? ⟨(ad206.add ((x10_1).toNat * 5)).block, (ad206.add ((x10_1).toNat * 5)).off + 4, none⟩ = some (.int .i64 ((rd_T37 l0 x10_1).f4)) := hS_
                          refine norm_ (a' := ?_) ?_ ?_
                          rotate_left
                          · simp only [putAll, Act.put, List.setIfInBounds_toArray, List.set_cons_zero, List.set_cons_succ]
                            rfl
                          refine two_ (i := 9) (j := 11) (Ni := some 22) (Nj := some 5) #[true, true, true, true, true, true, true, true, true, true, true, false, false, false] #[true, true, true, true, true, true, true, true, true, false, true, true, false, false] rfl rfl rfl rfl (two_of HT_.out (by kernel_rfl)) (by decide) (by decide) (fun K hK => ?_) (fun K hK => ?_)
                          · skip
                            refine goes_ Tryd.func12 (by kernel_rfl) rfl #[.agg #[.int .i64 ((rd_T37 l0 x10_1).f0), .string ((rd_T37 l0 x10_1).f1), .slice A206_2 ((rd_T37 l0 x10_1).f2).length c206_2, .int .i64 ((rd_T37 l0 x10_1).f3), .int .i64 ((rd_T37 l0 x10_1).f4)]] (by rfl) rfl rfl (by (try simp only [List.map_toArray, List.map_cons, List.map_nil]); first | done | rfl | (simp only [List.length_drop, List.length_take]; rfl)) ?_
                            with_reducible refine (pylonlaw06_wants.calls k1 ((rd_T37 l0 x10_1).f0) ((rd_T37 l0 x10_1).f1) _ _ ((rd_T37 l0 x10_1).f2) ((rd_T37 l0 x10_1).f3) ((rd_T37 l0 x10_1).f4) t218 t221 t224 t225 t226 t227 _ ?side1 ?side2 A9.out).mono ?_
                            (case side1 => repeat (first | exact (Kd.C_below HR217_2.out HB.out) | (with_reducible refine Kd.C_alloc ?_ _) | (with_reducible refine Kd.C_drewN ?_ _) | (with_reducible refine Kd.C_drew ?_)))
                            (case side2 => exact HC217_2.out)
                            rintro e w17 ⟨v219, v222, rfl, ho0, ho1, hb⟩
                            refine ⟨_, rfl, ?_⟩
                            have n0_ := Aside0.mk (Kd.R_elder' (by (with_reducible repeat (first | apply Kd.R_alloc | apply Kd.R_drewN | apply Kd.R_drew)); exact HO209.out) (Kd.R_base ho0) hb)
                            have n1_ := Aside0.mk (Kd.R_elder' (by (with_reducible repeat (first | apply Kd.R_alloc | apply Kd.R_drewN | apply Kd.R_drew)); exact HO212.out) (Kd.R_base ho1) hb)
                            have n2_ := Aside0.mk (Kd.R_lower (Kd.R_new' ho0 (Kd.R_lt (by (with_reducible repeat (first | apply Kd.R_alloc | apply Kd.R_drewN | apply Kd.R_drew)); exact HO209.out))) (below_size (by repeat (first | (with_reducible first | exact HB.out | apply below_alloc | apply pw_below_drewN | apply below_drew1 | refine below_set ?_ GE228.out) | exact HB.out))))
                            have n3_ := Aside0.mk (Kd.R_lower (Kd.R_new' ho1 (Kd.R_lt (by (with_reducible repeat (first | apply Kd.R_alloc | apply Kd.R_drewN | apply Kd.R_drew)); exact HO212.out))) (below_size (by repeat (first | (with_reducible first | exact HB.out | apply below_alloc | apply pw_below_drewN | apply below_drew1 | refine below_set ?_ GE228.out) | exact HB.out))))
                            have n4_ := Aside0.mk (blk_below (g := gb228) (o := .cells #[.slice none 0 0, .slice none 0 0, .int .i64 0, .int .i64 0, .bool false, .int .i64 0] 34 (0, 0)) (by (with_reducible repeat (first | refine blk_drewN ?_ _ | refine blk_drew ?_ | refine blk_alloc ?_ _)); exact BK228.out) hb)
                            have n5_ := Aside0.mk (below_step (by repeat (first | (with_reducible first | exact HB.out | apply below_alloc | apply pw_below_drewN | apply below_drew1 | refine below_set ?_ GE228.out) | exact HB.out)) hb)
                            clear HO209
                            clear HO212
                            clear BK228
                            clear HB
                            have HO209 := n0_
                            have HO212 := n1_
                            have HO220 := n2_
                            have HO223 := n3_
                            have BK228 := n4_
                            have HB := n5_
                            clear n0_ n1_ n2_ n3_ n4_ n5_
                            (try clear hb)
                            (try clear hb2)
                            (try clear hk)
                            (try clear hi)
                            (try clear ho0)
                            (try clear ho1)
                            refine hK.out _ _ ⟨((HB.out.cell (World.block_lt_of_cell? w _ hw206_0)).trans hw206_0), ((HB.out.cell (World.block_lt_of_cell? w _ hw206_1)).trans hw206_1), ((HB.out.cell (World.block_lt_of_cell? w _ hw206_2)).trans hw206_2), ((HB.out.cell (World.block_lt_of_cell? w _ hw206_3)).trans hw206_3), ((HB.out.cell (World.block_lt_of_cell? w _ hw206_4)).trans hw206_4), ((HB.out.cell (World.block_lt_of_cell? w _ hw217_0)).trans hw217_0), ((HB.out.cell (World.block_lt_of_cell? w _ hw217_1)).trans hw217_1), ((HB.out.cell (World.block_lt_of_cell? w _ hw217_2)).trans hw217_2), ((HB.out.cell (World.block_lt_of_cell? w _ hw217_3)).trans hw217_3), ((HB.out.cell (World.block_lt_of_cell? w _ hw217_4)).trans hw217_4)⟩ (fun hHeld => ?_)
                            clear hK K
                            refine norm_ (a' := ?_) ?_ ?_
                            rotate_left
                            · show Act.put _ (some 22) _ = _
                              simp only [Act.put, List.setIfInBounds_toArray, List.set_cons_zero, List.set_cons_succ, i64_w, i32_w]
                              rfl
                            exact norm_ (by first | (simp only [putAll, Act.put, List.setIfInBounds_toArray, List.set_cons_zero, List.set_cons_succ]; done) | (simp only [putAll, Act.put, List.setIfInBounds_toArray, List.set_cons_zero, List.set_cons_succ]; rfl)) (hJ4_9_10 (v208, v211, v219, v222, gb228) _ ⟨hHeld, (by (with_reducible repeat (first | apply Kd.R_alloc | apply Kd.R_drewN | apply Kd.R_drew)); exact Kd.R_mono HO209.out (fun _ hk => hk.2)), (by (with_reducible repeat (first | apply Kd.R_alloc | apply Kd.R_drewN | apply Kd.R_drew)); exact Kd.R_mono HO212.out (fun _ hk => hk.2)), (by (with_reducible repeat (first | apply Kd.R_alloc | apply Kd.R_drewN | apply Kd.R_drew)); exact Kd.R_mono HO220.out (fun _ hk => hk.2)), (by (with_reducible repeat (first | apply Kd.R_alloc | apply Kd.R_drewN | apply Kd.R_drew)); exact Kd.R_mono HO223.out (fun _ hk => hk.2)), (by (with_reducible repeat (first | refine blk_drewN ?_ _ | refine blk_drew ?_ | refine blk_alloc ?_ _)); exact BK228.out), GW228.out, GE228.out, (by repeat (first | (with_reducible first | exact HB.out | apply below_alloc | apply pw_below_drewN | apply below_drew1 | refine below_set ?_ GE228.out) | exact HB.out))⟩)
                          · skip
                            refine box_step ?hg (N := 5) ?hd (cs := #[.slice none 0 0, .slice none 0 0, .int .i64 0, .int .i64 0, .bool false, .int .i64 0]) (t := 34) ?hr ?_; (case hd => rfl); (case hg => rfl); (case hr => first | (go_simp; done) | (go_simp; rfl))
                            intro gb229 hg w17 hbox hb
                            have n0_ := Aside0.mk (Kd.R_below (by (with_reducible repeat (first | apply Kd.R_alloc | apply Kd.R_drewN | apply Kd.R_drew)); exact HO209.out) hb)
                            have n1_ := Aside0.mk (Kd.R_below (by (with_reducible repeat (first | apply Kd.R_alloc | apply Kd.R_drewN | apply Kd.R_drew)); exact HO212.out) hb)
                            have n2_ := Aside0.mk (blk_below (g := gb228) (o := .cells #[.slice none 0 0, .slice none 0 0, .int .i64 0, .int .i64 0, .bool false, .int .i64 0] 34 (0, 0)) (by (with_reducible repeat (first | refine blk_drewN ?_ _ | refine blk_drew ?_ | refine blk_alloc ?_ _)); exact BK228.out) hb)
                            have n3_ := Aside0.mk (below_step (by repeat (first | (with_reducible first | exact HB.out | apply below_alloc | apply pw_below_drewN | apply below_drew1 | refine below_set ?_ GE228.out) | exact HB.out)) hb)
                            have n4_ := Aside0.mk (hbox)
                            have n5_ := Aside0.mk ((by rw [hg]; exact (below_size (by repeat (first | (with_reducible first | exact HB.out | apply below_alloc | apply pw_below_drewN | apply below_drew1 | refine below_set ?_ GE228.out) | exact HB.out))) : w.heap.size ≤ gb229))
                            have n6_ := Aside0.mk ((by rw [hg]; exact (below_size (by repeat (first | (with_reducible first | exact HB.out | apply below_alloc | apply pw_below_drewN | apply below_drew1 | refine below_set ?_ GE228.out) | exact HB.out))) : w.heap.size ≤ gb229))
                            have n7_ := Aside0.mk ((by rw [hg]; exact Nat.ne_of_lt (blk_lt (g := gb228) (o := .cells #[.slice none 0 0, .slice none 0 0, .int .i64 0, .int .i64 0, .bool false, .int .i64 0] 34 (0, 0)) (by (with_reducible repeat (first | refine blk_drewN ?_ _ | refine blk_drew ?_ | refine blk_alloc ?_ _)); exact BK228.out)) : gb228 ≠ gb229))
                            have n8_ := Aside0.mk ((by rw [hg]; exact Nat.ne_of_gt (blk_lt (g := gb228) (o := .cells #[.slice none 0 0, .slice none 0 0, .int .i64 0, .int .i64 0, .bool false, .int .i64 0] 34 (0, 0)) (by (with_reducible repeat (first | refine blk_drewN ?_ _ | refine blk_drew ?_ | refine blk_alloc ?_ _)); exact BK228.out)) : gb229 ≠ gb228))
                            clear HO209
                            clear HO212
                            clear BK228
                            clear HB
                            have HO209 := n0_
                            have HO212 := n1_
                            have BK228 := n2_
                            have HB := n3_
                            have BK229 := n4_
                            have GW229 := n5_
                            have GE229 := n6_
                            have NB228_229 := n7_
                            have NB229_228 := n8_
                            clear n0_ n1_ n2_ n3_ n4_ n5_ n6_ n7_ n8_
                            clear hb hbox hg
                            refine hK.out _ _ ⟨((HB.out.cell (World.block_lt_of_cell? w _ hw206_0)).trans hw206_0), ((HB.out.cell (World.block_lt_of_cell? w _ hw206_1)).trans hw206_1), ((HB.out.cell (World.block_lt_of_cell? w _ hw206_2)).trans hw206_2), ((HB.out.cell (World.block_lt_of_cell? w _ hw206_3)).trans hw206_3), ((HB.out.cell (World.block_lt_of_cell? w _ hw206_4)).trans hw206_4), ((HB.out.cell (World.block_lt_of_cell? w _ hw217_0)).trans hw217_0), ((HB.out.cell (World.block_lt_of_cell? w _ hw217_1)).trans hw217_1), ((HB.out.cell (World.block_lt_of_cell? w _ hw217_2)).trans hw217_2), ((HB.out.cell (World.block_lt_of_cell? w _ hw217_3)).trans hw217_3), ((HB.out.cell (World.block_lt_of_cell? w _ hw217_4)).trans hw217_4)⟩ (fun hHeld => ?_)
                            clear hK K
                            refine norm_ (a' := ?_) ?_ ?_
                            rotate_left
                            · show Act.put _ (some 5) _ = _
                              simp only [Act.put, List.setIfInBounds_toArray, List.set_cons_zero, List.set_cons_succ, i64_w, i32_w]
                              rfl
                            exact norm_ (by first | (simp only [putAll, Act.put, List.setIfInBounds_toArray, List.set_cons_zero, List.set_cons_succ]; done) | (simp only [putAll, Act.put, List.setIfInBounds_toArray, List.set_cons_zero, List.set_cons_succ]; rfl)) (hJ4_10_11 (v208, v211, gb228, gb229) _ ⟨hHeld, (by (with_reducible repeat (first | apply Kd.R_alloc | apply Kd.R_drewN | apply Kd.R_drew)); exact HO209.out), (by (with_reducible repeat (first | apply Kd.R_alloc | apply Kd.R_drewN | apply Kd.R_drew)); exact HO212.out), (by (with_reducible repeat (first | refine blk_drewN ?_ _ | refine blk_drew ?_ | refine blk_alloc ?_ _)); exact BK228.out), (by (with_reducible repeat (first | refine blk_drewN ?_ _ | refine blk_drew ?_ | refine blk_alloc ?_ _)); exact BK229.out), GW228.out, GE228.out, NB229_228.out, NB228_229.out, GW229.out, GE229.out, (by repeat (first | (with_reducible first | exact HB.out | apply below_alloc | apply pw_below_drewN | apply below_drew1 | refine below_set ?_ GE228.out | refine below_set ?_ GE229.out) | exact HB.out))⟩)
                      · skip
                        rintro ⟨v208, v211, v219, v222⟩ w16 ⟨hS_, h0_, h1_, h2_, h3_, h4_⟩
                        have n0_ : Aside0 (Kd.R Kd.string 9 w16 w.heap.size (fun k_ => some k_ ≠ (v219 : Value).ownBlock) v208 t207) := ⟨h0_⟩
                        have n1_ : Aside0 (Kd.R (Kd.int .i64) 3 w16 w.heap.size (fun k_ => some k_ ≠ (v222 : Value).ownBlock) v211 t210) := ⟨h1_⟩
                        have n2_ : Aside0 (Kd.R Kd.string 9 w16 w.heap.size (fun k_ => some k_ ≠ (v208 : Value).ownBlock) v219 t218) := ⟨h2_⟩
                        have n3_ : Aside0 (Kd.R (Kd.int .i64) 3 w16 w.heap.size (fun k_ => some k_ ≠ (v211 : Value).ownBlock) v222 t221) := ⟨h3_⟩
                        have n4_ : Aside0 (Below w.heap.size w w16) := ⟨h4_⟩
                        clear HB
                        clear h0_ h1_ h2_ h3_ h4_
                        have HO209 := n0_
                        have HO212 := n1_
                        have HO220 := n2_
                        have HO223 := n3_
                        have HB := n4_
                        clear n0_ n1_ n2_ n3_ n4_
                        have hHeld : w16.cell? (ad206.add ((x10_1).toNat * 5)) = some (.int .i64 ((rd_T37 l0 x10_1).f0)) ∧ w16.cell? ⟨(ad206.add ((x10_1).toNat * 5)).block, (ad206.add ((x10_1).toNat * 5)).off + 1, none⟩ = some (.string ((rd_T37 l0 x10_1).f1)) ∧ w16.cell? ⟨(ad206.add ((x10_1).toNat * 5)).block, (ad206.add ((x10_1).toNat * 5)).off + 2, none⟩ = some (.slice A206_2 ((rd_T37 l0 x10_1).f2).length c206_2) ∧ w16.cell? ⟨(ad206.add ((x10_1).toNat * 5)).block, (ad206.add ((x10_1).toNat * 5)).off + 3, none⟩ = some (.int .i64 ((rd_T37 l0 x10_1).f3)) ∧ w16.cell? ⟨(ad206.add ((x10_1).toNat * 5)).block, (ad206.add ((x10_1).toNat * 5)).off + 4, none⟩ = some (.int .i64 ((rd_T37 l0 x10_1).f4)) ∧ w16.cell? (ad206.add ((x10_1).toNat * 5)) = some (.int .i64 ((rd_T37 l0 x10_1).f0)) ∧ w16.cell? ⟨(ad206.add ((x10_1).toNat * 5)).block, (ad206.add ((x10_1).toNat * 5)).off + 1, none⟩ = some (.string ((rd_T37 l0 x10_1).f1)) ∧ w16.cell? ⟨(ad206.add ((x10_1).toNat * 5)).block, (ad206.add ((x10_1).toNat * 5)).off + 2, none⟩ = some (.slice A206_2 ((rd_T37 l0 x10_1).f2).length c206_2) ∧ w16.cell? ⟨(ad206.add ((x10_1).toNat * 5)).block, (ad206.add ((x10_1).toNat * 5)).off + 3, none⟩ = some (.int .i64 ((rd_T37 l0 x10_1).f3)) ∧ w16.cell? ⟨(ad206.add ((x10_1).toNat * 5)).block, (ad206.add ((x10_1).toNat * 5)).off + 4, none⟩ = some (.int .i64 ((rd_T37 l0 x10_1).f4)) := hS_
                        refine norm_ (a' := ?_) ?_ ?_
                        rotate_left
                        · simp only [putAll, Act.put, List.setIfInBounds_toArray, List.set_cons_zero, List.set_cons_succ]
                          rfl
                        refine two_ (i := 10) (j := 11) (Ni := some 4) (Nj := some 5) #[true, true, true, true, true, true, true, true, true, true, true, false, false, false] #[true, true, true, true, true, true, true, true, true, true, false, true, false, false] rfl rfl rfl rfl (two_of HT_.out (by kernel_rfl)) (by decide) (by decide) (fun K hK => ?_) (fun K hK => ?_)
                        · skip
                          refine box_step ?hg (N := 4) ?hd (cs := #[.slice none 0 0, .slice none 0 0, .int .i64 0, .int .i64 0, .bool false, .int .i64 0]) (t := 34) ?hr ?_; (case hd => rfl); (case hg => rfl); (case hr => first | (go_simp; done) | (go_simp; rfl))
                          intro gb228 hg w17 hbox hb
                          have n0_ := Aside0.mk (Kd.R_below (by (with_reducible repeat (first | apply Kd.R_alloc | apply Kd.R_drewN | apply Kd.R_drew)); exact HO209.out) hb)
                          have n1_ := Aside0.mk (Kd.R_below (by (with_reducible repeat (first | apply Kd.R_alloc | apply Kd.R_drewN | apply Kd.R_drew)); exact HO212.out) hb)
                          have n2_ := Aside0.mk (Kd.R_below (by (with_reducible repeat (first | apply Kd.R_alloc | apply Kd.R_drewN | apply Kd.R_drew)); exact HO220.out) hb)
                          have n3_ := Aside0.mk (Kd.R_below (by (with_reducible repeat (first | apply Kd.R_alloc | apply Kd.R_drewN | apply Kd.R_drew)); exact HO223.out) hb)
                          have n4_ := Aside0.mk (below_step (by repeat (first | (with_reducible first | exact HB.out | apply below_alloc | apply pw_below_drewN | apply below_drew1) | exact HB.out)) hb)
                          have n5_ := Aside0.mk (hbox)
                          have n6_ := Aside0.mk ((by rw [hg]; exact (below_size (by repeat (first | (with_reducible first | exact HB.out | apply below_alloc | apply pw_below_drewN | apply below_drew1) | exact HB.out))) : w.heap.size ≤ gb228))
                          have n7_ := Aside0.mk ((by rw [hg]; exact (below_size (by repeat (first | (with_reducible first | exact HB.out | apply below_alloc | apply pw_below_drewN | apply below_drew1) | exact HB.out))) : w.heap.size ≤ gb228))
                          clear HO209
                          clear HO212
                          clear HO220
                          clear HO223
                          clear HB
                          have HO209 := n0_
                          have HO212 := n1_
                          have HO220 := n2_
                          have HO223 := n3_
                          have HB := n4_
                          have BK228 := n5_
                          have GW228 := n6_
                          have GE228 := n7_
                          clear n0_ n1_ n2_ n3_ n4_ n5_ n6_ n7_
                          clear hb hbox hg
                          refine hK.out _ _ ⟨((HB.out.cell (World.block_lt_of_cell? w _ hw206_0)).trans hw206_0), ((HB.out.cell (World.block_lt_of_cell? w _ hw206_1)).trans hw206_1), ((HB.out.cell (World.block_lt_of_cell? w _ hw206_2)).trans hw206_2), ((HB.out.cell (World.block_lt_of_cell? w _ hw206_3)).trans hw206_3), ((HB.out.cell (World.block_lt_of_cell? w _ hw206_4)).trans hw206_4), ((HB.out.cell (World.block_lt_of_cell? w _ hw217_0)).trans hw217_0), ((HB.out.cell (World.block_lt_of_cell? w _ hw217_1)).trans hw217_1), ((HB.out.cell (World.block_lt_of_cell? w _ hw217_2)).trans hw217_2), ((HB.out.cell (World.block_lt_of_cell? w _ hw217_3)).trans hw217_3), ((HB.out.cell (World.block_lt_of_cell? w _ hw217_4)).trans hw217_4)⟩ (fun hHeld => ?_)
                          clear hK K
                          refine norm_ (a' := ?_) ?_ ?_
                          rotate_left
                          · show Act.put _ (some 4) _ = _
                            simp only [Act.put, List.setIfInBounds_toArray, List.set_cons_zero, List.set_cons_succ, i64_w, i32_w]
                            rfl
                          exact norm_ (by first | (simp only [putAll, Act.put, List.setIfInBounds_toArray, List.set_cons_zero, List.set_cons_succ]; done) | (simp only [putAll, Act.put, List.setIfInBounds_toArray, List.set_cons_zero, List.set_cons_succ]; rfl)) (hJ4_9_10 (v208, v211, v219, v222, gb228) _ ⟨hHeld, (by (with_reducible repeat (first | apply Kd.R_alloc | apply Kd.R_drewN | apply Kd.R_drew)); exact HO209.out), (by (with_reducible repeat (first | apply Kd.R_alloc | apply Kd.R_drewN | apply Kd.R_drew)); exact HO212.out), (by (with_reducible repeat (first | apply Kd.R_alloc | apply Kd.R_drewN | apply Kd.R_drew)); exact HO220.out), (by (with_reducible repeat (first | apply Kd.R_alloc | apply Kd.R_drewN | apply Kd.R_drew)); exact HO223.out), (by (with_reducible repeat (first | refine blk_drewN ?_ _ | refine blk_drew ?_ | refine blk_alloc ?_ _)); exact BK228.out), GW228.out, GE228.out, (by repeat (first | (with_reducible first | exact HB.out | apply below_alloc | apply pw_below_drewN | apply below_drew1 | refine below_set ?_ GE228.out) | exact HB.out))⟩)
                        · skip
                          refine box_step ?hg (N := 5) ?hd (cs := #[.slice none 0 0, .slice none 0 0, .int .i64 0, .int .i64 0, .bool false, .int .i64 0]) (t := 34) ?hr ?_; (case hd => rfl); (case hg => rfl); (case hr => first | (go_simp; done) | (go_simp; rfl))
                          intro gb229 hg w17 hbox hb
                          have n0_ := Aside0.mk (Kd.R_below (by (with_reducible repeat (first | apply Kd.R_alloc | apply Kd.R_drewN | apply Kd.R_drew)); exact HO209.out) hb)
                          have n1_ := Aside0.mk (Kd.R_below (by (with_reducible repeat (first | apply Kd.R_alloc | apply Kd.R_drewN | apply Kd.R_drew)); exact HO212.out) hb)
                          have n2_ := Aside0.mk (Kd.R_below (by (with_reducible repeat (first | apply Kd.R_alloc | apply Kd.R_drewN | apply Kd.R_drew)); exact HO220.out) hb)
                          have n3_ := Aside0.mk (Kd.R_below (by (with_reducible repeat (first | apply Kd.R_alloc | apply Kd.R_drewN | apply Kd.R_drew)); exact HO223.out) hb)
                          have n4_ := Aside0.mk (below_step (by repeat (first | (with_reducible first | exact HB.out | apply below_alloc | apply pw_below_drewN | apply below_drew1) | exact HB.out)) hb)
                          have n5_ := Aside0.mk (hbox)
                          have n6_ := Aside0.mk ((by rw [hg]; exact (below_size (by repeat (first | (with_reducible first | exact HB.out | apply below_alloc | apply pw_below_drewN | apply below_drew1) | exact HB.out))) : w.heap.size ≤ gb229))
                          have n7_ := Aside0.mk ((by rw [hg]; exact (below_size (by repeat (first | (with_reducible first | exact HB.out | apply below_alloc | apply pw_below_drewN | apply below_drew1) | exact HB.out))) : w.heap.size ≤ gb229))
                          clear HO209
                          clear HO212
                          clear HO220
                          clear HO223
                          clear HB
                          have HO209 := n0_
                          have HO212 := n1_
                          have HO220 := n2_
                          have HO223 := n3_
                          have HB := n4_
                          have BK229 := n5_
                          have GW229 := n6_
                          have GE229 := n7_
                          clear n0_ n1_ n2_ n3_ n4_ n5_ n6_ n7_
                          clear hb hbox hg
                          refine hK.out _ _ ⟨((HB.out.cell (World.block_lt_of_cell? w _ hw206_0)).trans hw206_0), ((HB.out.cell (World.block_lt_of_cell? w _ hw206_1)).trans hw206_1), ((HB.out.cell (World.block_lt_of_cell? w _ hw206_2)).trans hw206_2), ((HB.out.cell (World.block_lt_of_cell? w _ hw206_3)).trans hw206_3), ((HB.out.cell (World.block_lt_of_cell? w _ hw206_4)).trans hw206_4), ((HB.out.cell (World.block_lt_of_cell? w _ hw217_0)).trans hw217_0), ((HB.out.cell (World.block_lt_of_cell? w _ hw217_1)).trans hw217_1), ((HB.out.cell (World.block_lt_of_cell? w _ hw217_2)).trans hw217_2), ((HB.out.cell (World.block_lt_of_cell? w _ hw217_3)).trans hw217_3), ((HB.out.cell (World.block_lt_of_cell? w _ hw217_4)).trans hw217_4)⟩ (fun hHeld => ?_)
                          clear hK K
                          refine norm_ (a' := ?_) ?_ ?_
                          rotate_left
                          · show Act.put _ (some 5) _ = _
                            simp only [Act.put, List.setIfInBounds_toArray, List.set_cons_zero, List.set_cons_succ, i64_w, i32_w]
                            rfl
                          exact norm_ (by first | (simp only [putAll, Act.put, List.setIfInBounds_toArray, List.set_cons_zero, List.set_cons_succ]; done) | (simp only [putAll, Act.put, List.setIfInBounds_toArray, List.set_cons_zero, List.set_cons_succ]; rfl)) (hJ4_9_11 (v208, v211, v219, v222, gb229) _ ⟨hHeld, (by (with_reducible repeat (first | apply Kd.R_alloc | apply Kd.R_drewN | apply Kd.R_drew)); exact HO209.out), (by (with_reducible repeat (first | apply Kd.R_alloc | apply Kd.R_drewN | apply Kd.R_drew)); exact HO212.out), (by (with_reducible repeat (first | apply Kd.R_alloc | apply Kd.R_drewN | apply Kd.R_drew)); exact HO220.out), (by (with_reducible repeat (first | apply Kd.R_alloc | apply Kd.R_drewN | apply Kd.R_drew)); exact HO223.out), (by (with_reducible repeat (first | refine blk_drewN ?_ _ | refine blk_drew ?_ | refine blk_alloc ?_ _)); exact BK229.out), GW229.out, GE229.out, (by repeat (first | (with_reducible first | exact HB.out | apply below_alloc | apply pw_below_drewN | apply below_drew1 | refine below_set ?_ GE229.out) | exact HB.out))⟩)
                    · skip
                      rintro ⟨v208, v211, gb228, gb229⟩ w17 ⟨hS_, h0_, h1_, h2_, h3_, h4_, h5_, h6_, h7_, h8_, h9_, h10_⟩
                      have n0_ : Aside0 (Kd.R Kd.string 9 w17 w.heap.size (fun _ => True) v208 t207) := ⟨h0_⟩
                      have n1_ : Aside0 (Kd.R (Kd.int .i64) 3 w17 w.heap.size (fun _ => True) v211 t210) := ⟨h1_⟩
                      have n2_ : Aside0 (w17.heap[gb228]? = some (.cells #[.slice none 0 0, .slice none 0 0, .int .i64 0, .int .i64 0, .bool false, .int .i64 0] 34 (0, 0))) := ⟨h2_⟩
                      have n3_ : Aside0 (w17.heap[gb229]? = some (.cells #[.slice none 0 0, .slice none 0 0, .int .i64 0, .int .i64 0, .bool false, .int .i64 0] 34 (0, 0))) := ⟨h3_⟩
                      have n4_ : Aside0 (w.heap.size ≤ gb228) := ⟨h4_⟩
                      have n5_ : Aside0 (w.heap.size ≤ gb228) := ⟨h5_⟩
                      have n6_ : Aside0 (gb229 ≠ gb228) := ⟨h6_⟩
                      have n7_ : Aside0 (gb228 ≠ gb229) := ⟨h7_⟩
                      have n8_ : Aside0 (w.heap.size ≤ gb229) := ⟨h8_⟩
                      have n9_ : Aside0 (w.heap.size ≤ gb229) := ⟨h9_⟩
                      have n10_ : Aside0 (Below w.heap.size w w17) := ⟨h10_⟩
                      clear HB
                      clear h0_ h1_ h2_ h3_ h4_ h5_ h6_ h7_ h8_ h9_ h10_
                      have HO209 := n0_
                      have HO212 := n1_
                      have BK228 := n2_
                      have BK229 := n3_
                      have GW228 := n4_
                      have GE228 := n5_
                      have NB229_228 := n6_
                      have NB228_229 := n7_
                      have GW229 := n8_
                      have GE229 := n9_
                      have HB := n10_
                      clear n0_ n1_ n2_ n3_ n4_ n5_ n6_ n7_ n8_ n9_ n10_
                      have hHeld : w17.cell? (ad206.add ((x10_1).toNat * 5)) = some (.int .i64 ((rd_T37 l0 x10_1).f0)) ∧ w17.cell? ⟨(ad206.add ((x10_1).toNat * 5)).block, (ad206.add ((x10_1).toNat * 5)).off + 1, none⟩ = some (.string ((rd_T37 l0 x10_1).f1)) ∧ w17.cell? ⟨(ad206.add ((x10_1).toNat * 5)).block, (ad206.add ((x10_1).toNat * 5)).off + 2, none⟩ = some (.slice A206_2 ((rd_T37 l0 x10_1).f2).length c206_2) ∧ w17.cell? ⟨(ad206.add ((x10_1).toNat * 5)).block, (ad206.add ((x10_1).toNat * 5)).off + 3, none⟩ = some (.int .i64 ((rd_T37 l0 x10_1).f3)) ∧ w17.cell? ⟨(ad206.add ((x10_1).toNat * 5)).block, (ad206.add ((x10_1).toNat * 5)).off + 4, none⟩ = some (.int .i64 ((rd_T37 l0 x10_1).f4)) ∧ w17.cell? (ad206.add ((x10_1).toNat * 5)) = some (.int .i64 ((rd_T37 l0 x10_1).f0)) ∧ w17.cell? ⟨(ad206.add ((x10_1).toNat * 5)).block, (ad206.add ((x10_1).toNat * 5)).off + 1, none⟩ = some (.string ((rd_T37 l0 x10_1).f1)) ∧ w17.cell? ⟨(ad206.add ((x10_1).toNat * 5)).block, (ad206.add ((x10_1).toNat * 5)).off + 2, none⟩ = some (.slice A206_2 ((rd_T37 l0 x10_1).f2).length c206_2) ∧ w17.cell? ⟨(ad206.add ((x10_1).toNat * 5)).block, (ad206.add ((x10_1).toNat * 5)).off + 3, none⟩ = some (.int .i64 ((rd_T37 l0 x10_1).f3)) ∧ w17.cell? ⟨(ad206.add ((x10_1).toNat * 5)).block, (ad206.add ((x10_1).toNat * 5)).off + 4, none⟩ = some (.int .i64 ((rd_T37 l0 x10_1).f4)) := hS_
                      refine norm_ (a' := ?_) ?_ ?_
                      rotate_left
                      · simp only [putAll, Act.put, List.setIfInBounds_toArray, List.set_cons_zero, List.set_cons_succ]
                        rfl
                      refine one_ (i := 9) (N := some 22) #[true, true, true, true, true, true, true, true, true, true, true, true, false, false] rfl rfl (one_of HT_.out (by kernel_rfl)) (by decide) (fun K hK => ?_)
                      refine goes_ Tryd.func12 (by kernel_rfl) rfl #[.agg #[.int .i64 ((rd_T37 l0 x10_1).f0), .string ((rd_T37 l0 x10_1).f1), .slice A206_2 ((rd_T37 l0 x10_1).f2).length c206_2, .int .i64 ((rd_T37 l0 x10_1).f3), .int .i64 ((rd_T37 l0 x10_1).f4)]] (by rfl) rfl rfl (by (try simp only [List.map_toArray, List.map_cons, List.map_nil]); first | done | rfl | (simp only [List.length_drop, List.length_take]; rfl)) ?_
                      with_reducible refine (pylonlaw06_wants.calls k1 ((rd_T37 l0 x10_1).f0) ((rd_T37 l0 x10_1).f1) _ _ ((rd_T37 l0 x10_1).f2) ((rd_T37 l0 x10_1).f3) ((rd_T37 l0 x10_1).f4) t218 t221 t224 t225 t226 t227 _ ?side1 ?side2 A9.out).mono ?_
                      (case side1 => repeat (first | exact (Kd.C_below HR217_2.out HB.out) | (with_reducible refine Kd.C_alloc ?_ _) | (with_reducible refine Kd.C_drewN ?_ _) | (with_reducible refine Kd.C_drew ?_)))
                      (case side2 => exact HC217_2.out)
                      rintro e w18 ⟨v219, v222, rfl, ho0, ho1, hb⟩
                      refine ⟨_, rfl, ?_⟩
                      have n0_ := Aside0.mk (Kd.R_elder' (by (with_reducible repeat (first | apply Kd.R_alloc | apply Kd.R_drewN | apply Kd.R_drew)); exact HO209.out) (Kd.R_base ho0) hb)
                      have n1_ := Aside0.mk (Kd.R_elder' (by (with_reducible repeat (first | apply Kd.R_alloc | apply Kd.R_drewN | apply Kd.R_drew)); exact HO212.out) (Kd.R_base ho1) hb)
                      have n2_ := Aside0.mk (Kd.R_lower (Kd.R_new' ho0 (Kd.R_lt (by (with_reducible repeat (first | apply Kd.R_alloc | apply Kd.R_drewN | apply Kd.R_drew)); exact HO209.out))) (below_size (by repeat (first | (with_reducible first | exact HB.out | apply below_alloc | apply pw_below_drewN | apply below_drew1 | refine below_set ?_ GE228.out | refine below_set ?_ GE229.out) | exact HB.out))))
                      have n3_ := Aside0.mk (Kd.R_lower (Kd.R_new' ho1 (Kd.R_lt (by (with_reducible repeat (first | apply Kd.R_alloc | apply Kd.R_drewN | apply Kd.R_drew)); exact HO212.out))) (below_size (by repeat (first | (with_reducible first | exact HB.out | apply below_alloc | apply pw_below_drewN | apply below_drew1 | refine below_set ?_ GE228.out | refine below_set ?_ GE229.out) | exact HB.out))))
                      have n4_ := Aside0.mk (blk_below (g := gb228) (o := .cells #[.slice none 0 0, .slice none 0 0, .int .i64 0, .int .i64 0, .bool false, .int .i64 0] 34 (0, 0)) (by (with_reducible repeat (first | refine blk_drewN ?_ _ | refine blk_drew ?_ | refine blk_alloc ?_ _)); exact BK228.out) hb)
                      have n5_ := Aside0.mk (blk_below (g := gb229) (o := .cells #[.slice none 0 0, .slice none 0 0, .int .i64 0, .int .i64 0, .bool false, .int .i64 0] 34 (0, 0)) (by (with_reducible repeat (first | refine blk_drewN ?_ _ | refine blk_drew ?_ | refine blk_alloc ?_ _)); exact BK229.out) hb)
                      have n6_ := Aside0.mk (below_step (by repeat (first | (with_reducible first | exact HB.out | apply below_alloc | apply pw_below_drewN | apply below_drew1 | refine below_set ?_ GE228.out | refine below_set ?_ GE229.out) | exact HB.out)) hb)
                      clear HO209
                      clear HO212
                      clear BK228
                      clear BK229
                      clear HB
                      have HO209 := n0_
                      have HO212 := n1_
                      have HO220 := n2_
                      have HO223 := n3_
                      have BK228 := n4_
                      have BK229 := n5_
                      have HB := n6_
                      clear n0_ n1_ n2_ n3_ n4_ n5_ n6_
                      (try clear hb)
                      (try clear hb2)
                      (try clear hk)
                      (try clear hi)
                      (try clear ho0)
                      (try clear ho1)
                      refine hK.out _ _ ⟨((HB.out.cell (World.block_lt_of_cell? w _ hw206_0)).trans hw206_0), ((HB.out.cell (World.block_lt_of_cell? w _ hw206_1)).trans hw206_1), ((HB.out.cell (World.block_lt_of_cell? w _ hw206_2)).trans hw206_2), ((HB.out.cell (World.block_lt_of_cell? w _ hw206_3)).trans hw206_3), ((HB.out.cell (World.block_lt_of_cell? w _ hw206_4)).trans hw206_4), ((HB.out.cell (World.block_lt_of_cell? w _ hw217_0)).trans hw217_0), ((HB.out.cell (World.block_lt_of_cell? w _ hw217_1)).trans hw217_1), ((HB.out.cell (World.block_lt_of_cell? w _ hw217_2)).trans hw217_2), ((HB.out.cell (World.block_lt_of_cell? w _ hw217_3)).trans hw217_3), ((HB.out.cell (World.block_lt_of_cell? w _ hw217_4)).trans hw217_4)⟩ (fun hHeld => ?_)
                      clear hK K
                      refine norm_ (a' := ?_) ?_ ?_
                      rotate_left
                      · show Act.put _ (some 22) _ = _
                        simp only [Act.put, List.setIfInBounds_toArray, List.set_cons_zero, List.set_cons_succ, i64_w, i32_w]
                        rfl
                      exact norm_ (by first | (simp only [putAll, Act.put, List.setIfInBounds_toArray, List.set_cons_zero, List.set_cons_succ]; done) | (simp only [putAll, Act.put, List.setIfInBounds_toArray, List.set_cons_zero, List.set_cons_succ]; rfl)) (hJ4_9_10_11 (v208, v211, v219, v222, gb228, gb229) _ ⟨hHeld, (by (with_reducible repeat (first | apply Kd.R_alloc | apply Kd.R_drewN | apply Kd.R_drew)); exact Kd.R_mono HO209.out (fun _ hk => hk.2)), (by (with_reducible repeat (first | apply Kd.R_alloc | apply Kd.R_drewN | apply Kd.R_drew)); exact Kd.R_mono HO212.out (fun _ hk => hk.2)), (by (with_reducible repeat (first | apply Kd.R_alloc | apply Kd.R_drewN | apply Kd.R_drew)); exact Kd.R_mono HO220.out (fun _ hk => hk.2)), (by (with_reducible repeat (first | apply Kd.R_alloc | apply Kd.R_drewN | apply Kd.R_drew)); exact Kd.R_mono HO223.out (fun _ hk => hk.2)), (by (with_reducible repeat (first | refine blk_drewN ?_ _ | refine blk_drew ?_ | refine blk_alloc ?_ _)); exact BK228.out), (by (with_reducible repeat (first | refine blk_drewN ?_ _ | refine blk_drew ?_ | refine blk_alloc ?_ _)); exact BK229.out), GW228.out, GE228.out, NB229_228.out, NB228_229.out, GW229.out, GE229.out, (by repeat (first | (with_reducible first | exact HB.out | apply below_alloc | apply pw_below_drewN | apply below_drew1 | refine below_set ?_ GE228.out | refine below_set ?_ GE229.out) | exact HB.out))⟩)
                  · skip
                    rintro ⟨v208, v211, v219, v222, gb229⟩ w17 ⟨hS_, h0_, h1_, h2_, h3_, h4_, h5_, h6_, h7_⟩
                    have n0_ : Aside0 (Kd.R Kd.string 9 w17 w.heap.size (fun k_ => some k_ ≠ (v219 : Value).ownBlock) v208 t207) := ⟨h0_⟩
                    have n1_ : Aside0 (Kd.R (Kd.int .i64) 3 w17 w.heap.size (fun k_ => some k_ ≠ (v222 : Value).ownBlock) v211 t210) := ⟨h1_⟩
                    have n2_ : Aside0 (Kd.R Kd.string 9 w17 w.heap.size (fun k_ => some k_ ≠ (v208 : Value).ownBlock) v219 t218) := ⟨h2_⟩
                    have n3_ : Aside0 (Kd.R (Kd.int .i64) 3 w17 w.heap.size (fun k_ => some k_ ≠ (v211 : Value).ownBlock) v222 t221) := ⟨h3_⟩
                    have n4_ : Aside0 (w17.heap[gb229]? = some (.cells #[.slice none 0 0, .slice none 0 0, .int .i64 0, .int .i64 0, .bool false, .int .i64 0] 34 (0, 0))) := ⟨h4_⟩
                    have n5_ : Aside0 (w.heap.size ≤ gb229) := ⟨h5_⟩
                    have n6_ : Aside0 (w.heap.size ≤ gb229) := ⟨h6_⟩
                    have n7_ : Aside0 (Below w.heap.size w w17) := ⟨h7_⟩
                    clear HB
                    clear h0_ h1_ h2_ h3_ h4_ h5_ h6_ h7_
                    have HO209 := n0_
                    have HO212 := n1_
                    have HO220 := n2_
                    have HO223 := n3_
                    have BK229 := n4_
                    have GW229 := n5_
                    have GE229 := n6_
                    have HB := n7_
                    clear n0_ n1_ n2_ n3_ n4_ n5_ n6_ n7_
                    have hHeld : w17.cell? (ad206.add ((x10_1).toNat * 5)) = some (.int .i64 ((rd_T37 l0 x10_1).f0)) ∧ w17.cell? ⟨(ad206.add ((x10_1).toNat * 5)).block, (ad206.add ((x10_1).toNat * 5)).off + 1, none⟩ = some (.string ((rd_T37 l0 x10_1).f1)) ∧ w17.cell? ⟨(ad206.add ((x10_1).toNat * 5)).block, (ad206.add ((x10_1).toNat * 5)).off + 2, none⟩ = some (.slice A206_2 ((rd_T37 l0 x10_1).f2).length c206_2) ∧ w17.cell? ⟨(ad206.add ((x10_1).toNat * 5)).block, (ad206.add ((x10_1).toNat * 5)).off + 3, none⟩ = some (.int .i64 ((rd_T37 l0 x10_1).f3)) ∧ w17.cell? ⟨(ad206.add ((x10_1).toNat * 5)).block, (ad206.add ((x10_1).toNat * 5)).off + 4, none⟩ = some (.int .i64 ((rd_T37 l0 x10_1).f4)) ∧ w17.cell? (ad206.add ((x10_1).toNat * 5)) = some (.int .i64 ((rd_T37 l0 x10_1).f0)) ∧ w17.cell? ⟨(ad206.add ((x10_1).toNat * 5)).block, (ad206.add ((x10_1).toNat * 5)).off + 1, none⟩ = some (.string ((rd_T37 l0 x10_1).f1)) ∧ w17.cell? ⟨(ad206.add ((x10_1).toNat * 5)).block, (ad206.add ((x10_1).toNat * 5)).off + 2, none⟩ = some (.slice A206_2 ((rd_T37 l0 x10_1).f2).length c206_2) ∧ w17.cell? ⟨(ad206.add ((x10_1).toNat * 5)).block, (ad206.add ((x10_1).toNat * 5)).off + 3, none⟩ = some (.int .i64 ((rd_T37 l0 x10_1).f3)) ∧ w17.cell? ⟨(ad206.add ((x10_1).toNat * 5)).block, (ad206.add ((x10_1).toNat * 5)).off + 4, none⟩ = some (.int .i64 ((rd_T37 l0 x10_1).f4)) := hS_
                    refine norm_ (a' := ?_) ?_ ?_
                    rotate_left
                    · simp only [putAll, Act.put, List.setIfInBounds_toArray, List.set_cons_zero, List.set_cons_succ]
                      rfl
                    refine one_ (i := 10) (N := some 4) #[true, true, true, true, true, true, true, true, true, true, true, true, false, false] rfl rfl (one_of HT_.out (by kernel_rfl)) (by decide) (fun K hK => ?_)
                    refine box_step ?hg (N := 4) ?hd (cs := #[.slice none 0 0, .slice none 0 0, .int .i64 0, .int .i64 0, .bool false, .int .i64 0]) (t := 34) ?hr ?_; (case hd => rfl); (case hg => rfl); (case hr => first | (go_simp; done) | (go_simp; rfl))
                    intro gb228 hg w18 hbox hb
                    have n0_ := Aside0.mk (Kd.R_below (by (with_reducible repeat (first | apply Kd.R_alloc | apply Kd.R_drewN | apply Kd.R_drew)); exact HO209.out) hb)
                    have n1_ := Aside0.mk (Kd.R_below (by (with_reducible repeat (first | apply Kd.R_alloc | apply Kd.R_drewN | apply Kd.R_drew)); exact HO212.out) hb)
                    have n2_ := Aside0.mk (Kd.R_below (by (with_reducible repeat (first | apply Kd.R_alloc | apply Kd.R_drewN | apply Kd.R_drew)); exact HO220.out) hb)
                    have n3_ := Aside0.mk (Kd.R_below (by (with_reducible repeat (first | apply Kd.R_alloc | apply Kd.R_drewN | apply Kd.R_drew)); exact HO223.out) hb)
                    have n4_ := Aside0.mk (blk_below (g := gb229) (o := .cells #[.slice none 0 0, .slice none 0 0, .int .i64 0, .int .i64 0, .bool false, .int .i64 0] 34 (0, 0)) (by (with_reducible repeat (first | refine blk_drewN ?_ _ | refine blk_drew ?_ | refine blk_alloc ?_ _)); exact BK229.out) hb)
                    have n5_ := Aside0.mk (below_step (by repeat (first | (with_reducible first | exact HB.out | apply below_alloc | apply pw_below_drewN | apply below_drew1 | refine below_set ?_ GE229.out) | exact HB.out)) hb)
                    have n6_ := Aside0.mk (hbox)
                    have n7_ := Aside0.mk ((by rw [hg]; exact (below_size (by repeat (first | (with_reducible first | exact HB.out | apply below_alloc | apply pw_below_drewN | apply below_drew1 | refine below_set ?_ GE229.out) | exact HB.out))) : w.heap.size ≤ gb228))
                    have n8_ := Aside0.mk ((by rw [hg]; exact (below_size (by repeat (first | (with_reducible first | exact HB.out | apply below_alloc | apply pw_below_drewN | apply below_drew1 | refine below_set ?_ GE229.out) | exact HB.out))) : w.heap.size ≤ gb228))
                    have n9_ := Aside0.mk ((by rw [hg]; exact Nat.ne_of_lt (blk_lt (g := gb229) (o := .cells #[.slice none 0 0, .slice none 0 0, .int .i64 0, .int .i64 0, .bool false, .int .i64 0] 34 (0, 0)) (by (with_reducible repeat (first | refine blk_drewN ?_ _ | refine blk_drew ?_ | refine blk_alloc ?_ _)); exact BK229.out)) : gb229 ≠ gb228))
                    have n10_ := Aside0.mk ((by rw [hg]; exact Nat.ne_of_gt (blk_lt (g := gb229) (o := .cells #[.slice none 0 0, .slice none 0 0, .int .i64 0, .int .i64 0, .bool false, .int .i64 0] 34 (0, 0)) (by (with_reducible repeat (first | refine blk_drewN ?_ _ | refine blk_drew ?_ | refine blk_alloc ?_ _)); exact BK229.out)) : gb228 ≠ gb229))
                    clear HO209
                    clear HO212
                    clear HO220
                    clear HO223
                    clear BK229
                    clear HB
                    have HO209 := n0_
                    have HO212 := n1_
                    have HO220 := n2_
                    have HO223 := n3_
                    have BK229 := n4_
                    have HB := n5_
                    have BK228 := n6_
                    have GW228 := n7_
                    have GE228 := n8_
                    have NB229_228 := n9_
                    have NB228_229 := n10_
                    clear n0_ n1_ n2_ n3_ n4_ n5_ n6_ n7_ n8_ n9_ n10_
                    clear hb hbox hg
                    refine hK.out _ _ ⟨((HB.out.cell (World.block_lt_of_cell? w _ hw206_0)).trans hw206_0), ((HB.out.cell (World.block_lt_of_cell? w _ hw206_1)).trans hw206_1), ((HB.out.cell (World.block_lt_of_cell? w _ hw206_2)).trans hw206_2), ((HB.out.cell (World.block_lt_of_cell? w _ hw206_3)).trans hw206_3), ((HB.out.cell (World.block_lt_of_cell? w _ hw206_4)).trans hw206_4), ((HB.out.cell (World.block_lt_of_cell? w _ hw217_0)).trans hw217_0), ((HB.out.cell (World.block_lt_of_cell? w _ hw217_1)).trans hw217_1), ((HB.out.cell (World.block_lt_of_cell? w _ hw217_2)).trans hw217_2), ((HB.out.cell (World.block_lt_of_cell? w _ hw217_3)).trans hw217_3), ((HB.out.cell (World.block_lt_of_cell? w _ hw217_4)).trans hw217_4)⟩ (fun hHeld => ?_)
                    clear hK K
                    refine norm_ (a' := ?_) ?_ ?_
                    rotate_left
                    · show Act.put _ (some 4) _ = _
                      simp only [Act.put, List.setIfInBounds_toArray, List.set_cons_zero, List.set_cons_succ, i64_w, i32_w]
                      rfl
                    exact norm_ (by first | (simp only [putAll, Act.put, List.setIfInBounds_toArray, List.set_cons_zero, List.set_cons_succ]; done) | (simp only [putAll, Act.put, List.setIfInBounds_toArray, List.set_cons_zero, List.set_cons_succ]; rfl)) (hJ4_9_10_11 (v208, v211, v219, v222, gb228, gb229) _ ⟨hHeld, (by (with_reducible repeat (first | apply Kd.R_alloc | apply Kd.R_drewN | apply Kd.R_drew)); exact HO209.out), (by (with_reducible repeat (first | apply Kd.R_alloc | apply Kd.R_drewN | apply Kd.R_drew)); exact HO212.out), (by (with_reducible repeat (first | apply Kd.R_alloc | apply Kd.R_drewN | apply Kd.R_drew)); exact HO220.out), (by (with_reducible repeat (first | apply Kd.R_alloc | apply Kd.R_drewN | apply Kd.R_drew)); exact HO223.out), (by (with_reducible repeat (first | refine blk_drewN ?_ _ | refine blk_drew ?_ | refine blk_alloc ?_ _)); exact BK228.out), (by (with_reducible repeat (first | refine blk_drewN ?_ _ | refine blk_drew ?_ | refine blk_alloc ?_ _)); exact BK229.out), GW228.out, GE228.out, NB229_228.out, NB228_229.out, GW229.out, GE229.out, (by repeat (first | (with_reducible first | exact HB.out | apply below_alloc | apply pw_below_drewN | apply below_drew1 | refine below_set ?_ GE229.out | refine below_set ?_ GE228.out) | exact HB.out))⟩)
                · skip
                  rintro ⟨v208, v211, v219, v222, gb228⟩ w17 ⟨hS_, h0_, h1_, h2_, h3_, h4_, h5_, h6_, h7_⟩
                  have n0_ : Aside0 (Kd.R Kd.string 9 w17 w.heap.size (fun k_ => some k_ ≠ (v219 : Value).ownBlock) v208 t207) := ⟨h0_⟩
                  have n1_ : Aside0 (Kd.R (Kd.int .i64) 3 w17 w.heap.size (fun k_ => some k_ ≠ (v222 : Value).ownBlock) v211 t210) := ⟨h1_⟩
                  have n2_ : Aside0 (Kd.R Kd.string 9 w17 w.heap.size (fun k_ => some k_ ≠ (v208 : Value).ownBlock) v219 t218) := ⟨h2_⟩
                  have n3_ : Aside0 (Kd.R (Kd.int .i64) 3 w17 w.heap.size (fun k_ => some k_ ≠ (v211 : Value).ownBlock) v222 t221) := ⟨h3_⟩
                  have n4_ : Aside0 (w17.heap[gb228]? = some (.cells #[.slice none 0 0, .slice none 0 0, .int .i64 0, .int .i64 0, .bool false, .int .i64 0] 34 (0, 0))) := ⟨h4_⟩
                  have n5_ : Aside0 (w.heap.size ≤ gb228) := ⟨h5_⟩
                  have n6_ : Aside0 (w.heap.size ≤ gb228) := ⟨h6_⟩
                  have n7_ : Aside0 (Below w.heap.size w w17) := ⟨h7_⟩
                  clear HB
                  clear h0_ h1_ h2_ h3_ h4_ h5_ h6_ h7_
                  have HO209 := n0_
                  have HO212 := n1_
                  have HO220 := n2_
                  have HO223 := n3_
                  have BK228 := n4_
                  have GW228 := n5_
                  have GE228 := n6_
                  have HB := n7_
                  clear n0_ n1_ n2_ n3_ n4_ n5_ n6_ n7_
                  have hHeld : w17.cell? (ad206.add ((x10_1).toNat * 5)) = some (.int .i64 ((rd_T37 l0 x10_1).f0)) ∧ w17.cell? ⟨(ad206.add ((x10_1).toNat * 5)).block, (ad206.add ((x10_1).toNat * 5)).off + 1, none⟩ = some (.string ((rd_T37 l0 x10_1).f1)) ∧ w17.cell? ⟨(ad206.add ((x10_1).toNat * 5)).block, (ad206.add ((x10_1).toNat * 5)).off + 2, none⟩ = some (.slice A206_2 ((rd_T37 l0 x10_1).f2).length c206_2) ∧ w17.cell? ⟨(ad206.add ((x10_1).toNat * 5)).block, (ad206.add ((x10_1).toNat * 5)).off + 3, none⟩ = some (.int .i64 ((rd_T37 l0 x10_1).f3)) ∧ w17.cell? ⟨(ad206.add ((x10_1).toNat * 5)).block, (ad206.add ((x10_1).toNat * 5)).off + 4, none⟩ = some (.int .i64 ((rd_T37 l0 x10_1).f4)) ∧ w17.cell? (ad206.add ((x10_1).toNat * 5)) = some (.int .i64 ((rd_T37 l0 x10_1).f0)) ∧ w17.cell? ⟨(ad206.add ((x10_1).toNat * 5)).block, (ad206.add ((x10_1).toNat * 5)).off + 1, none⟩ = some (.string ((rd_T37 l0 x10_1).f1)) ∧ w17.cell? ⟨(ad206.add ((x10_1).toNat * 5)).block, (ad206.add ((x10_1).toNat * 5)).off + 2, none⟩ = some (.slice A206_2 ((rd_T37 l0 x10_1).f2).length c206_2) ∧ w17.cell? ⟨(ad206.add ((x10_1).toNat * 5)).block, (ad206.add ((x10_1).toNat * 5)).off + 3, none⟩ = some (.int .i64 ((rd_T37 l0 x10_1).f3)) ∧ w17.cell? ⟨(ad206.add ((x10_1).toNat * 5)).block, (ad206.add ((x10_1).toNat * 5)).off + 4, none⟩ = some (.int .i64 ((rd_T37 l0 x10_1).f4)) := hS_
                  refine norm_ (a' := ?_) ?_ ?_
                  rotate_left
                  · simp only [putAll, Act.put, List.setIfInBounds_toArray, List.set_cons_zero, List.set_cons_succ]
                    rfl
                  refine one_ (i := 11) (N := some 5) #[true, true, true, true, true, true, true, true, true, true, true, true, false, false] rfl rfl (one_of HT_.out (by kernel_rfl)) (by decide) (fun K hK => ?_)
                  refine box_step ?hg (N := 5) ?hd (cs := #[.slice none 0 0, .slice none 0 0, .int .i64 0, .int .i64 0, .bool false, .int .i64 0]) (t := 34) ?hr ?_; (case hd => rfl); (case hg => rfl); (case hr => first | (go_simp; done) | (go_simp; rfl))
                  intro gb229 hg w18 hbox hb
                  have n0_ := Aside0.mk (Kd.R_below (by (with_reducible repeat (first | apply Kd.R_alloc | apply Kd.R_drewN | apply Kd.R_drew)); exact HO209.out) hb)
                  have n1_ := Aside0.mk (Kd.R_below (by (with_reducible repeat (first | apply Kd.R_alloc | apply Kd.R_drewN | apply Kd.R_drew)); exact HO212.out) hb)
                  have n2_ := Aside0.mk (Kd.R_below (by (with_reducible repeat (first | apply Kd.R_alloc | apply Kd.R_drewN | apply Kd.R_drew)); exact HO220.out) hb)
                  have n3_ := Aside0.mk (Kd.R_below (by (with_reducible repeat (first | apply Kd.R_alloc | apply Kd.R_drewN | apply Kd.R_drew)); exact HO223.out) hb)
                  have n4_ := Aside0.mk (blk_below (g := gb228) (o := .cells #[.slice none 0 0, .slice none 0 0, .int .i64 0, .int .i64 0, .bool false, .int .i64 0] 34 (0, 0)) (by (with_reducible repeat (first | refine blk_drewN ?_ _ | refine blk_drew ?_ | refine blk_alloc ?_ _)); exact BK228.out) hb)
                  have n5_ := Aside0.mk (below_step (by repeat (first | (with_reducible first | exact HB.out | apply below_alloc | apply pw_below_drewN | apply below_drew1 | refine below_set ?_ GE228.out) | exact HB.out)) hb)
                  have n6_ := Aside0.mk (hbox)
                  have n7_ := Aside0.mk ((by rw [hg]; exact (below_size (by repeat (first | (with_reducible first | exact HB.out | apply below_alloc | apply pw_below_drewN | apply below_drew1 | refine below_set ?_ GE228.out) | exact HB.out))) : w.heap.size ≤ gb229))
                  have n8_ := Aside0.mk ((by rw [hg]; exact (below_size (by repeat (first | (with_reducible first | exact HB.out | apply below_alloc | apply pw_below_drewN | apply below_drew1 | refine below_set ?_ GE228.out) | exact HB.out))) : w.heap.size ≤ gb229))
                  have n9_ := Aside0.mk ((by rw [hg]; exact Nat.ne_of_lt (blk_lt (g := gb228) (o := .cells #[.slice none 0 0, .slice none 0 0, .int .i64 0, .int .i64 0, .bool false, .int .i64 0] 34 (0, 0)) (by (with_reducible repeat (first | refine blk_drewN ?_ _ | refine blk_drew ?_ | refine blk_alloc ?_ _)); exact BK228.out)) : gb228 ≠ gb229))
                  have n10_ := Aside0.mk ((by rw [hg]; exact Nat.ne_of_gt (blk_lt (g := gb228) (o := .cells #[.slice none 0 0, .slice none 0 0, .int .i64 0, .int .i64 0, .bool false, .int .i64 0] 34 (0, 0)) (by (with_reducible repeat (first | refine blk_drewN ?_ _ | refine blk_drew ?_ | refine blk_alloc ?_ _)); exact BK228.out)) : gb229 ≠ gb228))
                  clear HO209
                  clear HO212
                  clear HO220
                  clear HO223
                  clear BK228
                  clear HB
                  have HO209 := n0_
                  have HO212 := n1_
                  have HO220 := n2_
                  have HO223 := n3_
                  have BK228 := n4_
                  have HB := n5_
                  have BK229 := n6_
                  have GW229 := n7_
                  have GE229 := n8_
                  have NB228_229 := n9_
                  have NB229_228 := n10_
                  clear n0_ n1_ n2_ n3_ n4_ n5_ n6_ n7_ n8_ n9_ n10_
                  clear hb hbox hg
                  refine hK.out _ _ ⟨((HB.out.cell (World.block_lt_of_cell? w _ hw206_0)).trans hw206_0), ((HB.out.cell (World.block_lt_of_cell? w _ hw206_1)).trans hw206_1), ((HB.out.cell (World.block_lt_of_cell? w _ hw206_2)).trans hw206_2), ((HB.out.cell (World.block_lt_of_cell? w _ hw206_3)).trans hw206_3), ((HB.out.cell (World.block_lt_of_cell? w _ hw206_4)).trans hw206_4), ((HB.out.cell (World.block_lt_of_cell? w _ hw217_0)).trans hw217_0), ((HB.out.cell (World.block_lt_of_cell? w _ hw217_1)).trans hw217_1), ((HB.out.cell (World.block_lt_of_cell? w _ hw217_2)).trans hw217_2), ((HB.out.cell (World.block_lt_of_cell? w _ hw217_3)).trans hw217_3), ((HB.out.cell (World.block_lt_of_cell? w _ hw217_4)).trans hw217_4)⟩ (fun hHeld => ?_)
                  clear hK K
                  refine norm_ (a' := ?_) ?_ ?_
                  rotate_left
                  · show Act.put _ (some 5) _ = _
                    simp only [Act.put, List.setIfInBounds_toArray, List.set_cons_zero, List.set_cons_succ, i64_w, i32_w]
                    rfl
                  exact norm_ (by first | (simp only [putAll, Act.put, List.setIfInBounds_toArray, List.set_cons_zero, List.set_cons_succ]; done) | (simp only [putAll, Act.put, List.setIfInBounds_toArray, List.set_cons_zero, List.set_cons_succ]; rfl)) (hJ4_9_10_11 (v208, v211, v219, v222, gb228, gb229) _ ⟨hHeld, (by (with_reducible repeat (first | apply Kd.R_alloc | apply Kd.R_drewN | apply Kd.R_drew)); exact HO209.out), (by (with_reducible repeat (first | apply Kd.R_alloc | apply Kd.R_drewN | apply Kd.R_drew)); exact HO212.out), (by (with_reducible repeat (first | apply Kd.R_alloc | apply Kd.R_drewN | apply Kd.R_drew)); exact HO220.out), (by (with_reducible repeat (first | apply Kd.R_alloc | apply Kd.R_drewN | apply Kd.R_drew)); exact HO223.out), (by (with_reducible repeat (first | refine blk_drewN ?_ _ | refine blk_drew ?_ | refine blk_alloc ?_ _)); exact BK228.out), (by (with_reducible repeat (first | refine blk_drewN ?_ _ | refine blk_drew ?_ | refine blk_alloc ?_ _)); exact BK229.out), GW228.out, GE228.out, NB229_228.out, NB228_229.out, GW229.out, GE229.out, (by repeat (first | (with_reducible first | exact HB.out | apply below_alloc | apply pw_below_drewN | apply below_drew1 | refine below_set ?_ GE228.out | refine below_set ?_ GE229.out) | exact HB.out))⟩)
              rintro ⟨v208, v211, v219, v222, gb228, gb229⟩ w18 ⟨hS_, h0_, h1_, h2_, h3_, h4_, h5_, h6_, h7_, h8_, h9_, h10_, h11_, h12_⟩
              have n0_ : Aside0 (Kd.R Kd.string 9 w18 w.heap.size (fun k_ => some k_ ≠ (v219 : Value).ownBlock) v208 t207) := ⟨h0_⟩
              have n1_ : Aside0 (Kd.R (Kd.int .i64) 3 w18 w.heap.size (fun k_ => some k_ ≠ (v222 : Value).ownBlock) v211 t210) := ⟨h1_⟩
              have n2_ : Aside0 (Kd.R Kd.string 9 w18 w.heap.size (fun k_ => some k_ ≠ (v208 : Value).ownBlock) v219 t218) := ⟨h2_⟩
              have n3_ : Aside0 (Kd.R (Kd.int .i64) 3 w18 w.heap.size (fun k_ => some k_ ≠ (v211 : Value).ownBlock) v222 t221) := ⟨h3_⟩
              have n4_ : Aside0 (w18.heap[gb228]? = some (.cells #[.slice none 0 0, .slice none 0 0, .int .i64 0, .int .i64 0, .bool false, .int .i64 0] 34 (0, 0))) := ⟨h4_⟩
              have n5_ : Aside0 (w18.heap[gb229]? = some (.cells #[.slice none 0 0, .slice none 0 0, .int .i64 0, .int .i64 0, .bool false, .int .i64 0] 34 (0, 0))) := ⟨h5_⟩
              have n6_ : Aside0 (w.heap.size ≤ gb228) := ⟨h6_⟩
              have n7_ : Aside0 (w.heap.size ≤ gb228) := ⟨h7_⟩
              have n8_ : Aside0 (gb229 ≠ gb228) := ⟨h8_⟩
              have n9_ : Aside0 (gb228 ≠ gb229) := ⟨h9_⟩
              have n10_ : Aside0 (w.heap.size ≤ gb229) := ⟨h10_⟩
              have n11_ : Aside0 (w.heap.size ≤ gb229) := ⟨h11_⟩
              have n12_ : Aside0 (Below w.heap.size w w18) := ⟨h12_⟩
              clear HB
              clear h0_ h1_ h2_ h3_ h4_ h5_ h6_ h7_ h8_ h9_ h10_ h11_ h12_
              have HO209 := n0_
              have HO212 := n1_
              have HO220 := n2_
              have HO223 := n3_
              have BK228 := n4_
              have BK229 := n5_
              have GW228 := n6_
              have GE228 := n7_
              have NB229_228 := n8_
              have NB228_229 := n9_
              have GW229 := n10_
              have GE229 := n11_
              have HB := n12_
              clear n0_ n1_ n2_ n3_ n4_ n5_ n6_ n7_ n8_ n9_ n10_ n11_ n12_
              have hHeld : w18.cell? (ad206.add ((x10_1).toNat * 5)) = some (.int .i64 ((rd_T37 l0 x10_1).f0)) ∧ w18.cell? ⟨(ad206.add ((x10_1).toNat * 5)).block, (ad206.add ((x10_1).toNat * 5)).off + 1, none⟩ = some (.string ((rd_T37 l0 x10_1).f1)) ∧ w18.cell? ⟨(ad206.add ((x10_1).toNat * 5)).block, (ad206.add ((x10_1).toNat * 5)).off + 2, none⟩ = some (.slice A206_2 ((rd_T37 l0 x10_1).f2).length c206_2) ∧ w18.cell? ⟨(ad206.add ((x10_1).toNat * 5)).block, (ad206.add ((x10_1).toNat * 5)).off + 3, none⟩ = some (.int .i64 ((rd_T37 l0 x10_1).f3)) ∧ w18.cell? ⟨(ad206.add ((x10_1).toNat * 5)).block, (ad206.add ((x10_1).toNat * 5)).off + 4, none⟩ = some (.int .i64 ((rd_T37 l0 x10_1).f4)) ∧ w18.cell? (ad206.add ((x10_1).toNat * 5)) = some (.int .i64 ((rd_T37 l0 x10_1).f0)) ∧ w18.cell? ⟨(ad206.add ((x10_1).toNat * 5)).block, (ad206.add ((x10_1).toNat * 5)).off + 1, none⟩ = some (.string ((rd_T37 l0 x10_1).f1)) ∧ w18.cell? ⟨(ad206.add ((x10_1).toNat * 5)).block, (ad206.add ((x10_1).toNat * 5)).off + 2, none⟩ = some (.slice A206_2 ((rd_T37 l0 x10_1).f2).length c206_2) ∧ w18.cell? ⟨(ad206.add ((x10_1).toNat * 5)).block, (ad206.add ((x10_1).toNat * 5)).off + 3, none⟩ = some (.int .i64 ((rd_T37 l0 x10_1).f3)) ∧ w18.cell? ⟨(ad206.add ((x10_1).toNat * 5)).block, (ad206.add ((x10_1).toNat * 5)).off + 4, none⟩ = some (.int .i64 ((rd_T37 l0 x10_1).f4)) := hS_
              obtain ⟨Ao19, co19, eo19⟩ := Kd.R_slice HO209.out
              (first | subst eo19 | (injection eo19 with f1_ f2_ f3_; have f4_ := f1_.symm; have f5_ := f3_.symm; clear f1_ f2_ f3_; subst f4_; subst f5_))
              obtain ⟨Ao21, co21, eo21⟩ := Kd.R_slice HO212.out
              (first | subst eo21 | (injection eo21 with f1_ f2_ f3_; have f4_ := f1_.symm; have f5_ := f3_.symm; clear f1_ f2_ f3_; subst f4_; subst f5_))
              obtain ⟨Ao27, co27, eo27⟩ := Kd.R_slice HO220.out
              (first | subst eo27 | (injection eo27 with f1_ f2_ f3_; have f4_ := f1_.symm; have f5_ := f3_.symm; clear f1_ f2_ f3_; subst f4_; subst f5_))
              obtain ⟨Ao29, co29, eo29⟩ := Kd.R_slice HO223.out
              (first | subst eo29 | (injection eo29 with f1_ f2_ f3_; have f4_ := f1_.symm; have f5_ := f3_.symm; clear f1_ f2_ f3_; subst f4_; subst f5_))
              refine norm_ (a' := ?_) ?_ ?_
              rotate_left
              · simp only [putAll, Act.put, List.setIfInBounds_toArray, List.set_cons_zero, List.set_cons_succ]
                rfl
              refine one_ (i := 12) (N := none) #[true, true, true, true, true, true, true, true, true, true, true, true, true, false] rfl rfl (one_of HT_.out (by kernel_rfl)) (by decide) (fun K hK => ?_)
              have hs20 : w18.cell? ⟨gb228, 0, none⟩ = some (.slice none 0 0) := (blk_cell BK228.out 0).trans rfl
              have hfs20 := blk_frozen BK228.out 0
              have hns20_1 := NB229_228.out
              have hms20_1 := NB228_229.out
              have hs22 : w18.cell? ⟨gb228, 1, none⟩ = some (.slice none 0 0) := (blk_cell BK228.out 1).trans rfl
              have hfs22 := blk_frozen BK228.out 1
              have hns22_1 := NB229_228.out
              have hms22_1 := NB228_229.out
              have hs23 : w18.cell? ⟨gb228, 2, none⟩ = some (.int .i64 0) := (blk_cell BK228.out 2).trans rfl
              have hfs23 := blk_frozen BK228.out 2
              have hns23_1 := NB229_228.out
              have hms23_1 := NB228_229.out
              have hs24 : w18.cell? ⟨gb228, 3, none⟩ = some (.int .i64 0) := (blk_cell BK228.out 3).trans rfl
              have hfs24 := blk_frozen BK228.out 3
              have hns24_1 := NB229_228.out
              have hms24_1 := NB228_229.out
              have hs25 : w18.cell? ⟨gb228, 4, none⟩ = some (.bool false) := (blk_cell BK228.out 4).trans rfl
              have hfs25 := blk_frozen BK228.out 4
              have hns25_1 := NB229_228.out
              have hms25_1 := NB228_229.out
              have hs26 : w18.cell? ⟨gb228, 5, none⟩ = some (.int .i64 0) := (blk_cell BK228.out 5).trans rfl
              have hfs26 := blk_frozen BK228.out 5
              have hns26_1 := NB229_228.out
              have hms26_1 := NB228_229.out
              refine skip_ (w1 := ?_) (by rfl) rfl ?_ ?_
              rotate_left
              · go_simp
                rfl
              refine hK.out _ _ ⟨((cell_farH (g := gb228) hw206_0 GW228.out _).trans (((cell_farH (g := gb228) hw206_0 GW228.out _).trans (((cell_farH (g := gb228) hw206_0 GW228.out _).trans (((cell_farH (g := gb228) hw206_0 GW228.out _).trans (((cell_farH (g := gb228) hw206_0 GW228.out _).trans (((cell_farH (g := gb228) hw206_0 GW228.out _).trans (hHeld.1)))))))))))), ((cell_farH (g := gb228) hw206_1 GW228.out _).trans (((cell_farH (g := gb228) hw206_1 GW228.out _).trans (((cell_farH (g := gb228) hw206_1 GW228.out _).trans (((cell_farH (g := gb228) hw206_1 GW228.out _).trans (((cell_farH (g := gb228) hw206_1 GW228.out _).trans (((cell_farH (g := gb228) hw206_1 GW228.out _).trans (hHeld.2.1)))))))))))), ((cell_farH (g := gb228) hw206_2 GW228.out _).trans (((cell_farH (g := gb228) hw206_2 GW228.out _).trans (((cell_farH (g := gb228) hw206_2 GW228.out _).trans (((cell_farH (g := gb228) hw206_2 GW228.out _).trans (((cell_farH (g := gb228) hw206_2 GW228.out _).trans (((cell_farH (g := gb228) hw206_2 GW228.out _).trans (hHeld.2.2.1)))))))))))), ((cell_farH (g := gb228) hw206_3 GW228.out _).trans (((cell_farH (g := gb228) hw206_3 GW228.out _).trans (((cell_farH (g := gb228) hw206_3 GW228.out _).trans (((cell_farH (g := gb228) hw206_3 GW228.out _).trans (((cell_farH (g := gb228) hw206_3 GW228.out _).trans (((cell_farH (g := gb228) hw206_3 GW228.out _).trans (hHeld.2.2.2.1)))))))))))), ((cell_farH (g := gb228) hw206_4 GW228.out _).trans (((cell_farH (g := gb228) hw206_4 GW228.out _).trans (((cell_farH (g := gb228) hw206_4 GW228.out _).trans (((cell_farH (g := gb228) hw206_4 GW228.out _).trans (((cell_farH (g := gb228) hw206_4 GW228.out _).trans (((cell_farH (g := gb228) hw206_4 GW228.out _).trans (hHeld.2.2.2.2.1)))))))))))), ((cell_farH (g := gb228) hw217_0 GW228.out _).trans (((cell_farH (g := gb228) hw217_0 GW228.out _).trans (((cell_farH (g := gb228) hw217_0 GW228.out _).trans (((cell_farH (g := gb228) hw217_0 GW228.out _).trans (((cell_farH (g := gb228) hw217_0 GW228.out _).trans (((cell_farH (g := gb228) hw217_0 GW228.out _).trans (hHeld.2.2.2.2.2.1)))))))))))), ((cell_farH (g := gb228) hw217_1 GW228.out _).trans (((cell_farH (g := gb228) hw217_1 GW228.out _).trans (((cell_farH (g := gb228) hw217_1 GW228.out _).trans (((cell_farH (g := gb228) hw217_1 GW228.out _).trans (((cell_farH (g := gb228) hw217_1 GW228.out _).trans (((cell_farH (g := gb228) hw217_1 GW228.out _).trans (hHeld.2.2.2.2.2.2.1)))))))))))), ((cell_farH (g := gb228) hw217_2 GW228.out _).trans (((cell_farH (g := gb228) hw217_2 GW228.out _).trans (((cell_farH (g := gb228) hw217_2 GW228.out _).trans (((cell_farH (g := gb228) hw217_2 GW228.out _).trans (((cell_farH (g := gb228) hw217_2 GW228.out _).trans (((cell_farH (g := gb228) hw217_2 GW228.out _).trans (hHeld.2.2.2.2.2.2.2.1)))))))))))), ((cell_farH (g := gb228) hw217_3 GW228.out _).trans (((cell_farH (g := gb228) hw217_3 GW228.out _).trans (((cell_farH (g := gb228) hw217_3 GW228.out _).trans (((cell_farH (g := gb228) hw217_3 GW228.out _).trans (((cell_farH (g := gb228) hw217_3 GW228.out _).trans (((cell_farH (g := gb228) hw217_3 GW228.out _).trans (hHeld.2.2.2.2.2.2.2.2.1)))))))))))), ((cell_farH (g := gb228) hw217_4 GW228.out _).trans (((cell_farH (g := gb228) hw217_4 GW228.out _).trans (((cell_farH (g := gb228) hw217_4 GW228.out _).trans (((cell_farH (g := gb228) hw217_4 GW228.out _).trans (((cell_farH (g := gb228) hw217_4 GW228.out _).trans (((cell_farH (g := gb228) hw217_4 GW228.out _).trans (hHeld.2.2.2.2.2.2.2.2.2))))))))))))⟩ (fun hHeld => ?_)
              clear hK K
              refine one_ (i := 13) (N := none) #[true, true, true, true, true, true, true, true, true, true, true, true, true, true] rfl rfl (one_of HT_.out (by kernel_rfl)) (by decide) (fun K hK => ?_)
              have hs28 : w18.cell? ⟨gb229, 0, none⟩ = some (.slice none 0 0) := (blk_cell BK229.out 0).trans rfl
              have hfs28 := blk_frozen BK229.out 0
              have hns28_0 := NB228_229.out
              have hms28_0 := NB229_228.out
              have hs30 : w18.cell? ⟨gb229, 1, none⟩ = some (.slice none 0 0) := (blk_cell BK229.out 1).trans rfl
              have hfs30 := blk_frozen BK229.out 1
              have hns30_0 := NB228_229.out
              have hms30_0 := NB229_228.out
              have hs31 : w18.cell? ⟨gb229, 2, none⟩ = some (.int .i64 0) := (blk_cell BK229.out 2).trans rfl
              have hfs31 := blk_frozen BK229.out 2
              have hns31_0 := NB228_229.out
              have hms31_0 := NB229_228.out
              have hs32 : w18.cell? ⟨gb229, 3, none⟩ = some (.int .i64 0) := (blk_cell BK229.out 3).trans rfl
              have hfs32 := blk_frozen BK229.out 3
              have hns32_0 := NB228_229.out
              have hms32_0 := NB229_228.out
              have hs33 : w18.cell? ⟨gb229, 4, none⟩ = some (.bool false) := (blk_cell BK229.out 4).trans rfl
              have hfs33 := blk_frozen BK229.out 4
              have hns33_0 := NB228_229.out
              have hms33_0 := NB229_228.out
              have hs34 : w18.cell? ⟨gb229, 5, none⟩ = some (.int .i64 0) := (blk_cell BK229.out 5).trans rfl
              have hfs34 := blk_frozen BK229.out 5
              have hns34_0 := NB228_229.out
              have hms34_0 := NB229_228.out
              refine skip_ (w1 := ?_) (by rfl) rfl ?_ ?_
              rotate_left
              · go_simp
                rfl
              refine hK.out _ _ ⟨((cell_farH (g := gb229) hw206_0 GW229.out _).trans (((cell_farH (g := gb229) hw206_0 GW229.out _).trans (((cell_farH (g := gb229) hw206_0 GW229.out _).trans (((cell_farH (g := gb229) hw206_0 GW229.out _).trans (((cell_farH (g := gb229) hw206_0 GW229.out _).trans (((cell_farH (g := gb229) hw206_0 GW229.out _).trans (hHeld.1)))))))))))), ((cell_farH (g := gb229) hw206_1 GW229.out _).trans (((cell_farH (g := gb229) hw206_1 GW229.out _).trans (((cell_farH (g := gb229) hw206_1 GW229.out _).trans (((cell_farH (g := gb229) hw206_1 GW229.out _).trans (((cell_farH (g := gb229) hw206_1 GW229.out _).trans (((cell_farH (g := gb229) hw206_1 GW229.out _).trans (hHeld.2.1)))))))))))), ((cell_farH (g := gb229) hw206_2 GW229.out _).trans (((cell_farH (g := gb229) hw206_2 GW229.out _).trans (((cell_farH (g := gb229) hw206_2 GW229.out _).trans (((cell_farH (g := gb229) hw206_2 GW229.out _).trans (((cell_farH (g := gb229) hw206_2 GW229.out _).trans (((cell_farH (g := gb229) hw206_2 GW229.out _).trans (hHeld.2.2.1)))))))))))), ((cell_farH (g := gb229) hw206_3 GW229.out _).trans (((cell_farH (g := gb229) hw206_3 GW229.out _).trans (((cell_farH (g := gb229) hw206_3 GW229.out _).trans (((cell_farH (g := gb229) hw206_3 GW229.out _).trans (((cell_farH (g := gb229) hw206_3 GW229.out _).trans (((cell_farH (g := gb229) hw206_3 GW229.out _).trans (hHeld.2.2.2.1)))))))))))), ((cell_farH (g := gb229) hw206_4 GW229.out _).trans (((cell_farH (g := gb229) hw206_4 GW229.out _).trans (((cell_farH (g := gb229) hw206_4 GW229.out _).trans (((cell_farH (g := gb229) hw206_4 GW229.out _).trans (((cell_farH (g := gb229) hw206_4 GW229.out _).trans (((cell_farH (g := gb229) hw206_4 GW229.out _).trans (hHeld.2.2.2.2.1)))))))))))), ((cell_farH (g := gb229) hw217_0 GW229.out _).trans (((cell_farH (g := gb229) hw217_0 GW229.out _).trans (((cell_farH (g := gb229) hw217_0 GW229.out _).trans (((cell_farH (g := gb229) hw217_0 GW229.out _).trans (((cell_farH (g := gb229) hw217_0 GW229.out _).trans (((cell_farH (g := gb229) hw217_0 GW229.out _).trans (hHeld.2.2.2.2.2.1)))))))))))), ((cell_farH (g := gb229) hw217_1 GW229.out _).trans (((cell_farH (g := gb229) hw217_1 GW229.out _).trans (((cell_farH (g := gb229) hw217_1 GW229.out _).trans (((cell_farH (g := gb229) hw217_1 GW229.out _).trans (((cell_farH (g := gb229) hw217_1 GW229.out _).trans (((cell_farH (g := gb229) hw217_1 GW229.out _).trans (hHeld.2.2.2.2.2.2.1)))))))))))), ((cell_farH (g := gb229) hw217_2 GW229.out _).trans (((cell_farH (g := gb229) hw217_2 GW229.out _).trans (((cell_farH (g := gb229) hw217_2 GW229.out _).trans (((cell_farH (g := gb229) hw217_2 GW229.out _).trans (((cell_farH (g := gb229) hw217_2 GW229.out _).trans (((cell_farH (g := gb229) hw217_2 GW229.out _).trans (hHeld.2.2.2.2.2.2.2.1)))))))))))), ((cell_farH (g := gb229) hw217_3 GW229.out _).trans (((cell_farH (g := gb229) hw217_3 GW229.out _).trans (((cell_farH (g := gb229) hw217_3 GW229.out _).trans (((cell_farH (g := gb229) hw217_3 GW229.out _).trans (((cell_farH (g := gb229) hw217_3 GW229.out _).trans (((cell_farH (g := gb229) hw217_3 GW229.out _).trans (hHeld.2.2.2.2.2.2.2.2.1)))))))))))), ((cell_farH (g := gb229) hw217_4 GW229.out _).trans (((cell_farH (g := gb229) hw217_4 GW229.out _).trans (((cell_farH (g := gb229) hw217_4 GW229.out _).trans (((cell_farH (g := gb229) hw217_4 GW229.out _).trans (((cell_farH (g := gb229) hw217_4 GW229.out _).trans (((cell_farH (g := gb229) hw217_4 GW229.out _).trans (hHeld.2.2.2.2.2.2.2.2.2))))))))))))⟩ (fun hHeld => ?_)
              clear hK K
              refine done_ (done_of HT_.out (by kernel_rfl)) ?_
              have H := HZ_.out
              clear HZ_
              by_cases c10 : t213 = t224
              · rw [if_pos c10] at H
                have c10b0 : (t213 == t224) = true := beq_iff_eq.mpr c10
                have c10b1 : (t213 != t224) = false := bne_eq_false_iff_eq.mpr c10
                clear c10
                by_cases c11 : t214 = t225
                · rw [if_pos c11] at H
                  have c11b0 : (t214 == t225) = true := beq_iff_eq.mpr c11
                  have c11b1 : (t214 != t225) = false := bne_eq_false_iff_eq.mpr c11
                  clear c11
                  by_cases c12 : (t215 != t226) = true
                  · rw [if_pos c12] at H
                    have c12b0 : (t215 != t226) = true := c12
                    (try (have c12b1 : decide (t215 = t226) = false := by simpa using c12))
                    (try (have c12b2 : (t215 == t226) = false := by simpa using c12))
                    (try (have c12b3 : ¬ (t215 = t226) := by simpa using c12))
                    clear c12
                    obtain rfl := Option.some.inj H
                    have hnb35 := NB228_229.out
                    have hnc35 := NB229_228.out
                    have hcz36_0 : w18.cell? ⟨gb228, 0, none⟩ = some (.slice none 0 0) := (blk_cell BK228.out 0).trans rfl
                    have hcz36_1 : w18.cell? ⟨gb228, 1, none⟩ = some (.slice none 0 0) := (blk_cell BK228.out 1).trans rfl
                    have hcz36_2 : w18.cell? ⟨gb228, 2, none⟩ = some (.int .i64 0) := (blk_cell BK228.out 2).trans rfl
                    have hcz36_3 : w18.cell? ⟨gb228, 3, none⟩ = some (.int .i64 0) := (blk_cell BK228.out 3).trans rfl
                    have hcz36_4 : w18.cell? ⟨gb228, 4, none⟩ = some (.bool false) := (blk_cell BK228.out 4).trans rfl
                    have hcz36_5 : w18.cell? ⟨gb228, 5, none⟩ = some (.int .i64 0) := (blk_cell BK228.out 5).trans rfl
                    have hfz36_0 := blk_frozen BK228.out 0
                    have hfz36_1 := blk_frozen BK228.out 1
                    have hfz36_2 := blk_frozen BK228.out 2
                    have hfz36_3 := blk_frozen BK228.out 3
                    have hfz36_4 := blk_frozen BK228.out 4
                    have hfz36_5 := blk_frozen BK228.out 5
                    have hcz37_0 : w18.cell? ⟨gb229, 0, none⟩ = some (.slice none 0 0) := (blk_cell BK229.out 0).trans rfl
                    have hcz37_1 : w18.cell? ⟨gb229, 1, none⟩ = some (.slice none 0 0) := (blk_cell BK229.out 1).trans rfl
                    have hcz37_2 : w18.cell? ⟨gb229, 2, none⟩ = some (.int .i64 0) := (blk_cell BK229.out 2).trans rfl
                    have hcz37_3 : w18.cell? ⟨gb229, 3, none⟩ = some (.int .i64 0) := (blk_cell BK229.out 3).trans rfl
                    have hcz37_4 : w18.cell? ⟨gb229, 4, none⟩ = some (.bool false) := (blk_cell BK229.out 4).trans rfl
                    have hcz37_5 : w18.cell? ⟨gb229, 5, none⟩ = some (.int .i64 0) := (blk_cell BK229.out 5).trans rfl
                    have hfz37_0 := blk_frozen BK229.out 0
                    have hfz37_1 := blk_frozen BK229.out 1
                    have hfz37_2 := blk_frozen BK229.out 2
                    have hfz37_3 := blk_frozen BK229.out 3
                    have hfz37_4 := blk_frozen BK229.out 4
                    have hfz37_5 := blk_frozen BK229.out 5
                    try go_wp2
                    go_ret
                    exact ⟨by first | rfl | (simp [errW_none, errW_some] <;> rfl) | (simp [*, errW_none, errW_some] <;> rfl), by repeat (first | (with_reducible first | exact HB.out | apply below_alloc | apply pw_below_drewN | apply below_drew1 | refine below_set ?_ GE228.out | refine below_set ?_ GE229.out) | exact HB.out)⟩
                  · rw [if_neg c12] at H
                    have c12b0 : (t215 != t226) = false := by simpa using c12
                    (try (have c12b1 : decide (t215 = t226) = true := by simpa using c12))
                    (try (have c12b2 : (t215 == t226) = true := by simpa using c12))
                    clear c12
                    by_cases c38 : t216 = t227
                    · rw [if_pos c38] at H
                      have c38b0 : (t216 == t227) = true := beq_iff_eq.mpr c38
                      have c38b1 : (t216 != t227) = false := bne_eq_false_iff_eq.mpr c38
                      clear c38
                      replace H := Option.bind_eq_some_iff.mp H
                      obtain ⟨t230, A390, H⟩ := H
                      replace H : (if t230 = true then ((pylonref15_SameInts.f k1 t210 t221).bind fun t231 => (if t231 = true then (pylonlaw06_ScanAll.l0 k1 l0 (l0.length : Int) (wrap64 (x10_1 + 1))) else (some false))) else (some false)) = some r := H
                      have A39 := Aside0.mk A390
                      clear A390
                      by_cases c40 : t230 = true
                      · subst c40
                        have H1 : ((pylonref15_SameInts.f k1 t210 t221).bind fun t231 => (if t231 = true then (pylonlaw06_ScanAll.l0 k1 l0 (l0.length : Int) (wrap64 (x10_1 + 1))) else (some false))) = some r := by rw [if_pos rfl] at H; exact H
                        clear H
                        have H := H1
                        clear H1
                        replace H := Option.bind_eq_some_iff.mp H
                        obtain ⟨t231, A410, H⟩ := H
                        replace H : (if t231 = true then (pylonlaw06_ScanAll.l0 k1 l0 (l0.length : Int) (wrap64 (x10_1 + 1))) else (some false)) = some r := H
                        have A41 := Aside0.mk A410
                        clear A410
                        by_cases c42 : t231 = true
                        · subst c42
                          have H1 : (pylonlaw06_ScanAll.l0 k1 l0 (l0.length : Int) (wrap64 (x10_1 + 1))) = some r := by rw [if_pos rfl] at H; exact H
                          clear H
                          have H := H1
                          clear H1
                          have H' := Aside0.mk H
                          clear H
                          have hnb65 := NB228_229.out
                          have hnc65 := NB229_228.out
                          have hcz66_0 : w18.cell? ⟨gb228, 0, none⟩ = some (.slice none 0 0) := (blk_cell BK228.out 0).trans rfl
                          have hcz66_1 : w18.cell? ⟨gb228, 1, none⟩ = some (.slice none 0 0) := (blk_cell BK228.out 1).trans rfl
                          have hcz66_2 : w18.cell? ⟨gb228, 2, none⟩ = some (.int .i64 0) := (blk_cell BK228.out 2).trans rfl
                          have hcz66_3 : w18.cell? ⟨gb228, 3, none⟩ = some (.int .i64 0) := (blk_cell BK228.out 3).trans rfl
                          have hcz66_4 : w18.cell? ⟨gb228, 4, none⟩ = some (.bool false) := (blk_cell BK228.out 4).trans rfl
                          have hcz66_5 : w18.cell? ⟨gb228, 5, none⟩ = some (.int .i64 0) := (blk_cell BK228.out 5).trans rfl
                          have hfz66_0 := blk_frozen BK228.out 0
                          have hfz66_1 := blk_frozen BK228.out 1
                          have hfz66_2 := blk_frozen BK228.out 2
                          have hfz66_3 := blk_frozen BK228.out 3
                          have hfz66_4 := blk_frozen BK228.out 4
                          have hfz66_5 := blk_frozen BK228.out 5
                          have hcz67_0 : w18.cell? ⟨gb229, 0, none⟩ = some (.slice none 0 0) := (blk_cell BK229.out 0).trans rfl
                          have hcz67_1 : w18.cell? ⟨gb229, 1, none⟩ = some (.slice none 0 0) := (blk_cell BK229.out 1).trans rfl
                          have hcz67_2 : w18.cell? ⟨gb229, 2, none⟩ = some (.int .i64 0) := (blk_cell BK229.out 2).trans rfl
                          have hcz67_3 : w18.cell? ⟨gb229, 3, none⟩ = some (.int .i64 0) := (blk_cell BK229.out 3).trans rfl
                          have hcz67_4 : w18.cell? ⟨gb229, 4, none⟩ = some (.bool false) := (blk_cell BK229.out 4).trans rfl
                          have hcz67_5 : w18.cell? ⟨gb229, 5, none⟩ = some (.int .i64 0) := (blk_cell BK229.out 5).trans rfl
                          have hfz67_0 := blk_frozen BK229.out 0
                          have hfz67_1 := blk_frozen BK229.out 1
                          have hfz67_2 := blk_frozen BK229.out 2
                          have hfz67_3 := blk_frozen BK229.out 3
                          have hfz67_4 := blk_frozen BK229.out 4
                          have hfz67_5 := blk_frozen BK229.out 5
                          try go_wp2_with (first | (go_at_call 13; (with_reducible refine (pylonref06_SameWords.calls k1 _ _ t207 _ _ t218 true _ ?side1 ?side2 ?side3 ?side4 A39.out).mono ?_); (case side1 => refine (Kd.R_reads' (e := 9) (base := w.heap.size) (ok := fun k_ => some k_ ≠ (.slice Ao27 t218.length co27 : Value).ownBlock) (n := t207.length) (c := co19) ?_).2.2; exact (by (with_reducible repeat (first | apply Kd.R_alloc | apply Kd.R_drewN | apply Kd.R_drew)); exact (Kd.R_mono (Kd.R_mono (Kd.R_far (p := ⟨gb229, 5, none⟩) (Kd.R_far (p := ⟨gb229, 4, none⟩) (Kd.R_far (p := ⟨gb229, 3, none⟩) (Kd.R_far (p := ⟨gb229, 2, none⟩) (Kd.R_far (p := ⟨gb229, 1, none⟩) (Kd.R_far (p := ⟨gb229, 0, none⟩) (Kd.R_far (p := ⟨gb228, 5, none⟩) (Kd.R_far (p := ⟨gb228, 4, none⟩) (Kd.R_far (p := ⟨gb228, 3, none⟩) (Kd.R_far (p := ⟨gb228, 2, none⟩) (Kd.R_far (p := ⟨gb228, 1, none⟩) (Kd.R_far (p := ⟨gb228, 0, none⟩) (Kd.R_types (Kd.R_types HO209.out BK228.out (by decide)) BK229.out (by decide)) (fun _ hk => hk.1.2) (.slice Ao19 t207.length co19)) (fun _ hk => hk.1.2) (.slice Ao21 t210.length co21)) (fun _ hk => hk.1.2) (.int .i64 t213)) (fun _ hk => hk.1.2) (.int .i64 t214)) (fun _ hk => hk.1.2) (.bool t215)) (fun _ hk => hk.1.2) (.int .i64 t216)) (fun _ hk => hk.2) (.slice Ao27 t218.length co27)) (fun _ hk => hk.2) (.slice Ao29 t221.length co29)) (fun _ hk => hk.2) (.int .i64 t224)) (fun _ hk => hk.2) (.int .i64 t225)) (fun _ hk => hk.2) (.bool t226)) (fun _ hk => hk.2) (.int .i64 t227)) (fun _ h_ => h_.1)) (fun _ h_ => h_.1)))); (case side2 => exact (Kd.R_reads' HO209.out).2.1); (case side3 => refine (Kd.R_reads' (e := 9) (base := w.heap.size) (ok := fun k_ => some k_ ≠ (.slice Ao19 t207.length co19 : Value).ownBlock) (n := t218.length) (c := co27) ?_).2.2; exact (by (with_reducible repeat (first | apply Kd.R_alloc | apply Kd.R_drewN | apply Kd.R_drew)); exact (Kd.R_mono (Kd.R_mono (Kd.R_far (p := ⟨gb229, 5, none⟩) (Kd.R_far (p := ⟨gb229, 4, none⟩) (Kd.R_far (p := ⟨gb229, 3, none⟩) (Kd.R_far (p := ⟨gb229, 2, none⟩) (Kd.R_far (p := ⟨gb229, 1, none⟩) (Kd.R_far (p := ⟨gb229, 0, none⟩) (Kd.R_far (p := ⟨gb228, 5, none⟩) (Kd.R_far (p := ⟨gb228, 4, none⟩) (Kd.R_far (p := ⟨gb228, 3, none⟩) (Kd.R_far (p := ⟨gb228, 2, none⟩) (Kd.R_far (p := ⟨gb228, 1, none⟩) (Kd.R_far (p := ⟨gb228, 0, none⟩) (Kd.R_types (Kd.R_types HO220.out BK228.out (by decide)) BK229.out (by decide)) (fun _ hk => hk.1.2) (.slice Ao19 t207.length co19)) (fun _ hk => hk.1.2) (.slice Ao21 t210.length co21)) (fun _ hk => hk.1.2) (.int .i64 t213)) (fun _ hk => hk.1.2) (.int .i64 t214)) (fun _ hk => hk.1.2) (.bool t215)) (fun _ hk => hk.1.2) (.int .i64 t216)) (fun _ hk => hk.2) (.slice Ao27 t218.length co27)) (fun _ hk => hk.2) (.slice Ao29 t221.length co29)) (fun _ hk => hk.2) (.int .i64 t224)) (fun _ hk => hk.2) (.int .i64 t225)) (fun _ hk => hk.2) (.bool t226)) (fun _ hk => hk.2) (.int .i64 t227)) (fun _ h_ => h_.1)) (fun _ h_ => h_.1)))); (case side4 => exact (Kd.R_reads' HO220.out).2.1); rintro e w' ⟨rfl, ⟨nd, rfl⟩⟩) | (go_at_call 14; (with_reducible refine (pylonref15_SameInts.calls k1 _ _ t210 _ _ t221 true _ ?side1 ?side2 ?side3 ?side4 A41.out).mono ?_); (case side1 => refine (Kd.R_reads' (e := 3) (base := w.heap.size) (ok := fun k_ => some k_ ≠ (.slice Ao29 t221.length co29 : Value).ownBlock) (n := t210.length) (c := co21) ?_).2.2; exact (by (with_reducible repeat (first | apply Kd.R_alloc | apply Kd.R_drewN | apply Kd.R_drew)); exact (Kd.R_mono (Kd.R_mono (Kd.R_far (p := ⟨gb229, 5, none⟩) (Kd.R_far (p := ⟨gb229, 4, none⟩) (Kd.R_far (p := ⟨gb229, 3, none⟩) (Kd.R_far (p := ⟨gb229, 2, none⟩) (Kd.R_far (p := ⟨gb229, 1, none⟩) (Kd.R_far (p := ⟨gb229, 0, none⟩) (Kd.R_far (p := ⟨gb228, 5, none⟩) (Kd.R_far (p := ⟨gb228, 4, none⟩) (Kd.R_far (p := ⟨gb228, 3, none⟩) (Kd.R_far (p := ⟨gb228, 2, none⟩) (Kd.R_far (p := ⟨gb228, 1, none⟩) (Kd.R_far (p := ⟨gb228, 0, none⟩) (Kd.R_types (Kd.R_types HO212.out BK228.out (by decide)) BK229.out (by decide)) (fun _ hk => hk.1.2) (.slice Ao19 t207.length co19)) (fun _ hk => hk.1.2) (.slice Ao21 t210.length co21)) (fun _ hk => hk.1.2) (.int .i64 t213)) (fun _ hk => hk.1.2) (.int .i64 t214)) (fun _ hk => hk.1.2) (.bool t215)) (fun _ hk => hk.1.2) (.int .i64 t216)) (fun _ hk => hk.2) (.slice Ao27 t218.length co27)) (fun _ hk => hk.2) (.slice Ao29 t221.length co29)) (fun _ hk => hk.2) (.int .i64 t224)) (fun _ hk => hk.2) (.int .i64 t225)) (fun _ hk => hk.2) (.bool t226)) (fun _ hk => hk.2) (.int .i64 t227)) (fun _ h_ => h_.1)) (fun _ h_ => h_.1)))); (case side2 => exact (Kd.R_reads' HO212.out).2.1); (case side3 => refine (Kd.R_reads' (e := 3) (base := w.heap.size) (ok := fun k_ => some k_ ≠ (.slice Ao21 t210.length co21 : Value).ownBlock) (n := t221.length) (c := co29) ?_).2.2; exact (by (with_reducible repeat (first | apply Kd.R_alloc | apply Kd.R_drewN | apply Kd.R_drew)); exact (Kd.R_mono (Kd.R_mono (Kd.R_far (p := ⟨gb229, 5, none⟩) (Kd.R_far (p := ⟨gb229, 4, none⟩) (Kd.R_far (p := ⟨gb229, 3, none⟩) (Kd.R_far (p := ⟨gb229, 2, none⟩) (Kd.R_far (p := ⟨gb229, 1, none⟩) (Kd.R_far (p := ⟨gb229, 0, none⟩) (Kd.R_far (p := ⟨gb228, 5, none⟩) (Kd.R_far (p := ⟨gb228, 4, none⟩) (Kd.R_far (p := ⟨gb228, 3, none⟩) (Kd.R_far (p := ⟨gb228, 2, none⟩) (Kd.R_far (p := ⟨gb228, 1, none⟩) (Kd.R_far (p := ⟨gb228, 0, none⟩) (Kd.R_types (Kd.R_types HO223.out BK228.out (by decide)) BK229.out (by decide)) (fun _ hk => hk.1.2) (.slice Ao19 t207.length co19)) (fun _ hk => hk.1.2) (.slice Ao21 t210.length co21)) (fun _ hk => hk.1.2) (.int .i64 t213)) (fun _ hk => hk.1.2) (.int .i64 t214)) (fun _ hk => hk.1.2) (.bool t215)) (fun _ hk => hk.1.2) (.int .i64 t216)) (fun _ hk => hk.2) (.slice Ao27 t218.length co27)) (fun _ hk => hk.2) (.slice Ao29 t221.length co29)) (fun _ hk => hk.2) (.int .i64 t224)) (fun _ hk => hk.2) (.int .i64 t225)) (fun _ hk => hk.2) (.bool t226)) (fun _ hk => hk.2) (.int .i64 t227)) (fun _ h_ => h_.1)) (fun _ h_ => h_.1)))); (case side4 => exact (Kd.R_reads' HO223.out).2.1); rintro e w' ⟨rfl, ⟨nd, rfl⟩⟩))
                          go_roundg k1
                          case measure => have := HK1.out; omega
                          case rel => exact ⟨(wrap64 (x10_1 + 1)), (by first | rfl | (simp; done) | (simp [*]; done) | (simp [isEmpty_bne]; done) | (simp [isEmpty_beq]; done)), H', ⟨by have := HK1.out; omega⟩, ⟨by repeat (first | (with_reducible first | exact HB.out | apply below_alloc | apply pw_below_drewN | apply below_drew1 | refine below_set ?_ GE228.out | refine below_set ?_ GE229.out) | exact HB.out)⟩⟩
                        · replace c42 := Bool.eq_false_iff.mpr c42
                          subst c42
                          have H1 : (some false) = some r := by rw [if_neg (show ¬ (false = true) by decide)] at H; exact H
                          clear H
                          have H := H1
                          clear H1
                          obtain rfl := Option.some.inj H
                          have hnb90 := NB228_229.out
                          have hnc90 := NB229_228.out
                          have hcz91_0 : w18.cell? ⟨gb228, 0, none⟩ = some (.slice none 0 0) := (blk_cell BK228.out 0).trans rfl
                          have hcz91_1 : w18.cell? ⟨gb228, 1, none⟩ = some (.slice none 0 0) := (blk_cell BK228.out 1).trans rfl
                          have hcz91_2 : w18.cell? ⟨gb228, 2, none⟩ = some (.int .i64 0) := (blk_cell BK228.out 2).trans rfl
                          have hcz91_3 : w18.cell? ⟨gb228, 3, none⟩ = some (.int .i64 0) := (blk_cell BK228.out 3).trans rfl
                          have hcz91_4 : w18.cell? ⟨gb228, 4, none⟩ = some (.bool false) := (blk_cell BK228.out 4).trans rfl
                          have hcz91_5 : w18.cell? ⟨gb228, 5, none⟩ = some (.int .i64 0) := (blk_cell BK228.out 5).trans rfl
                          have hfz91_0 := blk_frozen BK228.out 0
                          have hfz91_1 := blk_frozen BK228.out 1
                          have hfz91_2 := blk_frozen BK228.out 2
                          have hfz91_3 := blk_frozen BK228.out 3
                          have hfz91_4 := blk_frozen BK228.out 4
                          have hfz91_5 := blk_frozen BK228.out 5
                          have hcz92_0 : w18.cell? ⟨gb229, 0, none⟩ = some (.slice none 0 0) := (blk_cell BK229.out 0).trans rfl
                          have hcz92_1 : w18.cell? ⟨gb229, 1, none⟩ = some (.slice none 0 0) := (blk_cell BK229.out 1).trans rfl
                          have hcz92_2 : w18.cell? ⟨gb229, 2, none⟩ = some (.int .i64 0) := (blk_cell BK229.out 2).trans rfl
                          have hcz92_3 : w18.cell? ⟨gb229, 3, none⟩ = some (.int .i64 0) := (blk_cell BK229.out 3).trans rfl
                          have hcz92_4 : w18.cell? ⟨gb229, 4, none⟩ = some (.bool false) := (blk_cell BK229.out 4).trans rfl
                          have hcz92_5 : w18.cell? ⟨gb229, 5, none⟩ = some (.int .i64 0) := (blk_cell BK229.out 5).trans rfl
                          have hfz92_0 := blk_frozen BK229.out 0
                          have hfz92_1 := blk_frozen BK229.out 1
                          have hfz92_2 := blk_frozen BK229.out 2
                          have hfz92_3 := blk_frozen BK229.out 3
                          have hfz92_4 := blk_frozen BK229.out 4
                          have hfz92_5 := blk_frozen BK229.out 5
                          try go_wp2_with (first | (go_at_call 13; (with_reducible refine (pylonref06_SameWords.calls k1 _ _ t207 _ _ t218 true _ ?side1 ?side2 ?side3 ?side4 A39.out).mono ?_); (case side1 => refine (Kd.R_reads' (e := 9) (base := w.heap.size) (ok := fun k_ => some k_ ≠ (.slice Ao27 t218.length co27 : Value).ownBlock) (n := t207.length) (c := co19) ?_).2.2; exact (by (with_reducible repeat (first | apply Kd.R_alloc | apply Kd.R_drewN | apply Kd.R_drew)); exact (Kd.R_mono (Kd.R_mono (Kd.R_far (p := ⟨gb229, 5, none⟩) (Kd.R_far (p := ⟨gb229, 4, none⟩) (Kd.R_far (p := ⟨gb229, 3, none⟩) (Kd.R_far (p := ⟨gb229, 2, none⟩) (Kd.R_far (p := ⟨gb229, 1, none⟩) (Kd.R_far (p := ⟨gb229, 0, none⟩) (Kd.R_far (p := ⟨gb228, 5, none⟩) (Kd.R_far (p := ⟨gb228, 4, none⟩) (Kd.R_far (p := ⟨gb228, 3, none⟩) (Kd.R_far (p := ⟨gb228, 2, none⟩) (Kd.R_far (p := ⟨gb228, 1, none⟩) (Kd.R_far (p := ⟨gb228, 0, none⟩) (Kd.R_types (Kd.R_types HO209.out BK228.out (by decide)) BK229.out (by decide)) (fun _ hk => hk.1.2) (.slice Ao19 t207.length co19)) (fun _ hk => hk.1.2) (.slice Ao21 t210.length co21)) (fun _ hk => hk.1.2) (.int .i64 t213)) (fun _ hk => hk.1.2) (.int .i64 t214)) (fun _ hk => hk.1.2) (.bool t215)) (fun _ hk => hk.1.2) (.int .i64 t216)) (fun _ hk => hk.2) (.slice Ao27 t218.length co27)) (fun _ hk => hk.2) (.slice Ao29 t221.length co29)) (fun _ hk => hk.2) (.int .i64 t224)) (fun _ hk => hk.2) (.int .i64 t225)) (fun _ hk => hk.2) (.bool t226)) (fun _ hk => hk.2) (.int .i64 t227)) (fun _ h_ => h_.1)) (fun _ h_ => h_.1)))); (case side2 => exact (Kd.R_reads' HO209.out).2.1); (case side3 => refine (Kd.R_reads' (e := 9) (base := w.heap.size) (ok := fun k_ => some k_ ≠ (.slice Ao19 t207.length co19 : Value).ownBlock) (n := t218.length) (c := co27) ?_).2.2; exact (by (with_reducible repeat (first | apply Kd.R_alloc | apply Kd.R_drewN | apply Kd.R_drew)); exact (Kd.R_mono (Kd.R_mono (Kd.R_far (p := ⟨gb229, 5, none⟩) (Kd.R_far (p := ⟨gb229, 4, none⟩) (Kd.R_far (p := ⟨gb229, 3, none⟩) (Kd.R_far (p := ⟨gb229, 2, none⟩) (Kd.R_far (p := ⟨gb229, 1, none⟩) (Kd.R_far (p := ⟨gb229, 0, none⟩) (Kd.R_far (p := ⟨gb228, 5, none⟩) (Kd.R_far (p := ⟨gb228, 4, none⟩) (Kd.R_far (p := ⟨gb228, 3, none⟩) (Kd.R_far (p := ⟨gb228, 2, none⟩) (Kd.R_far (p := ⟨gb228, 1, none⟩) (Kd.R_far (p := ⟨gb228, 0, none⟩) (Kd.R_types (Kd.R_types HO220.out BK228.out (by decide)) BK229.out (by decide)) (fun _ hk => hk.1.2) (.slice Ao19 t207.length co19)) (fun _ hk => hk.1.2) (.slice Ao21 t210.length co21)) (fun _ hk => hk.1.2) (.int .i64 t213)) (fun _ hk => hk.1.2) (.int .i64 t214)) (fun _ hk => hk.1.2) (.bool t215)) (fun _ hk => hk.1.2) (.int .i64 t216)) (fun _ hk => hk.2) (.slice Ao27 t218.length co27)) (fun _ hk => hk.2) (.slice Ao29 t221.length co29)) (fun _ hk => hk.2) (.int .i64 t224)) (fun _ hk => hk.2) (.int .i64 t225)) (fun _ hk => hk.2) (.bool t226)) (fun _ hk => hk.2) (.int .i64 t227)) (fun _ h_ => h_.1)) (fun _ h_ => h_.1)))); (case side4 => exact (Kd.R_reads' HO220.out).2.1); rintro e w' ⟨rfl, ⟨nd, rfl⟩⟩) | (go_at_call 14; (with_reducible refine (pylonref15_SameInts.calls k1 _ _ t210 _ _ t221 false _ ?side1 ?side2 ?side3 ?side4 A41.out).mono ?_); (case side1 => refine (Kd.R_reads' (e := 3) (base := w.heap.size) (ok := fun k_ => some k_ ≠ (.slice Ao29 t221.length co29 : Value).ownBlock) (n := t210.length) (c := co21) ?_).2.2; exact (by (with_reducible repeat (first | apply Kd.R_alloc | apply Kd.R_drewN | apply Kd.R_drew)); exact (Kd.R_mono (Kd.R_mono (Kd.R_far (p := ⟨gb229, 5, none⟩) (Kd.R_far (p := ⟨gb229, 4, none⟩) (Kd.R_far (p := ⟨gb229, 3, none⟩) (Kd.R_far (p := ⟨gb229, 2, none⟩) (Kd.R_far (p := ⟨gb229, 1, none⟩) (Kd.R_far (p := ⟨gb229, 0, none⟩) (Kd.R_far (p := ⟨gb228, 5, none⟩) (Kd.R_far (p := ⟨gb228, 4, none⟩) (Kd.R_far (p := ⟨gb228, 3, none⟩) (Kd.R_far (p := ⟨gb228, 2, none⟩) (Kd.R_far (p := ⟨gb228, 1, none⟩) (Kd.R_far (p := ⟨gb228, 0, none⟩) (Kd.R_types (Kd.R_types HO212.out BK228.out (by decide)) BK229.out (by decide)) (fun _ hk => hk.1.2) (.slice Ao19 t207.length co19)) (fun _ hk => hk.1.2) (.slice Ao21 t210.length co21)) (fun _ hk => hk.1.2) (.int .i64 t213)) (fun _ hk => hk.1.2) (.int .i64 t214)) (fun _ hk => hk.1.2) (.bool t215)) (fun _ hk => hk.1.2) (.int .i64 t216)) (fun _ hk => hk.2) (.slice Ao27 t218.length co27)) (fun _ hk => hk.2) (.slice Ao29 t221.length co29)) (fun _ hk => hk.2) (.int .i64 t224)) (fun _ hk => hk.2) (.int .i64 t225)) (fun _ hk => hk.2) (.bool t226)) (fun _ hk => hk.2) (.int .i64 t227)) (fun _ h_ => h_.1)) (fun _ h_ => h_.1)))); (case side2 => exact (Kd.R_reads' HO212.out).2.1); (case side3 => refine (Kd.R_reads' (e := 3) (base := w.heap.size) (ok := fun k_ => some k_ ≠ (.slice Ao21 t210.length co21 : Value).ownBlock) (n := t221.length) (c := co29) ?_).2.2; exact (by (with_reducible repeat (first | apply Kd.R_alloc | apply Kd.R_drewN | apply Kd.R_drew)); exact (Kd.R_mono (Kd.R_mono (Kd.R_far (p := ⟨gb229, 5, none⟩) (Kd.R_far (p := ⟨gb229, 4, none⟩) (Kd.R_far (p := ⟨gb229, 3, none⟩) (Kd.R_far (p := ⟨gb229, 2, none⟩) (Kd.R_far (p := ⟨gb229, 1, none⟩) (Kd.R_far (p := ⟨gb229, 0, none⟩) (Kd.R_far (p := ⟨gb228, 5, none⟩) (Kd.R_far (p := ⟨gb228, 4, none⟩) (Kd.R_far (p := ⟨gb228, 3, none⟩) (Kd.R_far (p := ⟨gb228, 2, none⟩) (Kd.R_far (p := ⟨gb228, 1, none⟩) (Kd.R_far (p := ⟨gb228, 0, none⟩) (Kd.R_types (Kd.R_types HO223.out BK228.out (by decide)) BK229.out (by decide)) (fun _ hk => hk.1.2) (.slice Ao19 t207.length co19)) (fun _ hk => hk.1.2) (.slice Ao21 t210.length co21)) (fun _ hk => hk.1.2) (.int .i64 t213)) (fun _ hk => hk.1.2) (.int .i64 t214)) (fun _ hk => hk.1.2) (.bool t215)) (fun _ hk => hk.1.2) (.int .i64 t216)) (fun _ hk => hk.2) (.slice Ao27 t218.length co27)) (fun _ hk => hk.2) (.slice Ao29 t221.length co29)) (fun _ hk => hk.2) (.int .i64 t224)) (fun _ hk => hk.2) (.int .i64 t225)) (fun _ hk => hk.2) (.bool t226)) (fun _ hk => hk.2) (.int .i64 t227)) (fun _ h_ => h_.1)) (fun _ h_ => h_.1)))); (case side4 => exact (Kd.R_reads' HO223.out).2.1); rintro e w' ⟨rfl, ⟨nd, rfl⟩⟩))
                          go_ret
                          exact ⟨by first | rfl | (simp [errW_none, errW_some] <;> rfl) | (simp [*, errW_none, errW_some] <;> rfl), by repeat (first | (with_reducible first | exact HB.out | apply below_alloc | apply pw_below_drewN | apply below_drew1 | refine below_set ?_ GE228.out | refine below_set ?_ GE229.out) | exact HB.out)⟩
                      · replace c40 := Bool.eq_false_iff.mpr c40
                        subst c40
                        have H1 : (some false) = some r := by rw [if_neg (show ¬ (false = true) by decide)] at H; exact H
                        clear H
                        have H := H1
                        clear H1
                        obtain rfl := Option.some.inj H
                        have hnb115 := NB228_229.out
                        have hnc115 := NB229_228.out
                        have hcz116_0 : w18.cell? ⟨gb228, 0, none⟩ = some (.slice none 0 0) := (blk_cell BK228.out 0).trans rfl
                        have hcz116_1 : w18.cell? ⟨gb228, 1, none⟩ = some (.slice none 0 0) := (blk_cell BK228.out 1).trans rfl
                        have hcz116_2 : w18.cell? ⟨gb228, 2, none⟩ = some (.int .i64 0) := (blk_cell BK228.out 2).trans rfl
                        have hcz116_3 : w18.cell? ⟨gb228, 3, none⟩ = some (.int .i64 0) := (blk_cell BK228.out 3).trans rfl
                        have hcz116_4 : w18.cell? ⟨gb228, 4, none⟩ = some (.bool false) := (blk_cell BK228.out 4).trans rfl
                        have hcz116_5 : w18.cell? ⟨gb228, 5, none⟩ = some (.int .i64 0) := (blk_cell BK228.out 5).trans rfl
                        have hfz116_0 := blk_frozen BK228.out 0
                        have hfz116_1 := blk_frozen BK228.out 1
                        have hfz116_2 := blk_frozen BK228.out 2
                        have hfz116_3 := blk_frozen BK228.out 3
                        have hfz116_4 := blk_frozen BK228.out 4
                        have hfz116_5 := blk_frozen BK228.out 5
                        have hcz117_0 : w18.cell? ⟨gb229, 0, none⟩ = some (.slice none 0 0) := (blk_cell BK229.out 0).trans rfl
                        have hcz117_1 : w18.cell? ⟨gb229, 1, none⟩ = some (.slice none 0 0) := (blk_cell BK229.out 1).trans rfl
                        have hcz117_2 : w18.cell? ⟨gb229, 2, none⟩ = some (.int .i64 0) := (blk_cell BK229.out 2).trans rfl
                        have hcz117_3 : w18.cell? ⟨gb229, 3, none⟩ = some (.int .i64 0) := (blk_cell BK229.out 3).trans rfl
                        have hcz117_4 : w18.cell? ⟨gb229, 4, none⟩ = some (.bool false) := (blk_cell BK229.out 4).trans rfl
                        have hcz117_5 : w18.cell? ⟨gb229, 5, none⟩ = some (.int .i64 0) := (blk_cell BK229.out 5).trans rfl
                        have hfz117_0 := blk_frozen BK229.out 0
                        have hfz117_1 := blk_frozen BK229.out 1
                        have hfz117_2 := blk_frozen BK229.out 2
                        have hfz117_3 := blk_frozen BK229.out 3
                        have hfz117_4 := blk_frozen BK229.out 4
                        have hfz117_5 := blk_frozen BK229.out 5
                        try go_wp2_with (first | (go_at_call 13; (with_reducible refine (pylonref06_SameWords.calls k1 _ _ t207 _ _ t218 false _ ?side1 ?side2 ?side3 ?side4 A39.out).mono ?_); (case side1 => refine (Kd.R_reads' (e := 9) (base := w.heap.size) (ok := fun k_ => some k_ ≠ (.slice Ao27 t218.length co27 : Value).ownBlock) (n := t207.length) (c := co19) ?_).2.2; exact (by (with_reducible repeat (first | apply Kd.R_alloc | apply Kd.R_drewN | apply Kd.R_drew)); exact (Kd.R_mono (Kd.R_mono (Kd.R_far (p := ⟨gb229, 5, none⟩) (Kd.R_far (p := ⟨gb229, 4, none⟩) (Kd.R_far (p := ⟨gb229, 3, none⟩) (Kd.R_far (p := ⟨gb229, 2, none⟩) (Kd.R_far (p := ⟨gb229, 1, none⟩) (Kd.R_far (p := ⟨gb229, 0, none⟩) (Kd.R_far (p := ⟨gb228, 5, none⟩) (Kd.R_far (p := ⟨gb228, 4, none⟩) (Kd.R_far (p := ⟨gb228, 3, none⟩) (Kd.R_far (p := ⟨gb228, 2, none⟩) (Kd.R_far (p := ⟨gb228, 1, none⟩) (Kd.R_far (p := ⟨gb228, 0, none⟩) (Kd.R_types (Kd.R_types HO209.out BK228.out (by decide)) BK229.out (by decide)) (fun _ hk => hk.1.2) (.slice Ao19 t207.length co19)) (fun _ hk => hk.1.2) (.slice Ao21 t210.length co21)) (fun _ hk => hk.1.2) (.int .i64 t213)) (fun _ hk => hk.1.2) (.int .i64 t214)) (fun _ hk => hk.1.2) (.bool t215)) (fun _ hk => hk.1.2) (.int .i64 t216)) (fun _ hk => hk.2) (.slice Ao27 t218.length co27)) (fun _ hk => hk.2) (.slice Ao29 t221.length co29)) (fun _ hk => hk.2) (.int .i64 t224)) (fun _ hk => hk.2) (.int .i64 t225)) (fun _ hk => hk.2) (.bool t226)) (fun _ hk => hk.2) (.int .i64 t227)) (fun _ h_ => h_.1)) (fun _ h_ => h_.1)))); (case side2 => exact (Kd.R_reads' HO209.out).2.1); (case side3 => refine (Kd.R_reads' (e := 9) (base := w.heap.size) (ok := fun k_ => some k_ ≠ (.slice Ao19 t207.length co19 : Value).ownBlock) (n := t218.length) (c := co27) ?_).2.2; exact (by (with_reducible repeat (first | apply Kd.R_alloc | apply Kd.R_drewN | apply Kd.R_drew)); exact (Kd.R_mono (Kd.R_mono (Kd.R_far (p := ⟨gb229, 5, none⟩) (Kd.R_far (p := ⟨gb229, 4, none⟩) (Kd.R_far (p := ⟨gb229, 3, none⟩) (Kd.R_far (p := ⟨gb229, 2, none⟩) (Kd.R_far (p := ⟨gb229, 1, none⟩) (Kd.R_far (p := ⟨gb229, 0, none⟩) (Kd.R_far (p := ⟨gb228, 5, none⟩) (Kd.R_far (p := ⟨gb228, 4, none⟩) (Kd.R_far (p := ⟨gb228, 3, none⟩) (Kd.R_far (p := ⟨gb228, 2, none⟩) (Kd.R_far (p := ⟨gb228, 1, none⟩) (Kd.R_far (p := ⟨gb228, 0, none⟩) (Kd.R_types (Kd.R_types HO220.out BK228.out (by decide)) BK229.out (by decide)) (fun _ hk => hk.1.2) (.slice Ao19 t207.length co19)) (fun _ hk => hk.1.2) (.slice Ao21 t210.length co21)) (fun _ hk => hk.1.2) (.int .i64 t213)) (fun _ hk => hk.1.2) (.int .i64 t214)) (fun _ hk => hk.1.2) (.bool t215)) (fun _ hk => hk.1.2) (.int .i64 t216)) (fun _ hk => hk.2) (.slice Ao27 t218.length co27)) (fun _ hk => hk.2) (.slice Ao29 t221.length co29)) (fun _ hk => hk.2) (.int .i64 t224)) (fun _ hk => hk.2) (.int .i64 t225)) (fun _ hk => hk.2) (.bool t226)) (fun _ hk => hk.2) (.int .i64 t227)) (fun _ h_ => h_.1)) (fun _ h_ => h_.1)))); (case side4 => exact (Kd.R_reads' HO220.out).2.1); rintro e w' ⟨rfl, ⟨nd, rfl⟩⟩))
                        go_ret
                        exact ⟨by first | rfl | (simp [errW_none, errW_some] <;> rfl) | (simp [*, errW_none, errW_some] <;> rfl), by repeat (first | (with_reducible first | exact HB.out | apply below_alloc | apply pw_below_drewN | apply below_drew1 | refine below_set ?_ GE228.out | refine below_set ?_ GE229.out) | exact HB.out)⟩
                    · rw [if_neg c38] at H
                      have c38b0 : (t216 == t227) = false := beq_eq_false_iff_ne.mpr c38
                      have c38b1 : (t216 != t227) = true := bne_iff_ne.mpr c38
                      obtain rfl := Option.some.inj H
                      have hnb140 := NB228_229.out
                      have hnc140 := NB229_228.out
                      have hcz141_0 : w18.cell? ⟨gb228, 0, none⟩ = some (.slice none 0 0) := (blk_cell BK228.out 0).trans rfl
                      have hcz141_1 : w18.cell? ⟨gb228, 1, none⟩ = some (.slice none 0 0) := (blk_cell BK228.out 1).trans rfl
                      have hcz141_2 : w18.cell? ⟨gb228, 2, none⟩ = some (.int .i64 0) := (blk_cell BK228.out 2).trans rfl
                      have hcz141_3 : w18.cell? ⟨gb228, 3, none⟩ = some (.int .i64 0) := (blk_cell BK228.out 3).trans rfl
                      have hcz141_4 : w18.cell? ⟨gb228, 4, none⟩ = some (.bool false) := (blk_cell BK228.out 4).trans rfl
                      have hcz141_5 : w18.cell? ⟨gb228, 5, none⟩ = some (.int .i64 0) := (blk_cell BK228.out 5).trans rfl
                      have hfz141_0 := blk_frozen BK228.out 0
                      have hfz141_1 := blk_frozen BK228.out 1
                      have hfz141_2 := blk_frozen BK228.out 2
                      have hfz141_3 := blk_frozen BK228.out 3
                      have hfz141_4 := blk_frozen BK228.out 4
                      have hfz141_5 := blk_frozen BK228.out 5
                      have hcz142_0 : w18.cell? ⟨gb229, 0, none⟩ = some (.slice none 0 0) := (blk_cell BK229.out 0).trans rfl
                      have hcz142_1 : w18.cell? ⟨gb229, 1, none⟩ = some (.slice none 0 0) := (blk_cell BK229.out 1).trans rfl
                      have hcz142_2 : w18.cell? ⟨gb229, 2, none⟩ = some (.int .i64 0) := (blk_cell BK229.out 2).trans rfl
                      have hcz142_3 : w18.cell? ⟨gb229, 3, none⟩ = some (.int .i64 0) := (blk_cell BK229.out 3).trans rfl
                      have hcz142_4 : w18.cell? ⟨gb229, 4, none⟩ = some (.bool false) := (blk_cell BK229.out 4).trans rfl
                      have hcz142_5 : w18.cell? ⟨gb229, 5, none⟩ = some (.int .i64 0) := (blk_cell BK229.out 5).trans rfl
                      have hfz142_0 := blk_frozen BK229.out 0
                      have hfz142_1 := blk_frozen BK229.out 1
                      have hfz142_2 := blk_frozen BK229.out 2
                      have hfz142_3 := blk_frozen BK229.out 3
                      have hfz142_4 := blk_frozen BK229.out 4
                      have hfz142_5 := blk_frozen BK229.out 5
                      try go_wp2
                      go_ret
                      exact ⟨by first | rfl | (simp [errW_none, errW_some] <;> rfl) | (simp [*, errW_none, errW_some] <;> rfl), by repeat (first | (with_reducible first | exact HB.out | apply below_alloc | apply pw_below_drewN | apply below_drew1 | refine below_set ?_ GE228.out | refine below_set ?_ GE229.out) | exact HB.out)⟩
                · rw [if_neg c11] at H
                  have c11b0 : (t214 == t225) = false := beq_eq_false_iff_ne.mpr c11
                  have c11b1 : (t214 != t225) = true := bne_iff_ne.mpr c11
                  obtain rfl := Option.some.inj H
                  have hnb165 := NB228_229.out
                  have hnc165 := NB229_228.out
                  have hcz166_0 : w18.cell? ⟨gb228, 0, none⟩ = some (.slice none 0 0) := (blk_cell BK228.out 0).trans rfl
                  have hcz166_1 : w18.cell? ⟨gb228, 1, none⟩ = some (.slice none 0 0) := (blk_cell BK228.out 1).trans rfl
                  have hcz166_2 : w18.cell? ⟨gb228, 2, none⟩ = some (.int .i64 0) := (blk_cell BK228.out 2).trans rfl
                  have hcz166_3 : w18.cell? ⟨gb228, 3, none⟩ = some (.int .i64 0) := (blk_cell BK228.out 3).trans rfl
                  have hcz166_4 : w18.cell? ⟨gb228, 4, none⟩ = some (.bool false) := (blk_cell BK228.out 4).trans rfl
                  have hcz166_5 : w18.cell? ⟨gb228, 5, none⟩ = some (.int .i64 0) := (blk_cell BK228.out 5).trans rfl
                  have hfz166_0 := blk_frozen BK228.out 0
                  have hfz166_1 := blk_frozen BK228.out 1
                  have hfz166_2 := blk_frozen BK228.out 2
                  have hfz166_3 := blk_frozen BK228.out 3
                  have hfz166_4 := blk_frozen BK228.out 4
                  have hfz166_5 := blk_frozen BK228.out 5
                  have hcz167_0 : w18.cell? ⟨gb229, 0, none⟩ = some (.slice none 0 0) := (blk_cell BK229.out 0).trans rfl
                  have hcz167_1 : w18.cell? ⟨gb229, 1, none⟩ = some (.slice none 0 0) := (blk_cell BK229.out 1).trans rfl
                  have hcz167_2 : w18.cell? ⟨gb229, 2, none⟩ = some (.int .i64 0) := (blk_cell BK229.out 2).trans rfl
                  have hcz167_3 : w18.cell? ⟨gb229, 3, none⟩ = some (.int .i64 0) := (blk_cell BK229.out 3).trans rfl
                  have hcz167_4 : w18.cell? ⟨gb229, 4, none⟩ = some (.bool false) := (blk_cell BK229.out 4).trans rfl
                  have hcz167_5 : w18.cell? ⟨gb229, 5, none⟩ = some (.int .i64 0) := (blk_cell BK229.out 5).trans rfl
                  have hfz167_0 := blk_frozen BK229.out 0
                  have hfz167_1 := blk_frozen BK229.out 1
                  have hfz167_2 := blk_frozen BK229.out 2
                  have hfz167_3 := blk_frozen BK229.out 3
                  have hfz167_4 := blk_frozen BK229.out 4
                  have hfz167_5 := blk_frozen BK229.out 5
                  try go_wp2
                  go_ret
                  exact ⟨by first | rfl | (simp [errW_none, errW_some] <;> rfl) | (simp [*, errW_none, errW_some] <;> rfl), by repeat (first | (with_reducible first | exact HB.out | apply below_alloc | apply pw_below_drewN | apply below_drew1 | refine below_set ?_ GE228.out | refine below_set ?_ GE229.out) | exact HB.out)⟩
              · rw [if_neg c10] at H
                have c10b0 : (t213 == t224) = false := beq_eq_false_iff_ne.mpr c10
                have c10b1 : (t213 != t224) = true := bne_iff_ne.mpr c10
                obtain rfl := Option.some.inj H
                have hnb190 := NB228_229.out
                have hnc190 := NB229_228.out
                have hcz191_0 : w18.cell? ⟨gb228, 0, none⟩ = some (.slice none 0 0) := (blk_cell BK228.out 0).trans rfl
                have hcz191_1 : w18.cell? ⟨gb228, 1, none⟩ = some (.slice none 0 0) := (blk_cell BK228.out 1).trans rfl
                have hcz191_2 : w18.cell? ⟨gb228, 2, none⟩ = some (.int .i64 0) := (blk_cell BK228.out 2).trans rfl
                have hcz191_3 : w18.cell? ⟨gb228, 3, none⟩ = some (.int .i64 0) := (blk_cell BK228.out 3).trans rfl
                have hcz191_4 : w18.cell? ⟨gb228, 4, none⟩ = some (.bool false) := (blk_cell BK228.out 4).trans rfl
                have hcz191_5 : w18.cell? ⟨gb228, 5, none⟩ = some (.int .i64 0) := (blk_cell BK228.out 5).trans rfl
                have hfz191_0 := blk_frozen BK228.out 0
                have hfz191_1 := blk_frozen BK228.out 1
                have hfz191_2 := blk_frozen BK228.out 2
                have hfz191_3 := blk_frozen BK228.out 3
                have hfz191_4 := blk_frozen BK228.out 4
                have hfz191_5 := blk_frozen BK228.out 5
                have hcz192_0 : w18.cell? ⟨gb229, 0, none⟩ = some (.slice none 0 0) := (blk_cell BK229.out 0).trans rfl
                have hcz192_1 : w18.cell? ⟨gb229, 1, none⟩ = some (.slice none 0 0) := (blk_cell BK229.out 1).trans rfl
                have hcz192_2 : w18.cell? ⟨gb229, 2, none⟩ = some (.int .i64 0) := (blk_cell BK229.out 2).trans rfl
                have hcz192_3 : w18.cell? ⟨gb229, 3, none⟩ = some (.int .i64 0) := (blk_cell BK229.out 3).trans rfl
                have hcz192_4 : w18.cell? ⟨gb229, 4, none⟩ = some (.bool false) := (blk_cell BK229.out 4).trans rfl
                have hcz192_5 : w18.cell? ⟨gb229, 5, none⟩ = some (.int .i64 0) := (blk_cell BK229.out 5).trans rfl
                have hfz192_0 := blk_frozen BK229.out 0
                have hfz192_1 := blk_frozen BK229.out 1
                have hfz192_2 := blk_frozen BK229.out 2
                have hfz192_3 := blk_frozen BK229.out 3
                have hfz192_4 := blk_frozen BK229.out 4
                have hfz192_5 := blk_frozen BK229.out 5
                try go_wp2
                go_ret
                exact ⟨by first | rfl | (simp [errW_none, errW_some] <;> rfl) | (simp [*, errW_none, errW_some] <;> rfl), by repeat (first | (with_reducible first | exact HB.out | apply below_alloc | apply pw_below_drewN | apply below_drew1 | refine below_set ?_ GE228.out | refine below_set ?_ GE229.out) | exact HB.out)⟩
            · rw [if_neg c7] at H
              exact absurd H (by simp)
          · rw [if_neg c6] at H
            exact absurd H (by simp)
        · rw [if_neg c5] at H
          have c5b0 : decide (x10_1 < (l0.length : Int)) = false := decide_eq_false c5
          clear c5
          obtain rfl := Option.some.inj H
          go_wp2
          go_ret
          exact ⟨by first | rfl | (simp [errW_none, errW_some] <;> rfl) | (simp [*, errW_none, errW_some] <;> rfl), by repeat (first | (with_reducible first | exact HB.out | apply below_alloc | apply pw_below_drewN | apply below_drew1) | exact HB.out)⟩
  · replace c3 := Bool.eq_false_iff.mpr c3
    subst c3
    have H1 : (some false) = some r := by rw [if_neg (show ¬ (false = true) by decide)] at H; exact H
    clear H
    have H := H1
    clear H1
    obtain rfl := Option.some.inj H
    go_enter Tryd.func5, Tryd.ntmps5
    go_wp2_with (first | ((with_reducible refine gate_callee (f := 6) rfl ?_); refine goesL_ (some 6) rfl rfl Tryd.func6 (by kernel_rfl) rfl #[] rfl (by (try simp only [List.map_toArray, List.map_cons, List.map_nil]); first | done | rfl | (simp only [List.length_drop, List.length_take]; rfl)) ?_; (with_reducible refine (pylonlaw06_awake.calls k  false _ A2.out).mono ?_); rintro e w193 ⟨rfl, hb⟩; refine ⟨_, rfl, ?_⟩; have n0_ := Aside0.mk (below_step (by repeat (first | (with_reducible first | exact HB.out | apply below_alloc | apply pw_below_drewN | apply below_drew1) | exact HB.out)) hb); clear HB; have HB := n0_; clear n0_; (try clear hb); (try clear hb2); (try clear hk); (try clear hi)))
    go_ret
    exact ⟨by first | rfl | (simp [errW_none, errW_some] <;> rfl) | (simp [*, errW_none, errW_some] <;> rfl), by repeat (first | (with_reducible first | exact HB.out | apply below_alloc | apply pw_below_drewN | apply below_drew1) | exact HB.out)⟩

end Go.Proofs.YtopgcofloldedaaDoor.Pa
