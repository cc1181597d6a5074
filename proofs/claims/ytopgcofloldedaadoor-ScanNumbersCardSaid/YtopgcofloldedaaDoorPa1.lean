-- Written by mk.py (this repo's program), over the kit's printer: function by function, its Lean function and its contract.
import Derived.Test.YtopgcofloldedaaDoorPa0
namespace Go.Proofs.YtopgcofloldedaaDoor.Pa
open Go.RowKit Go.Proofs.YtopgcofloldedaaDoorW.PrintWords Go.Proofs.YtopgcofloldedaaDoorW.PrintLast Go.Proofs.YtopgcofloldedaaDoorW.PrintMore
attribute [local go_sem] max2_int min2_int max_two min_two max_three min_three max_four min_four   -- for this text's walks alone
set_option linter.unusedVariables false
set_option linter.unusedSimpArgs false

/-! ### scan_printed: function 18 -/
def scan_printed.f (a0 : Int) : Option (Bool) := if a0 > 32 then (some (decide (a0 < 127))) else (some false)
set_option maxHeartbeats 8000000 in
set_option maxRecDepth 100000 in
theorem scan_printed.calls (a0 : Int) (r : Bool) (w : World) (h : scan_printed.f a0 = some r) :
    Calls Tryd.prog 18 #[.int .u8 a0] w fun e w' => e = .returned (.bool r) ∧ Drawn0 w w' := by
  have H : (if a0 > 32 then (some (decide (a0 < 127))) else (some false)) = some r := h
  clear h
  by_cases c2 : a0 > 32
  · rw [if_pos c2] at H
    have c2b0 : decide (32 < a0) = true := decide_eq_true c2
    clear c2
    obtain rfl := Option.some.inj H
    go_enter Tryd.func18, Tryd.ntmps18
    go_wp2
    go_ret
    exact ⟨by first | rfl | (simp; done) | (simp [*]; done), by repeat (first | exact Drawn0.refl _ | apply Drawn0.step)⟩
  · rw [if_neg c2] at H
    have c2b0 : decide (32 < a0) = false := decide_eq_false c2
    clear c2
    obtain rfl := Option.some.inj H
    go_enter Tryd.func18, Tryd.ntmps18
    go_wp2
    go_ret
    exact ⟨by first | rfl | (simp; done) | (simp [*]; done), by repeat (first | exact Drawn0.refl _ | apply Drawn0.step)⟩

/-! ### scan_Words: function 10 (given) -/
-- 
mutual
/-- at a word's first byte: the words ahead, the place -/
def scan_Words.l0 : Nat → ByteArray → List ByteArray → Int → Option (List ByteArray × Int × Int)
  | 0, _, _, _ => none
  | k + 1, x0, x2, x5 => if x5 = (x0.size : Int) then (if x5 > 0 then some ([], x5, 1) else some ([], x5 + 1, 1)) else if 0 ≤ x5 ∧ x5 < (x0.size : Int) then (scan_printed.f (bt x0 x5)).bind fun t => if t = true then scan_Words.l1 k x0 x2 x5 x5 else some ([], x5 + 1, 1) else none
/-- behind a byte of a word: the words ahead, the word's first place, the byte's place -/
def scan_Words.l1 : Nat → ByteArray → List ByteArray → Int → Int → Option (List ByteArray × Int × Int)
  | 0, _, _, _, _ => none
  | k + 1, x0, x2, x6, x5 => if x5 + 1 < (x0.size : Int) then (scan_printed.f (bt x0 (x5 + 1))).bind fun t => if t = true then scan_Words.l1 k x0 x2 x6 (x5 + 1) else if x2.length < 8796093022208 then (if (bt x0 (x5 + 1)) = 32 then scan_Words.l0 k x0 (x2 ++ [x0.extract x6.toNat (x5 + 1).toNat]) (x5 + 1 + 1) else some ([], x5 + 1 + 1, 1)) else none
      else if x2.length < 8796093022208 then some (x2 ++ [x0.extract x6.toNat (x5 + 1).toNat], 0, 0) else none
end
def scan_Words.f (k : Nat) (a0 : ByteArray) : Option (List ByteArray × Int × Int) := if a0.size ≤ 140737488355328 then scan_Words.l0 k a0 [] 0 else none
theorem scan_Words.mono_l : ∀ k, (∀ y0 y1 y2, LeO (scan_Words.l0 k y0 y1 y2) (scan_Words.l0 (k + 1) y0 y1 y2)) ∧ (∀ y0 y1 y2 y3, LeO (scan_Words.l1 k y0 y1 y2 y3) (scan_Words.l1 (k + 1) y0 y1 y2 y3))
  | 0 => ⟨fun _ _ _ r h => by simp [scan_Words.l0] at h, fun _ _ _ _ r h => by simp [scan_Words.l1] at h⟩
  | k + 1 => by
    obtain ⟨ih0, ih1⟩ := scan_Words.mono_l k
    refine ⟨?_, ?_⟩
    · intro y0 y1 y2
      unfold scan_Words.l0
      repeat' first
      | (with_reducible exact ih1 _ _ _ _)
      | (with_reducible exact LeO.refl _)
      | (with_reducible refine LeO.ite ?_ ?_)
      | (with_reducible refine LeO.bind ?_ (fun _ => ?_))
    · intro y0 y1 y2 y3
      unfold scan_Words.l1
      repeat' first
      | (with_reducible exact ih0 _ _ _)
      | (with_reducible exact ih1 _ _ _ _)
      | (with_reducible exact LeO.refl _)
      | (with_reducible refine LeO.ite ?_ ?_)
      | (with_reducible refine LeO.bind ?_ (fun _ => ?_))
theorem scan_Words.mono : ∀ a0 k, LeO (scan_Words.f k a0) (scan_Words.f (k + 1) a0) := by
  intro a0 k
  unfold scan_Words.f
  exact LeO.ite ((scan_Words.mono_l k).1 _ _ _) (LeO.refl _)

def scan_Words.Fr (a0 : ByteArray) (v2 : Value) (x5 : Int) (v6 : Value) (a : Act) : Prop := ∃ u7 u8 u9 u10 u11 u12 u13 u14 u15 u16 u17 u18 u19 u20 u21 u22 u23 u24 u25 u26 u27 u28 u29 u30 u31 u32 u33 u34 u35 u36 u37 u38 u39 u40 u41 u42 u43 u44 u45 u46 u47 u48 u49 u50 u51 u52 u53 u54 u55 u56 u57 u58 u59 u60 u61 u62 : Value, a = { tmps := #[.string a0, undef, v2, .int .i64 0, .int .i64 0, .int .i64 x5, v6, u7, u8, u9, u10, u11, u12, u13, u14, u15, u16, u17, u18, u19, u20, u21, u22, u23, u24, u25, u26, u27, u28, u29, u30, u31, u32, u33, u34, u35, u36, u37, u38, u39, u40, u41, u42, u43, u44, u45, u46, u47, u48, u49, u50, u51, u52, u53, u54, u55, u56, u57, u58, u59, u60, u61, u62], defers := [] }

def scan_Words.J (a0 : ByteArray) (r : List ByteArray × Int × Int) (w : World) (l n : Nat) (a : Act) (w' : World) : Prop :=
  (l = 0 ∧ ∃ x2 v2 v6 x5, scan_Words.Fr a0 v2 x5 v6 a ∧ 0 ≤ x5 ∧ x5 ≤ (a0.size : Int) ∧ Aside0 (scan_Words.l0 n a0 x2 x5 = some r) ∧ Aside0 (Kd.R Kd.string 9 w' w.heap.size (fun _ => True) v2 x2) ∧ Aside0 (Below w.heap.size w w')) ∨
  (l = 1 ∧ ∃ x2 v2 x6 x5, scan_Words.Fr a0 v2 x5 (.int .i64 x6) a ∧ 0 ≤ x6 ∧ x6 ≤ x5 ∧ x5 < (a0.size : Int) ∧ Aside0 (scan_Words.l1 n a0 x2 x6 x5 = some r) ∧ Aside0 (Kd.R Kd.string 9 w' w.heap.size (fun _ => True) v2 x2) ∧ Aside0 (Below w.heap.size w w'))

set_option maxHeartbeats 4000000 in
set_option maxRecDepth 100000 in
theorem scan_Words.calls (k : Nat) (a0 : ByteArray) (r1 : List ByteArray) (r2 : Int) (r3 : Int) (w : World) (h : scan_Words.f k a0 = some (r1, r2, r3)) :
    Calls Tryd.prog 10 #[.string a0] w fun e w' => ∃ v0_ : Value, e = .returned (.tuple #[v0_, .int .i64 r2, .int .i64 r3]) ∧ Kd.R Kd.string 9 w' w.heap.size (fun _ => True) v0_ r1 ∧ Below w.heap.size w w' := by
  unfold scan_Words.f at h
  by_cases hsz : a0.size ≤ 140737488355328
  · rw [if_pos hsz] at h
    have h' := Aside0.mk h
    clear h
    go_enter Tryd.func10, Tryd.ntmps10
    go_wp2
    refine wp_scope_at (l0 := 0) (scan_Words.J a0 (r1, r2, r3) w) rfl ?_ ?_
    · go_wp2
      exact ⟨k, .inl ⟨rfl, [], _, _, 0, ⟨_, _, _, _, _, _, _, _, _, _, _, _, _, _, _, _, _, _, _, _, _, _, _, _, _, _, _, _, _, _, _, _, _, _, _, _, _, _, _, _, _, _, _, _, _, _, _, _, _, _, _, _, _, _, _, _, rfl⟩, by omega, by omega, ⟨h'.out⟩, ⟨Kd.R_nil _ _ _ _ _⟩, ⟨Below.refl _ _⟩⟩⟩
    · intro n l a w' hJ
      rcases hJ with ⟨rfl, x2, v2, v6, x5, hfr, h0, h1, HA, HO, HB⟩ | ⟨rfl, x2, v2, x6, x5, hfr, h0, h1, h2, HA, HO, HB⟩
      · refine ⟨_, rfl, ?_⟩
        obtain ⟨u7, u8, u9, u10, u11, u12, u13, u14, u15, u16, u17, u18, u19, u20, u21, u22, u23, u24, u25, u26, u27, u28, u29, u30, u31, u32, u33, u34, u35, u36, u37, u38, u39, u40, u41, u42, u43, u44, u45, u46, u47, u48, u49, u50, u51, u52, u53, u54, u55, u56, u57, u58, u59, u60, u61, u62, rfl⟩ := hfr
        cases n with
        | zero => exact absurd HA.out (by simp [scan_Words.l0])
        | succ k1 =>
          have H := HA.out
          clear HA
          simp only [scan_Words.l0] at H
          by_cases hend : x5 = (a0.size : Int)
          · rw [if_pos hend] at H
            have ceq : ((x5 : Int) == (a0.size : Int)) = true := beq_iff_eq.mpr hend
            have clt2 := Int.le_of_eq hend.symm
            have clt3 := Int.le_of_eq hend
            clear hend
            by_cases hpos : x5 > 0
            · rw [if_pos hpos] at H
              simp only [Option.some.injEq, Prod.mk.injEq] at H
              obtain ⟨rfl, rfl, rfl⟩ := H
              have cgt : decide (0 < x5) = true := decide_eq_true hpos
              go_wp2
              simp only [ExitJumps_ret]
              go_ret3
              exact ⟨_, by first | rfl | (simp; done) | (simp; omega), Kd.R_nil _ _ _ _ _, (by repeat (first | (with_reducible first | exact HB.out | apply below_alloc | apply pw_below_drewN | apply below_drew1) | exact HB.out))⟩
            · rw [if_neg hpos] at H
              simp only [Option.some.injEq, Prod.mk.injEq] at H
              obtain ⟨rfl, rfl, rfl⟩ := H
              have cgt : decide (0 < x5) = false := decide_eq_false hpos
              clear hpos
              go_wp2
              simp only [ExitJumps_ret]
              go_ret3
              exact ⟨_, by first | rfl | (simp; done) | (simp; omega), Kd.R_nil _ _ _ _ _, (by repeat (first | (with_reducible first | exact HB.out | apply below_alloc | apply pw_below_drewN | apply below_drew1) | exact HB.out))⟩
          · rw [if_neg hend] at H
            have hlt0 : x5 < (a0.size : Int) := by omega
            rw [if_pos ⟨h0, hlt0⟩] at H
            replace H := Option.bind_eq_some_iff.mp H
            obtain ⟨t0, A00, H⟩ := H
            have A0 := Aside0.mk A00
            clear A00
            have ceq0 : ((x5 : Int) == (a0.size : Int)) = false := beq_eq_false_iff_ne.mpr hend
            clear hend
            have p0 : 0 ≤ x5 := h0
            have q0 := hlt0
            have hx0 := bt_at a0 x5
            replace p0 := eq_true p0
            replace q0 := eq_true q0
            cases t0 with
            | false =>
              simp only [Bool.false_eq_true, if_false, Option.some.injEq, Prod.mk.injEq] at H
              obtain ⟨rfl, rfl, rfl⟩ := H
              go_wp2_with (first | (go_at_call 18; (with_reducible refine (scan_printed.calls (bt a0 x5) false _ A0.out).mono ?_); rintro e w'' ⟨rfl, ⟨nd, rfl⟩⟩))
              all_goals simp only [ExitJumps_ret]
              all_goals go_ret3
              all_goals exact ⟨_, by first | rfl | (simp; done) | (simp; omega), Kd.R_nil _ _ _ _ _, (by repeat (first | (with_reducible first | exact HB.out | apply below_alloc | apply pw_below_drewN | apply below_drew1) | exact HB.out))⟩
            | true =>
              simp only [if_true] at H
              have H' := Aside0.mk H
              clear H
              go_wp2_with (first | (go_at_call 18; (with_reducible refine (scan_printed.calls (bt a0 x5) true _ A0.out).mono ?_); rintro e w'' ⟨rfl, ⟨nd, rfl⟩⟩))
              go_step3
              have H := H'.out
              clear H'
              cases k1 with
              | zero => exact absurd H (by simp [scan_Words.l1])
              | succ k2 =>
                simp only [scan_Words.l1] at H
                have hw1 : x5 + 1 < (a0.size : Int) ∨ x5 + 1 = (a0.size : Int) := by omega
                rcases hw1 with hlt | heq
                · rw [if_pos hlt] at H
                  replace H := Option.bind_eq_some_iff.mp H
                  obtain ⟨t, A40, H⟩ := H
                  have A4 := Aside0.mk A40
                  clear A40
                  have clt : decide (x5 + 1 < (a0.size : Int)) = true := decide_eq_true hlt
                  have ceq : ((x5 + 1 : Int) == (a0.size : Int)) = false := beq_eq_false_iff_ne.mpr (by omega)
                  have p8 : 0 ≤ (x5 + 1 : Int) := by omega
                  have q8 : x5 + 1 < (a0.size : Int) := hlt
                  have hx8 := bt_at a0 (x5 + 1)
                  have s2 : x5 ≤ x5 + 1 := by omega
                  have s3 : x5 + 1 ≤ (a0.size : Int) := by omega
                  have s1 := h0
                  replace s1 := eq_true s1
                  replace s2 := eq_true s2
                  replace s3 := eq_true s3
                  replace p8 := eq_true p8
                  replace q8 := eq_true q8
                  cases t with
                  | true =>
                    have H' := Aside0.mk H
                    clear H
                    go_wp2_with (first | (go_at_call 18; (with_reducible refine (scan_printed.calls (bt a0 (x5 + 1)) true _ A4.out).mono ?_); rintro e w'' ⟨rfl, ⟨nd, rfl⟩⟩))
                    go_step3
                    exact ⟨_, by omega, .inr ⟨rfl, x2, v2, x5, x5 + 1, ⟨_, _, _, _, _, _, _, _, _, _, _, _, _, _, _, _, _, _, _, _, _, _, _, _, _, _, _, _, _, _, _, _, _, _, _, _, _, _, _, _, _, _, _, _, _, _, _, _, _, _, _, _, _, _, _, _, rfl⟩, by omega, by omega, by omega, ⟨H'.out⟩, ⟨(by (with_reducible repeat (first | apply Kd.R_alloc | apply Kd.R_drewN | apply Kd.R_drew)); exact HO.out)⟩, ⟨(by repeat (first | (with_reducible first | exact HB.out | apply below_alloc | apply pw_below_drewN | apply below_drew1) | exact HB.out))⟩⟩⟩
                  | false =>
                    by_cases hl : x2.length < 8796093022208
                    · simp only [Bool.false_eq_true, if_false] at H
                      rw [if_pos hl] at H
                      have LMc := Aside0.mk hl
                      clear hl
                      by_cases h32 : bt a0 (x5 + 1) = 32
                      · rw [if_pos h32] at H
                        have H' := Aside0.mk H
                        clear H
                        have c32 : (bt a0 (x5 + 1) == 32) = true := beq_iff_eq.mpr h32
                        clear h32
                        go_wp2_with (first | (go_at_call 18; (with_reducible refine (scan_printed.calls (bt a0 (x5 + 1)) false _ A4.out).mono ?_); rintro e w'' ⟨rfl, ⟨nd, rfl⟩⟩) | ((with_reducible refine gate_builtin (b := .append) (xs := #[.tmp 43, .tmp 48]) rfl ?_); at_builtin; refine Kd.R_append Kd.string (w0 := w) w.heap.size rfl (.tmp 43) (.tmp 48) 28 9 (.string ⟨#[]⟩) 16 rfl Tryd.underlying28 info9 rfl (by decide) (by omega) v2 x2 (a0.extract (x5 : Int).toNat (x5 + 1 : Int).toNat) [.string (a0.extract (x5 : Int).toNat (x5 + 1 : Int).toNat)] (fun _ => True) (fun _ => False) rfl rfl ?aP (fun _ hk => hk.elim) ?aF ?aO ?aB ?aS ?aL ?_; (case aP => exact rfl); (case aB => exact (by repeat (first | (with_reducible first | exact HB.out | apply below_alloc | apply pw_below_drewN | apply below_drew1) | exact HB.out))); (case aF => exact (fun _ _ => trivial)); (case aO => exact (by (with_reducible repeat (first | apply Kd.R_alloc | apply Kd.R_drewN | apply Kd.R_drew)); exact HO.out)); (case aS => exact (below_size (by repeat (first | (with_reducible first | exact HB.out | apply below_alloc | apply pw_below_drewN | apply below_drew1) | exact HB.out)))); (case aL => have := LMc.out; omega); intro v115 w11 ho hb hg hat; have n0_ := Aside0.mk hb; have n1_ := Aside0.mk ho; clear HB; clear HO; have HB := n0_; have HO := n1_; clear n0_ n1_; clear ho hb hg hat))
                        go_step3
                        exact ⟨_, by omega, .inl ⟨rfl, _, v115, _, x5 + 1 + 1, ⟨_, _, _, _, _, _, _, _, _, _, _, _, _, _, _, _, _, _, _, _, _, _, _, _, _, _, _, _, _, _, _, _, _, _, _, _, _, _, _, _, _, _, _, _, _, _, _, _, _, _, _, _, _, _, _, _, by rfl⟩, by omega, by omega, ⟨H'.out⟩, ⟨(by (with_reducible repeat (first | apply Kd.R_alloc | apply Kd.R_drewN | apply Kd.R_drew)); exact HO.out)⟩, ⟨(by repeat (first | (with_reducible first | exact HB.out | apply below_alloc | apply pw_below_drewN | apply below_drew1) | exact HB.out))⟩⟩⟩
                      · rw [if_neg h32] at H
                        simp only [Option.some.injEq, Prod.mk.injEq] at H
                        obtain ⟨rfl, rfl, rfl⟩ := H
                        have c32 : (bt a0 (x5 + 1) == 32) = false := beq_eq_false_iff_ne.mpr h32
                        clear h32
                        go_wp2_with (first | (go_at_call 18; (with_reducible refine (scan_printed.calls (bt a0 (x5 + 1)) false _ A4.out).mono ?_); rintro e w'' ⟨rfl, ⟨nd, rfl⟩⟩) | ((with_reducible refine gate_builtin (b := .append) (xs := #[.tmp 43, .tmp 48]) rfl ?_); at_builtin; refine Kd.R_append Kd.string (w0 := w) w.heap.size rfl (.tmp 43) (.tmp 48) 28 9 (.string ⟨#[]⟩) 16 rfl Tryd.underlying28 info9 rfl (by decide) (by omega) v2 x2 (a0.extract (x5 : Int).toNat (x5 + 1 : Int).toNat) [.string (a0.extract (x5 : Int).toNat (x5 + 1 : Int).toNat)] (fun _ => True) (fun _ => False) rfl rfl ?aP (fun _ hk => hk.elim) ?aF ?aO ?aB ?aS ?aL ?_; (case aP => exact rfl); (case aB => exact (by repeat (first | (with_reducible first | exact HB.out | apply below_alloc | apply pw_below_drewN | apply below_drew1) | exact HB.out))); (case aF => exact (fun _ _ => trivial)); (case aO => exact (by (with_reducible repeat (first | apply Kd.R_alloc | apply Kd.R_drewN | apply Kd.R_drew)); exact HO.out)); (case aS => exact (below_size (by repeat (first | (with_reducible first | exact HB.out | apply below_alloc | apply pw_below_drewN | apply below_drew1) | exact HB.out)))); (case aL => have := LMc.out; omega); intro v115 w11 ho hb hg hat; have n0_ := Aside0.mk hb; have n1_ := Aside0.mk ho; clear HB; clear HO; have HB := n0_; have HO := n1_; clear n0_ n1_; clear ho hb hg hat))
                        simp only [ExitJumps_ret]
                        go_ret3
                        exact ⟨_, by first | rfl | (simp; done) | (simp; omega), Kd.R_nil _ _ _ _ _, (by repeat (first | (with_reducible first | exact HB.out | apply below_alloc | apply pw_below_drewN | apply below_drew1) | exact HB.out))⟩
                    · rw [if_neg hl] at H
                      exact absurd H (by simp)
                · rw [if_neg (by omega)] at H
                  by_cases hl : x2.length < 8796093022208
                  · rw [if_pos hl] at H
                    have LMc := Aside0.mk hl
                    clear hl
                    simp only [Option.some.injEq, Prod.mk.injEq] at H
                    obtain ⟨rfl, rfl, rfl⟩ := H
                    have clt : decide (x5 + 1 < (a0.size : Int)) = false := decide_eq_false (by omega)
                    have ceq : ((x5 + 1 : Int) == (a0.size : Int)) = true := beq_iff_eq.mpr heq
                    have clt2 := Int.le_of_eq heq.symm
                    have s3 := Int.le_of_eq heq
                    have s2 : x5 ≤ x5 + 1 := by omega
                    have s1 := h0
                    replace s1 := eq_true s1
                    replace s2 := eq_true s2
                    replace s3 := eq_true s3
                    clear heq
                    go_wp2_with (first | ((with_reducible refine gate_builtin (b := .append) (xs := #[.tmp 43, .tmp 48]) rfl ?_); at_builtin; refine Kd.R_append Kd.string (w0 := w) w.heap.size rfl (.tmp 43) (.tmp 48) 28 9 (.string ⟨#[]⟩) 16 rfl Tryd.underlying28 info9 rfl (by decide) (by omega) v2 x2 (a0.extract (x5 : Int).toNat (x5 + 1 : Int).toNat) [.string (a0.extract (x5 : Int).toNat (x5 + 1 : Int).toNat)] (fun _ => True) (fun _ => False) rfl rfl ?aP (fun _ hk => hk.elim) ?aF ?aO ?aB ?aS ?aL ?_; (case aP => exact rfl); (case aB => exact (by repeat (first | (with_reducible first | exact HB.out | apply below_alloc | apply pw_below_drewN | apply below_drew1) | exact HB.out))); (case aF => exact (fun _ _ => trivial)); (case aO => exact (by (with_reducible repeat (first | apply Kd.R_alloc | apply Kd.R_drewN | apply Kd.R_drew)); exact HO.out)); (case aS => exact (below_size (by repeat (first | (with_reducible first | exact HB.out | apply below_alloc | apply pw_below_drewN | apply below_drew1) | exact HB.out)))); (case aL => have := LMc.out; omega); intro v115 w11 ho hb hg hat; have n0_ := Aside0.mk hb; have n1_ := Aside0.mk ho; clear HB; clear HO; have HB := n0_; have HO := n1_; clear n0_ n1_; clear ho hb hg hat))
                    simp only [ExitJumps_ret]
                    go_ret3
                    exact ⟨_, by rfl, (by (with_reducible repeat (first | apply Kd.R_alloc | apply Kd.R_drewN | apply Kd.R_drew)); exact HO.out), (by repeat (first | (with_reducible first | exact HB.out | apply below_alloc | apply pw_below_drewN | apply below_drew1) | exact HB.out))⟩
                  · rw [if_neg hl] at H
                    exact absurd H (by simp)
      · refine ⟨_, rfl, ?_⟩
        obtain ⟨u7, u8, u9, u10, u11, u12, u13, u14, u15, u16, u17, u18, u19, u20, u21, u22, u23, u24, u25, u26, u27, u28, u29, u30, u31, u32, u33, u34, u35, u36, u37, u38, u39, u40, u41, u42, u43, u44, u45, u46, u47, u48, u49, u50, u51, u52, u53, u54, u55, u56, u57, u58, u59, u60, u61, u62, rfl⟩ := hfr
        cases n with
        | zero => exact absurd HA.out (by simp [scan_Words.l1])
        | succ k1 =>
          have H := HA.out
          clear HA
          simp only [scan_Words.l1] at H
          have hw1 : x5 + 1 < (a0.size : Int) ∨ x5 + 1 = (a0.size : Int) := by omega
          rcases hw1 with hlt | heq
          · rw [if_pos hlt] at H
            replace H := Option.bind_eq_some_iff.mp H
            obtain ⟨t, A40, H⟩ := H
            have A4 := Aside0.mk A40
            clear A40
            have clt : decide (x5 + 1 < (a0.size : Int)) = true := decide_eq_true hlt
            have ceq : ((x5 + 1 : Int) == (a0.size : Int)) = false := beq_eq_false_iff_ne.mpr (by omega)
            have p8 : 0 ≤ (x5 + 1 : Int) := by omega
            have q8 : x5 + 1 < (a0.size : Int) := hlt
            have hx8 := bt_at a0 (x5 + 1)
            have s2 : x6 ≤ x5 + 1 := by omega
            have s3 : x5 + 1 ≤ (a0.size : Int) := by omega
            have s1 := h0
            replace s1 := eq_true s1
            replace s2 := eq_true s2
            replace s3 := eq_true s3
            replace p8 := eq_true p8
            replace q8 := eq_true q8
            cases t with
            | true =>
              have H' := Aside0.mk H
              clear H
              go_wp2_with (first | (go_at_call 18; (with_reducible refine (scan_printed.calls (bt a0 (x5 + 1)) true _ A4.out).mono ?_); rintro e w'' ⟨rfl, ⟨nd, rfl⟩⟩))
              go_step3
              exact ⟨_, by omega, .inr ⟨rfl, x2, v2, x6, x5 + 1, ⟨_, _, _, _, _, _, _, _, _, _, _, _, _, _, _, _, _, _, _, _, _, _, _, _, _, _, _, _, _, _, _, _, _, _, _, _, _, _, _, _, _, _, _, _, _, _, _, _, _, _, _, _, _, _, _, _, rfl⟩, by omega, by omega, by omega, ⟨H'.out⟩, ⟨(by (with_reducible repeat (first | apply Kd.R_alloc | apply Kd.R_drewN | apply Kd.R_drew)); exact HO.out)⟩, ⟨(by repeat (first | (with_reducible first | exact HB.out | apply below_alloc | apply pw_below_drewN | apply below_drew1) | exact HB.out))⟩⟩⟩
            | false =>
              by_cases hl : x2.length < 8796093022208
              · simp only [Bool.false_eq_true, if_false] at H
                rw [if_pos hl] at H
                have LMc := Aside0.mk hl
                clear hl
                by_cases h32 : bt a0 (x5 + 1) = 32
                · rw [if_pos h32] at H
                  have H' := Aside0.mk H
                  clear H
                  have c32 : (bt a0 (x5 + 1) == 32) = true := beq_iff_eq.mpr h32
                  clear h32
                  go_wp2_with (first | (go_at_call 18; (with_reducible refine (scan_printed.calls (bt a0 (x5 + 1)) false _ A4.out).mono ?_); rintro e w'' ⟨rfl, ⟨nd, rfl⟩⟩) | ((with_reducible refine gate_builtin (b := .append) (xs := #[.tmp 43, .tmp 48]) rfl ?_); at_builtin; refine Kd.R_append Kd.string (w0 := w) w.heap.size rfl (.tmp 43) (.tmp 48) 28 9 (.string ⟨#[]⟩) 16 rfl Tryd.underlying28 info9 rfl (by decide) (by omega) v2 x2 (a0.extract (x6 : Int).toNat (x5 + 1 : Int).toNat) [.string (a0.extract (x6 : Int).toNat (x5 + 1 : Int).toNat)] (fun _ => True) (fun _ => False) rfl rfl ?aP (fun _ hk => hk.elim) ?aF ?aO ?aB ?aS ?aL ?_; (case aP => exact rfl); (case aB => exact (by repeat (first | (with_reducible first | exact HB.out | apply below_alloc | apply pw_below_drewN | apply below_drew1) | exact HB.out))); (case aF => exact (fun _ _ => trivial)); (case aO => exact (by (with_reducible repeat (first | apply Kd.R_alloc | apply Kd.R_drewN | apply Kd.R_drew)); exact HO.out)); (case aS => exact (below_size (by repeat (first | (with_reducible first | exact HB.out | apply below_alloc | apply pw_below_drewN | apply below_drew1) | exact HB.out)))); (case aL => have := LMc.out; omega); intro v115 w11 ho hb hg hat; have n0_ := Aside0.mk hb; have n1_ := Aside0.mk ho; clear HB; clear HO; have HB := n0_; have HO := n1_; clear n0_ n1_; clear ho hb hg hat))
                  go_step3
                  exact ⟨_, by omega, .inl ⟨rfl, _, v115, _, x5 + 1 + 1, ⟨_, _, _, _, _, _, _, _, _, _, _, _, _, _, _, _, _, _, _, _, _, _, _, _, _, _, _, _, _, _, _, _, _, _, _, _, _, _, _, _, _, _, _, _, _, _, _, _, _, _, _, _, _, _, _, _, by rfl⟩, by omega, by omega, ⟨H'.out⟩, ⟨(by (with_reducible repeat (first | apply Kd.R_alloc | apply Kd.R_drewN | apply Kd.R_drew)); exact HO.out)⟩, ⟨(by repeat (first | (with_reducible first | exact HB.out | apply below_alloc | apply pw_below_drewN | apply below_drew1) | exact HB.out))⟩⟩⟩
                · rw [if_neg h32] at H
                  simp only [Option.some.injEq, Prod.mk.injEq] at H
                  obtain ⟨rfl, rfl, rfl⟩ := H
                  have c32 : (bt a0 (x5 + 1) == 32) = false := beq_eq_false_iff_ne.mpr h32
                  clear h32
                  go_wp2_with (first | (go_at_call 18; (with_reducible refine (scan_printed.calls (bt a0 (x5 + 1)) false _ A4.out).mono ?_); rintro e w'' ⟨rfl, ⟨nd, rfl⟩⟩) | ((with_reducible refine gate_builtin (b := .append) (xs := #[.tmp 43, .tmp 48]) rfl ?_); at_builtin; refine Kd.R_append Kd.string (w0 := w) w.heap.size rfl (.tmp 43) (.tmp 48) 28 9 (.string ⟨#[]⟩) 16 rfl Tryd.underlying28 info9 rfl (by decide) (by omega) v2 x2 (a0.extract (x6 : Int).toNat (x5 + 1 : Int).toNat) [.string (a0.extract (x6 : Int).toNat (x5 + 1 : Int).toNat)] (fun _ => True) (fun _ => False) rfl rfl ?aP (fun _ hk => hk.elim) ?aF ?aO ?aB ?aS ?aL ?_; (case aP => exact rfl); (case aB => exact (by repeat (first | (with_reducible first | exact HB.out | apply below_alloc | apply pw_below_drewN | apply below_drew1) | exact HB.out))); (case aF => exact (fun _ _ => trivial)); (case aO => exact (by (with_reducible repeat (first | apply Kd.R_alloc | apply Kd.R_drewN | apply Kd.R_drew)); exact HO.out)); (case aS => exact (below_size (by repeat (first | (with_reducible first | exact HB.out | apply below_alloc | apply pw_below_drewN | apply below_drew1) | exact HB.out)))); (case aL => have := LMc.out; omega); intro v115 w11 ho hb hg hat; have n0_ := Aside0.mk hb; have n1_ := Aside0.mk ho; clear HB; clear HO; have HB := n0_; have HO := n1_; clear n0_ n1_; clear ho hb hg hat))
                  simp only [ExitJumps_ret]
                  go_ret3
                  exact ⟨_, by first | rfl | (simp; done) | (simp; omega), Kd.R_nil _ _ _ _ _, (by repeat (first | (with_reducible first | exact HB.out | apply below_alloc | apply pw_below_drewN | apply below_drew1) | exact HB.out))⟩
              · rw [if_neg hl] at H
                exact absurd H (by simp)
          · rw [if_neg (by omega)] at H
            by_cases hl : x2.length < 8796093022208
            · rw [if_pos hl] at H
              have LMc := Aside0.mk hl
              clear hl
              simp only [Option.some.injEq, Prod.mk.injEq] at H
              obtain ⟨rfl, rfl, rfl⟩ := H
              have clt : decide (x5 + 1 < (a0.size : Int)) = false := decide_eq_false (by omega)
              have ceq : ((x5 + 1 : Int) == (a0.size : Int)) = true := beq_iff_eq.mpr heq
              have clt2 := Int.le_of_eq heq.symm
              have s3 := Int.le_of_eq heq
              have s2 : x6 ≤ x5 + 1 := by omega
              have s1 := h0
              replace s1 := eq_true s1
              replace s2 := eq_true s2
              replace s3 := eq_true s3
              clear heq
              go_wp2_with (first | ((with_reducible refine gate_builtin (b := .append) (xs := #[.tmp 43, .tmp 48]) rfl ?_); at_builtin; refine Kd.R_append Kd.string (w0 := w) w.heap.size rfl (.tmp 43) (.tmp 48) 28 9 (.string ⟨#[]⟩) 16 rfl Tryd.underlying28 info9 rfl (by decide) (by omega) v2 x2 (a0.extract (x6 : Int).toNat (x5 + 1 : Int).toNat) [.string (a0.extract (x6 : Int).toNat (x5 + 1 : Int).toNat)] (fun _ => True) (fun _ => False) rfl rfl ?aP (fun _ hk => hk.elim) ?aF ?aO ?aB ?aS ?aL ?_; (case aP => exact rfl); (case aB => exact (by repeat (first | (with_reducible first | exact HB.out | apply below_alloc | apply pw_below_drewN | apply below_drew1) | exact HB.out))); (case aF => exact (fun _ _ => trivial)); (case aO => exact (by (with_reducible repeat (first | apply Kd.R_alloc | apply Kd.R_drewN | apply Kd.R_drew)); exact HO.out)); (case aS => exact (below_size (by repeat (first | (with_reducible first | exact HB.out | apply below_alloc | apply pw_below_drewN | apply below_drew1) | exact HB.out)))); (case aL => have := LMc.out; omega); intro v115 w11 ho hb hg hat; have n0_ := Aside0.mk hb; have n1_ := Aside0.mk ho; clear HB; clear HO; have HB := n0_; have HO := n1_; clear n0_ n1_; clear ho hb hg hat))
              simp only [ExitJumps_ret]
              go_ret3
              exact ⟨_, by rfl, (by (with_reducible repeat (first | apply Kd.R_alloc | apply Kd.R_drewN | apply Kd.R_drew)); exact HO.out), (by repeat (first | (with_reducible first | exact HB.out | apply below_alloc | apply pw_below_drewN | apply below_drew1) | exact HB.out))⟩
            · rw [if_neg hl] at H
              exact absurd H (by simp)
  · rw [if_neg hsz] at h
    cases h


/-! ### pylonlaw06_awake: function 6 -/
def pylonlaw06_awake.f (k : Nat)  : Option (Bool) := (scan_Words.f k (⟨#[114, 101, 97, 100, 32, 48, 32, 53]⟩ : ByteArray)).bind fun bt101 => (if bt101.2.2 = 0 then (if bt101.2.1 = 0 then (if (bt101.1.length : Int) = 3 then (if 2 < (bt101.1.length : Int) then (some ((rdOf ByteArray.empty bt101.1 2).toList == ([53] : List UInt8))) else (none)) else (some false)) else (some false)) else (some false))
theorem pylonlaw06_awake.mono : ∀ k, LeO (pylonlaw06_awake.f k ) (pylonlaw06_awake.f (k + 1) ) := by
  intro  k
  unfold pylonlaw06_awake.f
  repeat' first
      | (with_reducible exact scan_Words.mono _ _)
      | (with_reducible exact LeO.refl _)
      | (with_reducible exact LeO.none _)
      | (with_reducible refine LeO.ite ?_ ?_)
      | (with_reducible refine LeO.bind ?_ (fun _ => ?_))
      | exact scan_Words.mono _ _
      | exact LeO.none _
      | refine LeO.ite ?_ ?_
      | refine LeO.bind ?_ (fun _ => ?_)
set_option maxHeartbeats 8000000 in
set_option maxRecDepth 100000 in
theorem pylonlaw06_awake.calls (k : Nat)  (r : Bool) (w : World) (h : pylonlaw06_awake.f k  = some r) :
    Calls Tryd.prog 6 #[] w fun e w' => e = .returned (.bool r) ∧ Below w.heap.size w w' := by
  have HB := Aside0.mk (Below.refl w.heap.size w)
  have H : ((scan_Words.f k (⟨#[114, 101, 97, 100, 32, 48, 32, 53]⟩ : ByteArray)).bind fun bt101 => (if bt101.2.2 = 0 then (if bt101.2.1 = 0 then (if (bt101.1.length : Int) = 3 then (if 2 < (bt101.1.length : Int) then (some ((rdOf ByteArray.empty bt101.1 2).toList == ([53] : List UInt8))) else (none)) else (some false)) else (some false)) else (some false))) = some r := h
  clear h
  replace H := Option.bind_eq_some_iff.mp H
  obtain ⟨⟨t101, t102, t103⟩, A10, H⟩ := H
  replace H : (if t103 = 0 then (if t102 = 0 then (if (t101.length : Int) = 3 then (if 2 < (t101.length : Int) then (some ((rdOf ByteArray.empty t101 2).toList == ([53] : List UInt8))) else (none)) else (some false)) else (some false)) else (some false)) = some r := H
  have A1 := Aside0.mk A10
  clear A10
  by_cases c2 : t103 = 0
  · rw [if_pos c2] at H
    have c2b0 : (t103 == 0) = true := beq_iff_eq.mpr c2
    have c2b1 : (t103 != 0) = false := bne_eq_false_iff_eq.mpr c2
    clear c2
    by_cases c3 : t102 = 0
    · rw [if_pos c3] at H
      have c3b0 : (t102 == 0) = true := beq_iff_eq.mpr c3
      have c3b1 : (t102 != 0) = false := bne_eq_false_iff_eq.mpr c3
      clear c3
      by_cases c4 : (t101.length : Int) = 3
      · rw [if_pos c4] at H
        have c4b0 : ((t101.length : Int) == 3) = true := beq_iff_eq.mpr c4
        have c4b1 : ((t101.length : Int) != 3) = false := bne_eq_false_iff_eq.mpr c4
        clear c4
        by_cases c5 : 2 < (t101.length : Int)
        · rw [if_pos c5] at H
          have c5b0 : decide (2 < (t101.length : Int)) = true := decide_eq_true c5
          have c5b1 : decide (2 < t101.length) = true := decide_eq_true (by omega)
          clear c5
          obtain rfl := Option.some.inj H
          go_enter Tryd.func6, Tryd.ntmps6
          go_wp2_with (first | ((with_reducible refine gate_callee (f := 10) rfl ?_); refine goesL_ (some 5) rfl rfl Tryd.func10 (by kernel_rfl) rfl #[.string (⟨#[114, 101, 97, 100, 32, 48, 32, 53]⟩ : ByteArray)] rfl (by (try simp only [List.map_toArray, List.map_cons, List.map_nil]); first | done | rfl | (simp only [List.length_drop, List.length_take]; rfl)) ?_; (with_reducible refine (scan_Words.calls k (⟨#[114, 101, 97, 100, 32, 48, 32, 53]⟩ : ByteArray) t101 t102 t103 _ A1.out).mono ?_); rintro e w6 ⟨v104, rfl, ho0, hb⟩; refine ⟨_, rfl, ?_⟩; have n0_ := Aside0.mk (Kd.R_lower ho0 (below_size (by repeat (first | (with_reducible first | exact HB.out | apply below_alloc | apply pw_below_drewN | apply below_drew1) | exact HB.out)))); have n1_ := Aside0.mk (below_step (by repeat (first | (with_reducible first | exact HB.out | apply below_alloc | apply pw_below_drewN | apply below_drew1) | exact HB.out)) hb); clear HB; have HO105 := n0_; have HB := n1_; clear n0_ n1_; (try clear hb); (try clear hb2); (try clear hk); (try clear hi); (try clear ho0); obtain ⟨Ao7, co7, eo7⟩ := Kd.R_slice HO105.out; subst eo7; have p106 : 0 ≤ (2 : Int) := (by omega); have q106 : 2 < (t101.length : Int) := of_decide_eq_true (by first | (with_reducible assumption) | assumption); obtain ⟨ad106, e106, hx106_0⟩ := Kd.at_string (Kd.R_reads' HO105.out).2.2 2 p106 q106; cases e106; (try simp only [show (2 : Int).toNat = 2 from rfl, Nat.reduceMul, Nat.reduceEqDiff, Go.Addr.add, ↓reduceIte] at hx106_0); have qi106 : (2 < t101.length) = True := eq_true (by omega); (try rw [show ((2 : Int)).toNat = 2 from rfl] at hx106_0); replace p106 := eq_true p106; replace q106 := eq_true q106))
          go_ret
          exact ⟨by first | rfl | (simp [errW_none, errW_some] <;> rfl) | (simp [*, errW_none, errW_some] <;> rfl), by repeat (first | (with_reducible first | exact HB.out | apply below_alloc | apply pw_below_drewN | apply below_drew1) | exact HB.out)⟩
        · rw [if_neg c5] at H
          exact absurd H (by simp)
      · rw [if_neg c4] at H
        have c4b0 : ((t101.length : Int) == 3) = false := beq_eq_false_iff_ne.mpr c4
        have c4b1 : ((t101.length : Int) != 3) = true := bne_iff_ne.mpr c4
        obtain rfl := Option.some.inj H
        go_enter Tryd.func6, Tryd.ntmps6
        go_wp2_with (first | ((with_reducible refine gate_callee (f := 10) rfl ?_); refine goesL_ (some 5) rfl rfl Tryd.func10 (by kernel_rfl) rfl #[.string (⟨#[114, 101, 97, 100, 32, 48, 32, 53]⟩ : ByteArray)] rfl (by (try simp only [List.map_toArray, List.map_cons, List.map_nil]); first | done | rfl | (simp only [List.length_drop, List.length_take]; rfl)) ?_; (with_reducible refine (scan_Words.calls k (⟨#[114, 101, 97, 100, 32, 48, 32, 53]⟩ : ByteArray) t101 t102 t103 _ A1.out).mono ?_); rintro e w8 ⟨v104, rfl, ho0, hb⟩; refine ⟨_, rfl, ?_⟩; have n0_ := Aside0.mk (Kd.R_lower ho0 (below_size (by repeat (first | (with_reducible first | exact HB.out | apply below_alloc | apply pw_below_drewN | apply below_drew1) | exact HB.out)))); have n1_ := Aside0.mk (below_step (by repeat (first | (with_reducible first | exact HB.out | apply below_alloc | apply pw_below_drewN | apply below_drew1) | exact HB.out)) hb); clear HB; have HO105 := n0_; have HB := n1_; clear n0_ n1_; (try clear hb); (try clear hb2); (try clear hk); (try clear hi); (try clear ho0); obtain ⟨Ao9, co9, eo9⟩ := Kd.R_slice HO105.out; subst eo9))
        go_ret
        exact ⟨by first | rfl | (simp [errW_none, errW_some] <;> rfl) | (simp [*, errW_none, errW_some] <;> rfl), by repeat (first | (with_reducible first | exact HB.out | apply below_alloc | apply pw_below_drewN | apply below_drew1) | exact HB.out)⟩
    · rw [if_neg c3] at H
      have c3b0 : (t102 == 0) = false := beq_eq_false_iff_ne.mpr c3
      have c3b1 : (t102 != 0) = true := bne_iff_ne.mpr c3
      obtain rfl := Option.some.inj H
      go_enter Tryd.func6, Tryd.ntmps6
      go_wp2_with (first | ((with_reducible refine gate_callee (f := 10) rfl ?_); refine goesL_ (some 5) rfl rfl Tryd.func10 (by kernel_rfl) rfl #[.string (⟨#[114, 101, 97, 100, 32, 48, 32, 53]⟩ : ByteArray)] rfl (by (try simp only [List.map_toArray, List.map_cons, List.map_nil]); first | done | rfl | (simp only [List.length_drop, List.length_take]; rfl)) ?_; (with_reducible refine (scan_Words.calls k (⟨#[114, 101, 97, 100, 32, 48, 32, 53]⟩ : ByteArray) t101 t102 t103 _ A1.out).mono ?_); rintro e w10 ⟨v104, rfl, ho0, hb⟩; refine ⟨_, rfl, ?_⟩; have n0_ := Aside0.mk (Kd.R_lower ho0 (below_size (by repeat (first | (with_reducible first | exact HB.out | apply below_alloc | apply pw_below_drewN | apply below_drew1) | exact HB.out)))); have n1_ := Aside0.mk (below_step (by repeat (first | (with_reducible first | exact HB.out | apply below_alloc | apply pw_below_drewN | apply below_drew1) | exact HB.out)) hb); clear HB; have HO105 := n0_; have HB := n1_; clear n0_ n1_; (try clear hb); (try clear hb2); (try clear hk); (try clear hi); (try clear ho0)))
      go_ret
      exact ⟨by first | rfl | (simp [errW_none, errW_some] <;> rfl) | (simp [*, errW_none, errW_some] <;> rfl), by repeat (first | (with_reducible first | exact HB.out | apply below_alloc | apply pw_below_drewN | apply below_drew1) | exact HB.out)⟩
  · rw [if_neg c2] at H
    have c2b0 : (t103 == 0) = false := beq_eq_false_iff_ne.mpr c2
    have c2b1 : (t103 != 0) = true := bne_iff_ne.mpr c2
    obtain rfl := Option.some.inj H
    go_enter Tryd.func6, Tryd.ntmps6
    go_wp2_with (first | ((with_reducible refine gate_callee (f := 10) rfl ?_); refine goesL_ (some 5) rfl rfl Tryd.func10 (by kernel_rfl) rfl #[.string (⟨#[114, 101, 97, 100, 32, 48, 32, 53]⟩ : ByteArray)] rfl (by (try simp only [List.map_toArray, List.map_cons, List.map_nil]); first | done | rfl | (simp only [List.length_drop, List.length_take]; rfl)) ?_; (with_reducible refine (scan_Words.calls k (⟨#[114, 101, 97, 100, 32, 48, 32, 53]⟩ : ByteArray) t101 t102 t103 _ A1.out).mono ?_); rintro e w11 ⟨v104, rfl, ho0, hb⟩; refine ⟨_, rfl, ?_⟩; have n0_ := Aside0.mk (Kd.R_lower ho0 (below_size (by repeat (first | (with_reducible first | exact HB.out | apply below_alloc | apply pw_below_drewN | apply below_drew1) | exact HB.out)))); have n1_ := Aside0.mk (below_step (by repeat (first | (with_reducible first | exact HB.out | apply below_alloc | apply pw_below_drewN | apply below_drew1) | exact HB.out)) hb); clear HB; have HO105 := n0_; have HB := n1_; clear n0_ n1_; (try clear hb); (try clear hb2); (try clear hk); (try clear hi); (try clear ho0)))
    go_ret
    exact ⟨by first | rfl | (simp [errW_none, errW_some] <;> rfl) | (simp [*, errW_none, errW_some] <;> rfl), by repeat (first | (with_reducible first | exact HB.out | apply below_alloc | apply pw_below_drewN | apply below_drew1) | exact HB.out)⟩

/-! ### fix_Read: function 15 (given) -/
-- 
/-- The digits of a number's text. -/
def fix_Read.tail (a0 : ByteArray) : ByteArray := if 0 < a0.size ∧ bt a0 0 = 45 then a0.extract 1 a0.size else a0
def fix_Read.isNum (a0 : ByteArray) : Bool := decide ((fix_Read.tail a0).size ≠ 0) && !(decide (bt (fix_Read.tail a0) 0 = 48) && decide (a0.toList ≠ [48])) && (fix_Read.tail a0).data.toList.all (fun c => decide (48 ≤ c.toNat) && decide (c.toNat ≤ 57))
def fix_Read.f (a0 : ByteArray) : Option (Int × Int) := if a0.size ≤ 281474976710656 then (if fix_Read.isNum a0 = true then (match Lib.parseIntB 64 a0.data.toList with | .ok v => some (v, 0) | .range => some (0, 5) | _ => none) else some (0, 1)) else none
theorem fix_Read.bad (a0 : ByteArray) (hsz : a0.size ≤ 281474976710656) (h : fix_Read.isNum a0 = false) : fix_Read.f a0 = some (0, 1) := by
  unfold fix_Read.f
  rw [if_pos hsz, h]
  rfl
theorem fix_Read.is_ok (a0 : ByteArray) (hsz : a0.size ≤ 281474976710656) (h : fix_Read.isNum a0 = true) {v : Int} (hp : Lib.parseIntB 64 a0.data.toList = .ok v) : fix_Read.f a0 = some (v, 0) := by
  unfold fix_Read.f
  rw [if_pos hsz, if_pos h, hp]
theorem fix_Read.is_range (a0 : ByteArray) (hsz : a0.size ≤ 281474976710656) (h : fix_Read.isNum a0 = true) (hp : Lib.parseIntB 64 a0.data.toList = .range) : fix_Read.f a0 = some (0, 5) := by
  unfold fix_Read.f
  rw [if_pos hsz, if_pos h, hp]
theorem fix_Read.is_syntax (a0 : ByteArray) (hsz : a0.size ≤ 281474976710656) (h : fix_Read.isNum a0 = true) (hp : Lib.parseIntB 64 a0.data.toList = Lib.NumEnd.syntax) : fix_Read.f a0 = none := by
  unfold fix_Read.f
  rw [if_pos hsz, if_pos h, hp]
theorem fix_Read.bad_digit (a0 d : ByteArray) (hd : fix_Read.tail a0 = d) {i : Nat} {c : UInt8} (hc : d.data.toList[i]? = some c) (h : (c.toNat : Int) < 48 ∨ (57 : Int) < c.toNat) : fix_Read.isNum a0 = false := by
  unfold fix_Read.isNum
  rw [hd]
  have : d.data.toList.all (fun c => decide (48 ≤ c.toNat) && decide (c.toNat ≤ 57)) = false := by
    rw [List.all_eq_false]
    refine ⟨c, List.mem_of_getElem? hc, ?_⟩
    simp only [Bool.and_eq_true, decide_eq_true_eq]
    omega
  rw [this, Bool.and_false]
theorem fix_Read.at_ (d : ByteArray) (i : Nat) (h : i < d.size) : ∃ c, d.data.toList[i]? = some c ∧ bt d (i : Int) = (c.toNat : Int) := by
  have hl : i < d.data.toList.length := by rw [Array.length_toList]; exact h
  refine ⟨d.data.toList[i], List.getElem?_eq_getElem hl, ?_⟩
  have := bt_at d (i : Int) (by omega)
  rw [← this]
  rfl
theorem fix_Read.more (d : ByteArray) (i : Nat) (c : UInt8) (h : ∀ c ∈ d.data.toList.take i, 48 ≤ c.toNat ∧ c.toNat ≤ 57) (hc : d.data.toList[i]? = some c) (hr : 48 ≤ c.toNat ∧ c.toNat ≤ 57) : ∀ c ∈ d.data.toList.take (i + 1), 48 ≤ c.toNat ∧ c.toNat ≤ 57 := by
  intro x hx
  rw [List.take_add_one, hc] at hx
  rcases List.mem_append.1 hx with hx | hx
  · exact h x hx
  · simp at hx
    rw [hx]
    exact hr
theorem fix_Read.good (a0 d : ByteArray) (hd : fix_Read.tail a0 = d) (hz : d.size ≠ 0) (h0 : bt d 0 = 48 → a0.toList = [48]) (h : ∀ c ∈ d.data.toList, 48 ≤ c.toNat ∧ c.toNat ≤ 57) : fix_Read.isNum a0 = true := by
  unfold fix_Read.isNum
  rw [hd]
  simp only [Bool.and_eq_true, decide_eq_true_eq, Bool.not_eq_true', Bool.and_eq_false_iff, decide_eq_false_iff_not, List.all_eq_true]
  refine ⟨⟨hz, ?_⟩, fun c hc => h c hc⟩
  by_cases e : bt d 0 = 48
  · exact .inr (fun hn => hn (h0 e))
  · exact .inl e
theorem fix_Read.ok_world {w w' : World} {t0 : TypeId} (h : w' = w ∨ ∃ t, w' = Lib.bytesWorld w t0 t) : Below w.heap.size w w' := by
  rcases h with rfl | ⟨t, rfl⟩
  · exact Below.refl _ _
  · exact Lib.bytesWorld_below _ _ _
theorem fix_Read.bad_empty (a0 : ByteArray) (hd : (fix_Read.tail a0).size = 0) : fix_Read.isNum a0 = false := by
  unfold fix_Read.isNum
  simp [hd]
theorem fix_Read.bad_zero (a0 : ByteArray) (hd : bt (fix_Read.tail a0) 0 = 48) (h : a0.toList ≠ [48]) : fix_Read.isNum a0 = false := by
  unfold fix_Read.isNum
  simp [hd, h]
set_option maxHeartbeats 4000000 in
set_option maxRecDepth 100000 in
theorem fix_Read.calls (a0 : ByteArray) (r1 : Int) (r2 : Int) (w : World) (hV : GInv w) (h : fix_Read.f a0 = some (r1, r2)) :
    Calls Tryd.prog 15 #[.string a0] w fun e w' => e = .returned (.tuple #[.int .i64 r1, .int .i64 r2]) ∧ Below w.heap.size w w' := by
  by_cases hsz0 : ¬ a0.size ≤ 281474976710656
  · unfold fix_Read.f at h
    rw [if_neg hsz0] at h
    cases h
  have hsz := Decidable.not_not.1 hsz0
  clear hsz0
  have H := Aside0.mk h
  clear h
  by_cases he : a0.size = 0
  · have H2 : (r1, r2) = (0, 1) := by
      refine (Option.some.inj (H.out.symm.trans ?_))
      exact fix_Read.bad a0 hsz (fix_Read.bad_empty a0 (by unfold fix_Read.tail; rw [if_neg (by omega)]; exact he))
    obtain ⟨rfl, rfl⟩ := Prod.mk.inj H2
    clear H2
    obtain rfl : a0 = ⟨#[]⟩ := by
      obtain ⟨⟨l⟩⟩ := a0
      cases l with
      | nil => rfl
      | cons c l => simp [ByteArray.size] at he
    clear he
    go_enter Tryd.func15, Tryd.ntmps15
    go_wp2
    go_ret2
    exact ⟨rfl, Below.refl _ _⟩
  have hx0 : ∀ h : 0 < a0.size, ((a0[0]'h).toNat : Int) = bt a0 0 := fun h => bt_at a0 0 h
  have g0 : decide (0 < (a0.size : Int)) = true := decide_eq_true (by omega)
  have p00 : (0 : Int) < (a0.size : Int) := by omega
  have n00 : (0 : Nat) < a0.size := by omega
  have hne : a0.toList ≠ [] := by
    rw [ByteArray.toList_eq]
    intro e
    have : a0.data.toList.length = 0 := by rw [e]; rfl
    rw [Array.length_toList] at this
    exact he this
  by_cases h45 : bt a0 0 = 45
  · have c45 : (bt a0 0 == 45) = true := beq_iff_eq.mpr h45
    have ht : fix_Read.tail a0 = a0.extract 1 a0.size := by unfold fix_Read.tail; rw [if_pos ⟨n00, h45⟩]
    have hts : (a0.extract 1 a0.size).size = a0.size - 1 := by rw [ByteArray.size_extract]; omega
    have h48 : a0.toList ≠ [48] := by
      intro e
      rw [ByteArray.toList_eq] at e
      have : a0 = ⟨#[48]⟩ := ByteArray.ext (Array.toList_inj.1 e)
      rw [this] at h45
      exact absurd h45 (by decide)
    obtain ⟨d, hd⟩ : ∃ d, d = a0.extract 1 a0.size := ⟨_, rfl⟩
    have cz : (a0.toList != [48]) = true := by simpa using h48
    have cz2 : (a0.toList == [48]) = false := by simpa using h48
    by_cases h1 : a0.size = 1
    · have H2 : (r1, r2) = (0, 1) := by
        refine (Option.some.inj (H.out.symm.trans ?_))
        exact fix_Read.bad a0 hsz (fix_Read.bad_empty a0 (by rw [ht]; omega))
      obtain ⟨rfl, rfl⟩ := Prod.mk.inj H2
      have e0 : (a0.extract 1 a0.size).toList = [] := by
        rw [ByteArray.toList_eq]
        exact List.eq_nil_of_length_eq_zero (by rw [Array.length_toList]; show (a0.extract 1 a0.size).size = 0; omega)
      have ce : ((a0.extract 1 a0.size).toList == ([] : List UInt8)) = true := by rw [e0]; rfl
      have ce2 : (a0.extract 1 a0.size).toList.isEmpty = true := by rw [e0]; rfl
      have p1 : (1 : Int) ≤ (a0.size : Int) := by omega
      replace p1 := eq_true p1
      clear H2 ht hts he hne h45 h48 hd h1 e0
      go_enter Tryd.func15, Tryd.ntmps15
      go_wp2
      go_ret2
      exact ⟨rfl, Below.refl _ _⟩
    · have hn0 : (a0.extract 1 a0.size).toList ≠ [] := by
        rw [ByteArray.toList_eq]
        intro e
        have : (a0.extract 1 a0.size).data.toList.length = 0 := by rw [e]; rfl
        rw [Array.length_toList] at this
        have : (a0.extract 1 a0.size).size = 0 := this
        omega
      have ce : ((a0.extract 1 a0.size).toList == ([] : List UInt8)) = false := beq_eq_false_iff_ne.mpr hn0
      have ce2 : (a0.extract 1 a0.size).toList.isEmpty = false := by rw [isEmpty_beq]; exact ce
      have hx1 : ∀ h : 0 < (a0.extract 1 a0.size).size, (((a0.extract 1 a0.size)[0]'h).toNat : Int) = bt (a0.extract 1 a0.size) 0 := fun h => bt_at (a0.extract 1 a0.size) 0 h
      have p1 : (1 : Int) ≤ (a0.size : Int) := by omega
      have n1 : 0 < (a0.extract 1 a0.size).size := by omega
      have n2 : (0 : Int) < ((a0.size - 1 : Nat) : Int) := by omega
      have n3 : 0 < a0.size - 1 := by omega
      have n4 : 1 < a0.size := by omega
      replace p1 := eq_true p1
      by_cases hz : bt (a0.extract 1 a0.size) 0 = 48
      · have H2 : (r1, r2) = (0, 1) := by
          refine (Option.some.inj (H.out.symm.trans ?_))
          exact fix_Read.bad a0 hsz (fix_Read.bad_zero a0 (by rw [ht]; exact hz) h48)
        obtain ⟨rfl, rfl⟩ := Prod.mk.inj H2
        have cb : (bt (a0.extract 1 a0.size) 0 == 48) = true := beq_iff_eq.mpr hz
        clear H2 ht hts he hne h45 h48 hd h1 hn0 hz
        go_enter Tryd.func15, Tryd.ntmps15
        go_wp2
        go_ret2
        exact ⟨rfl, Below.refl _ _⟩
      · have cb : (bt (a0.extract 1 a0.size) 0 == 48) = false := beq_eq_false_iff_ne.mpr hz
        have DT := Aside0.mk ht
        have HZ := Aside0.mk hts
        have NZ : Aside0 ((a0.extract 1 a0.size).size ≠ 0) := ⟨by omega⟩
        have N0 : Aside0 (bt (a0.extract 1 a0.size) 0 = 48 → a0.toList = [48]) := ⟨fun e => absurd e hz⟩
        clear ht hts he hne h45 h48 hd h1 hn0 hz
        go_enter Tryd.func15, Tryd.ntmps15
        go_wp2
        go_loopg [32] (a0.size - 1) (fun kq v32 w' => ∃ i : Nat, v32 = .int .i64 i ∧ i ≤ (a0.size - 1) ∧ Aside0 (kq = (a0.size - 1) - i) ∧ Aside0 (∀ c ∈ (a0.extract 1 a0.size).data.toList.take i, 48 ≤ c.toNat ∧ c.toNat ≤ 57) ∧ w' = w)
        case atStart => exact ⟨0, (by first | rfl | (simp; done)), Nat.zero_le _, ⟨rfl⟩, ⟨fun c hc => by simp at hc⟩, rfl⟩
        case round =>
          obtain ⟨i, rfl, hi, HK, HD, rfl⟩ := hrel
          by_cases hlt : i < (a0.size - 1)
          · have hx : ∀ h : i < (a0.extract 1 a0.size).size, ((((a0.extract 1 a0.size))[i]'h).toNat : Int) = bt (a0.extract 1 a0.size) (i : Int) := fun h => bt_at (a0.extract 1 a0.size) (i : Int) h
            have c0 : decide ((i : Int) < (((a0.size - 1) : Nat) : Int)) = true := decide_eq_true (by omega)
            have p0 : 0 ≤ (i : Int) := by omega
            have q0 : (i : Int) < (((a0.size - 1) : Nat) : Int) := by omega
            have q1 : i < (a0.extract 1 a0.size).size := by have := HZ.out; omega
            replace p0 := eq_true p0
            replace q0 := eq_true q0
            obtain ⟨c, hc, hb⟩ : ∃ c, (a0.extract 1 a0.size).data.toList[i]? = some c ∧ bt (a0.extract 1 a0.size) (i : Int) = (c.toNat : Int) := fix_Read.at_ (a0.extract 1 a0.size) i (by have := HZ.out; omega)
            have Hc := Aside0.mk hc
            clear hc
            have Hb := Aside0.mk hb
            clear hb
            by_cases h1 : bt (a0.extract 1 a0.size) (i : Int) < 48
            · have c1 : decide (bt (a0.extract 1 a0.size) (i : Int) < 48) = true := decide_eq_true h1
              have H2 : (r1, r2) = (0, 1) := by
                refine (Option.some.inj (H.out.symm.trans ?_))
                refine fix_Read.bad a0 hsz ?_
                refine fix_Read.bad_digit a0 (a0.extract 1 a0.size) DT.out Hc.out ?_
                have := Hb.out
                omega
              obtain ⟨rfl, rfl⟩ := Prod.mk.inj H2
              clear H2 h1
              go_wp2
              go_ret2
              exact ⟨rfl, Below.refl _ _⟩
            · have c1 : decide (bt (a0.extract 1 a0.size) (i : Int) < 48) = false := decide_eq_false h1
              by_cases h2 : 57 < bt (a0.extract 1 a0.size) (i : Int)
              · have c2 : decide (57 < bt (a0.extract 1 a0.size) (i : Int)) = true := decide_eq_true h2
                have H2 : (r1, r2) = (0, 1) := by
                  refine (Option.some.inj (H.out.symm.trans ?_))
                  refine fix_Read.bad a0 hsz ?_
                  refine fix_Read.bad_digit a0 (a0.extract 1 a0.size) DT.out Hc.out ?_
                  have := Hb.out
                  omega
                obtain ⟨rfl, rfl⟩ := Prod.mk.inj H2
                clear H2 h1 h2
                go_wp2
                go_ret2
                exact ⟨rfl, Below.refl _ _⟩
              · have c2 : decide (57 < bt (a0.extract 1 a0.size) (i : Int)) = false := decide_eq_false h2
                have HD2 := Aside0.mk (fix_Read.more (a0.extract 1 a0.size) i c HD.out Hc.out (by have := Hb.out; omega))
                clear h1 h2
                go_wp2
                go_roundg ((a0.size - 1) - (i + 1))
                case measure => have := HK.out; omega
                case rel => exact ⟨i + 1, (by first | rfl | go_num), hlt, ⟨rfl⟩, HD2, rfl⟩
          · have c0 : decide ((i : Int) < (((a0.size - 1) : Nat) : Int)) = false := decide_eq_false (by omega)
            have hnum : fix_Read.isNum a0 = true := fix_Read.good a0 (a0.extract 1 a0.size) DT.out NZ.out N0.out (by
              have := HD.out
              rwa [List.take_of_length_le (by rw [Array.length_toList]; show (a0.extract 1 a0.size).size ≤ i; have := HZ.out; omega)] at this)
            have HN := Aside0.mk hnum
            clear hnum
            cases hp : Lib.parseIntB 64 a0.data.toList with
            | ok v =>
              have HP := Aside0.mk hp
              clear hp
              have H2 : (r1, r2) = (v, 0) := Option.some.inj (H.out.symm.trans (fix_Read.is_ok a0 hsz HN.out HP.out))
              obtain ⟨rfl, rfl⟩ := Prod.mk.inj H2
              clear H2
              have HC := fun (W : World) => Any.strconv_ParseInt_10_at64_ok Tryd.laysC174 a0 (by omega) _ HP.out W
              go_wp2_with (go_at_call 25; refine (HC _).mono ?_; rintro e w1 ⟨rfl, hw1⟩; replace hw1 := Aside0.mk (fix_Read.ok_world hw1))
              go_ret2
              exact ⟨rfl, hw1.out⟩
            | range =>
              have HP := Aside0.mk hp
              clear hp
              have H2 : (r1, r2) = (0, 5) := Option.some.inj (H.out.symm.trans (fix_Read.is_range a0 hsz HN.out HP.out))
              obtain ⟨rfl, rfl⟩ := Prod.mk.inj H2
              clear H2
              obtain ⟨tp, pv, hv⟩ := hV.rng
              have HV := Aside0.mk hv
              clear hv
              have HC := Any.strconv_ParseInt_10_at64_range_var Tryd.laysC174 a0 hsz HP.out tp pv _ HV.out
              go_wp2_with (go_at_call 25; refine HC.mono ?_; rintro e w1 ⟨N, rfl, _, _, hb1⟩; replace hb1 := Aside0.mk hb1)
              go_ret2
              exact ⟨rfl, hb1.out⟩
            | _ =>
              rw [fix_Read.is_syntax a0 hsz HN.out hp] at H
              exact absurd H.out (by simp)
  · have c45 : (bt a0 0 == 45) = false := beq_eq_false_iff_ne.mpr h45
    have ht : fix_Read.tail a0 = a0 := by unfold fix_Read.tail; rw [if_neg (fun e => h45 e.2)]
    have cne : (a0.toList == ([] : List UInt8)) = false := beq_eq_false_iff_ne.mpr hne
    have cne2 : a0.toList.isEmpty = false := by rw [isEmpty_beq]; exact cne
    by_cases h48 : bt a0 0 = 48
    · have c48 : (bt a0 0 == 48) = true := beq_iff_eq.mpr h48
      by_cases hz : a0.toList = [48]
      · have cz : (a0.toList != [48]) = false := by simp [hz]
        have cz2 : (a0.toList == [48]) = true := by simp [hz]
        have DT := Aside0.mk ht
        have HZ : Aside0 (a0.size = a0.size) := ⟨rfl⟩
        have NZ := Aside0.mk he
        have N0 : Aside0 (bt a0 0 = 48 → a0.toList = [48]) := ⟨fun _ => hz⟩
        clear ht he hne h45 h48 hz
        go_enter Tryd.func15, Tryd.ntmps15
        go_wp2
        go_loopg [32] a0.size (fun kq v32 w' => ∃ i : Nat, v32 = .int .i64 i ∧ i ≤ a0.size ∧ Aside0 (kq = a0.size - i) ∧ Aside0 (∀ c ∈ a0.data.toList.take i, 48 ≤ c.toNat ∧ c.toNat ≤ 57) ∧ w' = w)
        case atStart => exact ⟨0, (by first | rfl | (simp; done)), Nat.zero_le _, ⟨rfl⟩, ⟨fun c hc => by simp at hc⟩, rfl⟩
        case round =>
          obtain ⟨i, rfl, hi, HK, HD, rfl⟩ := hrel
          by_cases hlt : i < a0.size
          · have hx : ∀ h : i < a0.size, (((a0)[i]'h).toNat : Int) = bt a0 (i : Int) := fun h => bt_at a0 (i : Int) h
            have c0 : decide ((i : Int) < ((a0.size : Nat) : Int)) = true := decide_eq_true (by omega)
            have p0 : 0 ≤ (i : Int) := by omega
            have q0 : (i : Int) < ((a0.size : Nat) : Int) := by omega
            have q1 : i < a0.size := by have := HZ.out; omega
            replace p0 := eq_true p0
            replace q0 := eq_true q0
            obtain ⟨c, hc, hb⟩ : ∃ c, a0.data.toList[i]? = some c ∧ bt a0 (i : Int) = (c.toNat : Int) := fix_Read.at_ a0 i (by have := HZ.out; omega)
            have Hc := Aside0.mk hc
            clear hc
            have Hb := Aside0.mk hb
            clear hb
            by_cases h1 : bt a0 (i : Int) < 48
            · have c1 : decide (bt a0 (i : Int) < 48) = true := decide_eq_true h1
              have H2 : (r1, r2) = (0, 1) := by
                refine (Option.some.inj (H.out.symm.trans ?_))
                refine fix_Read.bad a0 hsz ?_
                refine fix_Read.bad_digit a0 a0 DT.out Hc.out ?_
                have := Hb.out
                omega
              obtain ⟨rfl, rfl⟩ := Prod.mk.inj H2
              clear H2 h1
              go_wp2
              go_ret2
              exact ⟨rfl, Below.refl _ _⟩
            · have c1 : decide (bt a0 (i : Int) < 48) = false := decide_eq_false h1
              by_cases h2 : 57 < bt a0 (i : Int)
              · have c2 : decide (57 < bt a0 (i : Int)) = true := decide_eq_true h2
                have H2 : (r1, r2) = (0, 1) := by
                  refine (Option.some.inj (H.out.symm.trans ?_))
                  refine fix_Read.bad a0 hsz ?_
                  refine fix_Read.bad_digit a0 a0 DT.out Hc.out ?_
                  have := Hb.out
                  omega
                obtain ⟨rfl, rfl⟩ := Prod.mk.inj H2
                clear H2 h1 h2
                go_wp2
                go_ret2
                exact ⟨rfl, Below.refl _ _⟩
              · have c2 : decide (57 < bt a0 (i : Int)) = false := decide_eq_false h2
                have HD2 := Aside0.mk (fix_Read.more a0 i c HD.out Hc.out (by have := Hb.out; omega))
                clear h1 h2
                go_wp2
                go_roundg (a0.size - (i + 1))
                case measure => have := HK.out; omega
                case rel => exact ⟨i + 1, (by first | rfl | go_num), hlt, ⟨rfl⟩, HD2, rfl⟩
          · have c0 : decide ((i : Int) < ((a0.size : Nat) : Int)) = false := decide_eq_false (by omega)
            have hnum : fix_Read.isNum a0 = true := fix_Read.good a0 a0 DT.out NZ.out N0.out (by
              have := HD.out
              rwa [List.take_of_length_le (by rw [Array.length_toList]; show a0.size ≤ i; have := HZ.out; omega)] at this)
            have HN := Aside0.mk hnum
            clear hnum
            cases hp : Lib.parseIntB 64 a0.data.toList with
            | ok v =>
              have HP := Aside0.mk hp
              clear hp
              have H2 : (r1, r2) = (v, 0) := Option.some.inj (H.out.symm.trans (fix_Read.is_ok a0 hsz HN.out HP.out))
              obtain ⟨rfl, rfl⟩ := Prod.mk.inj H2
              clear H2
              have HC := fun (W : World) => Any.strconv_ParseInt_10_at64_ok Tryd.laysC174 a0 (by omega) _ HP.out W
              go_wp2_with (go_at_call 25; refine (HC _).mono ?_; rintro e w1 ⟨rfl, hw1⟩; replace hw1 := Aside0.mk (fix_Read.ok_world hw1))
              go_ret2
              exact ⟨rfl, hw1.out⟩
            | range =>
              have HP := Aside0.mk hp
              clear hp
              have H2 : (r1, r2) = (0, 5) := Option.some.inj (H.out.symm.trans (fix_Read.is_range a0 hsz HN.out HP.out))
              obtain ⟨rfl, rfl⟩ := Prod.mk.inj H2
              clear H2
              obtain ⟨tp, pv, hv⟩ := hV.rng
              have HV := Aside0.mk hv
              clear hv
              have HC := Any.strconv_ParseInt_10_at64_range_var Tryd.laysC174 a0 hsz HP.out tp pv _ HV.out
              go_wp2_with (go_at_call 25; refine HC.mono ?_; rintro e w1 ⟨N, rfl, _, _, hb1⟩; replace hb1 := Aside0.mk hb1)
              go_ret2
              exact ⟨rfl, hb1.out⟩
            | _ =>
              rw [fix_Read.is_syntax a0 hsz HN.out hp] at H
              exact absurd H.out (by simp)
      · have cz : (a0.toList != [48]) = true := by simpa using hz
        have cz2 : (a0.toList == [48]) = false := by simpa using hz
        have H2 : (r1, r2) = (0, 1) := by
          refine (Option.some.inj (H.out.symm.trans ?_))
          exact fix_Read.bad a0 hsz (fix_Read.bad_zero a0 (by rw [ht]; exact h48) hz)
        obtain ⟨rfl, rfl⟩ := Prod.mk.inj H2
        clear H2 ht he hne h45 h48 hz
        go_enter Tryd.func15, Tryd.ntmps15
        go_wp2
        go_ret2
        exact ⟨rfl, Below.refl _ _⟩
    · have c48 : (bt a0 0 == 48) = false := beq_eq_false_iff_ne.mpr h48
      have DT := Aside0.mk ht
      have HZ : Aside0 (a0.size = a0.size) := ⟨rfl⟩
      have NZ := Aside0.mk he
      have N0 : Aside0 (bt a0 0 = 48 → a0.toList = [48]) := ⟨fun e => absurd e h48⟩
      clear ht he hne h45 h48
      go_enter Tryd.func15, Tryd.ntmps15
      go_wp2
      go_loopg [32] a0.size (fun kq v32 w' => ∃ i : Nat, v32 = .int .i64 i ∧ i ≤ a0.size ∧ Aside0 (kq = a0.size - i) ∧ Aside0 (∀ c ∈ a0.data.toList.take i, 48 ≤ c.toNat ∧ c.toNat ≤ 57) ∧ w' = w)
      case atStart => exact ⟨0, (by first | rfl | (simp; done)), Nat.zero_le _, ⟨rfl⟩, ⟨fun c hc => by simp at hc⟩, rfl⟩
      case round =>
        obtain ⟨i, rfl, hi, HK, HD, rfl⟩ := hrel
        by_cases hlt : i < a0.size
        · have hx : ∀ h : i < a0.size, (((a0)[i]'h).toNat : Int) = bt a0 (i : Int) := fun h => bt_at a0 (i : Int) h
          have c0 : decide ((i : Int) < ((a0.size : Nat) : Int)) = true := decide_eq_true (by omega)
          have p0 : 0 ≤ (i : Int) := by omega
          have q0 : (i : Int) < ((a0.size : Nat) : Int) := by omega
          have q1 : i < a0.size := by have := HZ.out; omega
          replace p0 := eq_true p0
          replace q0 := eq_true q0
          obtain ⟨c, hc, hb⟩ : ∃ c, a0.data.toList[i]? = some c ∧ bt a0 (i : Int) = (c.toNat : Int) := fix_Read.at_ a0 i (by have := HZ.out; omega)
          have Hc := Aside0.mk hc
          clear hc
          have Hb := Aside0.mk hb
          clear hb
          by_cases h1 : bt a0 (i : Int) < 48
          · have c1 : decide (bt a0 (i : Int) < 48) = true := decide_eq_true h1
            have H2 : (r1, r2) = (0, 1) := by
              refine (Option.some.inj (H.out.symm.trans ?_))
              refine fix_Read.bad a0 hsz ?_
              refine fix_Read.bad_digit a0 a0 DT.out Hc.out ?_
              have := Hb.out
              omega
            obtain ⟨rfl, rfl⟩ := Prod.mk.inj H2
            clear H2 h1
            go_wp2
            go_ret2
            exact ⟨rfl, Below.refl _ _⟩
          · have c1 : decide (bt a0 (i : Int) < 48) = false := decide_eq_false h1
            by_cases h2 : 57 < bt a0 (i : Int)
            · have c2 : decide (57 < bt a0 (i : Int)) = true := decide_eq_true h2
              have H2 : (r1, r2) = (0, 1) := by
                refine (Option.some.inj (H.out.symm.trans ?_))
                refine fix_Read.bad a0 hsz ?_
                refine fix_Read.bad_digit a0 a0 DT.out Hc.out ?_
                have := Hb.out
                omega
              obtain ⟨rfl, rfl⟩ := Prod.mk.inj H2
              clear H2 h1 h2
              go_wp2
              go_ret2
              exact ⟨rfl, Below.refl _ _⟩
            · have c2 : decide (57 < bt a0 (i : Int)) = false := decide_eq_false h2
              have HD2 := Aside0.mk (fix_Read.more a0 i c HD.out Hc.out (by have := Hb.out; omega))
              clear h1 h2
              go_wp2
              go_roundg (a0.size - (i + 1))
              case measure => have := HK.out; omega
              case rel => exact ⟨i + 1, (by first | rfl | go_num), hlt, ⟨rfl⟩, HD2, rfl⟩
        · have c0 : decide ((i : Int) < ((a0.size : Nat) : Int)) = false := decide_eq_false (by omega)
          have hnum : fix_Read.isNum a0 = true := fix_Read.good a0 a0 DT.out NZ.out N0.out (by
            have := HD.out
            rwa [List.take_of_length_le (by rw [Array.length_toList]; show a0.size ≤ i; have := HZ.out; omega)] at this)
          have HN := Aside0.mk hnum
          clear hnum
          cases hp : Lib.parseIntB 64 a0.data.toList with
          | ok v =>
            have HP := Aside0.mk hp
            clear hp
            have H2 : (r1, r2) = (v, 0) := Option.some.inj (H.out.symm.trans (fix_Read.is_ok a0 hsz HN.out HP.out))
            obtain ⟨rfl, rfl⟩ := Prod.mk.inj H2
            clear H2
            have HC := fun (W : World) => Any.strconv_ParseInt_10_at64_ok Tryd.laysC174 a0 (by omega) _ HP.out W
            go_wp2_with (go_at_call 25; refine (HC _).mono ?_; rintro e w1 ⟨rfl, hw1⟩; replace hw1 := Aside0.mk (fix_Read.ok_world hw1))
            go_ret2
            exact ⟨rfl, hw1.out⟩
          | range =>
            have HP := Aside0.mk hp
            clear hp
            have H2 : (r1, r2) = (0, 5) := Option.some.inj (H.out.symm.trans (fix_Read.is_range a0 hsz HN.out HP.out))
            obtain ⟨rfl, rfl⟩ := Prod.mk.inj H2
            clear H2
            obtain ⟨tp, pv, hv⟩ := hV.rng
            have HV := Aside0.mk hv
            clear hv
            have HC := Any.strconv_ParseInt_10_at64_range_var Tryd.laysC174 a0 hsz HP.out tp pv _ HV.out
            go_wp2_with (go_at_call 25; refine HC.mono ?_; rintro e w1 ⟨N, rfl, _, _, hb1⟩; replace hb1 := Aside0.mk hb1)
            go_ret2
            exact ⟨rfl, hb1.out⟩
          | _ =>
            rw [fix_Read.is_syntax a0 hsz HN.out hp] at H
            exact absurd H.out (by simp)


end Go.Proofs.YtopgcofloldedaaDoor.Pa
