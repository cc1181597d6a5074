-- Written by mk.py (this repo's program), over the kit's printer: function by function, its Lean function and its contract.
import Derived.Test.YtopgcofloldedaaPa0
namespace Go.Proofs.Ytopgcofloldedaa.Pa
open Go.RowKit Go.Proofs.YtopgcofloldedaaW.PrintWords Go.Proofs.YtopgcofloldedaaW.PrintLast Go.Proofs.YtopgcofloldedaaW.PrintMore
attribute [local go_sem] max2_int min2_int max_two min_two max_three min_three max_four min_four   -- for this text's walks alone
set_option linter.unusedVariables false
set_option linter.unusedSimpArgs false

/-! ### scan_printed: function 17 -/
def scan_printed.f (a0 : Int) : Option (Bool) := if a0 > 32 then (some (decide (a0 < 127))) else (some false)
set_option maxHeartbeats 8000000 in
set_option maxRecDepth 100000 in
theorem scan_printed.calls (a0 : Int) (r : Bool) (w : World) (h : scan_printed.f a0 = some r) :
    Calls Try.prog 17 #[.int .u8 a0] w fun e w' => e = .returned (.bool r) ∧ Drawn0 w w' := by
  have H : (if a0 > 32 then (some (decide (a0 < 127))) else (some false)) = some r := h
  clear h
  by_cases c2 : a0 > 32
  · rw [if_pos c2] at H
    have c2b0 : decide (32 < a0) = true := decide_eq_true c2
    clear c2
    obtain rfl := Option.some.inj H
    go_enter Try.func17, Try.ntmps17
    go_wp2
    go_ret
    exact ⟨by first | rfl | (simp; done) | (simp [*]; done), by repeat (first | exact Drawn0.refl _ | apply Drawn0.step)⟩
  · rw [if_neg c2] at H
    have c2b0 : decide (32 < a0) = false := decide_eq_false c2
    clear c2
    obtain rfl := Option.some.inj H
    go_enter Try.func17, Try.ntmps17
    go_wp2
    go_ret
    exact ⟨by first | rfl | (simp; done) | (simp [*]; done), by repeat (first | exact Drawn0.refl _ | apply Drawn0.step)⟩

/-! ### scan_Words: function 8 (given) -/
-- 
mutual
/-- at a word's first byte: the words ahead, the place -/
def scan_Words.l0 : Nat → ByteArray → List ByteArray → Int → Option (List ByteArray × Int × Int)
  | 0, _, _, _ => none
  | k + 1, x0, x2, x5 => if x5 = (x0.size : Int) then (if x5 > 0 then some ([], x5, 1) else some ([], x5 + 1, 1)) else if 0 ≤ x5 ∧ x5 < (x0.size : Int) then (scan_printed.f (bt x0 x5)).bind fun t => if t = true then scan_Words.l1 k x0 x2 x5 x5 else some ([], x5 + 1, 1) else none
/-- behind a byte of a word: the words ahead, the word's first place, the byte's place -/
def scan_Words.l1 : Nat → ByteArray → List ByteArray → Int → Int → Option (List ByteArray × Int × Int)
  | 0, _, _, _, _ => none
  | k + 1, x0, x2, x6, x5 => if x5 + 1 < (x0.size : Int) then (scan_printed.f (bt x0 (x5 + 1))).bind fun t => if t = true then scan_Words.l1 k x0 x2 x6 (x5 + 1) else if x2.length < 8796093022208 then (if (bt x0 (x5 + 1)) = 32 then scan_Words.l0 k x0 (x2 ++ [x0.extract x6.toNat (x5 + 1).toNat]) (x5 + 1 + 1) else some ([], x5 + 1 + 1, 1)) else none
      else if x2.length < 8796093022208 then some (x2 ++ [x0.extract x6.toNat (x5 + 1).toNat], 0, 0) else none
end
def scan_Words.f (k : Nat) (a0 : ByteArray) : Option (List ByteArray × Int × Int) := if a0.size ≤ 140737488355328 then scan_Words.l0 k a0 [] 0 else none
theorem scan_Words.mono_l : ∀ k, (∀ y0 y1 y2, LeO (scan_Words.l0 k y0 y1 y2) (scan_Words.l0 (k + 1) y0 y1 y2)) ∧ (∀ y0 y1 y2 y3, LeO (scan_Words.l1 k y0 y1 y2 y3) (scan_Words.l1 (k + 1) y0 y1 y2 y3))
  | 0 => ⟨fun _ _ _ r h => by simp [scan_Words.l0] at h, fun _ _ _ _ r h => by simp [scan_Words.l1] at h⟩
  | k + 1 => by
    obtain ⟨ih0, ih1⟩ := scan_Words.mono_l k
    refine ⟨?_, ?_⟩
    · intro y0 y1 y2
      unfold scan_Words.l0
      repeat' first
      | (with_reducible exact ih1 _ _ _ _)
      | (with_reducible exact LeO.refl _)
      | (with_reducible refine LeO.ite ?_ ?_)
      | (with_reducible refine LeO.bind ?_ (fun _ => ?_))
    · intro y0 y1 y2 y3
      unfold scan_Words.l1
      repeat' first
      | (with_reducible exact ih0 _ _ _)
      | (with_reducible exact ih1 _ _ _ _)
      | (with_reducible exact LeO.refl _)
      | (with_reducible refine LeO.ite ?_ ?_)
      | (with_reducible refine LeO.bind ?_ (fun _ => ?_))
theorem scan_Words.mono : ∀ a0 k, LeO (scan_Words.f k a0) (scan_Words.f (k + 1) a0) := by
  intro a0 k
  unfold scan_Words.f
  exact LeO.ite ((scan_Words.mono_l k).1 _ _ _) (LeO.refl _)

def scan_Words.Fr (a0 : ByteArray) (v2 : Value) (x5 : Int) (v6 : Value) (a : Act) : Prop := ∃ u7 u8 u9 u10 u11 u12 u13 u14 u15 u16 u17 u18 u19 u20 u21 u22 u23 u24 u25 u26 u27 u28 u29 u30 u31 u32 u33 u34 u35 u36 u37 u38 u39 u40 u41 u42 u43 u44 u45 u46 u47 u48 u49 u50 u51 u52 u53 u54 u55 u56 u57 u58 u59 u60 u61 u62 : Value, a = { tmps := #[.string a0, undef, v2, .int .i64 0, .int .i64 0, .int .i64 x5, v6, u7, u8, u9, u10, u11, u12, u13, u14, u15, u16, u17, u18, u19, u20, u21, u22, u23, u24, u25, u26, u27, u28, u29, u30, u31, u32, u33, u34, u35, u36, u37, u38, u39, u40, u41, u42, u43, u44, u45, u46, u47, u48, u49, u50, u51, u52, u53, u54, u55, u56, u57, u58, u59, u60, u61, u62], defers := [] }

def scan_Words.J (a0 : ByteArray) (r : List ByteArray × Int × Int) (w : World) (l n : Nat) (a : Act) (w' : World) : Prop :=
  (l = 0 ∧ ∃ x2 v2 v6 x5, scan_Words.Fr a0 v2 x5 v6 a ∧ 0 ≤ x5 ∧ x5 ≤ (a0.size : Int) ∧ Aside0 (scan_Words.l0 n a0 x2 x5 = some r) ∧ Aside0 (Kd.R Kd.string 9 w' w.heap.size (fun _ => True) v2 x2) ∧ Aside0 (Below w.heap.size w w')) ∨
  (l = 1 ∧ ∃ x2 v2 x6 x5, scan_Words.Fr a0 v2 x5 (.int .i64 x6) a ∧ 0 ≤ x6 ∧ x6 ≤ x5 ∧ x5 < (a0.size : Int) ∧ Aside0 (scan_Words.l1 n a0 x2 x6 x5 = some r) ∧ Aside0 (Kd.R Kd.string 9 w' w.heap.size (fun _ => True) v2 x2) ∧ Aside0 (Below w.heap.size w w'))

set_option maxHeartbeats 4000000 in
set_option maxRecDepth 100000 in
theorem scan_Words.calls (k : Nat) (a0 : ByteArray) (r1 : List ByteArray) (r2 : Int) (r3 : Int) (w : World) (h : scan_Words.f k a0 = some (r1, r2, r3)) :
    Calls Try.prog 8 #[.string a0] w fun e w' => ∃ v0_ : Value, e = .returned (.tuple #[v0_, .int .i64 r2, .int .i64 r3]) ∧ Kd.R Kd.string 9 w' w.heap.size (fun _ => True) v0_ r1 ∧ Below w.heap.size w w' := by
  unfold scan_Words.f at h
  by_cases hsz : a0.size ≤ 140737488355328
  · rw [if_pos hsz] at h
    have h' := Aside0.mk h
    clear h
    go_enter Try.func8, Try.ntmps8
    go_wp2
    refine wp_scope_at (l0 := 0) (scan_Words.J a0 (r1, r2, r3) w) rfl ?_ ?_
    · go_wp2
      exact ⟨k, .inl ⟨rfl, [], _, _, 0, ⟨_, _, _, _, _, _, _, _, _, _, _, _, _, _, _, _, _, _, _, _, _, _, _, _, _, _, _, _, _, _, _, _, _, _, _, _, _, _, _, _, _, _, _, _, _, _, _, _, _, _, _, _, _, _, _, _, rfl⟩, by omega, by omega, ⟨h'.out⟩, ⟨Kd.R_nil _ _ _ _ _⟩, ⟨Below.refl _ _⟩⟩⟩
    · intro n l a w' hJ
      rcases hJ with ⟨rfl, x2, v2, v6, x5, hfr, h0, h1, HA, HO, HB⟩ | ⟨rfl, x2, v2, x6, x5, hfr, h0, h1, h2, HA, HO, HB⟩
      · refine ⟨_, rfl, ?_⟩
        obtain ⟨u7, u8, u9, u10, u11, u12, u13, u14, u15, u16, u17, u18, u19, u20, u21, u22, u23, u24, u25, u26, u27, u28, u29, u30, u31, u32, u33, u34, u35, u36, u37, u38, u39, u40, u41, u42, u43, u44, u45, u46, u47, u48, u49, u50, u51, u52, u53, u54, u55, u56, u57, u58, u59, u60, u61, u62, rfl⟩ := hfr
        cases n with
        | zero => exact absurd HA.out (by simp [scan_Words.l0])
        | succ k1 =>
          have H := HA.out
          clear HA
          simp only [scan_Words.l0] at H
          by_cases hend : x5 = (a0.size : Int)
          · rw [if_pos hend] at H
            have ceq : ((x5 : Int) == (a0.size : Int)) = true := beq_iff_eq.mpr hend
            have clt2 := Int.le_of_eq hend.symm
            have clt3 := Int.le_of_eq hend
            clear hend
            by_cases hpos : x5 > 0
            · rw [if_pos hpos] at H
              simp only [Option.some.injEq, Prod.mk.injEq] at H
              obtain ⟨rfl, rfl, rfl⟩ := H
              have cgt : decide (0 < x5) = true := decide_eq_true hpos
              go_wp2
              simp only [ExitJumps_ret]
              go_ret3
              exact ⟨_, by first | rfl | (simp; done) | (simp; omega), Kd.R_nil _ _ _ _ _, (by repeat (first | (with_reducible first | exact HB.out | apply below_alloc | apply pw_below_drewN | apply below_drew1) | exact HB.out))⟩
            · rw [if_neg hpos] at H
              simp only [Option.some.injEq, Prod.mk.injEq] at H
              obtain ⟨rfl, rfl, rfl⟩ := H
              have cgt : decide (0 < x5) = false := decide_eq_false hpos
              clear hpos
              go_wp2
              simp only [ExitJumps_ret]
              go_ret3
              exact ⟨_, by first | rfl | (simp; done) | (simp; omega), Kd.R_nil _ _ _ _ _, (by repeat (first | (with_reducible first | exact HB.out | apply below_alloc | apply pw_below_drewN | apply below_drew1) | exact HB.out))⟩
          · rw [if_neg hend] at H
            have hlt0 : x5 < (a0.size : Int) := by omega
            rw [if_pos ⟨h0, hlt0⟩] at H
            replace H := Option.bind_eq_some_iff.mp H
            obtain ⟨t0, A00, H⟩ := H
            have A0 := Aside0.mk A00
            clear A00
            have ceq0 : ((x5 : Int) == (a0.size : Int)) = false := beq_eq_false_iff_ne.mpr hend
            clear hend
            have p0 : 0 ≤ x5 := h0
            have q0 := hlt0
            have hx0 := bt_at a0 x5
            replace p0 := eq_true p0
            replace q0 := eq_true q0
            cases t0 with
            | false =>
              simp only [Bool.false_eq_true, if_false, Option.some.injEq, Prod.mk.injEq] at H
              obtain ⟨rfl, rfl, rfl⟩ := H
              go_wp2_with (first | (go_at_call 17; (with_reducible refine (scan_printed.calls (bt a0 x5) false _ A0.out).mono ?_); rintro e w'' ⟨rfl, ⟨nd, rfl⟩⟩))
              all_goals simp only [ExitJumps_ret]
              all_goals go_ret3
              all_goals exact ⟨_, by first | rfl | (simp; done) | (simp; omega), Kd.R_nil _ _ _ _ _, (by repeat (first | (with_reducible first | exact HB.out | apply below_alloc | apply pw_below_drewN | apply below_drew1) | exact HB.out))⟩
            | true =>
              simp only [if_true] at H
              have H' := Aside0.mk H
              clear H
              go_wp2_with (first | (go_at_call 17; (with_reducible refine (scan_printed.calls (bt a0 x5) true _ A0.out).mono ?_); rintro e w'' ⟨rfl, ⟨nd, rfl⟩⟩))
              go_step3
              have H := H'.out
              clear H'
              cases k1 with
              | zero => exact absurd H (by simp [scan_Words.l1])
              | succ k2 =>
                simp only [scan_Words.l1] at H
                have hw1 : x5 + 1 < (a0.size : Int) ∨ x5 + 1 = (a0.size : Int) := by omega
                rcases hw1 with hlt | heq
                · rw [if_pos hlt] at H
                  replace H := Option.bind_eq_some_iff.mp H
                  obtain ⟨t, A40, H⟩ := H
                  have A4 := Aside0.mk A40
                  clear A40
                  have clt : decide (x5 + 1 < (a0.size : Int)) = true := decide_eq_true hlt
                  have ceq : ((x5 + 1 : Int) == (a0.size : Int)) = false := beq_eq_false_iff_ne.mpr (by omega)
                  have p8 : 0 ≤ (x5 + 1 : Int) := by omega
                  have q8 : x5 + 1 < (a0.size : Int) := hlt
                  have hx8 := bt_at a0 (x5 + 1)
                  have s2 : x5 ≤ x5 + 1 := by omega
                  have s3 : x5 + 1 ≤ (a0.size : Int) := by omega
                  have s1 := h0
                  replace s1 := eq_true s1
                  replace s2 := eq_true s2
                  replace s3 := eq_true s3
                  replace p8 := eq_true p8
                  replace q8 := eq_true q8
                  cases t with
                  | true =>
                    have H' := Aside0.mk H
                    clear H
                    go_wp2_with (first | (go_at_call 17; (with_reducible refine (scan_printed.calls (bt a0 (x5 + 1)) true _ A4.out).mono ?_); rintro e w'' ⟨rfl, ⟨nd, rfl⟩⟩))
                    go_step3
                    exact ⟨_, by omega, .inr ⟨rfl, x2, v2, x5, x5 + 1, ⟨_, _, _, _, _, _, _, _, _, _, _, _, _, _, _, _, _, _, _, _, _, _, _, _, _, _, _, _, _, _, _, _, _, _, _, _, _, _, _, _, _, _, _, _, _, _, _, _, _, _, _, _, _, _, _, _, rfl⟩, by omega, by omega, by omega, ⟨H'.out⟩, ⟨(by (with_reducible repeat (first | apply Kd.R_alloc | apply Kd.R_drewN | apply Kd.R_drew)); exact HO.out)⟩, ⟨(by repeat (first | (with_reducible first | exact HB.out | apply below_alloc | apply pw_below_drewN | apply below_drew1) | exact HB.out))⟩⟩⟩
                  | false =>
                    by_cases hl : x2.length < 8796093022208
                    · simp only [Bool.false_eq_true, if_false] at H
                      rw [if_pos hl] at H
                      have LMc := Aside0.mk hl
                      clear hl
                      by_cases h32 : bt a0 (x5 + 1) = 32
                      · rw [if_pos h32] at H
                        have H' := Aside0.mk H
                        clear H
                        have c32 : (bt a0 (x5 + 1) == 32) = true := beq_iff_eq.mpr h32
                        clear h32
                        go_wp2_with (first | (go_at_call 17; (with_reducible refine (scan_printed.calls (bt a0 (x5 + 1)) false _ A4.out).mono ?_); rintro e w'' ⟨rfl, ⟨nd, rfl⟩⟩) | ((with_reducible refine gate_builtin (b := .append) (xs := #[.tmp 43, .tmp 48]) rfl ?_); at_builtin; refine Kd.R_append Kd.string (w0 := w) w.heap.size rfl (.tmp 43) (.tmp 48) 23 9 (.string ⟨#[]⟩) 16 rfl Try.underlying23 info9 rfl (by decide) (by omega) v2 x2 (a0.extract (x5 : Int).toNat (x5 + 1 : Int).toNat) [.string (a0.extract (x5 : Int).toNat (x5 + 1 : Int).toNat)] (fun _ => True) (fun _ => False) rfl rfl ?aP (fun _ hk => hk.elim) ?aF ?aO ?aB ?aS ?aL ?_; (case aP => exact rfl); (case aB => exact (by repeat (first | (with_reducible first | exact HB.out | apply below_alloc | apply pw_below_drewN | apply below_drew1) | exact HB.out))); (case aF => exact (fun _ _ => trivial)); (case aO => exact (by (with_reducible repeat (first | apply Kd.R_alloc | apply Kd.R_drewN | apply Kd.R_drew)); exact HO.out)); (case aS => exact (below_size (by repeat (first | (with_reducible first | exact HB.out | apply below_alloc | apply pw_below_drewN | apply below_drew1) | exact HB.out)))); (case aL => have := LMc.out; omega); intro v115 w11 ho hb hg hat; have n0_ := Aside0.mk hb; have n1_ := Aside0.mk ho; clear HB; clear HO; have HB := n0_; have HO := n1_; clear n0_ n1_; clear ho hb hg hat))
                        go_step3
                        exact ⟨_, by omega, .inl ⟨rfl, _, v115, _, x5 + 1 + 1, ⟨_, _, _, _, _, _, _, _, _, _, _, _, _, _, _, _, _, _, _, _, _, _, _, _, _, _, _, _, _, _, _, _, _, _, _, _, _, _, _, _, _, _, _, _, _, _, _, _, _, _, _, _, _, _, _, _, by rfl⟩, by omega, by omega, ⟨H'.out⟩, ⟨(by (with_reducible repeat (first | apply Kd.R_alloc | apply Kd.R_drewN | apply Kd.R_drew)); exact HO.out)⟩, ⟨(by repeat (first | (with_reducible first | exact HB.out | apply below_alloc | apply pw_below_drewN | apply below_drew1) | exact HB.out))⟩⟩⟩
                      · rw [if_neg h32] at H
                        simp only [Option.some.injEq, Prod.mk.injEq] at H
                        obtain ⟨rfl, rfl, rfl⟩ := H
                        have c32 : (bt a0 (x5 + 1) == 32) = false := beq_eq_false_iff_ne.mpr h32
                        clear h32
                        go_wp2_with (first | (go_at_call 17; (with_reducible refine (scan_printed.calls (bt a0 (x5 + 1)) false _ A4.out).mono ?_); rintro e w'' ⟨rfl, ⟨nd, rfl⟩⟩) | ((with_reducible refine gate_builtin (b := .append) (xs := #[.tmp 43, .tmp 48]) rfl ?_); at_builtin; refine Kd.R_append Kd.string (w0 := w) w.heap.size rfl (.tmp 43) (.tmp 48) 23 9 (.string ⟨#[]⟩) 16 rfl Try.underlying23 info9 rfl (by decide) (by omega) v2 x2 (a0.extract (x5 : Int).toNat (x5 + 1 : Int).toNat) [.string (a0.extract (x5 : Int).toNat (x5 + 1 : Int).toNat)] (fun _ => True) (fun _ => False) rfl rfl ?aP (fun _ hk => hk.elim) ?aF ?aO ?aB ?aS ?aL ?_; (case aP => exact rfl); (case aB => exact (by repeat (first | (with_reducible first | exact HB.out | apply below_alloc | apply pw_below_drewN | apply below_drew1) | exact HB.out))); (case aF => exact (fun _ _ => trivial)); (case aO => exact (by (with_reducible repeat (first | apply Kd.R_alloc | apply Kd.R_drewN | apply Kd.R_drew)); exact HO.out)); (case aS => exact (below_size (by repeat (first | (with_reducible first | exact HB.out | apply below_alloc | apply pw_below_drewN | apply below_drew1) | exact HB.out)))); (case aL => have := LMc.out; omega); intro v115 w11 ho hb hg hat; have n0_ := Aside0.mk hb; have n1_ := Aside0.mk ho; clear HB; clear HO; have HB := n0_; have HO := n1_; clear n0_ n1_; clear ho hb hg hat))
                        simp only [ExitJumps_ret]
                        go_ret3
                        exact ⟨_, by first | rfl | (simp; done) | (simp; omega), Kd.R_nil _ _ _ _ _, (by repeat (first | (with_reducible first | exact HB.out | apply below_alloc | apply pw_below_drewN | apply below_drew1) | exact HB.out))⟩
                    · rw [if_neg hl] at H
                      exact absurd H (by simp)
                · rw [if_neg (by omega)] at H
                  by_cases hl : x2.length < 8796093022208
                  · rw [if_pos hl] at H
                    have LMc := Aside0.mk hl
                    clear hl
                    simp only [Option.some.injEq, Prod.mk.injEq] at H
                    obtain ⟨rfl, rfl, rfl⟩ := H
                    have clt : decide (x5 + 1 < (a0.size : Int)) = false := decide_eq_false (by omega)
                    have ceq : ((x5 + 1 : Int) == (a0.size : Int)) = true := beq_iff_eq.mpr heq
                    have clt2 := Int.le_of_eq heq.symm
                    have s3 := Int.le_of_eq heq
                    have s2 : x5 ≤ x5 + 1 := by omega
                    have s1 := h0
                    replace s1 := eq_true s1
                    replace s2 := eq_true s2
                    replace s3 := eq_true s3
                    clear heq
                    go_wp2_with (first | ((with_reducible refine gate_builtin (b := .append) (xs := #[.tmp 43, .tmp 48]) rfl ?_); at_builtin; refine Kd.R_append Kd.string (w0 := w) w.heap.size rfl (.tmp 43) (.tmp 48) 23 9 (.string ⟨#[]⟩) 16 rfl Try.underlying23 info9 rfl (by decide) (by omega) v2 x2 (a0.extract (x5 : Int).toNat (x5 + 1 : Int).toNat) [.string (a0.extract (x5 : Int).toNat (x5 + 1 : Int).toNat)] (fun _ => True) (fun _ => False) rfl rfl ?aP (fun _ hk => hk.elim) ?aF ?aO ?aB ?aS ?aL ?_; (case aP => exact rfl); (case aB => exact (by repeat (first | (with_reducible first | exact HB.out | apply below_alloc | apply pw_below_drewN | apply below_drew1) | exact HB.out))); (case aF => exact (fun _ _ => trivial)); (case aO => exact (by (with_reducible repeat (first | apply Kd.R_alloc | apply Kd.R_drewN | apply Kd.R_drew)); exact HO.out)); (case aS => exact (below_size (by repeat (first | (with_reducible first | exact HB.out | apply below_alloc | apply pw_below_drewN | apply below_drew1) | exact HB.out)))); (case aL => have := LMc.out; omega); intro v115 w11 ho hb hg hat; have n0_ := Aside0.mk hb; have n1_ := Aside0.mk ho; clear HB; clear HO; have HB := n0_; have HO := n1_; clear n0_ n1_; clear ho hb hg hat))
                    simp only [ExitJumps_ret]
                    go_ret3
                    exact ⟨_, by rfl, (by (with_reducible repeat (first | apply Kd.R_alloc | apply Kd.R_drewN | apply Kd.R_drew)); exact HO.out), (by repeat (first | (with_reducible first | exact HB.out | apply below_alloc | apply pw_below_drewN | apply below_drew1) | exact HB.out))⟩
                  · rw [if_neg hl] at H
                    exact absurd H (by simp)
      · refine ⟨_, rfl, ?_⟩
        obtain ⟨u7, u8, u9, u10, u11, u12, u13, u14, u15, u16, u17, u18, u19, u20, u21, u22, u23, u24, u25, u26, u27, u28, u29, u30, u31, u32, u33, u34, u35, u36, u37, u38, u39, u40, u41, u42, u43, u44, u45, u46, u47, u48, u49, u50, u51, u52, u53, u54, u55, u56, u57, u58, u59, u60, u61, u62, rfl⟩ := hfr
        cases n with
        | zero => exact absurd HA.out (by simp [scan_Words.l1])
        | succ k1 =>
          have H := HA.out
          clear HA
          simp only [scan_Words.l1] at H
          have hw1 : x5 + 1 < (a0.size : Int) ∨ x5 + 1 = (a0.size : Int) := by omega
          rcases hw1 with hlt | heq
          · rw [if_pos hlt] at H
            replace H := Option.bind_eq_some_iff.mp H
            obtain ⟨t, A40, H⟩ := H
            have A4 := Aside0.mk A40
            clear A40
            have clt : decide (x5 + 1 < (a0.size : Int)) = true := decide_eq_true hlt
            have ceq : ((x5 + 1 : Int) == (a0.size : Int)) = false := beq_eq_false_iff_ne.mpr (by omega)
            have p8 : 0 ≤ (x5 + 1 : Int) := by omega
            have q8 : x5 + 1 < (a0.size : Int) := hlt
            have hx8 := bt_at a0 (x5 + 1)
            have s2 : x6 ≤ x5 + 1 := by omega
            have s3 : x5 + 1 ≤ (a0.size : Int) := by omega
            have s1 := h0
            replace s1 := eq_true s1
            replace s2 := eq_true s2
            replace s3 := eq_true s3
            replace p8 := eq_true p8
            replace q8 := eq_true q8
            cases t with
            | true =>
              have H' := Aside0.mk H
              clear H
              go_wp2_with (first | (go_at_call 17; (with_reducible refine (scan_printed.calls (bt a0 (x5 + 1)) true _ A4.out).mono ?_); rintro e w'' ⟨rfl, ⟨nd, rfl⟩⟩))
              go_step3
              exact ⟨_, by omega, .inr ⟨rfl, x2, v2, x6, x5 + 1, ⟨_, _, _, _, _, _, _, _, _, _, _, _, _, _, _, _, _, _, _, _, _, _, _, _, _, _, _, _, _, _, _, _, _, _, _, _, _, _, _, _, _, _, _, _, _, _, _, _, _, _, _, _, _, _, _, _, rfl⟩, by omega, by omega, by omega, ⟨H'.out⟩, ⟨(by (with_reducible repeat (first | apply Kd.R_alloc | apply Kd.R_drewN | apply Kd.R_drew)); exact HO.out)⟩, ⟨(by repeat (first | (with_reducible first | exact HB.out | apply below_alloc | apply pw_below_drewN | apply below_drew1) | exact HB.out))⟩⟩⟩
            | false =>
              by_cases hl : x2.length < 8796093022208
              · simp only [Bool.false_eq_true, if_false] at H
                rw [if_pos hl] at H
                have LMc := Aside0.mk hl
                clear hl
                by_cases h32 : bt a0 (x5 + 1) = 32
                · rw [if_pos h32] at H
                  have H' := Aside0.mk H
                  clear H
                  have c32 : (bt a0 (x5 + 1) == 32) = true := beq_iff_eq.mpr h32
                  clear h32
                  go_wp2_with (first | (go_at_call 17; (with_reducible refine (scan_printed.calls (bt a0 (x5 + 1)) false _ A4.out).mono ?_); rintro e w'' ⟨rfl, ⟨nd, rfl⟩⟩) | ((with_reducible refine gate_builtin (b := .append) (xs := #[.tmp 43, .tmp 48]) rfl ?_); at_builtin; refine Kd.R_append Kd.string (w0 := w) w.heap.size rfl (.tmp 43) (.tmp 48) 23 9 (.string ⟨#[]⟩) 16 rfl Try.underlying23 info9 rfl (by decide) (by omega) v2 x2 (a0.extract (x6 : Int).toNat (x5 + 1 : Int).toNat) [.string (a0.extract (x6 : Int).toNat (x5 + 1 : Int).toNat)] (fun _ => True) (fun _ => False) rfl rfl ?aP (fun _ hk => hk.elim) ?aF ?aO ?aB ?aS ?aL ?_; (case aP => exact rfl); (case aB => exact (by repeat (first | (with_reducible first | exact HB.out | apply below_alloc | apply pw_below_drewN | apply below_drew1) | exact HB.out))); (case aF => exact (fun _ _ => trivial)); (case aO => exact (by (with_reducible repeat (first | apply Kd.R_alloc | apply Kd.R_drewN | apply Kd.R_drew)); exact HO.out)); (case aS => exact (below_size (by repeat (first | (with_reducible first | exact HB.out | apply below_alloc | apply pw_below_drewN | apply below_drew1) | exact HB.out)))); (case aL => have := LMc.out; omega); intro v115 w11 ho hb hg hat; have n0_ := Aside0.mk hb; have n1_ := Aside0.mk ho; clear HB; clear HO; have HB := n0_; have HO := n1_; clear n0_ n1_; clear ho hb hg hat))
                  go_step3
                  exact ⟨_, by omega, .inl ⟨rfl, _, v115, _, x5 + 1 + 1, ⟨_, _, _, _, _, _, _, _, _, _, _, _, _, _, _, _, _, _, _, _, _, _, _, _, _, _, _, _, _, _, _, _, _, _, _, _, _, _, _, _, _, _, _, _, _, _, _, _, _, _, _, _, _, _, _, _, by rfl⟩, by omega, by omega, ⟨H'.out⟩, ⟨(by (with_reducible repeat (first | apply Kd.R_alloc | apply Kd.R_drewN | apply Kd.R_drew)); exact HO.out)⟩, ⟨(by repeat (first | (with_reducible first | exact HB.out | apply below_alloc | apply pw_below_drewN | apply below_drew1) | exact HB.out))⟩⟩⟩
                · rw [if_neg h32] at H
                  simp only [Option.some.injEq, Prod.mk.injEq] at H
                  obtain ⟨rfl, rfl, rfl⟩ := H
                  have c32 : (bt a0 (x5 + 1) == 32) = false := beq_eq_false_iff_ne.mpr h32
                  clear h32
                  go_wp2_with (first | (go_at_call 17; (with_reducible refine (scan_printed.calls (bt a0 (x5 + 1)) false _ A4.out).mono ?_); rintro e w'' ⟨rfl, ⟨nd, rfl⟩⟩) | ((with_reducible refine gate_builtin (b := .append) (xs := #[.tmp 43, .tmp 48]) rfl ?_); at_builtin; refine Kd.R_append Kd.string (w0 := w) w.heap.size rfl (.tmp 43) (.tmp 48) 23 9 (.string ⟨#[]⟩) 16 rfl Try.underlying23 info9 rfl (by decide) (by omega) v2 x2 (a0.extract (x6 : Int).toNat (x5 + 1 : Int).toNat) [.string (a0.extract (x6 : Int).toNat (x5 + 1 : Int).toNat)] (fun _ => True) (fun _ => False) rfl rfl ?aP (fun _ hk => hk.elim) ?aF ?aO ?aB ?aS ?aL ?_; (case aP => exact rfl); (case aB => exact (by repeat (first | (with_reducible first | exact HB.out | apply below_alloc | apply pw_below_drewN | apply below_drew1) | exact HB.out))); (case aF => exact (fun _ _ => trivial)); (case aO => exact (by (with_reducible repeat (first | apply Kd.R_alloc | apply Kd.R_drewN | apply Kd.R_drew)); exact HO.out)); (case aS => exact (below_size (by repeat (first | (with_reducible first | exact HB.out | apply below_alloc | apply pw_below_drewN | apply below_drew1) | exact HB.out)))); (case aL => have := LMc.out; omega); intro v115 w11 ho hb hg hat; have n0_ := Aside0.mk hb; have n1_ := Aside0.mk ho; clear HB; clear HO; have HB := n0_; have HO := n1_; clear n0_ n1_; clear ho hb hg hat))
                  simp only [ExitJumps_ret]
                  go_ret3
                  exact ⟨_, by first | rfl | (simp; done) | (simp; omega), Kd.R_nil _ _ _ _ _, (by repeat (first | (with_reducible first | exact HB.out | apply below_alloc | apply pw_below_drewN | apply below_drew1) | exact HB.out))⟩
              · rw [if_neg hl] at H
                exact absurd H (by simp)
          · rw [if_neg (by omega)] at H
            by_cases hl : x2.length < 8796093022208
            · rw [if_pos hl] at H
              have LMc := Aside0.mk hl
              clear hl
              simp only [Option.some.injEq, Prod.mk.injEq] at H
              obtain ⟨rfl, rfl, rfl⟩ := H
              have clt : decide (x5 + 1 < (a0.size : Int)) = false := decide_eq_false (by omega)
              have ceq : ((x5 + 1 : Int) == (a0.size : Int)) = true := beq_iff_eq.mpr heq
              have clt2 := Int.le_of_eq heq.symm
              have s3 := Int.le_of_eq heq
              have s2 : x6 ≤ x5 + 1 := by omega
              have s1 := h0
              replace s1 := eq_true s1
              replace s2 := eq_true s2
              replace s3 := eq_true s3
              clear heq
              go_wp2_with (first | ((with_reducible refine gate_builtin (b := .append) (xs := #[.tmp 43, .tmp 48]) rfl ?_); at_builtin; refine Kd.R_append Kd.string (w0 := w) w.heap.size rfl (.tmp 43) (.tmp 48) 23 9 (.string ⟨#[]⟩) 16 rfl Try.underlying23 info9 rfl (by decide) (by omega) v2 x2 (a0.extract (x6 : Int).toNat (x5 + 1 : Int).toNat) [.string (a0.extract (x6 : Int).toNat (x5 + 1 : Int).toNat)] (fun _ => True) (fun _ => False) rfl rfl ?aP (fun _ hk => hk.elim) ?aF ?aO ?aB ?aS ?aL ?_; (case aP => exact rfl); (case aB => exact (by repeat (first | (with_reducible first | exact HB.out | apply below_alloc | apply pw_below_drewN | apply below_drew1) | exact HB.out))); (case aF => exact (fun _ _ => trivial)); (case aO => exact (by (with_reducible repeat (first | apply Kd.R_alloc | apply Kd.R_drewN | apply Kd.R_drew)); exact HO.out)); (case aS => exact (below_size (by repeat (first | (with_reducible first | exact HB.out | apply below_alloc | apply pw_below_drewN | apply below_drew1) | exact HB.out)))); (case aL => have := LMc.out; omega); intro v115 w11 ho hb hg hat; have n0_ := Aside0.mk hb; have n1_ := Aside0.mk ho; clear HB; clear HO; have HB := n0_; have HO := n1_; clear n0_ n1_; clear ho hb hg hat))
              simp only [ExitJumps_ret]
              go_ret3
              exact ⟨_, by rfl, (by (with_reducible repeat (first | apply Kd.R_alloc | apply Kd.R_drewN | apply Kd.R_drew)); exact HO.out), (by repeat (first | (with_reducible first | exact HB.out | apply below_alloc | apply pw_below_drewN | apply below_drew1) | exact HB.out))⟩
            · rw [if_neg hl] at H
              exact absurd H (by simp)
  · rw [if_neg hsz] at h
    cases h


/-! ### pylonlaw06_awake: function 7 -/
def pylonlaw06_awake.f (k : Nat)  : Option (Bool) := (scan_Words.f k (⟨#[114, 101, 97, 100, 32, 48, 32, 53]⟩ : ByteArray)).bind fun bt101 => (if bt101.2.2 = 0 then (if bt101.2.1 = 0 then (if (bt101.1.length : Int) = 3 then (if 2 < (bt101.1.length : Int) then (some ((rdOf ByteArray.empty bt101.1 2).toList == ([53] : List UInt8))) else (none)) else (some false)) else (some false)) else (some false))
theorem pylonlaw06_awake.mono : ∀ k, LeO (pylonlaw06_awake.f k ) (pylonlaw06_awake.f (k + 1) ) := by
  intro  k
  unfold pylonlaw06_awake.f
  repeat' first
      | (with_reducible exact scan_Words.mono _ _)
      | (with_reducible exact LeO.refl _)
      | (with_reducible exact LeO.none _)
      | (with_reducible refine LeO.ite ?_ ?_)
      | (with_reducible refine LeO.bind ?_ (fun _ => ?_))
      | exact scan_Words.mono _ _
      | exact LeO.none _
      | refine LeO.ite ?_ ?_
      | refine LeO.bind ?_ (fun _ => ?_)
set_option maxHeartbeats 8000000 in
set_option maxRecDepth 100000 in
theorem pylonlaw06_awake.calls (k : Nat)  (r : Bool) (w : World) (h : pylonlaw06_awake.f k  = some r) :
    Calls Try.prog 7 #[] w fun e w' => e = .returned (.bool r) ∧ Below w.heap.size w w' := by
  have HB := Aside0.mk (Below.refl w.heap.size w)
  have H : ((scan_Words.f k (⟨#[114, 101, 97, 100, 32, 48, 32, 53]⟩ : ByteArray)).bind fun bt101 => (if bt101.2.2 = 0 then (if bt101.2.1 = 0 then (if (bt101.1.length : Int) = 3 then (if 2 < (bt101.1.length : Int) then (some ((rdOf ByteArray.empty bt101.1 2).toList == ([53] : List UInt8))) else (none)) else (some false)) else (some false)) else (some false))) = some r := h
  clear h
  replace H := Option.bind_eq_some_iff.mp H
  obtain ⟨⟨t101, t102, t103⟩, A10, H⟩ := H
  replace H : (if t103 = 0 then (if t102 = 0 then (if (t101.length : Int) = 3 then (if 2 < (t101.length : Int) then (some ((rdOf ByteArray.empty t101 2).toList == ([53] : List UInt8))) else (none)) else (some false)) else (some false)) else (some false)) = some r := H
  have A1 := Aside0.mk A10
  clear A10
  by_cases c2 : t103 = 0
  · rw [if_pos c2] at H
    have c2b0 : (t103 == 0) = true := beq_iff_eq.mpr c2
    have c2b1 : (t103 != 0) = false := bne_eq_false_iff_eq.mpr c2
    clear c2
    by_cases c3 : t102 = 0
    · rw [if_pos c3] at H
      have c3b0 : (t102 == 0) = true := beq_iff_eq.mpr c3
      have c3b1 : (t102 != 0) = false := bne_eq_false_iff_eq.mpr c3
      clear c3
      by_cases c4 : (t101.length : Int) = 3
      · rw [if_pos c4] at H
        have c4b0 : ((t101.length : Int) == 3) = true := beq_iff_eq.mpr c4
        have c4b1 : ((t101.length : Int) != 3) = false := bne_eq_false_iff_eq.mpr c4
        clear c4
        by_cases c5 : 2 < (t101.length : Int)
        · rw [if_pos c5] at H
          have c5b0 : decide (2 < (t101.length : Int)) = true := decide_eq_true c5
          have c5b1 : decide (2 < t101.length) = true := decide_eq_true (by omega)
          clear c5
          obtain rfl := Option.some.inj H
          go_enter Try.func7, Try.ntmps7
          go_wp2_with (first | ((with_reducible refine gate_callee (f := 8) rfl ?_); refine goesL_ (some 5) rfl rfl Try.func8 (by kernel_rfl) rfl #[.string (⟨#[114, 101, 97, 100, 32, 48, 32, 53]⟩ : ByteArray)] rfl (by (try simp only [List.map_toArray, List.map_cons, List.map_nil]); first | done | rfl | (simp only [List.length_drop, List.length_take]; rfl)) ?_; (with_reducible refine (scan_Words.calls k (⟨#[114, 101, 97, 100, 32, 48, 32, 53]⟩ : ByteArray) t101 t102 t103 _ A1.out).mono ?_); rintro e w6 ⟨v104, rfl, ho0, hb⟩; refine ⟨_, rfl, ?_⟩; have n0_ := Aside0.mk (Kd.R_lower ho0 (below_size (by repeat (first | (with_reducible first | exact HB.out | apply below_alloc | apply pw_below_drewN | apply below_drew1) | exact HB.out)))); have n1_ := Aside0.mk (below_step (by repeat (first | (with_reducible first | exact HB.out | apply below_alloc | apply pw_below_drewN | apply below_drew1) | exact HB.out)) hb); clear HB; have HO105 := n0_; have HB := n1_; clear n0_ n1_; (try clear hb); (try clear hb2); (try clear hk); (try clear hi); (try clear ho0); obtain ⟨Ao7, co7, eo7⟩ := Kd.R_slice HO105.out; subst eo7; have p106 : 0 ≤ (2 : Int) := (by omega); have q106 : 2 < (t101.length : Int) := of_decide_eq_true (by first | (with_reducible assumption) | assumption); obtain ⟨ad106, e106, hx106_0⟩ := Kd.at_string (Kd.R_reads' HO105.out).2.2 2 p106 q106; cases e106; (try simp only [show (2 : Int).toNat = 2 from rfl, Nat.reduceMul, Nat.reduceEqDiff, Go.Addr.add, ↓reduceIte] at hx106_0); have qi106 : (2 < t101.length) = True := eq_true (by omega); (try rw [show ((2 : Int)).toNat = 2 from rfl] at hx106_0); replace p106 := eq_true p106; replace q106 := eq_true q106))
          go_ret
          exact ⟨by first | rfl | (simp [errW_none, errW_some] <;> rfl) | (simp [*, errW_none, errW_some] <;> rfl), by repeat (first | (with_reducible first | exact HB.out | apply below_alloc | apply pw_below_drewN | apply below_drew1) | exact HB.out)⟩
        · rw [if_neg c5] at H
          exact absurd H (by simp)
      · rw [if_neg c4] at H
        have c4b0 : ((t101.length : Int) == 3) = false := beq_eq_false_iff_ne.mpr c4
        have c4b1 : ((t101.length : Int) != 3) = true := bne_iff_ne.mpr c4
        obtain rfl := Option.some.inj H
        go_enter Try.func7, Try.ntmps7
        go_wp2_with (first | ((with_reducible refine gate_callee (f := 8) rfl ?_); refine goesL_ (some 5) rfl rfl Try.func8 (by kernel_rfl) rfl #[.string (⟨#[114, 101, 97, 100, 32, 48, 32, 53]⟩ : ByteArray)] rfl (by (try simp only [List.map_toArray, List.map_cons, List.map_nil]); first | done | rfl | (simp only [List.length_drop, List.length_take]; rfl)) ?_; (with_reducible refine (scan_Words.calls k (⟨#[114, 101, 97, 100, 32, 48, 32, 53]⟩ : ByteArray) t101 t102 t103 _ A1.out).mono ?_); rintro e w8 ⟨v104, rfl, ho0, hb⟩; refine ⟨_, rfl, ?_⟩; have n0_ := Aside0.mk (Kd.R_lower ho0 (below_size (by repeat (first | (with_reducible first | exact HB.out | apply below_alloc | apply pw_below_drewN | apply below_drew1) | exact HB.out)))); have n1_ := Aside0.mk (below_step (by repeat (first | (with_reducible first | exact HB.out | apply below_alloc | apply pw_below_drewN | apply below_drew1) | exact HB.out)) hb); clear HB; have HO105 := n0_; have HB := n1_; clear n0_ n1_; (try clear hb); (try clear hb2); (try clear hk); (try clear hi); (try clear ho0); obtain ⟨Ao9, co9, eo9⟩ := Kd.R_slice HO105.out; subst eo9))
        go_ret
        exact ⟨by first | rfl | (simp [errW_none, errW_some] <;> rfl) | (simp [*, errW_none, errW_some] <;> rfl), by repeat (first | (with_reducible first | exact HB.out | apply below_alloc | apply pw_below_drewN | apply below_drew1) | exact HB.out)⟩
    · rw [if_neg c3] at H
      have c3b0 : (t102 == 0) = false := beq_eq_false_iff_ne.mpr c3
      have c3b1 : (t102 != 0) = true := bne_iff_ne.mpr c3
      obtain rfl := Option.some.inj H
      go_enter Try.func7, Try.ntmps7
      go_wp2_with (first | ((with_reducible refine gate_callee (f := 8) rfl ?_); refine goesL_ (some 5) rfl rfl Try.func8 (by kernel_rfl) rfl #[.string (⟨#[114, 101, 97, 100, 32, 48, 32, 53]⟩ : ByteArray)] rfl (by (try simp only [List.map_toArray, List.map_cons, List.map_nil]); first | done | rfl | (simp only [List.length_drop, List.length_take]; rfl)) ?_; (with_reducible refine (scan_Words.calls k (⟨#[114, 101, 97, 100, 32, 48, 32, 53]⟩ : ByteArray) t101 t102 t103 _ A1.out).mono ?_); rintro e w10 ⟨v104, rfl, ho0, hb⟩; refine ⟨_, rfl, ?_⟩; have n0_ := Aside0.mk (Kd.R_lower ho0 (below_size (by repeat (first | (with_reducible first | exact HB.out | apply below_alloc | apply pw_below_drewN | apply below_drew1) | exact HB.out)))); have n1_ := Aside0.mk (below_step (by repeat (first | (with_reducible first | exact HB.out | apply below_alloc | apply pw_below_drewN | apply below_drew1) | exact HB.out)) hb); clear HB; have HO105 := n0_; have HB := n1_; clear n0_ n1_; (try clear hb); (try clear hb2); (try clear hk); (try clear hi); (try clear ho0)))
      go_ret
      exact ⟨by first | rfl | (simp [errW_none, errW_some] <;> rfl) | (simp [*, errW_none, errW_some] <;> rfl), by repeat (first | (with_reducible first | exact HB.out | apply below_alloc | apply pw_below_drewN | apply below_drew1) | exact HB.out)⟩
  · rw [if_neg c2] at H
    have c2b0 : (t103 == 0) = false := beq_eq_false_iff_ne.mpr c2
    have c2b1 : (t103 != 0) = true := bne_iff_ne.mpr c2
    obtain rfl := Option.some.inj H
    go_enter Try.func7, Try.ntmps7
    go_wp2_with (first | ((with_reducible refine gate_callee (f := 8) rfl ?_); refine goesL_ (some 5) rfl rfl Try.func8 (by kernel_rfl) rfl #[.string (⟨#[114, 101, 97, 100, 32, 48, 32, 53]⟩ : ByteArray)] rfl (by (try simp only [List.map_toArray, List.map_cons, List.map_nil]); first | done | rfl | (simp only [List.length_drop, List.length_take]; rfl)) ?_; (with_reducible refine (scan_Words.calls k (⟨#[114, 101, 97, 100, 32, 48, 32, 53]⟩ : ByteArray) t101 t102 t103 _ A1.out).mono ?_); rintro e w11 ⟨v104, rfl, ho0, hb⟩; refine ⟨_, rfl, ?_⟩; have n0_ := Aside0.mk (Kd.R_lower ho0 (below_size (by repeat (first | (with_reducible first | exact HB.out | apply below_alloc | apply pw_below_drewN | apply below_drew1) | exact HB.out)))); have n1_ := Aside0.mk (below_step (by repeat (first | (with_reducible first | exact HB.out | apply below_alloc | apply pw_below_drewN | apply below_drew1) | exact HB.out)) hb); clear HB; have HO105 := n0_; have HB := n1_; clear n0_ n1_; (try clear hb); (try clear hb2); (try clear hk); (try clear hi); (try clear ho0)))
    go_ret
    exact ⟨by first | rfl | (simp [errW_none, errW_some] <;> rfl) | (simp [*, errW_none, errW_some] <;> rfl), by repeat (first | (with_reducible first | exact HB.out | apply below_alloc | apply pw_below_drewN | apply below_drew1) | exact HB.out)⟩

/-! ### pylonref06_SameWords: function 9 -/
def pylonref06_SameWords.l0 : Nat → List ByteArray → List ByteArray → Int → Int → Option (Bool)
  | 0, _, _, _, _ => none
  | k + 1, x0, x1, x12, x13 => if x13 < x12 then (if 0 ≤ x13 then (if x13 < (x0.length : Int) then (if x13 < (x1.length : Int) then (if (rdOf ByteArray.empty x0 x13).toList = (rdOf ByteArray.empty x1 x13).toList then (pylonref06_SameWords.l0 k x0 x1 x12 (wrap64 (x13 + 1))) else (some false)) else (none)) else (none)) else (none)) else (some true)
def pylonref06_SameWords.f (k : Nat) (l0 : List ByteArray) (l1 : List ByteArray) : Option (Bool) := if (l0.length : Int) = (l1.length : Int) then (pylonref06_SameWords.l0 k l0 l1 (l0.length : Int) 0) else (some false)
theorem pylonref06_SameWords.mono_l : ∀ k, (∀ y0 y1 y2 y3, LeO (pylonref06_SameWords.l0 k y0 y1 y2 y3) (pylonref06_SameWords.l0 (k + 1) y0 y1 y2 y3))
  | 0 => fun _ _ _ _ r h => by simp [pylonref06_SameWords.l0] at h
  | k + 1 => by
    have ih0 := pylonref06_SameWords.mono_l k
    · intro y0 y1 y2 y3
      unfold pylonref06_SameWords.l0
      repeat' first
      | (with_reducible exact ih0 _ _ _ _)
      | (with_reducible exact LeO.refl _)
      | (with_reducible exact LeO.none _)
      | (with_reducible refine LeO.ite ?_ ?_)
      | (with_reducible refine LeO.bind ?_ (fun _ => ?_))
      | exact ih0 _ _ _ _
      | exact LeO.none _
      | refine LeO.ite ?_ ?_
      | refine LeO.bind ?_ (fun _ => ?_)
theorem pylonref06_SameWords.mono : ∀ a0 a1 k, LeO (pylonref06_SameWords.f k a0 a1) (pylonref06_SameWords.f (k + 1) a0 a1) := by
  intro a0 a1 k
  have ih0 := pylonref06_SameWords.mono_l k
  unfold pylonref06_SameWords.f
  repeat' first
      | (with_reducible exact ih0 _ _ _ _)
      | (with_reducible exact LeO.refl _)
      | (with_reducible exact LeO.none _)
      | (with_reducible refine LeO.ite ?_ ?_)
      | (with_reducible refine LeO.bind ?_ (fun _ => ?_))
      | exact ih0 _ _ _ _
      | exact LeO.none _
      | refine LeO.ite ?_ ?_
      | refine LeO.bind ?_ (fun _ => ?_)
set_option maxHeartbeats 8000000 in
set_option maxRecDepth 100000 in
theorem pylonref06_SameWords.calls (k : Nat) (A0 : Option Addr) (c0 : Nat) (l0 : List ByteArray) (A1 : Option Addr) (c1 : Nat) (l1 : List ByteArray) (r : Bool) (w : World) (hr0 : Kd.C Kd.string w A0 l0.length l0) (hc0 : l0.length ≤ c0) (hr1 : Kd.C Kd.string w A1 l1.length l1) (hc1 : l1.length ≤ c1) (h : pylonref06_SameWords.f k l0 l1 = some r) :
    Calls Try.prog 9 #[.slice A0 l0.length c0, .slice A1 l1.length c1] w fun e w' => e = .returned (.bool r) ∧ Drawn0 w w' := by
  have HR0 := Aside0.mk hr0
  have HC0 := Aside0.mk hc0
  clear hr0 hc0
  have HR1 := Aside0.mk hr1
  have HC1 := Aside0.mk hc1
  clear hr1 hc1
  have H : (if (l0.length : Int) = (l1.length : Int) then (pylonref06_SameWords.l0 k l0 l1 (l0.length : Int) 0) else (some false)) = some r := h
  clear h
  by_cases c3 : (l0.length : Int) = (l1.length : Int)
  · rw [if_pos c3] at H
    have c3b0 : ((l0.length : Int) == (l1.length : Int)) = true := beq_iff_eq.mpr c3
    have c3b1 : ((l0.length : Int) != (l1.length : Int)) = false := bne_eq_false_iff_eq.mpr c3
    have c3b2 : (l0.length == l1.length) = true := by first | simpa using c3 | (simp at c3 ⊢; omega)
    clear c3
    have H' := Aside0.mk H
    clear H
    go_enter Try.func9, Try.ntmps9
    go_wp2
    repeat (go_quiet (fail); try go_wp2)
    go_loopg [13] k (fun kq v13 w' => ∃ (x13_1 : Int), v13 = .int .i64 x13_1 ∧ Aside0 (pylonref06_SameWords.l0 kq l0 l1 (l0.length : Int) x13_1 = some r) ∧ Aside0 (kq ≤ k) ∧ Drawn0 w w')
    case atStart => exact ⟨(0), (by first | rfl | (simp; done) | (simp [*]; done) | (simp [isEmpty_bne]; done) | (simp [isEmpty_beq]; done)), H', ⟨Nat.le_refl _⟩, by repeat (first | exact Drawn0.refl _ | apply Drawn0.step)⟩
    case round =>
      clear H'
      try clear c1
      try clear p2
      try clear c3
      try clear c3b0
      try clear c3b1
      try clear c3b2
      obtain ⟨x13_1, rfl, HA, HK1, ⟨m1, rfl⟩⟩ := hrel
      cases gk with
      | zero => exact absurd HA.out (by simp [pylonref06_SameWords.l0])
      | succ k1 =>
        have H := HA.out
        clear HA
        simp only [pylonref06_SameWords.l0] at H
        by_cases c4 : x13_1 < (l0.length : Int)
        · rw [if_pos c4] at H
          have c4b0 : decide (x13_1 < (l0.length : Int)) = true := decide_eq_true c4
          clear c4
          by_cases c5 : 0 ≤ x13_1
          · rw [if_pos c5] at H
            have c5b0 : decide (0 ≤ x13_1) = true := decide_eq_true c5
            clear c5
            by_cases c6 : x13_1 < (l0.length : Int)
            · rw [if_pos c6] at H
              have c6b0 : decide (x13_1 < (l0.length : Int)) = true := decide_eq_true c6
              clear c6
              by_cases c7 : x13_1 < (l1.length : Int)
              · rw [if_pos c7] at H
                have c7b0 : decide (x13_1 < (l1.length : Int)) = true := decide_eq_true c7
                clear c7
                by_cases c8 : (rdOf ByteArray.empty l0 x13_1).toList = (rdOf ByteArray.empty l1 x13_1).toList
                · rw [if_pos c8] at H
                  have c8b0 : ((rdOf ByteArray.empty l0 x13_1).toList == (rdOf ByteArray.empty l1 x13_1).toList) = true := beq_iff_eq.mpr c8
                  have c8b1 : ((rdOf ByteArray.empty l0 x13_1).toList != (rdOf ByteArray.empty l1 x13_1).toList) = false := bne_eq_false_iff_eq.mpr c8
                  clear c8
                  have H' := Aside0.mk H
                  clear H
                  have p107 : 0 ≤ (x13_1 : Int) := of_decide_eq_true (by first | (with_reducible assumption) | assumption)
                  have q107 : x13_1 < (l0.length : Int) := of_decide_eq_true (by first | (with_reducible assumption) | assumption)
                  obtain ⟨ad107, e107, hx107_0⟩ := Kd.at_string HR0.out x13_1 p107 q107
                  cases e107
                  replace p107 := eq_true p107
                  replace q107 := eq_true q107
                  have p108 : 0 ≤ (x13_1 : Int) := of_decide_eq_true (by first | (with_reducible assumption) | assumption)
                  have q108 : x13_1 < (l1.length : Int) := of_decide_eq_true (by first | (with_reducible assumption) | assumption)
                  obtain ⟨ad108, e108, hx108_0⟩ := Kd.at_string HR1.out x13_1 p108 q108
                  cases e108
                  replace p108 := eq_true p108
                  replace q108 := eq_true q108
                  go_wp2
                  repeat (go_quiet (fail); try go_wp2)
                  go_roundg k1
                  case measure => have := HK1.out; omega
                  case rel => exact ⟨(wrap64 (x13_1 + 1)), (by first | rfl | (simp; done) | (simp [*]; done) | (simp [isEmpty_bne]; done) | (simp [isEmpty_beq]; done)), H', ⟨by have := HK1.out; omega⟩, by repeat (first | exact Drawn0.refl _ | apply Drawn0.step)⟩
                · rw [if_neg c8] at H
                  have c8b0 : ((rdOf ByteArray.empty l0 x13_1).toList == (rdOf ByteArray.empty l1 x13_1).toList) = false := beq_eq_false_iff_ne.mpr c8
                  have c8b1 : ((rdOf ByteArray.empty l0 x13_1).toList != (rdOf ByteArray.empty l1 x13_1).toList) = true := bne_iff_ne.mpr c8
                  obtain rfl := Option.some.inj H
                  have p107 : 0 ≤ (x13_1 : Int) := of_decide_eq_true (by first | (with_reducible assumption) | assumption)
                  have q107 : x13_1 < (l0.length : Int) := of_decide_eq_true (by first | (with_reducible assumption) | assumption)
                  obtain ⟨ad107, e107, hx107_0⟩ := Kd.at_string HR0.out x13_1 p107 q107
                  cases e107
                  replace p107 := eq_true p107
                  replace q107 := eq_true q107
                  have p108 : 0 ≤ (x13_1 : Int) := of_decide_eq_true (by first | (with_reducible assumption) | assumption)
                  have q108 : x13_1 < (l1.length : Int) := of_decide_eq_true (by first | (with_reducible assumption) | assumption)
                  obtain ⟨ad108, e108, hx108_0⟩ := Kd.at_string HR1.out x13_1 p108 q108
                  cases e108
                  replace p108 := eq_true p108
                  replace q108 := eq_true q108
                  go_wp2
                  repeat (go_quiet (fail); try go_wp2)
                  go_ret
                  exact ⟨by first | rfl | (simp; done) | (simp [*]; done), by repeat (first | exact Drawn0.refl _ | apply Drawn0.step)⟩
              · rw [if_neg c7] at H
                exact absurd H (by simp)
            · rw [if_neg c6] at H
              exact absurd H (by simp)
          · rw [if_neg c5] at H
            exact absurd H (by simp)
        · rw [if_neg c4] at H
          have c4b0 : decide (x13_1 < (l0.length : Int)) = false := decide_eq_false c4
          clear c4
          obtain rfl := Option.some.inj H
          go_wp2
          repeat (go_quiet (fail); try go_wp2)
          go_ret
          exact ⟨by first | rfl | (simp; done) | (simp [*]; done), by repeat (first | exact Drawn0.refl _ | apply Drawn0.step)⟩
  · rw [if_neg c3] at H
    have c3b0 : ((l0.length : Int) == (l1.length : Int)) = false := beq_eq_false_iff_ne.mpr c3
    have c3b1 : ((l0.length : Int) != (l1.length : Int)) = true := bne_iff_ne.mpr c3
    have c3b2 : (l0.length == l1.length) = false := by first | simpa using c3 | (simp at c3 ⊢; omega)
    obtain rfl := Option.some.inj H
    go_enter Try.func9, Try.ntmps9
    go_wp2
    repeat (go_quiet (fail); try go_wp2)
    go_ret
    exact ⟨by first | rfl | (simp; done) | (simp [*]; done), by repeat (first | exact Drawn0.refl _ | apply Drawn0.step)⟩

end Go.Proofs.Ytopgcofloldedaa.Pa
