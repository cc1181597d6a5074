/-
  This repo's own words beside the printer's: a scope with several labels; small facts.
-/
import Derived.ScopeJumps
import Derived.WalkMore
import Derived.Below
import Derived.Test.YtjokedpaidmjoaaGreatDoorProg
import Derived.FnData
import Derived.Lib.LaidTab
import Derived.Lib.ItoaNum
namespace Go.Proofs.YtjokedpaidmjoaaGreatDoor
open Go.RowKit

/-- As Q; by a goto to a label l: J l. -/
def ExitJumps (J : Nat → Act → World → Prop) (Q : Exit → Act → World → Prop) : Exit → Act → World → Prop
  | .goto l, a, w => J l a w
  | e, a, w => Q e a w
theorem ExitJumps_ret {J : Nat → Act → World → Prop} {Q : Exit → Act → World → Prop} {a : Act} {w : World} : ExitJumps J Q .ret a w = Q .ret a w := rfl
theorem ExitJumps_normal {J : Nat → Act → World → Prop} {Q : Exit → Act → World → Prop} {a : Act} {w : World} : ExitJumps J Q .normal a w = Q .normal a w := rfl

/-- A scope in which the run jumps to labels: what holds at each jump, under a number that every pass lowers. -/
theorem wp_scope_labels {P : Program} {a : Act} {w : World} {Q : Exit → Act → World → Prop} {c : Code} (J : Nat → Nat → Act → World → Prop)
    (first : c.wp P (ExitJumps (fun l a w => ∃ n, J l n a w) Q) a w)
    (pass : ∀ n l a w, J l n a w → ∃ rest, findLabel c l = some rest ∧ rest.wp P (ExitJumps (fun l' a' w' => ∃ n', n' < n ∧ J l' n' a' w') Q) a w) : (Code.scope c).wp P Q a w := by
  intro b k cs
  have key : ∀ n l a w, J l n a w → ∃ rest, findLabel c l = some rest ∧ ∃ e a' w', Q e a' w' ∧ Arrives P (lone (b.at a (.code rest :: .inScope c :: k)) cs w) b k cs e a' w' := by
    intro n
    induction n using Nat.strongRecOn with
    | _ n ih =>
      intro l a w hJ
      obtain ⟨rest, hf, hwp⟩ := pass n l a w hJ
      refine ⟨rest, hf, ?_⟩
      obtain ⟨e, a₁, w₁, hq, harr⟩ := hwp b (.inScope c :: k) cs
      cases e with
      | normal => exact ⟨.normal, a₁, w₁, hq, Steps.trans harr (.one step_inScope)⟩
      | exit id => exact ⟨.exit id, a₁, w₁, hq, fun k' hk => harr k' (by simp [exitTo, hk])⟩
      | goto l' =>
        obtain ⟨n', hlt, hJ'⟩ := hq
        obtain ⟨rest', hf', e₂, a₂, w₂, hq₂, harr₂⟩ := ih n' hlt l' a₁ w₁ hJ'
        exact ⟨e₂, a₂, w₂, hq₂, .of_steps (harr _ (by simp [gotoIn, hf'])) harr₂⟩
      | ret => exact ⟨_, a₁, w₁, hq, harr⟩
      | panic ch => exact ⟨_, a₁, w₁, hq, harr⟩
      | outgrown => exact ⟨_, a₁, w₁, hq, harr⟩
  obtain ⟨e, a₁, w₁, hq, harr⟩ := first b (.inScope c :: k) cs
  cases e with
  | normal => exact ⟨.normal, a₁, w₁, hq, .head step_scope (Steps.trans harr (.one step_inScope))⟩
  | exit id => exact ⟨.exit id, a₁, w₁, hq, fun k' hk => .head step_scope (harr k' (by simp [exitTo, hk]))⟩
  | goto l' =>
    obtain ⟨n', hJ'⟩ := hq
    obtain ⟨rest', hf', e₂, a₂, w₂, hq₂, harr₂⟩ := key n' l' a₁ w₁ hJ'
    exact ⟨e₂, a₂, w₂, hq₂, .of_steps (.head step_scope (harr _ (by simp [gotoIn, hf']))) harr₂⟩
  | ret => exact ⟨_, a₁, w₁, hq, .of_steps (.one step_scope) harr⟩
  | panic ch => exact ⟨_, a₁, w₁, hq, .of_steps (.one step_scope) harr⟩
  | outgrown => exact ⟨_, a₁, w₁, hq, .of_steps (.one step_scope) harr⟩

/-- A scope that comes to a label, at which the relation holds then: one goal for what stands ahead, one for the passes. -/
theorem wp_scope_at {P : Program} {a : Act} {w : World} {Q : Exit → Act → World → Prop} {l0 : Nat} {c1 b0 : Code} (J : Nat → Nat → Act → World → Prop)
    (hl : findLabel (.seq c1 (.seq (.label l0) b0)) l0 = some (.seq .skip b0))
    (h0 : c1.wp P (Exit.then (fun a w => ∃ n, J l0 n a w) (fun _ _ _ => False)) a w)
    (pass : ∀ n l a w, J l n a w → ∃ b, findLabel (.seq c1 (.seq (.label l0) b0)) l = some (.seq .skip b) ∧ b.wp P (ExitJumps (fun l' a' w' => ∃ n', n' < n ∧ J l' n' a' w') Q) a w) :
    (Code.scope (.seq c1 (.seq (.label l0) b0))).wp P Q a w := by
  refine wp_scope_labels J ?_ ?_
  · refine wp_seq (wp_mono h0 ?_)
    intro e a' w' hq
    cases e with
    | normal =>
      obtain ⟨n0, hj⟩ := hq
      obtain ⟨b, hb, hwp⟩ := pass n0 l0 a' w' hj
      have e : b = b0 := by
        rw [hl] at hb
        simp only [Option.some.injEq, Code.seq.injEq, true_and] at hb
        exact hb.symm
      subst e
      refine wp_seq (wp_label ?_)
      refine wp_mono hwp ?_
      intro e a' w' hq
      cases e with
      | goto l' => obtain ⟨n', _, hj⟩ := hq; exact ⟨n', hj⟩
      | normal => exact hq
      | exit id => exact hq
      | ret => exact hq
      | panic ch => exact hq
      | outgrown => exact hq
    | goto l => exact hq.elim
    | exit id => exact hq.elim
    | ret => exact hq.elim
    | panic ch => exact hq.elim
    | outgrown => exact hq.elim
  · intro n l a w hj
    obtain ⟨b, hb, hwp⟩ := pass n l a w hj
    exact ⟨_, hb, wp_seq (wp_skip hwp)⟩

theorem var?_below {P : Program} {B g : Nat} {W W' : World} {n : String} {cs : Array Value} (h : Below B W W') (hg : P.globalNamed n = some g) (hgB : g < B) (hv : W.var? P n = some cs) : W'.var? P n = some cs := by
  unfold World.var? at hv ⊢
  simp only [hg, Option.bind_some] at hv ⊢
  rw [h.block g hgB]
  exact hv
theorem var?_lt {P : Program} {g : Nat} {W : World} {n : String} {cs : Array Value} {c : Value} (hg : P.globalNamed n = some g) (hv : W.var? P n = some cs) (h0 : cs[0]? = some c) : g < W.heap.size := by
  have h1 := World.var?_cell hg hv 0
  rw [h0] at h1
  exact World.block_lt_of_cell? W ⟨g, 0, none⟩ h1
/-- What the library's variables hold, where a contract asks it. -/
structure GInv (w : World) : Prop where
  any : True
  rng : ∃ tp p, w.var? Tryz.prog "strconv.ErrRange" = some #[.iface tp p]
  pow : Lib.TabIs Tryz.prog w "internal/strconv.uint64pow10" .u64 Lib.pow10Tab
theorem GInv.below {w w' : World} (h : GInv w) (hb : Below w.heap.size w w') : GInv w' where
  any := trivial
  rng := by
    obtain ⟨tp, p, hv⟩ := h.rng
    have hg : Tryz.prog.globalNamed "strconv.ErrRange" = some 7 := by kernel_rfl
    exact ⟨tp, p, var?_below hb hg (var?_lt hg hv rfl) hv⟩
  pow := by
    have hg : Tryz.prog.globalNamed "internal/strconv.uint64pow10" = some 1 := by kernel_rfl
    exact var?_below hb hg (var?_lt hg h.pow rfl) h.pow

theorem isEmpty_bne (l : List UInt8) : l.isEmpty = !(l != []) := by cases l <;> rfl
theorem isEmpty_beq (l : List UInt8) : l.isEmpty = (l == []) := by cases l <;> rfl
end Go.Proofs.YtjokedpaidmjoaaGreatDoor
