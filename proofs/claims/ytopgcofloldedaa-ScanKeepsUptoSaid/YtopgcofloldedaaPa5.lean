-- Written by mk.py (this repo's program), over the kit's printer: function by function, its Lean function and its contract.
import Derived.Test.YtopgcofloldedaaPa0
import Derived.Test.YtopgcofloldedaaPa1
import Derived.Test.YtopgcofloldedaaPa2
import Derived.Test.YtopgcofloldedaaPa3
import Derived.Test.YtopgcofloldedaaPa4
namespace Go.Proofs.Ytopgcofloldedaa.Pa
open Go.RowKit Go.Proofs.YtopgcofloldedaaW.PrintWords Go.Proofs.YtopgcofloldedaaW.PrintLast Go.Proofs.YtopgcofloldedaaW.PrintMore
attribute [local go_sem] max2_int min2_int max_two min_two max_three min_three max_four min_four   -- for this text's walks alone
set_option linter.unusedVariables false
set_option linter.unusedSimpArgs false

/-! ### pylonlaw06_ScanKeeps: function 5 -/
mutual
def pylonlaw06_ScanKeeps.j0 : Nat → List Int → List Int → List ByteArray → List ByteArray → List Int → List ByteArray → Bool → Option (Bool)
  | 0, _, _, _, _, _, _, _ => none
  | k + 1, x7, x8, x9, x12, x15, x16, x79 => if x79 = true then (some false) else (pylonlaw06_ScanKeeps.l0 k x7 x8 x9 x12 x15 x16 (x7.length : Int) 0)
def pylonlaw06_ScanKeeps.l0 : Nat → List Int → List Int → List ByteArray → List ByteArray → List Int → List ByteArray → Int → Int → Option (Bool)
  | 0, _, _, _, _, _, _, _, _ => none
  | k + 1, x7, x8, x9, x12, x15, x16, x81, x82 => if x82 < x81 then (if 0 ≤ x82 then (if x82 < (x7.length : Int) then (pylonlaw06_ScanKeeps.l0 k (x7.set (x82 : Int).toNat (-1)) x8 x9 x12 x15 x16 x81 (wrap64 (x82 + 1))) else (none)) else (none)) else (pylonlaw06_ScanKeeps.l1 k x7 x8 x9 x12 x15 x16 (x9.length : Int) 0)
def pylonlaw06_ScanKeeps.l1 : Nat → List Int → List Int → List ByteArray → List ByteArray → List Int → List ByteArray → Int → Int → Option (Bool)
  | 0, _, _, _, _, _, _, _, _ => none
  | k + 1, x7, x8, x9, x12, x15, x16, x90, x91 => if x91 < x90 then (if 0 ≤ x91 then (if x91 < (x9.length : Int) then (pylonlaw06_ScanKeeps.l1 k x7 x8 (x9.set (x91 : Int).toNat (⟨#[111, 118, 101, 114]⟩ : ByteArray)) x12 x15 x16 x90 (wrap64 (x91 + 1))) else (none)) else (none)) else (pylonlaw06_ScanKeeps.l2 k x7 x8 x9 x12 x15 x16 0)
def pylonlaw06_ScanKeeps.l2 : Nat → List Int → List Int → List ByteArray → List ByteArray → List Int → List ByteArray → Int → Option (Bool)
  | 0, _, _, _, _, _, _, _ => none
  | k + 1, x7, x8, x9, x12, x15, x16, x98 => if x98 < 20 then (if x7.length < 17592186044416 then (if x9.length < 8796093022208 then (pylonlaw06_ScanKeeps.l2 k (x7 ++ [(-1)]) x8 (x9 ++ [(⟨#[111, 118, 101, 114]⟩ : ByteArray)]) x12 x15 x16 (wrap64 (x98 + 1))) else (none)) else (none)) else ((pylonref15_SameInts.f k x8 x15).bind fun t221 => (if t221 = true then ((pylonref06_SameWords.f k x12 x16).bind fun t222 => (some t222)) else (some false)))
end
def pylonlaw06_ScanKeeps.f (k : Nat) (a0 : ByteArray) (l1 : List ByteArray) : Option (Bool) := (pylonlaw06_awake.f k).bind fun t171 => (if t171 = true then ((some (([] : List ByteArray) : List ByteArray)).bind fun y172 => (if y172.length + l1.length < 8796093022208 then ((some (y172 ++ l1 : List ByteArray)).bind fun y175 => (if y175.length < 8796093022208 then ((some (y175 ++ [(⟨#[115, 112, 97, 114, 101]⟩ : ByteArray)] : List ByteArray)).bind fun y178 => (if 0 ≤ (l1.length : Int) then (if (l1.length : Int) ≤ (y178.length : Int) then ((some (y178.take ((l1.length : Int) : Int).toNat : List ByteArray)).bind fun y181 => ((scan_Columns.f k y181).bind fun t185 => ((scan_Columns.f k y181).bind fun t188 => ((scan_Words.f k a0).bind fun bt191 => ((scan_Words.f k a0).bind fun bt196 => ((pylonref06_Columns.f k l1).bind fun t201 => ((pylonref06_Words.f k a0).bind fun bt204 => ((pylonref15_SameInts.f k t185 t201).bind fun t209 => (if t209 = true then ((pylonref06_SameWords.f k bt191.1 bt204.1).bind fun t210 => (if t210 = true then (if (l1.length : Int) < (y178.length : Int) then (if (rdOf ByteArray.empty y178 (l1.length : Int)).toList = ([115, 112, 97, 114, 101] : List UInt8) then ((pylonref06_SameWords.f k y181 l1).bind fun t212 => (pylonlaw06_ScanKeeps.j0 k t185 t188 bt191.1 bt196.1 t201 bt204.1 (!t212))) else (pylonlaw06_ScanKeeps.j0 k t185 t188 bt191.1 bt196.1 t201 bt204.1 true)) else (none)) else (pylonlaw06_ScanKeeps.j0 k t185 t188 bt191.1 bt196.1 t201 bt204.1 true))) else (pylonlaw06_ScanKeeps.j0 k t185 t188 bt191.1 bt196.1 t201 bt204.1 true)))))))))) else (none)) else (none))) else (none))) else (none))) else (some false))
theorem pylonlaw06_ScanKeeps.mono_l : ∀ k, (∀ y0 y1 y2 y3 y4 y5 y6, LeO (pylonlaw06_ScanKeeps.j0 k y0 y1 y2 y3 y4 y5 y6) (pylonlaw06_ScanKeeps.j0 (k + 1) y0 y1 y2 y3 y4 y5 y6)) ∧ (∀ y0 y1 y2 y3 y4 y5 y6 y7, LeO (pylonlaw06_ScanKeeps.l0 k y0 y1 y2 y3 y4 y5 y6 y7) (pylonlaw06_ScanKeeps.l0 (k + 1) y0 y1 y2 y3 y4 y5 y6 y7)) ∧ (∀ y0 y1 y2 y3 y4 y5 y6 y7, LeO (pylonlaw06_ScanKeeps.l1 k y0 y1 y2 y3 y4 y5 y6 y7) (pylonlaw06_ScanKeeps.l1 (k + 1) y0 y1 y2 y3 y4 y5 y6 y7)) ∧ (∀ y0 y1 y2 y3 y4 y5 y6, LeO (pylonlaw06_ScanKeeps.l2 k y0 y1 y2 y3 y4 y5 y6) (pylonlaw06_ScanKeeps.l2 (k + 1) y0 y1 y2 y3 y4 y5 y6))
  | 0 => ⟨fun _ _ _ _ _ _ _ r h => by simp [pylonlaw06_ScanKeeps.j0] at h, fun _ _ _ _ _ _ _ _ r h => by simp [pylonlaw06_ScanKeeps.l0] at h, fun _ _ _ _ _ _ _ _ r h => by simp [pylonlaw06_ScanKeeps.l1] at h, fun _ _ _ _ _ _ _ r h => by simp [pylonlaw06_ScanKeeps.l2] at h⟩
  | k + 1 => by
    obtain ⟨ih0, ih1, ih2, ih3⟩ := pylonlaw06_ScanKeeps.mono_l k
    refine ⟨?_, ?_, ?_, ?_⟩
    · intro y0 y1 y2 y3 y4 y5 y6
      unfold pylonlaw06_ScanKeeps.j0
      repeat' first
      | (with_reducible exact ih0 _ _ _ _ _ _ _)
      | (with_reducible exact ih1 _ _ _ _ _ _ _ _)
      | (with_reducible exact ih2 _ _ _ _ _ _ _ _)
      | (with_reducible exact ih3 _ _ _ _ _ _ _)
      | (with_reducible exact pylonlaw06_awake.mono _)
      | (with_reducible exact pylonref06_Columns.mono _ _)
      | (with_reducible exact pylonref06_SameWords.mono _ _ _)
      | (with_reducible exact pylonref06_Words.mono _ _)
      | (with_reducible exact pylonref15_SameInts.mono _ _ _)
      | (with_reducible exact scan_Columns.mono _ _)
      | (with_reducible exact scan_Words.mono _ _)
      | (with_reducible exact LeO.refl _)
      | (with_reducible exact LeO.none _)
      | (with_reducible refine LeO.ite ?_ ?_)
      | (with_reducible refine LeO.bind ?_ (fun _ => ?_))
      | exact ih0 _ _ _ _ _ _ _
      | exact ih1 _ _ _ _ _ _ _ _
      | exact ih2 _ _ _ _ _ _ _ _
      | exact ih3 _ _ _ _ _ _ _
      | exact pylonlaw06_awake.mono _
      | exact pylonref06_Columns.mono _ _
      | exact pylonref06_SameWords.mono _ _ _
      | exact pylonref06_Words.mono _ _
      | exact pylonref15_SameInts.mono _ _ _
      | exact scan_Columns.mono _ _
      | exact scan_Words.mono _ _
      | exact LeO.none _
      | refine LeO.ite ?_ ?_
      | refine LeO.bind ?_ (fun _ => ?_)
    · intro y0 y1 y2 y3 y4 y5 y6 y7
      unfold pylonlaw06_ScanKeeps.l0
      repeat' first
      | (with_reducible exact ih0 _ _ _ _ _ _ _)
      | (with_reducible exact ih1 _ _ _ _ _ _ _ _)
      | (with_reducible exact ih2 _ _ _ _ _ _ _ _)
      | (with_reducible exact ih3 _ _ _ _ _ _ _)
      | (with_reducible exact pylonlaw06_awake.mono _)
      | (with_reducible exact pylonref06_Columns.mono _ _)
      | (with_reducible exact pylonref06_SameWords.mono _ _ _)
      | (with_reducible exact pylonref06_Words.mono _ _)
      | (with_reducible exact pylonref15_SameInts.mono _ _ _)
      | (with_reducible exact scan_Columns.mono _ _)
      | (with_reducible exact scan_Words.mono _ _)
      | (with_reducible exact LeO.refl _)
      | (with_reducible exact LeO.none _)
      | (with_reducible refine LeO.ite ?_ ?_)
      | (with_reducible refine LeO.bind ?_ (fun _ => ?_))
      | exact ih0 _ _ _ _ _ _ _
      | exact ih1 _ _ _ _ _ _ _ _
      | exact ih2 _ _ _ _ _ _ _ _
      | exact ih3 _ _ _ _ _ _ _
      | exact pylonlaw06_awake.mono _
      | exact pylonref06_Columns.mono _ _
      | exact pylonref06_SameWords.mono _ _ _
      | exact pylonref06_Words.mono _ _
      | exact pylonref15_SameInts.mono _ _ _
      | exact scan_Columns.mono _ _
      | exact scan_Words.mono _ _
      | exact LeO.none _
      | refine LeO.ite ?_ ?_
      | refine LeO.bind ?_ (fun _ => ?_)
    · intro y0 y1 y2 y3 y4 y5 y6 y7
      unfold pylonlaw06_ScanKeeps.l1
      repeat' first
      | (with_reducible exact ih0 _ _ _ _ _ _ _)
      | (with_reducible exact ih1 _ _ _ _ _ _ _ _)
      | (with_reducible exact ih2 _ _ _ _ _ _ _ _)
      | (with_reducible exact ih3 _ _ _ _ _ _ _)
      | (with_reducible exact pylonlaw06_awake.mono _)
      | (with_reducible exact pylonref06_Columns.mono _ _)
      | (with_reducible exact pylonref06_SameWords.mono _ _ _)
      | (with_reducible exact pylonref06_Words.mono _ _)
      | (with_reducible exact pylonref15_SameInts.mono _ _ _)
      | (with_reducible exact scan_Columns.mono _ _)
      | (with_reducible exact scan_Words.mono _ _)
      | (with_reducible exact LeO.refl _)
      | (with_reducible exact LeO.none _)
      | (with_reducible refine LeO.ite ?_ ?_)
      | (with_reducible refine LeO.bind ?_ (fun _ => ?_))
      | exact ih0 _ _ _ _ _ _ _
      | exact ih1 _ _ _ _ _ _ _ _
      | exact ih2 _ _ _ _ _ _ _ _
      | exact ih3 _ _ _ _ _ _ _
      | exact pylonlaw06_awake.mono _
      | exact pylonref06_Columns.mono _ _
      | exact pylonref06_SameWords.mono _ _ _
      | exact pylonref06_Words.mono _ _
      | exact pylonref15_SameInts.mono _ _ _
      | exact scan_Columns.mono _ _
      | exact scan_Words.mono _ _
      | exact LeO.none _
      | refine LeO.ite ?_ ?_
      | refine LeO.bind ?_ (fun _ => ?_)
    · intro y0 y1 y2 y3 y4 y5 y6
      unfold pylonlaw06_ScanKeeps.l2
      repeat' first
      | (with_reducible exact ih0 _ _ _ _ _ _ _)
      | (with_reducible exact ih1 _ _ _ _ _ _ _ _)
      | (with_reducible exact ih2 _ _ _ _ _ _ _ _)
      | (with_reducible exact ih3 _ _ _ _ _ _ _)
      | (with_reducible exact pylonlaw06_awake.mono _)
      | (with_reducible exact pylonref06_Columns.mono _ _)
      | (with_reducible exact pylonref06_SameWords.mono _ _ _)
      | (with_reducible exact pylonref06_Words.mono _ _)
      | (with_reducible exact pylonref15_SameInts.mono _ _ _)
      | (with_reducible exact scan_Columns.mono _ _)
      | (with_reducible exact scan_Words.mono _ _)
      | (with_reducible exact LeO.refl _)
      | (with_reducible exact LeO.none _)
      | (with_reducible refine LeO.ite ?_ ?_)
      | (with_reducible refine LeO.bind ?_ (fun _ => ?_))
      | exact ih0 _ _ _ _ _ _ _
      | exact ih1 _ _ _ _ _ _ _ _
      | exact ih2 _ _ _ _ _ _ _ _
      | exact ih3 _ _ _ _ _ _ _
      | exact pylonlaw06_awake.mono _
      | exact pylonref06_Columns.mono _ _
      | exact pylonref06_SameWords.mono _ _ _
      | exact pylonref06_Words.mono _ _
      | exact pylonref15_SameInts.mono _ _ _
      | exact scan_Columns.mono _ _
      | exact scan_Words.mono _ _
      | exact LeO.none _
      | refine LeO.ite ?_ ?_
      | refine LeO.bind ?_ (fun _ => ?_)
theorem pylonlaw06_ScanKeeps.mono : ∀ a0 a1 k, LeO (pylonlaw06_ScanKeeps.f k a0 a1) (pylonlaw06_ScanKeeps.f (k + 1) a0 a1) := by
  intro a0 a1 k
  obtain ⟨ih0, ih1, ih2, ih3⟩ := pylonlaw06_ScanKeeps.mono_l k
  unfold pylonlaw06_ScanKeeps.f
  repeat' first
      | (with_reducible exact ih0 _ _ _ _ _ _ _)
      | (with_reducible exact ih1 _ _ _ _ _ _ _ _)
      | (with_reducible exact ih2 _ _ _ _ _ _ _ _)
      | (with_reducible exact ih3 _ _ _ _ _ _ _)
      | (with_reducible exact pylonlaw06_awake.mono _)
      | (with_reducible exact pylonref06_Columns.mono _ _)
      | (with_reducible exact pylonref06_SameWords.mono _ _ _)
      | (with_reducible exact pylonref06_Words.mono _ _)
      | (with_reducible exact pylonref15_SameInts.mono _ _ _)
      | (with_reducible exact scan_Columns.mono _ _)
      | (with_reducible exact scan_Words.mono _ _)
      | (with_reducible exact LeO.refl _)
      | (with_reducible exact LeO.none _)
      | (with_reducible refine LeO.ite ?_ ?_)
      | (with_reducible refine LeO.bind ?_ (fun _ => ?_))
      | exact ih0 _ _ _ _ _ _ _
      | exact ih1 _ _ _ _ _ _ _ _
      | exact ih2 _ _ _ _ _ _ _ _
      | exact ih3 _ _ _ _ _ _ _
      | exact pylonlaw06_awake.mono _
      | exact pylonref06_Columns.mono _ _
      | exact pylonref06_SameWords.mono _ _ _
      | exact pylonref06_Words.mono _ _
      | exact pylonref15_SameInts.mono _ _ _
      | exact scan_Columns.mono _ _
      | exact scan_Words.mono _ _
      | exact LeO.none _
      | refine LeO.ite ?_ ?_
      | refine LeO.bind ?_ (fun _ => ?_)
set_option maxHeartbeats 8000000 in
set_option maxRecDepth 100000 in
theorem pylonlaw06_ScanKeeps.calls (k : Nat) (a0 : ByteArray) (A1 : Option Addr) (c1 : Nat) (l1 : List ByteArray) (r : Bool) (w : World) (hr1 : Kd.C Kd.string w A1 l1.length l1) (hc1 : l1.length ≤ c1) (h : pylonlaw06_ScanKeeps.f k a0 l1 = some r) :
    Calls Try.prog 5 #[.string a0, .slice A1 l1.length c1] w fun e w' => e = .returned (.bool r) ∧ Below w.heap.size w w' := by
  have HR1 := Aside0.mk hr1
  have HC1 := Aside0.mk hc1
  clear hr1 hc1
  have HB := Aside0.mk (Below.refl w.heap.size w)
  have H : ((pylonlaw06_awake.f k).bind fun t171 => (if t171 = true then ((some (([] : List ByteArray) : List ByteArray)).bind fun y172 => (if y172.length + l1.length < 8796093022208 then ((some (y172 ++ l1 : List ByteArray)).bind fun y175 => (if y175.length < 8796093022208 then ((some (y175 ++ [(⟨#[115, 112, 97, 114, 101]⟩ : ByteArray)] : List ByteArray)).bind fun y178 => (if 0 ≤ (l1.length : Int) then (if (l1.length : Int) ≤ (y178.length : Int) then ((some (y178.take ((l1.length : Int) : Int).toNat : List ByteArray)).bind fun y181 => ((scan_Columns.f k y181).bind fun t185 => ((scan_Columns.f k y181).bind fun t188 => ((scan_Words.f k a0).bind fun bt191 => ((scan_Words.f k a0).bind fun bt196 => ((pylonref06_Columns.f k l1).bind fun t201 => ((pylonref06_Words.f k a0).bind fun bt204 => ((pylonref15_SameInts.f k t185 t201).bind fun t209 => (if t209 = true then ((pylonref06_SameWords.f k bt191.1 bt204.1).bind fun t210 => (if t210 = true then (if (l1.length : Int) < (y178.length : Int) then (if (rdOf ByteArray.empty y178 (l1.length : Int)).toList = ([115, 112, 97, 114, 101] : List UInt8) then ((pylonref06_SameWords.f k y181 l1).bind fun t212 => (pylonlaw06_ScanKeeps.j0 k t185 t188 bt191.1 bt196.1 t201 bt204.1 (!t212))) else (pylonlaw06_ScanKeeps.j0 k t185 t188 bt191.1 bt196.1 t201 bt204.1 true)) else (none)) else (pylonlaw06_ScanKeeps.j0 k t185 t188 bt191.1 bt196.1 t201 bt204.1 true))) else (pylonlaw06_ScanKeeps.j0 k t185 t188 bt191.1 bt196.1 t201 bt204.1 true)))))))))) else (none)) else (none))) else (none))) else (none))) else (some false))) = some r := h
  clear h
  replace H := Option.bind_eq_some_iff.mp H
  obtain ⟨t171, A30, H⟩ := H
  replace H : (if t171 = true then ((some (([] : List ByteArray) : List ByteArray)).bind fun y172 => (if y172.length + l1.length < 8796093022208 then ((some (y172 ++ l1 : List ByteArray)).bind fun y175 => (if y175.length < 8796093022208 then ((some (y175 ++ [(⟨#[115, 112, 97, 114, 101]⟩ : ByteArray)] : List ByteArray)).bind fun y178 => (if 0 ≤ (l1.length : Int) then (if (l1.length : Int) ≤ (y178.length : Int) then ((some (y178.take ((l1.length : Int) : Int).toNat : List ByteArray)).bind fun y181 => ((scan_Columns.f k y181).bind fun t185 => ((scan_Columns.f k y181).bind fun t188 => ((scan_Words.f k a0).bind fun bt191 => ((scan_Words.f k a0).bind fun bt196 => ((pylonref06_Columns.f k l1).bind fun t201 => ((pylonref06_Words.f k a0).bind fun bt204 => ((pylonref15_SameInts.f k t185 t201).bind fun t209 => (if t209 = true then ((pylonref06_SameWords.f k bt191.1 bt204.1).bind fun t210 => (if t210 = true then (if (l1.length : Int) < (y178.length : Int) then (if (rdOf ByteArray.empty y178 (l1.length : Int)).toList = ([115, 112, 97, 114, 101] : List UInt8) then ((pylonref06_SameWords.f k y181 l1).bind fun t212 => (pylonlaw06_ScanKeeps.j0 k t185 t188 bt191.1 bt196.1 t201 bt204.1 (!t212))) else (pylonlaw06_ScanKeeps.j0 k t185 t188 bt191.1 bt196.1 t201 bt204.1 true)) else (none)) else (pylonlaw06_ScanKeeps.j0 k t185 t188 bt191.1 bt196.1 t201 bt204.1 true))) else (pylonlaw06_ScanKeeps.j0 k t185 t188 bt191.1 bt196.1 t201 bt204.1 true)))))))))) else (none)) else (none))) else (none))) else (none))) else (some false)) = some r := H
  have A3 := Aside0.mk A30
  clear A30
  by_cases c4 : t171 = true
  · subst c4
    have H1 : ((some (([] : List ByteArray) : List ByteArray)).bind fun y172 => (if y172.length + l1.length < 8796093022208 then ((some (y172 ++ l1 : List ByteArray)).bind fun y175 => (if y175.length < 8796093022208 then ((some (y175 ++ [(⟨#[115, 112, 97, 114, 101]⟩ : ByteArray)] : List ByteArray)).bind fun y178 => (if 0 ≤ (l1.length : Int) then (if (l1.length : Int) ≤ (y178.length : Int) then ((some (y178.take ((l1.length : Int) : Int).toNat : List ByteArray)).bind fun y181 => ((scan_Columns.f k y181).bind fun t185 => ((scan_Columns.f k y181).bind fun t188 => ((scan_Words.f k a0).bind fun bt191 => ((scan_Words.f k a0).bind fun bt196 => ((pylonref06_Columns.f k l1).bind fun t201 => ((pylonref06_Words.f k a0).bind fun bt204 => ((pylonref15_SameInts.f k t185 t201).bind fun t209 => (if t209 = true then ((pylonref06_SameWords.f k bt191.1 bt204.1).bind fun t210 => (if t210 = true then (if (l1.length : Int) < (y178.length : Int) then (if (rdOf ByteArray.empty y178 (l1.length : Int)).toList = ([115, 112, 97, 114, 101] : List UInt8) then ((pylonref06_SameWords.f k y181 l1).bind fun t212 => (pylonlaw06_ScanKeeps.j0 k t185 t188 bt191.1 bt196.1 t201 bt204.1 (!t212))) else (pylonlaw06_ScanKeeps.j0 k t185 t188 bt191.1 bt196.1 t201 bt204.1 true)) else (none)) else (pylonlaw06_ScanKeeps.j0 k t185 t188 bt191.1 bt196.1 t201 bt204.1 true))) else (pylonlaw06_ScanKeeps.j0 k t185 t188 bt191.1 bt196.1 t201 bt204.1 true)))))))))) else (none)) else (none))) else (none))) else (none))) = some r := by rw [if_pos rfl] at H; exact H
    clear H
    have H := H1
    clear H1
    obtain ⟨y172, hy172⟩ : ∃ y_ : List ByteArray, y_ = (([] : List ByteArray)) := ⟨_, rfl⟩
    replace H : (if y172.length + l1.length < 8796093022208 then ((some (y172 ++ l1 : List ByteArray)).bind fun y175 => (if y175.length < 8796093022208 then ((some (y175 ++ [(⟨#[115, 112, 97, 114, 101]⟩ : ByteArray)] : List ByteArray)).bind fun y178 => (if 0 ≤ (l1.length : Int) then (if (l1.length : Int) ≤ (y178.length : Int) then ((some (y178.take ((l1.length : Int) : Int).toNat : List ByteArray)).bind fun y181 => ((scan_Columns.f k y181).bind fun t185 => ((scan_Columns.f k y181).bind fun t188 => ((scan_Words.f k a0).bind fun bt191 => ((scan_Words.f k a0).bind fun bt196 => ((pylonref06_Columns.f k l1).bind fun t201 => ((pylonref06_Words.f k a0).bind fun bt204 => ((pylonref15_SameInts.f k t185 t201).bind fun t209 => (if t209 = true then ((pylonref06_SameWords.f k bt191.1 bt204.1).bind fun t210 => (if t210 = true then (if (l1.length : Int) < (y178.length : Int) then (if (rdOf ByteArray.empty y178 (l1.length : Int)).toList = ([115, 112, 97, 114, 101] : List UInt8) then ((pylonref06_SameWords.f k y181 l1).bind fun t212 => (pylonlaw06_ScanKeeps.j0 k t185 t188 bt191.1 bt196.1 t201 bt204.1 (!t212))) else (pylonlaw06_ScanKeeps.j0 k t185 t188 bt191.1 bt196.1 t201 bt204.1 true)) else (none)) else (pylonlaw06_ScanKeeps.j0 k t185 t188 bt191.1 bt196.1 t201 bt204.1 true))) else (pylonlaw06_ScanKeeps.j0 k t185 t188 bt191.1 bt196.1 t201 bt204.1 true)))))))))) else (none)) else (none))) else (none))) else (none)) = some r := by first | (rw [hy172]; with_reducible exact H) | (have H2_ := (Option.bind_some _ _).symm.trans H; rw [hy172]; with_reducible exact H2_) | (have H2_ := (Option.bind_some _ _).symm.trans H; with_reducible exact H2_) | with_reducible exact H | (rw [hy172]; exact H) | exact H
    have Ny172 := Aside0.mk hy172
    clear hy172
    by_cases c5 : y172.length + l1.length < 8796093022208
    · rw [if_pos c5] at H
      have LMc5 := Aside0.mk c5
      clear c5
      obtain ⟨y175, hy175⟩ : ∃ y_ : List ByteArray, y_ = (y172 ++ l1) := ⟨_, rfl⟩
      replace H : (if y175.length < 8796093022208 then ((some (y175 ++ [(⟨#[115, 112, 97, 114, 101]⟩ : ByteArray)] : List ByteArray)).bind fun y178 => (if 0 ≤ (l1.length : Int) then (if (l1.length : Int) ≤ (y178.length : Int) then ((some (y178.take ((l1.length : Int) : Int).toNat : List ByteArray)).bind fun y181 => ((scan_Columns.f k y181).bind fun t185 => ((scan_Columns.f k y181).bind fun t188 => ((scan_Words.f k a0).bind fun bt191 => ((scan_Words.f k a0).bind fun bt196 => ((pylonref06_Columns.f k l1).bind fun t201 => ((pylonref06_Words.f k a0).bind fun bt204 => ((pylonref15_SameInts.f k t185 t201).bind fun t209 => (if t209 = true then ((pylonref06_SameWords.f k bt191.1 bt204.1).bind fun t210 => (if t210 = true then (if (l1.length : Int) < (y178.length : Int) then (if (rdOf ByteArray.empty y178 (l1.length : Int)).toList = ([115, 112, 97, 114, 101] : List UInt8) then ((pylonref06_SameWords.f k y181 l1).bind fun t212 => (pylonlaw06_ScanKeeps.j0 k t185 t188 bt191.1 bt196.1 t201 bt204.1 (!t212))) else (pylonlaw06_ScanKeeps.j0 k t185 t188 bt191.1 bt196.1 t201 bt204.1 true)) else (none)) else (pylonlaw06_ScanKeeps.j0 k t185 t188 bt191.1 bt196.1 t201 bt204.1 true))) else (pylonlaw06_ScanKeeps.j0 k t185 t188 bt191.1 bt196.1 t201 bt204.1 true)))))))))) else (none)) else (none))) else (none)) = some r := by first | (rw [hy175]; with_reducible exact H) | (have H2_ := (Option.bind_some _ _).symm.trans H; rw [hy175]; with_reducible exact H2_) | (have H2_ := (Option.bind_some _ _).symm.trans H; with_reducible exact H2_) | with_reducible exact H | (rw [hy175]; exact H) | exact H
      have Ny175 := Aside0.mk hy175
      clear hy175
      by_cases c6 : y175.length < 8796093022208
      · rw [if_pos c6] at H
        have LMc6 := Aside0.mk c6
        clear c6
        obtain ⟨y178, hy178⟩ : ∃ y_ : List ByteArray, y_ = (y175 ++ [(⟨#[115, 112, 97, 114, 101]⟩ : ByteArray)]) := ⟨_, rfl⟩
        replace H : (if 0 ≤ (l1.length : Int) then (if (l1.length : Int) ≤ (y178.length : Int) then ((some (y178.take ((l1.length : Int) : Int).toNat : List ByteArray)).bind fun y181 => ((scan_Columns.f k y181).bind fun t185 => ((scan_Columns.f k y181).bind fun t188 => ((scan_Words.f k a0).bind fun bt191 => ((scan_Words.f k a0).bind fun bt196 => ((pylonref06_Columns.f k l1).bind fun t201 => ((pylonref06_Words.f k a0).bind fun bt204 => ((pylonref15_SameInts.f k t185 t201).bind fun t209 => (if t209 = true then ((pylonref06_SameWords.f k bt191.1 bt204.1).bind fun t210 => (if t210 = true then (if (l1.length : Int) < (y178.length : Int) then (if (rdOf ByteArray.empty y178 (l1.length : Int)).toList = ([115, 112, 97, 114, 101] : List UInt8) then ((pylonref06_SameWords.f k y181 l1).bind fun t212 => (pylonlaw06_ScanKeeps.j0 k t185 t188 bt191.1 bt196.1 t201 bt204.1 (!t212))) else (pylonlaw06_ScanKeeps.j0 k t185 t188 bt191.1 bt196.1 t201 bt204.1 true)) else (none)) else (pylonlaw06_ScanKeeps.j0 k t185 t188 bt191.1 bt196.1 t201 bt204.1 true))) else (pylonlaw06_ScanKeeps.j0 k t185 t188 bt191.1 bt196.1 t201 bt204.1 true)))))))))) else (none)) else (none)) = some r := by first | (rw [hy178]; with_reducible exact H) | (have H2_ := (Option.bind_some _ _).symm.trans H; rw [hy178]; with_reducible exact H2_) | (have H2_ := (Option.bind_some _ _).symm.trans H; with_reducible exact H2_) | with_reducible exact H | (rw [hy178]; exact H) | exact H
        have Ny178 := Aside0.mk hy178
        clear hy178
        by_cases c7 : 0 ≤ (l1.length : Int)
        · rw [if_pos c7] at H
          have c7b0 := eq_true c7
          have c7b1 : decide (0 ≤ (l1.length : Int)) = true := decide_eq_true c7
          clear c7
          by_cases c8 : (l1.length : Int) ≤ (y178.length : Int)
          · rw [if_pos c8] at H
            have c8b0 := eq_true c8
            have c8b1 : decide ((l1.length : Int) ≤ (y178.length : Int)) = true := decide_eq_true c8
            clear c8
            obtain ⟨y181, hy181⟩ : ∃ y_ : List ByteArray, y_ = (y178.take ((l1.length : Int) : Int).toNat) := ⟨_, rfl⟩
            replace H : ((scan_Columns.f k y181).bind fun t185 => ((scan_Columns.f k y181).bind fun t188 => ((scan_Words.f k a0).bind fun bt191 => ((scan_Words.f k a0).bind fun bt196 => ((pylonref06_Columns.f k l1).bind fun t201 => ((pylonref06_Words.f k a0).bind fun bt204 => ((pylonref15_SameInts.f k t185 t201).bind fun t209 => (if t209 = true then ((pylonref06_SameWords.f k bt191.1 bt204.1).bind fun t210 => (if t210 = true then (if (l1.length : Int) < (y178.length : Int) then (if (rdOf ByteArray.empty y178 (l1.length : Int)).toList = ([115, 112, 97, 114, 101] : List UInt8) then ((pylonref06_SameWords.f k y181 l1).bind fun t212 => (pylonlaw06_ScanKeeps.j0 k t185 t188 bt191.1 bt196.1 t201 bt204.1 (!t212))) else (pylonlaw06_ScanKeeps.j0 k t185 t188 bt191.1 bt196.1 t201 bt204.1 true)) else (none)) else (pylonlaw06_ScanKeeps.j0 k t185 t188 bt191.1 bt196.1 t201 bt204.1 true))) else (pylonlaw06_ScanKeeps.j0 k t185 t188 bt191.1 bt196.1 t201 bt204.1 true))))))))) = some r := by first | (rw [hy181]; with_reducible exact H) | (have H2_ := (Option.bind_some _ _).symm.trans H; rw [hy181]; with_reducible exact H2_) | (have H2_ := (Option.bind_some _ _).symm.trans H; with_reducible exact H2_) | with_reducible exact H | (rw [hy181]; exact H) | exact H
            have Ny181 := Aside0.mk hy181
            clear hy181
            replace H := Option.bind_eq_some_iff.mp H
            obtain ⟨t185, A90, H⟩ := H
            replace H : ((scan_Columns.f k y181).bind fun t188 => ((scan_Words.f k a0).bind fun bt191 => ((scan_Words.f k a0).bind fun bt196 => ((pylonref06_Columns.f k l1).bind fun t201 => ((pylonref06_Words.f k a0).bind fun bt204 => ((pylonref15_SameInts.f k t185 t201).bind fun t209 => (if t209 = true then ((pylonref06_SameWords.f k bt191.1 bt204.1).bind fun t210 => (if t210 = true then (if (l1.length : Int) < (y178.length : Int) then (if (rdOf ByteArray.empty y178 (l1.length : Int)).toList = ([115, 112, 97, 114, 101] : List UInt8) then ((pylonref06_SameWords.f k y181 l1).bind fun t212 => (pylonlaw06_ScanKeeps.j0 k t185 t188 bt191.1 bt196.1 t201 bt204.1 (!t212))) else (pylonlaw06_ScanKeeps.j0 k t185 t188 bt191.1 bt196.1 t201 bt204.1 true)) else (none)) else (pylonlaw06_ScanKeeps.j0 k t185 t188 bt191.1 bt196.1 t201 bt204.1 true))) else (pylonlaw06_ScanKeeps.j0 k t185 t188 bt191.1 bt196.1 t201 bt204.1 true)))))))) = some r := H
            have A9 := Aside0.mk A90
            clear A90
            replace H := Option.bind_eq_some_iff.mp H
            obtain ⟨t188, A100, H⟩ := H
            replace H : ((scan_Words.f k a0).bind fun bt191 => ((scan_Words.f k a0).bind fun bt196 => ((pylonref06_Columns.f k l1).bind fun t201 => ((pylonref06_Words.f k a0).bind fun bt204 => ((pylonref15_SameInts.f k t185 t201).bind fun t209 => (if t209 = true then ((pylonref06_SameWords.f k bt191.1 bt204.1).bind fun t210 => (if t210 = true then (if (l1.length : Int) < (y178.length : Int) then (if (rdOf ByteArray.empty y178 (l1.length : Int)).toList = ([115, 112, 97, 114, 101] : List UInt8) then ((pylonref06_SameWords.f k y181 l1).bind fun t212 => (pylonlaw06_ScanKeeps.j0 k t185 t188 bt191.1 bt196.1 t201 bt204.1 (!t212))) else (pylonlaw06_ScanKeeps.j0 k t185 t188 bt191.1 bt196.1 t201 bt204.1 true)) else (none)) else (pylonlaw06_ScanKeeps.j0 k t185 t188 bt191.1 bt196.1 t201 bt204.1 true))) else (pylonlaw06_ScanKeeps.j0 k t185 t188 bt191.1 bt196.1 t201 bt204.1 true))))))) = some r := H
            have A10 := Aside0.mk A100
            clear A100
            replace H := Option.bind_eq_some_iff.mp H
            obtain ⟨⟨t191, t192, t193⟩, A110, H⟩ := H
            replace H : ((scan_Words.f k a0).bind fun bt196 => ((pylonref06_Columns.f k l1).bind fun t201 => ((pylonref06_Words.f k a0).bind fun bt204 => ((pylonref15_SameInts.f k t185 t201).bind fun t209 => (if t209 = true then ((pylonref06_SameWords.f k t191 bt204.1).bind fun t210 => (if t210 = true then (if (l1.length : Int) < (y178.length : Int) then (if (rdOf ByteArray.empty y178 (l1.length : Int)).toList = ([115, 112, 97, 114, 101] : List UInt8) then ((pylonref06_SameWords.f k y181 l1).bind fun t212 => (pylonlaw06_ScanKeeps.j0 k t185 t188 t191 bt196.1 t201 bt204.1 (!t212))) else (pylonlaw06_ScanKeeps.j0 k t185 t188 t191 bt196.1 t201 bt204.1 true)) else (none)) else (pylonlaw06_ScanKeeps.j0 k t185 t188 t191 bt196.1 t201 bt204.1 true))) else (pylonlaw06_ScanKeeps.j0 k t185 t188 t191 bt196.1 t201 bt204.1 true)))))) = some r := H
            have A11 := Aside0.mk A110
            clear A110
            replace H := Option.bind_eq_some_iff.mp H
            obtain ⟨⟨t196, t197, t198⟩, A120, H⟩ := H
            replace H : ((pylonref06_Columns.f k l1).bind fun t201 => ((pylonref06_Words.f k a0).bind fun bt204 => ((pylonref15_SameInts.f k t185 t201).bind fun t209 => (if t209 = true then ((pylonref06_SameWords.f k t191 bt204.1).bind fun t210 => (if t210 = true then (if (l1.length : Int) < (y178.length : Int) then (if (rdOf ByteArray.empty y178 (l1.length : Int)).toList = ([115, 112, 97, 114, 101] : List UInt8) then ((pylonref06_SameWords.f k y181 l1).bind fun t212 => (pylonlaw06_ScanKeeps.j0 k t185 t188 t191 t196 t201 bt204.1 (!t212))) else (pylonlaw06_ScanKeeps.j0 k t185 t188 t191 t196 t201 bt204.1 true)) else (none)) else (pylonlaw06_ScanKeeps.j0 k t185 t188 t191 t196 t201 bt204.1 true))) else (pylonlaw06_ScanKeeps.j0 k t185 t188 t191 t196 t201 bt204.1 true))))) = some r := H
            have A12 := Aside0.mk A120
            clear A120
            replace H := Option.bind_eq_some_iff.mp H
            obtain ⟨t201, A130, H⟩ := H
            replace H : ((pylonref06_Words.f k a0).bind fun bt204 => ((pylonref15_SameInts.f k t185 t201).bind fun t209 => (if t209 = true then ((pylonref06_SameWords.f k t191 bt204.1).bind fun t210 => (if t210 = true then (if (l1.length : Int) < (y178.length : Int) then (if (rdOf ByteArray.empty y178 (l1.length : Int)).toList = ([115, 112, 97, 114, 101] : List UInt8) then ((pylonref06_SameWords.f k y181 l1).bind fun t212 => (pylonlaw06_ScanKeeps.j0 k t185 t188 t191 t196 t201 bt204.1 (!t212))) else (pylonlaw06_ScanKeeps.j0 k t185 t188 t191 t196 t201 bt204.1 true)) else (none)) else (pylonlaw06_ScanKeeps.j0 k t185 t188 t191 t196 t201 bt204.1 true))) else (pylonlaw06_ScanKeeps.j0 k t185 t188 t191 t196 t201 bt204.1 true)))) = some r := H
            have A13 := Aside0.mk A130
            clear A130
            replace H := Option.bind_eq_some_iff.mp H
            obtain ⟨⟨t204, t205, t206⟩, A140, H⟩ := H
            replace H : ((pylonref15_SameInts.f k t185 t201).bind fun t209 => (if t209 = true then ((pylonref06_SameWords.f k t191 t204).bind fun t210 => (if t210 = true then (if (l1.length : Int) < (y178.length : Int) then (if (rdOf ByteArray.empty y178 (l1.length : Int)).toList = ([115, 112, 97, 114, 101] : List UInt8) then ((pylonref06_SameWords.f k y181 l1).bind fun t212 => (pylonlaw06_ScanKeeps.j0 k t185 t188 t191 t196 t201 t204 (!t212))) else (pylonlaw06_ScanKeeps.j0 k t185 t188 t191 t196 t201 t204 true)) else (none)) else (pylonlaw06_ScanKeeps.j0 k t185 t188 t191 t196 t201 t204 true))) else (pylonlaw06_ScanKeeps.j0 k t185 t188 t191 t196 t201 t204 true))) = some r := H
            have A14 := Aside0.mk A140
            clear A140
            have HC15 := Aside0.mk H
            clear H
            go_enter Try.func5, Try.ntmps5
            go_upto_region 11 with (first | ((with_reducible refine gate_callee (f := 7) rfl ?_); refine goesL_ (some 21) rfl rfl Try.func7 (by kernel_rfl) rfl #[] rfl (by (try simp only [List.map_toArray, List.map_cons, List.map_nil]); first | done | rfl | (simp only [List.length_drop, List.length_take]; rfl)) ?_; (with_reducible refine (pylonlaw06_awake.calls k  true _ A3.out).mono ?_); rintro e w16 ⟨rfl, hb⟩; refine ⟨_, rfl, ?_⟩; have n0_ := Aside0.mk (below_step (by repeat (first | (with_reducible first | exact HB.out | apply below_alloc | apply pw_below_drewN | apply below_drew1) | exact HB.out)) hb); clear HB; have HB := n0_; clear n0_; (try clear hb); (try clear hb2); (try clear hk); (try clear hi)) | ((with_reducible refine gate_dst (N := 23) rfl ?_); (try (refine gate_guard (by rfl) ?_; dsimp only)); refine Kd.R_lit Kd.string _ 9 ?hg (N := 23) ?hd (xs := ([] : List ByteArray)) (inner := []) (ok := fun _ => True) (okp := fun _ => True) ?hr ?hp (fun _ hk => hk) trivial (Below.refl _ _) (Nat.le_refl _) (by simp) ?_; (case hd => rfl); (case hg => rfl); (case hr => first | (go_simp; done) | (go_simp; rfl)); (case hp => exact (Reps.none _ _)); intro v173 w17 ho18 hb hg_ hnew_; clear hg_ hnew_; (first | rw [← Ny172.out] at ho18 | (simp only [Int.reduceToNat] at ho18; rw [← Ny172.out] at ho18)); have n0_ := Aside0.mk (Kd.R_lower ho18 (below_size (by repeat (first | (with_reducible first | exact HB.out | apply below_alloc | apply pw_below_drewN | apply below_drew1) | exact HB.out)))); have n1_ := Aside0.mk (below_step (by repeat (first | (with_reducible first | exact HB.out | apply below_alloc | apply pw_below_drewN | apply below_drew1) | exact HB.out)) hb); clear HB; have HO174 := n0_; have HB := n1_; clear n0_ n1_; clear hb ho18) | ((with_reducible refine gate_builtin (b := .append) (xs := #[.tmp 23, .tmp 24]) rfl ?_); (try (refine gate_guard (by rfl) ?_; dsimp only)); at_builtin; refine Kd.R_append_rows Kd.string (w0 := w) w.heap.size rfl (.tmp 23) (.tmp 24) 23 9 (.string ⟨#[]⟩) 16 rfl Try.underlying23 info9 rfl (by decide) (by omega) v173 y172 l1 _ _ _ (fun _ => True) (fun _ => False) rfl rfl ?aO ?aR (fun _ _ h => h) (fun _ h => h.elim) ?aF ?aB ?aS ?aL ?_; (case aR => repeat (first | exact (Kd.C_below HR1.out HB.out) | (with_reducible refine Kd.C_alloc ?_ _) | (with_reducible refine Kd.C_drewN ?_ _) | (with_reducible refine Kd.C_drew ?_))); (case aB => exact (by repeat (first | (with_reducible first | exact HB.out | apply below_alloc | apply pw_below_drewN | apply below_drew1) | exact HB.out))); (case aF => exact (fun _ _ => trivial)); (case aO => exact (by (with_reducible repeat (first | apply Kd.R_alloc | apply Kd.R_drewN | apply Kd.R_drew)); exact HO174.out)); (case aS => exact (below_size (by repeat (first | (with_reducible first | exact HB.out | apply below_alloc | apply pw_below_drewN | apply below_drew1) | exact HB.out)))); (case aL => have := LMc5.out; omega); intro v176 w19 ho hb hg hat; rw [← Ny175.out] at ho; have n0_ := Aside0.mk (hb); have n1_ := Aside0.mk (ho); clear HB; clear HO174; have HB := n0_; have HO177 := n1_; clear n0_ n1_; clear ho hb hg hat) | ((with_reducible refine gate_builtin (b := .append) (xs := #[.tmp 25, .tmp 26]) rfl ?_); (try (refine gate_guard (by rfl) ?_; dsimp only)); at_builtin; refine Kd.R_append Kd.string (w0 := w) w.heap.size rfl (.tmp 25) (.tmp 26) 23 9 (.string ⟨#[]⟩) 16 rfl Try.underlying23 info9 rfl (by decide) (by omega) v176 y175 (⟨#[115, 112, 97, 114, 101]⟩ : ByteArray) [.string (⟨#[115, 112, 97, 114, 101]⟩ : ByteArray)] (fun _ => True) (fun _ => False) rfl rfl ?aP (fun _ hk => hk.elim) ?aF ?aO ?aB ?aS ?aL ?_; (case aP => exact rfl); (case aB => exact (by repeat (first | (with_reducible first | exact HB.out | apply below_alloc | apply pw_below_drewN | apply below_drew1) | exact HB.out))); (case aF => exact (fun _ _ => trivial)); (case aO => exact (by (with_reducible repeat (first | apply Kd.R_alloc | apply Kd.R_drewN | apply Kd.R_drew)); exact HO177.out)); (case aS => exact (below_size (by repeat (first | (with_reducible first | exact HB.out | apply below_alloc | apply pw_below_drewN | apply below_drew1) | exact HB.out)))); (case aL => have := LMc6.out; omega); intro v179 w20 ho hb hg hat; rw [← Ny178.out] at ho; have n0_ := Aside0.mk (hb); have n1_ := Aside0.mk (ho); clear HB; clear HO177; have HB := n0_; have HO180 := n1_; clear n0_ n1_; clear ho hb hg hat; obtain ⟨Ao22, co22, eo22⟩ := Kd.R_slice HO180.out; subst eo22; have q21 : ((l1.length : Int) : Int) ≤ ((y178.length : Int) : Int) := of_decide_eq_true (by first | (with_reducible assumption) | assumption); obtain ⟨i021, hi021, _, hsz21, _⟩ := info_parts info9; have hroom21 : y178.length ≤ co22 := (Kd.R_reads' HO180.out).2.1; have hC21 : Kd.C Kd.string _ Ao22 y178.length y178 := (Kd.R_reads' HO180.out).2.2; have hcut21 := cut_to (P := Try.prog) 23 9 .i64 Try.underlying23 hi021 Ao22 y178.length co22 (l1.length : Int) (of_decide_eq_true (by first | (with_reducible assumption) | assumption)) q21 hroom21; have hr21 := Kd.C_take (m := ((l1.length : Int) : Int).toNat) hC21 (by omega); have hy21 : y181.length = ((l1.length : Int) : Int).toNat := (by rw [Ny181.out, List.length_take]; omega); rw [← Ny181.out] at hr21; rw [← hy21] at hcut21; have HR184 := Aside0.mk hr21; have HC184 := Aside0.mk (show y181.length ≤ co22 from by omega); clear hr21 hC21 hroom21 hi021 hsz21; have KY21 := Aside0.mk hy21; clear hy21; have KL21 := Aside0.mk (show ((l1.length : Int) : Int).toNat ≤ y178.length from by omega); replace q21 := eq_true q21) | ((with_reducible refine gate_callee (f := 11) rfl ?_); refine goesL_ (some 33) rfl rfl Try.func11 (by kernel_rfl) rfl #[.slice Ao22 y181.length co22] rfl (by (try simp only [List.map_toArray, List.map_cons, List.map_nil]); first | done | rfl | (simp only [List.length_drop, List.length_take]; rfl)) ?_; (with_reducible refine (scan_Columns.calls k _ _ y181 t185 _ ?side1 ?side2 A9.out).mono ?_); (case side1 => repeat (first | exact (by repeat (first | (with_reducible exact HR184.out) | (with_reducible refine Kd.C_alloc ?_ _) | (with_reducible refine Kd.C_drewN ?_ _) | (with_reducible refine Kd.C_drew ?_) | exact HR184.out)) | (with_reducible refine Kd.C_alloc ?_ _) | (with_reducible refine Kd.C_drewN ?_ _) | (with_reducible refine Kd.C_drew ?_))); (case side2 => exact HC184.out); rintro e w23 ⟨v186, rfl, ho0, hb⟩; refine ⟨_, rfl, ?_⟩; have n0_ := Aside0.mk (Kd.R_below (by (with_reducible repeat (first | apply Kd.R_alloc | apply Kd.R_drewN | apply Kd.R_drew)); exact HO180.out) hb); have n1_ := Aside0.mk (Kd.R_lower ho0 (below_size (by repeat (first | (with_reducible first | exact HB.out | apply below_alloc | apply pw_below_drewN | apply below_drew1) | exact HB.out)))); have n2_ := Aside0.mk (Kd.C_below (by repeat (first | (with_reducible exact HR184.out) | (with_reducible refine Kd.C_alloc ?_ _) | (with_reducible refine Kd.C_drewN ?_ _) | (with_reducible refine Kd.C_drew ?_) | exact HR184.out)) hb); have n3_ := Aside0.mk (below_step (by repeat (first | (with_reducible first | exact HB.out | apply below_alloc | apply pw_below_drewN | apply below_drew1) | exact HB.out)) hb); clear HO180; clear HR184; clear HB; have HO180 := n0_; have HO187 := n1_; have HR184 := n2_; have HB := n3_; clear n0_ n1_ n2_ n3_; (try clear hb); (try clear hb2); (try clear hk); (try clear hi); (try clear ho0)) | ((with_reducible refine gate_callee (f := 11) rfl ?_); refine goesL_ (some 35) rfl rfl Try.func11 (by kernel_rfl) rfl #[.slice Ao22 y181.length co22] rfl (by (try simp only [List.map_toArray, List.map_cons, List.map_nil]); first | done | rfl | (simp only [List.length_drop, List.length_take]; rfl)) ?_; (with_reducible refine (scan_Columns.calls k _ _ y181 t188 _ ?side1 ?side2 A10.out).mono ?_); (case side1 => repeat (first | exact (by repeat (first | (with_reducible exact HR184.out) | (with_reducible refine Kd.C_alloc ?_ _) | (with_reducible refine Kd.C_drewN ?_ _) | (with_reducible refine Kd.C_drew ?_) | exact HR184.out)) | (with_reducible refine Kd.C_alloc ?_ _) | (with_reducible refine Kd.C_drewN ?_ _) | (with_reducible refine Kd.C_drew ?_))); (case side2 => exact HC184.out); rintro e w24 ⟨v189, rfl, ho0, hb⟩; refine ⟨_, rfl, ?_⟩; have n0_ := Aside0.mk (Kd.R_below (by (with_reducible repeat (first | apply Kd.R_alloc | apply Kd.R_drewN | apply Kd.R_drew)); exact HO180.out) hb); have n1_ := Aside0.mk (Kd.R_elder' (by (with_reducible repeat (first | apply Kd.R_alloc | apply Kd.R_drewN | apply Kd.R_drew)); exact HO187.out) (Kd.R_base ho0) hb); have n2_ := Aside0.mk (Kd.R_lower (Kd.R_new' ho0 (Kd.R_lt (by (with_reducible repeat (first | apply Kd.R_alloc | apply Kd.R_drewN | apply Kd.R_drew)); exact HO187.out))) (below_size (by repeat (first | (with_reducible first | exact HB.out | apply below_alloc | apply pw_below_drewN | apply below_drew1) | exact HB.out)))); have n3_ := Aside0.mk (Kd.C_below (by repeat (first | (with_reducible exact HR184.out) | (with_reducible refine Kd.C_alloc ?_ _) | (with_reducible refine Kd.C_drewN ?_ _) | (with_reducible refine Kd.C_drew ?_) | exact HR184.out)) hb); have n4_ := Aside0.mk (below_step (by repeat (first | (with_reducible first | exact HB.out | apply below_alloc | apply pw_below_drewN | apply below_drew1) | exact HB.out)) hb); clear HO180; clear HO187; clear HR184; clear HB; have HO180 := n0_; have HO187 := n1_; have HO190 := n2_; have HR184 := n3_; have HB := n4_; clear n0_ n1_ n2_ n3_ n4_; (try clear hb); (try clear hb2); (try clear hk); (try clear hi); (try clear ho0)) | ((with_reducible refine gate_callee (f := 8) rfl ?_); refine goesL_ (some 38) rfl rfl Try.func8 (by kernel_rfl) rfl #[.string a0] rfl (by (try simp only [List.map_toArray, List.map_cons, List.map_nil]); first | done | rfl | (simp only [List.length_drop, List.length_take]; rfl)) ?_; (with_reducible refine (scan_Words.calls k a0 t191 t192 t193 _ A11.out).mono ?_); rintro e w25 ⟨v194, rfl, ho0, hb⟩; refine ⟨_, rfl, ?_⟩; have n0_ := Aside0.mk (Kd.R_elder' (by (with_reducible repeat (first | apply Kd.R_alloc | apply Kd.R_drewN | apply Kd.R_drew)); exact HO180.out) (Kd.R_base ho0) hb); have n1_ := Aside0.mk (Kd.R_below (by (with_reducible repeat (first | apply Kd.R_alloc | apply Kd.R_drewN | apply Kd.R_drew)); exact HO187.out) hb); have n2_ := Aside0.mk (Kd.R_below (by (with_reducible repeat (first | apply Kd.R_alloc | apply Kd.R_drewN | apply Kd.R_drew)); exact HO190.out) hb); have n3_ := Aside0.mk (Kd.R_lower (Kd.R_new' ho0 (Kd.R_lt (by (with_reducible repeat (first | apply Kd.R_alloc | apply Kd.R_drewN | apply Kd.R_drew)); exact HO180.out))) (below_size (by repeat (first | (with_reducible first | exact HB.out | apply below_alloc | apply pw_below_drewN | apply below_drew1) | exact HB.out)))); have n4_ := Aside0.mk (Kd.C_below (by repeat (first | (with_reducible exact HR184.out) | (with_reducible refine Kd.C_alloc ?_ _) | (with_reducible refine Kd.C_drewN ?_ _) | (with_reducible refine Kd.C_drew ?_) | exact HR184.out)) hb); have n5_ := Aside0.mk (below_step (by repeat (first | (with_reducible first | exact HB.out | apply below_alloc | apply pw_below_drewN | apply below_drew1) | exact HB.out)) hb); clear HO180; clear HO187; clear HO190; clear HR184; clear HB; have HO180 := n0_; have HO187 := n1_; have HO190 := n2_; have HO195 := n3_; have HR184 := n4_; have HB := n5_; clear n0_ n1_ n2_ n3_ n4_ n5_; (try clear hb); (try clear hb2); (try clear hk); (try clear hi); (try clear ho0)) | ((with_reducible refine gate_callee (f := 8) rfl ?_); refine goesL_ (some 44) rfl rfl Try.func8 (by kernel_rfl) rfl #[.string a0] rfl (by (try simp only [List.map_toArray, List.map_cons, List.map_nil]); first | done | rfl | (simp only [List.length_drop, List.length_take]; rfl)) ?_; (with_reducible refine (scan_Words.calls k a0 t196 t197 t198 _ A12.out).mono ?_); rintro e w26 ⟨v199, rfl, ho0, hb⟩; refine ⟨_, rfl, ?_⟩; have n0_ := Aside0.mk (Kd.R_elder' (by (with_reducible repeat (first | apply Kd.R_alloc | apply Kd.R_drewN | apply Kd.R_drew)); exact HO180.out) (Kd.R_base ho0) hb); have n1_ := Aside0.mk (Kd.R_below (by (with_reducible repeat (first | apply Kd.R_alloc | apply Kd.R_drewN | apply Kd.R_drew)); exact HO187.out) hb); have n2_ := Aside0.mk (Kd.R_below (by (with_reducible repeat (first | apply Kd.R_alloc | apply Kd.R_drewN | apply Kd.R_drew)); exact HO190.out) hb); have n3_ := Aside0.mk (Kd.R_elder' (by (with_reducible repeat (first | apply Kd.R_alloc | apply Kd.R_drewN | apply Kd.R_drew)); exact HO195.out) (Kd.R_base ho0) hb); have n4_ := Aside0.mk (Kd.R_lower (Kd.R_new' (Kd.R_new' ho0 (Kd.R_lt (by (with_reducible repeat (first | apply Kd.R_alloc | apply Kd.R_drewN | apply Kd.R_drew)); exact HO180.out))) (Kd.R_lt (by (with_reducible repeat (first | apply Kd.R_alloc | apply Kd.R_drewN | apply Kd.R_drew)); exact HO195.out))) (below_size (by repeat (first | (with_reducible first | exact HB.out | apply below_alloc | apply pw_below_drewN | apply below_drew1) | exact HB.out)))); have n5_ := Aside0.mk (Kd.C_below (by repeat (first | (with_reducible exact HR184.out) | (with_reducible refine Kd.C_alloc ?_ _) | (with_reducible refine Kd.C_drewN ?_ _) | (with_reducible refine Kd.C_drew ?_) | exact HR184.out)) hb); have n6_ := Aside0.mk (below_step (by repeat (first | (with_reducible first | exact HB.out | apply below_alloc | apply pw_below_drewN | apply below_drew1) | exact HB.out)) hb); clear HO180; clear HO187; clear HO190; clear HO195; clear HR184; clear HB; have HO180 := n0_; have HO187 := n1_; have HO190 := n2_; have HO195 := n3_; have HO200 := n4_; have HR184 := n5_; have HB := n6_; clear n0_ n1_ n2_ n3_ n4_ n5_ n6_; (try clear hb); (try clear hb2); (try clear hk); (try clear hi); (try clear ho0)) | ((with_reducible refine gate_callee (f := 12) rfl ?_); refine goesL_ (some 49) rfl rfl Try.func12 (by kernel_rfl) rfl #[.slice A1 l1.length c1] rfl (by (try simp only [List.map_toArray, List.map_cons, List.map_nil]); first | done | rfl | (simp only [List.length_drop, List.length_take]; rfl)) ?_; (with_reducible refine (pylonref06_Columns.calls k _ _ l1 t201 _ ?side1 ?side2 A13.out).mono ?_); (case side1 => repeat (first | exact (Kd.C_below HR1.out HB.out) | (with_reducible refine Kd.C_alloc ?_ _) | (with_reducible refine Kd.C_drewN ?_ _) | (with_reducible refine Kd.C_drew ?_))); (case side2 => exact HC1.out); rintro e w27 ⟨v202, rfl, ho0, hb⟩; refine ⟨_, rfl, ?_⟩; have n0_ := Aside0.mk (Kd.R_below (by (with_reducible repeat (first | apply Kd.R_alloc | apply Kd.R_drewN | apply Kd.R_drew)); exact HO180.out) hb); have n1_ := Aside0.mk (Kd.R_elder' (by (with_reducible repeat (first | apply Kd.R_alloc | apply Kd.R_drewN | apply Kd.R_drew)); exact HO187.out) (Kd.R_base ho0) hb); have n2_ := Aside0.mk (Kd.R_elder' (by (with_reducible repeat (first | apply Kd.R_alloc | apply Kd.R_drewN | apply Kd.R_drew)); exact HO190.out) (Kd.R_base ho0) hb); have n3_ := Aside0.mk (Kd.R_below (by (with_reducible repeat (first | apply Kd.R_alloc | apply Kd.R_drewN | apply Kd.R_drew)); exact HO195.out) hb); have n4_ := Aside0.mk (Kd.R_below (by (with_reducible repeat (first | apply Kd.R_alloc | apply Kd.R_drewN | apply Kd.R_drew)); exact HO200.out) hb); have n5_ := Aside0.mk (Kd.R_lower (Kd.R_new' (Kd.R_new' ho0 (Kd.R_lt (by (with_reducible repeat (first | apply Kd.R_alloc | apply Kd.R_drewN | apply Kd.R_drew)); exact HO187.out))) (Kd.R_lt (by (with_reducible repeat (first | apply Kd.R_alloc | apply Kd.R_drewN | apply Kd.R_drew)); exact HO190.out))) (below_size (by repeat (first | (with_reducible first | exact HB.out | apply below_alloc | apply pw_below_drewN | apply below_drew1) | exact HB.out)))); have n6_ := Aside0.mk (Kd.C_below (by repeat (first | (with_reducible exact HR184.out) | (with_reducible refine Kd.C_alloc ?_ _) | (with_reducible refine Kd.C_drewN ?_ _) | (with_reducible refine Kd.C_drew ?_) | exact HR184.out)) hb); have n7_ := Aside0.mk (below_step (by repeat (first | (with_reducible first | exact HB.out | apply below_alloc | apply pw_below_drewN | apply below_drew1) | exact HB.out)) hb); clear HO180; clear HO187; clear HO190; clear HO195; clear HO200; clear HR184; clear HB; have HO180 := n0_; have HO187 := n1_; have HO190 := n2_; have HO195 := n3_; have HO200 := n4_; have HO203 := n5_; have HR184 := n6_; have HB := n7_; clear n0_ n1_ n2_ n3_ n4_ n5_ n6_ n7_; (try clear hb); (try clear hb2); (try clear hk); (try clear hi); (try clear ho0)) | ((with_reducible refine gate_callee (f := 13) rfl ?_); refine goesL_ (some 52) rfl rfl Try.func13 (by kernel_rfl) rfl #[.string a0] rfl (by (try simp only [List.map_toArray, List.map_cons, List.map_nil]); first | done | rfl | (simp only [List.length_drop, List.length_take]; rfl)) ?_; (with_reducible refine (pylonref06_Words.calls k a0 t204 t205 t206 _ A14.out).mono ?_); rintro e w28 ⟨v207, rfl, ho0, hb⟩; refine ⟨_, rfl, ?_⟩; have n0_ := Aside0.mk (Kd.R_elder' (by (with_reducible repeat (first | apply Kd.R_alloc | apply Kd.R_drewN | apply Kd.R_drew)); exact HO180.out) (Kd.R_base ho0) hb); have n1_ := Aside0.mk (Kd.R_below (by (with_reducible repeat (first | apply Kd.R_alloc | apply Kd.R_drewN | apply Kd.R_drew)); exact HO187.out) hb); have n2_ := Aside0.mk (Kd.R_below (by (with_reducible repeat (first | apply Kd.R_alloc | apply Kd.R_drewN | apply Kd.R_drew)); exact HO190.out) hb); have n3_ := Aside0.mk (Kd.R_elder' (by (with_reducible repeat (first | apply Kd.R_alloc | apply Kd.R_drewN | apply Kd.R_drew)); exact HO195.out) (Kd.R_base ho0) hb); have n4_ := Aside0.mk (Kd.R_elder' (by (with_reducible repeat (first | apply Kd.R_alloc | apply Kd.R_drewN | apply Kd.R_drew)); exact HO200.out) (Kd.R_base ho0) hb); have n5_ := Aside0.mk (Kd.R_below (by (with_reducible repeat (first | apply Kd.R_alloc | apply Kd.R_drewN | apply Kd.R_drew)); exact HO203.out) hb); have n6_ := Aside0.mk (Kd.R_lower (Kd.R_new' (Kd.R_new' (Kd.R_new' ho0 (Kd.R_lt (by (with_reducible repeat (first | apply Kd.R_alloc | apply Kd.R_drewN | apply Kd.R_drew)); exact HO180.out))) (Kd.R_lt (by (with_reducible repeat (first | apply Kd.R_alloc | apply Kd.R_drewN | apply Kd.R_drew)); exact HO195.out))) (Kd.R_lt (by (with_reducible repeat (first | apply Kd.R_alloc | apply Kd.R_drewN | apply Kd.R_drew)); exact HO200.out))) (below_size (by repeat (first | (with_reducible first | exact HB.out | apply below_alloc | apply pw_below_drewN | apply below_drew1) | exact HB.out)))); have n7_ := Aside0.mk (Kd.C_below (by repeat (first | (with_reducible exact HR184.out) | (with_reducible refine Kd.C_alloc ?_ _) | (with_reducible refine Kd.C_drewN ?_ _) | (with_reducible refine Kd.C_drew ?_) | exact HR184.out)) hb); have n8_ := Aside0.mk (below_step (by repeat (first | (with_reducible first | exact HB.out | apply below_alloc | apply pw_below_drewN | apply below_drew1) | exact HB.out)) hb); clear HO180; clear HO187; clear HO190; clear HO195; clear HO200; clear HO203; clear HR184; clear HB; have HO180 := n0_; have HO187 := n1_; have HO190 := n2_; have HO195 := n3_; have HO200 := n4_; have HO203 := n5_; have HO208 := n6_; have HR184 := n7_; have HB := n8_; clear n0_ n1_ n2_ n3_ n4_ n5_ n6_ n7_ n8_; (try clear hb); (try clear hb2); (try clear hk); (try clear hi); (try clear ho0)))
            (try simp only [Act.put, List.setIfInBounds_toArray, List.set_cons_zero, List.set_cons_succ])
            go_cut [79] (fun v79 wc => ∃ (kq : Nat) (x79_14 : Bool), v79 = .bool x79_14 ∧ Aside0 (pylonlaw06_ScanKeeps.j0 kq t185 t188 t191 t196 t201 t204 x79_14 = some r) ∧ Aside0 (kq ≤ k) ∧ Aside0 (Kd.R (Kd.int .i64) 3 wc w.heap.size (fun k_ => some k_ ≠ (v189 : Value).ownBlock ∧ some k_ ≠ (v202 : Value).ownBlock) v186 t185) ∧ Aside0 (Kd.R (Kd.int .i64) 3 wc w.heap.size (fun k_ => some k_ ≠ (v186 : Value).ownBlock ∧ some k_ ≠ (v202 : Value).ownBlock) v189 t188) ∧ Aside0 (Kd.R Kd.string 9 wc w.heap.size (fun k_ => some k_ ≠ (v199 : Value).ownBlock ∧ some k_ ≠ (v207 : Value).ownBlock) v194 t191) ∧ Aside0 (Kd.R Kd.string 9 wc w.heap.size (fun k_ => some k_ ≠ (v194 : Value).ownBlock ∧ some k_ ≠ (v207 : Value).ownBlock) v199 t196) ∧ Aside0 (Kd.R (Kd.int .i64) 3 wc w.heap.size (fun k_ => some k_ ≠ (v186 : Value).ownBlock ∧ some k_ ≠ (v189 : Value).ownBlock) v202 t201) ∧ Aside0 (Kd.R Kd.string 9 wc w.heap.size (fun k_ => some k_ ≠ (v194 : Value).ownBlock ∧ some k_ ≠ (v199 : Value).ownBlock) v207 t204) ∧ Aside0 (Kd.C Kd.string wc Ao22 y181.length y181) ∧ Aside0 (Below w.heap.size w wc))
            case first =>
              have H := HC15.out
              clear HC15
              replace H := Option.bind_eq_some_iff.mp H
              obtain ⟨t209, A290, H⟩ := H
              replace H : (if t209 = true then ((pylonref06_SameWords.f k t191 t204).bind fun t210 => (if t210 = true then (if (l1.length : Int) < (y178.length : Int) then (if (rdOf ByteArray.empty y178 (l1.length : Int)).toList = ([115, 112, 97, 114, 101] : List UInt8) then ((pylonref06_SameWords.f k y181 l1).bind fun t212 => (pylonlaw06_ScanKeeps.j0 k t185 t188 t191 t196 t201 t204 (!t212))) else (pylonlaw06_ScanKeeps.j0 k t185 t188 t191 t196 t201 t204 true)) else (none)) else (pylonlaw06_ScanKeeps.j0 k t185 t188 t191 t196 t201 t204 true))) else (pylonlaw06_ScanKeeps.j0 k t185 t188 t191 t196 t201 t204 true)) = some r := H
              have A29 := Aside0.mk A290
              clear A290
              by_cases c30 : t209 = true
              · subst c30
                have H1 : ((pylonref06_SameWords.f k t191 t204).bind fun t210 => (if t210 = true then (if (l1.length : Int) < (y178.length : Int) then (if (rdOf ByteArray.empty y178 (l1.length : Int)).toList = ([115, 112, 97, 114, 101] : List UInt8) then ((pylonref06_SameWords.f k y181 l1).bind fun t212 => (pylonlaw06_ScanKeeps.j0 k t185 t188 t191 t196 t201 t204 (!t212))) else (pylonlaw06_ScanKeeps.j0 k t185 t188 t191 t196 t201 t204 true)) else (none)) else (pylonlaw06_ScanKeeps.j0 k t185 t188 t191 t196 t201 t204 true))) = some r := by rw [if_pos rfl] at H; exact H
                clear H
                have H := H1
                clear H1
                replace H := Option.bind_eq_some_iff.mp H
                obtain ⟨t210, A310, H⟩ := H
                replace H : (if t210 = true then (if (l1.length : Int) < (y178.length : Int) then (if (rdOf ByteArray.empty y178 (l1.length : Int)).toList = ([115, 112, 97, 114, 101] : List UInt8) then ((pylonref06_SameWords.f k y181 l1).bind fun t212 => (pylonlaw06_ScanKeeps.j0 k t185 t188 t191 t196 t201 t204 (!t212))) else (pylonlaw06_ScanKeeps.j0 k t185 t188 t191 t196 t201 t204 true)) else (none)) else (pylonlaw06_ScanKeeps.j0 k t185 t188 t191 t196 t201 t204 true)) = some r := H
                have A31 := Aside0.mk A310
                clear A310
                by_cases c32 : t210 = true
                · subst c32
                  have H1 : (if (l1.length : Int) < (y178.length : Int) then (if (rdOf ByteArray.empty y178 (l1.length : Int)).toList = ([115, 112, 97, 114, 101] : List UInt8) then ((pylonref06_SameWords.f k y181 l1).bind fun t212 => (pylonlaw06_ScanKeeps.j0 k t185 t188 t191 t196 t201 t204 (!t212))) else (pylonlaw06_ScanKeeps.j0 k t185 t188 t191 t196 t201 t204 true)) else (none)) = some r := by rw [if_pos rfl] at H; exact H
                  clear H
                  have H := H1
                  clear H1
                  by_cases c33 : (l1.length : Int) < (y178.length : Int)
                  · rw [if_pos c33] at H
                    have c33b0 : decide ((l1.length : Int) < (y178.length : Int)) = true := decide_eq_true c33
                    have c33b1 : decide (l1.length < y178.length) = true := decide_eq_true (Int.ofNat_lt.mp c33)
                    clear c33
                    (first | rw [c33b0] | (simp only [i64_w, i32_w]; rw [c33b0]) | skip)
                    by_cases c34 : (rdOf ByteArray.empty y178 (l1.length : Int)).toList = ([115, 112, 97, 114, 101] : List UInt8)
                    · rw [if_pos c34] at H
                      have c34b0 : ((rdOf ByteArray.empty y178 (l1.length : Int)).toList == ([115, 112, 97, 114, 101] : List UInt8)) = true := beq_iff_eq.mpr c34
                      have c34b1 : ((rdOf ByteArray.empty y178 (l1.length : Int)).toList != ([115, 112, 97, 114, 101] : List UInt8)) = false := bne_eq_false_iff_eq.mpr c34
                      clear c34
                      replace H := Option.bind_eq_some_iff.mp H
                      obtain ⟨t212, A350, H⟩ := H
                      replace H : (pylonlaw06_ScanKeeps.j0 k t185 t188 t191 t196 t201 t204 (!t212)) = some r := H
                      have A35 := Aside0.mk A350
                      clear A350
                      have H' := Aside0.mk H
                      clear H
                      obtain ⟨Ao36, co36, eo36⟩ := Kd.R_slice HO187.out
                      subst eo36
                      obtain ⟨Ao37, co37, eo37⟩ := Kd.R_slice HO203.out
                      subst eo37
                      go_wp2_with (first | ((with_reducible refine gate_callee (f := 14) rfl ?_); refine goesL_ (some 58) rfl rfl Try.func14 (by kernel_rfl) rfl #[.slice Ao36 t185.length co36, .slice Ao37 t201.length co37] rfl (by (try simp only [List.map_toArray, List.map_cons, List.map_nil]); first | done | rfl | (simp only [List.length_drop, List.length_take]; rfl)) ?_; (with_reducible refine (pylonref15_SameInts.calls k _ _ t185 _ _ t201 true _ ?side1 ?side2 ?side3 ?side4 A29.out).mono ?_); (case side1 => repeat (first | exact (Kd.R_reads' HO187.out).2.2 | (with_reducible refine Kd.C_alloc ?_ _) | (with_reducible refine Kd.C_drewN ?_ _) | (with_reducible refine Kd.C_drew ?_))); (case side2 => exact (Kd.R_reads' HO187.out).2.1); (case side3 => repeat (first | exact (Kd.R_reads' HO203.out).2.2 | (with_reducible refine Kd.C_alloc ?_ _) | (with_reducible refine Kd.C_drewN ?_ _) | (with_reducible refine Kd.C_drew ?_))); (case side4 => exact (Kd.R_reads' HO203.out).2.1); rintro e w' ⟨rfl, ⟨nd, rfl⟩⟩; refine ⟨_, rfl, ?_⟩; obtain ⟨Ao38, co38, eo38⟩ := Kd.R_slice HO195.out; subst eo38; obtain ⟨Ao39, co39, eo39⟩ := Kd.R_slice HO208.out; subst eo39) | (go_at_call 9; (with_reducible refine (pylonref06_SameWords.calls k _ _ t191 _ _ t204 true _ ?side1 ?side2 ?side3 ?side4 A31.out).mono ?_); (case side1 => repeat (first | exact (Kd.R_reads' HO195.out).2.2 | (with_reducible refine Kd.C_alloc ?_ _) | (with_reducible refine Kd.C_drewN ?_ _) | (with_reducible refine Kd.C_drew ?_))); (case side2 => exact (Kd.R_reads' HO195.out).2.1); (case side3 => repeat (first | exact (Kd.R_reads' HO208.out).2.2 | (with_reducible refine Kd.C_alloc ?_ _) | (with_reducible refine Kd.C_drewN ?_ _) | (with_reducible refine Kd.C_drew ?_))); (case side4 => exact (Kd.R_reads' HO208.out).2.1); rintro e w' ⟨rfl, ⟨nd, rfl⟩⟩; have p211 : 0 ≤ ((l1.length : Int) : Int) := of_decide_eq_true (by first | (with_reducible assumption) | assumption); have q211 : (l1.length : Int) < (y178.length : Int) := of_decide_eq_true (by first | (with_reducible assumption) | assumption); obtain ⟨ad211, e211, hx211_0⟩ := Kd.at_string (Kd.R_reads' HO180.out).2.2 (l1.length : Int) p211 q211; cases e211; (try simp only [Go.IntWalk.toNatUp] at hx211_0); replace p211 := eq_true p211; replace q211 := eq_true q211) | (go_at_call 9; (with_reducible refine (pylonref06_SameWords.calls k _ _ y181 _ _ l1 t212 _ ?side1 ?side2 ?side3 ?side4 A35.out).mono ?_); (case side1 => repeat (first | exact (by repeat (first | (with_reducible exact HR184.out) | (with_reducible refine Kd.C_alloc ?_ _) | (with_reducible refine Kd.C_drewN ?_ _) | (with_reducible refine Kd.C_drew ?_) | exact HR184.out)) | (with_reducible refine Kd.C_alloc ?_ _) | (with_reducible refine Kd.C_drewN ?_ _) | (with_reducible refine Kd.C_drew ?_))); (case side2 => exact HC184.out); (case side3 => repeat (first | exact (Kd.C_below HR1.out (by repeat (first | (with_reducible first | exact HB.out | apply below_alloc | apply pw_below_drewN | apply below_drew1) | exact HB.out))) | (with_reducible refine Kd.C_alloc ?_ _) | (with_reducible refine Kd.C_drewN ?_ _) | (with_reducible refine Kd.C_drew ?_))); (case side4 => exact HC1.out); rintro e w' ⟨rfl, ⟨nd, rfl⟩⟩))
                      go_meet
                      case rel => exact ⟨_, (!t212), (by first | rfl | (simp; done) | (simp [*]; done) | (simp [isEmpty_bne]; done) | (simp [isEmpty_beq]; done)), H', ⟨by first | omega | exact Nat.le_refl _⟩, ⟨by (with_reducible repeat (first | apply Kd.R_alloc | apply Kd.R_drewN | apply Kd.R_drew)); exact Kd.R_mono HO187.out (fun _ hk => ⟨hk.1.2, hk.2⟩)⟩, ⟨by (with_reducible repeat (first | apply Kd.R_alloc | apply Kd.R_drewN | apply Kd.R_drew)); exact Kd.R_mono HO190.out (fun _ hk => ⟨hk.1.2, hk.2⟩)⟩, ⟨by (with_reducible repeat (first | apply Kd.R_alloc | apply Kd.R_drewN | apply Kd.R_drew)); exact Kd.R_mono HO195.out (fun _ hk => ⟨hk.1.2, hk.2⟩)⟩, ⟨by (with_reducible repeat (first | apply Kd.R_alloc | apply Kd.R_drewN | apply Kd.R_drew)); exact Kd.R_mono HO200.out (fun _ hk => ⟨hk.1.2, hk.2⟩)⟩, ⟨by (with_reducible repeat (first | apply Kd.R_alloc | apply Kd.R_drewN | apply Kd.R_drew)); exact Kd.R_mono HO203.out (fun _ hk => ⟨hk.1.2, hk.2⟩)⟩, ⟨by (with_reducible repeat (first | apply Kd.R_alloc | apply Kd.R_drewN | apply Kd.R_drew)); exact Kd.R_mono HO208.out (fun _ hk => ⟨hk.1.2, hk.2⟩)⟩, ⟨by repeat (first | (with_reducible exact HR184.out) | (with_reducible refine Kd.C_alloc ?_ _) | (with_reducible refine Kd.C_drewN ?_ _) | (with_reducible refine Kd.C_drew ?_) | exact HR184.out)⟩, ⟨by repeat (first | (with_reducible first | exact HB.out | apply below_alloc | apply pw_below_drewN | apply below_drew1) | exact HB.out)⟩⟩
                    · rw [if_neg c34] at H
                      have c34b0 : ((rdOf ByteArray.empty y178 (l1.length : Int)).toList == ([115, 112, 97, 114, 101] : List UInt8)) = false := beq_eq_false_iff_ne.mpr c34
                      have c34b1 : ((rdOf ByteArray.empty y178 (l1.length : Int)).toList != ([115, 112, 97, 114, 101] : List UInt8)) = true := bne_iff_ne.mpr c34
                      have H' := Aside0.mk H
                      clear H
                      obtain ⟨Ao40, co40, eo40⟩ := Kd.R_slice HO187.out
                      subst eo40
                      obtain ⟨Ao41, co41, eo41⟩ := Kd.R_slice HO203.out
                      subst eo41
                      go_wp2_with (first | ((with_reducible refine gate_callee (f := 14) rfl ?_); refine goesL_ (some 58) rfl rfl Try.func14 (by kernel_rfl) rfl #[.slice Ao40 t185.length co40, .slice Ao41 t201.length co41] rfl (by (try simp only [List.map_toArray, List.map_cons, List.map_nil]); first | done | rfl | (simp only [List.length_drop, List.length_take]; rfl)) ?_; (with_reducible refine (pylonref15_SameInts.calls k _ _ t185 _ _ t201 true _ ?side1 ?side2 ?side3 ?side4 A29.out).mono ?_); (case side1 => repeat (first | exact (Kd.R_reads' HO187.out).2.2 | (with_reducible refine Kd.C_alloc ?_ _) | (with_reducible refine Kd.C_drewN ?_ _) | (with_reducible refine Kd.C_drew ?_))); (case side2 => exact (Kd.R_reads' HO187.out).2.1); (case side3 => repeat (first | exact (Kd.R_reads' HO203.out).2.2 | (with_reducible refine Kd.C_alloc ?_ _) | (with_reducible refine Kd.C_drewN ?_ _) | (with_reducible refine Kd.C_drew ?_))); (case side4 => exact (Kd.R_reads' HO203.out).2.1); rintro e w' ⟨rfl, ⟨nd, rfl⟩⟩; refine ⟨_, rfl, ?_⟩; obtain ⟨Ao42, co42, eo42⟩ := Kd.R_slice HO195.out; subst eo42; obtain ⟨Ao43, co43, eo43⟩ := Kd.R_slice HO208.out; subst eo43) | (go_at_call 9; (with_reducible refine (pylonref06_SameWords.calls k _ _ t191 _ _ t204 true _ ?side1 ?side2 ?side3 ?side4 A31.out).mono ?_); (case side1 => repeat (first | exact (Kd.R_reads' HO195.out).2.2 | (with_reducible refine Kd.C_alloc ?_ _) | (with_reducible refine Kd.C_drewN ?_ _) | (with_reducible refine Kd.C_drew ?_))); (case side2 => exact (Kd.R_reads' HO195.out).2.1); (case side3 => repeat (first | exact (Kd.R_reads' HO208.out).2.2 | (with_reducible refine Kd.C_alloc ?_ _) | (with_reducible refine Kd.C_drewN ?_ _) | (with_reducible refine Kd.C_drew ?_))); (case side4 => exact (Kd.R_reads' HO208.out).2.1); rintro e w' ⟨rfl, ⟨nd, rfl⟩⟩; have p211 : 0 ≤ ((l1.length : Int) : Int) := of_decide_eq_true (by first | (with_reducible assumption) | assumption); have q211 : (l1.length : Int) < (y178.length : Int) := of_decide_eq_true (by first | (with_reducible assumption) | assumption); obtain ⟨ad211, e211, hx211_0⟩ := Kd.at_string (Kd.R_reads' HO180.out).2.2 (l1.length : Int) p211 q211; cases e211; (try simp only [Go.IntWalk.toNatUp] at hx211_0); replace p211 := eq_true p211; replace q211 := eq_true q211))
                      go_meet
                      case rel => exact ⟨_, (true), (by first | rfl | (simp; done) | (simp [*]; done) | (simp [isEmpty_bne]; done) | (simp [isEmpty_beq]; done)), H', ⟨by first | omega | exact Nat.le_refl _⟩, ⟨by (with_reducible repeat (first | apply Kd.R_alloc | apply Kd.R_drewN | apply Kd.R_drew)); exact Kd.R_mono HO187.out (fun _ hk => ⟨hk.1.2, hk.2⟩)⟩, ⟨by (with_reducible repeat (first | apply Kd.R_alloc | apply Kd.R_drewN | apply Kd.R_drew)); exact Kd.R_mono HO190.out (fun _ hk => ⟨hk.1.2, hk.2⟩)⟩, ⟨by (with_reducible repeat (first | apply Kd.R_alloc | apply Kd.R_drewN | apply Kd.R_drew)); exact Kd.R_mono HO195.out (fun _ hk => ⟨hk.1.2, hk.2⟩)⟩, ⟨by (with_reducible repeat (first | apply Kd.R_alloc | apply Kd.R_drewN | apply Kd.R_drew)); exact Kd.R_mono HO200.out (fun _ hk => ⟨hk.1.2, hk.2⟩)⟩, ⟨by (with_reducible repeat (first | apply Kd.R_alloc | apply Kd.R_drewN | apply Kd.R_drew)); exact Kd.R_mono HO203.out (fun _ hk => ⟨hk.1.2, hk.2⟩)⟩, ⟨by (with_reducible repeat (first | apply Kd.R_alloc | apply Kd.R_drewN | apply Kd.R_drew)); exact Kd.R_mono HO208.out (fun _ hk => ⟨hk.1.2, hk.2⟩)⟩, ⟨by repeat (first | (with_reducible exact HR184.out) | (with_reducible refine Kd.C_alloc ?_ _) | (with_reducible refine Kd.C_drewN ?_ _) | (with_reducible refine Kd.C_drew ?_) | exact HR184.out)⟩, ⟨by repeat (first | (with_reducible first | exact HB.out | apply below_alloc | apply pw_below_drewN | apply below_drew1) | exact HB.out)⟩⟩
                  · rw [if_neg c33] at H
                    exact absurd H (by simp)
                · replace c32 := Bool.eq_false_iff.mpr c32
                  subst c32
                  have H1 : (pylonlaw06_ScanKeeps.j0 k t185 t188 t191 t196 t201 t204 true) = some r := by rw [if_neg (show ¬ (false = true) by decide)] at H; exact H
                  clear H
                  have H := H1
                  clear H1
                  have H' := Aside0.mk H
                  clear H
                  obtain ⟨Ao44, co44, eo44⟩ := Kd.R_slice HO187.out
                  subst eo44
                  obtain ⟨Ao45, co45, eo45⟩ := Kd.R_slice HO203.out
                  subst eo45
                  go_wp2_with (first | ((with_reducible refine gate_callee (f := 14) rfl ?_); refine goesL_ (some 58) rfl rfl Try.func14 (by kernel_rfl) rfl #[.slice Ao44 t185.length co44, .slice Ao45 t201.length co45] rfl (by (try simp only [List.map_toArray, List.map_cons, List.map_nil]); first | done | rfl | (simp only [List.length_drop, List.length_take]; rfl)) ?_; (with_reducible refine (pylonref15_SameInts.calls k _ _ t185 _ _ t201 true _ ?side1 ?side2 ?side3 ?side4 A29.out).mono ?_); (case side1 => repeat (first | exact (Kd.R_reads' HO187.out).2.2 | (with_reducible refine Kd.C_alloc ?_ _) | (with_reducible refine Kd.C_drewN ?_ _) | (with_reducible refine Kd.C_drew ?_))); (case side2 => exact (Kd.R_reads' HO187.out).2.1); (case side3 => repeat (first | exact (Kd.R_reads' HO203.out).2.2 | (with_reducible refine Kd.C_alloc ?_ _) | (with_reducible refine Kd.C_drewN ?_ _) | (with_reducible refine Kd.C_drew ?_))); (case side4 => exact (Kd.R_reads' HO203.out).2.1); rintro e w' ⟨rfl, ⟨nd, rfl⟩⟩; refine ⟨_, rfl, ?_⟩; obtain ⟨Ao46, co46, eo46⟩ := Kd.R_slice HO195.out; subst eo46; obtain ⟨Ao47, co47, eo47⟩ := Kd.R_slice HO208.out; subst eo47) | (go_at_call 9; (with_reducible refine (pylonref06_SameWords.calls k _ _ t191 _ _ t204 false _ ?side1 ?side2 ?side3 ?side4 A31.out).mono ?_); (case side1 => repeat (first | exact (Kd.R_reads' HO195.out).2.2 | (with_reducible refine Kd.C_alloc ?_ _) | (with_reducible refine Kd.C_drewN ?_ _) | (with_reducible refine Kd.C_drew ?_))); (case side2 => exact (Kd.R_reads' HO195.out).2.1); (case side3 => repeat (first | exact (Kd.R_reads' HO208.out).2.2 | (with_reducible refine Kd.C_alloc ?_ _) | (with_reducible refine Kd.C_drewN ?_ _) | (with_reducible refine Kd.C_drew ?_))); (case side4 => exact (Kd.R_reads' HO208.out).2.1); rintro e w' ⟨rfl, ⟨nd, rfl⟩⟩))
                  go_meet
                  case rel => exact ⟨_, (true), (by first | rfl | (simp; done) | (simp [*]; done) | (simp [isEmpty_bne]; done) | (simp [isEmpty_beq]; done)), H', ⟨by first | omega | exact Nat.le_refl _⟩, ⟨by (with_reducible repeat (first | apply Kd.R_alloc | apply Kd.R_drewN | apply Kd.R_drew)); exact Kd.R_mono HO187.out (fun _ hk => ⟨hk.1.2, hk.2⟩)⟩, ⟨by (with_reducible repeat (first | apply Kd.R_alloc | apply Kd.R_drewN | apply Kd.R_drew)); exact Kd.R_mono HO190.out (fun _ hk => ⟨hk.1.2, hk.2⟩)⟩, ⟨by (with_reducible repeat (first | apply Kd.R_alloc | apply Kd.R_drewN | apply Kd.R_drew)); exact Kd.R_mono HO195.out (fun _ hk => ⟨hk.1.2, hk.2⟩)⟩, ⟨by (with_reducible repeat (first | apply Kd.R_alloc | apply Kd.R_drewN | apply Kd.R_drew)); exact Kd.R_mono HO200.out (fun _ hk => ⟨hk.1.2, hk.2⟩)⟩, ⟨by (with_reducible repeat (first | apply Kd.R_alloc | apply Kd.R_drewN | apply Kd.R_drew)); exact Kd.R_mono HO203.out (fun _ hk => ⟨hk.1.2, hk.2⟩)⟩, ⟨by (with_reducible repeat (first | apply Kd.R_alloc | apply Kd.R_drewN | apply Kd.R_drew)); exact Kd.R_mono HO208.out (fun _ hk => ⟨hk.1.2, hk.2⟩)⟩, ⟨by repeat (first | (with_reducible exact HR184.out) | (with_reducible refine Kd.C_alloc ?_ _) | (with_reducible refine Kd.C_drewN ?_ _) | (with_reducible refine Kd.C_drew ?_) | exact HR184.out)⟩, ⟨by repeat (first | (with_reducible first | exact HB.out | apply below_alloc | apply pw_below_drewN | apply below_drew1) | exact HB.out)⟩⟩
              · replace c30 := Bool.eq_false_iff.mpr c30
                subst c30
                have H1 : (pylonlaw06_ScanKeeps.j0 k t185 t188 t191 t196 t201 t204 true) = some r := by rw [if_neg (show ¬ (false = true) by decide)] at H; exact H
                clear H
                have H := H1
                clear H1
                have H' := Aside0.mk H
                clear H
                obtain ⟨Ao48, co48, eo48⟩ := Kd.R_slice HO187.out
                subst eo48
                obtain ⟨Ao49, co49, eo49⟩ := Kd.R_slice HO203.out
                subst eo49
                go_wp2_with (first | ((with_reducible refine gate_callee (f := 14) rfl ?_); refine goesL_ (some 58) rfl rfl Try.func14 (by kernel_rfl) rfl #[.slice Ao48 t185.length co48, .slice Ao49 t201.length co49] rfl (by (try simp only [List.map_toArray, List.map_cons, List.map_nil]); first | done | rfl | (simp only [List.length_drop, List.length_take]; rfl)) ?_; (with_reducible refine (pylonref15_SameInts.calls k _ _ t185 _ _ t201 false _ ?side1 ?side2 ?side3 ?side4 A29.out).mono ?_); (case side1 => repeat (first | exact (Kd.R_reads' HO187.out).2.2 | (with_reducible refine Kd.C_alloc ?_ _) | (with_reducible refine Kd.C_drewN ?_ _) | (with_reducible refine Kd.C_drew ?_))); (case side2 => exact (Kd.R_reads' HO187.out).2.1); (case side3 => repeat (first | exact (Kd.R_reads' HO203.out).2.2 | (with_reducible refine Kd.C_alloc ?_ _) | (with_reducible refine Kd.C_drewN ?_ _) | (with_reducible refine Kd.C_drew ?_))); (case side4 => exact (Kd.R_reads' HO203.out).2.1); rintro e w' ⟨rfl, ⟨nd, rfl⟩⟩; refine ⟨_, rfl, ?_⟩))
                go_meet
                case rel => exact ⟨_, (true), (by first | rfl | (simp; done) | (simp [*]; done) | (simp [isEmpty_bne]; done) | (simp [isEmpty_beq]; done)), H', ⟨by first | omega | exact Nat.le_refl _⟩, ⟨by (with_reducible repeat (first | apply Kd.R_alloc | apply Kd.R_drewN | apply Kd.R_drew)); exact Kd.R_mono HO187.out (fun _ hk => ⟨hk.1.2, hk.2⟩)⟩, ⟨by (with_reducible repeat (first | apply Kd.R_alloc | apply Kd.R_drewN | apply Kd.R_drew)); exact Kd.R_mono HO190.out (fun _ hk => ⟨hk.1.2, hk.2⟩)⟩, ⟨by (with_reducible repeat (first | apply Kd.R_alloc | apply Kd.R_drewN | apply Kd.R_drew)); exact Kd.R_mono HO195.out (fun _ hk => ⟨hk.1.2, hk.2⟩)⟩, ⟨by (with_reducible repeat (first | apply Kd.R_alloc | apply Kd.R_drewN | apply Kd.R_drew)); exact Kd.R_mono HO200.out (fun _ hk => ⟨hk.1.2, hk.2⟩)⟩, ⟨by (with_reducible repeat (first | apply Kd.R_alloc | apply Kd.R_drewN | apply Kd.R_drew)); exact Kd.R_mono HO203.out (fun _ hk => ⟨hk.1.2, hk.2⟩)⟩, ⟨by (with_reducible repeat (first | apply Kd.R_alloc | apply Kd.R_drewN | apply Kd.R_drew)); exact Kd.R_mono HO208.out (fun _ hk => ⟨hk.1.2, hk.2⟩)⟩, ⟨by repeat (first | (with_reducible exact HR184.out) | (with_reducible refine Kd.C_alloc ?_ _) | (with_reducible refine Kd.C_drewN ?_ _) | (with_reducible refine Kd.C_drew ?_) | exact HR184.out)⟩, ⟨by repeat (first | (with_reducible first | exact HB.out | apply below_alloc | apply pw_below_drewN | apply below_drew1) | exact HB.out)⟩⟩
            case rest =>
              clear HC15
              try clear c1
              try clear p2
              try clear q2
              try clear hx2
              try clear c3
              try clear c4
              try clear c5
              try clear c6
              try clear c7
              try clear c7b0
              try clear c7b1
              try clear c8
              try clear c8b0
              try clear c8b1
              try clear c11
              try clear c12
              try clear c13
              try clear c14
              try clear p21
              try clear q21
              try clear hx21
              try clear c30
              try clear c32
              try clear c33
              try clear c33b0
              try clear c33b1
              try clear c34
              try clear c34b0
              try clear c34b1
              try clear hx211_0
              try clear p211
              try clear q21
              try clear q211
              obtain ⟨kq, x79_14, rfl, HA, HJ14, HO_7, HO_8, HO_9, HO_12, HO_15, HO_16, HR184, HB⟩ := hcut
              cases kq with
              | zero => exact absurd HA.out (by simp [pylonlaw06_ScanKeeps.j0])
              | succ kj14 =>
                have H := HA.out
                clear HA
                simp only [pylonlaw06_ScanKeeps.j0] at H
                by_cases c50 : x79_14 = true
                · subst c50
                  have H1 : (some false) = some r := by rw [if_pos rfl] at H; exact H
                  clear H
                  have H := H1
                  clear H1
                  obtain rfl := Option.some.inj H
                  go_wp2
                  go_ret
                  exact ⟨by first | rfl | (simp [errW_none, errW_some] <;> rfl) | (simp [*, errW_none, errW_some] <;> rfl), by repeat (first | (with_reducible first | exact HB.out | apply below_alloc | apply pw_below_drewN | apply below_drew1) | exact HB.out)⟩
                · replace c50 := Bool.eq_false_iff.mpr c50
                  subst c50
                  have H1 : (pylonlaw06_ScanKeeps.l0 kj14 t185 t188 t191 t196 t201 t204 (t185.length : Int) 0) = some r := by rw [if_neg (show ¬ (false = true) by decide)] at H; exact H
                  clear H
                  have H := H1
                  clear H1
                  have H' := Aside0.mk H
                  clear H
                  obtain ⟨Ao51, co51, eo51⟩ := Kd.R_slice HO_7.out
                  subst eo51
                  go_wp2
                  go_loopg [82] kj14 (fun kq v82 w' => ∃ (x7_2 : List Int) (x82_2 : Int), v82 = .int .i64 x82_2 ∧ Aside0 (pylonlaw06_ScanKeeps.l0 kq x7_2 t188 t191 t196 t201 t204 (t185.length : Int) x82_2 = some r) ∧ Aside0 (kq ≤ kj14) ∧ Aside0 (Kd.R (Kd.int .i64) 3 w' w.heap.size (fun k_ => some k_ ≠ (v189 : Value).ownBlock ∧ some k_ ≠ (v202 : Value).ownBlock) (.slice Ao51 t185.length co51) x7_2) ∧ Aside0 (Kd.R (Kd.int .i64) 3 w' w.heap.size (fun k_ => some k_ ≠ ((.slice Ao51 t185.length co51) : Value).ownBlock ∧ some k_ ≠ (v202 : Value).ownBlock) v189 t188) ∧ Aside0 (Kd.R Kd.string 9 w' w.heap.size (fun k_ => some k_ ≠ (v199 : Value).ownBlock ∧ some k_ ≠ (v207 : Value).ownBlock) v194 t191) ∧ Aside0 (Kd.R Kd.string 9 w' w.heap.size (fun k_ => some k_ ≠ (v194 : Value).ownBlock ∧ some k_ ≠ (v207 : Value).ownBlock) v199 t196) ∧ Aside0 (Kd.R (Kd.int .i64) 3 w' w.heap.size (fun k_ => some k_ ≠ ((.slice Ao51 t185.length co51) : Value).ownBlock ∧ some k_ ≠ (v189 : Value).ownBlock) v202 t201) ∧ Aside0 (Kd.R Kd.string 9 w' w.heap.size (fun k_ => some k_ ≠ (v194 : Value).ownBlock ∧ some k_ ≠ (v199 : Value).ownBlock) v207 t204) ∧ Aside0 (Below w.heap.size w w'))
                  case atStart => exact ⟨(t185), (0), (by first | rfl | (simp; done) | (simp [*]; done) | (simp [isEmpty_bne]; done) | (simp [isEmpty_beq]; done)), H', ⟨Nat.le_refl _⟩, ⟨by (with_reducible repeat (first | apply Kd.R_alloc | apply Kd.R_drewN | apply Kd.R_drew)); exact HO_7.out⟩, ⟨by (with_reducible repeat (first | apply Kd.R_alloc | apply Kd.R_drewN | apply Kd.R_drew)); exact HO_8.out⟩, ⟨by (with_reducible repeat (first | apply Kd.R_alloc | apply Kd.R_drewN | apply Kd.R_drew)); exact HO_9.out⟩, ⟨by (with_reducible repeat (first | apply Kd.R_alloc | apply Kd.R_drewN | apply Kd.R_drew)); exact HO_12.out⟩, ⟨by (with_reducible repeat (first | apply Kd.R_alloc | apply Kd.R_drewN | apply Kd.R_drew)); exact HO_15.out⟩, ⟨by (with_reducible repeat (first | apply Kd.R_alloc | apply Kd.R_drewN | apply Kd.R_drew)); exact HO_16.out⟩, ⟨by repeat (first | (with_reducible first | exact HB.out | apply below_alloc | apply pw_below_drewN | apply below_drew1) | exact HB.out)⟩⟩
                  case round =>
                    clear H'
                    try clear c1
                    try clear p2
                    try clear q2
                    try clear hx2
                    try clear c3
                    try clear c4
                    try clear c5
                    try clear c6
                    try clear c7
                    try clear c7b0
                    try clear c7b1
                    try clear c8
                    try clear c8b0
                    try clear c8b1
                    try clear c11
                    try clear c12
                    try clear c13
                    try clear c14
                    try clear p21
                    try clear q21
                    try clear hx21
                    try clear c30
                    try clear c32
                    try clear c33
                    try clear c33b0
                    try clear c33b1
                    try clear c34
                    try clear c34b0
                    try clear c34b1
                    try clear c50
                    try clear hx211_0
                    try clear p2
                    try clear p21
                    try clear p211
                    try clear q2
                    try clear q21
                    try clear q211
                    obtain ⟨x7_2, x82_2, rfl, HA, HK2, HO_7, HO_8, HO_9, HO_12, HO_15, HO_16, HB⟩ := hrel
                    have hl7_2 := (Kd.R_reads' HO_7.out).1
                    rw [hl7_2] at HO_7
                    (try simp only [hl7_2])
                    (try simp only [hl7_2] at HO_8)
                    (try simp only [hl7_2] at HO_9)
                    (try simp only [hl7_2] at HO_12)
                    (try simp only [hl7_2] at HO_15)
                    (try simp only [hl7_2] at HO_16)
                    cases gk with
                    | zero => exact absurd HA.out (by simp [pylonlaw06_ScanKeeps.l0])
                    | succ k2 =>
                      have H := HA.out
                      clear HA
                      simp only [pylonlaw06_ScanKeeps.l0] at H
                      by_cases c52 : x82_2 < (t185.length : Int)
                      · rw [if_pos c52] at H
                        have c52b0 : decide (x82_2 < (t185.length : Int)) = true := decide_eq_true c52
                        clear c52
                        by_cases c53 : 0 ≤ x82_2
                        · rw [if_pos c53] at H
                          have c53b0 : decide (0 ≤ x82_2) = true := decide_eq_true c53
                          clear c53
                          by_cases c54 : x82_2 < (x7_2.length : Int)
                          · rw [if_pos c54] at H
                            have c54b0 : decide (x82_2 < (x7_2.length : Int)) = true := decide_eq_true c54
                            clear c54
                            obtain ⟨y213, hy213⟩ : ∃ y_ : List Int, y_ = (x7_2.set (x82_2 : Int).toNat (-1)) := ⟨_, rfl⟩
                            replace H : (pylonlaw06_ScanKeeps.l0 k2 y213 t188 t191 t196 t201 t204 (t185.length : Int) (wrap64 (x82_2 + 1))) = some r := by first | (rw [hy213]; with_reducible exact H) | (have H2_ := (Option.bind_some _ _).symm.trans H; rw [hy213]; with_reducible exact H2_) | (have H2_ := (Option.bind_some _ _).symm.trans H; with_reducible exact H2_) | with_reducible exact H | (rw [hy213]; exact H) | exact H
                            have Ny213 := Aside0.mk hy213
                            clear hy213
                            have H' := Aside0.mk H
                            clear H
                            have p55 : 0 ≤ (x82_2 : Int) := of_decide_eq_true (by first | (with_reducible assumption) | assumption)
                            have q55 : (x82_2 : Int) < ((x7_2.length : Int) : Int) := of_decide_eq_true (by first | (with_reducible assumption) | assumption)
                            obtain ⟨go55, co55, eo55, gb55, gl55, cl55, HG55⟩ := Kd.R_form HO_7.out (by omega)
                            (first | cases eo55 | (injection eo55 with ea_ en_ ec_; (first | subst ea_ | (injection ea_ with ea_; subst ea_)); subst ec_; clear en_))
                            have GB55 := Aside0.mk gb55
                            have GG55 := Aside0.mk HG55
                            clear gb55 gl55 HG55
                            obtain ⟨hx55_0, hf55_0⟩ := Kd.R_celln 0 HO_7.out (x82_2 : Int) p55 q55
                            replace p55 := eq_true p55
                            replace q55 := eq_true q55
                            have HP56 := Kd.R_putg HO_7.out (x82_2 : Int) (-1)
                            go_wp2_with (first | ((with_reducible refine gate_store (t := 3) (p := 87) rfl ?_); refine store_event (t := 3) (p := 87) (v := ?vo_w57) (w1 := (wr.setCell ⟨go55, (x82_2 : Int).toNat, none⟩ (.int .i64 (-1)))) ?hg ?ho ?hn ?hr ?_; (case ho => rfl); (case hg => rfl); (case hn => rfl); (case hr => first | (go_simp; done) | (go_simp; rfl)); intro w57 hw; have hg : wr.grownBy w57 (some go55) := (by rw [hw]; exact HP56.2); have hp_ : Kd.R (Kd.int .i64) 3 w57 w.heap.size (fun k_ => some k_ ≠ (v189 : Value).ownBlock ∧ some k_ ≠ (v202 : Value).ownBlock) (.slice (some ⟨go55, 0, none⟩) x7_2.length co51) y213 := (by rw [hw, Ny213.out]; exact HP56.1); clear HP56; have n0_ := Aside0.mk (hp_); have n1_ := Aside0.mk (Kd.R_after (v := (.slice (some ⟨go55, 0, none⟩) x7_2.length co51)) (v1 := (.slice (some ⟨go55, 0, none⟩) x7_2.length co51)) (ok := (fun k_ => some k_ ≠ (v202 : Value).ownBlock)) (by (with_reducible repeat (first | apply Kd.R_alloc | apply Kd.R_drewN | apply Kd.R_drew)); exact Kd.R_mono HO_8.out (fun _ hk => ⟨hk.2, hk.1⟩)) hg (.inl rfl)); have n2_ := Aside0.mk (Kd.R_over' (v := (.slice (some ⟨go55, 0, none⟩) x7_2.length co51)) (by (with_reducible repeat (first | apply Kd.R_alloc | apply Kd.R_drewN | apply Kd.R_drew)); exact HO_9.out) (Kd.R_typed HO_7.out) (by decide) hg); have n3_ := Aside0.mk (Kd.R_over' (v := (.slice (some ⟨go55, 0, none⟩) x7_2.length co51)) (by (with_reducible repeat (first | apply Kd.R_alloc | apply Kd.R_drewN | apply Kd.R_drew)); exact HO_12.out) (Kd.R_typed HO_7.out) (by decide) hg); have n4_ := Aside0.mk (Kd.R_after (v := (.slice (some ⟨go55, 0, none⟩) x7_2.length co51)) (v1 := (.slice (some ⟨go55, 0, none⟩) x7_2.length co51)) (ok := (fun k_ => some k_ ≠ (v189 : Value).ownBlock)) (by (with_reducible repeat (first | apply Kd.R_alloc | apply Kd.R_drewN | apply Kd.R_drew)); exact Kd.R_mono HO_15.out (fun _ hk => ⟨hk.2, hk.1⟩)) hg (.inl rfl)); have n5_ := Aside0.mk (Kd.R_over' (v := (.slice (some ⟨go55, 0, none⟩) x7_2.length co51)) (by (with_reducible repeat (first | apply Kd.R_alloc | apply Kd.R_drewN | apply Kd.R_drew)); exact HO_16.out) (Kd.R_typed HO_7.out) (by decide) hg); have n6_ := Aside0.mk ((by rw [hw]; exact below_set (HB.out) GB55.out : Below w.heap.size w w57)); clear HO_7; clear HO_8; clear HO_9; clear HO_12; clear HO_15; clear HO_16; clear HB; have HO_7 := n0_; have HO_8 := n1_; have HO_9 := n2_; have HO_12 := n3_; have HO_15 := n4_; have HO_16 := n5_; have HB := n6_; clear n0_ n1_ n2_ n3_ n4_ n5_ n6_; clear hg hw hp_))
                            (try simp only [← hl7_2])
                            go_roundg k2
                            case measure => have := HJ14.out; have := HK2.out; omega
                            case rel => exact ⟨(y213), (wrap64 (x82_2 + 1)), (by first | rfl | (simp; done) | (simp [*]; done) | (simp [isEmpty_bne]; done) | (simp [isEmpty_beq]; done)), H', ⟨by have := HJ14.out; have := HK2.out; omega⟩, ⟨by (try simp only [hl7_2]); (with_reducible repeat (first | apply Kd.R_alloc | apply Kd.R_drewN | apply Kd.R_drew)); exact HO_7.out⟩, ⟨by (try simp only [hl7_2]); (with_reducible repeat (first | apply Kd.R_alloc | apply Kd.R_drewN | apply Kd.R_drew)); exact Kd.R_mono HO_8.out (fun _ hk => ⟨hk.2, hk.1⟩)⟩, ⟨by (try simp only [hl7_2]); (with_reducible repeat (first | apply Kd.R_alloc | apply Kd.R_drewN | apply Kd.R_drew)); exact HO_9.out⟩, ⟨by (try simp only [hl7_2]); (with_reducible repeat (first | apply Kd.R_alloc | apply Kd.R_drewN | apply Kd.R_drew)); exact HO_12.out⟩, ⟨by (try simp only [hl7_2]); (with_reducible repeat (first | apply Kd.R_alloc | apply Kd.R_drewN | apply Kd.R_drew)); exact Kd.R_mono HO_15.out (fun _ hk => ⟨hk.2, hk.1⟩)⟩, ⟨by (try simp only [hl7_2]); (with_reducible repeat (first | apply Kd.R_alloc | apply Kd.R_drewN | apply Kd.R_drew)); exact HO_16.out⟩, ⟨by repeat (first | (with_reducible first | exact HB.out | apply below_alloc | apply pw_below_drewN | apply below_drew1) | exact HB.out)⟩⟩
                          · rw [if_neg c54] at H
                            exact absurd H (by simp)
                        · rw [if_neg c53] at H
                          exact absurd H (by simp)
                      · rw [if_neg c52] at H
                        have c52b0 : decide (x82_2 < (t185.length : Int)) = false := decide_eq_false c52
                        (try simp only [hl7_2] at c52b0)
                        clear c52
                        have H' := Aside0.mk H
                        clear H
                        obtain ⟨Ao58, co58, eo58⟩ := Kd.R_slice HO_9.out
                        subst eo58
                        go_wp2
                        go_loopg [91] k2 (fun kq v91 w' => ∃ (x9_3 : List ByteArray) (x91_3 : Int), v91 = .int .i64 x91_3 ∧ Aside0 (pylonlaw06_ScanKeeps.l1 kq x7_2 t188 x9_3 t196 t201 t204 (t191.length : Int) x91_3 = some r) ∧ Aside0 (kq ≤ k2) ∧ Aside0 (Kd.R (Kd.int .i64) 3 w' w.heap.size (fun k_ => some k_ ≠ (v189 : Value).ownBlock ∧ some k_ ≠ (v202 : Value).ownBlock) (.slice Ao51 x7_2.length co51) x7_2) ∧ Aside0 (Kd.R (Kd.int .i64) 3 w' w.heap.size (fun k_ => some k_ ≠ ((.slice Ao51 x7_2.length co51) : Value).ownBlock ∧ some k_ ≠ (v202 : Value).ownBlock) v189 t188) ∧ Aside0 (Kd.R Kd.string 9 w' w.heap.size (fun k_ => some k_ ≠ (v199 : Value).ownBlock ∧ some k_ ≠ (v207 : Value).ownBlock) (.slice Ao58 t191.length co58) x9_3) ∧ Aside0 (Kd.R Kd.string 9 w' w.heap.size (fun k_ => some k_ ≠ ((.slice Ao58 t191.length co58) : Value).ownBlock ∧ some k_ ≠ (v207 : Value).ownBlock) v199 t196) ∧ Aside0 (Kd.R (Kd.int .i64) 3 w' w.heap.size (fun k_ => some k_ ≠ ((.slice Ao51 x7_2.length co51) : Value).ownBlock ∧ some k_ ≠ (v189 : Value).ownBlock) v202 t201) ∧ Aside0 (Kd.R Kd.string 9 w' w.heap.size (fun k_ => some k_ ≠ ((.slice Ao58 t191.length co58) : Value).ownBlock ∧ some k_ ≠ (v199 : Value).ownBlock) v207 t204) ∧ Aside0 (Below w.heap.size w w'))
                        case atStart => exact ⟨(t191), (0), (by first | rfl | (simp; done) | (simp [*]; done) | (simp [isEmpty_bne]; done) | (simp [isEmpty_beq]; done)), H', ⟨Nat.le_refl _⟩, ⟨by (try simp only [hl7_2]); (with_reducible repeat (first | apply Kd.R_alloc | apply Kd.R_drewN | apply Kd.R_drew)); exact HO_7.out⟩, ⟨by (try simp only [hl7_2]); (with_reducible repeat (first | apply Kd.R_alloc | apply Kd.R_drewN | apply Kd.R_drew)); exact HO_8.out⟩, ⟨by (try simp only [hl7_2]); (with_reducible repeat (first | apply Kd.R_alloc | apply Kd.R_drewN | apply Kd.R_drew)); exact HO_9.out⟩, ⟨by (try simp only [hl7_2]); (with_reducible repeat (first | apply Kd.R_alloc | apply Kd.R_drewN | apply Kd.R_drew)); exact HO_12.out⟩, ⟨by (try simp only [hl7_2]); (with_reducible repeat (first | apply Kd.R_alloc | apply Kd.R_drewN | apply Kd.R_drew)); exact HO_15.out⟩, ⟨by (try simp only [hl7_2]); (with_reducible repeat (first | apply Kd.R_alloc | apply Kd.R_drewN | apply Kd.R_drew)); exact HO_16.out⟩, ⟨by repeat (first | (with_reducible first | exact HB.out | apply below_alloc | apply pw_below_drewN | apply below_drew1) | exact HB.out)⟩⟩
                        case round =>
                          clear H'
                          try clear c1
                          try clear p2
                          try clear q2
                          try clear hx2
                          try clear c3
                          try clear c4
                          try clear c5
                          try clear p5
                          try clear q5
                          try clear hx5
                          try clear hf5
                          try clear c6
                          try clear p6
                          try clear c7
                          try clear c7b0
                          try clear c7b1
                          try clear c8
                          try clear c8b0
                          try clear c8b1
                          try clear c11
                          try clear c12
                          try clear c13
                          try clear c14
                          try clear p21
                          try clear q21
                          try clear hx21
                          try clear c30
                          try clear c32
                          try clear c33
                          try clear c33b0
                          try clear c33b1
                          try clear c34
                          try clear c34b0
                          try clear c34b1
                          try clear c50
                          try clear c52
                          try clear c52b0
                          try clear c53
                          try clear c53b0
                          try clear c54
                          try clear c54b0
                          try clear p55
                          try clear q55
                          try clear hx55
                          try clear hf55
                          try clear hx211_0
                          try clear hx55_0
                          try clear p2
                          try clear p21
                          try clear p211
                          try clear p55
                          try clear q2
                          try clear q21
                          try clear q211
                          try clear q55
                          obtain ⟨x9_3, x91_3, rfl, HA, HK3, HO_7, HO_8, HO_9, HO_12, HO_15, HO_16, HB⟩ := hrel
                          have hl9_3 := (Kd.R_reads' HO_9.out).1
                          rw [hl9_3] at HO_9
                          (try simp only [hl9_3])
                          (try simp only [hl9_3] at HO_7)
                          (try simp only [hl9_3] at HO_8)
                          (try simp only [hl9_3] at HO_12)
                          (try simp only [hl9_3] at HO_15)
                          (try simp only [hl9_3] at HO_16)
                          cases gk with
                          | zero => exact absurd HA.out (by simp [pylonlaw06_ScanKeeps.l1])
                          | succ k3 =>
                            have H := HA.out
                            clear HA
                            simp only [pylonlaw06_ScanKeeps.l1] at H
                            by_cases c59 : x91_3 < (t191.length : Int)
                            · rw [if_pos c59] at H
                              have c59b0 : decide (x91_3 < (t191.length : Int)) = true := decide_eq_true c59
                              clear c59
                              by_cases c60 : 0 ≤ x91_3
                              · rw [if_pos c60] at H
                                have c60b0 : decide (0 ≤ x91_3) = true := decide_eq_true c60
                                clear c60
                                by_cases c61 : x91_3 < (x9_3.length : Int)
                                · rw [if_pos c61] at H
                                  have c61b0 : decide (x91_3 < (x9_3.length : Int)) = true := decide_eq_true c61
                                  clear c61
                                  obtain ⟨y214, hy214⟩ : ∃ y_ : List ByteArray, y_ = (x9_3.set (x91_3 : Int).toNat (⟨#[111, 118, 101, 114]⟩ : ByteArray)) := ⟨_, rfl⟩
                                  replace H : (pylonlaw06_ScanKeeps.l1 k3 x7_2 t188 y214 t196 t201 t204 (t191.length : Int) (wrap64 (x91_3 + 1))) = some r := by first | (rw [hy214]; with_reducible exact H) | (have H2_ := (Option.bind_some _ _).symm.trans H; rw [hy214]; with_reducible exact H2_) | (have H2_ := (Option.bind_some _ _).symm.trans H; with_reducible exact H2_) | with_reducible exact H | (rw [hy214]; exact H) | exact H
                                  have Ny214 := Aside0.mk hy214
                                  clear hy214
                                  have H' := Aside0.mk H
                                  clear H
                                  have p62 : 0 ≤ (x91_3 : Int) := of_decide_eq_true (by first | (with_reducible assumption) | assumption)
                                  have q62 : (x91_3 : Int) < ((x9_3.length : Int) : Int) := of_decide_eq_true (by first | (with_reducible assumption) | assumption)
                                  obtain ⟨go62, co62, eo62, gb62, gl62, cl62, HG62⟩ := Kd.R_form HO_9.out (by omega)
                                  (first | cases eo62 | (injection eo62 with ea_ en_ ec_; (first | subst ea_ | (injection ea_ with ea_; subst ea_)); subst ec_; clear en_))
                                  have GB62 := Aside0.mk gb62
                                  have GG62 := Aside0.mk HG62
                                  clear gb62 gl62 HG62
                                  obtain ⟨hx62_0, hf62_0⟩ := Kd.R_celln (⟨#[]⟩ : ByteArray) HO_9.out (x91_3 : Int) p62 q62
                                  replace p62 := eq_true p62
                                  replace q62 := eq_true q62
                                  have HP63 := Kd.R_putg HO_9.out (x91_3 : Int) (⟨#[111, 118, 101, 114]⟩ : ByteArray)
                                  go_wp2_with (first | ((with_reducible refine gate_store (t := 9) (p := 96) rfl ?_); refine store_event (t := 9) (p := 96) (v := ?vo_w64) (w1 := (wr.setCell ⟨go62, (x91_3 : Int).toNat, none⟩ (.string (⟨#[111, 118, 101, 114]⟩ : ByteArray)))) ?hg ?ho ?hn ?hr ?_; (case ho => rfl); (case hg => rfl); (case hn => rfl); (case hr => first | (go_simp; done) | (go_simp; rfl)); intro w64 hw; have hg : wr.grownBy w64 (some go62) := (by rw [hw]; exact HP63.2); have hp_ : Kd.R Kd.string 9 w64 w.heap.size (fun k_ => some k_ ≠ (v199 : Value).ownBlock ∧ some k_ ≠ (v207 : Value).ownBlock) (.slice (some ⟨go62, 0, none⟩) x9_3.length co58) y214 := (by rw [hw, Ny214.out]; exact HP63.1); clear HP63; have n0_ := Aside0.mk (Kd.R_over' (v := (.slice (some ⟨go62, 0, none⟩) x9_3.length co58)) (by (with_reducible repeat (first | apply Kd.R_alloc | apply Kd.R_drewN | apply Kd.R_drew)); exact HO_7.out) (Kd.R_typed HO_9.out) (by decide) hg); have n1_ := Aside0.mk (Kd.R_over' (v := (.slice (some ⟨go62, 0, none⟩) x9_3.length co58)) (by (with_reducible repeat (first | apply Kd.R_alloc | apply Kd.R_drewN | apply Kd.R_drew)); exact HO_8.out) (Kd.R_typed HO_9.out) (by decide) hg); have n2_ := Aside0.mk (hp_); have n3_ := Aside0.mk (Kd.R_after (v := (.slice (some ⟨go62, 0, none⟩) x9_3.length co58)) (v1 := (.slice (some ⟨go62, 0, none⟩) x9_3.length co58)) (ok := (fun k_ => some k_ ≠ (v207 : Value).ownBlock)) (by (with_reducible repeat (first | apply Kd.R_alloc | apply Kd.R_drewN | apply Kd.R_drew)); exact Kd.R_mono HO_12.out (fun _ hk => ⟨hk.2, hk.1⟩)) hg (.inl rfl)); have n4_ := Aside0.mk (Kd.R_over' (v := (.slice (some ⟨go62, 0, none⟩) x9_3.length co58)) (by (with_reducible repeat (first | apply Kd.R_alloc | apply Kd.R_drewN | apply Kd.R_drew)); exact HO_15.out) (Kd.R_typed HO_9.out) (by decide) hg); have n5_ := Aside0.mk (Kd.R_after (v := (.slice (some ⟨go62, 0, none⟩) x9_3.length co58)) (v1 := (.slice (some ⟨go62, 0, none⟩) x9_3.length co58)) (ok := (fun k_ => some k_ ≠ (v199 : Value).ownBlock)) (by (with_reducible repeat (first | apply Kd.R_alloc | apply Kd.R_drewN | apply Kd.R_drew)); exact Kd.R_mono HO_16.out (fun _ hk => ⟨hk.2, hk.1⟩)) hg (.inl rfl)); have n6_ := Aside0.mk ((by rw [hw]; exact below_set (HB.out) GB62.out : Below w.heap.size w w64)); clear HO_7; clear HO_8; clear HO_9; clear HO_12; clear HO_15; clear HO_16; clear HB; have HO_7 := n0_; have HO_8 := n1_; have HO_9 := n2_; have HO_12 := n3_; have HO_15 := n4_; have HO_16 := n5_; have HB := n6_; clear n0_ n1_ n2_ n3_ n4_ n5_ n6_; clear hg hw hp_))
                                  (try simp only [← hl9_3])
                                  go_roundg k3
                                  case measure => have := HJ14.out; have := HK2.out; have := HK3.out; omega
                                  case rel => exact ⟨(y214), (wrap64 (x91_3 + 1)), (by first | rfl | (simp; done) | (simp [*]; done) | (simp [isEmpty_bne]; done) | (simp [isEmpty_beq]; done)), H', ⟨by have := HJ14.out; have := HK2.out; have := HK3.out; omega⟩, ⟨by (try simp only [hl7_2]); (try simp only [hl9_3]); (with_reducible repeat (first | apply Kd.R_alloc | apply Kd.R_drewN | apply Kd.R_drew)); exact HO_7.out⟩, ⟨by (try simp only [hl7_2]); (try simp only [hl9_3]); (with_reducible repeat (first | apply Kd.R_alloc | apply Kd.R_drewN | apply Kd.R_drew)); exact HO_8.out⟩, ⟨by (try simp only [hl7_2]); (try simp only [hl9_3]); (with_reducible repeat (first | apply Kd.R_alloc | apply Kd.R_drewN | apply Kd.R_drew)); exact HO_9.out⟩, ⟨by (try simp only [hl7_2]); (try simp only [hl9_3]); (with_reducible repeat (first | apply Kd.R_alloc | apply Kd.R_drewN | apply Kd.R_drew)); exact Kd.R_mono HO_12.out (fun _ hk => ⟨hk.2, hk.1⟩)⟩, ⟨by (try simp only [hl7_2]); (try simp only [hl9_3]); (with_reducible repeat (first | apply Kd.R_alloc | apply Kd.R_drewN | apply Kd.R_drew)); exact HO_15.out⟩, ⟨by (try simp only [hl7_2]); (try simp only [hl9_3]); (with_reducible repeat (first | apply Kd.R_alloc | apply Kd.R_drewN | apply Kd.R_drew)); exact Kd.R_mono HO_16.out (fun _ hk => ⟨hk.2, hk.1⟩)⟩, ⟨by repeat (first | (with_reducible first | exact HB.out | apply below_alloc | apply pw_below_drewN | apply below_drew1) | exact HB.out)⟩⟩
                                · rw [if_neg c61] at H
                                  exact absurd H (by simp)
                              · rw [if_neg c60] at H
                                exact absurd H (by simp)
                            · rw [if_neg c59] at H
                              have c59b0 : decide (x91_3 < (t191.length : Int)) = false := decide_eq_false c59
                              (try simp only [hl7_2] at c59b0)
                              (try simp only [hl9_3] at c59b0)
                              clear c59
                              have H' := Aside0.mk H
                              clear H
                              go_wp2
                              go_loopg [7, 9, 98] k3 (fun kq v7 v9 v98 w' => ∃ (x7_4 : List Int) (x9_4 : List ByteArray) (x98_4 : Int), v98 = .int .i64 x98_4 ∧ Aside0 (pylonlaw06_ScanKeeps.l2 kq x7_4 t188 x9_4 t196 t201 t204 x98_4 = some r) ∧ Aside0 (kq ≤ k3) ∧ Aside0 (Kd.R (Kd.int .i64) 3 w' w.heap.size (fun k_ => some k_ ≠ (v189 : Value).ownBlock ∧ some k_ ≠ (v202 : Value).ownBlock) v7 x7_4) ∧ Aside0 (Kd.R (Kd.int .i64) 3 w' w.heap.size (fun k_ => some k_ ≠ (v7 : Value).ownBlock ∧ some k_ ≠ (v202 : Value).ownBlock) v189 t188) ∧ Aside0 (Kd.R Kd.string 9 w' w.heap.size (fun k_ => some k_ ≠ (v199 : Value).ownBlock ∧ some k_ ≠ (v207 : Value).ownBlock) v9 x9_4) ∧ Aside0 (Kd.R Kd.string 9 w' w.heap.size (fun k_ => some k_ ≠ (v9 : Value).ownBlock ∧ some k_ ≠ (v207 : Value).ownBlock) v199 t196) ∧ Aside0 (Kd.R (Kd.int .i64) 3 w' w.heap.size (fun k_ => some k_ ≠ (v7 : Value).ownBlock ∧ some k_ ≠ (v189 : Value).ownBlock) v202 t201) ∧ Aside0 (Kd.R Kd.string 9 w' w.heap.size (fun k_ => some k_ ≠ (v9 : Value).ownBlock ∧ some k_ ≠ (v199 : Value).ownBlock) v207 t204) ∧ Aside0 (Below w.heap.size w w'))
                              case atStart => exact ⟨(x7_2), (x9_3), (0), (by first | rfl | (simp; done) | (simp [*]; done) | (simp [isEmpty_bne]; done) | (simp [isEmpty_beq]; done)), H', ⟨Nat.le_refl _⟩, ⟨by (try simp only [hl7_2]); (try simp only [hl9_3]); (with_reducible repeat (first | apply Kd.R_alloc | apply Kd.R_drewN | apply Kd.R_drew)); exact HO_7.out⟩, ⟨by (try simp only [hl7_2]); (try simp only [hl9_3]); (with_reducible repeat (first | apply Kd.R_alloc | apply Kd.R_drewN | apply Kd.R_drew)); exact HO_8.out⟩, ⟨by (try simp only [hl7_2]); (try simp only [hl9_3]); (with_reducible repeat (first | apply Kd.R_alloc | apply Kd.R_drewN | apply Kd.R_drew)); exact HO_9.out⟩, ⟨by (try simp only [hl7_2]); (try simp only [hl9_3]); (with_reducible repeat (first | apply Kd.R_alloc | apply Kd.R_drewN | apply Kd.R_drew)); exact HO_12.out⟩, ⟨by (try simp only [hl7_2]); (try simp only [hl9_3]); (with_reducible repeat (first | apply Kd.R_alloc | apply Kd.R_drewN | apply Kd.R_drew)); exact HO_15.out⟩, ⟨by (try simp only [hl7_2]); (try simp only [hl9_3]); (with_reducible repeat (first | apply Kd.R_alloc | apply Kd.R_drewN | apply Kd.R_drew)); exact HO_16.out⟩, ⟨by repeat (first | (with_reducible first | exact HB.out | apply below_alloc | apply pw_below_drewN | apply below_drew1) | exact HB.out)⟩⟩
                              case round =>
                                clear H'
                                try clear c1
                                try clear p2
                                try clear q2
                                try clear hx2
                                try clear c3
                                try clear c4
                                try clear c5
                                try clear p5
                                try clear q5
                                try clear hx5
                                try clear hf5
                                try clear c6
                                try clear p6
                                try clear q6
                                try clear hx6
                                try clear hf6
                                try clear c7
                                try clear c7b0
                                try clear c7b1
                                try clear c8
                                try clear c8b0
                                try clear c8b1
                                try clear c11
                                try clear c12
                                try clear c13
                                try clear c14
                                try clear p21
                                try clear q21
                                try clear hx21
                                try clear c30
                                try clear c32
                                try clear c33
                                try clear c33b0
                                try clear c33b1
                                try clear c34
                                try clear c34b0
                                try clear c34b1
                                try clear c50
                                try clear c52
                                try clear c52b0
                                try clear c53
                                try clear c53b0
                                try clear c54
                                try clear c54b0
                                try clear p55
                                try clear q55
                                try clear hx55
                                try clear hf55
                                try clear c59
                                try clear c59b0
                                try clear c60
                                try clear c60b0
                                try clear c61
                                try clear c61b0
                                try clear p62
                                try clear q62
                                try clear hx62
                                try clear hf62
                                try clear p64
                                try clear hx211_0
                                try clear hx55_0
                                try clear hx62_0
                                try clear p2
                                try clear p21
                                try clear p211
                                try clear p5
                                try clear p55
                                try clear p6
                                try clear p62
                                try clear q2
                                try clear q21
                                try clear q211
                                try clear q5
                                try clear q55
                                try clear q62
                                obtain ⟨x7_4, x9_4, x98_4, rfl, HA, HK4, HO_7, HO_8, HO_9, HO_12, HO_15, HO_16, HB⟩ := hrel
                                cases gk with
                                | zero => exact absurd HA.out (by simp [pylonlaw06_ScanKeeps.l2])
                                | succ k4 =>
                                  have H := HA.out
                                  clear HA
                                  simp only [pylonlaw06_ScanKeeps.l2] at H
                                  by_cases c65 : x98_4 < 20
                                  · rw [if_pos c65] at H
                                    have c65b0 : decide (x98_4 < 20) = true := decide_eq_true c65
                                    clear c65
                                    by_cases c66 : x7_4.length < 17592186044416
                                    · rw [if_pos c66] at H
                                      have LMc66 := Aside0.mk c66
                                      clear c66
                                      obtain ⟨y215, hy215⟩ : ∃ y_ : List Int, y_ = (x7_4 ++ [(-1)]) := ⟨_, rfl⟩
                                      replace H : (if x9_4.length < 8796093022208 then (pylonlaw06_ScanKeeps.l2 k4 y215 t188 (x9_4 ++ [(⟨#[111, 118, 101, 114]⟩ : ByteArray)]) t196 t201 t204 (wrap64 (x98_4 + 1))) else (none)) = some r := by first | (rw [hy215]; with_reducible exact H) | (have H2_ := (Option.bind_some _ _).symm.trans H; rw [hy215]; with_reducible exact H2_) | (have H2_ := (Option.bind_some _ _).symm.trans H; with_reducible exact H2_) | with_reducible exact H | (rw [hy215]; exact H) | exact H
                                      have Ny215 := Aside0.mk hy215
                                      clear hy215
                                      by_cases c67 : x9_4.length < 8796093022208
                                      · rw [if_pos c67] at H
                                        have LMc67 := Aside0.mk c67
                                        clear c67
                                        obtain ⟨y218, hy218⟩ : ∃ y_ : List ByteArray, y_ = (x9_4 ++ [(⟨#[111, 118, 101, 114]⟩ : ByteArray)]) := ⟨_, rfl⟩
                                        replace H : (pylonlaw06_ScanKeeps.l2 k4 y215 t188 y218 t196 t201 t204 (wrap64 (x98_4 + 1))) = some r := by first | (rw [hy218]; with_reducible exact H) | (have H2_ := (Option.bind_some _ _).symm.trans H; rw [hy218]; with_reducible exact H2_) | (have H2_ := (Option.bind_some _ _).symm.trans H; with_reducible exact H2_) | with_reducible exact H | (rw [hy218]; exact H) | exact H
                                        have Ny218 := Aside0.mk hy218
                                        clear hy218
                                        have H' := Aside0.mk H
                                        clear H
                                        go_wp2_with (first | ((with_reducible refine gate_builtin (b := .append) (xs := #[.tmp 100, .tmp 101]) rfl ?_); (try (refine gate_guard (by rfl) ?_; dsimp only)); at_builtin; refine Kd.R_append (Kd.int .i64) (w0 := w) w.heap.size rfl (.tmp 100) (.tmp 101) 30 3 (.int .i64 0) 8 rfl Try.underlying30 info3 rfl (by decide) (by omega) u7 x7_4 (-1) [.int .i64 (-1)] (fun k_ => some k_ ≠ (v189 : Value).ownBlock ∧ some k_ ≠ (v202 : Value).ownBlock) (fun _ => False) rfl rfl ?aP (fun _ hk => hk.elim) ?aF ?aO ?aB ?aS ?aL ?_; (case aP => exact rfl); (case aB => exact (by repeat (first | (with_reducible first | exact HB.out | apply below_alloc | apply pw_below_drewN | apply below_drew1) | exact HB.out))); (case aF => exact (fun k_ hk => ⟨Kd.fresh' (Kd.R_lt (by (with_reducible repeat (first | apply Kd.R_alloc | apply Kd.R_drewN | apply Kd.R_drew)); exact HO_8.out)) k_ hk, Kd.fresh' (Kd.R_lt (by (with_reducible repeat (first | apply Kd.R_alloc | apply Kd.R_drewN | apply Kd.R_drew)); exact HO_15.out)) k_ hk⟩)); (case aO => exact (by (with_reducible repeat (first | apply Kd.R_alloc | apply Kd.R_drewN | apply Kd.R_drew)); exact HO_7.out)); (case aS => exact (below_size (by repeat (first | (with_reducible first | exact HB.out | apply below_alloc | apply pw_below_drewN | apply below_drew1) | exact HB.out)))); (case aL => have := LMc66.out; omega); intro v216 w68 ho hb hg hat; rw [← Ny215.out] at ho; have n0_ := Aside0.mk (Kd.R_after (ok := (fun k_ => some k_ ≠ (v202 : Value).ownBlock)) (by (with_reducible repeat (first | apply Kd.R_alloc | apply Kd.R_drewN | apply Kd.R_drew)); exact Kd.R_mono HO_8.out (fun _ hk => ⟨hk.2, hk.1⟩)) hg hat); have n1_ := Aside0.mk (Kd.R_over' (by (with_reducible repeat (first | apply Kd.R_alloc | apply Kd.R_drewN | apply Kd.R_drew)); exact HO_9.out) (Kd.R_typed (by (with_reducible repeat (first | apply Kd.R_alloc | apply Kd.R_drewN | apply Kd.R_drew)); exact HO_7.out)) (by decide) hg); have n2_ := Aside0.mk (Kd.R_over' (by (with_reducible repeat (first | apply Kd.R_alloc | apply Kd.R_drewN | apply Kd.R_drew)); exact HO_12.out) (Kd.R_typed (by (with_reducible repeat (first | apply Kd.R_alloc | apply Kd.R_drewN | apply Kd.R_drew)); exact HO_7.out)) (by decide) hg); have n3_ := Aside0.mk (Kd.R_after (ok := (fun k_ => some k_ ≠ (v189 : Value).ownBlock)) (by (with_reducible repeat (first | apply Kd.R_alloc | apply Kd.R_drewN | apply Kd.R_drew)); exact Kd.R_mono HO_15.out (fun _ hk => ⟨hk.2, hk.1⟩)) hg hat); have n4_ := Aside0.mk (Kd.R_over' (by (with_reducible repeat (first | apply Kd.R_alloc | apply Kd.R_drewN | apply Kd.R_drew)); exact HO_16.out) (Kd.R_typed (by (with_reducible repeat (first | apply Kd.R_alloc | apply Kd.R_drewN | apply Kd.R_drew)); exact HO_7.out)) (by decide) hg); have n5_ := Aside0.mk (hb); have n6_ := Aside0.mk (ho); clear HO_8; clear HO_9; clear HO_12; clear HO_15; clear HO_16; clear HB; clear HO_7; have HO_8 := n0_; have HO_9 := n1_; have HO_12 := n2_; have HO_15 := n3_; have HO_16 := n4_; have HB := n5_; have HO217 := n6_; clear n0_ n1_ n2_ n3_ n4_ n5_ n6_; clear ho hb hg hat) | ((with_reducible refine gate_builtin (b := .append) (xs := #[.tmp 103, .tmp 104]) rfl ?_); (try (refine gate_guard (by rfl) ?_; dsimp only)); at_builtin; refine Kd.R_append Kd.string (w0 := w) w.heap.size rfl (.tmp 103) (.tmp 104) 23 9 (.string ⟨#[]⟩) 16 rfl Try.underlying23 info9 rfl (by decide) (by omega) u9 x9_4 (⟨#[111, 118, 101, 114]⟩ : ByteArray) [.string (⟨#[111, 118, 101, 114]⟩ : ByteArray)] (fun k_ => some k_ ≠ (v199 : Value).ownBlock ∧ some k_ ≠ (v207 : Value).ownBlock) (fun _ => False) rfl rfl ?aP (fun _ hk => hk.elim) ?aF ?aO ?aB ?aS ?aL ?_; (case aP => exact rfl); (case aB => exact (by repeat (first | (with_reducible first | exact HB.out | apply below_alloc | apply pw_below_drewN | apply below_drew1) | exact HB.out))); (case aF => exact (fun k_ hk => ⟨Kd.fresh' (Kd.R_lt (by (with_reducible repeat (first | apply Kd.R_alloc | apply Kd.R_drewN | apply Kd.R_drew)); exact HO_12.out)) k_ hk, Kd.fresh' (Kd.R_lt (by (with_reducible repeat (first | apply Kd.R_alloc | apply Kd.R_drewN | apply Kd.R_drew)); exact HO_16.out)) k_ hk⟩)); (case aO => exact (by (with_reducible repeat (first | apply Kd.R_alloc | apply Kd.R_drewN | apply Kd.R_drew)); exact HO_9.out)); (case aS => exact (below_size (by repeat (first | (with_reducible first | exact HB.out | apply below_alloc | apply pw_below_drewN | apply below_drew1) | exact HB.out)))); (case aL => have := LMc67.out; omega); intro v219 w69 ho hb hg hat; rw [← Ny218.out] at ho; have n0_ := Aside0.mk (Kd.R_over' (by (with_reducible repeat (first | apply Kd.R_alloc | apply Kd.R_drewN | apply Kd.R_drew)); exact HO_8.out) (Kd.R_typed (by (with_reducible repeat (first | apply Kd.R_alloc | apply Kd.R_drewN | apply Kd.R_drew)); exact HO_9.out)) (by decide) hg); have n1_ := Aside0.mk (Kd.R_after (ok := (fun k_ => some k_ ≠ (v207 : Value).ownBlock)) (by (with_reducible repeat (first | apply Kd.R_alloc | apply Kd.R_drewN | apply Kd.R_drew)); exact Kd.R_mono HO_12.out (fun _ hk => ⟨hk.2, hk.1⟩)) hg hat); have n2_ := Aside0.mk (Kd.R_over' (by (with_reducible repeat (first | apply Kd.R_alloc | apply Kd.R_drewN | apply Kd.R_drew)); exact HO_15.out) (Kd.R_typed (by (with_reducible repeat (first | apply Kd.R_alloc | apply Kd.R_drewN | apply Kd.R_drew)); exact HO_9.out)) (by decide) hg); have n3_ := Aside0.mk (Kd.R_after (ok := (fun k_ => some k_ ≠ (v199 : Value).ownBlock)) (by (with_reducible repeat (first | apply Kd.R_alloc | apply Kd.R_drewN | apply Kd.R_drew)); exact Kd.R_mono HO_16.out (fun _ hk => ⟨hk.2, hk.1⟩)) hg hat); have n4_ := Aside0.mk (Kd.R_over' (by (with_reducible repeat (first | apply Kd.R_alloc | apply Kd.R_drewN | apply Kd.R_drew)); exact HO217.out) (Kd.R_typed (by (with_reducible repeat (first | apply Kd.R_alloc | apply Kd.R_drewN | apply Kd.R_drew)); exact HO_9.out)) (by decide) hg); have n5_ := Aside0.mk (hb); have n6_ := Aside0.mk (ho); clear HO_8; clear HO_12; clear HO_15; clear HO_16; clear HO217; clear HB; clear HO_9; have HO_8 := n0_; have HO_12 := n1_; have HO_15 := n2_; have HO_16 := n3_; have HO217 := n4_; have HB := n5_; have HO220 := n6_; clear n0_ n1_ n2_ n3_ n4_ n5_ n6_; clear ho hb hg hat))
                                        go_roundg k4
                                        case measure => have := HJ14.out; have := HK2.out; have := HK3.out; have := HK4.out; omega
                                        case rel => exact ⟨(y215), (y218), (wrap64 (x98_4 + 1)), (by first | rfl | (simp; done) | (simp [*]; done) | (simp [isEmpty_bne]; done) | (simp [isEmpty_beq]; done)), H', ⟨by have := HJ14.out; have := HK2.out; have := HK3.out; have := HK4.out; omega⟩, ⟨by (try simp only [hl7_2]); (try simp only [hl9_3]); (with_reducible repeat (first | apply Kd.R_alloc | apply Kd.R_drewN | apply Kd.R_drew)); exact HO217.out⟩, ⟨by (try simp only [hl7_2]); (try simp only [hl9_3]); (with_reducible repeat (first | apply Kd.R_alloc | apply Kd.R_drewN | apply Kd.R_drew)); exact Kd.R_mono HO_8.out (fun _ hk => ⟨hk.2, hk.1⟩)⟩, ⟨by (try simp only [hl7_2]); (try simp only [hl9_3]); (with_reducible repeat (first | apply Kd.R_alloc | apply Kd.R_drewN | apply Kd.R_drew)); exact HO220.out⟩, ⟨by (try simp only [hl7_2]); (try simp only [hl9_3]); (with_reducible repeat (first | apply Kd.R_alloc | apply Kd.R_drewN | apply Kd.R_drew)); exact Kd.R_mono HO_12.out (fun _ hk => ⟨hk.2, hk.1⟩)⟩, ⟨by (try simp only [hl7_2]); (try simp only [hl9_3]); (with_reducible repeat (first | apply Kd.R_alloc | apply Kd.R_drewN | apply Kd.R_drew)); exact Kd.R_mono HO_15.out (fun _ hk => ⟨hk.2, hk.1⟩)⟩, ⟨by (try simp only [hl7_2]); (try simp only [hl9_3]); (with_reducible repeat (first | apply Kd.R_alloc | apply Kd.R_drewN | apply Kd.R_drew)); exact Kd.R_mono HO_16.out (fun _ hk => ⟨hk.2, hk.1⟩)⟩, ⟨by repeat (first | (with_reducible first | exact HB.out | apply below_alloc | apply pw_below_drewN | apply below_drew1) | exact HB.out)⟩⟩
                                      · rw [if_neg c67] at H
                                        exact absurd H (by simp)
                                    · rw [if_neg c66] at H
                                      exact absurd H (by simp)
                                  · rw [if_neg c65] at H
                                    have c65b0 : decide (x98_4 < 20) = false := decide_eq_false c65
                                    clear c65
                                    replace H := Option.bind_eq_some_iff.mp H
                                    obtain ⟨t221, A700, H⟩ := H
                                    replace H : (if t221 = true then ((pylonref06_SameWords.f k4 t196 t204).bind fun t222 => (some t222)) else (some false)) = some r := H
                                    have A70 := Aside0.mk A700
                                    clear A700
                                    by_cases c71 : t221 = true
                                    · subst c71
                                      have H1 : ((pylonref06_SameWords.f k4 t196 t204).bind fun t222 => (some t222)) = some r := by rw [if_pos rfl] at H; exact H
                                      clear H
                                      have H := H1
                                      clear H1
                                      replace H := Option.bind_eq_some_iff.mp H
                                      obtain ⟨t222, A720, H⟩ := H
                                      replace H : (some t222) = some r := H
                                      have A72 := Aside0.mk A720
                                      clear A720
                                      obtain rfl := Option.some.inj H
                                      obtain ⟨Ao73, co73, eo73⟩ := Kd.R_slice HO_8.out
                                      subst eo73
                                      obtain ⟨Ao74, co74, eo74⟩ := Kd.R_slice HO_15.out
                                      subst eo74
                                      go_wp2_with (first | ((with_reducible refine gate_callee (f := 14) rfl ?_); refine goesL_ (some 109) rfl rfl Try.func14 (by kernel_rfl) rfl #[.slice Ao73 t188.length co73, .slice Ao74 t201.length co74] rfl (by (try simp only [List.map_toArray, List.map_cons, List.map_nil]); first | done | rfl | (simp only [List.length_drop, List.length_take]; rfl)) ?_; (with_reducible refine (pylonref15_SameInts.calls k4 _ _ t188 _ _ t201 true _ ?side1 ?side2 ?side3 ?side4 A70.out).mono ?_); (case side1 => repeat (first | exact (Kd.R_reads' HO_8.out).2.2 | (with_reducible refine Kd.C_alloc ?_ _) | (with_reducible refine Kd.C_drewN ?_ _) | (with_reducible refine Kd.C_drew ?_))); (case side2 => exact (Kd.R_reads' HO_8.out).2.1); (case side3 => repeat (first | exact (Kd.R_reads' HO_15.out).2.2 | (with_reducible refine Kd.C_alloc ?_ _) | (with_reducible refine Kd.C_drewN ?_ _) | (with_reducible refine Kd.C_drew ?_))); (case side4 => exact (Kd.R_reads' HO_15.out).2.1); rintro e w' ⟨rfl, ⟨nd, rfl⟩⟩; refine ⟨_, rfl, ?_⟩; obtain ⟨Ao75, co75, eo75⟩ := Kd.R_slice HO_12.out; subst eo75; obtain ⟨Ao76, co76, eo76⟩ := Kd.R_slice HO_16.out; subst eo76) | (go_at_call 9; (with_reducible refine (pylonref06_SameWords.calls k4 _ _ t196 _ _ t204 t222 _ ?side1 ?side2 ?side3 ?side4 A72.out).mono ?_); (case side1 => repeat (first | exact (Kd.R_reads' HO_12.out).2.2 | (with_reducible refine Kd.C_alloc ?_ _) | (with_reducible refine Kd.C_drewN ?_ _) | (with_reducible refine Kd.C_drew ?_))); (case side2 => exact (Kd.R_reads' HO_12.out).2.1); (case side3 => repeat (first | exact (Kd.R_reads' HO_16.out).2.2 | (with_reducible refine Kd.C_alloc ?_ _) | (with_reducible refine Kd.C_drewN ?_ _) | (with_reducible refine Kd.C_drew ?_))); (case side4 => exact (Kd.R_reads' HO_16.out).2.1); rintro e w' ⟨rfl, ⟨nd, rfl⟩⟩))
                                      go_ret
                                      exact ⟨by first | rfl | (simp [errW_none, errW_some] <;> rfl) | (simp [*, errW_none, errW_some] <;> rfl), by repeat (first | (with_reducible first | exact HB.out | apply below_alloc | apply pw_below_drewN | apply below_drew1) | exact HB.out)⟩
                                    · replace c71 := Bool.eq_false_iff.mpr c71
                                      subst c71
                                      have H1 : (some false) = some r := by rw [if_neg (show ¬ (false = true) by decide)] at H; exact H
                                      clear H
                                      have H := H1
                                      clear H1
                                      obtain rfl := Option.some.inj H
                                      obtain ⟨Ao77, co77, eo77⟩ := Kd.R_slice HO_8.out
                                      subst eo77
                                      obtain ⟨Ao78, co78, eo78⟩ := Kd.R_slice HO_15.out
                                      subst eo78
                                      go_wp2_with (first | ((with_reducible refine gate_callee (f := 14) rfl ?_); refine goesL_ (some 109) rfl rfl Try.func14 (by kernel_rfl) rfl #[.slice Ao77 t188.length co77, .slice Ao78 t201.length co78] rfl (by (try simp only [List.map_toArray, List.map_cons, List.map_nil]); first | done | rfl | (simp only [List.length_drop, List.length_take]; rfl)) ?_; (with_reducible refine (pylonref15_SameInts.calls k4 _ _ t188 _ _ t201 false _ ?side1 ?side2 ?side3 ?side4 A70.out).mono ?_); (case side1 => repeat (first | exact (Kd.R_reads' HO_8.out).2.2 | (with_reducible refine Kd.C_alloc ?_ _) | (with_reducible refine Kd.C_drewN ?_ _) | (with_reducible refine Kd.C_drew ?_))); (case side2 => exact (Kd.R_reads' HO_8.out).2.1); (case side3 => repeat (first | exact (Kd.R_reads' HO_15.out).2.2 | (with_reducible refine Kd.C_alloc ?_ _) | (with_reducible refine Kd.C_drewN ?_ _) | (with_reducible refine Kd.C_drew ?_))); (case side4 => exact (Kd.R_reads' HO_15.out).2.1); rintro e w' ⟨rfl, ⟨nd, rfl⟩⟩; refine ⟨_, rfl, ?_⟩))
                                      go_ret
                                      exact ⟨by first | rfl | (simp [errW_none, errW_some] <;> rfl) | (simp [*, errW_none, errW_some] <;> rfl), by repeat (first | (with_reducible first | exact HB.out | apply below_alloc | apply pw_below_drewN | apply below_drew1) | exact HB.out)⟩
          · rw [if_neg c8] at H
            exact absurd H (by simp)
        · rw [if_neg c7] at H
          exact absurd H (by simp)
      · rw [if_neg c6] at H
        exact absurd H (by simp)
    · rw [if_neg c5] at H
      exact absurd H (by simp)
  · replace c4 := Bool.eq_false_iff.mpr c4
    subst c4
    have H1 : (some false) = some r := by rw [if_neg (show ¬ (false = true) by decide)] at H; exact H
    clear H
    have H := H1
    clear H1
    obtain rfl := Option.some.inj H
    go_enter Try.func5, Try.ntmps5
    go_wp2_with (first | ((with_reducible refine gate_callee (f := 7) rfl ?_); refine goesL_ (some 21) rfl rfl Try.func7 (by kernel_rfl) rfl #[] rfl (by (try simp only [List.map_toArray, List.map_cons, List.map_nil]); first | done | rfl | (simp only [List.length_drop, List.length_take]; rfl)) ?_; (with_reducible refine (pylonlaw06_awake.calls k  false _ A3.out).mono ?_); rintro e w79 ⟨rfl, hb⟩; refine ⟨_, rfl, ?_⟩; have n0_ := Aside0.mk (below_step (by repeat (first | (with_reducible first | exact HB.out | apply below_alloc | apply pw_below_drewN | apply below_drew1) | exact HB.out)) hb); clear HB; have HB := n0_; clear n0_; (try clear hb); (try clear hb2); (try clear hk); (try clear hi)))
    go_ret
    exact ⟨by first | rfl | (simp [errW_none, errW_some] <;> rfl) | (simp [*, errW_none, errW_some] <;> rfl), by repeat (first | (with_reducible first | exact HB.out | apply below_alloc | apply pw_below_drewN | apply below_drew1) | exact HB.out)⟩

end Go.Proofs.Ytopgcofloldedaa.Pa
