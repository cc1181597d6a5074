/-
  The law pylon/pylonlaw06.ScanAll, where what it reads is of bulk at most 1048576: it answers true, and each argument reads as it did (the card: the listed variables tied to the program's text).
-/
import Derived.Test.YtopgcofloldedaaDoorCards
import Derived.Test.YtopgcofloldedaaDoorTie
import Derived.Test.YtopgcofloldedaaDoorPa7
import Derived.Test.YtopgcofloldedaaDoorUAll
import Derived.Test.YtopgcofloldedaaDoorUOpens
import Derived.WalkKit
import Derived.ProofKit
import Derived.OpenShut
import Derived.ShutString
import Derived.ChangeOld
import Derived.Below
import Derived.JoinedCond
import Derived.SliceStrings
import Derived.SizedLaws
import Derived.Deep.DeepHandedRow
import Derived.Deep.DeepWitnessRowRef
import Derived.Lib.LaidTab
import Derived.Lib.LaidU8
import Derived.Stop.LaidErr
import Derived.MakeChecks
namespace Go.Proofs.YtopgcofloldedaaDoor.scanAll
open Go.ChangeShapes Go.WideShapes Go.ChangeAt Go.RowKit
open Go.ChangeMaps (open_string shut_string)
open Go.Proofs.YtopgcofloldedaaDoorW.PrintWords
set_option linter.unusedVariables false
theorem own : ownKnob Tryd.prog.godebug = none := by kernel_rfl
theorem laidOut : laidOutB Tryd.prog = true := by kernel_rfl
theorem bulk_strs {H : Type} (l : List ByteArray) : Rows.uptoBulkAll (strs l : List (DataW H)) = (l.map fun a => a.size + 1).sum := by
  induction l with
  | nil => rfl
  | cons a r ih =>
    have e : (strs (a :: r) : List (DataW H)) = DataW.lit (.string a.data.toList) :: strs r := rfl
    rw [e]
    simp only [Rows.uptoBulkAll, Rows.uptoBulk, List.map_cons, List.sum_cons, ih, Array.length_toList]
    rfl
noncomputable abbrev low : Nat := (World.settled Tryd.prog default).heap.size
def put (h : Array Obj) (g : Nat) (cs : Array Value) : Array Obj := h.modify g fun
  | .cells _ t frozen => .cells cs t frozen
  | o => o
/-- A world for the witness: the listed variables hold what their initialisers lay. -/
noncomputable def laidWorld (os : Os) : World :=
  let w0 := World.holding Tryd.prog os ⟨#[.cells #[.string ⟨#[118, 97, 108, 117, 101, 32, 111, 117, 116, 32, 111, 102, 32, 114, 97, 110, 103, 101]⟩] 86, .cells #[.string ⟨#[105, 110, 118, 97, 108, 105, 100, 32, 115, 121, 110, 116, 97, 120]⟩] 86], #[], []⟩
  let h0 := put w0.heap 6 #[.int .u8 0, .int .u8 1, .int .u8 28, .int .u8 2, .int .u8 29, .int .u8 14, .int .u8 24, .int .u8 3, .int .u8 30, .int .u8 22, .int .u8 20, .int .u8 15, .int .u8 25, .int .u8 17, .int .u8 4, .int .u8 8, .int .u8 31, .int .u8 27, .int .u8 13, .int .u8 23, .int .u8 21, .int .u8 19, .int .u8 16, .int .u8 7, .int .u8 26, .int .u8 12, .int .u8 18, .int .u8 6, .int .u8 11, .int .u8 5, .int .u8 10, .int .u8 9]
  let h1 := put h0 7 #[.int .u8 0, .int .u8 1, .int .u8 56, .int .u8 2, .int .u8 57, .int .u8 49, .int .u8 28, .int .u8 3, .int .u8 61, .int .u8 58, .int .u8 42, .int .u8 50, .int .u8 38, .int .u8 29, .int .u8 17, .int .u8 4, .int .u8 62, .int .u8 47, .int .u8 59, .int .u8 36, .int .u8 45, .int .u8 43, .int .u8 51, .int .u8 22, .int .u8 53, .int .u8 39, .int .u8 33, .int .u8 30, .int .u8 24, .int .u8 18, .int .u8 12, .int .u8 5, .int .u8 63, .int .u8 55, .int .u8 48, .int .u8 27, .int .u8 60, .int .u8 41, .int .u8 37, .int .u8 16, .int .u8 46, .int .u8 35, .int .u8 44, .int .u8 21, .int .u8 52, .int .u8 32, .int .u8 23, .int .u8 11, .int .u8 54, .int .u8 26, .int .u8 40, .int .u8 15, .int .u8 34, .int .u8 20, .int .u8 31, .int .u8 10, .int .u8 25, .int .u8 14, .int .u8 19, .int .u8 9, .int .u8 13, .int .u8 8, .int .u8 7, .int .u8 6]
  let h2 := put h1 5 #[.int .u64 1, .int .u64 10, .int .u64 100, .int .u64 1000, .int .u64 10000, .int .u64 100000, .int .u64 1000000, .int .u64 10000000, .int .u64 100000000, .int .u64 1000000000, .int .u64 10000000000, .int .u64 100000000000, .int .u64 1000000000000, .int .u64 10000000000000, .int .u64 100000000000000, .int .u64 1000000000000000, .int .u64 10000000000000000, .int .u64 100000000000000000, .int .u64 1000000000000000000, .int .u64 10000000000000000000]
  let h3 := put h2 4 #[.int .u8 128, .int .u8 191, .int .u8 160, .int .u8 191, .int .u8 128, .int .u8 159, .int .u8 144, .int .u8 191, .int .u8 128, .int .u8 143, .int .u8 0, .int .u8 0, .int .u8 0, .int .u8 0, .int .u8 0, .int .u8 0, .int .u8 0, .int .u8 0, .int .u8 0, .int .u8 0, .int .u8 0, .int .u8 0, .int .u8 0, .int .u8 0, .int .u8 0, .int .u8 0, .int .u8 0, .int .u8 0, .int .u8 0, .int .u8 0, .int .u8 0, .int .u8 0]
  let h4 := put h3 1 #[.iface 84 (.pointer (some ⟨low + 0, 0, none⟩))]
  let h5 := put h4 0 #[.iface 84 (.pointer (some ⟨low + 1, 0, none⟩))]
  let h6 := put h5 3 (Lib.firstTab.map fun z => Value.int .u8 z).toArray
  { w0 with heap := h6 }
set_option maxRecDepth 100000 in
theorem laid_met (os : Os) : laidMet Tryd.prog Rows.scanAllUptoRow.laid ((laidWorld os).forCall (fun _ _ => 0) ⟨#[], #[.slice none 0 0], []⟩).memory :=
  laidMet_of_run' 8 (by kernel_rfl) (by kernel_rfl)
theorem reads (os : Os) {H : Type} (enc : TypeId × Value → H) : ∃ places, DataW.whole enc Tryd.prog ((laidWorld os).forCall (fun _ _ => 0) ⟨#[], #[.slice none 0 0], []⟩).memory Tryd.f5.params.toList Rows.scanAllSpec.vars false (#[.slice none 0 0] : Array Value).toList 8 = some ([.nil], [], places) :=
  ⟨[], by kernel_rfl⟩
theorem gR : Tryd.prog.globalNamed "strconv.ErrRange" = some 1 := by kernel_rfl
theorem gRT : (Tryd.prog.globals[1]?).map (·.type) = some 46 := by kernel_rfl
theorem rowTP (u : TypeId) (h : Tryd.prog.typeName? 3 u = some "*errors.errorString") : u = 84 :=
  typeName_ptr_named (nm := "errors.errorString") (by rw [show "*" ++ "errors.errorString" = "*errors.errorString" by decide]; kernel_rfl) (by kernel_rfl) (by decide) u (by rw [show "*" ++ "errors.errorString" = "*errors.errorString" by decide]; exact h)
theorem cellsTE : Tryd.prog.cellsOf 86 = 1 := by kernel_rfl
theorem cellsS : Tryd.prog.cellsOf 9 = 1 := by kernel_rfl
theorem gP : Tryd.prog.globalNamed "internal/strconv.uint64pow10" = some 5 := by kernel_rfl
theorem cells64 : Tryd.prog.cellsOf 60 = 1 := by kernel_rfl
theorem gPT : (Tryd.prog.globals[5]?).map (·.type) = some 102 := by kernel_rfl
theorem cellsP : Tryd.prog.cellsOf 102 = 20 := by kernel_rfl
theorem ginv {W : World} (hL : laidMetH Tryd.prog Rows.scanAllUptoRow.laid W) : GInv W := by
  have hL' : laidMet Tryd.prog Rows.scanAllUptoRow.laid W := by rw [← MakeChecks.laidMetH_plain _ _ _ (by kernel_rfl)]; exact hL
  exact {
    any := trivial
    rng := by
      obtain ⟨a0, s0, hv0, _, _, _⟩ := laid_sentinel hL'.tail.tail.tail.tail gR gRT Tryd.underlying46 rowTP Tryd.underlying84 Tryd.underlying86 rfl rfl Tryd.underlying9 cellsTE cellsS
      exact ⟨_, _, hv0⟩
    pow := Lib.tabIs_of_head (rest := _) gP gPT Tryd.underlying102 Tryd.underlying60 cells64 cellsP hL'.tail.tail
  }
set_option maxRecDepth 100000 in
theorem lifted (os : Os) (started : os.Started) (H : Type) (enc : TypeId × Value → H) (F : Stop.Interp) :
    ReturnsInHanded {} Tryd.checked os 5 .any ((Rows.OpenSpec.upto Rows.scanAllSpec).preRow enc Tryd.prog Tryd.f5 Rows.scanAllUptoRow.domain false Rows.scanAllUptoRow.laid) (((Rows.OpenSpec.upto Rows.scanAllSpec).at F).post enc Tryd.prog Tryd.f5 false true false false) := by
  obtain ⟨places, hx⟩ := reads os enc
  refine returnsInHanded_of_row (C := Tryd.checked) (s := Rows.OpenSpec.upto Rows.scanAllSpec) own started (by kernel_rfl) Tryd.func5
    (witness_row_atRef (enc := enc) (C := Tryd.checked) false (laidWorld os) #[.slice none 0 0] rfl (by kernel_rfl) (by kernel_rfl) (by kernel_rfl)
      (OpenSpec.preRow_of_cond 8 hx (by kernel_rfl) (fun k hk => by cases hk; kernel_rfl) (by kernel_rfl) (laid_met os))) ?_
  intro W base args ds gs before hval0 hW _ hcond hsz0 hL _ _
  have hk := hcond _ rfl
  have hval : ∀ (j : Nat) t v, Tryd.f5.params[j]? = some t → args[j]? = some v → Value.okWide Tryd.prog W .any base t v := hval0
  have hsz : (DataW.weightsEach Tryd.prog (Tryd.f5.params.toList ++ (Rows.scanAllSpec).plain.varTypes Tryd.prog) (ds ++ gs)).all (· ≤ reachBytes) = true := hsz0
  have hW' := hW
  obtain ⟨p, q, hA0, hV, rfl, hfz, hnd⟩ := hW
  have hA : DataW.TrodAll enc Tryd.prog W 0 (fun _ => true) true Tryd.f5.params.toList args.toList ds p := hA0
  rw [Tryd.params5] at hA hval hsz
  obtain ⟨v0, vs0, d0, ds0, p0, q0, hargs, rfl, rfl, h0, r0⟩ := trodAll_cons hA
  obtain ⟨rfl, rfl, rfl⟩ := trodAll_nil r0
  obtain rfl : args = #[v0] := by cases args; simp_all
  obtain ⟨rfl, rfl⟩ := trodVars_none hV
  obtain ⟨A0, len0, cap0, rfl⟩ := okWide_slice Tryd.underlying31 (hval 0 31 v0 rfl rfl)
  have k0 := h0
  have lt0 : ∀ x ∈ p0, x.block < W.heap.size := by obtain ⟨m, hm⟩ := k0; exact DataW.trod_lt m _ _ _ hm
  obtain ⟨l0, hr0, hc0, hl0, hb0⟩ : ∃ l : List Pa.S37, Kd.C Pa.k37 W A0 l.length l ∧ l.length ≤ cap0 ∧ l.length = len0 ∧ (l.map Pu.scanAllBulk).sum ≤ Rows.uptoBulk d0 := by
    obtain ⟨fuel, hf⟩ := h0
    obtain ⟨l, ⟨A', c', e', hc', hC⟩, hwf, hbk⟩ := (Opens.slice 37 Tryd.underlying31 (by kernel_rfl) (Opens.iso (fun x : Pa.S37 => (x.f0, x.f1, x.f2, x.f3, x.f4)) (fun p => ⟨p.1, p.2.1, p.2.2.1, p.2.2.2.1, p.2.2.2.2⟩) (fun _ => rfl) (Opens.struct Tryd.underlying37 (by kernel_rfl) (Opens.cons rfl (Opens.int Tryd.underlying3 (by kernel_rfl)) (Opens.cons rfl (Opens.string Tryd.underlying9 (by kernel_rfl)) (Opens.cons rfl (Opens.slice 9 Tryd.underlying28 (by kernel_rfl) (Opens.string Tryd.underlying9 (by kernel_rfl))) (Opens.cons rfl (Opens.int Tryd.underlying2 (by kernel_rfl)) (Opens.last rfl (Opens.int Tryd.underlying2 (by kernel_rfl)))))))))).op hf
    simp only [Value.cells, List.cons.injEq, Value.slice.injEq, and_true] at e'
    obtain ⟨rfl, e1, rfl⟩ := e'
    refine ⟨l, hC, hc', e1.symm, ?_⟩
    refine Nat.le_trans (sum_mono ?_ l) (Nat.le_trans (Nat.le_succ _) hbk)
    intro x
    unfold Pu.scanAllBulk
    dsimp only
    omega
  subst hl0
  have hk' : Rows.uptoBulkAll ([d0] ++ [] : List (DataW H)) ≤ 1048576 := of_decide_eq_true hk
  simp only [Rows.uptoBulkAll, List.cons_append, List.nil_append, Rows.uptoBulk] at hk'
  clear hA0 hval0 hsz0
  obtain ⟨k, hP⟩ := Pu.scanAll l0 (by omega)
  refine (Pa.pylonlaw06_ScanAll.calls k A0 cap0 l0 true W (ginv hL) hr0 hc0 hP).mono fun e W' ⟨he, hbel⟩ => ?_
  have bel : Below W.heap.size W W' := hbel
  subst he
  exact ⟨_, rfl, _, _, _, [], _, [], hW', trodAll_mk1 (shut_bool Tryd.underlying4 _), (trodAll_cons_mk (Below.trod laidOut (by kernel_rfl) (of_decide_eq_true (by kernel_rfl)) k0 bel lt0) trodAll_mk0), rfl, bel.frame _, fun h => by cases h⟩
theorem said : Rows.ScanAllUptoSaid :=
  OpenClaim.holds_of_cond 5 Tryd.f5 rfl rfl rfl rfl rfl rfl rfl ⟨rfl, rfl, rfl, rfl, rfl⟩ rfl rfl rfl rfl rfl (by kernel_rfl) Tryd.func5 (by kernel_rfl)
    (of_decide_eq_true (by kernel_rfl)) (by unfold Func.isWrapper; first | (rw [if_pos (by decide +kernel)]; kernel_rfl) | (rw [if_neg (by decide +kernel)]; exact ⟨rfl, rfl⟩))
    (fun os started H enc _ F => by rw [OpenClaim.pre_eq_preRow]; exact lifted os started H enc F)
theorem plain (f : FuncId) (fn : Func) (hf : Tryd.pinned.checked.prog.funcNamed "pylon/pylonlaw06.ScanAll" = some f) (hfn : Tryd.pinned.checked.prog.funcs[f]? = some fn) :
    true = Tryd.pinned.checked.prog.looks [] ∧ ∀ (j : Nat) t, fn.params[j]? = some t → Tryd.pinned.checked.prog.wantsStandIn t = false := by
  obtain rfl : f = 5 := Option.some.inj ((show Tryd.prog.funcNamed "pylon/pylonlaw06.ScanAll" = some 5 by kernel_rfl).symm.trans hf) |>.symm
  obtain rfl : fn = Tryd.f5 := (Option.some.inj (Tryd.func5.symm.trans hfn)).symm
  refine ⟨by kernel_rfl, fun j t ht => ?_⟩
  rw [Tryd.params5] at ht
  obtain rfl : t = 31 := by simpa using Array.mem_of_getElem? ht
  exact (show Tryd.prog.wantsStandIn 31 = false by kernel_rfl)
theorem card : Rows.ScanAllUptoCardSaid :=
  Claim7.holds_tied_plain_at .later [] _ _ _ _ said (fun _ h => by cases h) (by kernel_rfl) (fun _ h => by cases h) scanAllUpto_row_tie rfl ⟨rfl, rfl⟩ (by kernel_rfl) rfl plain (by kernel_rfl)
#print axioms card
end Go.Proofs.YtopgcofloldedaaDoor.scanAll
namespace Go.Proofs.YtopgcofloldedaaDoor
/-- The law's card, under a short name, for the claim. -/
theorem scanAll_holds : Rows.ScanAllUptoCardSaid := scanAll.card
end Go.Proofs.YtopgcofloldedaaDoor
