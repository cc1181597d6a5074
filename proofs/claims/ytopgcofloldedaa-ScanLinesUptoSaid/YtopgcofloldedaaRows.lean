/-
  No cell of these rows narrows 'for every input' (looked for: loops, veiled, ifaces, maps, wideKeys, modest, calm, conditions, laid).
  DERIVED. THE GIVEN ROWS OF THIS SEAT. 4 by the template 'for every input the law returns true; each argument reads behind the call as it read before'; 0 by the template 'total and deterministic' (their statements: YtopgcofloldedaaTotals.lean).
  GIVEN WITH THE SEED: the statements are not yours to turn. If you find one false, say at which input.
  Laid BY PROGRAM, IN A SANDBOX (cutbox-rows.mjs): the forced cells as the released guide's own fill.sh prints them over the translation 83c13f9bec03a404… (all of the seat's roots in one cut). By AI agents, Wed Nov 11 2026. No macro, syntax, notation, axiom, sorry.
-/
import Derived.Test.YtopgcofloldedaaChecked
import GoSem.Claim
import GoSem.ClaimJoined
import GoSem.ClaimMapViews
import Derived.JoinedTies
import Derived.KernelRfl
namespace Go.Proofs.Ytopgcofloldedaa
/- THE CELL 'sum', in the pinned program and in every row, IS THE sha256 OF THE DUMP (.gsa) THAT YtopgcofloldedaaProg.lean LOADS. Nothing in Lean hashes anything: it is a label: what it is worth is what the hold of that sum in a sandbox is worth. -/
noncomputable def Try.pinned : Pinned := { name := "ytopgcofloldedaa", sum := "83c13f9bec03a4044cad014167a4f1c6e591c91550e9e3648769d6b15c9bee45", checked := Try.checked }
namespace Rows
def none {H : Type} : Left H := { results := [], args := [] }

/-- 'pylonlaw06.ScanCuts': WHATEVER THE INPUT: true; the input reads as it did. -/
def scanCutsSpec : ChangeSpec := { name := "scanCuts", fn := fun _ => fun
  | [d1, d2] => { results := [.lit (.bool true)], args := [d1, d2] }
  | _ => none }
def scanCutsRow : OpenClaim := { program := "ytopgcofloldedaa", sum := "83c13f9bec03a4044cad014167a4f1c6e591c91550e9e3648769d6b15c9bee45", func := "pylon/pylonlaw06.ScanCuts", spec := "scanCuts", apart := false }
def ScanCutsSaid : Prop := scanCutsRow.holds Try.pinned (OpenSpec.ofChange scanCutsSpec)

/-- ITS FALSE NEIGHBOUR: 'it returns false'. Refute it at one input. -/
def scanCutsWrong : ChangeSpec := { name := "scanCuts", fn := fun _ => fun
  | [d1, d2] => { results := [.lit (.bool false)], args := [d1, d2] }
  | _ => none }
def ScanCutsWrongFalsely : Prop := scanCutsRow.holds Try.pinned (OpenSpec.ofChange scanCutsWrong)

/-- 'pylonlaw06.ScanJoins': WHATEVER THE INPUT: true; the input reads as it did. -/
def scanJoinsSpec : ChangeSpec := { name := "scanJoins", fn := fun _ => fun
  | [d] => { results := [.lit (.bool true)], args := [d] }
  | _ => none }
def scanJoinsRow : OpenClaim := { program := "ytopgcofloldedaa", sum := "83c13f9bec03a4044cad014167a4f1c6e591c91550e9e3648769d6b15c9bee45", func := "pylon/pylonlaw06.ScanJoins", spec := "scanJoins", apart := false }
def ScanJoinsSaid : Prop := scanJoinsRow.holds Try.pinned (OpenSpec.ofChange scanJoinsSpec)

/-- ITS FALSE NEIGHBOUR: 'it returns false'. Refute it at one input. -/
def scanJoinsWrong : ChangeSpec := { name := "scanJoins", fn := fun _ => fun
  | [d] => { results := [.lit (.bool false)], args := [d] }
  | _ => none }
def ScanJoinsWrongFalsely : Prop := scanJoinsRow.holds Try.pinned (OpenSpec.ofChange scanJoinsWrong)

/-- 'pylonlaw06.ScanKeeps': WHATEVER THE INPUT: true; the input reads as it did. -/
def scanKeepsSpec : ChangeSpec := { name := "scanKeeps", fn := fun _ => fun
  | [d1, d2] => { results := [.lit (.bool true)], args := [d1, d2] }
  | _ => none }
def scanKeepsRow : OpenClaim := { program := "ytopgcofloldedaa", sum := "83c13f9bec03a4044cad014167a4f1c6e591c91550e9e3648769d6b15c9bee45", func := "pylon/pylonlaw06.ScanKeeps", spec := "scanKeeps", apart := false }
def ScanKeepsSaid : Prop := scanKeepsRow.holds Try.pinned (OpenSpec.ofChange scanKeepsSpec)

/-- ITS FALSE NEIGHBOUR: 'it returns false'. Refute it at one input. -/
def scanKeepsWrong : ChangeSpec := { name := "scanKeeps", fn := fun _ => fun
  | [d1, d2] => { results := [.lit (.bool false)], args := [d1, d2] }
  | _ => none }
def ScanKeepsWrongFalsely : Prop := scanKeepsRow.holds Try.pinned (OpenSpec.ofChange scanKeepsWrong)

/-- 'pylonlaw06.ScanLines': WHATEVER THE INPUT: true; the input reads as it did. -/
def scanLinesSpec : ChangeSpec := { name := "scanLines", fn := fun _ => fun
  | [d1, d2] => { results := [.lit (.bool true)], args := [d1, d2] }
  | _ => none }
def scanLinesRow : OpenClaim := { program := "ytopgcofloldedaa", sum := "83c13f9bec03a4044cad014167a4f1c6e591c91550e9e3648769d6b15c9bee45", func := "pylon/pylonlaw06.ScanLines", spec := "scanLines", inPlace := ["internal/bytealg.IndexByteString", "internal/bytealg.IndexString"], named := ["internal/bytealg.MaxLen"], apart := false }
def ScanLinesSaid : Prop := scanLinesRow.holds Try.pinned (OpenSpec.ofChange scanLinesSpec)

/-- ITS FALSE NEIGHBOUR: 'it returns false'. Refute it at one input. -/
def scanLinesWrong : ChangeSpec := { name := "scanLines", fn := fun _ => fun
  | [d1, d2] => { results := [.lit (.bool false)], args := [d1, d2] }
  | _ => none }
def ScanLinesWrongFalsely : Prop := scanLinesRow.holds Try.pinned (OpenSpec.ofChange scanLinesWrong)

/- THE SECOND FORM. 'bulk': how many values and letters a reading holds, each counted each time it is reached (what is shared counts as often as it is met; a slice's spare places count too). A statement '..UptoSaid' is the law's where the arguments, and the package variables that the reading takes, are together of bulk at most 1048576: NARROWER than '..Said'. Prove '..Said' where nothing that the law and all that it calls make is longer than what came in: it says more and counts as full. Else prove '..UptoSaid'. A law counts once. -/
mutual
def uptoBulk {H : Type} : DataW H → Nat
  | .lit (.string bytes) => bytes.length + 1
  | .lit _ => 1
  | .nil => 1
  | .ptr d => uptoBulk d + 1
  | .slice elems spare => uptoBulkAll elems + uptoBulkAll spare + 1
  | .agg parts => uptoBulkAll parts + 1
  | .iface _ d => uptoBulk d + 1
  | .map entries => uptoBulkEntries entries + 1
  | .held _ => 1
def uptoBulkAll {H : Type} : List (DataW H) → Nat
  | [] => 0
  | d :: r => uptoBulk d + uptoBulkAll r
def uptoBulkEntries {H : Type} : List (Lit × DataW H) → Nat
  | [] => 0
  | x :: r => uptoBulkEntry x + uptoBulkEntries r
def uptoBulkEntry {H : Type} : Lit × DataW H → Nat
  | (.string bytes, d) => bytes.length + uptoBulk d + 1
  | (_, d) => uptoBulk d + 1
 end
def uptoSmall : (H : Type) → List (DataW H) → Bool := fun _ ds => decide (uptoBulkAll ds ≤ 1048576)
def OpenSpec.upto (s : _root_.Go.ChangeSpec) : _root_.Go.OpenSpec := { _root_.Go.OpenSpec.ofChange s with cond := some uptoSmall }

/-- 'pylonlaw06.ScanCuts', WHERE WHAT IT READS IS OF BULK AT MOST 1048576: true; the input reads as it did. -/
def scanCutsUptoRow : OpenClaim := { program := "ytopgcofloldedaa", sum := "83c13f9bec03a4044cad014167a4f1c6e591c91550e9e3648769d6b15c9bee45", func := "pylon/pylonlaw06.ScanCuts", spec := "scanCuts", apart := false, narrowed := true }
def ScanCutsUptoSaid : Prop := scanCutsUptoRow.holds Try.pinned (OpenSpec.upto scanCutsSpec)

/-- 'pylonlaw06.ScanJoins', WHERE WHAT IT READS IS OF BULK AT MOST 1048576: true; the input reads as it did. -/
def scanJoinsUptoRow : OpenClaim := { program := "ytopgcofloldedaa", sum := "83c13f9bec03a4044cad014167a4f1c6e591c91550e9e3648769d6b15c9bee45", func := "pylon/pylonlaw06.ScanJoins", spec := "scanJoins", apart := false, narrowed := true }
def ScanJoinsUptoSaid : Prop := scanJoinsUptoRow.holds Try.pinned (OpenSpec.upto scanJoinsSpec)

/-- 'pylonlaw06.ScanKeeps', WHERE WHAT IT READS IS OF BULK AT MOST 1048576: true; the input reads as it did. -/
def scanKeepsUptoRow : OpenClaim := { program := "ytopgcofloldedaa", sum := "83c13f9bec03a4044cad014167a4f1c6e591c91550e9e3648769d6b15c9bee45", func := "pylon/pylonlaw06.ScanKeeps", spec := "scanKeeps", apart := false, narrowed := true }
def ScanKeepsUptoSaid : Prop := scanKeepsUptoRow.holds Try.pinned (OpenSpec.upto scanKeepsSpec)

/-- 'pylonlaw06.ScanLines', WHERE WHAT IT READS IS OF BULK AT MOST 1048576: true; the input reads as it did. -/
def scanLinesUptoRow : OpenClaim := { program := "ytopgcofloldedaa", sum := "83c13f9bec03a4044cad014167a4f1c6e591c91550e9e3648769d6b15c9bee45", func := "pylon/pylonlaw06.ScanLines", spec := "scanLines", inPlace := ["internal/bytealg.IndexByteString", "internal/bytealg.IndexString"], named := ["internal/bytealg.MaxLen"], apart := false, narrowed := true }
def ScanLinesUptoSaid : Prop := scanLinesUptoRow.holds Try.pinned (OpenSpec.upto scanLinesSpec)

end Rows
end Go.Proofs.Ytopgcofloldedaa
