-- Written by mk.py (this repo's program), over the kit's printer: function by function, its Lean function and its contract.
import Derived.Test.YtopgcofloldedaaProg
import Derived.Below
import Derived.Deep.Draws
import Derived.Deep.AppendLies
import Derived.Maps.AppendAt
import Derived.OwnWalk
import Derived.Laws.BytesArg
import Derived.Laws.MakeOwn
import Derived.Laws.OwnMore
import Derived.Deep.OwnRows
import Derived.Tactics
import Derived.Lib.ConvBytes
import Derived.Laws.Slices
import Derived.WalkKit
import Derived.KernelRfl
import Derived.RowKit3
import Derived.Deep.LoopGhost
import Derived.Deep.QuietTactic
import Derived.BigQuiet
import Derived.WideLaws
import Derived.Deep.DeepCutAuto
import Derived.Deep.CutBlock
import Derived.Deep.RegionHeld3
import Derived.Laws.Rows
import Derived.Lib.AppendStr
import Derived.ArgAppend
import Derived.Laws.IdiomCopy
import Derived.OrdersHeld
import Derived.Laws.BitsLemmas
import Derived.RowKit
import Derived.BigCall
import Derived.BigGuard
import Derived.Laws.Strings3
import Derived.Lib.Bytealg
import Derived.Lib.Strings
import Derived.Lib.Walk
import Derived.Test.YtopgcofloldedaaMk
import Derived.Test.YtopgcofloldedaaWWords
import Derived.Test.YtopgcofloldedaaWLast
import Derived.Test.YtopgcofloldedaaWTab
import Derived.Test.YtopgcofloldedaaWFour
import Derived.Test.YtopgcofloldedaaWQPut
import Derived.Test.YtopgcofloldedaaWApart
import Derived.Test.YtopgcofloldedaaWArr
import Derived.Test.YtopgcofloldedaaWZeros
import Derived.Test.YtopgcofloldedaaWFoot
import Derived.Test.YtopgcofloldedaaWKept
import Derived.Test.YtopgcofloldedaaWShare
import Derived.Test.YtopgcofloldedaaWN
import Derived.Test.YtopgcofloldedaaWFootNe
import Derived.Test.YtopgcofloldedaaWAt
import Derived.Test.YtopgcofloldedaaWEqStruct
import Derived.Test.YtopgcofloldedaaWRepsOne
import Derived.Test.YtopgcofloldedaaWInv
import Derived.Test.YtopgcofloldedaaWInvWords
import Derived.Test.YtopgcofloldedaaWGuard
import Derived.Test.YtopgcofloldedaaWNEv
import Derived.Test.YtopgcofloldedaaWMore
namespace Go.Proofs.Ytopgcofloldedaa.Pa
open Go.RowKit Go.Proofs.YtopgcofloldedaaW.PrintWords Go.Proofs.YtopgcofloldedaaW.PrintLast Go.Proofs.YtopgcofloldedaaW.PrintMore
attribute [local go_sem] max2_int min2_int max_two min_two max_three min_three max_four min_four   -- for this text's walks alone
set_option linter.unusedVariables false
set_option linter.unusedSimpArgs false



def errW : Option Int → Value
  | none => .nilIface
  | some c => .iface 0 (.int .i64 c)
theorem errW_none : errW none = .nilIface := rfl
theorem errW_some (c : Int) : errW (some c) = .iface 0 (.int .i64 c) := rfl

theorem info3 : (Try.prog.info? 3).map (fun i => (i.zero, i.size, i.bytes)) = some (some (.int .i64 0), 1, 8) := by kernel_rfl
theorem info9 : (Try.prog.info? 9).map (fun i => (i.zero, i.size, i.bytes)) = some (some (.string ⟨#[]⟩), 1, 16) := by kernel_rfl
-- the values' own types

end Go.Proofs.Ytopgcofloldedaa.Pa
