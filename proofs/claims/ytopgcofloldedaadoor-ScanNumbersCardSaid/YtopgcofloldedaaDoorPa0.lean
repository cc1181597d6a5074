-- Written by mk.py (this repo's program), over the kit's printer: function by function, its Lean function and its contract.
import Derived.Test.YtopgcofloldedaaDoorProg
import Derived.Below
import Derived.Deep.Draws
import Derived.Deep.AppendLies
import Derived.Maps.AppendAt
import Derived.OwnWalk
import Derived.Laws.BytesArg
import Derived.Laws.MakeOwn
import Derived.Laws.OwnMore
import Derived.Deep.OwnRows
import Derived.Tactics
import Derived.Lib.ConvBytes
import Derived.Laws.Slices
import Derived.WalkKit
import Derived.KernelRfl
import Derived.RowKit3
import Derived.Deep.LoopGhost
import Derived.Deep.QuietTactic
import Derived.BigQuiet
import Derived.WideLaws
import Derived.Deep.DeepCutAuto
import Derived.Deep.CutBlock
import Derived.Deep.RegionHeld3
import Derived.Laws.Rows
import Derived.Lib.AppendStr
import Derived.ArgAppend
import Derived.Laws.IdiomCopy
import Derived.OrdersHeld
import Derived.Laws.BitsLemmas
import Derived.RowKit
import Derived.BigCall
import Derived.BigGuard
import Derived.Laws.Strings3
import Derived.Lib.AtoiErrMem
import Derived.Lib.Bytealg
import Derived.Lib.ParseIntB
import Derived.Lib.Strings
import Derived.Lib.Walk
import Derived.Shelf.Strconv.ErrVarParseInt
import Derived.Test.YtopgcofloldedaaDoorSh
import Derived.WideLaws
import Derived.Test.YtopgcofloldedaaDoorMk
import Derived.Test.YtopgcofloldedaaDoorWWords
import Derived.Test.YtopgcofloldedaaDoorWLast
import Derived.Test.YtopgcofloldedaaDoorWTab
import Derived.Test.YtopgcofloldedaaDoorWFour
import Derived.Test.YtopgcofloldedaaDoorWQPut
import Derived.Test.YtopgcofloldedaaDoorWApart
import Derived.Test.YtopgcofloldedaaDoorWArr
import Derived.Test.YtopgcofloldedaaDoorWZeros
import Derived.Test.YtopgcofloldedaaDoorWFoot
import Derived.Test.YtopgcofloldedaaDoorWKept
import Derived.Test.YtopgcofloldedaaDoorWShare
import Derived.Test.YtopgcofloldedaaDoorWN
import Derived.Test.YtopgcofloldedaaDoorWFootNe
import Derived.Test.YtopgcofloldedaaDoorWAt
import Derived.Test.YtopgcofloldedaaDoorWEqStruct
import Derived.Test.YtopgcofloldedaaDoorWRepsOne
import Derived.Test.YtopgcofloldedaaDoorWInv
import Derived.Test.YtopgcofloldedaaDoorWInvWords
import Derived.Test.YtopgcofloldedaaDoorWGuard
import Derived.Test.YtopgcofloldedaaDoorWNEv
import Derived.Test.YtopgcofloldedaaDoorWMore
namespace Go.Proofs.YtopgcofloldedaaDoor.Pa
open Go.RowKit Go.Proofs.YtopgcofloldedaaDoorW.PrintWords Go.Proofs.YtopgcofloldedaaDoorW.PrintLast Go.Proofs.YtopgcofloldedaaDoorW.PrintMore
attribute [local go_sem] max2_int min2_int max_two min_two max_three min_three max_four min_four   -- for this text's walks alone
set_option linter.unusedVariables false
set_option linter.unusedSimpArgs false



def errW : Option Int → Value
  | none => .nilIface
  | some c => .iface 0 (.int .i64 c)
theorem errW_none : errW none = .nilIface := rfl
theorem errW_some (c : Int) : errW (some c) = .iface 0 (.int .i64 c) := rfl

theorem info9 : (Tryd.prog.info? 9).map (fun i => (i.zero, i.size, i.bytes)) = some (some (.string ⟨#[]⟩), 1, 16) := by kernel_rfl
-- the values' own types

end Go.Proofs.YtopgcofloldedaaDoor.Pa
