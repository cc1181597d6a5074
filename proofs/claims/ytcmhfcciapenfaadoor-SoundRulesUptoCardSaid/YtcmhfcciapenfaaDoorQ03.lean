/- A part of the proof. -/
import Derived.ScopeJumps
import Derived.WalkMore
import Derived.Below
import Derived.Test.YtcmhfcciapenfaaDoorProg
import Derived.FnData
import Derived.Lib.LaidTab
import Derived.Lib.ItoaNum
set_option linter.all false
namespace Go.Proofs.YtcmhfcciapenfaaDoor
open Go.RowKit
theorem aJ (l:List UInt8):l.isEmpty = !(l != []):=by cases l <;> rfl
theorem aK (l:List UInt8):l.isEmpty=(l == []):=by cases l <;> rfl
end Go.Proofs.YtcmhfcciapenfaaDoor
