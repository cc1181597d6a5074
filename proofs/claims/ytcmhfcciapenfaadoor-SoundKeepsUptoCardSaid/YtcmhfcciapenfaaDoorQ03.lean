/- A part of the proof. -/
import Derived.ScopeJumps
import Derived.WalkMore
import Derived.Below
import Derived.Test.YtcmhfcciapenfaaDoorProg
import Derived.FnData
import Derived.Lib.LaidTab
import Derived.Lib.ItoaNum
namespace Go.Proofs.YtcmhfcciapenfaaDoor
open Go.RowKit
theorem aQ (l:List UInt8):l.isEmpty = !(l != []):=by cases l <;> rfl
theorem aR (l:List UInt8):l.isEmpty=(l == []):=by cases l <;> rfl
end Go.Proofs.YtcmhfcciapenfaaDoor
