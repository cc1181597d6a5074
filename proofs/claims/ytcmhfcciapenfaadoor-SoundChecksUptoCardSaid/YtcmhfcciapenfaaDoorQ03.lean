/- A part of the proof. -/
import Derived.ScopeJumps
import Derived.WalkMore
import Derived.Below
import Derived.Test.YtcmhfcciapenfaaDoorProg
import Derived.FnData
import Derived.Lib.LaidTab
import Derived.Lib.ItoaNum
namespace Go.Proofs.YtcmhfcciapenfaaDoor
open Go.RowKit
structure GInv (w:World):Prop where
 any:True
theorem GInv.below {w w' : World} (h:GInv w) (hb:Below w.heap.size w w'):GInv w' where
 any:=trivial
theorem aN (l:List UInt8):l.isEmpty = !(l != []):=by cases l <;> rfl
theorem aQ (l:List UInt8):l.isEmpty=(l == []):=by cases l <;> rfl
end Go.Proofs.YtcmhfcciapenfaaDoor
