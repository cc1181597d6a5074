/-
  This repo's own words beside the printer's: a scope with several labels; small facts.
-/
import Derived.ScopeJumps
import Derived.WalkMore
import Derived.Below
import Derived.Test.YtcmhfcciapenfaaDoorProg
import Derived.FnData
import Derived.Lib.LaidTab
import Derived.Lib.ItoaNum
namespace Go.Proofs.YtcmhfcciapenfaaDoor
open Go.RowKit

/-- What the library's variables hold, where a contract asks it. -/
structure GInv (w : World) : Prop where
  any : True
theorem GInv.below {w w' : World} (h : GInv w) (hb : Below w.heap.size w w') : GInv w' where
  any := trivial

theorem isEmpty_bne (l : List UInt8) : l.isEmpty = !(l != []) := by cases l <;> rfl
theorem isEmpty_beq (l : List UInt8) : l.isEmpty = (l == []) := by cases l <;> rfl
end Go.Proofs.YtcmhfcciapenfaaDoor
