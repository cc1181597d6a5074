-- Written by mk.py (this repo's program), over the kit's printer: function by function, its Lean function and its contract.
import Derived.Test.YtcmhfcciapenfaaDoorUAwake9
import Derived.Test.YtcmhfcciapenfaaDoorPa0
namespace Go.Proofs.YtcmhfcciapenfaaDoor.Pa
open Go.RowKit Go.Proofs.YtcmhfcciapenfaaDoorW.PrintWords Go.Proofs.YtcmhfcciapenfaaDoorW.PrintLast Go.Proofs.YtcmhfcciapenfaaDoorW.PrintMore
attribute [local go_sem] max2_int min2_int max_two min_two max_three min_three max_four min_four   -- for this text's walks alone
set_option linter.unusedVariables false
set_option linter.unusedSimpArgs false

-- 
def pylonlaw09_awake.f : Option Bool := some true
theorem pylonlaw09_awake.calls (r : Bool) (w : World) (h : pylonlaw09_awake.f = some r) :
    Calls Tryd.prog 10 #[] w fun e w' => e = .returned (.bool r) ∧ Below w.heap.size w w' := by
  injection h with h
  subst h
  exact awake9.calls w

end Go.Proofs.YtcmhfcciapenfaaDoor.Pa
