/- A part of the proof. -/
import Derived.Test.YtcmhfcciapenfaaDoorQ28
set_option linter.all false
namespace Go.Proofs.YtcmhfcciapenfaaDoor.Pa
open Go.RowKit Go.Proofs.YtcmhfcciapenfaaDoorW.PrintWords Go.Proofs.YtcmhfcciapenfaaDoorW.PrintLast Go.Proofs.YtcmhfcciapenfaaDoorW.PrintMore
attribute [local go_sem] bL bM bV bW bF bG bN bO
def pylonlaw09_awake.f:Option Bool:=some true
theorem pylonlaw09_awake.calls (r:Bool) (w:World) (h:pylonlaw09_awake.f=some r) :
  Calls Tryd.prog 10 #[] w fun e w'=>e = .returned (.bool r)∧Below w.heap.size w w':=by
 injection h with h
 subst h
 exact awake9.calls w
end Go.Proofs.YtcmhfcciapenfaaDoor.Pa
