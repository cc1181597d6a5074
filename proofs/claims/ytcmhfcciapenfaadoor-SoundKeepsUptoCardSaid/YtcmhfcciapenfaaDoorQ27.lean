/- A part of the proof. -/
import Derived.Test.YtcmhfcciapenfaaDoorQ21
set_option linter.all false
namespace Go.Proofs.YtcmhfcciapenfaaDoor.Pa
open Go.RowKit Go.Proofs.YtcmhfcciapenfaaDoorW.PrintWords Go.Proofs.YtcmhfcciapenfaaDoorW.PrintLast Go.Proofs.YtcmhfcciapenfaaDoorW.PrintMore
attribute [local go_sem] bL bM bW bX bG bH bN bO
def pylonref09_seasons.inside (a b d:Int):Bool:=(decide (a≤b) && decide (a≤d) && decide (d≤b)) || (decide (b < a) && (decide (a≤d) || decide (d≤b)))
end Go.Proofs.YtcmhfcciapenfaaDoor.Pa
