/- A part of the proof. -/
import Derived.Test.YtcmhfcciapenfaaDoorQ20
set_option linter.all false
namespace Go.Proofs.YtcmhfcciapenfaaDoor.Pa
open Go.RowKit Go.Proofs.YtcmhfcciapenfaaDoorW.PrintWords Go.Proofs.YtcmhfcciapenfaaDoorW.PrintLast Go.Proofs.YtcmhfcciapenfaaDoorW.PrintMore
attribute [local go_sem] bL bM bW bX bG bH bN bO
def pylonref09_Holds.j0:Nat → Int → Int → Int → Bool → Option (Bool)
 |0,_,_,_,_=>none
 |k+1,x5,x7,x9,x37=>if x37=true then (some false) else (if x7≤x9 then (if x5≥x7 then (some (decide (x5≤x9))) else (some false)) else (if x5≥x7 then (some true) else (some (decide (x5≤x9)))))
end Go.Proofs.YtcmhfcciapenfaaDoor.Pa
