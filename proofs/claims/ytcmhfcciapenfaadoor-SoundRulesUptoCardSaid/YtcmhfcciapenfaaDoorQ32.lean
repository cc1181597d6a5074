/- A part of the proof. -/
import Derived.Test.YtcmhfcciapenfaaDoorQ25
import Derived.Test.YtcmhfcciapenfaaDoorQ31
set_option linter.all false
namespace Go.Proofs.YtcmhfcciapenfaaDoor.Pa
open Go.RowKit Go.Proofs.YtcmhfcciapenfaaDoorW.PrintWords Go.Proofs.YtcmhfcciapenfaaDoorW.PrintLast Go.Proofs.YtcmhfcciapenfaaDoorW.PrintMore
attribute [local go_sem] bJ bL bU bV bA bB bM bN
def dS (t:Tar):Bool:=decide (t.f15.length * 32≤140737488355328) && decide (t.f16.length * 32≤140737488355328) && decide (t.f17.length * 56≤140737488355328) && decide (t.f18.length * 40≤140737488355328) && t.f18.all (fun b=>decide (b.f1.length * 16≤140737488355328))
end Go.Proofs.YtcmhfcciapenfaaDoor.Pa
