-- Words of the kit's printer, as laid for this seat, those that this claim uses (pruned by a program of this repo).
import Derived.Test.YtcmhfcciapenfaaDoorWInv
import Derived.Test.YtcmhfcciapenfaaDoorWFootNe
namespace Go.Proofs.YtcmhfcciapenfaaDoorW.PrintWords
open Go.RowKit
end Go.Proofs.YtcmhfcciapenfaaDoorW.PrintWords
namespace Go.Proofs.YtcmhfcciapenfaaDoorW.PrintLast
section
variable {ops : Array Oper} {a : Act} {o og : Oper} {g : Nat} {t : Tmp} {u : Bool}
end
end Go.Proofs.YtcmhfcciapenfaaDoorW.PrintLast
