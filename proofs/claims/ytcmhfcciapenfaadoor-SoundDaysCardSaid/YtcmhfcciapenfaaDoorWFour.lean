-- Words of the kit's printer, as laid for this seat, those that this claim uses (pruned by a program of this repo).
import Derived.Test.YtcmhfcciapenfaaDoorWTab
namespace Go.Proofs.YtcmhfcciapenfaaDoorW.PrintLast
section
variable {P : Program} {ops : Array Oper} {Q : Exit → Act → World → Prop} {md : Region.Mode} {S : World → Prop} {ds : List Nat} {T : Bool × List (List Nat × List Nat)}
end
end Go.Proofs.YtcmhfcciapenfaaDoorW.PrintLast
