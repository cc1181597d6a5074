-- Words of the kit's printer, as laid for this seat, those that this claim uses (pruned by a program of this repo).
import Derived.Test.YtcmhfcciapenfaaDoorWWords
namespace Go.Proofs.YtcmhfcciapenfaaDoorW.PrintWords
open Go.RowKit
section
variable {P : Program} {ops : Array Oper} {rest : List Oper} {o : Oper} {a : Act} {Q : Exit → Act → World → Prop} {W : World}
end
end Go.Proofs.YtcmhfcciapenfaaDoorW.PrintWords
