-- Words of the kit's printer, as laid for this seat, those that this claim uses (pruned by a program of this repo).
import Derived.Test.YtcmhfcciapenfaaDoorWWords
import Derived.Laws.StructEq
namespace Go.Proofs.YtcmhfcciapenfaaDoorW.PrintWords
open Go.RowKit
section
variable {P : Program} {d : Nat} {xs ys : Array Value} {f : Field} {fs : List Field} {a b : Value} {r s : Bool} {w : World}
end
end Go.Proofs.YtcmhfcciapenfaaDoorW.PrintWords
