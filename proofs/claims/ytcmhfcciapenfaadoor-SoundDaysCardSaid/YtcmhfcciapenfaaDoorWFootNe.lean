-- Words of the kit's printer, as laid for this seat, those that this claim uses (pruned by a program of this repo).
import Derived.Test.YtcmhfcciapenfaaDoorWN
namespace Go.Proofs.YtcmhfcciapenfaaDoorW.PrintWords
open Go.RowKit
namespace Kd
section
variable {α : Type} {d : Kd α} {W : World} {g n : Nat} {S ok : Nat → Prop} {A : Option Addr} {ad : Addr} {xs : List α}
end
end Kd
end Go.Proofs.YtcmhfcciapenfaaDoorW.PrintWords
