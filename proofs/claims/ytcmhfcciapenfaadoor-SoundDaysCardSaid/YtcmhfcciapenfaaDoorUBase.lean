-- pure text: bytes, lists, rounds; over the printer's words alone
import Derived.Test.YtcmhfcciapenfaaDoorWWords
import Derived.Lib.Strings
namespace Go.Proofs.YtcmhfcciapenfaaDoor.Pu
open Go.RowKit Go.Proofs.YtcmhfcciapenfaaDoorW.PrintWords

/-- The bytes of a text. -/
def Bs (a : ByteArray) : List UInt8 := a.data.toList

theorem w64 {x : Int} (h0 : -9223372036854775808 ≤ x) (h1 : x ≤ 9223372036854775807) : wrap64 x = x := by
  unfold wrap64; omega

end Go.Proofs.YtcmhfcciapenfaaDoor.Pu
