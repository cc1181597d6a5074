-- pure text: names (over Base alone)
import Derived.Test.YtcmhfcciapenfaaDoorUBase
import Derived.Test.YtcmhfcciapenfaaDoorPa2
import Derived.Test.YtcmhfcciapenfaaDoorPa7
namespace Go.Proofs.YtcmhfcciapenfaaDoor.Pu
open Go.RowKit Go.Proofs.YtcmhfcciapenfaaDoorW.PrintWords Go.Proofs.YtcmhfcciapenfaaDoor.Pa

end Go.Proofs.YtcmhfcciapenfaaDoor.Pu
