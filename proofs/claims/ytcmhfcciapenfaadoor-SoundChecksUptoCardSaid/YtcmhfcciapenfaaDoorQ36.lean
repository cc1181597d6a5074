/- A part of the proof. -/
import Derived.Test.YtcmhfcciapenfaaDoorQ35
set_option linter.all false
namespace Go.Proofs.YtcmhfcciapenfaaDoor.Pa
open Go.RowKit Go.Proofs.YtcmhfcciapenfaaDoorW.PrintWords Go.Proofs.YtcmhfcciapenfaaDoorW.PrintLast Go.Proofs.YtcmhfcciapenfaaDoorW.PrintMore
attribute [local go_sem] bL bM bV bW bF bG bN bO
def pylonlaw09_SoundChecks.f (k:Nat) (t0:Tar):Option Bool:=soundChecks9.f k t0
theorem pylonlaw09_SoundChecks.mono : ∀ t0 k,LeO (pylonlaw09_SoundChecks.f k t0) (pylonlaw09_SoundChecks.f (k+1) t0):=soundChecks9.mono
theorem pylonlaw09_SoundChecks.calls (k:Nat) (t0:Tar) (cs0:List Value) (r:Bool) (w:World) (hT0:kTar.K w t0 cs0) (h:pylonlaw09_SoundChecks.f k t0=some r) :
  Calls Tryd.prog 3 #[.agg cs0.toArray] w fun e w'=>e = .returned (.bool r)∧Below w.heap.size w w':=by
 exact soundChecks9.calls k t0 cs0 r w hT0 h
end Go.Proofs.YtcmhfcciapenfaaDoor.Pa
