/- A part of the proof. -/
import Derived.Test.YtcmhfcciapenfaaDoorQ44
import Derived.Test.YtcmhfcciapenfaaDoorQ42
import Derived.Test.YtcmhfcciapenfaaDoorQ14
import Derived.Test.YtcmhfcciapenfaaDoorQ07
namespace Go.Proofs.YtcmhfcciapenfaaDoor.Pu
open Go.RowKit Go.Proofs.YtcmhfcciapenfaaDoorW.PrintWords Go.Proofs.YtcmhfcciapenfaaDoor.Pa
def windowsOk (t:Tar):Bool:=t.f17.all (sound_windows.good t.f15 t.f18) && t.f15.all (sound_windows.fullS t.f17) && lenOk t.f17.length
theorem windows_at (t:Tar) (h:sound_windows.small t=true):sound_windows.f t=some (windowsOk t):=by
 unfold sound_windows.f windowsOk
 rw[if_pos h,dM]
 cases t.f17.all (sound_windows.good t.f15 t.f18) with
 |false=>simp
 |true=>
  rw[if_pos rfl]
  cases t.f15.all (sound_windows.fullS t.f17) with
  |false=>simp
  |true=>simp
end Go.Proofs.YtcmhfcciapenfaaDoor.Pu
