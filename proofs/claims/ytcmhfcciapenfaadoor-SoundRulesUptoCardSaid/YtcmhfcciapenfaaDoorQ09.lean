/- A part of the proof. -/
import Derived.Maps.RangeWalk
import Derived.WideKeyEntry
import Derived.DeepKeys4
import Derived.Test.YtcmhfcciapenfaaDoorQ01
import Derived.Test.YtcmhfcciapenfaaDoorQ08
set_option linter.all false
namespace Go.Proofs.YtcmhfcciapenfaaDoor
open Go Go.RowKit Go.Maps Go.Proofs.YtcmhfcciapenfaaDoorW.PrintWords
theorem day_laidOut:laidOutB Tryd.prog=true:=by kernel_rfl
theorem day_law:WideMaps.KeyLaw Tryd.prog 83:=deep_law_laid day_laidOut (m:=2) (by omega) (of_decide_eq_true (by kernel_rfl)) (by kernel_rfl) (by kernel_rfl)
theorem dB:Keyed Tryd.prog 83:=Keyed.of_law day_law
def dayVal (s:ByteArray) (k:Int):Value:=.agg #[.string s,.int .i64 k]
def dayKey (s:ByteArray) (k:Int):Lit:=.string (keyBytes [.string s.data.toList,.int .i64 k])
theorem day_key {s:ByteArray} {k:Int} (hs:s.size≤140737488355328) (hk : -9223372036854775808≤k∧k < 9223372036854775808):keyOf Tryd.prog 83 (dayVal s k)=some (dayKey s k):=by
 have hu:=Tryd.underlying83
 have hkt:Tryd.prog.keyType 83=true:=by kernel_rfl
 have hc:Tryd.prog.cellsOf 83=2:=by kernel_rfl
 have hc9:Tryd.prog.cellsOf 9=1:=by kernel_rfl
 have hc3:Tryd.prog.cellsOf 3=1:=by kernel_rfl
 have hsz:Tryd.prog.types.size=(Tryd.prog.types.size - 1)+1:=by
  have:0 < Tryd.prog.types.size:=of_decide_eq_true (by kernel_rfl)
  omega
 have wf:(Lit.int .i64 k).wf=true:=by
  have h1:IntKind.i64.min = -9223372036854775808:=by decide
  have h2:IntKind.i64.max=9223372036854775807:=by decide
  simp[Lit.wf,h1,h2]
  omega
 unfold keyOf dayVal dayKey
 simp only[hu]
 rw[if_pos (by simp[hkt,Value.formed,hu,hc])]
 obtain⟨m,hm⟩ : ∃ m,Tryd.prog.types.size=m+1:=⟨_,hsz⟩
 have hml:s.size≤maxLen:=by unfold maxLen;omega
 rw[hm]
 unfold Program.keyLits
 simp only[hu,Value.cells]
 rw[if_pos (by rw[hc];simp)]
 simp[Program.keyLits,Tryd.underlying9,Tryd.underlying3,hc9,hc3,wf,hml]
end Go.Proofs.YtcmhfcciapenfaaDoor
