/- A part of the proof. -/
import Derived.Test.YtcmhfcciapenfaaDoorQ17
import Derived.Test.YtcmhfcciapenfaaDoorQ18
import Derived.Test.YtcmhfcciapenfaaDoorQ22
import Derived.Test.YtcmhfcciapenfaaDoorQ23
set_option linter.all false
namespace Go.Proofs.YtcmhfcciapenfaaDoor.Pu
open Go.RowKit Go.Proofs.YtcmhfcciapenfaaDoorW.PrintWords Go.Proofs.YtcmhfcciapenfaaDoor.Pa
def nameT:Tar:=⟨(⟨#[120]⟩ : ByteArray),0,0,0,0,0,0,0,0,0,0,0,0,0,0,[],[],[],[],0,0,0,0,0,0,0,0,0⟩
theorem tiles_one (a:S79) (n:Int) (h:a.f0 < a.f1):sound_tiles.f [a] n=some (sound_tiles.chain [a] 0 n):=by
 unfold sound_tiles.f
 rw[if_pos ⟨by simp,by simp[h]⟩,List.mergeSort_singleton]
theorem seasons_flat:sound_seasons.f flatS=some true:=by
 have h1:sound_Day.f 101=some (1,0):=by decide +kernel
 have h2:sound_Day.f 1231=some (366,0):=by decide +kernel
 have h3:scan_Name.f (⟨#[97,108,108]⟩ : ByteArray)=some true:=by decide +kernel
 unfold sound_seasons.f flatS
 rw[if_pos (by decide)]
 simp only[sound_seasons.go,h1,h2,h3,Option.bind_some]
 rw[if_neg (by decide),if_neg (by decide),if_pos (by decide),if_neg (by simp),if_neg (by decide),if_pos (by decide)]
 simp only[Option.bind_some,List.nil_append]
 have h4:sound_within.f (([⟨(⟨#[97,108,108]⟩ : ByteArray),101,1231⟩] : List S41).length:Int) 1 64=some true:=by decide +kernel
 rw[h4]
 simp only[Option.bind_some,if_true]
 rw[tiles_one _ _ (by decide +kernel)]
 decide +kernel
theorem windows_flat:sound_windows.f flatT=some true:=by
 have hr : ∀ q∈[(0:Int),1,2,3],sound_windows.runs (flatW 4) ((⟨#[97,108,108]⟩ : ByteArray).data.toList,q) = [⟨0,1440⟩]:=by
  intro q hq
  simp only[List.mem_cons,List.not_mem_nil,or_false] at hq
  rcases hq with rfl|rfl|rfl|rfl <;> rfl
 have hf : ∀ q∈[(0:Int),1,2,3],sound_windows.full (flatW 4) ((⟨#[97,108,108]⟩ : ByteArray).data.toList,q)=true:=by
  intro q hq
  unfold sound_windows.full
  rw[hr q hq,List.mergeSort_singleton]
  rfl
 have hs:flatT.f15.all (sound_windows.fullS flatT.f17)=true:=by
  show(sound_windows.fullS (flatW 4) ⟨(⟨#[97,108,108]⟩ : ByteArray),101,1231⟩ && true)=true
  unfold sound_windows.fullS
  rw[hf 0 (by simp),hf 1 (by simp),hf 2 (by simp),hf 3 (by simp)]
  rfl
 unfold sound_windows.f
 rw[if_pos (by decide +kernel),if_pos (by decide +kernel),if_pos hs]
 decide +kernel
theorem check_flat:sCheck.f 20 flatT=some (0,0):=by
 unfold sCheck.f
 have h1:scan_Name.f flatT.f0=some true:=by decide +kernel
 have h2:zone_Check.f 20 flatT.f1 flatT.f2 flatT.f3 flatT.f4 flatT.f5 flatT.f6 flatT.f7 flatT.f8 flatT.f9 flatT.f10=some 0:=by decide +kernel
 have h3:sound_seasons.f flatT.f15=some true:=seasons_flat
 have h4:sound_holidays.f 20 flatT.f16=some true:=by decide +kernel
 have h5:sound_blocks.f 20 flatT.f18=some true:=by decide +kernel
 rw[h1,h2,h3,h4,h5,windows_flat]
 rfl
theorem check_name:sCheck.f 20 nameT=some (2,2):=by
 unfold sCheck.f
 have h1:scan_Name.f nameT.f0=some true:=by decide +kernel
 have h2:zone_Check.f 20 nameT.f1 nameT.f2 nameT.f3 nameT.f4 nameT.f5 nameT.f6 nameT.f7 nameT.f8 nameT.f9 nameT.f10=some 0:=by decide +kernel
 have h3:sound_seasons.f nameT.f15=some false:=by
  show sound_seasons.f []=some false
  unfold sound_seasons.f
  rw[if_pos (by decide)]
  rfl
 have h4:sound_holidays.f 20 nameT.f16=some true:=by decide +kernel
 have h5:sound_blocks.f 20 nameT.f18=some false:=by decide +kernel
 have h6:sound_windows.f nameT=some false:=by
  unfold sound_windows.f
  rw[if_pos (by decide +kernel),if_pos (by decide +kernel),if_pos (by rfl)]
  decide +kernel
 rw[h1,h2,h3,h4,h5,h6]
 rfl
theorem day_229:sound_Day.f 229=some (60,0):=by decide +kernel
end Go.Proofs.YtcmhfcciapenfaaDoor.Pu
