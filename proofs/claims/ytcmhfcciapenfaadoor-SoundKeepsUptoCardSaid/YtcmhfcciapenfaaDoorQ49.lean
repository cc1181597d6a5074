/- A part of the proof. -/
import Derived.Test.YtcmhfcciapenfaaDoorQ48
namespace Go.Proofs.YtcmhfcciapenfaaDoor.Pu
open Go.RowKit Go.Proofs.YtcmhfcciapenfaaDoorW.PrintWords Go.Proofs.YtcmhfcciapenfaaDoor.Pa
theorem soundKeeps (t:Tar) (w:TarWf t) (hb:tarB t≤1048576) : ∃ k,pylonlaw09_SoundKeeps.f k t=some true:=by
 have hs:=small_of hb
 obtain⟨K,h2⟩:=scheck_ev t (fine_of w hs)
 have h2:=h2 K (Nat.le_refl _)
 dsimp only at h2
 refine⟨K,?_⟩
 have s15:=hs.s15
 have s16:=hs.s16
 have s17:=hs.s17
 have s18:=hs.s18
 unfold pylonlaw09_SoundKeeps.f
 rw[if_pos ⟨⟨by omega,by omega,by omega,by omega,fun b hb=>by have:=s18.2 b hb;omega⟩,copySmall_of hs,by omega,by omega,by omega⟩,h2]
 rfl
end Go.Proofs.YtcmhfcciapenfaaDoor.Pu
