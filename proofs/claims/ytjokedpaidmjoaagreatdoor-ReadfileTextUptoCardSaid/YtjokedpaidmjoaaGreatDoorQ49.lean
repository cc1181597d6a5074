/- A part of the proof. -/
import Derived.Test.YtjokedpaidmjoaaGreatDoorQ48
set_option linter.all false
namespace Go.Proofs.YtjokedpaidmjoaaGreatDoor.Pa
open Go.RowKit Go.Proofs.YtjokedpaidmjoaaGreatDoorW.PrintWords Go.Proofs.YtjokedpaidmjoaaGreatDoorW.PrintLast Go.Proofs.YtjokedpaidmjoaaGreatDoorW.PrintMore
attribute [local go_sem] dE dF eG eH cu cB dG dH
def pylonlaw07_ReadfileText.f (a0:ByteArray):Option Bool:=if a0.size≤70368744177664 then some true else none
theorem pylonlaw07_ReadfileText.calls (a0:ByteArray) (r:Bool) (w:World) (hV:GInv w) (h:pylonlaw07_ReadfileText.f a0=some r) :
  Calls Tryz.prog 6 #[.string a0] w fun e w'=>e = .returned (.bool r)∧Below w.heap.size w w':=by
 unfold pylonlaw07_ReadfileText.f at h
 split at h
 ·rename_i hs
  cases h
  refine(Rf.text_calls (H:=[]) hs (fun _=>⟨0,0,0,true⟩) w.heap.size w [.string a0] (Am.Sim.nil (Am.GIv.of hV)) ⟨_,_,rfl,rfl,rfl⟩).mono ?_
  rintro e1 w1 ⟨φ',v',u,H',rfl,⟨rfl,_⟩,_,_,hv,hb⟩
  exact⟨congrArg _ hv,hb⟩
 ·cases h
end Go.Proofs.YtjokedpaidmjoaaGreatDoor.Pa
