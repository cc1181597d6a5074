/- A part of the proof. -/
import Derived.Test.YtjokedpaidmjoaaGreatDoorQ47
set_option linter.all false
namespace Go.Proofs.YtjokedpaidmjoaaGreatDoor.Pa
open Go.RowKit Go.Proofs.YtjokedpaidmjoaaGreatDoorW.PrintWords Go.Proofs.YtjokedpaidmjoaaGreatDoorW.PrintLast Go.Proofs.YtjokedpaidmjoaaGreatDoorW.PrintMore
attribute [local go_sem] dD dE eF eG cu cB dF dG
open Classical in
noncomputable def pylonlaw07_ReadfileBack.f (t0:Tar):Option Bool:=if Rf.FiFit (Rf.fiOf t0) then some true else none
theorem pylonlaw07_ReadfileBack.calls (t0:Tar) (cs0:List Value) (r:Bool) (w:World) (hV:GInv w) (hT0:kTar.K w t0 cs0) (h:pylonlaw07_ReadfileBack.f t0=some r) :
  Calls Tryz.prog 5 #[.agg cs0.toArray] w fun e w'=>e = .returned (.bool r)∧Below w.heap.size w w':=by
 unfold pylonlaw07_ReadfileBack.f at h
 split at h
 ·rename_i hs
  cases h
  obtain⟨φ,hS,hv⟩:=Rf.file_sim hT0 (Am.GIv.of hV)
  refine(Rf.back_calls (Rf.rdRow_g _) hs φ w.heap.size w [.agg cs0.toArray] hS ⟨_,_,rfl,hv,rfl⟩).mono ?_
  rintro e1 w1 ⟨φ',v',u,H',rfl,⟨rfl,_⟩,_,_,hv,hb⟩
  exact⟨congrArg _ hv,hb⟩
 ·cases h
end Go.Proofs.YtjokedpaidmjoaaGreatDoor.Pa
