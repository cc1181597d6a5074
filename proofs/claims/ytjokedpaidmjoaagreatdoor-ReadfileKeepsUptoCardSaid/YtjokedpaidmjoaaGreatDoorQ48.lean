/- A part of the proof. -/
import Derived.Test.YtjokedpaidmjoaaGreatDoorQ47
set_option linter.all false
namespace Go.Proofs.YtjokedpaidmjoaaGreatDoor.Pa
open Go.RowKit Go.Proofs.YtjokedpaidmjoaaGreatDoorW.PrintWords Go.Proofs.YtjokedpaidmjoaaGreatDoorW.PrintLast Go.Proofs.YtjokedpaidmjoaaGreatDoorW.PrintMore
attribute [local go_sem] dK dL eO eP dw dx dM dN
open Classical in
noncomputable def pylonlaw07_ReadfileKeeps.f (t0:Tar) (a1:ByteArray):Option Bool:=if Rf.FiFit (Rf.fiOf t0)∧a1.size≤70368744177664 then some true else none
theorem pylonlaw07_ReadfileKeeps.calls (t0:Tar) (cs0:List Value) (a1:ByteArray) (r:Bool) (w:World) (hV:GInv w) (hT0:kTar.K w t0 cs0) (h:pylonlaw07_ReadfileKeeps.f t0 a1=some r) :
  Calls Tryz.prog 8 #[.agg cs0.toArray,.string a1] w fun e w'=>e = .returned (.bool r)∧Below w.heap.size w w':=by
 unfold pylonlaw07_ReadfileKeeps.f at h
 split at h
 ·rename_i hs
  cases h
  obtain⟨hs,h1⟩:=hs
  obtain⟨φ,hS,hv⟩:=Rf.file_sim hT0 (Am.GIv.of hV)
  refine(Rf.keeps_calls (Rf.rdRow_g _) hs h1 φ w.heap.size w [.agg cs0.toArray,.string a1] hS ⟨_,_,rfl,hv,_,_,rfl,rfl,rfl⟩).mono ?_
  rintro e1 w1 ⟨φ',v',u,H',rfl,rfl,_,_,hv,hb⟩
  exact⟨congrArg _ hv,hb⟩
 ·cases h
end Go.Proofs.YtjokedpaidmjoaaGreatDoor.Pa
