/- A part of the proof. -/
import Derived.Test.YtjokedpaidmjoaaGreatDoorQ47
set_option linter.all false
namespace Go.Proofs.YtjokedpaidmjoaaGreatDoor.Pa
open Go.RowKit Go.Proofs.YtjokedpaidmjoaaGreatDoorW.PrintWords Go.Proofs.YtjokedpaidmjoaaGreatDoorW.PrintLast Go.Proofs.YtjokedpaidmjoaaGreatDoorW.PrintMore
attribute [local go_sem] dK dL eU eX cZ df dM dN
open Classical in
noncomputable def pylonlaw07_ReadfileBytes.f (t0:Tar) (_:Int) (a2:Int) (_:Int):Option Bool:=if Rf.FiFit (Rf.fiOf t0)∧0≤a2∧a2≤255 then some true else none
theorem pylonlaw07_ReadfileBytes.calls (t0:Tar) (cs0:List Value) (a1:Int) (a2:Int) (a3:Int) (r:Bool) (w:World) (hV:GInv w) (hT0:kTar.K w t0 cs0) (h:pylonlaw07_ReadfileBytes.f t0 a1 a2 a3=some r) :
  Calls Tryz.prog 7 #[.agg cs0.toArray,.int .i64 a1,.int .u8 a2,.int .i64 a3] w fun e w'=>e = .returned (.bool r)∧Below w.heap.size w w':=by
 unfold pylonlaw07_ReadfileBytes.f at h
 split at h
 ·rename_i hs
  cases h
  obtain⟨hs,h1,h2⟩:=hs
  obtain⟨b,rfl⟩ : ∃ b:UInt8,a2=(b.toNat:Int):=⟨UInt8.ofNat a2.toNat,by rw[UInt8.toNat_ofNat'];omega⟩
  obtain⟨φ,hS,hv⟩:=Rf.file_sim hT0 (Am.GIv.of hV)
  refine(Rf.bytes_calls (Rf.rdRow_g _) hs φ w.heap.size w [.agg cs0.toArray,.int .i64 a1,.int .u8 (b.toNat:Int),.int .i64 a3] hS ⟨_,_,rfl,hv,_,_,rfl,rfl,_,_,rfl,rfl,_,_,rfl,rfl,rfl⟩).mono ?_
  rintro e1 w1 ⟨φ',v',u,H',rfl,⟨rfl,_⟩,_,_,hv,hb⟩
  exact⟨congrArg _ hv,hb⟩
 ·cases h
end Go.Proofs.YtjokedpaidmjoaaGreatDoor.Pa
