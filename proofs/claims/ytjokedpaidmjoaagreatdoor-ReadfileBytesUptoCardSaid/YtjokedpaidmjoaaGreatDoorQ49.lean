/- A part of the proof. -/
import Derived.Test.YtjokedpaidmjoaaGreatDoorQ48
set_option linter.all false
namespace Go.Proofs.YtjokedpaidmjoaaGreatDoor.Pu
open Go.RowKit Go.Proofs.YtjokedpaidmjoaaGreatDoorW.PrintWords Go.Proofs.YtjokedpaidmjoaaGreatDoor.Pa
def tarB (t:Tar):Nat:=Rf.tarB t
theorem readfileBytes (t:Tar) (a1 a2 a3:Int) (w:Rf.TarWf t) (_:(Lit.int .i64 a1).wf=true) (w2:(Lit.int .u8 a2).wf=true) (_:(Lit.int .i64 a3).wf=true) (hb:tarB t≤1048576):pylonlaw07_ReadfileBytes.f t a1 a2 a3=some true:=if_pos ⟨Rf.fit_of w hb,Rf.u8w_in w2⟩
end Go.Proofs.YtjokedpaidmjoaaGreatDoor.Pu
