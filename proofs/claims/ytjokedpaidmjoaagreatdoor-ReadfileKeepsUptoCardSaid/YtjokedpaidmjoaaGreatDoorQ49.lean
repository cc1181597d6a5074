/- A part of the proof. -/
import Derived.Test.YtjokedpaidmjoaaGreatDoorQ48
set_option linter.all false
namespace Go.Proofs.YtjokedpaidmjoaaGreatDoor.Pu
open Go.RowKit Go.Proofs.YtjokedpaidmjoaaGreatDoorW.PrintWords Go.Proofs.YtjokedpaidmjoaaGreatDoor.Pa
def tarB (t:Tar):Nat:=Rf.tarB t
theorem readfileKeeps (t:Tar) (a:ByteArray) (w:Rf.TarWf t) (hb:tarB t≤1048576∧a.size≤1048576):pylonlaw07_ReadfileKeeps.f t a=some true:=if_pos ⟨Rf.fit_of w hb.1,by omega⟩
end Go.Proofs.YtjokedpaidmjoaaGreatDoor.Pu
