/- A part of the proof. -/
import Derived.Test.YtjokedpaidmjoaaGreatDoorQ47
set_option linter.all false
namespace Go.Proofs.YtjokedpaidmjoaaGreatDoor.Pu
open Go.RowKit Go.Proofs.YtjokedpaidmjoaaGreatDoorW.PrintWords Go.Proofs.YtjokedpaidmjoaaGreatDoor.Pa
theorem readfileParses (a:ByteArray) (h:a.size≤1048576):pylonlaw07_ReadfileParses.f a=some true:=if_pos (by omega)
end Go.Proofs.YtjokedpaidmjoaaGreatDoor.Pu
