/- A part of the proof. -/
import Derived.Test.YtjokedpaidmjoaaGreatDoorQ49
set_option linter.all false
namespace Go.Proofs.YtjokedpaidmjoaaGreatDoor.Pu
open Go.RowKit Go.Proofs.YtjokedpaidmjoaaGreatDoorW.PrintWords Go.Proofs.YtjokedpaidmjoaaGreatDoor.Pa
theorem readfileText (a:ByteArray) (h:a.size≤1048576):pylonlaw07_ReadfileText.f a=some true:=if_pos (by omega)
end Go.Proofs.YtjokedpaidmjoaaGreatDoor.Pu
