/- A part of the proof. -/
import Derived.Test.YtjokedpaidmjoaaGreatDoorQ04
set_option linter.all false
namespace Go.Proofs.YtjokedpaidmjoaaGreatDoor.Pa
open Go.RowKit Go.Proofs.YtjokedpaidmjoaaGreatDoorW.PrintWords Go.Proofs.YtjokedpaidmjoaaGreatDoorW.PrintLast Go.Proofs.YtjokedpaidmjoaaGreatDoorW.PrintMore
structure S41 where
 f0:Int
 f1:Int
 f2:Int
 f3:Int
 f4:Int
end Go.Proofs.YtjokedpaidmjoaaGreatDoor.Pa
