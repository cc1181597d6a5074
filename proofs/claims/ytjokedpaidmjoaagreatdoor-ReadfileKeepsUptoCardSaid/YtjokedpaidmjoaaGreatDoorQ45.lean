/- A part of the proof. -/
import Derived.Test.YtjokedpaidmjoaaGreatDoorQ41
import Derived.Lib.ItoaMem
set_option linter.all false
namespace Go.Proofs.YtjokedpaidmjoaaGreatDoor.Rf
open Go Go.RowKit Go.Proofs.YtjokedpaidmjoaaGreatDoor.Am Go.Proofs.YtjokedpaidmjoaaGreatDoorW.PrintWords Go.Proofs.YtjokedpaidmjoaaGreatDoor.Pa Go.Proofs.YtjokedpaidmjoaaGreatDoor.Pu Go.Proofs.YtjokedpaidmjoaaGreatDoor
theorem Bs_inj {a b:ByteArray} (h:Bs a=Bs b):a=b:=by
 have:=congrArg toB h
 rwa [toB_Bs,toB_Bs] at this
end Go.Proofs.YtjokedpaidmjoaaGreatDoor.Rf
set_option linter.all false
namespace Go.Proofs.YtjokedpaidmjoaaGreatDoor.Rf
open Go Go.RowKit Go.Proofs.YtjokedpaidmjoaaGreatDoor.Am Go.Proofs.YtjokedpaidmjoaaGreatDoorW.PrintWords Go.Proofs.YtjokedpaidmjoaaGreatDoor.Pa Go.Proofs.YtjokedpaidmjoaaGreatDoor.Pu Go.Proofs.YtjokedpaidmjoaaGreatDoor
def flat (ls:List (List UInt8)):List UInt8:=(ls.map (· ++ [10])).flatten
end Go.Proofs.YtjokedpaidmjoaaGreatDoor.Rf
