/- A part of the proof. -/
import Derived.Test.YtjokedpaidmjoaaGreatDoorQ41
import Derived.Test.YtjokedpaidmjoaaGreatDoorQ42
set_option linter.all false
namespace Go.Proofs.YtjokedpaidmjoaaGreatDoor.Rf
open Go Go.RowKit Go.Proofs.YtjokedpaidmjoaaGreatDoor.Am Go.Proofs.YtjokedpaidmjoaaGreatDoor.Pu Go.Proofs.YtjokedpaidmjoaaGreatDoor Go.Proofs.YtjokedpaidmjoaaGreatDoorW.PrintWords Go.Proofs.YtjokedpaidmjoaaGreatDoor.Pa
def rdOf (s:S41):Rd:=⟨s.f0,s.f1,s.f2,s.f3,s.f4⟩
structure FiFit (f:Fi):Prop where
 rd : ∀ r∈f.reads,RdW r∧0≤r.flag∧r.flag≤255
 len:f.reads.length≤1048577
 met:f.meter.size≤1048576
 num:in64 f.start∧in64 f.step∧in64 f.slots∧in64 f.mult∧in64 f.turn
theorem FiFit.rw {f:Fi} (h:FiFit f) : ∀ r∈f.reads,RdW r:=fun r hr=>(h.rd r hr).1
end Go.Proofs.YtjokedpaidmjoaaGreatDoor.Rf
