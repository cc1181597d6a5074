/- A part of the proof. -/
import Derived.BigCall
import Derived.BigGuard
import Derived.Laws.Strings3
import Derived.Lib.AtoiErrMem
import Derived.Lib.Bytealg
import Derived.Lib.ParseIntB
import Derived.Lib.Strings
import Derived.Lib.Walk
import Derived.Test.YtjokedpaidmjoaaGreatDoorQ03
import Derived.Test.YtjokedpaidmjoaaGreatDoorMk
import Derived.Deep.MidRow
import Derived.Test.YtjokedpaidmjoaaGreatDoorQ00
set_option linter.all false
namespace Go.Proofs.YtjokedpaidmjoaaGreatDoor.Pa
open Go.RowKit Go.Proofs.YtjokedpaidmjoaaGreatDoorW.PrintWords Go.Proofs.YtjokedpaidmjoaaGreatDoorW.PrintLast Go.Proofs.YtjokedpaidmjoaaGreatDoorW.PrintMore
attribute [local go_sem] dK dL eO eP dw dx dM dN
def errW:Option Int → Value
 |none=>.nilIface
 |some c=>.iface 0 (.int .i64 c)
theorem aj:errW none = .nilIface:=rfl
theorem ak (c:Int):errW (some c) = .iface 0 (.int .i64 c):=rfl
theorem info3:(Tryz.prog.info? 3).map (fun i=>(i.zero,i.size,i.bytes))=some (some (.int .i64 0),1,8):=by kernel_rfl
theorem info9:(Tryz.prog.info? 9).map (fun i=>(i.zero,i.size,i.bytes))=some (some (.string ⟨#[]⟩),1,16):=by kernel_rfl
end Go.Proofs.YtjokedpaidmjoaaGreatDoor.Pa
