/- A part of the proof. -/
import Derived.Test.YtcmhfcciapenfaaDoorQ10
import Derived.Test.YtcmhfcciapenfaaDoorQ28
import Derived.Test.YtcmhfcciapenfaaDoorQ29
import Derived.Test.YtcmhfcciapenfaaDoorQ30
set_option linter.all false
namespace Go.Proofs.YtcmhfcciapenfaaDoor.Pa
open Go.RowKit Go.Proofs.YtcmhfcciapenfaaDoorW.PrintWords Go.Proofs.YtcmhfcciapenfaaDoorW.PrintLast Go.Proofs.YtcmhfcciapenfaaDoorW.PrintMore
attribute [local go_sem] bP bQ cz cK bJ bK bR bS
theorem kTar_ofR {w:World} {base:Nat} (t:Tar) {AS:Option Addr} {cS:Nat} {AH:Option Addr} {cH:Nat} {AW:Option Addr} {cW:Nat} {AB:Option Addr} {cB:Nat} (r15:Kd.R k41 41 w base (fun _=>True) (.slice AS t.f15.length cS) t.f15) (r16:Kd.R k43 43 w base (fun _=>True) (.slice AH t.f16.length cH) t.f16) (r17:Kd.R k45 45 w base (fun _=>True) (.slice AW t.f17.length cW) t.f17) (r18:Kd.R k48 48 w base (fun _=>True) (.slice AB t.f18.length cB) t.f18):kTar.K w t [Value.string t.f0,Value.int .i64 t.f1,Value.int .i64 t.f2,Value.int .i64 t.f3,Value.int .i64 t.f4,Value.int .i64 t.f5,Value.int .i64 t.f6,Value.int .i64 t.f7,Value.int .i64 t.f8,Value.int .i64 t.f9,Value.int .i64 t.f10,Value.int .i64 t.f11,Value.int .i64 t.f12,Value.int .i64 t.f13,Value.int .i64 t.f14,.slice AS t.f15.length cS,.slice AH t.f16.length cH,.slice AW t.f17.length cW,.slice AB t.f18.length cB,Value.int .i64 t.f19,Value.int .i64 t.f20,Value.int .i64 t.f21,Value.int .i64 t.f22,Value.int .i64 t.f23,Value.int .i64 t.f24,Value.int .i64 t.f25,Value.int .i64 t.f26,Value.int .i64 t.f27]:=
 eZ t (A15:=AS) (c15:=cS) (Kd.bN r15).2.1 (Kd.bN r15).2.2 (A16:=AH) (c16:=cH) (Kd.bN r16).2.1 (Kd.bN r16).2.2 (A17:=AW) (c17:=cW) (Kd.bN r17).2.1 (Kd.bN r17).2.2 (A18:=AB) (c18:=cB) (Kd.bN r18).2.1 (Kd.bN r18).2.2
def dF (t:Tar):Bool:=decide (t.f15.length * 32≤140737488355328) && decide (t.f16.length * 32≤140737488355328) && decide (t.f17.length * 56≤140737488355328) && decide (t.f18.length * 40≤140737488355328) && t.f18.all (fun b=>decide (b.f1.length * 16≤140737488355328))
end Go.Proofs.YtcmhfcciapenfaaDoor.Pa
