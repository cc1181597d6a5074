/- A part of the proof. -/
import Derived.Test.YtcmhfcciapenfaaDoorQ24
set_option linter.all false
namespace Go.Proofs.YtcmhfcciapenfaaDoor.Pa
open Go.RowKit Go.Proofs.YtcmhfcciapenfaaDoorW.PrintWords Go.Proofs.YtcmhfcciapenfaaDoorW.PrintLast Go.Proofs.YtcmhfcciapenfaaDoorW.PrintMore
attribute [local go_sem] bJ bL bU bV bA bB bM bN
set_option maxHeartbeats 4000000 in
set_option maxRecDepth 100000 in
theorem awake9.calls (w:World):Calls Tryd.prog 10 #[] w fun e w'=>e = .returned (.bool true)∧Below w.heap.size w w':=by
 have hu33:=Tryd.underlying33
 have HB:=ag.mk (Below.refl w.heap.size w)
 go_enter Tryd.func10,Tryd.ntmps10
 go_upto_region 2 with (first|(go_at_call 20;refine(flat9.calls _).mono ?_;rintro e_ w_ ⟨cs,rfl,hK,hb_⟩;have n0_:=ag.mk (aj (by repeat(first|(with_reducible first|exact HB.o|apply ae|apply aa|apply af)|exact HB.o)) hb_);clear HB;have HB:=n0_;clear n0_;clear hb_;have HK:=ag.mk hK;clear hK)|(go_at_call 12;refine(sCheck.calls 20 flatT cs 0 0 _ HK.o Pu.check_flat).mono ?_;rintro e_ w_ ⟨rfl,hb_⟩;have n0_:=ag.mk (aj (by repeat(first|(with_reducible first|exact HB.o|apply ae|apply aa|apply af)|exact HB.o)) hb_);clear HB;have HB:=n0_;clear n0_;clear hb_;clear HK))
 go_upto_region 3 with ((go_at_call 12;refine(sCheck.calls 20 Pu.nameT [.string (⟨#[120]⟩ : ByteArray),.int .i64 0,.int .i64 0,.int .i64 0,.int .i64 0,.int .i64 0,.int .i64 0,.int .i64 0,.int .i64 0,.int .i64 0,.int .i64 0,.int .i64 0,.int .i64 0,.int .i64 0,.int .i64 0,.slice none 0 0,.slice none 0 0,.slice none 0 0,.slice none 0 0,.int .i64 0,.int .i64 0,.int .i64 0,.int .i64 0,.int .i64 0,.int .i64 0,.int .i64 0,.int .i64 0,.int .i64 0] 2 2 _ (kTar_mk Pu.nameT (A15:=none) (c15:=0) (Nat.le_refl 0) (Kd.dz (Kd.R_nil k41 41 _ 0 (fun _=>True))).2.2 (A16:=none) (c16:=0) (Nat.le_refl 0) (Kd.dz (Kd.R_nil k43 43 _ 0 (fun _=>True))).2.2 (A17:=none) (c17:=0) (Nat.le_refl 0) (Kd.dz (Kd.R_nil k45 45 _ 0 (fun _=>True))).2.2 (A18:=none) (c18:=0) (Nat.le_refl 0) (Kd.dz (Kd.R_nil k48 48 _ 0 (fun _=>True))).2.2) Pu.check_name).mono ?_;rintro e_ w_ ⟨rfl,hb_⟩;have n0_:=ag.mk (aj (by repeat(first|(with_reducible first|exact HB.o|apply ae|apply aa|apply af)|exact HB.o)) hb_);clear HB;have HB:=n0_;clear n0_;clear hb_))
 go_wp2_with ((go_at_call 16;refine(sound_Day.calls 229 60 0 _ Pu.day_229).mono ?_;rintro e_ w_ ⟨rfl,hb_⟩;have n0_:=ag.mk (aj (by repeat(first|(with_reducible first|exact HB.o|apply ae|apply aa|apply af)|exact HB.o)) hb_);clear HB;have HB:=n0_;clear n0_;clear hb_))
 go_ret
 exact⟨rfl,(by repeat(first|(with_reducible first|exact HB.o|apply ae|apply aa|apply af)|exact HB.o))⟩
end Go.Proofs.YtcmhfcciapenfaaDoor.Pa
