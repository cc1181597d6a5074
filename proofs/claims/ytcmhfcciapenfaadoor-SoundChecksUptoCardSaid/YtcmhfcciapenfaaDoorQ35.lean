/- A part of the proof. -/
import Derived.Test.YtcmhfcciapenfaaDoorQ10
import Derived.Test.YtcmhfcciapenfaaDoorQ28
import Derived.Test.YtcmhfcciapenfaaDoorQ34
set_option linter.all false
namespace Go.Proofs.YtcmhfcciapenfaaDoor.Pa
open Go.RowKit Go.Proofs.YtcmhfcciapenfaaDoorW.PrintWords Go.Proofs.YtcmhfcciapenfaaDoorW.PrintLast Go.Proofs.YtcmhfcciapenfaaDoorW.PrintMore
attribute [local go_sem] bL bM bV bW bF bG bN bO
theorem kTar_ofR {w:World} {base:Nat} (t:Tar) {AS:Option Addr} {cS:Nat} {AH:Option Addr} {cH:Nat} {AW:Option Addr} {cW:Nat} {AB:Option Addr} {cB:Nat} (r15:Kd.R k41 41 w base (fun _=>True) (.slice AS t.f15.length cS) t.f15) (r16:Kd.R k43 43 w base (fun _=>True) (.slice AH t.f16.length cH) t.f16) (r17:Kd.R k45 45 w base (fun _=>True) (.slice AW t.f17.length cW) t.f17) (r18:Kd.R k48 48 w base (fun _=>True) (.slice AB t.f18.length cB) t.f18):kTar.K w t [Value.string t.f0,Value.int .i64 t.f1,Value.int .i64 t.f2,Value.int .i64 t.f3,Value.int .i64 t.f4,Value.int .i64 t.f5,Value.int .i64 t.f6,Value.int .i64 t.f7,Value.int .i64 t.f8,Value.int .i64 t.f9,Value.int .i64 t.f10,Value.int .i64 t.f11,Value.int .i64 t.f12,Value.int .i64 t.f13,Value.int .i64 t.f14,.slice AS t.f15.length cS,.slice AH t.f16.length cH,.slice AW t.f17.length cW,.slice AB t.f18.length cB,Value.int .i64 t.f19,Value.int .i64 t.f20,Value.int .i64 t.f21,Value.int .i64 t.f22,Value.int .i64 t.f23,Value.int .i64 t.f24,Value.int .i64 t.f25,Value.int .i64 t.f26,Value.int .i64 t.f27]:=
 kTar_mk t (A15:=AS) (c15:=cS) (Kd.bY r15).2.1 (Kd.bY r15).2.2 (A16:=AH) (c16:=cH) (Kd.bY r16).2.1 (Kd.bY r16).2.2 (A17:=AW) (c17:=cW) (Kd.bY r17).2.1 (Kd.bY r17).2.2 (A18:=AB) (c18:=cB) (Kd.bY r18).2.1 (Kd.bY r18).2.2
def eY (t:Tar):Bool:=decide (t.f15.length * 32≤140737488355328) && decide (t.f16.length * 32≤140737488355328) && decide (t.f17.length * 56≤140737488355328) && decide (t.f18.length * 40≤140737488355328) && t.f18.all (fun b=>decide (b.f1.length * 16≤140737488355328))
def soundChecks9.f (k:Nat) (t:Tar):Option Bool:=if eY t=true then (rCheck.f k t).bind fun a=>(sCheck.f k t).bind fun b=>some ((b.1 == a.1) && (b.2 == a.2)) else none
theorem soundChecks9.mono (t:Tar) (k:Nat):LeO (soundChecks9.f k t) (soundChecks9.f (k+1) t):=by
 unfold soundChecks9.f
 repeat' first
  |(with_reducible exact LeO.refl _)
  |(with_reducible exact LeO.none _)
  |(with_reducible refine LeO.ite ?_ ?_)
  |(with_reducible refine LeO.bind ?_ (fun _=>?_))
  |exact rCheck.mono _ _
  |exact sCheck.mono _ _
set_option maxHeartbeats 4000000 in
set_option maxRecDepth 100000 in
theorem soundChecks9.calls (k:Nat) (t:Tar) (cs:List Value) (r:Bool) (w:World) (hT:kTar.K w t cs) (h:soundChecks9.f k t=some r) :
  Calls Tryd.prog 3 #[.agg cs.toArray] w fun e w'=>e = .returned (.bool r)∧Below w.heap.size w w':=by
 have hu33:=Tryd.underlying33
 have HS:=ag.mk (show cs.toArray.size=28 from by rw[List.size_toArray];exact fV hT)
 unfold soundChecks9.f at h
 by_cases hc:eY t=true
 ·rw[if_pos hc] at h
  simp only[eY,Bool.and_eq_true,decide_eq_true_eq,List.all_eq_true] at hc
  obtain⟨⟨⟨⟨s15,s16⟩,s17⟩,s18⟩,ss⟩:=hc
  replace s15:=ag.mk s15
  replace s16:=ag.mk s16
  replace s17:=ag.mk s17
  replace s18:=ag.mk s18
  replace ss:=ag.mk ss
  obtain⟨a,ha,h⟩:=Option.bind_eq_some_iff.mp h
  obtain⟨b,hb,h⟩:=Option.bind_eq_some_iff.mp h
  obtain rfl:=Option.some.inj h
  have HA:=ag.mk ha
  have HC:=ag.mk hb
  have HT:=ag.mk hT
  clear h ha hb hT
  have HB:=ag.mk (Below.refl w.heap.size w)
  go_enter Tryd.func3,Tryd.ntmps3
  go_upto_region 3 with (first|((with_reducible refine aM (N:=1) rfl ?_);refine aJ ?hg (N:=1) ?hd (cs:=cs.toArray) (t:=33) ?hr ?_;(case hd=>rfl);(case hg=>rfl);(case hr=>first|(go_simp;done)|(go_simp;rfl));intro g1 hg_ w1_ hbox_ hb_;have n0_:=ag.mk (aj (by repeat(first|(with_reducible first|exact HB.o|apply ae|apply aa|apply af)|exact HB.o)) hb_);have n1_:=ag.mk (hbox_);have n2_:=ag.mk ((by rw[hg_];exact(ak (by repeat(first|(with_reducible first|exact HB.o|apply ae|apply aa|apply af)|exact HB.o))):w.heap.size≤g1));have n3_:=ag.mk ((HS.o:(cs.toArray:Array Value).size=28));clear HB;have HB:=n0_;have BK1:=n1_;have GE1:=n2_;have SZ1:=n3_;clear n0_ n1_ n2_ n3_;clear hb_ hbox_ hg_)|(go_at_call 10;refine(awake9.calls _).mono ?_;rintro e_ w_ ⟨rfl,hb_⟩;have n0_:=ag.mk (aD (by (with_reducible repeat(first|refine av ?_ _|refine ay ?_|refine au ?_ _));exact BK1.o) hb_);have n1_:=ag.mk (aj (by repeat(first|(with_reducible first|exact HB.o|apply ae|apply aa|apply af)|exact HB.o)) hb_);clear BK1 HB;have BK1:=n0_;have HB:=n1_;clear n0_ n1_;clear hb_))
  go_upto_region 4 with (first|((with_reducible refine aM (N:=10) rfl ?_);refine eD rfl 33 _ rfl (V:=cs.toArray) (by (with_reducible repeat(first|refine av ?_ _|refine ay ?_|refine au ?_ _));exact BK1.o) rfl _ hu33 rfl ?li ?_;(case li=>rw[HS.o];kernel_rfl))|(go_at_call 11;refine(rCheck.calls k t cs a.1 a.2 _ (kTar.K_below (by repeat(first|(with_reducible first|exact HB.o|apply ae|apply aa|apply af)|exact HB.o)) HT.o) HA.o).mono ?_;rintro e_ w_ ⟨rfl,hb_⟩;have n0_:=ag.mk (aD (by (with_reducible repeat(first|refine av ?_ _|refine ay ?_|refine au ?_ _));exact BK1.o) hb_);have n1_:=ag.mk (aj (by repeat(first|(with_reducible first|exact HB.o|apply ae|apply aa|apply af)|exact HB.o)) hb_);clear BK1 HB;have BK1:=n0_;have HB:=n1_;clear n0_ n1_;clear hb_))
  go_upto_region 5 with (first|((with_reducible refine aM (N:=15) rfl ?_);refine eD rfl 33 _ rfl (V:=cs.toArray) (by (with_reducible repeat(first|refine av ?_ _|refine ay ?_|refine au ?_ _));exact BK1.o) rfl _ hu33 rfl ?li ?_;(case li=>rw[HS.o];kernel_rfl))|(go_at_call 13;refine(copy9.calls t cs _ (kTar.K_below (by repeat(first|(with_reducible first|exact HB.o|apply ae|apply aa|apply af)|exact HB.o)) HT.o) s15.o s16.o s17.o s18.o ss.o).mono ?_;rintro e_ w_ ⟨AS,cS,AH,cH,AW,cW,AB,cB,rfl,r15,r16,r17,r18,hb_⟩;have n0_:=ag.mk (aD (by (with_reducible repeat(first|refine av ?_ _|refine ay ?_|refine au ?_ _));exact BK1.o) hb_);have n1_:=ag.mk (aj (by repeat(first|(with_reducible first|exact HB.o|apply ae|apply aa|apply af)|exact HB.o)) hb_);clear BK1 HB;have BK1:=n0_;have HB:=n1_;clear n0_ n1_;clear hb_;have HK:=ag.mk (kTar_ofR t r15 r16 r17 r18);clear r15 r16 r17 r18)|(go_at_call 12;refine(sCheck.calls k t _ b.1 b.2 _ HK.o HC.o).mono ?_;rintro e_ w_ ⟨rfl,hb_⟩;have n0_:=ag.mk (aD (by (with_reducible repeat(first|refine av ?_ _|refine ay ?_|refine au ?_ _));exact BK1.o) hb_);have n1_:=ag.mk (aj (by repeat(first|(with_reducible first|exact HB.o|apply ae|apply aa|apply af)|exact HB.o)) hb_);clear BK1 HB;have BK1:=n0_;have HB:=n1_;clear n0_ n1_;clear hb_))
  obtain⟨a1,a2⟩:=a
  obtain⟨b1,b2⟩:=b
  cases e1:(b1 == a1) with
  |false=>
   go_wp2
   go_ret
   exact⟨by first|rfl|simp[e1],(by repeat(first|(with_reducible first|exact HB.o|apply ae|apply aa|apply af)|exact HB.o))⟩
  |true=>
   go_wp2
   go_ret
   exact⟨by first|rfl|simp[e1],(by repeat(first|(with_reducible first|exact HB.o|apply ae|apply aa|apply af)|exact HB.o))⟩
 ·rw[if_neg hc] at h
  cases h
end Go.Proofs.YtcmhfcciapenfaaDoor.Pa
