/- A part of the proof. -/
import Derived.Test.YtcmhfcciapenfaaDoorQ00
import Derived.Test.YtcmhfcciapenfaaDoorQ14
import Derived.Test.YtcmhfcciapenfaaDoorQ07
import Derived.Test.YtcmhfcciapenfaaDoorQ16
set_option linter.all false
namespace Go.Proofs.YtcmhfcciapenfaaDoor.Pa
open Go.RowKit Go.Proofs.YtcmhfcciapenfaaDoorW.PrintWords Go.Proofs.YtcmhfcciapenfaaDoorW.PrintLast Go.Proofs.YtcmhfcciapenfaaDoorW.PrintMore
attribute [local go_sem] bJ bL bU bV bA bB bM bN
def sCheck.first:List Bool → Nat → Int × Int
 |[],_=>(0,0)
 |b :: r,n=>if b=true then sCheck.first r (n+1) else ((n:Int),2)
def sCheck.f (k:Nat) (t:Tar):Option (Int × Int):=(scan_Name.f t.f0).bind fun b11=>(zone_Check.f k t.f1 t.f2 t.f3 t.f4 t.f5 t.f6 t.f7 t.f8 t.f9 t.f10).bind fun z15=>(sound_within.f t.f11 1 10000000).bind fun b20=>(sound_within.f t.f12 0 10000000).bind fun b24=>(sound_within.f t.f13 0 40000).bind fun b29=>(sound_within.f t.f14 1 28).bind fun b33=>(sound_seasons.f t.f15).bind fun b36=>(sound_holidays.f k t.f16).bind fun b39=>(sound_blocks.f k t.f18).bind fun b42=>(sound_windows.f t).bind fun b44=>(sound_within.f t.f19 0 10000000).bind fun b47=>(sound_within.f t.f21 0 100).bind fun b66=>(sound_within.f t.f22 0 36).bind fun b71=>(sound_within.f t.f23 0 10000000).bind fun b75=>(sound_within.f t.f24 0 36).bind fun b79=>(sound_within.f t.f25 0 1000000000000).bind fun b83=>(sound_within.f t.f26 0 1000000000000).bind fun b87=>(sound_within.f t.f27 0 100000).bind fun b92=>some (sCheck.first [(b11 && (z15 == 0)),((b20 && b24) && b29),b33,b36,b39,b42,b44,(((b47 && (((t.f20 == 15) || (t.f20 == 30)) || (t.f20 == 60))) && b66) && b71),(b75 && b79),((b83 && b87) && b92)] 1)
set_option maxHeartbeats 16000000 in
set_option maxRecDepth 100000 in
theorem sCheck.calls (k:Nat) (t:Tar) (cs:List Value) (r1 r2:Int) (w:World) (hT:kTar.K w t cs) (h:sCheck.f k t=some (r1,r2)) :
  Calls Tryd.prog 12 #[.agg cs.toArray] w fun e w'=>e = .returned (.tuple #[.int .i64 r1,.int .i64 r2])∧Below w.heap.size w w':=by
 have hu33:=Tryd.underlying33
 have hu31:=Tryd.underlying31
 have hu25:=Tryd.underlying25
 have hu23:=Tryd.underlying23
 have HS:=ag.mk (kTar_len hT)
 obtain⟨A15,c15,A16,c16,A17,c17,A18,c18,ecs,l15,g15,l16,g16,l17,g17,l18,g18⟩:=eF hT
 have EZ:=ag.mk (show(cs.toArray.extract 1 (1+10)).toList = [.int .i64 t.f1,.int .i64 t.f2,.int .i64 t.f3,.int .i64 t.f4,.int .i64 t.f5,.int .i64 t.f6,.int .i64 t.f7,.int .i64 t.f8,.int .i64 t.f9,.int .i64 t.f10] from by rw[ecs];rfl)
 have e0:cs.toArray[0]? = some (.string t.f0):=by rw[ecs];rfl
 have e1:cs.toArray[1]? = some (.int .i64 t.f1):=by rw[ecs];rfl
 have e2:cs.toArray[2]? = some (.int .i64 t.f2):=by rw[ecs];rfl
 have e3:cs.toArray[3]? = some (.int .i64 t.f3):=by rw[ecs];rfl
 have e4:cs.toArray[4]? = some (.int .i64 t.f4):=by rw[ecs];rfl
 have e5:cs.toArray[5]? = some (.int .i64 t.f5):=by rw[ecs];rfl
 have e6:cs.toArray[6]? = some (.int .i64 t.f6):=by rw[ecs];rfl
 have e7:cs.toArray[7]? = some (.int .i64 t.f7):=by rw[ecs];rfl
 have e8:cs.toArray[8]? = some (.int .i64 t.f8):=by rw[ecs];rfl
 have e9:cs.toArray[9]? = some (.int .i64 t.f9):=by rw[ecs];rfl
 have e10:cs.toArray[10]? = some (.int .i64 t.f10):=by rw[ecs];rfl
 have e11:cs.toArray[11]? = some (.int .i64 t.f11):=by rw[ecs];rfl
 have e12:cs.toArray[12]? = some (.int .i64 t.f12):=by rw[ecs];rfl
 have e13:cs.toArray[13]? = some (.int .i64 t.f13):=by rw[ecs];rfl
 have e14:cs.toArray[14]? = some (.int .i64 t.f14):=by rw[ecs];rfl
 have e15:cs.toArray[15]? = some (.slice A15 t.f15.length c15):=by rw[ecs];rfl
 have e16:cs.toArray[16]? = some (.slice A16 t.f16.length c16):=by rw[ecs];rfl
 have e17:cs.toArray[17]? = some (.slice A17 t.f17.length c17):=by rw[ecs];rfl
 have e18:cs.toArray[18]? = some (.slice A18 t.f18.length c18):=by rw[ecs];rfl
 have e19:cs.toArray[19]? = some (.int .i64 t.f19):=by rw[ecs];rfl
 have e20:cs.toArray[20]? = some (.int .i64 t.f20):=by rw[ecs];rfl
 have e21:cs.toArray[21]? = some (.int .i64 t.f21):=by rw[ecs];rfl
 have e22:cs.toArray[22]? = some (.int .i64 t.f22):=by rw[ecs];rfl
 have e23:cs.toArray[23]? = some (.int .i64 t.f23):=by rw[ecs];rfl
 have e24:cs.toArray[24]? = some (.int .i64 t.f24):=by rw[ecs];rfl
 have e25:cs.toArray[25]? = some (.int .i64 t.f25):=by rw[ecs];rfl
 have e26:cs.toArray[26]? = some (.int .i64 t.f26):=by rw[ecs];rfl
 have e27:cs.toArray[27]? = some (.int .i64 t.f27):=by rw[ecs];rfl
 clear ecs
 have HB:=ag.mk (Below.refl w.heap.size w)
 have H:=h
 clear h
 unfold sCheck.f at H
 obtain⟨b11,C11,H⟩:=Option.bind_eq_some_iff.mp H
 replace C11:=ag.mk C11
 obtain⟨z15,C15,H⟩:=Option.bind_eq_some_iff.mp H
 replace C15:=ag.mk C15
 obtain⟨b20,C20,H⟩:=Option.bind_eq_some_iff.mp H
 replace C20:=ag.mk C20
 obtain⟨b24,C24,H⟩:=Option.bind_eq_some_iff.mp H
 replace C24:=ag.mk C24
 obtain⟨b29,C29,H⟩:=Option.bind_eq_some_iff.mp H
 replace C29:=ag.mk C29
 obtain⟨b33,C33,H⟩:=Option.bind_eq_some_iff.mp H
 replace C33:=ag.mk C33
 obtain⟨b36,C36,H⟩:=Option.bind_eq_some_iff.mp H
 replace C36:=ag.mk C36
 obtain⟨b39,C39,H⟩:=Option.bind_eq_some_iff.mp H
 replace C39:=ag.mk C39
 obtain⟨b42,C42,H⟩:=Option.bind_eq_some_iff.mp H
 replace C42:=ag.mk C42
 obtain⟨b44,C44,H⟩:=Option.bind_eq_some_iff.mp H
 replace C44:=ag.mk C44
 obtain⟨b47,C47,H⟩:=Option.bind_eq_some_iff.mp H
 replace C47:=ag.mk C47
 obtain⟨b66,C66,H⟩:=Option.bind_eq_some_iff.mp H
 replace C66:=ag.mk C66
 obtain⟨b71,C71,H⟩:=Option.bind_eq_some_iff.mp H
 replace C71:=ag.mk C71
 obtain⟨b75,C75,H⟩:=Option.bind_eq_some_iff.mp H
 replace C75:=ag.mk C75
 obtain⟨b79,C79,H⟩:=Option.bind_eq_some_iff.mp H
 replace C79:=ag.mk C79
 obtain⟨b83,C83,H⟩:=Option.bind_eq_some_iff.mp H
 replace C83:=ag.mk C83
 obtain⟨b87,C87,H⟩:=Option.bind_eq_some_iff.mp H
 replace C87:=ag.mk C87
 obtain⟨b92,C92,H⟩:=Option.bind_eq_some_iff.mp H
 replace C92:=ag.mk C92
 have HF:=ag.mk (show sCheck.first ([(b11 && (z15 == 0)),((b20 && b24) && b29),b33,b36,b39,b42,b44,(((b47 && (((t.f20 == 15) || (t.f20 == 30)) || (t.f20 == 60))) && b66) && b71),(b75 && b79),((b83 && b87) && b92)].drop 0) (0+1)=(r1,r2) from Option.some.inj H)
 clear H
 go_enter Tryd.func12,Tryd.ntmps12
 go_wp2_with (first|((with_reducible refine aI (N:=1) rfl ?_);refine aH ?hg (N:=1) ?hd (cs:=cs.toArray) (t:=33) ?hr ?_;(case hd=>rfl);(case hg=>rfl);(case hr=>first|(go_simp;done)|(go_simp;rfl));intro g1 hg_ w1 hbox hb_;have HBW:=ag.mk (aj (by repeat(first|(with_reducible first|exact HB.o|apply ae|apply aa|apply af)|exact HB.o)) hb_);have BK1:=ag.mk hbox;have HJ0:=ag.mk ((ah hbox 0).trans e0);have hc0:=HJ0.o;have HJ1:=ag.mk ((ah hbox 1).trans e1);have hc1:=HJ1.o;have HJ2:=ag.mk ((ah hbox 2).trans e2);have hc2:=HJ2.o;have HJ3:=ag.mk ((ah hbox 3).trans e3);have hc3:=HJ3.o;have HJ4:=ag.mk ((ah hbox 4).trans e4);have hc4:=HJ4.o;have HJ5:=ag.mk ((ah hbox 5).trans e5);have hc5:=HJ5.o;have HJ6:=ag.mk ((ah hbox 6).trans e6);have hc6:=HJ6.o;have HJ7:=ag.mk ((ah hbox 7).trans e7);have hc7:=HJ7.o;have HJ8:=ag.mk ((ah hbox 8).trans e8);have hc8:=HJ8.o;have HJ9:=ag.mk ((ah hbox 9).trans e9);have hc9:=HJ9.o;have HJ10:=ag.mk ((ah hbox 10).trans e10);have hc10:=HJ10.o;have HJ11:=ag.mk ((ah hbox 11).trans e11);have hc11:=HJ11.o;have HJ12:=ag.mk ((ah hbox 12).trans e12);have hc12:=HJ12.o;have HJ13:=ag.mk ((ah hbox 13).trans e13);have hc13:=HJ13.o;have HJ14:=ag.mk ((ah hbox 14).trans e14);have hc14:=HJ14.o;have HJ15:=ag.mk ((ah hbox 15).trans e15);have hc15:=HJ15.o;have HJ16:=ag.mk ((ah hbox 16).trans e16);have hc16:=HJ16.o;have HJ17:=ag.mk ((ah hbox 17).trans e17);have hc17:=HJ17.o;have HJ18:=ag.mk ((ah hbox 18).trans e18);have hc18:=HJ18.o;have HJ19:=ag.mk ((ah hbox 19).trans e19);have hc19:=HJ19.o;have HJ20:=ag.mk ((ah hbox 20).trans e20);have hc20:=HJ20.o;have HJ21:=ag.mk ((ah hbox 21).trans e21);have hc21:=HJ21.o;have HJ22:=ag.mk ((ah hbox 22).trans e22);have hc22:=HJ22.o;have HJ23:=ag.mk ((ah hbox 23).trans e23);have hc23:=HJ23.o;have HJ24:=ag.mk ((ah hbox 24).trans e24);have hc24:=HJ24.o;have HJ25:=ag.mk ((ah hbox 25).trans e25);have hc25:=HJ25.o;have HJ26:=ag.mk ((ah hbox 26).trans e26);have hc26:=HJ26.o;have HJ27:=ag.mk ((ah hbox 27).trans e27);have hc27:=HJ27.o;clear hb_ hbox hg_ HB;have HB:=ag.mk (Below.refl w1.heap.size w1))|((with_reducible refine aI (N:=4) rfl ?_);refine aH ?hg (N:=4) ?hd (cs:=#[.int .i64 0,.int .i64 0,.int .i64 0,.int .i64 0]) (t:=31) ?hr ?_;(case hd=>rfl);(case hg=>rfl);(case hr=>first|(go_simp;done)|(go_simp;rfl));intro gd hg_ w2 hbox hb_;have n0_:=ag.mk (aj (by repeat(first|(with_reducible first|exact HB.o|apply ae|apply aa|apply af)|exact HB.o)) hb_);have GEd:=ag.mk ((by rw[hg_];exact(ak (by repeat(first|(with_reducible first|exact HB.o|apply ae|apply aa|apply af)|exact HB.o)))):w1.heap.size≤gd);clear HB;have HB:=n0_;have BKd:=ag.mk hbox;clear n0_ hb_ hbox hg_;(try clear hc0);have hc0:=cqq HB.o HJ0.o;(try clear hc1);have hc1:=cqq HB.o HJ1.o;(try clear hc2);have hc2:=cqq HB.o HJ2.o;(try clear hc3);have hc3:=cqq HB.o HJ3.o;(try clear hc4);have hc4:=cqq HB.o HJ4.o;(try clear hc5);have hc5:=cqq HB.o HJ5.o;(try clear hc6);have hc6:=cqq HB.o HJ6.o;(try clear hc7);have hc7:=cqq HB.o HJ7.o;(try clear hc8);have hc8:=cqq HB.o HJ8.o;(try clear hc9);have hc9:=cqq HB.o HJ9.o;(try clear hc10);have hc10:=cqq HB.o HJ10.o;(try clear hc11);have hc11:=cqq HB.o HJ11.o;(try clear hc12);have hc12:=cqq HB.o HJ12.o;(try clear hc13);have hc13:=cqq HB.o HJ13.o;(try clear hc14);have hc14:=cqq HB.o HJ14.o;(try clear hc15);have hc15:=cqq HB.o HJ15.o;(try clear hc16);have hc16:=cqq HB.o HJ16.o;(try clear hc17);have hc17:=cqq HB.o HJ17.o;(try clear hc18);have hc18:=cqq HB.o HJ18.o;(try clear hc19);have hc19:=cqq HB.o HJ19.o;(try clear hc20);have hc20:=cqq HB.o HJ20.o;(try clear hc21);have hc21:=cqq HB.o HJ21.o;(try clear hc22);have hc22:=cqq HB.o HJ22.o;(try clear hc23);have hc23:=cqq HB.o HJ23.o;(try clear hc24);have hc24:=cqq HB.o HJ24.o;(try clear hc25);have hc25:=cqq HB.o HJ25.o;(try clear hc26);have hc26:=cqq HB.o HJ26.o;(try clear hc27);have hc27:=cqq HB.o HJ27.o;skip)|((with_reducible refine gate_store 31 rfl ?_);refine store_event rfl _ _ _ rfl (by (with_reducible repeat(first|refine av ?_ _|refine aA ?_|refine au ?_ _));exact BKd.o) rfl rfl ?os ?oi ?o1 ?_;(case os=>rfl);(case oi=>kernel_rfl);(case o1=>rfl);intro wB hbox hg_;have n0_:=ag.mk (Below.grown (by repeat(first|(with_reducible first|exact HB.o|apply ae|apply aa|apply af)|exact HB.o)) hg_ (ak (by repeat(first|(with_reducible first|exact HB.o|apply ae|apply aa|apply af)|exact HB.o))) (fun k hk=>by cases hk;exact GEd.o));clear HB BKd;have HB:=n0_;have BKd:=ag.mk hbox;clear n0_ hg_ hbox;(try clear hc0);have hc0:=cqq HB.o HJ0.o;(try clear hc1);have hc1:=cqq HB.o HJ1.o;(try clear hc2);have hc2:=cqq HB.o HJ2.o;(try clear hc3);have hc3:=cqq HB.o HJ3.o;(try clear hc4);have hc4:=cqq HB.o HJ4.o;(try clear hc5);have hc5:=cqq HB.o HJ5.o;(try clear hc6);have hc6:=cqq HB.o HJ6.o;(try clear hc7);have hc7:=cqq HB.o HJ7.o;(try clear hc8);have hc8:=cqq HB.o HJ8.o;(try clear hc9);have hc9:=cqq HB.o HJ9.o;(try clear hc10);have hc10:=cqq HB.o HJ10.o;(try clear hc11);have hc11:=cqq HB.o HJ11.o;(try clear hc12);have hc12:=cqq HB.o HJ12.o;(try clear hc13);have hc13:=cqq HB.o HJ13.o;(try clear hc14);have hc14:=cqq HB.o HJ14.o;(try clear hc15);have hc15:=cqq HB.o HJ15.o;(try clear hc16);have hc16:=cqq HB.o HJ16.o;(try clear hc17);have hc17:=cqq HB.o HJ17.o;(try clear hc18);have hc18:=cqq HB.o HJ18.o;(try clear hc19);have hc19:=cqq HB.o HJ19.o;(try clear hc20);have hc20:=cqq HB.o HJ20.o;(try clear hc21);have hc21:=cqq HB.o HJ21.o;(try clear hc22);have hc22:=cqq HB.o HJ22.o;(try clear hc23);have hc23:=cqq HB.o HJ23.o;(try clear hc24);have hc24:=cqq HB.o HJ24.o;(try clear hc25);have hc25:=cqq HB.o HJ25.o;(try clear hc26);have hc26:=cqq HB.o HJ26.o;(try clear hc27);have hc27:=cqq HB.o HJ27.o;(try clear hvd_0);have hvd_0:=(ah BKd.o 0).trans rfl;(try clear hvd_1);have hvd_1:=(ah BKd.o 1).trans rfl;(try clear hvd_2);have hvd_2:=(ah BKd.o 2).trans rfl;(try clear hvd_3);have hvd_3:=(ah BKd.o 3).trans rfl;skip))
 have HW:=ag.mk (aj HBW.o HB.o)
 have BK2:=ag.mk (aN BK1.o HB.o)
 clear BK1
 have BK1:=BK2
 clear BK2
 have HT:=ag.mk (kTar.K_below HW.o hT)
 have G15:=ag.mk (Kd.bg g15 HW.o)
 have G16:=ag.mk (Kd.bg g16 HW.o)
 have G18:=ag.mk (Kd.bg g18 HW.o)
 clear g15 g16 g17 g18 hT HB e0 HJ0 e1 HJ1 e2 HJ2 e3 HJ3 e4 HJ4 e5 HJ5 e6 HJ6 e7 HJ7 e8 HJ8 e9 HJ9 e10 HJ10 e11 HJ11 e12 HJ12 e13 HJ13 e14 HJ14 e15 HJ15 e16 HJ16 e17 HJ17 e18 HJ18 e19 HJ19 e20 HJ20 e21 HJ21 e22 HJ22 e23 HJ23 e24 HJ24 e25 HJ25 e26 HJ26 e27 HJ27
 let RR:Nat → Value → World → Prop:=fun i v w=>(i=85 → (fun (v:Value) (w:World)=>∃ g,v=Value.slice (some ⟨g,0,none⟩) 10 10∧w.heap[g]? = some (.cells #[Value.bool (b11 && (z15 == 0)),Value.bool ((b20 && b24) && b29),Value.bool b33,Value.bool b36,Value.bool b39,Value.bool b42,Value.bool b44,Value.bool (((b47 && (((t.f20 == 15) || (t.f20 == 30)) || (t.f20 == 60))) && b66) && b71),Value.bool (b75 && b79),Value.bool ((b83 && b87) && b92)] 4 (0,0))) v w)∧(List.getD [fun v=>v=Value.pointer (some ⟨g1,0,none⟩),fun v=>v=Value.string t.f0,fun v=>v=Value.bool b11,fun v=>v=Value.bool b11,fun v=>v=cond b11 (Value.pointer (some ⟨g1,1,none⟩)) undef,fun v=>v=cond b11 (Value.agg #[.int .i64 t.f1,.int .i64 t.f2,.int .i64 t.f3,.int .i64 t.f4,.int .i64 t.f5,.int .i64 t.f6,.int .i64 t.f7,.int .i64 t.f8,.int .i64 t.f9,.int .i64 t.f10]) undef,fun v=>v=cond b11 (Value.int .i64 z15) undef,fun v=>v=cond b11 (Value.bool (z15 == 0)) undef,fun v=>v=Value.bool (b11 && (z15 == 0)),fun v=>v=Value.pointer (some ⟨g1,11,none⟩),fun v=>v=Value.int .i64 t.f11,fun v=>v=Value.bool b20,fun v=>v=Value.bool b20,fun v=>v=cond b20 (Value.pointer (some ⟨g1,12,none⟩)) undef,fun v=>v=cond b20 (Value.int .i64 t.f12) undef,fun v=>v=cond b20 (Value.bool b24) undef,fun v=>v=Value.bool (b20 && b24),fun v=>v=Value.bool (b20 && b24),fun v=>v=cond (b20 && b24) (Value.pointer (some ⟨g1,13,none⟩)) undef,fun v=>v=cond (b20 && b24) (Value.int .i64 t.f13) undef,fun v=>v=cond (b20 && b24) (Value.bool b29) undef,fun v=>v=Value.bool ((b20 && b24) && b29),fun v=>v=Value.pointer (some ⟨g1,14,none⟩),fun v=>v=Value.int .i64 t.f14,fun v=>v=Value.bool b33,fun v=>v=Value.pointer (some ⟨g1,15,none⟩),fun v=>v=Value.slice A15 t.f15.length c15,fun v=>v=Value.bool b36,fun v=>v=Value.pointer (some ⟨g1,16,none⟩),fun v=>v=Value.slice A16 t.f16.length c16,fun v=>v=Value.bool b39,fun v=>v=Value.pointer (some ⟨g1,18,none⟩),fun v=>v=Value.slice A18 t.f18.length c18,fun v=>v=Value.bool b42,fun v=>v=Value.agg cs.toArray,fun v=>v=Value.bool b44,fun v=>v=Value.pointer (some ⟨gd,0,none⟩),fun v=>v=Value.int .i64 t.f19,fun v=>v=Value.bool b47,fun v=>v=Value.bool b47,fun v=>v=cond b47 (Value.pointer (some ⟨gd,1,none⟩)) undef,fun v=>v=cond b47 (Value.int .i64 t.f20) undef,fun v=>v=cond b47 (Value.bool (t.f20 == 15)) undef,fun v=>v=cond b47 (Value.bool (t.f20 == 15)) undef,fun v=>v=cond b47 (cond (t.f20 == 15) undef (Value.pointer (some ⟨gd,1,none⟩))) undef,fun v=>v=cond b47 (cond (t.f20 == 15) undef (Value.int .i64 t.f20)) undef,fun v=>v=cond b47 (cond (t.f20 == 15) undef (Value.bool (t.f20 == 30))) undef,fun v=>v=cond b47 (Value.bool ((t.f20 == 15) || (t.f20 == 30))) undef,fun v=>v=cond b47 (Value.bool ((t.f20 == 15) || (t.f20 == 30))) undef,fun v=>v=cond b47 (cond ((t.f20 == 15) || (t.f20 == 30)) undef (Value.pointer (some ⟨gd,1,none⟩))) undef,fun v=>v=cond b47 (cond ((t.f20 == 15) || (t.f20 == 30)) undef (Value.int .i64 t.f20)) undef,fun v=>v=cond b47 (cond ((t.f20 == 15) || (t.f20 == 30)) undef (Value.bool (t.f20 == 60))) undef,fun v=>v=cond b47 (Value.bool (((t.f20 == 15) || (t.f20 == 30)) || (t.f20 == 60))) undef,fun v=>v=Value.bool (b47 && (((t.f20 == 15) || (t.f20 == 30)) || (t.f20 == 60))),fun v=>v=Value.bool (b47 && (((t.f20 == 15) || (t.f20 == 30)) || (t.f20 == 60))),fun v=>v=cond (b47 && (((t.f20 == 15) || (t.f20 == 30)) || (t.f20 == 60))) (Value.pointer (some ⟨gd,2,none⟩)) undef,fun v=>v=cond (b47 && (((t.f20 == 15) || (t.f20 == 30)) || (t.f20 == 60))) (Value.int .i64 t.f21) undef,fun v=>v=cond (b47 && (((t.f20 == 15) || (t.f20 == 30)) || (t.f20 == 60))) (Value.bool b66) undef,fun v=>v=Value.bool ((b47 && (((t.f20 == 15) || (t.f20 == 30)) || (t.f20 == 60))) && b66),fun v=>v=Value.bool ((b47 && (((t.f20 == 15) || (t.f20 == 30)) || (t.f20 == 60))) && b66),fun v=>v=cond ((b47 && (((t.f20 == 15) || (t.f20 == 30)) || (t.f20 == 60))) && b66) (Value.pointer (some ⟨gd,3,none⟩)) undef,fun v=>v=cond ((b47 && (((t.f20 == 15) || (t.f20 == 30)) || (t.f20 == 60))) && b66) (Value.int .i64 t.f22) undef,fun v=>v=cond ((b47 && (((t.f20 == 15) || (t.f20 == 30)) || (t.f20 == 60))) && b66) (Value.bool b71) undef,fun v=>v=Value.bool (((b47 && (((t.f20 == 15) || (t.f20 == 30)) || (t.f20 == 60))) && b66) && b71),fun v=>v=Value.pointer (some ⟨g1,23,none⟩),fun v=>v=Value.int .i64 t.f23,fun v=>v=Value.bool b75,fun v=>v=Value.bool b75,fun v=>v=cond b75 (Value.pointer (some ⟨g1,24,none⟩)) undef,fun v=>v=cond b75 (Value.int .i64 t.f24) undef,fun v=>v=cond b75 (Value.bool b79) undef,fun v=>v=Value.bool (b75 && b79),fun v=>v=Value.pointer (some ⟨g1,25,none⟩),fun v=>v=Value.int .i64 t.f25,fun v=>v=Value.bool b83,fun v=>v=Value.bool b83,fun v=>v=cond b83 (Value.pointer (some ⟨g1,26,none⟩)) undef,fun v=>v=cond b83 (Value.int .i64 t.f26) undef,fun v=>v=cond b83 (Value.bool b87) undef,fun v=>v=Value.bool (b83 && b87),fun v=>v=Value.bool (b83 && b87),fun v=>v=cond (b83 && b87) (Value.pointer (some ⟨g1,27,none⟩)) undef,fun v=>v=cond (b83 && b87) (Value.int .i64 t.f27) undef,fun v=>v=cond (b83 && b87) (Value.bool b92) undef,fun v=>v=Value.bool ((b83 && b87) && b92),fun _=>True,fun v=>v=Value.int .i64 10,fun v=>v=Value.int .i64 0] i (fun _=>True)) v
 refine eB RR [[(1,none)],[(9,some 0)],[(10,some 1)],[(11,some 2)],[(1,none),(12,some 3)],[(13,some 4),(12,some 3)],[(14,some 5),(12,some 3)],[(15,some 6),(12,some 3)],[(12,some 3),(16,some 7)],[(1,none)],[(18,some 9)],[(19,some 10)],[(20,some 11)],[(1,none),(21,some 12)],[(22,some 13),(21,some 12)],[(23,some 14),(21,some 12)],[(21,some 12),(24,some 15)],[(25,some 16)],[(1,none),(26,some 17)],[(27,some 18),(26,some 17)],[(28,some 19),(26,some 17)],[(26,some 17),(29,some 20)],[(1,none)],[(31,some 22)],[(32,some 23)],[(1,none)],[(34,some 25)],[(35,some 26)],[(1,none)],[(37,some 28)],[(38,some 29)],[(1,none)],[(40,some 31)],[(41,some 32)],[(1,none)],[(43,some 34)],[(4,none)],[(45,some 36)],[(46,some 37)],[(47,some 38)],[(4,none),(48,some 39)],[(49,some 40),(48,some 39)],[(50,some 41),(48,some 39)],[(51,some 42),(48,some 39)],[(4,none),(52,some 43)],[(53,some 44),(52,some 43)],[(54,some 45),(52,some 43)],[(52,some 43),(55,some 46),(48,some 39)],[(56,some 47),(48,some 39)],[(4,none),(57,some 48)],[(58,some 49),(57,some 48)],[(59,some 50),(57,some 48)],[(57,some 48),(60,some 51),(48,some 39)],[(48,some 39),(61,some 52)],[(62,some 53)],[(4,none),(63,some 54)],[(64,some 55),(63,some 54)],[(65,some 56),(63,some 54)],[(63,some 54),(66,some 57)],[(67,some 58)],[(4,none),(68,some 59)],[(69,some 60),(68,some 59)],[(70,some 61),(68,some 59)],[(68,some 59),(71,some 62)],[(1,none)],[(73,some 64)],[(74,some 65)],[(75,some 66)],[(1,none),(76,some 67)],[(77,some 68),(76,some 67)],[(78,some 69),(76,some 67)],[(76,some 67),(79,some 70)],[(1,none)],[(81,some 72)],[(82,some 73)],[(83,some 74)],[(1,none),(84,some 75)],[(85,some 76),(84,some 75)],[(86,some 77),(84,some 75)],[(84,some 75),(87,some 78)],[(88,some 79)],[(1,none),(89,some 80)],[(90,some 81),(89,some 80)],[(91,some 82),(89,some 80)],[(89,some 80),(92,some 83)],[(17,some 8),(30,some 21),(33,some 24),(36,some 27),(39,some 30),(42,some 33),(44,some 35),(72,some 63),(80,some 71),(93,some 84)],[(94,some 85)],[]] [(0,9),(1,10),(2,11),(3,12),(4,13),(5,14),(6,15),(7,16),(8,17),(9,18),(10,19),(11,20),(12,21),(13,22),(14,23),(15,24),(16,25),(17,26),(18,27),(19,28),(20,29),(21,30),(22,31),(23,32),(24,33),(25,34),(26,35),(27,36),(28,37),(29,38),(30,39),(31,40),(32,41),(33,42),(34,43),(35,44),(36,45),(37,46),(38,47),(39,48),(40,49),(41,50),(42,51),(43,52),(44,53),(45,54),(46,55),(47,56),(48,57),(49,58),(50,59),(51,60),(52,61),(53,62),(54,63),(55,64),(56,65),(57,66),(58,67),(59,68),(60,69),(61,70),(62,71),(63,72),(64,73),(65,74),(66,75),(67,76),(68,77),(69,78),(70,79),(71,80),(72,81),(73,82),(74,83),(75,84),(76,85),(77,86),(78,87),(79,88),(80,89),(81,90),(82,91),(83,92),(84,93),(85,94),(86,95),(87,96)] rfl (by kernel_rfl) (by kernel_rfl) (fun i v w1_ w2_ _ h hw=>⟨fun e=>by obtain⟨g,ev,hg⟩:=h.1 e;exact⟨g,ev,aN hg hw⟩,h.2⟩) (by kernel_rfl) ⟨?_,?_,?_,?_,?_,?_,?_,?_,?_,?_,?_,?_,?_,?_,?_,?_,?_,?_,?_,?_,?_,?_,?_,?_,?_,?_,?_,?_,?_,?_,?_,?_,?_,?_,?_,?_,?_,?_,?_,?_,?_,?_,?_,?_,?_,?_,?_,?_,?_,?_,?_,?_,?_,?_,?_,?_,?_,?_,?_,?_,?_,?_,?_,?_,?_,?_,?_,?_,?_,?_,?_,?_,?_,?_,?_,?_,?_,?_,?_,?_,?_,?_,?_,?_,?_,?_,?_,?_,trivial⟩ ?_
 ·intro a w' hb henv K hK
  obtain⟨e1,-⟩:=henv
  replace e1:a.tmps[1]? = some (Value.pointer (some ⟨g1,0,none⟩)):=e1.trans rfl
  exact aG (R:=RR) (i:=0) hK (Value.pointer (some ⟨g1,0,none⟩)) (aM rfl _) (by simp only[execOp,aC e1];go_simp) ⟨fun e=>absurd e (by decide),rfl⟩
 ·intro a w' hb henv K hK
  obtain⟨⟨v9,e9,r9⟩,-⟩:=henv
  replace r9:v9=Value.pointer (some ⟨g1,0,none⟩):=r9.2
  rw[r9] at e9
  clear r9 v9
  have hcell:=(hb.cell (World.block_lt_of_cell? _ _ hc0)).trans hc0
  exact aG (R:=RR) (i:=1) hK (Value.string t.f0) (aM rfl _) (by simp only[execOp,aC e9];go_simp) ⟨fun e=>absurd e (by decide),rfl⟩
 ·intro a w' hb henv K hK
  obtain⟨⟨v10,e10,r10⟩,-⟩:=henv
  replace r10:v10=Value.string t.f0:=r10.2
  rw[r10] at e10
  clear r10 v10
  exact bG (R:=RR) (i:=2) hK (aM rfl _) Tryd.func28 (by kernel_rfl) rfl #[Value.string t.f0] rfl (by first|(simp only[List.map_toArray,List.map_cons,List.map_nil,aC e10];done)|(simp only[List.map_toArray,List.map_cons,List.map_nil,aC e10];rfl)) ((scan_Name.calls t.f0 _ _ C11.o).mono (fun e w'' h=>by obtain⟨rfl,hb'⟩:=h;exact⟨_,rfl,hb',⟨fun e=>absurd e (by decide),rfl⟩⟩))
 ·intro a w' hb henv K hK
  obtain⟨⟨v11,e11,r11⟩,-⟩:=henv
  replace r11:v11=Value.bool b11:=r11.2
  rw[r11] at e11
  clear r11 v11
  exact aG (R:=RR) (i:=3) hK (Value.bool b11) (aM rfl _) (by simp only[execOp,aC e11];go_simp) ⟨fun e=>absurd e (by decide),rfl⟩
 ·intro a w' hb henv K hK
  obtain⟨e1,⟨v12,e12,r12⟩,-⟩:=henv
  replace e1:a.tmps[1]? = some (Value.pointer (some ⟨g1,0,none⟩)):=e1.trans rfl
  replace r12:v12=Value.bool b11:=r12.2
  rw[r12] at e12
  clear r12 v12
  cases g0:(b11:Bool)
  ·skip
   exact aT (R:=RR) (i:=4) hK (aD (x:=false) (g:=3) (b:=true) rfl (t:=12) rfl (a:=a) (by first|exact e12|(simp only[g0] at e12;exact e12))) ⟨fun e=>absurd e (by decide),(show undef=_ from by simp only[g0,cond_true,cond_false])⟩
  ·skip
   exact aG (R:=RR) (i:=4) hK (Value.pointer (some ⟨g1,1,none⟩)) (aD (x:=true) (g:=3) (b:=true) rfl (t:=12) rfl (a:=a) (by first|exact e12|(simp only[g0] at e12;exact e12))) (by simp only[execOp,aC e1];first|(go_simp;done)|(simp only[g0];go_simp)) ⟨fun e=>absurd e (by decide),(show _=_ from by simp only[g0,cond_true,cond_false])⟩
 ·intro a w' hb henv K hK
  obtain⟨⟨v13,e13,r13⟩,⟨v12,e12,r12⟩,-⟩:=henv
  replace r13:v13=cond b11 (Value.pointer (some ⟨g1,1,none⟩)) undef:=r13.2
  rw[r13] at e13
  clear r13 v13
  replace r12:v12=Value.bool b11:=r12.2
  rw[r12] at e12
  clear r12 v12
  cases g0:(b11:Bool)
  ·(try simp only[g0,cond_true,cond_false] at e13)
   exact aT (R:=RR) (i:=5) hK (aD (x:=false) (g:=3) (b:=true) rfl (t:=12) rfl (a:=a) (by first|exact e12|(simp only[g0] at e12;exact e12))) ⟨fun e=>absurd e (by decide),(show undef=_ from by simp only[g0,cond_true,cond_false])⟩
  ·(try simp only[g0,cond_true,cond_false] at e13)
   have hrg:w'.rangeAt g1 1 [.int .i64 t.f1,.int .i64 t.f2,.int .i64 t.f3,.int .i64 t.f4,.int .i64 t.f5,.int .i64 t.f6,.int .i64 t.f7,.int .i64 t.f8,.int .i64 t.f9,.int .i64 t.f10]:=by have:=World.rangeAt_of_block (aN BK1.o hb) 1 10;rwa [EZ.o] at this
   exact aG (R:=RR) (i:=5) hK (Value.agg #[.int .i64 t.f1,.int .i64 t.f2,.int .i64 t.f3,.int .i64 t.f4,.int .i64 t.f5,.int .i64 t.f6,.int .i64 t.f7,.int .i64 t.f8,.int .i64 t.f9,.int .i64 t.f10]) (aD (x:=true) (g:=3) (b:=true) rfl (t:=12) rfl (a:=a) (by first|exact e12|(simp only[g0] at e12;exact e12))) (by simp only[execOp,aC e13,Instr.loadAt,Instr.sureAddr,Sem.run_bind,Sem.run_pure,Result.andThen_ok,run_loadVar_mid w' g1 1 25 _ _ hrg hu25 rfl (by kernel_rfl)]) ⟨fun e=>absurd e (by decide),(show _=_ from by simp only[g0,cond_true,cond_false])⟩
 ·intro a w' hb henv K hK
  obtain⟨⟨v14,e14,r14⟩,⟨v12,e12,r12⟩,-⟩:=henv
  replace r14:v14=cond b11 (Value.agg #[.int .i64 t.f1,.int .i64 t.f2,.int .i64 t.f3,.int .i64 t.f4,.int .i64 t.f5,.int .i64 t.f6,.int .i64 t.f7,.int .i64 t.f8,.int .i64 t.f9,.int .i64 t.f10]) undef:=r14.2
  rw[r14] at e14
  clear r14 v14
  replace r12:v12=Value.bool b11:=r12.2
  rw[r12] at e12
  clear r12 v12
  cases g0:(b11:Bool)
  ·(try simp only[g0,cond_true,cond_false] at e14)
   exact aT (R:=RR) (i:=6) hK (aD (x:=false) (g:=3) (b:=true) rfl (t:=12) rfl (a:=a) (by first|exact e12|(simp only[g0] at e12;exact e12))) ⟨fun e=>absurd e (by decide),(show undef=_ from by simp only[g0,cond_true,cond_false])⟩
  ·(try simp only[g0,cond_true,cond_false] at e14)
   exact bG (R:=RR) (i:=6) hK (aD (x:=true) (g:=3) (b:=true) rfl (t:=12) rfl (a:=a) (by first|exact e12|(simp only[g0] at e12;exact e12))) Tryd.func29 (by kernel_rfl) rfl #[Value.agg #[.int .i64 t.f1,.int .i64 t.f2,.int .i64 t.f3,.int .i64 t.f4,.int .i64 t.f5,.int .i64 t.f6,.int .i64 t.f7,.int .i64 t.f8,.int .i64 t.f9,.int .i64 t.f10]] rfl (by first|(simp only[List.map_toArray,List.map_cons,List.map_nil,aC e14];done)|(simp only[List.map_toArray,List.map_cons,List.map_nil,aC e14];rfl)) ((zone_Check.calls k t.f1 t.f2 t.f3 t.f4 t.f5 t.f6 t.f7 t.f8 t.f9 t.f10 _ _ C15.o).mono (fun e w'' h=>by obtain⟨rfl,hb'⟩:=h;exact⟨_,rfl,hb',⟨fun e=>absurd e (by decide),(show _=_ from by simp only[g0,cond_true,cond_false])⟩⟩))
 ·intro a w' hb henv K hK
  obtain⟨⟨v15,e15,r15⟩,⟨v12,e12,r12⟩,-⟩:=henv
  replace r15:v15=cond b11 (Value.int .i64 z15) undef:=r15.2
  rw[r15] at e15
  clear r15 v15
  replace r12:v12=Value.bool b11:=r12.2
  rw[r12] at e12
  clear r12 v12
  cases g0:(b11:Bool)
  ·(try simp only[g0,cond_true,cond_false] at e15)
   exact aT (R:=RR) (i:=7) hK (aD (x:=false) (g:=3) (b:=true) rfl (t:=12) rfl (a:=a) (by first|exact e12|(simp only[g0] at e12;exact e12))) ⟨fun e=>absurd e (by decide),(show undef=_ from by simp only[g0,cond_true,cond_false])⟩
  ·(try simp only[g0,cond_true,cond_false] at e15)
   exact aG (R:=RR) (i:=7) hK (Value.bool (z15 == 0)) (aD (x:=true) (g:=3) (b:=true) rfl (t:=12) rfl (a:=a) (by first|exact e12|(simp only[g0] at e12;exact e12))) (by simp only[execOp,aC e15];first|(go_simp;done)|(simp only[g0];go_simp)) ⟨fun e=>absurd e (by decide),(show _=_ from by simp only[g0,cond_true,cond_false])⟩
 ·intro a w' hb henv K hK
  obtain⟨⟨v12,e12,r12⟩,⟨v16,e16,r16⟩,-⟩:=henv
  replace r12:v12=Value.bool b11:=r12.2
  rw[r12] at e12
  clear r12 v12
  replace r16:v16=cond b11 (Value.bool (z15 == 0)) undef:=r16.2
  rw[r16] at e16
  clear r16 v16
  cases g0:(b11:Bool)
  ·(try simp only[g0,cond_true,cond_false] at e16)
   exact aG (R:=RR) (i:=8) hK (Value.bool (b11 && (z15 == 0))) (aM rfl _) (by simp only[execOp,aC e12,aC e16];first|(go_simp;done)|(simp only[g0];go_simp)) ⟨fun e=>absurd e (by decide),(show _=_ from by first|rfl|(simp only[g0];rfl))⟩
  ·(try simp only[g0,cond_true,cond_false] at e16)
   exact aG (R:=RR) (i:=8) hK (Value.bool (b11 && (z15 == 0))) (aM rfl _) (by simp only[execOp,aC e12,aC e16];first|(go_simp;done)|(simp only[g0];go_simp)) ⟨fun e=>absurd e (by decide),(show _=_ from by first|rfl|(simp only[g0];rfl))⟩
 ·intro a w' hb henv K hK
  obtain⟨e1,-⟩:=henv
  replace e1:a.tmps[1]? = some (Value.pointer (some ⟨g1,0,none⟩)):=e1.trans rfl
  exact aG (R:=RR) (i:=9) hK (Value.pointer (some ⟨g1,11,none⟩)) (aM rfl _) (by simp only[execOp,aC e1];go_simp) ⟨fun e=>absurd e (by decide),rfl⟩
 ·intro a w' hb henv K hK
  obtain⟨⟨v18,e18,r18⟩,-⟩:=henv
  replace r18:v18=Value.pointer (some ⟨g1,11,none⟩):=r18.2
  rw[r18] at e18
  clear r18 v18
  have hcell:=(hb.cell (World.block_lt_of_cell? _ _ hc11)).trans hc11
  exact aG (R:=RR) (i:=10) hK (Value.int .i64 t.f11) (aM rfl _) (by simp only[execOp,aC e18];go_simp) ⟨fun e=>absurd e (by decide),rfl⟩
 ·intro a w' hb henv K hK
  obtain⟨⟨v19,e19,r19⟩,-⟩:=henv
  replace r19:v19=Value.int .i64 t.f11:=r19.2
  rw[r19] at e19
  clear r19 v19
  exact bG (R:=RR) (i:=11) hK (aM rfl _) Tryd.func30 (by kernel_rfl) rfl #[Value.int .i64 t.f11,Value.int .i64 1,Value.int .i64 10000000] rfl (by first|(simp only[List.map_toArray,List.map_cons,List.map_nil,aC e19];done)|(simp only[List.map_toArray,List.map_cons,List.map_nil,aC e19];rfl)) ((sound_within.calls t.f11 1 10000000 _ _ C20.o).mono (fun e w'' h=>by obtain⟨rfl,nd,rfl⟩:=h;exact⟨_,rfl,aa (Below.refl _ _) _,⟨fun e=>absurd e (by decide),rfl⟩⟩))
 ·intro a w' hb henv K hK
  obtain⟨⟨v20,e20,r20⟩,-⟩:=henv
  replace r20:v20=Value.bool b20:=r20.2
  rw[r20] at e20
  clear r20 v20
  exact aG (R:=RR) (i:=12) hK (Value.bool b20) (aM rfl _) (by simp only[execOp,aC e20];go_simp) ⟨fun e=>absurd e (by decide),rfl⟩
 ·intro a w' hb henv K hK
  obtain⟨e1,⟨v21,e21,r21⟩,-⟩:=henv
  replace e1:a.tmps[1]? = some (Value.pointer (some ⟨g1,0,none⟩)):=e1.trans rfl
  replace r21:v21=Value.bool b20:=r21.2
  rw[r21] at e21
  clear r21 v21
  cases g0:(b20:Bool)
  ·skip
   exact aT (R:=RR) (i:=13) hK (aD (x:=false) (g:=12) (b:=true) rfl (t:=21) rfl (a:=a) (by first|exact e21|(simp only[g0] at e21;exact e21))) ⟨fun e=>absurd e (by decide),(show undef=_ from by simp only[g0,cond_true,cond_false])⟩
  ·skip
   exact aG (R:=RR) (i:=13) hK (Value.pointer (some ⟨g1,12,none⟩)) (aD (x:=true) (g:=12) (b:=true) rfl (t:=21) rfl (a:=a) (by first|exact e21|(simp only[g0] at e21;exact e21))) (by simp only[execOp,aC e1];first|(go_simp;done)|(simp only[g0];go_simp)) ⟨fun e=>absurd e (by decide),(show _=_ from by simp only[g0,cond_true,cond_false])⟩
 ·intro a w' hb henv K hK
  obtain⟨⟨v22,e22,r22⟩,⟨v21,e21,r21⟩,-⟩:=henv
  replace r22:v22=cond b20 (Value.pointer (some ⟨g1,12,none⟩)) undef:=r22.2
  rw[r22] at e22
  clear r22 v22
  replace r21:v21=Value.bool b20:=r21.2
  rw[r21] at e21
  clear r21 v21
  cases g0:(b20:Bool)
  ·(try simp only[g0,cond_true,cond_false] at e22)
   exact aT (R:=RR) (i:=14) hK (aD (x:=false) (g:=12) (b:=true) rfl (t:=21) rfl (a:=a) (by first|exact e21|(simp only[g0] at e21;exact e21))) ⟨fun e=>absurd e (by decide),(show undef=_ from by simp only[g0,cond_true,cond_false])⟩
  ·(try simp only[g0,cond_true,cond_false] at e22)
   have hcell:=(hb.cell (World.block_lt_of_cell? _ _ hc12)).trans hc12
   exact aG (R:=RR) (i:=14) hK (Value.int .i64 t.f12) (aD (x:=true) (g:=12) (b:=true) rfl (t:=21) rfl (a:=a) (by first|exact e21|(simp only[g0] at e21;exact e21))) (by simp only[execOp,aC e22];go_simp) ⟨fun e=>absurd e (by decide),(show _=_ from by simp only[g0,cond_true,cond_false])⟩
 ·intro a w' hb henv K hK
  obtain⟨⟨v23,e23,r23⟩,⟨v21,e21,r21⟩,-⟩:=henv
  replace r23:v23=cond b20 (Value.int .i64 t.f12) undef:=r23.2
  rw[r23] at e23
  clear r23 v23
  replace r21:v21=Value.bool b20:=r21.2
  rw[r21] at e21
  clear r21 v21
  cases g0:(b20:Bool)
  ·(try simp only[g0,cond_true,cond_false] at e23)
   exact aT (R:=RR) (i:=15) hK (aD (x:=false) (g:=12) (b:=true) rfl (t:=21) rfl (a:=a) (by first|exact e21|(simp only[g0] at e21;exact e21))) ⟨fun e=>absurd e (by decide),(show undef=_ from by simp only[g0,cond_true,cond_false])⟩
  ·(try simp only[g0,cond_true,cond_false] at e23)
   exact bG (R:=RR) (i:=15) hK (aD (x:=true) (g:=12) (b:=true) rfl (t:=21) rfl (a:=a) (by first|exact e21|(simp only[g0] at e21;exact e21))) Tryd.func30 (by kernel_rfl) rfl #[Value.int .i64 t.f12,Value.int .i64 0,Value.int .i64 10000000] rfl (by first|(simp only[List.map_toArray,List.map_cons,List.map_nil,aC e23];done)|(simp only[List.map_toArray,List.map_cons,List.map_nil,aC e23];rfl)) ((sound_within.calls t.f12 0 10000000 _ _ C24.o).mono (fun e w'' h=>by obtain⟨rfl,nd,rfl⟩:=h;exact⟨_,rfl,aa (Below.refl _ _) _,⟨fun e=>absurd e (by decide),(show _=_ from by simp only[g0,cond_true,cond_false])⟩⟩))
 ·intro a w' hb henv K hK
  obtain⟨⟨v21,e21,r21⟩,⟨v24,e24,r24⟩,-⟩:=henv
  replace r21:v21=Value.bool b20:=r21.2
  rw[r21] at e21
  clear r21 v21
  replace r24:v24=cond b20 (Value.bool b24) undef:=r24.2
  rw[r24] at e24
  clear r24 v24
  cases g0:(b20:Bool)
  ·(try simp only[g0,cond_true,cond_false] at e24)
   exact aG (R:=RR) (i:=16) hK (Value.bool (b20 && b24)) (aM rfl _) (by simp only[execOp,aC e21,aC e24];first|(go_simp;done)|(simp only[g0];go_simp)) ⟨fun e=>absurd e (by decide),(show _=_ from by first|rfl|(simp only[g0];rfl))⟩
  ·(try simp only[g0,cond_true,cond_false] at e24)
   exact aG (R:=RR) (i:=16) hK (Value.bool (b20 && b24)) (aM rfl _) (by simp only[execOp,aC e21,aC e24];first|(go_simp;done)|(simp only[g0];go_simp)) ⟨fun e=>absurd e (by decide),(show _=_ from by first|rfl|(simp only[g0];rfl))⟩
 ·intro a w' hb henv K hK
  obtain⟨⟨v25,e25,r25⟩,-⟩:=henv
  replace r25:v25=Value.bool (b20 && b24):=r25.2
  rw[r25] at e25
  clear r25 v25
  exact aG (R:=RR) (i:=17) hK (Value.bool (b20 && b24)) (aM rfl _) (by simp only[execOp,aC e25];go_simp) ⟨fun e=>absurd e (by decide),rfl⟩
 ·intro a w' hb henv K hK
  obtain⟨e1,⟨v26,e26,r26⟩,-⟩:=henv
  replace e1:a.tmps[1]? = some (Value.pointer (some ⟨g1,0,none⟩)):=e1.trans rfl
  replace r26:v26=Value.bool (b20 && b24):=r26.2
  rw[r26] at e26
  clear r26 v26
  cases g0:((b20 && b24):Bool)
  ·skip
   exact aT (R:=RR) (i:=18) hK (aD (x:=false) (g:=17) (b:=true) rfl (t:=26) rfl (a:=a) (by first|exact e26|(simp only[g0] at e26;exact e26))) ⟨fun e=>absurd e (by decide),(show undef=_ from by simp only[g0,cond_true,cond_false])⟩
  ·skip
   exact aG (R:=RR) (i:=18) hK (Value.pointer (some ⟨g1,13,none⟩)) (aD (x:=true) (g:=17) (b:=true) rfl (t:=26) rfl (a:=a) (by first|exact e26|(simp only[g0] at e26;exact e26))) (by simp only[execOp,aC e1];first|(go_simp;done)|(simp only[g0];go_simp)) ⟨fun e=>absurd e (by decide),(show _=_ from by simp only[g0,cond_true,cond_false])⟩
 ·intro a w' hb henv K hK
  obtain⟨⟨v27,e27,r27⟩,⟨v26,e26,r26⟩,-⟩:=henv
  replace r27:v27=cond (b20 && b24) (Value.pointer (some ⟨g1,13,none⟩)) undef:=r27.2
  rw[r27] at e27
  clear r27 v27
  replace r26:v26=Value.bool (b20 && b24):=r26.2
  rw[r26] at e26
  clear r26 v26
  cases g0:((b20 && b24):Bool)
  ·(try simp only[g0,cond_true,cond_false] at e27)
   exact aT (R:=RR) (i:=19) hK (aD (x:=false) (g:=17) (b:=true) rfl (t:=26) rfl (a:=a) (by first|exact e26|(simp only[g0] at e26;exact e26))) ⟨fun e=>absurd e (by decide),(show undef=_ from by simp only[g0,cond_true,cond_false])⟩
  ·(try simp only[g0,cond_true,cond_false] at e27)
   have hcell:=(hb.cell (World.block_lt_of_cell? _ _ hc13)).trans hc13
   exact aG (R:=RR) (i:=19) hK (Value.int .i64 t.f13) (aD (x:=true) (g:=17) (b:=true) rfl (t:=26) rfl (a:=a) (by first|exact e26|(simp only[g0] at e26;exact e26))) (by simp only[execOp,aC e27];go_simp) ⟨fun e=>absurd e (by decide),(show _=_ from by simp only[g0,cond_true,cond_false])⟩
 ·intro a w' hb henv K hK
  obtain⟨⟨v28,e28,r28⟩,⟨v26,e26,r26⟩,-⟩:=henv
  replace r28:v28=cond (b20 && b24) (Value.int .i64 t.f13) undef:=r28.2
  rw[r28] at e28
  clear r28 v28
  replace r26:v26=Value.bool (b20 && b24):=r26.2
  rw[r26] at e26
  clear r26 v26
  cases g0:((b20 && b24):Bool)
  ·(try simp only[g0,cond_true,cond_false] at e28)
   exact aT (R:=RR) (i:=20) hK (aD (x:=false) (g:=17) (b:=true) rfl (t:=26) rfl (a:=a) (by first|exact e26|(simp only[g0] at e26;exact e26))) ⟨fun e=>absurd e (by decide),(show undef=_ from by simp only[g0,cond_true,cond_false])⟩
  ·(try simp only[g0,cond_true,cond_false] at e28)
   exact bG (R:=RR) (i:=20) hK (aD (x:=true) (g:=17) (b:=true) rfl (t:=26) rfl (a:=a) (by first|exact e26|(simp only[g0] at e26;exact e26))) Tryd.func30 (by kernel_rfl) rfl #[Value.int .i64 t.f13,Value.int .i64 0,Value.int .i64 40000] rfl (by first|(simp only[List.map_toArray,List.map_cons,List.map_nil,aC e28];done)|(simp only[List.map_toArray,List.map_cons,List.map_nil,aC e28];rfl)) ((sound_within.calls t.f13 0 40000 _ _ C29.o).mono (fun e w'' h=>by obtain⟨rfl,nd,rfl⟩:=h;exact⟨_,rfl,aa (Below.refl _ _) _,⟨fun e=>absurd e (by decide),(show _=_ from by simp only[g0,cond_true,cond_false])⟩⟩))
 ·intro a w' hb henv K hK
  obtain⟨⟨v26,e26,r26⟩,⟨v29,e29,r29⟩,-⟩:=henv
  replace r26:v26=Value.bool (b20 && b24):=r26.2
  rw[r26] at e26
  clear r26 v26
  replace r29:v29=cond (b20 && b24) (Value.bool b29) undef:=r29.2
  rw[r29] at e29
  clear r29 v29
  cases g0:((b20 && b24):Bool)
  ·(try simp only[g0,cond_true,cond_false] at e29)
   exact aG (R:=RR) (i:=21) hK (Value.bool ((b20 && b24) && b29)) (aM rfl _) (by simp only[execOp,aC e26,aC e29];first|(go_simp;done)|(simp only[g0];go_simp)) ⟨fun e=>absurd e (by decide),(show _=_ from by first|rfl|(simp only[g0];rfl))⟩
  ·(try simp only[g0,cond_true,cond_false] at e29)
   exact aG (R:=RR) (i:=21) hK (Value.bool ((b20 && b24) && b29)) (aM rfl _) (by simp only[execOp,aC e26,aC e29];first|(go_simp;done)|(simp only[g0];go_simp)) ⟨fun e=>absurd e (by decide),(show _=_ from by first|rfl|(simp only[g0];rfl))⟩
 ·intro a w' hb henv K hK
  obtain⟨e1,-⟩:=henv
  replace e1:a.tmps[1]? = some (Value.pointer (some ⟨g1,0,none⟩)):=e1.trans rfl
  exact aG (R:=RR) (i:=22) hK (Value.pointer (some ⟨g1,14,none⟩)) (aM rfl _) (by simp only[execOp,aC e1];go_simp) ⟨fun e=>absurd e (by decide),rfl⟩
 ·intro a w' hb henv K hK
  obtain⟨⟨v31,e31,r31⟩,-⟩:=henv
  replace r31:v31=Value.pointer (some ⟨g1,14,none⟩):=r31.2
  rw[r31] at e31
  clear r31 v31
  have hcell:=(hb.cell (World.block_lt_of_cell? _ _ hc14)).trans hc14
  exact aG (R:=RR) (i:=23) hK (Value.int .i64 t.f14) (aM rfl _) (by simp only[execOp,aC e31];go_simp) ⟨fun e=>absurd e (by decide),rfl⟩
 ·intro a w' hb henv K hK
  obtain⟨⟨v32,e32,r32⟩,-⟩:=henv
  replace r32:v32=Value.int .i64 t.f14:=r32.2
  rw[r32] at e32
  clear r32 v32
  exact bG (R:=RR) (i:=24) hK (aM rfl _) Tryd.func30 (by kernel_rfl) rfl #[Value.int .i64 t.f14,Value.int .i64 1,Value.int .i64 28] rfl (by first|(simp only[List.map_toArray,List.map_cons,List.map_nil,aC e32];done)|(simp only[List.map_toArray,List.map_cons,List.map_nil,aC e32];rfl)) ((sound_within.calls t.f14 1 28 _ _ C33.o).mono (fun e w'' h=>by obtain⟨rfl,nd,rfl⟩:=h;exact⟨_,rfl,aa (Below.refl _ _) _,⟨fun e=>absurd e (by decide),rfl⟩⟩))
 ·intro a w' hb henv K hK
  obtain⟨e1,-⟩:=henv
  replace e1:a.tmps[1]? = some (Value.pointer (some ⟨g1,0,none⟩)):=e1.trans rfl
  exact aG (R:=RR) (i:=25) hK (Value.pointer (some ⟨g1,15,none⟩)) (aM rfl _) (by simp only[execOp,aC e1];go_simp) ⟨fun e=>absurd e (by decide),rfl⟩
 ·intro a w' hb henv K hK
  obtain⟨⟨v34,e34,r34⟩,-⟩:=henv
  replace r34:v34=Value.pointer (some ⟨g1,15,none⟩):=r34.2
  rw[r34] at e34
  clear r34 v34
  have hcell:=(hb.cell (World.block_lt_of_cell? _ _ hc15)).trans hc15
  exact aG (R:=RR) (i:=26) hK (Value.slice A15 t.f15.length c15) (aM rfl _) (by simp only[execOp,aC e34];go_simp) ⟨fun e=>absurd e (by decide),rfl⟩
 ·intro a w' hb henv K hK
  obtain⟨⟨v35,e35,r35⟩,-⟩:=henv
  replace r35:v35=Value.slice A15 t.f15.length c15:=r35.2
  rw[r35] at e35
  clear r35 v35
  exact bG (R:=RR) (i:=27) hK (aM rfl _) Tryd.func31 (by kernel_rfl) rfl #[Value.slice A15 t.f15.length c15] rfl (by first|(simp only[List.map_toArray,List.map_cons,List.map_nil,aC e35];done)|(simp only[List.map_toArray,List.map_cons,List.map_nil,aC e35];rfl)) ((sound_seasons.calls A15 c15 t.f15 _ _ (Kd.bg G15.o hb) l15 C36.o).mono (fun e w'' h=>by obtain⟨rfl,hb'⟩:=h;exact⟨_,rfl,hb',⟨fun e=>absurd e (by decide),rfl⟩⟩))
 ·intro a w' hb henv K hK
  obtain⟨e1,-⟩:=henv
  replace e1:a.tmps[1]? = some (Value.pointer (some ⟨g1,0,none⟩)):=e1.trans rfl
  exact aG (R:=RR) (i:=28) hK (Value.pointer (some ⟨g1,16,none⟩)) (aM rfl _) (by simp only[execOp,aC e1];go_simp) ⟨fun e=>absurd e (by decide),rfl⟩
 ·intro a w' hb henv K hK
  obtain⟨⟨v37,e37,r37⟩,-⟩:=henv
  replace r37:v37=Value.pointer (some ⟨g1,16,none⟩):=r37.2
  rw[r37] at e37
  clear r37 v37
  have hcell:=(hb.cell (World.block_lt_of_cell? _ _ hc16)).trans hc16
  exact aG (R:=RR) (i:=29) hK (Value.slice A16 t.f16.length c16) (aM rfl _) (by simp only[execOp,aC e37];go_simp) ⟨fun e=>absurd e (by decide),rfl⟩
 ·intro a w' hb henv K hK
  obtain⟨⟨v38,e38,r38⟩,-⟩:=henv
  replace r38:v38=Value.slice A16 t.f16.length c16:=r38.2
  rw[r38] at e38
  clear r38 v38
  exact bG (R:=RR) (i:=30) hK (aM rfl _) Tryd.func32 (by kernel_rfl) rfl #[Value.slice A16 t.f16.length c16] rfl (by first|(simp only[List.map_toArray,List.map_cons,List.map_nil,aC e38];done)|(simp only[List.map_toArray,List.map_cons,List.map_nil,aC e38];rfl)) ((sound_holidays.calls k A16 c16 t.f16 _ _ (Kd.bg G16.o hb) l16 C39.o).mono (fun e w'' h=>by obtain⟨rfl,hb'⟩:=h;exact⟨_,rfl,hb',⟨fun e=>absurd e (by decide),rfl⟩⟩))
 ·intro a w' hb henv K hK
  obtain⟨e1,-⟩:=henv
  replace e1:a.tmps[1]? = some (Value.pointer (some ⟨g1,0,none⟩)):=e1.trans rfl
  exact aG (R:=RR) (i:=31) hK (Value.pointer (some ⟨g1,18,none⟩)) (aM rfl _) (by simp only[execOp,aC e1];go_simp) ⟨fun e=>absurd e (by decide),rfl⟩
 ·intro a w' hb henv K hK
  obtain⟨⟨v40,e40,r40⟩,-⟩:=henv
  replace r40:v40=Value.pointer (some ⟨g1,18,none⟩):=r40.2
  rw[r40] at e40
  clear r40 v40
  have hcell:=(hb.cell (World.block_lt_of_cell? _ _ hc18)).trans hc18
  exact aG (R:=RR) (i:=32) hK (Value.slice A18 t.f18.length c18) (aM rfl _) (by simp only[execOp,aC e40];go_simp) ⟨fun e=>absurd e (by decide),rfl⟩
 ·intro a w' hb henv K hK
  obtain⟨⟨v41,e41,r41⟩,-⟩:=henv
  replace r41:v41=Value.slice A18 t.f18.length c18:=r41.2
  rw[r41] at e41
  clear r41 v41
  exact bG (R:=RR) (i:=33) hK (aM rfl _) Tryd.func33 (by kernel_rfl) rfl #[Value.slice A18 t.f18.length c18] rfl (by first|(simp only[List.map_toArray,List.map_cons,List.map_nil,aC e41];done)|(simp only[List.map_toArray,List.map_cons,List.map_nil,aC e41];rfl)) ((sound_blocks.calls k A18 c18 t.f18 _ _ (Kd.bg G18.o hb) l18 C42.o).mono (fun e w'' h=>by obtain⟨rfl,hb'⟩:=h;exact⟨_,rfl,hb',⟨fun e=>absurd e (by decide),rfl⟩⟩))
 ·intro a w' hb henv K hK
  obtain⟨e1,-⟩:=henv
  replace e1:a.tmps[1]? = some (Value.pointer (some ⟨g1,0,none⟩)):=e1.trans rfl
  have hrg:w'.rangeAt g1 0 cs:=fun j v hj=>by rw[Nat.zero_add,ah (aN BK1.o hb) j];simpa using hj
  exact aG (R:=RR) (i:=34) hK (Value.agg cs.toArray) (aM rfl _) (by simp only[execOp,aC e1,Instr.loadAt,Instr.sureAddr,Sem.run_bind,Sem.run_pure,Result.andThen_ok,run_loadVar_mid w' g1 0 33 cs _ hrg hu33 rfl (by rw[HS.o];kernel_rfl)]) ⟨fun e=>absurd e (by decide),rfl⟩
 ·intro a w' hb henv K hK
  obtain⟨⟨v43,e43,r43⟩,-⟩:=henv
  replace r43:v43=Value.agg cs.toArray:=r43.2
  rw[r43] at e43
  clear r43 v43
  exact bG (R:=RR) (i:=35) hK (aM rfl _) Tryd.func34 (by kernel_rfl) rfl #[Value.agg cs.toArray] rfl (by first|(simp only[List.map_toArray,List.map_cons,List.map_nil,aC e43];done)|(simp only[List.map_toArray,List.map_cons,List.map_nil,aC e43];rfl)) ((sound_windows.calls t cs _ _ (kTar.K_below hb HT.o) C44.o).mono (fun e w'' h=>by obtain⟨rfl,hb'⟩:=h;exact⟨_,rfl,hb',⟨fun e=>absurd e (by decide),rfl⟩⟩))
 ·intro a w' hb henv K hK
  obtain⟨e4,-⟩:=henv
  replace e4:a.tmps[4]? = some (Value.pointer (some ⟨gd,0,none⟩)):=e4.trans rfl
  exact aG (R:=RR) (i:=36) hK (Value.pointer (some ⟨gd,0,none⟩)) (aM rfl _) (by simp only[execOp,aC e4];go_simp) ⟨fun e=>absurd e (by decide),rfl⟩
 ·intro a w' hb henv K hK
  obtain⟨⟨v45,e45,r45⟩,-⟩:=henv
  replace r45:v45=Value.pointer (some ⟨gd,0,none⟩):=r45.2
  rw[r45] at e45
  clear r45 v45
  have hcell:=(hb.cell (World.block_lt_of_cell? _ _ hvd_0)).trans hvd_0
  exact aG (R:=RR) (i:=37) hK (Value.int .i64 t.f19) (aM rfl _) (by simp only[execOp,aC e45];go_simp) ⟨fun e=>absurd e (by decide),rfl⟩
 ·intro a w' hb henv K hK
  obtain⟨⟨v46,e46,r46⟩,-⟩:=henv
  replace r46:v46=Value.int .i64 t.f19:=r46.2
  rw[r46] at e46
  clear r46 v46
  exact bG (R:=RR) (i:=38) hK (aM rfl _) Tryd.func30 (by kernel_rfl) rfl #[Value.int .i64 t.f19,Value.int .i64 0,Value.int .i64 10000000] rfl (by first|(simp only[List.map_toArray,List.map_cons,List.map_nil,aC e46];done)|(simp only[List.map_toArray,List.map_cons,List.map_nil,aC e46];rfl)) ((sound_within.calls t.f19 0 10000000 _ _ C47.o).mono (fun e w'' h=>by obtain⟨rfl,nd,rfl⟩:=h;exact⟨_,rfl,aa (Below.refl _ _) _,⟨fun e=>absurd e (by decide),rfl⟩⟩))
 ·intro a w' hb henv K hK
  obtain⟨⟨v47,e47,r47⟩,-⟩:=henv
  replace r47:v47=Value.bool b47:=r47.2
  rw[r47] at e47
  clear r47 v47
  exact aG (R:=RR) (i:=39) hK (Value.bool b47) (aM rfl _) (by simp only[execOp,aC e47];go_simp) ⟨fun e=>absurd e (by decide),rfl⟩
 ·intro a w' hb henv K hK
  obtain⟨e4,⟨v48,e48,r48⟩,-⟩:=henv
  replace e4:a.tmps[4]? = some (Value.pointer (some ⟨gd,0,none⟩)):=e4.trans rfl
  replace r48:v48=Value.bool b47:=r48.2
  rw[r48] at e48
  clear r48 v48
  cases g0:(b47:Bool)
  ·skip
   exact aT (R:=RR) (i:=40) hK (aD (x:=false) (g:=39) (b:=true) rfl (t:=48) rfl (a:=a) (by first|exact e48|(simp only[g0] at e48;exact e48))) ⟨fun e=>absurd e (by decide),(show undef=_ from by simp only[g0,cond_true,cond_false])⟩
  ·skip
   exact aG (R:=RR) (i:=40) hK (Value.pointer (some ⟨gd,1,none⟩)) (aD (x:=true) (g:=39) (b:=true) rfl (t:=48) rfl (a:=a) (by first|exact e48|(simp only[g0] at e48;exact e48))) (by simp only[execOp,aC e4];first|(go_simp;done)|(simp only[g0];go_simp)) ⟨fun e=>absurd e (by decide),(show _=_ from by simp only[g0,cond_true,cond_false])⟩
 ·intro a w' hb henv K hK
  obtain⟨⟨v49,e49,r49⟩,⟨v48,e48,r48⟩,-⟩:=henv
  replace r49:v49=cond b47 (Value.pointer (some ⟨gd,1,none⟩)) undef:=r49.2
  rw[r49] at e49
  clear r49 v49
  replace r48:v48=Value.bool b47:=r48.2
  rw[r48] at e48
  clear r48 v48
  cases g0:(b47:Bool)
  ·(try simp only[g0,cond_true,cond_false] at e49)
   exact aT (R:=RR) (i:=41) hK (aD (x:=false) (g:=39) (b:=true) rfl (t:=48) rfl (a:=a) (by first|exact e48|(simp only[g0] at e48;exact e48))) ⟨fun e=>absurd e (by decide),(show undef=_ from by simp only[g0,cond_true,cond_false])⟩
  ·(try simp only[g0,cond_true,cond_false] at e49)
   have hcell:=(hb.cell (World.block_lt_of_cell? _ _ hvd_1)).trans hvd_1
   exact aG (R:=RR) (i:=41) hK (Value.int .i64 t.f20) (aD (x:=true) (g:=39) (b:=true) rfl (t:=48) rfl (a:=a) (by first|exact e48|(simp only[g0] at e48;exact e48))) (by simp only[execOp,aC e49];go_simp) ⟨fun e=>absurd e (by decide),(show _=_ from by simp only[g0,cond_true,cond_false])⟩
 ·intro a w' hb henv K hK
  obtain⟨⟨v50,e50,r50⟩,⟨v48,e48,r48⟩,-⟩:=henv
  replace r50:v50=cond b47 (Value.int .i64 t.f20) undef:=r50.2
  rw[r50] at e50
  clear r50 v50
  replace r48:v48=Value.bool b47:=r48.2
  rw[r48] at e48
  clear r48 v48
  cases g0:(b47:Bool)
  ·(try simp only[g0,cond_true,cond_false] at e50)
   exact aT (R:=RR) (i:=42) hK (aD (x:=false) (g:=39) (b:=true) rfl (t:=48) rfl (a:=a) (by first|exact e48|(simp only[g0] at e48;exact e48))) ⟨fun e=>absurd e (by decide),(show undef=_ from by simp only[g0,cond_true,cond_false])⟩
  ·(try simp only[g0,cond_true,cond_false] at e50)
   exact aG (R:=RR) (i:=42) hK (Value.bool (t.f20 == 15)) (aD (x:=true) (g:=39) (b:=true) rfl (t:=48) rfl (a:=a) (by first|exact e48|(simp only[g0] at e48;exact e48))) (by simp only[execOp,aC e50];first|(go_simp;done)|(simp only[g0];go_simp)) ⟨fun e=>absurd e (by decide),(show _=_ from by simp only[g0,cond_true,cond_false])⟩
 ·intro a w' hb henv K hK
  obtain⟨⟨v51,e51,r51⟩,⟨v48,e48,r48⟩,-⟩:=henv
  replace r51:v51=cond b47 (Value.bool (t.f20 == 15)) undef:=r51.2
  rw[r51] at e51
  clear r51 v51
  replace r48:v48=Value.bool b47:=r48.2
  rw[r48] at e48
  clear r48 v48
  cases g0:(b47:Bool)
  ·(try simp only[g0,cond_true,cond_false] at e51)
   exact aT (R:=RR) (i:=43) hK (aD (x:=false) (g:=39) (b:=true) rfl (t:=48) rfl (a:=a) (by first|exact e48|(simp only[g0] at e48;exact e48))) ⟨fun e=>absurd e (by decide),(show undef=_ from by simp only[g0,cond_true,cond_false])⟩
  ·(try simp only[g0,cond_true,cond_false] at e51)
   exact aG (R:=RR) (i:=43) hK (Value.bool (t.f20 == 15)) (aD (x:=true) (g:=39) (b:=true) rfl (t:=48) rfl (a:=a) (by first|exact e48|(simp only[g0] at e48;exact e48))) (by simp only[execOp,aC e51];first|(go_simp;done)|(simp only[g0];go_simp)) ⟨fun e=>absurd e (by decide),(show _=_ from by simp only[g0,cond_true,cond_false])⟩
 ·intro a w' hb henv K hK
  obtain⟨e4,⟨v52,e52,r52⟩,-⟩:=henv
  replace e4:a.tmps[4]? = some (Value.pointer (some ⟨gd,0,none⟩)):=e4.trans rfl
  replace r52:v52=cond b47 (Value.bool (t.f20 == 15)) undef:=r52.2
  rw[r52] at e52
  clear r52 v52
  cases g0:(b47:Bool)
  ·(try simp only[g0,cond_true,cond_false] at e52)
   cases g1:((t.f20 == 15):Bool)
   ·skip
    exact aT (R:=RR) (i:=44) hK (bE (g:=43) (b:=false) rfl (t:=52) rfl (a:=a) e52) ⟨fun e=>absurd e (by decide),(show undef=_ from by simp only[g0,g1,cond_true,cond_false])⟩
   ·skip
    exact aT (R:=RR) (i:=44) hK (bE (g:=43) (b:=false) rfl (t:=52) rfl (a:=a) e52) ⟨fun e=>absurd e (by decide),(show undef=_ from by simp only[g0,g1,cond_true,cond_false])⟩
  ·(try simp only[g0,cond_true,cond_false] at e52)
   cases g1:((t.f20 == 15):Bool)
   ·skip
    exact aG (R:=RR) (i:=44) hK (Value.pointer (some ⟨gd,1,none⟩)) (aD (x:=false) (g:=43) (b:=false) rfl (t:=52) rfl (a:=a) (by first|exact e52|(simp only[g1] at e52;exact e52))) (by simp only[execOp,aC e4];first|(go_simp;done)|(simp only[g0,g1];go_simp)) ⟨fun e=>absurd e (by decide),(show _=_ from by simp only[g0,g1,cond_true,cond_false])⟩
   ·skip
    exact aT (R:=RR) (i:=44) hK (aD (x:=true) (g:=43) (b:=false) rfl (t:=52) rfl (a:=a) (by first|exact e52|(simp only[g1] at e52;exact e52))) ⟨fun e=>absurd e (by decide),(show undef=_ from by simp only[g0,g1,cond_true,cond_false])⟩
 ·intro a w' hb henv K hK
  obtain⟨⟨v53,e53,r53⟩,⟨v52,e52,r52⟩,-⟩:=henv
  replace r53:v53=cond b47 (cond (t.f20 == 15) undef (Value.pointer (some ⟨gd,1,none⟩))) undef:=r53.2
  rw[r53] at e53
  clear r53 v53
  replace r52:v52=cond b47 (Value.bool (t.f20 == 15)) undef:=r52.2
  rw[r52] at e52
  clear r52 v52
  cases g0:(b47:Bool)
  ·(try simp only[g0,cond_true,cond_false] at e53);(try simp only[g0,cond_true,cond_false] at e52)
   cases g1:((t.f20 == 15):Bool)
   ·(try simp only[g1,cond_true,cond_false] at e53)
    exact aT (R:=RR) (i:=45) hK (bE (g:=43) (b:=false) rfl (t:=52) rfl (a:=a) e52) ⟨fun e=>absurd e (by decide),(show undef=_ from by simp only[g0,g1,cond_true,cond_false])⟩
   ·(try simp only[g1,cond_true,cond_false] at e53)
    exact aT (R:=RR) (i:=45) hK (bE (g:=43) (b:=false) rfl (t:=52) rfl (a:=a) e52) ⟨fun e=>absurd e (by decide),(show undef=_ from by simp only[g0,g1,cond_true,cond_false])⟩
  ·(try simp only[g0,cond_true,cond_false] at e53);(try simp only[g0,cond_true,cond_false] at e52)
   cases g1:((t.f20 == 15):Bool)
   ·(try simp only[g1,cond_true,cond_false] at e53)
    have hcell:=(hb.cell (World.block_lt_of_cell? _ _ hvd_1)).trans hvd_1
    exact aG (R:=RR) (i:=45) hK (Value.int .i64 t.f20) (aD (x:=false) (g:=43) (b:=false) rfl (t:=52) rfl (a:=a) (by first|exact e52|(simp only[g1] at e52;exact e52))) (by simp only[execOp,aC e53];go_simp) ⟨fun e=>absurd e (by decide),(show _=_ from by simp only[g0,g1,cond_true,cond_false])⟩
   ·(try simp only[g1,cond_true,cond_false] at e53)
    exact aT (R:=RR) (i:=45) hK (aD (x:=true) (g:=43) (b:=false) rfl (t:=52) rfl (a:=a) (by first|exact e52|(simp only[g1] at e52;exact e52))) ⟨fun e=>absurd e (by decide),(show undef=_ from by simp only[g0,g1,cond_true,cond_false])⟩
 ·intro a w' hb henv K hK
  obtain⟨⟨v54,e54,r54⟩,⟨v52,e52,r52⟩,-⟩:=henv
  replace r54:v54=cond b47 (cond (t.f20 == 15) undef (Value.int .i64 t.f20)) undef:=r54.2
  rw[r54] at e54
  clear r54 v54
  replace r52:v52=cond b47 (Value.bool (t.f20 == 15)) undef:=r52.2
  rw[r52] at e52
  clear r52 v52
  cases g0:(b47:Bool)
  ·(try simp only[g0,cond_true,cond_false] at e54);(try simp only[g0,cond_true,cond_false] at e52)
   cases g1:((t.f20 == 15):Bool)
   ·(try simp only[g1,cond_true,cond_false] at e54)
    exact aT (R:=RR) (i:=46) hK (bE (g:=43) (b:=false) rfl (t:=52) rfl (a:=a) e52) ⟨fun e=>absurd e (by decide),(show undef=_ from by simp only[g0,g1,cond_true,cond_false])⟩
   ·(try simp only[g1,cond_true,cond_false] at e54)
    exact aT (R:=RR) (i:=46) hK (bE (g:=43) (b:=false) rfl (t:=52) rfl (a:=a) e52) ⟨fun e=>absurd e (by decide),(show undef=_ from by simp only[g0,g1,cond_true,cond_false])⟩
  ·(try simp only[g0,cond_true,cond_false] at e54);(try simp only[g0,cond_true,cond_false] at e52)
   cases g1:((t.f20 == 15):Bool)
   ·(try simp only[g1,cond_true,cond_false] at e54)
    exact aG (R:=RR) (i:=46) hK (Value.bool (t.f20 == 30)) (aD (x:=false) (g:=43) (b:=false) rfl (t:=52) rfl (a:=a) (by first|exact e52|(simp only[g1] at e52;exact e52))) (by simp only[execOp,aC e54];first|(go_simp;done)|(simp only[g0,g1];go_simp)) ⟨fun e=>absurd e (by decide),(show _=_ from by simp only[g0,g1,cond_true,cond_false])⟩
   ·(try simp only[g1,cond_true,cond_false] at e54)
    exact aT (R:=RR) (i:=46) hK (aD (x:=true) (g:=43) (b:=false) rfl (t:=52) rfl (a:=a) (by first|exact e52|(simp only[g1] at e52;exact e52))) ⟨fun e=>absurd e (by decide),(show undef=_ from by simp only[g0,g1,cond_true,cond_false])⟩
 ·intro a w' hb henv K hK
  obtain⟨⟨v52,e52,r52⟩,⟨v55,e55,r55⟩,⟨v48,e48,r48⟩,-⟩:=henv
  replace r52:v52=cond b47 (Value.bool (t.f20 == 15)) undef:=r52.2
  rw[r52] at e52
  clear r52 v52
  replace r55:v55=cond b47 (cond (t.f20 == 15) undef (Value.bool (t.f20 == 30))) undef:=r55.2
  rw[r55] at e55
  clear r55 v55
  replace r48:v48=Value.bool b47:=r48.2
  rw[r48] at e48
  clear r48 v48
  cases g0:(b47:Bool)
  ·(try simp only[g0,cond_true,cond_false] at e52);(try simp only[g0,cond_true,cond_false] at e55)
   cases g1:((t.f20 == 15):Bool)
   ·(try simp only[g1,cond_true,cond_false] at e55)
    exact aT (R:=RR) (i:=47) hK (aD (x:=false) (g:=39) (b:=true) rfl (t:=48) rfl (a:=a) (by first|exact e48|(simp only[g0] at e48;exact e48))) ⟨fun e=>absurd e (by decide),(show undef=_ from by simp only[g0,g1,cond_true,cond_false])⟩
   ·(try simp only[g1,cond_true,cond_false] at e55)
    exact aT (R:=RR) (i:=47) hK (aD (x:=false) (g:=39) (b:=true) rfl (t:=48) rfl (a:=a) (by first|exact e48|(simp only[g0] at e48;exact e48))) ⟨fun e=>absurd e (by decide),(show undef=_ from by simp only[g0,g1,cond_true,cond_false])⟩
  ·(try simp only[g0,cond_true,cond_false] at e52);(try simp only[g0,cond_true,cond_false] at e55)
   cases g1:((t.f20 == 15):Bool)
   ·(try simp only[g1,cond_true,cond_false] at e55)
    exact aG (R:=RR) (i:=47) hK (Value.bool ((t.f20 == 15) || (t.f20 == 30))) (aD (x:=true) (g:=39) (b:=true) rfl (t:=48) rfl (a:=a) (by first|exact e48|(simp only[g0] at e48;exact e48))) (by simp only[execOp,aC e52,aC e55];first|(go_simp;done)|(simp only[g0,g1];go_simp)) ⟨fun e=>absurd e (by decide),(show _=_ from by simp only[g0,g1,cond_true,cond_false])⟩
   ·(try simp only[g1,cond_true,cond_false] at e55)
    exact aG (R:=RR) (i:=47) hK (Value.bool ((t.f20 == 15) || (t.f20 == 30))) (aD (x:=true) (g:=39) (b:=true) rfl (t:=48) rfl (a:=a) (by first|exact e48|(simp only[g0] at e48;exact e48))) (by simp only[execOp,aC e52,aC e55];first|(go_simp;done)|(simp only[g0,g1];go_simp)) ⟨fun e=>absurd e (by decide),(show _=_ from by simp only[g0,g1,cond_true,cond_false])⟩
 ·intro a w' hb henv K hK
  obtain⟨⟨v56,e56,r56⟩,⟨v48,e48,r48⟩,-⟩:=henv
  replace r56:v56=cond b47 (Value.bool ((t.f20 == 15) || (t.f20 == 30))) undef:=r56.2
  rw[r56] at e56
  clear r56 v56
  replace r48:v48=Value.bool b47:=r48.2
  rw[r48] at e48
  clear r48 v48
  cases g0:(b47:Bool)
  ·(try simp only[g0,cond_true,cond_false] at e56)
   exact aT (R:=RR) (i:=48) hK (aD (x:=false) (g:=39) (b:=true) rfl (t:=48) rfl (a:=a) (by first|exact e48|(simp only[g0] at e48;exact e48))) ⟨fun e=>absurd e (by decide),(show undef=_ from by simp only[g0,cond_true,cond_false])⟩
  ·(try simp only[g0,cond_true,cond_false] at e56)
   exact aG (R:=RR) (i:=48) hK (Value.bool ((t.f20 == 15) || (t.f20 == 30))) (aD (x:=true) (g:=39) (b:=true) rfl (t:=48) rfl (a:=a) (by first|exact e48|(simp only[g0] at e48;exact e48))) (by simp only[execOp,aC e56];first|(go_simp;done)|(simp only[g0];go_simp)) ⟨fun e=>absurd e (by decide),(show _=_ from by simp only[g0,cond_true,cond_false])⟩
 ·intro a w' hb henv K hK
  obtain⟨e4,⟨v57,e57,r57⟩,-⟩:=henv
  replace e4:a.tmps[4]? = some (Value.pointer (some ⟨gd,0,none⟩)):=e4.trans rfl
  replace r57:v57=cond b47 (Value.bool ((t.f20 == 15) || (t.f20 == 30))) undef:=r57.2
  rw[r57] at e57
  clear r57 v57
  cases g0:(b47:Bool)
  ·(try simp only[g0,cond_true,cond_false] at e57)
   cases g1:(((t.f20 == 15) || (t.f20 == 30)):Bool)
   ·skip
    exact aT (R:=RR) (i:=49) hK (bE (g:=48) (b:=false) rfl (t:=57) rfl (a:=a) e57) ⟨fun e=>absurd e (by decide),(show undef=_ from by simp only[g0,g1,cond_true,cond_false])⟩
   ·skip
    exact aT (R:=RR) (i:=49) hK (bE (g:=48) (b:=false) rfl (t:=57) rfl (a:=a) e57) ⟨fun e=>absurd e (by decide),(show undef=_ from by simp only[g0,g1,cond_true,cond_false])⟩
  ·(try simp only[g0,cond_true,cond_false] at e57)
   cases g1:(((t.f20 == 15) || (t.f20 == 30)):Bool)
   ·skip
    exact aG (R:=RR) (i:=49) hK (Value.pointer (some ⟨gd,1,none⟩)) (aD (x:=false) (g:=48) (b:=false) rfl (t:=57) rfl (a:=a) (by first|exact e57|(simp only[g1] at e57;exact e57))) (by simp only[execOp,aC e4];first|(go_simp;done)|(simp only[g0,g1];go_simp)) ⟨fun e=>absurd e (by decide),(show _=_ from by simp only[g0,g1,cond_true,cond_false])⟩
   ·skip
    exact aT (R:=RR) (i:=49) hK (aD (x:=true) (g:=48) (b:=false) rfl (t:=57) rfl (a:=a) (by first|exact e57|(simp only[g1] at e57;exact e57))) ⟨fun e=>absurd e (by decide),(show undef=_ from by simp only[g0,g1,cond_true,cond_false])⟩
 ·intro a w' hb henv K hK
  obtain⟨⟨v58,e58,r58⟩,⟨v57,e57,r57⟩,-⟩:=henv
  replace r58:v58=cond b47 (cond ((t.f20 == 15) || (t.f20 == 30)) undef (Value.pointer (some ⟨gd,1,none⟩))) undef:=r58.2
  rw[r58] at e58
  clear r58 v58
  replace r57:v57=cond b47 (Value.bool ((t.f20 == 15) || (t.f20 == 30))) undef:=r57.2
  rw[r57] at e57
  clear r57 v57
  cases g0:(b47:Bool)
  ·(try simp only[g0,cond_true,cond_false] at e58);(try simp only[g0,cond_true,cond_false] at e57)
   cases g1:(((t.f20 == 15) || (t.f20 == 30)):Bool)
   ·(try simp only[g1,cond_true,cond_false] at e58)
    exact aT (R:=RR) (i:=50) hK (bE (g:=48) (b:=false) rfl (t:=57) rfl (a:=a) e57) ⟨fun e=>absurd e (by decide),(show undef=_ from by simp only[g0,g1,cond_true,cond_false])⟩
   ·(try simp only[g1,cond_true,cond_false] at e58)
    exact aT (R:=RR) (i:=50) hK (bE (g:=48) (b:=false) rfl (t:=57) rfl (a:=a) e57) ⟨fun e=>absurd e (by decide),(show undef=_ from by simp only[g0,g1,cond_true,cond_false])⟩
  ·(try simp only[g0,cond_true,cond_false] at e58);(try simp only[g0,cond_true,cond_false] at e57)
   cases g1:(((t.f20 == 15) || (t.f20 == 30)):Bool)
   ·(try simp only[g1,cond_true,cond_false] at e58)
    have hcell:=(hb.cell (World.block_lt_of_cell? _ _ hvd_1)).trans hvd_1
    exact aG (R:=RR) (i:=50) hK (Value.int .i64 t.f20) (aD (x:=false) (g:=48) (b:=false) rfl (t:=57) rfl (a:=a) (by first|exact e57|(simp only[g1] at e57;exact e57))) (by simp only[execOp,aC e58];go_simp) ⟨fun e=>absurd e (by decide),(show _=_ from by simp only[g0,g1,cond_true,cond_false])⟩
   ·(try simp only[g1,cond_true,cond_false] at e58)
    exact aT (R:=RR) (i:=50) hK (aD (x:=true) (g:=48) (b:=false) rfl (t:=57) rfl (a:=a) (by first|exact e57|(simp only[g1] at e57;exact e57))) ⟨fun e=>absurd e (by decide),(show undef=_ from by simp only[g0,g1,cond_true,cond_false])⟩
 ·intro a w' hb henv K hK
  obtain⟨⟨v59,e59,r59⟩,⟨v57,e57,r57⟩,-⟩:=henv
  replace r59:v59=cond b47 (cond ((t.f20 == 15) || (t.f20 == 30)) undef (Value.int .i64 t.f20)) undef:=r59.2
  rw[r59] at e59
  clear r59 v59
  replace r57:v57=cond b47 (Value.bool ((t.f20 == 15) || (t.f20 == 30))) undef:=r57.2
  rw[r57] at e57
  clear r57 v57
  cases g0:(b47:Bool)
  ·(try simp only[g0,cond_true,cond_false] at e59);(try simp only[g0,cond_true,cond_false] at e57)
   cases g1:(((t.f20 == 15) || (t.f20 == 30)):Bool)
   ·(try simp only[g1,cond_true,cond_false] at e59)
    exact aT (R:=RR) (i:=51) hK (bE (g:=48) (b:=false) rfl (t:=57) rfl (a:=a) e57) ⟨fun e=>absurd e (by decide),(show undef=_ from by simp only[g0,g1,cond_true,cond_false])⟩
   ·(try simp only[g1,cond_true,cond_false] at e59)
    exact aT (R:=RR) (i:=51) hK (bE (g:=48) (b:=false) rfl (t:=57) rfl (a:=a) e57) ⟨fun e=>absurd e (by decide),(show undef=_ from by simp only[g0,g1,cond_true,cond_false])⟩
  ·(try simp only[g0,cond_true,cond_false] at e59);(try simp only[g0,cond_true,cond_false] at e57)
   cases g1:(((t.f20 == 15) || (t.f20 == 30)):Bool)
   ·(try simp only[g1,cond_true,cond_false] at e59)
    exact aG (R:=RR) (i:=51) hK (Value.bool (t.f20 == 60)) (aD (x:=false) (g:=48) (b:=false) rfl (t:=57) rfl (a:=a) (by first|exact e57|(simp only[g1] at e57;exact e57))) (by simp only[execOp,aC e59];first|(go_simp;done)|(simp only[g0,g1];go_simp)) ⟨fun e=>absurd e (by decide),(show _=_ from by simp only[g0,g1,cond_true,cond_false])⟩
   ·(try simp only[g1,cond_true,cond_false] at e59)
    exact aT (R:=RR) (i:=51) hK (aD (x:=true) (g:=48) (b:=false) rfl (t:=57) rfl (a:=a) (by first|exact e57|(simp only[g1] at e57;exact e57))) ⟨fun e=>absurd e (by decide),(show undef=_ from by simp only[g0,g1,cond_true,cond_false])⟩
 ·intro a w' hb henv K hK
  obtain⟨⟨v57,e57,r57⟩,⟨v60,e60,r60⟩,⟨v48,e48,r48⟩,-⟩:=henv
  replace r57:v57=cond b47 (Value.bool ((t.f20 == 15) || (t.f20 == 30))) undef:=r57.2
  rw[r57] at e57
  clear r57 v57
  replace r60:v60=cond b47 (cond ((t.f20 == 15) || (t.f20 == 30)) undef (Value.bool (t.f20 == 60))) undef:=r60.2
  rw[r60] at e60
  clear r60 v60
  replace r48:v48=Value.bool b47:=r48.2
  rw[r48] at e48
  clear r48 v48
  cases g0:(b47:Bool)
  ·(try simp only[g0,cond_true,cond_false] at e57);(try simp only[g0,cond_true,cond_false] at e60)
   cases g1:(((t.f20 == 15) || (t.f20 == 30)):Bool)
   ·(try simp only[g1,cond_true,cond_false] at e60)
    exact aT (R:=RR) (i:=52) hK (aD (x:=false) (g:=39) (b:=true) rfl (t:=48) rfl (a:=a) (by first|exact e48|(simp only[g0] at e48;exact e48))) ⟨fun e=>absurd e (by decide),(show undef=_ from by simp only[g0,g1,cond_true,cond_false])⟩
   ·(try simp only[g1,cond_true,cond_false] at e60)
    exact aT (R:=RR) (i:=52) hK (aD (x:=false) (g:=39) (b:=true) rfl (t:=48) rfl (a:=a) (by first|exact e48|(simp only[g0] at e48;exact e48))) ⟨fun e=>absurd e (by decide),(show undef=_ from by simp only[g0,g1,cond_true,cond_false])⟩
  ·(try simp only[g0,cond_true,cond_false] at e57);(try simp only[g0,cond_true,cond_false] at e60)
   cases g1:(((t.f20 == 15) || (t.f20 == 30)):Bool)
   ·(try simp only[g1,cond_true,cond_false] at e60)
    exact aG (R:=RR) (i:=52) hK (Value.bool (((t.f20 == 15) || (t.f20 == 30)) || (t.f20 == 60))) (aD (x:=true) (g:=39) (b:=true) rfl (t:=48) rfl (a:=a) (by first|exact e48|(simp only[g0] at e48;exact e48))) (by simp only[execOp,aC e57,aC e60];first|(go_simp;done)|(simp only[g0,g1];go_simp)) ⟨fun e=>absurd e (by decide),(show _=_ from by simp only[g0,g1,cond_true,cond_false])⟩
   ·(try simp only[g1,cond_true,cond_false] at e60)
    exact aG (R:=RR) (i:=52) hK (Value.bool (((t.f20 == 15) || (t.f20 == 30)) || (t.f20 == 60))) (aD (x:=true) (g:=39) (b:=true) rfl (t:=48) rfl (a:=a) (by first|exact e48|(simp only[g0] at e48;exact e48))) (by simp only[execOp,aC e57,aC e60];first|(go_simp;done)|(simp only[g0,g1];go_simp)) ⟨fun e=>absurd e (by decide),(show _=_ from by simp only[g0,g1,cond_true,cond_false])⟩
 ·intro a w' hb henv K hK
  obtain⟨⟨v48,e48,r48⟩,⟨v61,e61,r61⟩,-⟩:=henv
  replace r48:v48=Value.bool b47:=r48.2
  rw[r48] at e48
  clear r48 v48
  replace r61:v61=cond b47 (Value.bool (((t.f20 == 15) || (t.f20 == 30)) || (t.f20 == 60))) undef:=r61.2
  rw[r61] at e61
  clear r61 v61
  cases g0:(b47:Bool)
  ·(try simp only[g0,cond_true,cond_false] at e61)
   exact aG (R:=RR) (i:=53) hK (Value.bool (b47 && (((t.f20 == 15) || (t.f20 == 30)) || (t.f20 == 60)))) (aM rfl _) (by simp only[execOp,aC e48,aC e61];first|(go_simp;done)|(simp only[g0];go_simp)) ⟨fun e=>absurd e (by decide),(show _=_ from by first|rfl|(simp only[g0];rfl))⟩
  ·(try simp only[g0,cond_true,cond_false] at e61)
   exact aG (R:=RR) (i:=53) hK (Value.bool (b47 && (((t.f20 == 15) || (t.f20 == 30)) || (t.f20 == 60)))) (aM rfl _) (by simp only[execOp,aC e48,aC e61];first|(go_simp;done)|(simp only[g0];go_simp)) ⟨fun e=>absurd e (by decide),(show _=_ from by first|rfl|(simp only[g0];rfl))⟩
 ·intro a w' hb henv K hK
  obtain⟨⟨v62,e62,r62⟩,-⟩:=henv
  replace r62:v62=Value.bool (b47 && (((t.f20 == 15) || (t.f20 == 30)) || (t.f20 == 60))):=r62.2
  rw[r62] at e62
  clear r62 v62
  exact aG (R:=RR) (i:=54) hK (Value.bool (b47 && (((t.f20 == 15) || (t.f20 == 30)) || (t.f20 == 60)))) (aM rfl _) (by simp only[execOp,aC e62];go_simp) ⟨fun e=>absurd e (by decide),rfl⟩
 ·intro a w' hb henv K hK
  obtain⟨e4,⟨v63,e63,r63⟩,-⟩:=henv
  replace e4:a.tmps[4]? = some (Value.pointer (some ⟨gd,0,none⟩)):=e4.trans rfl
  replace r63:v63=Value.bool (b47 && (((t.f20 == 15) || (t.f20 == 30)) || (t.f20 == 60))):=r63.2
  rw[r63] at e63
  clear r63 v63
  cases g0:((b47 && (((t.f20 == 15) || (t.f20 == 30)) || (t.f20 == 60))):Bool)
  ·skip
   exact aT (R:=RR) (i:=55) hK (aD (x:=false) (g:=54) (b:=true) rfl (t:=63) rfl (a:=a) (by first|exact e63|(simp only[g0] at e63;exact e63))) ⟨fun e=>absurd e (by decide),(show undef=_ from by simp only[g0,cond_true,cond_false])⟩
  ·skip
   exact aG (R:=RR) (i:=55) hK (Value.pointer (some ⟨gd,2,none⟩)) (aD (x:=true) (g:=54) (b:=true) rfl (t:=63) rfl (a:=a) (by first|exact e63|(simp only[g0] at e63;exact e63))) (by simp only[execOp,aC e4];first|(go_simp;done)|(simp only[g0];go_simp)) ⟨fun e=>absurd e (by decide),(show _=_ from by simp only[g0,cond_true,cond_false])⟩
 ·intro a w' hb henv K hK
  obtain⟨⟨v64,e64,r64⟩,⟨v63,e63,r63⟩,-⟩:=henv
  replace r64:v64=cond (b47 && (((t.f20 == 15) || (t.f20 == 30)) || (t.f20 == 60))) (Value.pointer (some ⟨gd,2,none⟩)) undef:=r64.2
  rw[r64] at e64
  clear r64 v64
  replace r63:v63=Value.bool (b47 && (((t.f20 == 15) || (t.f20 == 30)) || (t.f20 == 60))):=r63.2
  rw[r63] at e63
  clear r63 v63
  cases g0:((b47 && (((t.f20 == 15) || (t.f20 == 30)) || (t.f20 == 60))):Bool)
  ·(try simp only[g0,cond_true,cond_false] at e64)
   exact aT (R:=RR) (i:=56) hK (aD (x:=false) (g:=54) (b:=true) rfl (t:=63) rfl (a:=a) (by first|exact e63|(simp only[g0] at e63;exact e63))) ⟨fun e=>absurd e (by decide),(show undef=_ from by simp only[g0,cond_true,cond_false])⟩
  ·(try simp only[g0,cond_true,cond_false] at e64)
   have hcell:=(hb.cell (World.block_lt_of_cell? _ _ hvd_2)).trans hvd_2
   exact aG (R:=RR) (i:=56) hK (Value.int .i64 t.f21) (aD (x:=true) (g:=54) (b:=true) rfl (t:=63) rfl (a:=a) (by first|exact e63|(simp only[g0] at e63;exact e63))) (by simp only[execOp,aC e64];go_simp) ⟨fun e=>absurd e (by decide),(show _=_ from by simp only[g0,cond_true,cond_false])⟩
 ·intro a w' hb henv K hK
  obtain⟨⟨v65,e65,r65⟩,⟨v63,e63,r63⟩,-⟩:=henv
  replace r65:v65=cond (b47 && (((t.f20 == 15) || (t.f20 == 30)) || (t.f20 == 60))) (Value.int .i64 t.f21) undef:=r65.2
  rw[r65] at e65
  clear r65 v65
  replace r63:v63=Value.bool (b47 && (((t.f20 == 15) || (t.f20 == 30)) || (t.f20 == 60))):=r63.2
  rw[r63] at e63
  clear r63 v63
  cases g0:((b47 && (((t.f20 == 15) || (t.f20 == 30)) || (t.f20 == 60))):Bool)
  ·(try simp only[g0,cond_true,cond_false] at e65)
   exact aT (R:=RR) (i:=57) hK (aD (x:=false) (g:=54) (b:=true) rfl (t:=63) rfl (a:=a) (by first|exact e63|(simp only[g0] at e63;exact e63))) ⟨fun e=>absurd e (by decide),(show undef=_ from by simp only[g0,cond_true,cond_false])⟩
  ·(try simp only[g0,cond_true,cond_false] at e65)
   exact bG (R:=RR) (i:=57) hK (aD (x:=true) (g:=54) (b:=true) rfl (t:=63) rfl (a:=a) (by first|exact e63|(simp only[g0] at e63;exact e63))) Tryd.func30 (by kernel_rfl) rfl #[Value.int .i64 t.f21,Value.int .i64 0,Value.int .i64 100] rfl (by first|(simp only[List.map_toArray,List.map_cons,List.map_nil,aC e65];done)|(simp only[List.map_toArray,List.map_cons,List.map_nil,aC e65];rfl)) ((sound_within.calls t.f21 0 100 _ _ C66.o).mono (fun e w'' h=>by obtain⟨rfl,nd,rfl⟩:=h;exact⟨_,rfl,aa (Below.refl _ _) _,⟨fun e=>absurd e (by decide),(show _=_ from by simp only[g0,cond_true,cond_false])⟩⟩))
 ·intro a w' hb henv K hK
  obtain⟨⟨v63,e63,r63⟩,⟨v66,e66,r66⟩,-⟩:=henv
  replace r63:v63=Value.bool (b47 && (((t.f20 == 15) || (t.f20 == 30)) || (t.f20 == 60))):=r63.2
  rw[r63] at e63
  clear r63 v63
  replace r66:v66=cond (b47 && (((t.f20 == 15) || (t.f20 == 30)) || (t.f20 == 60))) (Value.bool b66) undef:=r66.2
  rw[r66] at e66
  clear r66 v66
  cases g0:((b47 && (((t.f20 == 15) || (t.f20 == 30)) || (t.f20 == 60))):Bool)
  ·(try simp only[g0,cond_true,cond_false] at e66)
   exact aG (R:=RR) (i:=58) hK (Value.bool ((b47 && (((t.f20 == 15) || (t.f20 == 30)) || (t.f20 == 60))) && b66)) (aM rfl _) (by simp only[execOp,aC e63,aC e66];first|(go_simp;done)|(simp only[g0];go_simp)) ⟨fun e=>absurd e (by decide),(show _=_ from by first|rfl|(simp only[g0];rfl))⟩
  ·(try simp only[g0,cond_true,cond_false] at e66)
   exact aG (R:=RR) (i:=58) hK (Value.bool ((b47 && (((t.f20 == 15) || (t.f20 == 30)) || (t.f20 == 60))) && b66)) (aM rfl _) (by simp only[execOp,aC e63,aC e66];first|(go_simp;done)|(simp only[g0];go_simp)) ⟨fun e=>absurd e (by decide),(show _=_ from by first|rfl|(simp only[g0];rfl))⟩
 ·intro a w' hb henv K hK
  obtain⟨⟨v67,e67,r67⟩,-⟩:=henv
  replace r67:v67=Value.bool ((b47 && (((t.f20 == 15) || (t.f20 == 30)) || (t.f20 == 60))) && b66):=r67.2
  rw[r67] at e67
  clear r67 v67
  exact aG (R:=RR) (i:=59) hK (Value.bool ((b47 && (((t.f20 == 15) || (t.f20 == 30)) || (t.f20 == 60))) && b66)) (aM rfl _) (by simp only[execOp,aC e67];go_simp) ⟨fun e=>absurd e (by decide),rfl⟩
 ·intro a w' hb henv K hK
  obtain⟨e4,⟨v68,e68,r68⟩,-⟩:=henv
  replace e4:a.tmps[4]? = some (Value.pointer (some ⟨gd,0,none⟩)):=e4.trans rfl
  replace r68:v68=Value.bool ((b47 && (((t.f20 == 15) || (t.f20 == 30)) || (t.f20 == 60))) && b66):=r68.2
  rw[r68] at e68
  clear r68 v68
  cases g0:(((b47 && (((t.f20 == 15) || (t.f20 == 30)) || (t.f20 == 60))) && b66):Bool)
  ·skip
   exact aT (R:=RR) (i:=60) hK (aD (x:=false) (g:=59) (b:=true) rfl (t:=68) rfl (a:=a) (by first|exact e68|(simp only[g0] at e68;exact e68))) ⟨fun e=>absurd e (by decide),(show undef=_ from by simp only[g0,cond_true,cond_false])⟩
  ·skip
   exact aG (R:=RR) (i:=60) hK (Value.pointer (some ⟨gd,3,none⟩)) (aD (x:=true) (g:=59) (b:=true) rfl (t:=68) rfl (a:=a) (by first|exact e68|(simp only[g0] at e68;exact e68))) (by simp only[execOp,aC e4];first|(go_simp;done)|(simp only[g0];go_simp)) ⟨fun e=>absurd e (by decide),(show _=_ from by simp only[g0,cond_true,cond_false])⟩
 ·intro a w' hb henv K hK
  obtain⟨⟨v69,e69,r69⟩,⟨v68,e68,r68⟩,-⟩:=henv
  replace r69:v69=cond ((b47 && (((t.f20 == 15) || (t.f20 == 30)) || (t.f20 == 60))) && b66) (Value.pointer (some ⟨gd,3,none⟩)) undef:=r69.2
  rw[r69] at e69
  clear r69 v69
  replace r68:v68=Value.bool ((b47 && (((t.f20 == 15) || (t.f20 == 30)) || (t.f20 == 60))) && b66):=r68.2
  rw[r68] at e68
  clear r68 v68
  cases g0:(((b47 && (((t.f20 == 15) || (t.f20 == 30)) || (t.f20 == 60))) && b66):Bool)
  ·(try simp only[g0,cond_true,cond_false] at e69)
   exact aT (R:=RR) (i:=61) hK (aD (x:=false) (g:=59) (b:=true) rfl (t:=68) rfl (a:=a) (by first|exact e68|(simp only[g0] at e68;exact e68))) ⟨fun e=>absurd e (by decide),(show undef=_ from by simp only[g0,cond_true,cond_false])⟩
  ·(try simp only[g0,cond_true,cond_false] at e69)
   have hcell:=(hb.cell (World.block_lt_of_cell? _ _ hvd_3)).trans hvd_3
   exact aG (R:=RR) (i:=61) hK (Value.int .i64 t.f22) (aD (x:=true) (g:=59) (b:=true) rfl (t:=68) rfl (a:=a) (by first|exact e68|(simp only[g0] at e68;exact e68))) (by simp only[execOp,aC e69];go_simp) ⟨fun e=>absurd e (by decide),(show _=_ from by simp only[g0,cond_true,cond_false])⟩
 ·intro a w' hb henv K hK
  obtain⟨⟨v70,e70,r70⟩,⟨v68,e68,r68⟩,-⟩:=henv
  replace r70:v70=cond ((b47 && (((t.f20 == 15) || (t.f20 == 30)) || (t.f20 == 60))) && b66) (Value.int .i64 t.f22) undef:=r70.2
  rw[r70] at e70
  clear r70 v70
  replace r68:v68=Value.bool ((b47 && (((t.f20 == 15) || (t.f20 == 30)) || (t.f20 == 60))) && b66):=r68.2
  rw[r68] at e68
  clear r68 v68
  cases g0:(((b47 && (((t.f20 == 15) || (t.f20 == 30)) || (t.f20 == 60))) && b66):Bool)
  ·(try simp only[g0,cond_true,cond_false] at e70)
   exact aT (R:=RR) (i:=62) hK (aD (x:=false) (g:=59) (b:=true) rfl (t:=68) rfl (a:=a) (by first|exact e68|(simp only[g0] at e68;exact e68))) ⟨fun e=>absurd e (by decide),(show undef=_ from by simp only[g0,cond_true,cond_false])⟩
  ·(try simp only[g0,cond_true,cond_false] at e70)
   exact bG (R:=RR) (i:=62) hK (aD (x:=true) (g:=59) (b:=true) rfl (t:=68) rfl (a:=a) (by first|exact e68|(simp only[g0] at e68;exact e68))) Tryd.func30 (by kernel_rfl) rfl #[Value.int .i64 t.f22,Value.int .i64 0,Value.int .i64 36] rfl (by first|(simp only[List.map_toArray,List.map_cons,List.map_nil,aC e70];done)|(simp only[List.map_toArray,List.map_cons,List.map_nil,aC e70];rfl)) ((sound_within.calls t.f22 0 36 _ _ C71.o).mono (fun e w'' h=>by obtain⟨rfl,nd,rfl⟩:=h;exact⟨_,rfl,aa (Below.refl _ _) _,⟨fun e=>absurd e (by decide),(show _=_ from by simp only[g0,cond_true,cond_false])⟩⟩))
 ·intro a w' hb henv K hK
  obtain⟨⟨v68,e68,r68⟩,⟨v71,e71,r71⟩,-⟩:=henv
  replace r68:v68=Value.bool ((b47 && (((t.f20 == 15) || (t.f20 == 30)) || (t.f20 == 60))) && b66):=r68.2
  rw[r68] at e68
  clear r68 v68
  replace r71:v71=cond ((b47 && (((t.f20 == 15) || (t.f20 == 30)) || (t.f20 == 60))) && b66) (Value.bool b71) undef:=r71.2
  rw[r71] at e71
  clear r71 v71
  cases g0:(((b47 && (((t.f20 == 15) || (t.f20 == 30)) || (t.f20 == 60))) && b66):Bool)
  ·(try simp only[g0,cond_true,cond_false] at e71)
   exact aG (R:=RR) (i:=63) hK (Value.bool (((b47 && (((t.f20 == 15) || (t.f20 == 30)) || (t.f20 == 60))) && b66) && b71)) (aM rfl _) (by simp only[execOp,aC e68,aC e71];first|(go_simp;done)|(simp only[g0];go_simp)) ⟨fun e=>absurd e (by decide),(show _=_ from by first|rfl|(simp only[g0];rfl))⟩
  ·(try simp only[g0,cond_true,cond_false] at e71)
   exact aG (R:=RR) (i:=63) hK (Value.bool (((b47 && (((t.f20 == 15) || (t.f20 == 30)) || (t.f20 == 60))) && b66) && b71)) (aM rfl _) (by simp only[execOp,aC e68,aC e71];first|(go_simp;done)|(simp only[g0];go_simp)) ⟨fun e=>absurd e (by decide),(show _=_ from by first|rfl|(simp only[g0];rfl))⟩
 ·intro a w' hb henv K hK
  obtain⟨e1,-⟩:=henv
  replace e1:a.tmps[1]? = some (Value.pointer (some ⟨g1,0,none⟩)):=e1.trans rfl
  exact aG (R:=RR) (i:=64) hK (Value.pointer (some ⟨g1,23,none⟩)) (aM rfl _) (by simp only[execOp,aC e1];go_simp) ⟨fun e=>absurd e (by decide),rfl⟩
 ·intro a w' hb henv K hK
  obtain⟨⟨v73,e73,r73⟩,-⟩:=henv
  replace r73:v73=Value.pointer (some ⟨g1,23,none⟩):=r73.2
  rw[r73] at e73
  clear r73 v73
  have hcell:=(hb.cell (World.block_lt_of_cell? _ _ hc23)).trans hc23
  exact aG (R:=RR) (i:=65) hK (Value.int .i64 t.f23) (aM rfl _) (by simp only[execOp,aC e73];go_simp) ⟨fun e=>absurd e (by decide),rfl⟩
 ·intro a w' hb henv K hK
  obtain⟨⟨v74,e74,r74⟩,-⟩:=henv
  replace r74:v74=Value.int .i64 t.f23:=r74.2
  rw[r74] at e74
  clear r74 v74
  exact bG (R:=RR) (i:=66) hK (aM rfl _) Tryd.func30 (by kernel_rfl) rfl #[Value.int .i64 t.f23,Value.int .i64 0,Value.int .i64 10000000] rfl (by first|(simp only[List.map_toArray,List.map_cons,List.map_nil,aC e74];done)|(simp only[List.map_toArray,List.map_cons,List.map_nil,aC e74];rfl)) ((sound_within.calls t.f23 0 10000000 _ _ C75.o).mono (fun e w'' h=>by obtain⟨rfl,nd,rfl⟩:=h;exact⟨_,rfl,aa (Below.refl _ _) _,⟨fun e=>absurd e (by decide),rfl⟩⟩))
 ·intro a w' hb henv K hK
  obtain⟨⟨v75,e75,r75⟩,-⟩:=henv
  replace r75:v75=Value.bool b75:=r75.2
  rw[r75] at e75
  clear r75 v75
  exact aG (R:=RR) (i:=67) hK (Value.bool b75) (aM rfl _) (by simp only[execOp,aC e75];go_simp) ⟨fun e=>absurd e (by decide),rfl⟩
 ·intro a w' hb henv K hK
  obtain⟨e1,⟨v76,e76,r76⟩,-⟩:=henv
  replace e1:a.tmps[1]? = some (Value.pointer (some ⟨g1,0,none⟩)):=e1.trans rfl
  replace r76:v76=Value.bool b75:=r76.2
  rw[r76] at e76
  clear r76 v76
  cases g0:(b75:Bool)
  ·skip
   exact aT (R:=RR) (i:=68) hK (aD (x:=false) (g:=67) (b:=true) rfl (t:=76) rfl (a:=a) (by first|exact e76|(simp only[g0] at e76;exact e76))) ⟨fun e=>absurd e (by decide),(show undef=_ from by simp only[g0,cond_true,cond_false])⟩
  ·skip
   exact aG (R:=RR) (i:=68) hK (Value.pointer (some ⟨g1,24,none⟩)) (aD (x:=true) (g:=67) (b:=true) rfl (t:=76) rfl (a:=a) (by first|exact e76|(simp only[g0] at e76;exact e76))) (by simp only[execOp,aC e1];first|(go_simp;done)|(simp only[g0];go_simp)) ⟨fun e=>absurd e (by decide),(show _=_ from by simp only[g0,cond_true,cond_false])⟩
 ·intro a w' hb henv K hK
  obtain⟨⟨v77,e77,r77⟩,⟨v76,e76,r76⟩,-⟩:=henv
  replace r77:v77=cond b75 (Value.pointer (some ⟨g1,24,none⟩)) undef:=r77.2
  rw[r77] at e77
  clear r77 v77
  replace r76:v76=Value.bool b75:=r76.2
  rw[r76] at e76
  clear r76 v76
  cases g0:(b75:Bool)
  ·(try simp only[g0,cond_true,cond_false] at e77)
   exact aT (R:=RR) (i:=69) hK (aD (x:=false) (g:=67) (b:=true) rfl (t:=76) rfl (a:=a) (by first|exact e76|(simp only[g0] at e76;exact e76))) ⟨fun e=>absurd e (by decide),(show undef=_ from by simp only[g0,cond_true,cond_false])⟩
  ·(try simp only[g0,cond_true,cond_false] at e77)
   have hcell:=(hb.cell (World.block_lt_of_cell? _ _ hc24)).trans hc24
   exact aG (R:=RR) (i:=69) hK (Value.int .i64 t.f24) (aD (x:=true) (g:=67) (b:=true) rfl (t:=76) rfl (a:=a) (by first|exact e76|(simp only[g0] at e76;exact e76))) (by simp only[execOp,aC e77];go_simp) ⟨fun e=>absurd e (by decide),(show _=_ from by simp only[g0,cond_true,cond_false])⟩
 ·intro a w' hb henv K hK
  obtain⟨⟨v78,e78,r78⟩,⟨v76,e76,r76⟩,-⟩:=henv
  replace r78:v78=cond b75 (Value.int .i64 t.f24) undef:=r78.2
  rw[r78] at e78
  clear r78 v78
  replace r76:v76=Value.bool b75:=r76.2
  rw[r76] at e76
  clear r76 v76
  cases g0:(b75:Bool)
  ·(try simp only[g0,cond_true,cond_false] at e78)
   exact aT (R:=RR) (i:=70) hK (aD (x:=false) (g:=67) (b:=true) rfl (t:=76) rfl (a:=a) (by first|exact e76|(simp only[g0] at e76;exact e76))) ⟨fun e=>absurd e (by decide),(show undef=_ from by simp only[g0,cond_true,cond_false])⟩
  ·(try simp only[g0,cond_true,cond_false] at e78)
   exact bG (R:=RR) (i:=70) hK (aD (x:=true) (g:=67) (b:=true) rfl (t:=76) rfl (a:=a) (by first|exact e76|(simp only[g0] at e76;exact e76))) Tryd.func30 (by kernel_rfl) rfl #[Value.int .i64 t.f24,Value.int .i64 0,Value.int .i64 36] rfl (by first|(simp only[List.map_toArray,List.map_cons,List.map_nil,aC e78];done)|(simp only[List.map_toArray,List.map_cons,List.map_nil,aC e78];rfl)) ((sound_within.calls t.f24 0 36 _ _ C79.o).mono (fun e w'' h=>by obtain⟨rfl,nd,rfl⟩:=h;exact⟨_,rfl,aa (Below.refl _ _) _,⟨fun e=>absurd e (by decide),(show _=_ from by simp only[g0,cond_true,cond_false])⟩⟩))
 ·intro a w' hb henv K hK
  obtain⟨⟨v76,e76,r76⟩,⟨v79,e79,r79⟩,-⟩:=henv
  replace r76:v76=Value.bool b75:=r76.2
  rw[r76] at e76
  clear r76 v76
  replace r79:v79=cond b75 (Value.bool b79) undef:=r79.2
  rw[r79] at e79
  clear r79 v79
  cases g0:(b75:Bool)
  ·(try simp only[g0,cond_true,cond_false] at e79)
   exact aG (R:=RR) (i:=71) hK (Value.bool (b75 && b79)) (aM rfl _) (by simp only[execOp,aC e76,aC e79];first|(go_simp;done)|(simp only[g0];go_simp)) ⟨fun e=>absurd e (by decide),(show _=_ from by first|rfl|(simp only[g0];rfl))⟩
  ·(try simp only[g0,cond_true,cond_false] at e79)
   exact aG (R:=RR) (i:=71) hK (Value.bool (b75 && b79)) (aM rfl _) (by simp only[execOp,aC e76,aC e79];first|(go_simp;done)|(simp only[g0];go_simp)) ⟨fun e=>absurd e (by decide),(show _=_ from by first|rfl|(simp only[g0];rfl))⟩
 ·intro a w' hb henv K hK
  obtain⟨e1,-⟩:=henv
  replace e1:a.tmps[1]? = some (Value.pointer (some ⟨g1,0,none⟩)):=e1.trans rfl
  exact aG (R:=RR) (i:=72) hK (Value.pointer (some ⟨g1,25,none⟩)) (aM rfl _) (by simp only[execOp,aC e1];go_simp) ⟨fun e=>absurd e (by decide),rfl⟩
 ·intro a w' hb henv K hK
  obtain⟨⟨v81,e81,r81⟩,-⟩:=henv
  replace r81:v81=Value.pointer (some ⟨g1,25,none⟩):=r81.2
  rw[r81] at e81
  clear r81 v81
  have hcell:=(hb.cell (World.block_lt_of_cell? _ _ hc25)).trans hc25
  exact aG (R:=RR) (i:=73) hK (Value.int .i64 t.f25) (aM rfl _) (by simp only[execOp,aC e81];go_simp) ⟨fun e=>absurd e (by decide),rfl⟩
 ·intro a w' hb henv K hK
  obtain⟨⟨v82,e82,r82⟩,-⟩:=henv
  replace r82:v82=Value.int .i64 t.f25:=r82.2
  rw[r82] at e82
  clear r82 v82
  exact bG (R:=RR) (i:=74) hK (aM rfl _) Tryd.func30 (by kernel_rfl) rfl #[Value.int .i64 t.f25,Value.int .i64 0,Value.int .i64 1000000000000] rfl (by first|(simp only[List.map_toArray,List.map_cons,List.map_nil,aC e82];done)|(simp only[List.map_toArray,List.map_cons,List.map_nil,aC e82];rfl)) ((sound_within.calls t.f25 0 1000000000000 _ _ C83.o).mono (fun e w'' h=>by obtain⟨rfl,nd,rfl⟩:=h;exact⟨_,rfl,aa (Below.refl _ _) _,⟨fun e=>absurd e (by decide),rfl⟩⟩))
 ·intro a w' hb henv K hK
  obtain⟨⟨v83,e83,r83⟩,-⟩:=henv
  replace r83:v83=Value.bool b83:=r83.2
  rw[r83] at e83
  clear r83 v83
  exact aG (R:=RR) (i:=75) hK (Value.bool b83) (aM rfl _) (by simp only[execOp,aC e83];go_simp) ⟨fun e=>absurd e (by decide),rfl⟩
 ·intro a w' hb henv K hK
  obtain⟨e1,⟨v84,e84,r84⟩,-⟩:=henv
  replace e1:a.tmps[1]? = some (Value.pointer (some ⟨g1,0,none⟩)):=e1.trans rfl
  replace r84:v84=Value.bool b83:=r84.2
  rw[r84] at e84
  clear r84 v84
  cases g0:(b83:Bool)
  ·skip
   exact aT (R:=RR) (i:=76) hK (aD (x:=false) (g:=75) (b:=true) rfl (t:=84) rfl (a:=a) (by first|exact e84|(simp only[g0] at e84;exact e84))) ⟨fun e=>absurd e (by decide),(show undef=_ from by simp only[g0,cond_true,cond_false])⟩
  ·skip
   exact aG (R:=RR) (i:=76) hK (Value.pointer (some ⟨g1,26,none⟩)) (aD (x:=true) (g:=75) (b:=true) rfl (t:=84) rfl (a:=a) (by first|exact e84|(simp only[g0] at e84;exact e84))) (by simp only[execOp,aC e1];first|(go_simp;done)|(simp only[g0];go_simp)) ⟨fun e=>absurd e (by decide),(show _=_ from by simp only[g0,cond_true,cond_false])⟩
 ·intro a w' hb henv K hK
  obtain⟨⟨v85,e85,r85⟩,⟨v84,e84,r84⟩,-⟩:=henv
  replace r85:v85=cond b83 (Value.pointer (some ⟨g1,26,none⟩)) undef:=r85.2
  rw[r85] at e85
  clear r85 v85
  replace r84:v84=Value.bool b83:=r84.2
  rw[r84] at e84
  clear r84 v84
  cases g0:(b83:Bool)
  ·(try simp only[g0,cond_true,cond_false] at e85)
   exact aT (R:=RR) (i:=77) hK (aD (x:=false) (g:=75) (b:=true) rfl (t:=84) rfl (a:=a) (by first|exact e84|(simp only[g0] at e84;exact e84))) ⟨fun e=>absurd e (by decide),(show undef=_ from by simp only[g0,cond_true,cond_false])⟩
  ·(try simp only[g0,cond_true,cond_false] at e85)
   have hcell:=(hb.cell (World.block_lt_of_cell? _ _ hc26)).trans hc26
   exact aG (R:=RR) (i:=77) hK (Value.int .i64 t.f26) (aD (x:=true) (g:=75) (b:=true) rfl (t:=84) rfl (a:=a) (by first|exact e84|(simp only[g0] at e84;exact e84))) (by simp only[execOp,aC e85];go_simp) ⟨fun e=>absurd e (by decide),(show _=_ from by simp only[g0,cond_true,cond_false])⟩
 ·intro a w' hb henv K hK
  obtain⟨⟨v86,e86,r86⟩,⟨v84,e84,r84⟩,-⟩:=henv
  replace r86:v86=cond b83 (Value.int .i64 t.f26) undef:=r86.2
  rw[r86] at e86
  clear r86 v86
  replace r84:v84=Value.bool b83:=r84.2
  rw[r84] at e84
  clear r84 v84
  cases g0:(b83:Bool)
  ·(try simp only[g0,cond_true,cond_false] at e86)
   exact aT (R:=RR) (i:=78) hK (aD (x:=false) (g:=75) (b:=true) rfl (t:=84) rfl (a:=a) (by first|exact e84|(simp only[g0] at e84;exact e84))) ⟨fun e=>absurd e (by decide),(show undef=_ from by simp only[g0,cond_true,cond_false])⟩
  ·(try simp only[g0,cond_true,cond_false] at e86)
   exact bG (R:=RR) (i:=78) hK (aD (x:=true) (g:=75) (b:=true) rfl (t:=84) rfl (a:=a) (by first|exact e84|(simp only[g0] at e84;exact e84))) Tryd.func30 (by kernel_rfl) rfl #[Value.int .i64 t.f26,Value.int .i64 0,Value.int .i64 1000000000000] rfl (by first|(simp only[List.map_toArray,List.map_cons,List.map_nil,aC e86];done)|(simp only[List.map_toArray,List.map_cons,List.map_nil,aC e86];rfl)) ((sound_within.calls t.f26 0 1000000000000 _ _ C87.o).mono (fun e w'' h=>by obtain⟨rfl,nd,rfl⟩:=h;exact⟨_,rfl,aa (Below.refl _ _) _,⟨fun e=>absurd e (by decide),(show _=_ from by simp only[g0,cond_true,cond_false])⟩⟩))
 ·intro a w' hb henv K hK
  obtain⟨⟨v84,e84,r84⟩,⟨v87,e87,r87⟩,-⟩:=henv
  replace r84:v84=Value.bool b83:=r84.2
  rw[r84] at e84
  clear r84 v84
  replace r87:v87=cond b83 (Value.bool b87) undef:=r87.2
  rw[r87] at e87
  clear r87 v87
  cases g0:(b83:Bool)
  ·(try simp only[g0,cond_true,cond_false] at e87)
   exact aG (R:=RR) (i:=79) hK (Value.bool (b83 && b87)) (aM rfl _) (by simp only[execOp,aC e84,aC e87];first|(go_simp;done)|(simp only[g0];go_simp)) ⟨fun e=>absurd e (by decide),(show _=_ from by first|rfl|(simp only[g0];rfl))⟩
  ·(try simp only[g0,cond_true,cond_false] at e87)
   exact aG (R:=RR) (i:=79) hK (Value.bool (b83 && b87)) (aM rfl _) (by simp only[execOp,aC e84,aC e87];first|(go_simp;done)|(simp only[g0];go_simp)) ⟨fun e=>absurd e (by decide),(show _=_ from by first|rfl|(simp only[g0];rfl))⟩
 ·intro a w' hb henv K hK
  obtain⟨⟨v88,e88,r88⟩,-⟩:=henv
  replace r88:v88=Value.bool (b83 && b87):=r88.2
  rw[r88] at e88
  clear r88 v88
  exact aG (R:=RR) (i:=80) hK (Value.bool (b83 && b87)) (aM rfl _) (by simp only[execOp,aC e88];go_simp) ⟨fun e=>absurd e (by decide),rfl⟩
 ·intro a w' hb henv K hK
  obtain⟨e1,⟨v89,e89,r89⟩,-⟩:=henv
  replace e1:a.tmps[1]? = some (Value.pointer (some ⟨g1,0,none⟩)):=e1.trans rfl
  replace r89:v89=Value.bool (b83 && b87):=r89.2
  rw[r89] at e89
  clear r89 v89
  cases g0:((b83 && b87):Bool)
  ·skip
   exact aT (R:=RR) (i:=81) hK (aD (x:=false) (g:=80) (b:=true) rfl (t:=89) rfl (a:=a) (by first|exact e89|(simp only[g0] at e89;exact e89))) ⟨fun e=>absurd e (by decide),(show undef=_ from by simp only[g0,cond_true,cond_false])⟩
  ·skip
   exact aG (R:=RR) (i:=81) hK (Value.pointer (some ⟨g1,27,none⟩)) (aD (x:=true) (g:=80) (b:=true) rfl (t:=89) rfl (a:=a) (by first|exact e89|(simp only[g0] at e89;exact e89))) (by simp only[execOp,aC e1];first|(go_simp;done)|(simp only[g0];go_simp)) ⟨fun e=>absurd e (by decide),(show _=_ from by simp only[g0,cond_true,cond_false])⟩
 ·intro a w' hb henv K hK
  obtain⟨⟨v90,e90,r90⟩,⟨v89,e89,r89⟩,-⟩:=henv
  replace r90:v90=cond (b83 && b87) (Value.pointer (some ⟨g1,27,none⟩)) undef:=r90.2
  rw[r90] at e90
  clear r90 v90
  replace r89:v89=Value.bool (b83 && b87):=r89.2
  rw[r89] at e89
  clear r89 v89
  cases g0:((b83 && b87):Bool)
  ·(try simp only[g0,cond_true,cond_false] at e90)
   exact aT (R:=RR) (i:=82) hK (aD (x:=false) (g:=80) (b:=true) rfl (t:=89) rfl (a:=a) (by first|exact e89|(simp only[g0] at e89;exact e89))) ⟨fun e=>absurd e (by decide),(show undef=_ from by simp only[g0,cond_true,cond_false])⟩
  ·(try simp only[g0,cond_true,cond_false] at e90)
   have hcell:=(hb.cell (World.block_lt_of_cell? _ _ hc27)).trans hc27
   exact aG (R:=RR) (i:=82) hK (Value.int .i64 t.f27) (aD (x:=true) (g:=80) (b:=true) rfl (t:=89) rfl (a:=a) (by first|exact e89|(simp only[g0] at e89;exact e89))) (by simp only[execOp,aC e90];go_simp) ⟨fun e=>absurd e (by decide),(show _=_ from by simp only[g0,cond_true,cond_false])⟩
 ·intro a w' hb henv K hK
  obtain⟨⟨v91,e91,r91⟩,⟨v89,e89,r89⟩,-⟩:=henv
  replace r91:v91=cond (b83 && b87) (Value.int .i64 t.f27) undef:=r91.2
  rw[r91] at e91
  clear r91 v91
  replace r89:v89=Value.bool (b83 && b87):=r89.2
  rw[r89] at e89
  clear r89 v89
  cases g0:((b83 && b87):Bool)
  ·(try simp only[g0,cond_true,cond_false] at e91)
   exact aT (R:=RR) (i:=83) hK (aD (x:=false) (g:=80) (b:=true) rfl (t:=89) rfl (a:=a) (by first|exact e89|(simp only[g0] at e89;exact e89))) ⟨fun e=>absurd e (by decide),(show undef=_ from by simp only[g0,cond_true,cond_false])⟩
  ·(try simp only[g0,cond_true,cond_false] at e91)
   exact bG (R:=RR) (i:=83) hK (aD (x:=true) (g:=80) (b:=true) rfl (t:=89) rfl (a:=a) (by first|exact e89|(simp only[g0] at e89;exact e89))) Tryd.func30 (by kernel_rfl) rfl #[Value.int .i64 t.f27,Value.int .i64 0,Value.int .i64 100000] rfl (by first|(simp only[List.map_toArray,List.map_cons,List.map_nil,aC e91];done)|(simp only[List.map_toArray,List.map_cons,List.map_nil,aC e91];rfl)) ((sound_within.calls t.f27 0 100000 _ _ C92.o).mono (fun e w'' h=>by obtain⟨rfl,nd,rfl⟩:=h;exact⟨_,rfl,aa (Below.refl _ _) _,⟨fun e=>absurd e (by decide),(show _=_ from by simp only[g0,cond_true,cond_false])⟩⟩))
 ·intro a w' hb henv K hK
  obtain⟨⟨v89,e89,r89⟩,⟨v92,e92,r92⟩,-⟩:=henv
  replace r89:v89=Value.bool (b83 && b87):=r89.2
  rw[r89] at e89
  clear r89 v89
  replace r92:v92=cond (b83 && b87) (Value.bool b92) undef:=r92.2
  rw[r92] at e92
  clear r92 v92
  cases g0:((b83 && b87):Bool)
  ·(try simp only[g0,cond_true,cond_false] at e92)
   exact aG (R:=RR) (i:=84) hK (Value.bool ((b83 && b87) && b92)) (aM rfl _) (by simp only[execOp,aC e89,aC e92];first|(go_simp;done)|(simp only[g0];go_simp)) ⟨fun e=>absurd e (by decide),(show _=_ from by first|rfl|(simp only[g0];rfl))⟩
  ·(try simp only[g0,cond_true,cond_false] at e92)
   exact aG (R:=RR) (i:=84) hK (Value.bool ((b83 && b87) && b92)) (aM rfl _) (by simp only[execOp,aC e89,aC e92];first|(go_simp;done)|(simp only[g0];go_simp)) ⟨fun e=>absurd e (by decide),(show _=_ from by first|rfl|(simp only[g0];rfl))⟩
 ·intro a w' hb henv K hK
  obtain⟨⟨v17,e17,r17⟩,⟨v30,e30,r30⟩,⟨v33,e33,r33⟩,⟨v36,e36,r36⟩,⟨v39,e39,r39⟩,⟨v42,e42,r42⟩,⟨v44,e44,r44⟩,⟨v72,e72,r72⟩,⟨v80,e80,r80⟩,⟨v93,e93,r93⟩,-⟩:=henv
  replace r17:v17=Value.bool (b11 && (z15 == 0)):=r17.2
  rw[r17] at e17
  clear r17 v17
  replace r30:v30=Value.bool ((b20 && b24) && b29):=r30.2
  rw[r30] at e30
  clear r30 v30
  replace r33:v33=Value.bool b33:=r33.2
  rw[r33] at e33
  clear r33 v33
  replace r36:v36=Value.bool b36:=r36.2
  rw[r36] at e36
  clear r36 v36
  replace r39:v39=Value.bool b39:=r39.2
  rw[r39] at e39
  clear r39 v39
  replace r42:v42=Value.bool b42:=r42.2
  rw[r42] at e42
  clear r42 v42
  replace r44:v44=Value.bool b44:=r44.2
  rw[r44] at e44
  clear r44 v44
  replace r72:v72=Value.bool (((b47 && (((t.f20 == 15) || (t.f20 == 30)) || (t.f20 == 60))) && b66) && b71):=r72.2
  rw[r72] at e72
  clear r72 v72
  replace r80:v80=Value.bool (b75 && b79):=r80.2
  rw[r80] at e80
  clear r80 v80
  replace r93:v93=Value.bool ((b83 && b87) && b92):=r93.2
  rw[r93] at e93
  clear r93 v93
  exact step_make (R:=RR) (i:=85) (w1:=w'.alloc (.cells #[Value.bool (b11 && (z15 == 0)),Value.bool ((b20 && b24) && b29),Value.bool b33,Value.bool b36,Value.bool b39,Value.bool b42,Value.bool b44,Value.bool (((b47 && (((t.f20 == 15) || (t.f20 == 30)) || (t.f20 == 60))) && b66) && b71),Value.bool (b75 && b79),Value.bool ((b83 && b87) && b92)] 4)) hK (Value.slice (some ⟨w'.heap.size,0,none⟩) 10 10) (aM rfl _) (by simp only[execOp,aC e17,aC e30,aC e33,aC e36,aC e39,aC e42,aC e44,aC e72,aC e80,aC e93];go_simp) (ae (Below.refl _ _) _) ⟨fun _=>⟨_,rfl,dE _ _⟩,trivial⟩
 ·intro a w' hb henv K hK
  obtain⟨⟨v94,e94,r94⟩,-⟩:=henv
  have s94:=r94.1 rfl
  obtain⟨gq,es,hq⟩:=s94
  subst es
  exact aG (R:=RR) (i:=86) hK (Value.int .i64 10) (aM rfl _) (by simp only[execOp,resolve,List.map_toArray,List.map_cons,List.map_nil,aC e94];go_simp) ⟨fun e=>absurd e (by decide),rfl⟩
 ·intro a w' hb henv K hK
  obtain⟨-⟩:=henv
  exact aG (R:=RR) (i:=87) hK (Value.int .i64 0) (aM rfl _) (by simp only[execOp];go_simp) ⟨fun e=>absurd e (by decide),rfl⟩
 intro wz hb_
 intro u9_ q9_;clear q9_
 intro u10_ q10_;clear q10_
 intro u11_ q11_;clear q11_
 intro u12_ q12_;clear q12_
 intro u13_ q13_;clear q13_
 intro u14_ q14_;clear q14_
 intro u15_ q15_;clear q15_
 intro u16_ q16_;clear q16_
 intro u17_ q17_;clear q17_
 intro u18_ q18_;clear q18_
 intro u19_ q19_;clear q19_
 intro u20_ q20_;clear q20_
 intro u21_ q21_;clear q21_
 intro u22_ q22_;clear q22_
 intro u23_ q23_;clear q23_
 intro u24_ q24_;clear q24_
 intro u25_ q25_;clear q25_
 intro u26_ q26_;clear q26_
 intro u27_ q27_;clear q27_
 intro u28_ q28_;clear q28_
 intro u29_ q29_;clear q29_
 intro u30_ q30_;clear q30_
 intro u31_ q31_;clear q31_
 intro u32_ q32_;clear q32_
 intro u33_ q33_;clear q33_
 intro u34_ q34_;clear q34_
 intro u35_ q35_;clear q35_
 intro u36_ q36_;clear q36_
 intro u37_ q37_;clear q37_
 intro u38_ q38_;clear q38_
 intro u39_ q39_;clear q39_
 intro u40_ q40_;clear q40_
 intro u41_ q41_;clear q41_
 intro u42_ q42_;clear q42_
 intro u43_ q43_;clear q43_
 intro u44_ q44_;clear q44_
 intro u45_ q45_;clear q45_
 intro u46_ q46_;clear q46_
 intro u47_ q47_;clear q47_
 intro u48_ q48_;clear q48_
 intro u49_ q49_;clear q49_
 intro u50_ q50_;clear q50_
 intro u51_ q51_;clear q51_
 intro u52_ q52_;clear q52_
 intro u53_ q53_;clear q53_
 intro u54_ q54_;clear q54_
 intro u55_ q55_;clear q55_
 intro u56_ q56_;clear q56_
 intro u57_ q57_;clear q57_
 intro u58_ q58_;clear q58_
 intro u59_ q59_;clear q59_
 intro u60_ q60_;clear q60_
 intro u61_ q61_;clear q61_
 intro u62_ q62_;clear q62_
 intro u63_ q63_;clear q63_
 intro u64_ q64_;clear q64_
 intro u65_ q65_;clear q65_
 intro u66_ q66_;clear q66_
 intro u67_ q67_;clear q67_
 intro u68_ q68_;clear q68_
 intro u69_ q69_;clear q69_
 intro u70_ q70_;clear q70_
 intro u71_ q71_;clear q71_
 intro u72_ q72_;clear q72_
 intro u73_ q73_;clear q73_
 intro u74_ q74_;clear q74_
 intro u75_ q75_;clear q75_
 intro u76_ q76_;clear q76_
 intro u77_ q77_;clear q77_
 intro u78_ q78_;clear q78_
 intro u79_ q79_;clear q79_
 intro u80_ q80_;clear q80_
 intro u81_ q81_;clear q81_
 intro u82_ q82_;clear q82_
 intro u83_ q83_;clear q83_
 intro u84_ q84_;clear q84_
 intro u85_ q85_;clear q85_
 intro u86_ q86_;clear q86_
 intro u87_ q87_;clear q87_
 intro u88_ q88_;clear q88_
 intro u89_ q89_;clear q89_
 intro u90_ q90_;clear q90_
 intro u91_ q91_;clear q91_
 intro u92_ q92_;clear q92_
 intro u93_ q93_;clear q93_
 intro u94_ q94_
 intro u95_ q95_
 intro u96_ q96_
 have HB:=ag.mk hb_
 clear hb_
 obtain⟨gq,eq_,bq⟩:=q94_.1 rfl
 clear q94_
 subst eq_
 replace q95_:u95_ = .int .i64 10:=q95_.2
 replace q96_:u96_ = .int .i64 0:=q96_.2
 subst q95_ q96_
 dsimp only[fM]
 clear RR
 simp only[Act.put,List.setIfInBounds_toArray,List.set_cons_zero,List.set_cons_succ]
 obtain⟨L,hL⟩ : ∃ L:List Bool,L = [(b11 && (z15 == 0)),((b20 && b24) && b29),b33,b36,b39,b42,b44,(((b47 && (((t.f20 == 15) || (t.f20 == 30)) || (t.f20 == 60))) && b66) && b71),(b75 && b79),((b83 && b87) && b92)]:=⟨_,rfl⟩
 rw[← hL] at HF
 replace bq:wz.heap[gq]? = some (.cells (L.map Value.bool).toArray 4 (0,0)):=by rw[hL];exact bq
 have BKq:=ag.mk bq
 have HL:=ag.mk (show L.length=10 from by rw[hL];rfl)
 clear hL bq
 go_wp2
 go_loopg [96] 10 (fun kq v96 wr=>∃ (i:Nat),v96 = .int .i64 (i:Int)∧i≤10∧ag (kq=10 - i)∧ag (sCheck.first (L.drop i) (i+1)=(r1,r2))∧ag (Below wz.heap.size wz wr))
 case atStart=>exact⟨0,by first|rfl|simp,by omega,⟨rfl⟩,HF,⟨Below.refl _ _⟩⟩
 case round=>
  obtain⟨i,rfl,hi,HK,HA,HBr⟩:=hrel
  by_cases hlt:i < 10
  ·have b0:decide ((i:Int) < 10)=true:=decide_eq_true (by omega)
   have hlt' : i < L.length:=by rw[HL.o];exact hlt
   have hcell:=ah (aN BKq.o HBr.o) i
   rw[show((L.map Value.bool).toArray)[i]? = some (.bool L[i]) from by simp[hlt']] at hcell
   have HA2:=HA.o
   rw[List.drop_eq_getElem_cons hlt'] at HA2
   have p0:0≤(i:Int):=by omega
   have q0:(i:Int) < 10:=by omega
   replace p0:=eq_true p0
   replace q0:=eq_true q0
   generalize L[i]=bi at hcell HA2
   unfold sCheck.first at HA2
   cases bi with
   |true=>
    rw[if_pos rfl] at HA2
    have HA3:=ag.mk HA2
    clear HA2
    go_wp2
    go_roundg (10 - (i+1))
    case measure=>have:=HK.o;omega
    case rel=>exact⟨i+1,(by first|rfl|go_num),hlt,⟨rfl⟩,HA3,⟨by repeat(first|exact HBr.o|apply ae|apply aa|apply af)⟩⟩
   |false=>
    rw[if_neg (by simp)] at HA2
    obtain⟨rfl,rfl⟩:=Prod.mk.inj HA2
    clear HA2
    go_wp2
    go_ret2
    exact⟨by first|rfl|(congr;go_num)|go_num,aj HW.o (aj HB.o (by repeat(first|exact HBr.o|apply ae|apply aa|apply af)))⟩
  ·have b0:decide ((i:Int) < 10)=false:=decide_eq_false (by omega)
   have HA2:=HA.o
   rw[List.drop_of_length_le (by rw[HL.o];omega)] at HA2
   obtain⟨rfl,rfl⟩:=Prod.mk.inj HA2
   clear HA2
   go_wp2
   go_ret2
   exact⟨rfl,aj HW.o (aj HB.o (by repeat(first|exact HBr.o|apply ae|apply aa|apply af)))⟩
end Go.Proofs.YtcmhfcciapenfaaDoor.Pa
