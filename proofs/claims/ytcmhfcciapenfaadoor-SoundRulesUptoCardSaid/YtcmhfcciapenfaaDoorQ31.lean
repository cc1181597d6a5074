/- A part of the proof. -/
import Derived.Test.YtcmhfcciapenfaaDoorQ00
import Derived.Test.YtcmhfcciapenfaaDoorQ26
import Derived.Test.YtcmhfcciapenfaaDoorQ29
import Derived.Test.YtcmhfcciapenfaaDoorQ30
set_option linter.all false
namespace Go.Proofs.YtcmhfcciapenfaaDoor.Pa
open Go.RowKit Go.Proofs.YtcmhfcciapenfaaDoorW.PrintWords Go.Proofs.YtcmhfcciapenfaaDoorW.PrintLast Go.Proofs.YtcmhfcciapenfaaDoorW.PrintMore
attribute [local go_sem] bJ bL bU bV bA bB bM bN
def rCheck.f (k:Nat) (t:Tar):Option (Int × Int):=(pylonref06_Name.f k t.f0).bind fun x=>if x=false then some (1,2) else (pylonref04_Check.f k t.f1 t.f2 t.f3 t.f4 t.f5 t.f6 t.f7 t.f8 t.f9 t.f10).bind fun x=>if x≠0 then some (1,2) else (pylonref09_within.f t.f11 1 10000000).bind fun x=>if x=false then some (2,2) else (pylonref09_within.f t.f12 0 10000000).bind fun x=>if x=false then some (2,2) else (pylonref09_within.f t.f13 0 40000).bind fun x=>if x=false then some (2,2) else (pylonref09_within.f t.f14 1 28).bind fun x=>if x=false then some (3,2) else (pylonref09_seasons.f k t.f15).bind fun x=>if x=false then some (4,2) else (pylonref09_holidays.f k t.f16).bind fun x=>if x=false then some (5,2) else (pylonref09_blocks.f k t.f18).bind fun x=>if x=false then some (6,2) else (pylonref09_windows.f t).bind fun x=>if x=false then some (7,2) else (pylonref09_within.f t.f19 0 10000000).bind fun x=>if x=false then some (8,2) else if t.f20≠15∧t.f20≠30∧t.f20≠60 then some (8,2) else (pylonref09_within.f t.f21 0 100).bind fun x=>if x=false then some (8,2) else (pylonref09_within.f t.f22 0 36).bind fun x=>if x=false then some (8,2) else (pylonref09_within.f t.f23 0 10000000).bind fun x=>if x=false then some (9,2) else (pylonref09_within.f t.f24 0 36).bind fun x=>if x=false then some (9,2) else (pylonref09_within.f t.f25 0 1000000000000).bind fun x=>if x=false then some (10,2) else (pylonref09_within.f t.f26 0 1000000000000).bind fun x=>if x=false then some (10,2) else (pylonref09_within.f t.f27 0 100000).bind fun x=>if x=false then some (10,2) else some (0,0)
set_option maxHeartbeats 16000000 in
set_option maxRecDepth 100000 in
theorem rCheck.calls (k:Nat) (t:Tar) (cs:List Value) (r1 r2:Int) (w:World) (hT:kTar.K w t cs) (h:rCheck.f k t=some (r1,r2)) :
  Calls Tryd.prog 11 #[.agg cs.toArray] w fun e w'=>e = .returned (.tuple #[.int .i64 r1,.int .i64 r2])∧Below w.heap.size w w':=by
 have hu33:=Tryd.underlying33
 have hu31:=Tryd.underlying31
 have hu25:=Tryd.underlying25
 have hu23:=Tryd.underlying23
 have hlen:=kTar_len hT
 have HS:=ag.mk (show cs.toArray.size=28 from by rw[List.size_toArray];exact hlen)
 obtain⟨A15,c15,A16,c16,A17,c17,A18,c18,ecs,l15,g15,l16,g16,l17,g17,l18,g18⟩:=eF hT
 have e0:cs.toArray[0]? = some (.string t.f0):=by rw[ecs];rfl
 have e1:cs.toArray[1]? = some (.int .i64 t.f1):=by rw[ecs];rfl
 have e2:cs.toArray[2]? = some (.int .i64 t.f2):=by rw[ecs];rfl
 have e3:cs.toArray[3]? = some (.int .i64 t.f3):=by rw[ecs];rfl
 have e4:cs.toArray[4]? = some (.int .i64 t.f4):=by rw[ecs];rfl
 have e5:cs.toArray[5]? = some (.int .i64 t.f5):=by rw[ecs];rfl
 have e6:cs.toArray[6]? = some (.int .i64 t.f6):=by rw[ecs];rfl
 have e7:cs.toArray[7]? = some (.int .i64 t.f7):=by rw[ecs];rfl
 have e8:cs.toArray[8]? = some (.int .i64 t.f8):=by rw[ecs];rfl
 have e9:cs.toArray[9]? = some (.int .i64 t.f9):=by rw[ecs];rfl
 have e10:cs.toArray[10]? = some (.int .i64 t.f10):=by rw[ecs];rfl
 have e11:cs.toArray[11]? = some (.int .i64 t.f11):=by rw[ecs];rfl
 have e12:cs.toArray[12]? = some (.int .i64 t.f12):=by rw[ecs];rfl
 have e13:cs.toArray[13]? = some (.int .i64 t.f13):=by rw[ecs];rfl
 have e14:cs.toArray[14]? = some (.int .i64 t.f14):=by rw[ecs];rfl
 have e15:cs.toArray[15]? = some (.slice A15 t.f15.length c15):=by rw[ecs];rfl
 have e16:cs.toArray[16]? = some (.slice A16 t.f16.length c16):=by rw[ecs];rfl
 have e17:cs.toArray[17]? = some (.slice A17 t.f17.length c17):=by rw[ecs];rfl
 have e18:cs.toArray[18]? = some (.slice A18 t.f18.length c18):=by rw[ecs];rfl
 have e19:cs.toArray[19]? = some (.int .i64 t.f19):=by rw[ecs];rfl
 have e20:cs.toArray[20]? = some (.int .i64 t.f20):=by rw[ecs];rfl
 have e21:cs.toArray[21]? = some (.int .i64 t.f21):=by rw[ecs];rfl
 have e22:cs.toArray[22]? = some (.int .i64 t.f22):=by rw[ecs];rfl
 have e23:cs.toArray[23]? = some (.int .i64 t.f23):=by rw[ecs];rfl
 have e24:cs.toArray[24]? = some (.int .i64 t.f24):=by rw[ecs];rfl
 have e25:cs.toArray[25]? = some (.int .i64 t.f25):=by rw[ecs];rfl
 have e26:cs.toArray[26]? = some (.int .i64 t.f26):=by rw[ecs];rfl
 have e27:cs.toArray[27]? = some (.int .i64 t.f27):=by rw[ecs];rfl
 clear ecs hlen
 have HB:=ag.mk (Below.refl w.heap.size w)
 have H:=h
 clear h
 unfold rCheck.f at H
 have HH:=ag.mk H
 clear H
 go_enter Tryd.func11,Tryd.ntmps11
 go_upto_region 3 with (first|((with_reducible refine aI (N:=1) rfl ?_);refine aH ?hg (N:=1) ?hd (cs:=cs.toArray) (t:=33) ?hr ?_;(case hd=>rfl);(case hg=>rfl);(case hr=>first|(go_simp;done)|(go_simp;rfl));intro g1 hg_ w1 hbox hb_;have HBW:=ag.mk (aj (by repeat(first|(with_reducible first|exact HB.o|apply ae|apply aa|apply af)|exact HB.o)) hb_);have BK1:=ag.mk hbox;have HJ0:=ag.mk ((ah hbox 0).trans e0);have hc0:=HJ0.o;have HJ1:=ag.mk ((ah hbox 1).trans e1);have hc1:=HJ1.o;have HJ2:=ag.mk ((ah hbox 2).trans e2);have hc2:=HJ2.o;have HJ3:=ag.mk ((ah hbox 3).trans e3);have hc3:=HJ3.o;have HJ4:=ag.mk ((ah hbox 4).trans e4);have hc4:=HJ4.o;have HJ5:=ag.mk ((ah hbox 5).trans e5);have hc5:=HJ5.o;have HJ6:=ag.mk ((ah hbox 6).trans e6);have hc6:=HJ6.o;have HJ7:=ag.mk ((ah hbox 7).trans e7);have hc7:=HJ7.o;have HJ8:=ag.mk ((ah hbox 8).trans e8);have hc8:=HJ8.o;have HJ9:=ag.mk ((ah hbox 9).trans e9);have hc9:=HJ9.o;have HJ10:=ag.mk ((ah hbox 10).trans e10);have hc10:=HJ10.o;have HJ11:=ag.mk ((ah hbox 11).trans e11);have hc11:=HJ11.o;have HJ12:=ag.mk ((ah hbox 12).trans e12);have hc12:=HJ12.o;have HJ13:=ag.mk ((ah hbox 13).trans e13);have hc13:=HJ13.o;have HJ14:=ag.mk ((ah hbox 14).trans e14);have hc14:=HJ14.o;have HJ15:=ag.mk ((ah hbox 15).trans e15);have hc15:=HJ15.o;have HJ16:=ag.mk ((ah hbox 16).trans e16);have hc16:=HJ16.o;have HJ17:=ag.mk ((ah hbox 17).trans e17);have hc17:=HJ17.o;have HJ18:=ag.mk ((ah hbox 18).trans e18);have hc18:=HJ18.o;have HJ19:=ag.mk ((ah hbox 19).trans e19);have hc19:=HJ19.o;have HJ20:=ag.mk ((ah hbox 20).trans e20);have hc20:=HJ20.o;have HJ21:=ag.mk ((ah hbox 21).trans e21);have hc21:=HJ21.o;have HJ22:=ag.mk ((ah hbox 22).trans e22);have hc22:=HJ22.o;have HJ23:=ag.mk ((ah hbox 23).trans e23);have hc23:=HJ23.o;have HJ24:=ag.mk ((ah hbox 24).trans e24);have hc24:=HJ24.o;have HJ25:=ag.mk ((ah hbox 25).trans e25);have hc25:=HJ25.o;have HJ26:=ag.mk ((ah hbox 26).trans e26);have hc26:=HJ26.o;have HJ27:=ag.mk ((ah hbox 27).trans e27);have hc27:=HJ27.o;clear hb_ hbox hg_ HB;have HB:=ag.mk (Below.refl w1.heap.size w1))|((with_reducible refine aI (N:=4) rfl ?_);refine aH ?hg (N:=4) ?hd (cs:=#[.int .i64 0,.int .i64 0,.int .i64 0,.int .i64 0]) (t:=31) ?hr ?_;(case hd=>rfl);(case hg=>rfl);(case hr=>first|(go_simp;done)|(go_simp;rfl));intro gd hg_ w2 hbox hb_;have n0_:=ag.mk (aj (by repeat(first|(with_reducible first|exact HB.o|apply ae|apply aa|apply af)|exact HB.o)) hb_);have GEd:=ag.mk ((by rw[hg_];exact(ak (by repeat(first|(with_reducible first|exact HB.o|apply ae|apply aa|apply af)|exact HB.o)))):w1.heap.size≤gd);clear HB;have HB:=n0_;have BKd:=ag.mk hbox;clear n0_ hb_ hbox hg_;(try clear hc0);have hc0:=cqq HB.o HJ0.o;(try clear hc1);have hc1:=cqq HB.o HJ1.o;(try clear hc2);have hc2:=cqq HB.o HJ2.o;(try clear hc3);have hc3:=cqq HB.o HJ3.o;(try clear hc4);have hc4:=cqq HB.o HJ4.o;(try clear hc5);have hc5:=cqq HB.o HJ5.o;(try clear hc6);have hc6:=cqq HB.o HJ6.o;(try clear hc7);have hc7:=cqq HB.o HJ7.o;(try clear hc8);have hc8:=cqq HB.o HJ8.o;(try clear hc9);have hc9:=cqq HB.o HJ9.o;(try clear hc10);have hc10:=cqq HB.o HJ10.o;(try clear hc11);have hc11:=cqq HB.o HJ11.o;(try clear hc12);have hc12:=cqq HB.o HJ12.o;(try clear hc13);have hc13:=cqq HB.o HJ13.o;(try clear hc14);have hc14:=cqq HB.o HJ14.o;(try clear hc15);have hc15:=cqq HB.o HJ15.o;(try clear hc16);have hc16:=cqq HB.o HJ16.o;(try clear hc17);have hc17:=cqq HB.o HJ17.o;(try clear hc18);have hc18:=cqq HB.o HJ18.o;(try clear hc19);have hc19:=cqq HB.o HJ19.o;(try clear hc20);have hc20:=cqq HB.o HJ20.o;(try clear hc21);have hc21:=cqq HB.o HJ21.o;(try clear hc22);have hc22:=cqq HB.o HJ22.o;(try clear hc23);have hc23:=cqq HB.o HJ23.o;(try clear hc24);have hc24:=cqq HB.o HJ24.o;(try clear hc25);have hc25:=cqq HB.o HJ25.o;(try clear hc26);have hc26:=cqq HB.o HJ26.o;(try clear hc27);have hc27:=cqq HB.o HJ27.o;skip)|((with_reducible refine gate_store 31 rfl ?_);refine store_event rfl _ _ _ rfl (by (with_reducible repeat(first|refine av ?_ _|refine aA ?_|refine au ?_ _));exact BKd.o) rfl rfl ?os ?oi ?o1 ?_;(case os=>rfl);(case oi=>kernel_rfl);(case o1=>rfl);intro wB hbox hg_;have n0_:=ag.mk (Below.grown (by repeat(first|(with_reducible first|exact HB.o|apply ae|apply aa|apply af)|exact HB.o)) hg_ (ak (by repeat(first|(with_reducible first|exact HB.o|apply ae|apply aa|apply af)|exact HB.o))) (fun k hk=>by cases hk;exact GEd.o));clear HB BKd;have HB:=n0_;have BKd:=ag.mk hbox;clear n0_ hg_ hbox;(try clear hc0);have hc0:=cqq HB.o HJ0.o;(try clear hc1);have hc1:=cqq HB.o HJ1.o;(try clear hc2);have hc2:=cqq HB.o HJ2.o;(try clear hc3);have hc3:=cqq HB.o HJ3.o;(try clear hc4);have hc4:=cqq HB.o HJ4.o;(try clear hc5);have hc5:=cqq HB.o HJ5.o;(try clear hc6);have hc6:=cqq HB.o HJ6.o;(try clear hc7);have hc7:=cqq HB.o HJ7.o;(try clear hc8);have hc8:=cqq HB.o HJ8.o;(try clear hc9);have hc9:=cqq HB.o HJ9.o;(try clear hc10);have hc10:=cqq HB.o HJ10.o;(try clear hc11);have hc11:=cqq HB.o HJ11.o;(try clear hc12);have hc12:=cqq HB.o HJ12.o;(try clear hc13);have hc13:=cqq HB.o HJ13.o;(try clear hc14);have hc14:=cqq HB.o HJ14.o;(try clear hc15);have hc15:=cqq HB.o HJ15.o;(try clear hc16);have hc16:=cqq HB.o HJ16.o;(try clear hc17);have hc17:=cqq HB.o HJ17.o;(try clear hc18);have hc18:=cqq HB.o HJ18.o;(try clear hc19);have hc19:=cqq HB.o HJ19.o;(try clear hc20);have hc20:=cqq HB.o HJ20.o;(try clear hc21);have hc21:=cqq HB.o HJ21.o;(try clear hc22);have hc22:=cqq HB.o HJ22.o;(try clear hc23);have hc23:=cqq HB.o HJ23.o;(try clear hc24);have hc24:=cqq HB.o HJ24.o;(try clear hc25);have hc25:=cqq HB.o HJ25.o;(try clear hc26);have hc26:=cqq HB.o HJ26.o;(try clear hc27);have hc27:=cqq HB.o HJ27.o;(try clear hvd_0);have hvd_0:=(ah BKd.o 0).trans rfl;(try clear hvd_1);have hvd_1:=(ah BKd.o 1).trans rfl;(try clear hvd_2);have hvd_2:=(ah BKd.o 2).trans rfl;(try clear hvd_3);have hvd_3:=(ah BKd.o 3).trans rfl;skip))
 have H:=HH.o
 clear HH
 have HW:=ag.mk (aj HBW.o HB.o)
 have HK0:=ag.mk hc0
 have HK1:=ag.mk hc1
 have HK2:=ag.mk hc2
 have HK3:=ag.mk hc3
 have HK4:=ag.mk hc4
 have HK5:=ag.mk hc5
 have HK6:=ag.mk hc6
 have HK7:=ag.mk hc7
 have HK8:=ag.mk hc8
 have HK9:=ag.mk hc9
 have HK10:=ag.mk hc10
 have HK11:=ag.mk hc11
 have HK12:=ag.mk hc12
 have HK13:=ag.mk hc13
 have HK14:=ag.mk hc14
 have HK15:=ag.mk hc15
 have HK16:=ag.mk hc16
 have HK17:=ag.mk hc17
 have HK18:=ag.mk hc18
 have HK19:=ag.mk hc19
 have HK20:=ag.mk hc20
 have HK21:=ag.mk hc21
 have HK22:=ag.mk hc22
 have HK23:=ag.mk hc23
 have HK24:=ag.mk hc24
 have HK25:=ag.mk hc25
 have HK26:=ag.mk hc26
 have HK27:=ag.mk hc27
 have HD0:=ag.mk hvd_0
 have hd0:=hvd_0
 have HD1:=ag.mk hvd_1
 have hd1:=hvd_1
 have HD2:=ag.mk hvd_2
 have hd2:=hvd_2
 have HD3:=ag.mk hvd_3
 have hd3:=hvd_3
 have BK2:=ag.mk (aN BK1.o HB.o)
 clear BK1
 have BK1:=BK2
 clear BK2
 have HT:=ag.mk (kTar.K_below HW.o hT)
 have G15:=ag.mk (Kd.bg g15 HW.o)
 have G16:=ag.mk (Kd.bg g16 HW.o)
 have G18:=ag.mk (Kd.bg g18 HW.o)
 clear g15 g16 g17 g18 hT HB e0 HJ0 e1 HJ1 e2 HJ2 e3 HJ3 e4 HJ4 e5 HJ5 e6 HJ6 e7 HJ7 e8 HJ8 e9 HJ9 e10 HJ10 e11 HJ11 e12 HJ12 e13 HJ13 e14 HJ14 e15 HJ15 e16 HJ16 e17 HJ17 e18 HJ18 e19 HJ19 e20 HJ20 e21 HJ21 e22 HJ22 e23 HJ23 e24 HJ24 e25 HJ25 e26 HJ26 e27 HJ27
 have HB:=ag.mk (Below.refl wB.heap.size wB)
 obtain⟨x0,A0,H⟩:=Option.bind_eq_some_iff.mp H
 replace A0:=ag.mk A0
 cases x0 with
 |false=>
  rw[if_pos rfl] at H
  obtain⟨rfl,rfl⟩:=Prod.mk.inj (Option.some.inj H)
  clear H
  go_wp2_with (first|(go_at_call 21;(with_reducible refine(pylonref06_Name.calls k t.f0 _ _ A0.o).mono ?_);rintro e w' ⟨rfl,⟨nd,rfl⟩⟩))
  go_ret2
  exact⟨rfl,aj HW.o (by repeat(first|(with_reducible first|exact HB.o|apply ae|apply aa|apply af)|exact HB.o))⟩
 |true=>
  rw[if_neg (by simp)] at H
  obtain⟨x1,A1,H⟩:=Option.bind_eq_some_iff.mp H
  replace A1:=ag.mk A1
  by_cases hz:x1=0
  ·subst hz
   rw[if_neg (by simp)] at H
   have HH:=ag.mk H
   clear H
   go_upto_region 5 with (first|(go_at_call 21;(with_reducible refine(pylonref06_Name.calls k t.f0 _ _ A0.o).mono ?_);rintro e w' ⟨rfl,⟨nd,rfl⟩⟩)|(go_at_call 22;(with_reducible refine(pylonref04_Check.calls k t.f1 t.f2 t.f3 t.f4 t.f5 t.f6 t.f7 t.f8 t.f9 t.f10 _ _ A1.o).mono ?_);rintro e w' ⟨rfl,hb⟩;have n0_:=ag.mk (aj (by repeat(first|(with_reducible first|exact HB.o|apply ae|apply aa|apply af)|exact HB.o)) hb);clear HB;have HB:=n0_;clear n0_ hb;(try clear hc0);have hc0:=cqq HB.o HK0.o;(try clear hc1);have hc1:=cqq HB.o HK1.o;(try clear hc2);have hc2:=cqq HB.o HK2.o;(try clear hc3);have hc3:=cqq HB.o HK3.o;(try clear hc4);have hc4:=cqq HB.o HK4.o;(try clear hc5);have hc5:=cqq HB.o HK5.o;(try clear hc6);have hc6:=cqq HB.o HK6.o;(try clear hc7);have hc7:=cqq HB.o HK7.o;(try clear hc8);have hc8:=cqq HB.o HK8.o;(try clear hc9);have hc9:=cqq HB.o HK9.o;(try clear hc10);have hc10:=cqq HB.o HK10.o;(try clear hc11);have hc11:=cqq HB.o HK11.o;(try clear hc12);have hc12:=cqq HB.o HK12.o;(try clear hc13);have hc13:=cqq HB.o HK13.o;(try clear hc14);have hc14:=cqq HB.o HK14.o;(try clear hc15);have hc15:=cqq HB.o HK15.o;(try clear hc16);have hc16:=cqq HB.o HK16.o;(try clear hc17);have hc17:=cqq HB.o HK17.o;(try clear hc18);have hc18:=cqq HB.o HK18.o;(try clear hc19);have hc19:=cqq HB.o HK19.o;(try clear hc20);have hc20:=cqq HB.o HK20.o;(try clear hc21);have hc21:=cqq HB.o HK21.o;(try clear hc22);have hc22:=cqq HB.o HK22.o;(try clear hc23);have hc23:=cqq HB.o HK23.o;(try clear hc24);have hc24:=cqq HB.o HK24.o;(try clear hc25);have hc25:=cqq HB.o HK25.o;(try clear hc26);have hc26:=cqq HB.o HK26.o;(try clear hc27);have hc27:=cqq HB.o HK27.o;(try clear hd0);have hd0:=cqq HB.o HD0.o;(try clear hd1);have hd1:=cqq HB.o HD1.o;(try clear hd2);have hd2:=cqq HB.o HD2.o;(try clear hd3);have hd3:=cqq HB.o HD3.o;skip))
   have H:=HH.o
   clear HH A0 A1
   obtain⟨x2,A2,H⟩:=Option.bind_eq_some_iff.mp H
   replace A2:=ag.mk A2
   cases x2 with
   |false=>
    rw[if_pos rfl] at H
    obtain⟨rfl,rfl⟩:=Prod.mk.inj (Option.some.inj H)
    clear H
    go_wp2_with (first|(go_at_call 23;(with_reducible refine(pylonref09_within.calls t.f11 1 10000000 _ _ A2.o).mono ?_);rintro e w' ⟨rfl,⟨nd,rfl⟩⟩))
    go_ret2
    exact⟨rfl,aj HW.o (by repeat(first|(with_reducible first|exact HB.o|apply ae|apply aa|apply af)|exact HB.o))⟩
   |true=>
    rw[if_neg (by simp)] at H
    obtain⟨x3,A3,H⟩:=Option.bind_eq_some_iff.mp H
    replace A3:=ag.mk A3
    cases x3 with
    |false=>
     rw[if_pos rfl] at H
     obtain⟨rfl,rfl⟩:=Prod.mk.inj (Option.some.inj H)
     clear H
     go_wp2_with (first|(go_at_call 23;(with_reducible refine(pylonref09_within.calls t.f11 1 10000000 _ _ A2.o).mono ?_);rintro e w' ⟨rfl,⟨nd,rfl⟩⟩)|(go_at_call 23;(with_reducible refine(pylonref09_within.calls t.f12 0 10000000 _ _ A3.o).mono ?_);rintro e w' ⟨rfl,⟨nd,rfl⟩⟩))
     go_ret2
     exact⟨rfl,aj HW.o (by repeat(first|(with_reducible first|exact HB.o|apply ae|apply aa|apply af)|exact HB.o))⟩
    |true=>
     rw[if_neg (by simp)] at H
     obtain⟨x4,A4,H⟩:=Option.bind_eq_some_iff.mp H
     replace A4:=ag.mk A4
     cases x4 with
     |false=>
      rw[if_pos rfl] at H
      obtain⟨rfl,rfl⟩:=Prod.mk.inj (Option.some.inj H)
      clear H
      go_wp2_with (first|(go_at_call 23;(with_reducible refine(pylonref09_within.calls t.f11 1 10000000 _ _ A2.o).mono ?_);rintro e w' ⟨rfl,⟨nd,rfl⟩⟩)|(go_at_call 23;(with_reducible refine(pylonref09_within.calls t.f12 0 10000000 _ _ A3.o).mono ?_);rintro e w' ⟨rfl,⟨nd,rfl⟩⟩)|(go_at_call 23;(with_reducible refine(pylonref09_within.calls t.f13 0 40000 _ _ A4.o).mono ?_);rintro e w' ⟨rfl,⟨nd,rfl⟩⟩))
      go_ret2
      exact⟨rfl,aj HW.o (by repeat(first|(with_reducible first|exact HB.o|apply ae|apply aa|apply af)|exact HB.o))⟩
     |true=>
      rw[if_neg (by simp)] at H
      have HH:=ag.mk H
      clear H
      go_upto_region 7 with (first|(go_at_call 23;(with_reducible refine(pylonref09_within.calls t.f11 1 10000000 _ _ A2.o).mono ?_);rintro e w' ⟨rfl,⟨nd,rfl⟩⟩)|(go_at_call 23;(with_reducible refine(pylonref09_within.calls t.f12 0 10000000 _ _ A3.o).mono ?_);rintro e w' ⟨rfl,⟨nd,rfl⟩⟩)|(go_at_call 23;(with_reducible refine(pylonref09_within.calls t.f13 0 40000 _ _ A4.o).mono ?_);rintro e w' ⟨rfl,⟨nd,rfl⟩⟩))
      have H:=HH.o
      clear HH A2 A3 A4
      obtain⟨x5,A5,H⟩:=Option.bind_eq_some_iff.mp H
      replace A5:=ag.mk A5
      cases x5 with
      |false=>
       rw[if_pos rfl] at H
       obtain⟨rfl,rfl⟩:=Prod.mk.inj (Option.some.inj H)
       clear H
       go_wp2_with (first|(go_at_call 23;(with_reducible refine(pylonref09_within.calls t.f14 1 28 _ _ A5.o).mono ?_);rintro e w' ⟨rfl,⟨nd,rfl⟩⟩))
       go_ret2
       exact⟨rfl,aj HW.o (by repeat(first|(with_reducible first|exact HB.o|apply ae|apply aa|apply af)|exact HB.o))⟩
      |true=>
       rw[if_neg (by simp)] at H
       have HH:=ag.mk H
       clear H
       go_upto_region 9 with (first|(go_at_call 23;(with_reducible refine(pylonref09_within.calls t.f14 1 28 _ _ A5.o).mono ?_);rintro e w' ⟨rfl,⟨nd,rfl⟩⟩))
       have H:=HH.o
       clear HH A5
       obtain⟨x6,A6,H⟩:=Option.bind_eq_some_iff.mp H
       replace A6:=ag.mk A6
       cases x6 with
       |false=>
        rw[if_pos rfl] at H
        obtain⟨rfl,rfl⟩:=Prod.mk.inj (Option.some.inj H)
        clear H
        go_wp2_with (first|(go_at_call 24;(with_reducible refine(pylonref09_seasons.calls k A15 c15 t.f15 _ _ (Kd.bg G15.o (by repeat(first|(with_reducible first|exact HB.o|apply ae|apply aa|apply af)|exact HB.o))) l15 A6.o).mono ?_);(first|(rintro e w' ⟨rfl,⟨nd,rfl⟩⟩)|(rintro e w' ⟨rfl,hb⟩;have n0_:=ag.mk (aj (by repeat(first|(with_reducible first|exact HB.o|apply ae|apply aa|apply af)|exact HB.o)) hb);clear HB;have HB:=n0_;clear n0_ hb;(try clear hc0);have hc0:=cqq HB.o HK0.o;(try clear hc1);have hc1:=cqq HB.o HK1.o;(try clear hc2);have hc2:=cqq HB.o HK2.o;(try clear hc3);have hc3:=cqq HB.o HK3.o;(try clear hc4);have hc4:=cqq HB.o HK4.o;(try clear hc5);have hc5:=cqq HB.o HK5.o;(try clear hc6);have hc6:=cqq HB.o HK6.o;(try clear hc7);have hc7:=cqq HB.o HK7.o;(try clear hc8);have hc8:=cqq HB.o HK8.o;(try clear hc9);have hc9:=cqq HB.o HK9.o;(try clear hc10);have hc10:=cqq HB.o HK10.o;(try clear hc11);have hc11:=cqq HB.o HK11.o;(try clear hc12);have hc12:=cqq HB.o HK12.o;(try clear hc13);have hc13:=cqq HB.o HK13.o;(try clear hc14);have hc14:=cqq HB.o HK14.o;(try clear hc15);have hc15:=cqq HB.o HK15.o;(try clear hc16);have hc16:=cqq HB.o HK16.o;(try clear hc17);have hc17:=cqq HB.o HK17.o;(try clear hc18);have hc18:=cqq HB.o HK18.o;(try clear hc19);have hc19:=cqq HB.o HK19.o;(try clear hc20);have hc20:=cqq HB.o HK20.o;(try clear hc21);have hc21:=cqq HB.o HK21.o;(try clear hc22);have hc22:=cqq HB.o HK22.o;(try clear hc23);have hc23:=cqq HB.o HK23.o;(try clear hc24);have hc24:=cqq HB.o HK24.o;(try clear hc25);have hc25:=cqq HB.o HK25.o;(try clear hc26);have hc26:=cqq HB.o HK26.o;(try clear hc27);have hc27:=cqq HB.o HK27.o;(try clear hd0);have hd0:=cqq HB.o HD0.o;(try clear hd1);have hd1:=cqq HB.o HD1.o;(try clear hd2);have hd2:=cqq HB.o HD2.o;(try clear hd3);have hd3:=cqq HB.o HD3.o;skip))))
        go_ret2
        exact⟨rfl,aj HW.o (by repeat(first|(with_reducible first|exact HB.o|apply ae|apply aa|apply af)|exact HB.o))⟩
       |true=>
        rw[if_neg (by simp)] at H
        have HH:=ag.mk H
        clear H
        go_upto_region 11 with (first|(go_at_call 24;(with_reducible refine(pylonref09_seasons.calls k A15 c15 t.f15 _ _ (Kd.bg G15.o (by repeat(first|(with_reducible first|exact HB.o|apply ae|apply aa|apply af)|exact HB.o))) l15 A6.o).mono ?_);(first|(rintro e w' ⟨rfl,⟨nd,rfl⟩⟩)|(rintro e w' ⟨rfl,hb⟩;have n0_:=ag.mk (aj (by repeat(first|(with_reducible first|exact HB.o|apply ae|apply aa|apply af)|exact HB.o)) hb);clear HB;have HB:=n0_;clear n0_ hb;(try clear hc0);have hc0:=cqq HB.o HK0.o;(try clear hc1);have hc1:=cqq HB.o HK1.o;(try clear hc2);have hc2:=cqq HB.o HK2.o;(try clear hc3);have hc3:=cqq HB.o HK3.o;(try clear hc4);have hc4:=cqq HB.o HK4.o;(try clear hc5);have hc5:=cqq HB.o HK5.o;(try clear hc6);have hc6:=cqq HB.o HK6.o;(try clear hc7);have hc7:=cqq HB.o HK7.o;(try clear hc8);have hc8:=cqq HB.o HK8.o;(try clear hc9);have hc9:=cqq HB.o HK9.o;(try clear hc10);have hc10:=cqq HB.o HK10.o;(try clear hc11);have hc11:=cqq HB.o HK11.o;(try clear hc12);have hc12:=cqq HB.o HK12.o;(try clear hc13);have hc13:=cqq HB.o HK13.o;(try clear hc14);have hc14:=cqq HB.o HK14.o;(try clear hc15);have hc15:=cqq HB.o HK15.o;(try clear hc16);have hc16:=cqq HB.o HK16.o;(try clear hc17);have hc17:=cqq HB.o HK17.o;(try clear hc18);have hc18:=cqq HB.o HK18.o;(try clear hc19);have hc19:=cqq HB.o HK19.o;(try clear hc20);have hc20:=cqq HB.o HK20.o;(try clear hc21);have hc21:=cqq HB.o HK21.o;(try clear hc22);have hc22:=cqq HB.o HK22.o;(try clear hc23);have hc23:=cqq HB.o HK23.o;(try clear hc24);have hc24:=cqq HB.o HK24.o;(try clear hc25);have hc25:=cqq HB.o HK25.o;(try clear hc26);have hc26:=cqq HB.o HK26.o;(try clear hc27);have hc27:=cqq HB.o HK27.o;(try clear hd0);have hd0:=cqq HB.o HD0.o;(try clear hd1);have hd1:=cqq HB.o HD1.o;(try clear hd2);have hd2:=cqq HB.o HD2.o;(try clear hd3);have hd3:=cqq HB.o HD3.o;skip))))
        have H:=HH.o
        clear HH A6
        obtain⟨x7,A7,H⟩:=Option.bind_eq_some_iff.mp H
        replace A7:=ag.mk A7
        cases x7 with
        |false=>
         rw[if_pos rfl] at H
         obtain⟨rfl,rfl⟩:=Prod.mk.inj (Option.some.inj H)
         clear H
         go_wp2_with (first|(go_at_call 25;(with_reducible refine(pylonref09_holidays.calls k A16 c16 t.f16 _ _ (Kd.bg G16.o (by repeat(first|(with_reducible first|exact HB.o|apply ae|apply aa|apply af)|exact HB.o))) l16 A7.o).mono ?_);(first|(rintro e w' ⟨rfl,⟨nd,rfl⟩⟩)|(rintro e w' ⟨rfl,hb⟩;have n0_:=ag.mk (aj (by repeat(first|(with_reducible first|exact HB.o|apply ae|apply aa|apply af)|exact HB.o)) hb);clear HB;have HB:=n0_;clear n0_ hb;(try clear hc0);have hc0:=cqq HB.o HK0.o;(try clear hc1);have hc1:=cqq HB.o HK1.o;(try clear hc2);have hc2:=cqq HB.o HK2.o;(try clear hc3);have hc3:=cqq HB.o HK3.o;(try clear hc4);have hc4:=cqq HB.o HK4.o;(try clear hc5);have hc5:=cqq HB.o HK5.o;(try clear hc6);have hc6:=cqq HB.o HK6.o;(try clear hc7);have hc7:=cqq HB.o HK7.o;(try clear hc8);have hc8:=cqq HB.o HK8.o;(try clear hc9);have hc9:=cqq HB.o HK9.o;(try clear hc10);have hc10:=cqq HB.o HK10.o;(try clear hc11);have hc11:=cqq HB.o HK11.o;(try clear hc12);have hc12:=cqq HB.o HK12.o;(try clear hc13);have hc13:=cqq HB.o HK13.o;(try clear hc14);have hc14:=cqq HB.o HK14.o;(try clear hc15);have hc15:=cqq HB.o HK15.o;(try clear hc16);have hc16:=cqq HB.o HK16.o;(try clear hc17);have hc17:=cqq HB.o HK17.o;(try clear hc18);have hc18:=cqq HB.o HK18.o;(try clear hc19);have hc19:=cqq HB.o HK19.o;(try clear hc20);have hc20:=cqq HB.o HK20.o;(try clear hc21);have hc21:=cqq HB.o HK21.o;(try clear hc22);have hc22:=cqq HB.o HK22.o;(try clear hc23);have hc23:=cqq HB.o HK23.o;(try clear hc24);have hc24:=cqq HB.o HK24.o;(try clear hc25);have hc25:=cqq HB.o HK25.o;(try clear hc26);have hc26:=cqq HB.o HK26.o;(try clear hc27);have hc27:=cqq HB.o HK27.o;(try clear hd0);have hd0:=cqq HB.o HD0.o;(try clear hd1);have hd1:=cqq HB.o HD1.o;(try clear hd2);have hd2:=cqq HB.o HD2.o;(try clear hd3);have hd3:=cqq HB.o HD3.o;skip))))
         go_ret2
         exact⟨rfl,aj HW.o (by repeat(first|(with_reducible first|exact HB.o|apply ae|apply aa|apply af)|exact HB.o))⟩
        |true=>
         rw[if_neg (by simp)] at H
         have HH:=ag.mk H
         clear H
         go_upto_region 13 with (first|(go_at_call 25;(with_reducible refine(pylonref09_holidays.calls k A16 c16 t.f16 _ _ (Kd.bg G16.o (by repeat(first|(with_reducible first|exact HB.o|apply ae|apply aa|apply af)|exact HB.o))) l16 A7.o).mono ?_);(first|(rintro e w' ⟨rfl,⟨nd,rfl⟩⟩)|(rintro e w' ⟨rfl,hb⟩;have n0_:=ag.mk (aj (by repeat(first|(with_reducible first|exact HB.o|apply ae|apply aa|apply af)|exact HB.o)) hb);clear HB;have HB:=n0_;clear n0_ hb;(try clear hc0);have hc0:=cqq HB.o HK0.o;(try clear hc1);have hc1:=cqq HB.o HK1.o;(try clear hc2);have hc2:=cqq HB.o HK2.o;(try clear hc3);have hc3:=cqq HB.o HK3.o;(try clear hc4);have hc4:=cqq HB.o HK4.o;(try clear hc5);have hc5:=cqq HB.o HK5.o;(try clear hc6);have hc6:=cqq HB.o HK6.o;(try clear hc7);have hc7:=cqq HB.o HK7.o;(try clear hc8);have hc8:=cqq HB.o HK8.o;(try clear hc9);have hc9:=cqq HB.o HK9.o;(try clear hc10);have hc10:=cqq HB.o HK10.o;(try clear hc11);have hc11:=cqq HB.o HK11.o;(try clear hc12);have hc12:=cqq HB.o HK12.o;(try clear hc13);have hc13:=cqq HB.o HK13.o;(try clear hc14);have hc14:=cqq HB.o HK14.o;(try clear hc15);have hc15:=cqq HB.o HK15.o;(try clear hc16);have hc16:=cqq HB.o HK16.o;(try clear hc17);have hc17:=cqq HB.o HK17.o;(try clear hc18);have hc18:=cqq HB.o HK18.o;(try clear hc19);have hc19:=cqq HB.o HK19.o;(try clear hc20);have hc20:=cqq HB.o HK20.o;(try clear hc21);have hc21:=cqq HB.o HK21.o;(try clear hc22);have hc22:=cqq HB.o HK22.o;(try clear hc23);have hc23:=cqq HB.o HK23.o;(try clear hc24);have hc24:=cqq HB.o HK24.o;(try clear hc25);have hc25:=cqq HB.o HK25.o;(try clear hc26);have hc26:=cqq HB.o HK26.o;(try clear hc27);have hc27:=cqq HB.o HK27.o;(try clear hd0);have hd0:=cqq HB.o HD0.o;(try clear hd1);have hd1:=cqq HB.o HD1.o;(try clear hd2);have hd2:=cqq HB.o HD2.o;(try clear hd3);have hd3:=cqq HB.o HD3.o;skip))))
         have H:=HH.o
         clear HH A7
         obtain⟨x8,A8,H⟩:=Option.bind_eq_some_iff.mp H
         replace A8:=ag.mk A8
         cases x8 with
         |false=>
          rw[if_pos rfl] at H
          obtain⟨rfl,rfl⟩:=Prod.mk.inj (Option.some.inj H)
          clear H
          go_wp2_with (first|(go_at_call 26;(with_reducible refine(pylonref09_blocks.calls k A18 c18 t.f18 _ _ (Kd.bg G18.o (by repeat(first|(with_reducible first|exact HB.o|apply ae|apply aa|apply af)|exact HB.o))) l18 A8.o).mono ?_);(first|(rintro e w' ⟨rfl,⟨nd,rfl⟩⟩)|(rintro e w' ⟨rfl,hb⟩;have n0_:=ag.mk (aj (by repeat(first|(with_reducible first|exact HB.o|apply ae|apply aa|apply af)|exact HB.o)) hb);clear HB;have HB:=n0_;clear n0_ hb;(try clear hc0);have hc0:=cqq HB.o HK0.o;(try clear hc1);have hc1:=cqq HB.o HK1.o;(try clear hc2);have hc2:=cqq HB.o HK2.o;(try clear hc3);have hc3:=cqq HB.o HK3.o;(try clear hc4);have hc4:=cqq HB.o HK4.o;(try clear hc5);have hc5:=cqq HB.o HK5.o;(try clear hc6);have hc6:=cqq HB.o HK6.o;(try clear hc7);have hc7:=cqq HB.o HK7.o;(try clear hc8);have hc8:=cqq HB.o HK8.o;(try clear hc9);have hc9:=cqq HB.o HK9.o;(try clear hc10);have hc10:=cqq HB.o HK10.o;(try clear hc11);have hc11:=cqq HB.o HK11.o;(try clear hc12);have hc12:=cqq HB.o HK12.o;(try clear hc13);have hc13:=cqq HB.o HK13.o;(try clear hc14);have hc14:=cqq HB.o HK14.o;(try clear hc15);have hc15:=cqq HB.o HK15.o;(try clear hc16);have hc16:=cqq HB.o HK16.o;(try clear hc17);have hc17:=cqq HB.o HK17.o;(try clear hc18);have hc18:=cqq HB.o HK18.o;(try clear hc19);have hc19:=cqq HB.o HK19.o;(try clear hc20);have hc20:=cqq HB.o HK20.o;(try clear hc21);have hc21:=cqq HB.o HK21.o;(try clear hc22);have hc22:=cqq HB.o HK22.o;(try clear hc23);have hc23:=cqq HB.o HK23.o;(try clear hc24);have hc24:=cqq HB.o HK24.o;(try clear hc25);have hc25:=cqq HB.o HK25.o;(try clear hc26);have hc26:=cqq HB.o HK26.o;(try clear hc27);have hc27:=cqq HB.o HK27.o;(try clear hd0);have hd0:=cqq HB.o HD0.o;(try clear hd1);have hd1:=cqq HB.o HD1.o;(try clear hd2);have hd2:=cqq HB.o HD2.o;(try clear hd3);have hd3:=cqq HB.o HD3.o;skip))))
          go_ret2
          exact⟨rfl,aj HW.o (by repeat(first|(with_reducible first|exact HB.o|apply ae|apply aa|apply af)|exact HB.o))⟩
         |true=>
          rw[if_neg (by simp)] at H
          have HH:=ag.mk H
          clear H
          go_upto_region 15 with (first|(go_at_call 26;(with_reducible refine(pylonref09_blocks.calls k A18 c18 t.f18 _ _ (Kd.bg G18.o (by repeat(first|(with_reducible first|exact HB.o|apply ae|apply aa|apply af)|exact HB.o))) l18 A8.o).mono ?_);(first|(rintro e w' ⟨rfl,⟨nd,rfl⟩⟩)|(rintro e w' ⟨rfl,hb⟩;have n0_:=ag.mk (aj (by repeat(first|(with_reducible first|exact HB.o|apply ae|apply aa|apply af)|exact HB.o)) hb);clear HB;have HB:=n0_;clear n0_ hb;(try clear hc0);have hc0:=cqq HB.o HK0.o;(try clear hc1);have hc1:=cqq HB.o HK1.o;(try clear hc2);have hc2:=cqq HB.o HK2.o;(try clear hc3);have hc3:=cqq HB.o HK3.o;(try clear hc4);have hc4:=cqq HB.o HK4.o;(try clear hc5);have hc5:=cqq HB.o HK5.o;(try clear hc6);have hc6:=cqq HB.o HK6.o;(try clear hc7);have hc7:=cqq HB.o HK7.o;(try clear hc8);have hc8:=cqq HB.o HK8.o;(try clear hc9);have hc9:=cqq HB.o HK9.o;(try clear hc10);have hc10:=cqq HB.o HK10.o;(try clear hc11);have hc11:=cqq HB.o HK11.o;(try clear hc12);have hc12:=cqq HB.o HK12.o;(try clear hc13);have hc13:=cqq HB.o HK13.o;(try clear hc14);have hc14:=cqq HB.o HK14.o;(try clear hc15);have hc15:=cqq HB.o HK15.o;(try clear hc16);have hc16:=cqq HB.o HK16.o;(try clear hc17);have hc17:=cqq HB.o HK17.o;(try clear hc18);have hc18:=cqq HB.o HK18.o;(try clear hc19);have hc19:=cqq HB.o HK19.o;(try clear hc20);have hc20:=cqq HB.o HK20.o;(try clear hc21);have hc21:=cqq HB.o HK21.o;(try clear hc22);have hc22:=cqq HB.o HK22.o;(try clear hc23);have hc23:=cqq HB.o HK23.o;(try clear hc24);have hc24:=cqq HB.o HK24.o;(try clear hc25);have hc25:=cqq HB.o HK25.o;(try clear hc26);have hc26:=cqq HB.o HK26.o;(try clear hc27);have hc27:=cqq HB.o HK27.o;(try clear hd0);have hd0:=cqq HB.o HD0.o;(try clear hd1);have hd1:=cqq HB.o HD1.o;(try clear hd2);have hd2:=cqq HB.o HD2.o;(try clear hd3);have hd3:=cqq HB.o HD3.o;skip))))
          have H:=HH.o
          clear HH A8
          obtain⟨x9,A9,H⟩:=Option.bind_eq_some_iff.mp H
          replace A9:=ag.mk A9
          cases x9 with
          |false=>
           rw[if_pos rfl] at H
           obtain⟨rfl,rfl⟩:=Prod.mk.inj (Option.some.inj H)
           clear H
           go_wp2_with (first|(go_at_call 27;refine(pylonref09_windows.calls t cs _ _ (kTar.K_below (by repeat(first|(with_reducible first|exact HB.o|apply ae|apply aa|apply af)|exact HB.o)) HT.o) A9.o).mono ?_;rintro e w' ⟨rfl,hb⟩;have n0_:=ag.mk (aj (by repeat(first|(with_reducible first|exact HB.o|apply ae|apply aa|apply af)|exact HB.o)) hb);clear HB;have HB:=n0_;clear n0_ hb;(try clear hc0);have hc0:=cqq HB.o HK0.o;(try clear hc1);have hc1:=cqq HB.o HK1.o;(try clear hc2);have hc2:=cqq HB.o HK2.o;(try clear hc3);have hc3:=cqq HB.o HK3.o;(try clear hc4);have hc4:=cqq HB.o HK4.o;(try clear hc5);have hc5:=cqq HB.o HK5.o;(try clear hc6);have hc6:=cqq HB.o HK6.o;(try clear hc7);have hc7:=cqq HB.o HK7.o;(try clear hc8);have hc8:=cqq HB.o HK8.o;(try clear hc9);have hc9:=cqq HB.o HK9.o;(try clear hc10);have hc10:=cqq HB.o HK10.o;(try clear hc11);have hc11:=cqq HB.o HK11.o;(try clear hc12);have hc12:=cqq HB.o HK12.o;(try clear hc13);have hc13:=cqq HB.o HK13.o;(try clear hc14);have hc14:=cqq HB.o HK14.o;(try clear hc15);have hc15:=cqq HB.o HK15.o;(try clear hc16);have hc16:=cqq HB.o HK16.o;(try clear hc17);have hc17:=cqq HB.o HK17.o;(try clear hc18);have hc18:=cqq HB.o HK18.o;(try clear hc19);have hc19:=cqq HB.o HK19.o;(try clear hc20);have hc20:=cqq HB.o HK20.o;(try clear hc21);have hc21:=cqq HB.o HK21.o;(try clear hc22);have hc22:=cqq HB.o HK22.o;(try clear hc23);have hc23:=cqq HB.o HK23.o;(try clear hc24);have hc24:=cqq HB.o HK24.o;(try clear hc25);have hc25:=cqq HB.o HK25.o;(try clear hc26);have hc26:=cqq HB.o HK26.o;(try clear hc27);have hc27:=cqq HB.o HK27.o;(try clear hd0);have hd0:=cqq HB.o HD0.o;(try clear hd1);have hd1:=cqq HB.o HD1.o;(try clear hd2);have hd2:=cqq HB.o HD2.o;(try clear hd3);have hd3:=cqq HB.o HD3.o;skip)|((with_reducible refine gate_load 33 rfl ?_);refine load_event (V:=cs.toArray) rfl _ _ rfl (by (with_reducible repeat(first|refine av ?_ _|refine aA ?_|refine au ?_ _));exact aN BK1.o HB.o) rfl _ hu33 rfl ?li ?_;(case li=>rw[HS.o];kernel_rfl)))
           go_ret2
           exact⟨rfl,aj HW.o (by repeat(first|(with_reducible first|exact HB.o|apply ae|apply aa|apply af)|exact HB.o))⟩
          |true=>
           rw[if_neg (by simp)] at H
           have HH:=ag.mk H
           clear H
           go_upto_region 17 with (first|(go_at_call 27;refine(pylonref09_windows.calls t cs _ _ (kTar.K_below (by repeat(first|(with_reducible first|exact HB.o|apply ae|apply aa|apply af)|exact HB.o)) HT.o) A9.o).mono ?_;rintro e w' ⟨rfl,hb⟩;have n0_:=ag.mk (aj (by repeat(first|(with_reducible first|exact HB.o|apply ae|apply aa|apply af)|exact HB.o)) hb);clear HB;have HB:=n0_;clear n0_ hb;(try clear hc0);have hc0:=cqq HB.o HK0.o;(try clear hc1);have hc1:=cqq HB.o HK1.o;(try clear hc2);have hc2:=cqq HB.o HK2.o;(try clear hc3);have hc3:=cqq HB.o HK3.o;(try clear hc4);have hc4:=cqq HB.o HK4.o;(try clear hc5);have hc5:=cqq HB.o HK5.o;(try clear hc6);have hc6:=cqq HB.o HK6.o;(try clear hc7);have hc7:=cqq HB.o HK7.o;(try clear hc8);have hc8:=cqq HB.o HK8.o;(try clear hc9);have hc9:=cqq HB.o HK9.o;(try clear hc10);have hc10:=cqq HB.o HK10.o;(try clear hc11);have hc11:=cqq HB.o HK11.o;(try clear hc12);have hc12:=cqq HB.o HK12.o;(try clear hc13);have hc13:=cqq HB.o HK13.o;(try clear hc14);have hc14:=cqq HB.o HK14.o;(try clear hc15);have hc15:=cqq HB.o HK15.o;(try clear hc16);have hc16:=cqq HB.o HK16.o;(try clear hc17);have hc17:=cqq HB.o HK17.o;(try clear hc18);have hc18:=cqq HB.o HK18.o;(try clear hc19);have hc19:=cqq HB.o HK19.o;(try clear hc20);have hc20:=cqq HB.o HK20.o;(try clear hc21);have hc21:=cqq HB.o HK21.o;(try clear hc22);have hc22:=cqq HB.o HK22.o;(try clear hc23);have hc23:=cqq HB.o HK23.o;(try clear hc24);have hc24:=cqq HB.o HK24.o;(try clear hc25);have hc25:=cqq HB.o HK25.o;(try clear hc26);have hc26:=cqq HB.o HK26.o;(try clear hc27);have hc27:=cqq HB.o HK27.o;(try clear hd0);have hd0:=cqq HB.o HD0.o;(try clear hd1);have hd1:=cqq HB.o HD1.o;(try clear hd2);have hd2:=cqq HB.o HD2.o;(try clear hd3);have hd3:=cqq HB.o HD3.o;skip)|((with_reducible refine gate_load 33 rfl ?_);refine load_event (V:=cs.toArray) rfl _ _ rfl (by (with_reducible repeat(first|refine av ?_ _|refine aA ?_|refine au ?_ _));exact aN BK1.o HB.o) rfl _ hu33 rfl ?li ?_;(case li=>rw[HS.o];kernel_rfl)))
           have H:=HH.o
           clear HH A9
           obtain⟨x10,A10,H⟩:=Option.bind_eq_some_iff.mp H
           replace A10:=ag.mk A10
           cases x10 with
           |false=>
            rw[if_pos rfl] at H
            obtain⟨rfl,rfl⟩:=Prod.mk.inj (Option.some.inj H)
            clear H
            go_wp2_with (first|(go_at_call 23;(with_reducible refine(pylonref09_within.calls t.f19 0 10000000 _ _ A10.o).mono ?_);rintro e w' ⟨rfl,⟨nd,rfl⟩⟩))
            go_ret2
            exact⟨rfl,aj HW.o (by repeat(first|(with_reducible first|exact HB.o|apply ae|apply aa|apply af)|exact HB.o))⟩
           |true=>
            rw[if_neg (by simp)] at H
            by_cases hm1:t.f20=15
            ·rw[if_neg (by omega)] at H
             have bm1:(t.f20 != 15)=false:=bne_eq_false_iff_eq.mpr hm1
             clear hm1
             obtain⟨x12,A12,H⟩:=Option.bind_eq_some_iff.mp H
             replace A12:=ag.mk A12
             cases x12 with
             |false=>
              rw[if_pos rfl] at H
              obtain⟨rfl,rfl⟩:=Prod.mk.inj (Option.some.inj H)
              clear H
              go_wp2_with (first|(go_at_call 23;(with_reducible refine(pylonref09_within.calls t.f19 0 10000000 _ _ A10.o).mono ?_);rintro e w' ⟨rfl,⟨nd,rfl⟩⟩)|(go_at_call 23;(with_reducible refine(pylonref09_within.calls t.f21 0 100 _ _ A12.o).mono ?_);rintro e w' ⟨rfl,⟨nd,rfl⟩⟩))
              go_ret2
              exact⟨rfl,aj HW.o (by repeat(first|(with_reducible first|exact HB.o|apply ae|apply aa|apply af)|exact HB.o))⟩
             |true=>
              rw[if_neg (by simp)] at H
              obtain⟨x13,A13,H⟩:=Option.bind_eq_some_iff.mp H
              replace A13:=ag.mk A13
              cases x13 with
              |false=>
               rw[if_pos rfl] at H
               obtain⟨rfl,rfl⟩:=Prod.mk.inj (Option.some.inj H)
               clear H
               go_wp2_with (first|(go_at_call 23;(with_reducible refine(pylonref09_within.calls t.f19 0 10000000 _ _ A10.o).mono ?_);rintro e w' ⟨rfl,⟨nd,rfl⟩⟩)|(go_at_call 23;(with_reducible refine(pylonref09_within.calls t.f21 0 100 _ _ A12.o).mono ?_);rintro e w' ⟨rfl,⟨nd,rfl⟩⟩)|(go_at_call 23;(with_reducible refine(pylonref09_within.calls t.f22 0 36 _ _ A13.o).mono ?_);rintro e w' ⟨rfl,⟨nd,rfl⟩⟩))
               go_ret2
               exact⟨rfl,aj HW.o (by repeat(first|(with_reducible first|exact HB.o|apply ae|apply aa|apply af)|exact HB.o))⟩
              |true=>
               rw[if_neg (by simp)] at H
               have HH:=ag.mk H
               clear H
               go_upto_region 19 with (first|(go_at_call 23;(with_reducible refine(pylonref09_within.calls t.f19 0 10000000 _ _ A10.o).mono ?_);rintro e w' ⟨rfl,⟨nd,rfl⟩⟩)|(go_at_call 23;(with_reducible refine(pylonref09_within.calls t.f21 0 100 _ _ A12.o).mono ?_);rintro e w' ⟨rfl,⟨nd,rfl⟩⟩)|(go_at_call 23;(with_reducible refine(pylonref09_within.calls t.f22 0 36 _ _ A13.o).mono ?_);rintro e w' ⟨rfl,⟨nd,rfl⟩⟩))
               have H:=HH.o
               clear HH A10 A12 A13
               obtain⟨x14,A14,H⟩:=Option.bind_eq_some_iff.mp H
               replace A14:=ag.mk A14
               cases x14 with
               |false=>
                rw[if_pos rfl] at H
                obtain⟨rfl,rfl⟩:=Prod.mk.inj (Option.some.inj H)
                clear H
                go_wp2_with (first|(go_at_call 23;(with_reducible refine(pylonref09_within.calls t.f23 0 10000000 _ _ A14.o).mono ?_);rintro e w' ⟨rfl,⟨nd,rfl⟩⟩))
                go_ret2
                exact⟨rfl,aj HW.o (by repeat(first|(with_reducible first|exact HB.o|apply ae|apply aa|apply af)|exact HB.o))⟩
               |true=>
                rw[if_neg (by simp)] at H
                obtain⟨x15,A15,H⟩:=Option.bind_eq_some_iff.mp H
                replace A15:=ag.mk A15
                cases x15 with
                |false=>
                 rw[if_pos rfl] at H
                 obtain⟨rfl,rfl⟩:=Prod.mk.inj (Option.some.inj H)
                 clear H
                 go_wp2_with (first|(go_at_call 23;(with_reducible refine(pylonref09_within.calls t.f23 0 10000000 _ _ A14.o).mono ?_);rintro e w' ⟨rfl,⟨nd,rfl⟩⟩)|(go_at_call 23;(with_reducible refine(pylonref09_within.calls t.f24 0 36 _ _ A15.o).mono ?_);rintro e w' ⟨rfl,⟨nd,rfl⟩⟩))
                 go_ret2
                 exact⟨rfl,aj HW.o (by repeat(first|(with_reducible first|exact HB.o|apply ae|apply aa|apply af)|exact HB.o))⟩
                |true=>
                 rw[if_neg (by simp)] at H
                 have HH:=ag.mk H
                 clear H
                 go_upto_region 21 with (first|(go_at_call 23;(with_reducible refine(pylonref09_within.calls t.f23 0 10000000 _ _ A14.o).mono ?_);rintro e w' ⟨rfl,⟨nd,rfl⟩⟩)|(go_at_call 23;(with_reducible refine(pylonref09_within.calls t.f24 0 36 _ _ A15.o).mono ?_);rintro e w' ⟨rfl,⟨nd,rfl⟩⟩))
                 have H:=HH.o
                 clear HH A14 A15
                 obtain⟨x16,A16,H⟩:=Option.bind_eq_some_iff.mp H
                 replace A16:=ag.mk A16
                 cases x16 with
                 |false=>
                  rw[if_pos rfl] at H
                  obtain⟨rfl,rfl⟩:=Prod.mk.inj (Option.some.inj H)
                  clear H
                  go_wp2_with (first|(go_at_call 23;(with_reducible refine(pylonref09_within.calls t.f25 0 1000000000000 _ _ A16.o).mono ?_);rintro e w' ⟨rfl,⟨nd,rfl⟩⟩))
                  go_ret2
                  exact⟨rfl,aj HW.o (by repeat(first|(with_reducible first|exact HB.o|apply ae|apply aa|apply af)|exact HB.o))⟩
                 |true=>
                  rw[if_neg (by simp)] at H
                  obtain⟨x17,A17,H⟩:=Option.bind_eq_some_iff.mp H
                  replace A17:=ag.mk A17
                  cases x17 with
                  |false=>
                   rw[if_pos rfl] at H
                   obtain⟨rfl,rfl⟩:=Prod.mk.inj (Option.some.inj H)
                   clear H
                   go_wp2_with (first|(go_at_call 23;(with_reducible refine(pylonref09_within.calls t.f25 0 1000000000000 _ _ A16.o).mono ?_);rintro e w' ⟨rfl,⟨nd,rfl⟩⟩)|(go_at_call 23;(with_reducible refine(pylonref09_within.calls t.f26 0 1000000000000 _ _ A17.o).mono ?_);rintro e w' ⟨rfl,⟨nd,rfl⟩⟩))
                   go_ret2
                   exact⟨rfl,aj HW.o (by repeat(first|(with_reducible first|exact HB.o|apply ae|apply aa|apply af)|exact HB.o))⟩
                  |true=>
                   rw[if_neg (by simp)] at H
                   obtain⟨x18,A18,H⟩:=Option.bind_eq_some_iff.mp H
                   replace A18:=ag.mk A18
                   cases x18 with
                   |false=>
                    rw[if_pos rfl] at H
                    obtain⟨rfl,rfl⟩:=Prod.mk.inj (Option.some.inj H)
                    clear H
                    go_wp2_with (first|(go_at_call 23;(with_reducible refine(pylonref09_within.calls t.f25 0 1000000000000 _ _ A16.o).mono ?_);rintro e w' ⟨rfl,⟨nd,rfl⟩⟩)|(go_at_call 23;(with_reducible refine(pylonref09_within.calls t.f26 0 1000000000000 _ _ A17.o).mono ?_);rintro e w' ⟨rfl,⟨nd,rfl⟩⟩)|(go_at_call 23;(with_reducible refine(pylonref09_within.calls t.f27 0 100000 _ _ A18.o).mono ?_);rintro e w' ⟨rfl,⟨nd,rfl⟩⟩))
                    go_ret2
                    exact⟨rfl,aj HW.o (by repeat(first|(with_reducible first|exact HB.o|apply ae|apply aa|apply af)|exact HB.o))⟩
                   |true=>
                    rw[if_neg (by simp)] at H
                    obtain⟨rfl,rfl⟩:=Prod.mk.inj (Option.some.inj H)
                    clear H
                    go_wp2_with (first|(go_at_call 23;(with_reducible refine(pylonref09_within.calls t.f25 0 1000000000000 _ _ A16.o).mono ?_);rintro e w' ⟨rfl,⟨nd,rfl⟩⟩)|(go_at_call 23;(with_reducible refine(pylonref09_within.calls t.f26 0 1000000000000 _ _ A17.o).mono ?_);rintro e w' ⟨rfl,⟨nd,rfl⟩⟩)|(go_at_call 23;(with_reducible refine(pylonref09_within.calls t.f27 0 100000 _ _ A18.o).mono ?_);rintro e w' ⟨rfl,⟨nd,rfl⟩⟩))
                    go_ret2
                    exact⟨rfl,aj HW.o (by repeat(first|(with_reducible first|exact HB.o|apply ae|apply aa|apply af)|exact HB.o))⟩
            ·have bm1:(t.f20 != 15)=true:=bne_iff_ne.mpr hm1
             by_cases hm2:t.f20=30
             ·rw[if_neg (by omega)] at H
              have bm2:(t.f20 != 30)=false:=bne_eq_false_iff_eq.mpr hm2
              clear hm1 hm2
              obtain⟨x12,A12,H⟩:=Option.bind_eq_some_iff.mp H
              replace A12:=ag.mk A12
              cases x12 with
              |false=>
               rw[if_pos rfl] at H
               obtain⟨rfl,rfl⟩:=Prod.mk.inj (Option.some.inj H)
               clear H
               go_wp2_with (first|(go_at_call 23;(with_reducible refine(pylonref09_within.calls t.f19 0 10000000 _ _ A10.o).mono ?_);rintro e w' ⟨rfl,⟨nd,rfl⟩⟩)|(go_at_call 23;(with_reducible refine(pylonref09_within.calls t.f21 0 100 _ _ A12.o).mono ?_);rintro e w' ⟨rfl,⟨nd,rfl⟩⟩))
               go_ret2
               exact⟨rfl,aj HW.o (by repeat(first|(with_reducible first|exact HB.o|apply ae|apply aa|apply af)|exact HB.o))⟩
              |true=>
               rw[if_neg (by simp)] at H
               obtain⟨x13,A13,H⟩:=Option.bind_eq_some_iff.mp H
               replace A13:=ag.mk A13
               cases x13 with
               |false=>
                rw[if_pos rfl] at H
                obtain⟨rfl,rfl⟩:=Prod.mk.inj (Option.some.inj H)
                clear H
                go_wp2_with (first|(go_at_call 23;(with_reducible refine(pylonref09_within.calls t.f19 0 10000000 _ _ A10.o).mono ?_);rintro e w' ⟨rfl,⟨nd,rfl⟩⟩)|(go_at_call 23;(with_reducible refine(pylonref09_within.calls t.f21 0 100 _ _ A12.o).mono ?_);rintro e w' ⟨rfl,⟨nd,rfl⟩⟩)|(go_at_call 23;(with_reducible refine(pylonref09_within.calls t.f22 0 36 _ _ A13.o).mono ?_);rintro e w' ⟨rfl,⟨nd,rfl⟩⟩))
                go_ret2
                exact⟨rfl,aj HW.o (by repeat(first|(with_reducible first|exact HB.o|apply ae|apply aa|apply af)|exact HB.o))⟩
               |true=>
                rw[if_neg (by simp)] at H
                have HH:=ag.mk H
                clear H
                go_upto_region 19 with (first|(go_at_call 23;(with_reducible refine(pylonref09_within.calls t.f19 0 10000000 _ _ A10.o).mono ?_);rintro e w' ⟨rfl,⟨nd,rfl⟩⟩)|(go_at_call 23;(with_reducible refine(pylonref09_within.calls t.f21 0 100 _ _ A12.o).mono ?_);rintro e w' ⟨rfl,⟨nd,rfl⟩⟩)|(go_at_call 23;(with_reducible refine(pylonref09_within.calls t.f22 0 36 _ _ A13.o).mono ?_);rintro e w' ⟨rfl,⟨nd,rfl⟩⟩))
                have H:=HH.o
                clear HH A10 A12 A13
                obtain⟨x14,A14,H⟩:=Option.bind_eq_some_iff.mp H
                replace A14:=ag.mk A14
                cases x14 with
                |false=>
                 rw[if_pos rfl] at H
                 obtain⟨rfl,rfl⟩:=Prod.mk.inj (Option.some.inj H)
                 clear H
                 go_wp2_with (first|(go_at_call 23;(with_reducible refine(pylonref09_within.calls t.f23 0 10000000 _ _ A14.o).mono ?_);rintro e w' ⟨rfl,⟨nd,rfl⟩⟩))
                 go_ret2
                 exact⟨rfl,aj HW.o (by repeat(first|(with_reducible first|exact HB.o|apply ae|apply aa|apply af)|exact HB.o))⟩
                |true=>
                 rw[if_neg (by simp)] at H
                 obtain⟨x15,A15,H⟩:=Option.bind_eq_some_iff.mp H
                 replace A15:=ag.mk A15
                 cases x15 with
                 |false=>
                  rw[if_pos rfl] at H
                  obtain⟨rfl,rfl⟩:=Prod.mk.inj (Option.some.inj H)
                  clear H
                  go_wp2_with (first|(go_at_call 23;(with_reducible refine(pylonref09_within.calls t.f23 0 10000000 _ _ A14.o).mono ?_);rintro e w' ⟨rfl,⟨nd,rfl⟩⟩)|(go_at_call 23;(with_reducible refine(pylonref09_within.calls t.f24 0 36 _ _ A15.o).mono ?_);rintro e w' ⟨rfl,⟨nd,rfl⟩⟩))
                  go_ret2
                  exact⟨rfl,aj HW.o (by repeat(first|(with_reducible first|exact HB.o|apply ae|apply aa|apply af)|exact HB.o))⟩
                 |true=>
                  rw[if_neg (by simp)] at H
                  have HH:=ag.mk H
                  clear H
                  go_upto_region 21 with (first|(go_at_call 23;(with_reducible refine(pylonref09_within.calls t.f23 0 10000000 _ _ A14.o).mono ?_);rintro e w' ⟨rfl,⟨nd,rfl⟩⟩)|(go_at_call 23;(with_reducible refine(pylonref09_within.calls t.f24 0 36 _ _ A15.o).mono ?_);rintro e w' ⟨rfl,⟨nd,rfl⟩⟩))
                  have H:=HH.o
                  clear HH A14 A15
                  obtain⟨x16,A16,H⟩:=Option.bind_eq_some_iff.mp H
                  replace A16:=ag.mk A16
                  cases x16 with
                  |false=>
                   rw[if_pos rfl] at H
                   obtain⟨rfl,rfl⟩:=Prod.mk.inj (Option.some.inj H)
                   clear H
                   go_wp2_with (first|(go_at_call 23;(with_reducible refine(pylonref09_within.calls t.f25 0 1000000000000 _ _ A16.o).mono ?_);rintro e w' ⟨rfl,⟨nd,rfl⟩⟩))
                   go_ret2
                   exact⟨rfl,aj HW.o (by repeat(first|(with_reducible first|exact HB.o|apply ae|apply aa|apply af)|exact HB.o))⟩
                  |true=>
                   rw[if_neg (by simp)] at H
                   obtain⟨x17,A17,H⟩:=Option.bind_eq_some_iff.mp H
                   replace A17:=ag.mk A17
                   cases x17 with
                   |false=>
                    rw[if_pos rfl] at H
                    obtain⟨rfl,rfl⟩:=Prod.mk.inj (Option.some.inj H)
                    clear H
                    go_wp2_with (first|(go_at_call 23;(with_reducible refine(pylonref09_within.calls t.f25 0 1000000000000 _ _ A16.o).mono ?_);rintro e w' ⟨rfl,⟨nd,rfl⟩⟩)|(go_at_call 23;(with_reducible refine(pylonref09_within.calls t.f26 0 1000000000000 _ _ A17.o).mono ?_);rintro e w' ⟨rfl,⟨nd,rfl⟩⟩))
                    go_ret2
                    exact⟨rfl,aj HW.o (by repeat(first|(with_reducible first|exact HB.o|apply ae|apply aa|apply af)|exact HB.o))⟩
                   |true=>
                    rw[if_neg (by simp)] at H
                    obtain⟨x18,A18,H⟩:=Option.bind_eq_some_iff.mp H
                    replace A18:=ag.mk A18
                    cases x18 with
                    |false=>
                     rw[if_pos rfl] at H
                     obtain⟨rfl,rfl⟩:=Prod.mk.inj (Option.some.inj H)
                     clear H
                     go_wp2_with (first|(go_at_call 23;(with_reducible refine(pylonref09_within.calls t.f25 0 1000000000000 _ _ A16.o).mono ?_);rintro e w' ⟨rfl,⟨nd,rfl⟩⟩)|(go_at_call 23;(with_reducible refine(pylonref09_within.calls t.f26 0 1000000000000 _ _ A17.o).mono ?_);rintro e w' ⟨rfl,⟨nd,rfl⟩⟩)|(go_at_call 23;(with_reducible refine(pylonref09_within.calls t.f27 0 100000 _ _ A18.o).mono ?_);rintro e w' ⟨rfl,⟨nd,rfl⟩⟩))
                     go_ret2
                     exact⟨rfl,aj HW.o (by repeat(first|(with_reducible first|exact HB.o|apply ae|apply aa|apply af)|exact HB.o))⟩
                    |true=>
                     rw[if_neg (by simp)] at H
                     obtain⟨rfl,rfl⟩:=Prod.mk.inj (Option.some.inj H)
                     clear H
                     go_wp2_with (first|(go_at_call 23;(with_reducible refine(pylonref09_within.calls t.f25 0 1000000000000 _ _ A16.o).mono ?_);rintro e w' ⟨rfl,⟨nd,rfl⟩⟩)|(go_at_call 23;(with_reducible refine(pylonref09_within.calls t.f26 0 1000000000000 _ _ A17.o).mono ?_);rintro e w' ⟨rfl,⟨nd,rfl⟩⟩)|(go_at_call 23;(with_reducible refine(pylonref09_within.calls t.f27 0 100000 _ _ A18.o).mono ?_);rintro e w' ⟨rfl,⟨nd,rfl⟩⟩))
                     go_ret2
                     exact⟨rfl,aj HW.o (by repeat(first|(with_reducible first|exact HB.o|apply ae|apply aa|apply af)|exact HB.o))⟩
             ·have bm2:(t.f20 != 30)=true:=bne_iff_ne.mpr hm2
              by_cases hm3:t.f20=60
              ·rw[if_neg (by omega)] at H
               have bm3:(t.f20 != 60)=false:=bne_eq_false_iff_eq.mpr hm3
               clear hm1 hm2 hm3
               obtain⟨x12,A12,H⟩:=Option.bind_eq_some_iff.mp H
               replace A12:=ag.mk A12
               cases x12 with
               |false=>
                rw[if_pos rfl] at H
                obtain⟨rfl,rfl⟩:=Prod.mk.inj (Option.some.inj H)
                clear H
                go_wp2_with (first|(go_at_call 23;(with_reducible refine(pylonref09_within.calls t.f19 0 10000000 _ _ A10.o).mono ?_);rintro e w' ⟨rfl,⟨nd,rfl⟩⟩)|(go_at_call 23;(with_reducible refine(pylonref09_within.calls t.f21 0 100 _ _ A12.o).mono ?_);rintro e w' ⟨rfl,⟨nd,rfl⟩⟩))
                go_ret2
                exact⟨rfl,aj HW.o (by repeat(first|(with_reducible first|exact HB.o|apply ae|apply aa|apply af)|exact HB.o))⟩
               |true=>
                rw[if_neg (by simp)] at H
                obtain⟨x13,A13,H⟩:=Option.bind_eq_some_iff.mp H
                replace A13:=ag.mk A13
                cases x13 with
                |false=>
                 rw[if_pos rfl] at H
                 obtain⟨rfl,rfl⟩:=Prod.mk.inj (Option.some.inj H)
                 clear H
                 go_wp2_with (first|(go_at_call 23;(with_reducible refine(pylonref09_within.calls t.f19 0 10000000 _ _ A10.o).mono ?_);rintro e w' ⟨rfl,⟨nd,rfl⟩⟩)|(go_at_call 23;(with_reducible refine(pylonref09_within.calls t.f21 0 100 _ _ A12.o).mono ?_);rintro e w' ⟨rfl,⟨nd,rfl⟩⟩)|(go_at_call 23;(with_reducible refine(pylonref09_within.calls t.f22 0 36 _ _ A13.o).mono ?_);rintro e w' ⟨rfl,⟨nd,rfl⟩⟩))
                 go_ret2
                 exact⟨rfl,aj HW.o (by repeat(first|(with_reducible first|exact HB.o|apply ae|apply aa|apply af)|exact HB.o))⟩
                |true=>
                 rw[if_neg (by simp)] at H
                 have HH:=ag.mk H
                 clear H
                 go_upto_region 19 with (first|(go_at_call 23;(with_reducible refine(pylonref09_within.calls t.f19 0 10000000 _ _ A10.o).mono ?_);rintro e w' ⟨rfl,⟨nd,rfl⟩⟩)|(go_at_call 23;(with_reducible refine(pylonref09_within.calls t.f21 0 100 _ _ A12.o).mono ?_);rintro e w' ⟨rfl,⟨nd,rfl⟩⟩)|(go_at_call 23;(with_reducible refine(pylonref09_within.calls t.f22 0 36 _ _ A13.o).mono ?_);rintro e w' ⟨rfl,⟨nd,rfl⟩⟩))
                 have H:=HH.o
                 clear HH A10 A12 A13
                 obtain⟨x14,A14,H⟩:=Option.bind_eq_some_iff.mp H
                 replace A14:=ag.mk A14
                 cases x14 with
                 |false=>
                  rw[if_pos rfl] at H
                  obtain⟨rfl,rfl⟩:=Prod.mk.inj (Option.some.inj H)
                  clear H
                  go_wp2_with (first|(go_at_call 23;(with_reducible refine(pylonref09_within.calls t.f23 0 10000000 _ _ A14.o).mono ?_);rintro e w' ⟨rfl,⟨nd,rfl⟩⟩))
                  go_ret2
                  exact⟨rfl,aj HW.o (by repeat(first|(with_reducible first|exact HB.o|apply ae|apply aa|apply af)|exact HB.o))⟩
                 |true=>
                  rw[if_neg (by simp)] at H
                  obtain⟨x15,A15,H⟩:=Option.bind_eq_some_iff.mp H
                  replace A15:=ag.mk A15
                  cases x15 with
                  |false=>
                   rw[if_pos rfl] at H
                   obtain⟨rfl,rfl⟩:=Prod.mk.inj (Option.some.inj H)
                   clear H
                   go_wp2_with (first|(go_at_call 23;(with_reducible refine(pylonref09_within.calls t.f23 0 10000000 _ _ A14.o).mono ?_);rintro e w' ⟨rfl,⟨nd,rfl⟩⟩)|(go_at_call 23;(with_reducible refine(pylonref09_within.calls t.f24 0 36 _ _ A15.o).mono ?_);rintro e w' ⟨rfl,⟨nd,rfl⟩⟩))
                   go_ret2
                   exact⟨rfl,aj HW.o (by repeat(first|(with_reducible first|exact HB.o|apply ae|apply aa|apply af)|exact HB.o))⟩
                  |true=>
                   rw[if_neg (by simp)] at H
                   have HH:=ag.mk H
                   clear H
                   go_upto_region 21 with (first|(go_at_call 23;(with_reducible refine(pylonref09_within.calls t.f23 0 10000000 _ _ A14.o).mono ?_);rintro e w' ⟨rfl,⟨nd,rfl⟩⟩)|(go_at_call 23;(with_reducible refine(pylonref09_within.calls t.f24 0 36 _ _ A15.o).mono ?_);rintro e w' ⟨rfl,⟨nd,rfl⟩⟩))
                   have H:=HH.o
                   clear HH A14 A15
                   obtain⟨x16,A16,H⟩:=Option.bind_eq_some_iff.mp H
                   replace A16:=ag.mk A16
                   cases x16 with
                   |false=>
                    rw[if_pos rfl] at H
                    obtain⟨rfl,rfl⟩:=Prod.mk.inj (Option.some.inj H)
                    clear H
                    go_wp2_with (first|(go_at_call 23;(with_reducible refine(pylonref09_within.calls t.f25 0 1000000000000 _ _ A16.o).mono ?_);rintro e w' ⟨rfl,⟨nd,rfl⟩⟩))
                    go_ret2
                    exact⟨rfl,aj HW.o (by repeat(first|(with_reducible first|exact HB.o|apply ae|apply aa|apply af)|exact HB.o))⟩
                   |true=>
                    rw[if_neg (by simp)] at H
                    obtain⟨x17,A17,H⟩:=Option.bind_eq_some_iff.mp H
                    replace A17:=ag.mk A17
                    cases x17 with
                    |false=>
                     rw[if_pos rfl] at H
                     obtain⟨rfl,rfl⟩:=Prod.mk.inj (Option.some.inj H)
                     clear H
                     go_wp2_with (first|(go_at_call 23;(with_reducible refine(pylonref09_within.calls t.f25 0 1000000000000 _ _ A16.o).mono ?_);rintro e w' ⟨rfl,⟨nd,rfl⟩⟩)|(go_at_call 23;(with_reducible refine(pylonref09_within.calls t.f26 0 1000000000000 _ _ A17.o).mono ?_);rintro e w' ⟨rfl,⟨nd,rfl⟩⟩))
                     go_ret2
                     exact⟨rfl,aj HW.o (by repeat(first|(with_reducible first|exact HB.o|apply ae|apply aa|apply af)|exact HB.o))⟩
                    |true=>
                     rw[if_neg (by simp)] at H
                     obtain⟨x18,A18,H⟩:=Option.bind_eq_some_iff.mp H
                     replace A18:=ag.mk A18
                     cases x18 with
                     |false=>
                      rw[if_pos rfl] at H
                      obtain⟨rfl,rfl⟩:=Prod.mk.inj (Option.some.inj H)
                      clear H
                      go_wp2_with (first|(go_at_call 23;(with_reducible refine(pylonref09_within.calls t.f25 0 1000000000000 _ _ A16.o).mono ?_);rintro e w' ⟨rfl,⟨nd,rfl⟩⟩)|(go_at_call 23;(with_reducible refine(pylonref09_within.calls t.f26 0 1000000000000 _ _ A17.o).mono ?_);rintro e w' ⟨rfl,⟨nd,rfl⟩⟩)|(go_at_call 23;(with_reducible refine(pylonref09_within.calls t.f27 0 100000 _ _ A18.o).mono ?_);rintro e w' ⟨rfl,⟨nd,rfl⟩⟩))
                      go_ret2
                      exact⟨rfl,aj HW.o (by repeat(first|(with_reducible first|exact HB.o|apply ae|apply aa|apply af)|exact HB.o))⟩
                     |true=>
                      rw[if_neg (by simp)] at H
                      obtain⟨rfl,rfl⟩:=Prod.mk.inj (Option.some.inj H)
                      clear H
                      go_wp2_with (first|(go_at_call 23;(with_reducible refine(pylonref09_within.calls t.f25 0 1000000000000 _ _ A16.o).mono ?_);rintro e w' ⟨rfl,⟨nd,rfl⟩⟩)|(go_at_call 23;(with_reducible refine(pylonref09_within.calls t.f26 0 1000000000000 _ _ A17.o).mono ?_);rintro e w' ⟨rfl,⟨nd,rfl⟩⟩)|(go_at_call 23;(with_reducible refine(pylonref09_within.calls t.f27 0 100000 _ _ A18.o).mono ?_);rintro e w' ⟨rfl,⟨nd,rfl⟩⟩))
                      go_ret2
                      exact⟨rfl,aj HW.o (by repeat(first|(with_reducible first|exact HB.o|apply ae|apply aa|apply af)|exact HB.o))⟩
              ·have bm3:(t.f20 != 60)=true:=bne_iff_ne.mpr hm3
               rw[if_pos ⟨hm1,hm2,hm3⟩] at H
               clear hm1 hm2 hm3
               obtain⟨rfl,rfl⟩:=Prod.mk.inj (Option.some.inj H)
               clear H
               go_wp2_with (first|(go_at_call 23;(with_reducible refine(pylonref09_within.calls t.f19 0 10000000 _ _ A10.o).mono ?_);rintro e w' ⟨rfl,⟨nd,rfl⟩⟩))
               go_ret2
               exact⟨rfl,aj HW.o (by repeat(first|(with_reducible first|exact HB.o|apply ae|apply aa|apply af)|exact HB.o))⟩
  ·have hzb:(x1 != 0)=true:=bne_iff_ne.mpr hz
   rw[if_pos hz] at H
   clear hz
   obtain⟨rfl,rfl⟩:=Prod.mk.inj (Option.some.inj H)
   clear H
   go_wp2_with (first|(go_at_call 21;(with_reducible refine(pylonref06_Name.calls k t.f0 _ _ A0.o).mono ?_);rintro e w' ⟨rfl,⟨nd,rfl⟩⟩)|(go_at_call 22;(with_reducible refine(pylonref04_Check.calls k t.f1 t.f2 t.f3 t.f4 t.f5 t.f6 t.f7 t.f8 t.f9 t.f10 _ _ A1.o).mono ?_);rintro e w' ⟨rfl,hb⟩;have n0_:=ag.mk (aj (by repeat(first|(with_reducible first|exact HB.o|apply ae|apply aa|apply af)|exact HB.o)) hb);clear HB;have HB:=n0_;clear n0_ hb;(try clear hc0);have hc0:=cqq HB.o HK0.o;(try clear hc1);have hc1:=cqq HB.o HK1.o;(try clear hc2);have hc2:=cqq HB.o HK2.o;(try clear hc3);have hc3:=cqq HB.o HK3.o;(try clear hc4);have hc4:=cqq HB.o HK4.o;(try clear hc5);have hc5:=cqq HB.o HK5.o;(try clear hc6);have hc6:=cqq HB.o HK6.o;(try clear hc7);have hc7:=cqq HB.o HK7.o;(try clear hc8);have hc8:=cqq HB.o HK8.o;(try clear hc9);have hc9:=cqq HB.o HK9.o;(try clear hc10);have hc10:=cqq HB.o HK10.o;(try clear hc11);have hc11:=cqq HB.o HK11.o;(try clear hc12);have hc12:=cqq HB.o HK12.o;(try clear hc13);have hc13:=cqq HB.o HK13.o;(try clear hc14);have hc14:=cqq HB.o HK14.o;(try clear hc15);have hc15:=cqq HB.o HK15.o;(try clear hc16);have hc16:=cqq HB.o HK16.o;(try clear hc17);have hc17:=cqq HB.o HK17.o;(try clear hc18);have hc18:=cqq HB.o HK18.o;(try clear hc19);have hc19:=cqq HB.o HK19.o;(try clear hc20);have hc20:=cqq HB.o HK20.o;(try clear hc21);have hc21:=cqq HB.o HK21.o;(try clear hc22);have hc22:=cqq HB.o HK22.o;(try clear hc23);have hc23:=cqq HB.o HK23.o;(try clear hc24);have hc24:=cqq HB.o HK24.o;(try clear hc25);have hc25:=cqq HB.o HK25.o;(try clear hc26);have hc26:=cqq HB.o HK26.o;(try clear hc27);have hc27:=cqq HB.o HK27.o;(try clear hd0);have hd0:=cqq HB.o HD0.o;(try clear hd1);have hd1:=cqq HB.o HD1.o;(try clear hd2);have hd2:=cqq HB.o HD2.o;(try clear hd3);have hd3:=cqq HB.o HD3.o;skip))
   go_ret2
   exact⟨rfl,aj HW.o (by repeat(first|(with_reducible first|exact HB.o|apply ae|apply aa|apply af)|exact HB.o))⟩
end Go.Proofs.YtcmhfcciapenfaaDoor.Pa
