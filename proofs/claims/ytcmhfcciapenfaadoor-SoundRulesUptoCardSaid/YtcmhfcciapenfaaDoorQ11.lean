/- A part of the proof. -/
import Derived.Test.YtcmhfcciapenfaaDoorQ05
set_option linter.all false
namespace Go.Proofs.YtcmhfcciapenfaaDoor.Pa
open Go.RowKit Go.Proofs.YtcmhfcciapenfaaDoorW.PrintWords Go.Proofs.YtcmhfcciapenfaaDoorW.PrintLast Go.Proofs.YtcmhfcciapenfaaDoorW.PrintMore
attribute [local go_sem] bJ bL bU bV bA bB bM bN
def civil_leap.f (a0:Int):Option (Bool):=if (Int.tmod a0 4)=0 then (if (Int.tmod a0 100)=0 then (some ((Int.tmod a0 400) == 0)) else (some true)) else (some ((Int.tmod a0 400) == 0))
set_option maxHeartbeats 8000000 in
set_option maxRecDepth 100000 in
theorem civil_leap.calls (a0:Int) (r:Bool) (w:World) (h:civil_leap.f a0=some r) :
  Calls Tryd.prog 70 #[.int .i64 a0] w fun e w'=>e = .returned (.bool r)∧aQ w w':=by
 have H:(if (Int.tmod a0 4)=0 then (if (Int.tmod a0 100)=0 then (some ((Int.tmod a0 400) == 0)) else (some true)) else (some ((Int.tmod a0 400) == 0)))=some r:=h
 clear h
 by_cases c2:(Int.tmod a0 4)=0
 ·rw[if_pos c2] at H
  have c2b0:((Int.tmod a0 4) == 0)=true:=beq_iff_eq.mpr c2
  have c2b1:((Int.tmod a0 4) != 0)=false:=bne_eq_false_iff_eq.mpr c2
  clear c2
  by_cases c3:(Int.tmod a0 100)=0
  ·rw[if_pos c3] at H
   have c3b0:((Int.tmod a0 100) == 0)=true:=beq_iff_eq.mpr c3
   have c3b1:((Int.tmod a0 100) != 0)=false:=bne_eq_false_iff_eq.mpr c3
   clear c3
   obtain rfl:=Option.some.inj H
   go_enter Tryd.func70,Tryd.ntmps70
   go_wp2
   go_ret
   exact⟨by first|rfl|(simp;done)|(simp[*];done),by repeat(first|exact aQ.refl _|apply aQ.step)⟩
  ·rw[if_neg c3] at H
   have c3b0:((Int.tmod a0 100) == 0)=false:=beq_eq_false_iff_ne.mpr c3
   have c3b1:((Int.tmod a0 100) != 0)=true:=bne_iff_ne.mpr c3
   obtain rfl:=Option.some.inj H
   go_enter Tryd.func70,Tryd.ntmps70
   go_wp2
   go_ret
   exact⟨by first|rfl|(simp;done)|(simp[*];done),by repeat(first|exact aQ.refl _|apply aQ.step)⟩
 ·rw[if_neg c2] at H
  have c2b0:((Int.tmod a0 4) == 0)=false:=beq_eq_false_iff_ne.mpr c2
  have c2b1:((Int.tmod a0 4) != 0)=true:=bne_iff_ne.mpr c2
  obtain rfl:=Option.some.inj H
  go_enter Tryd.func70,Tryd.ntmps70
  go_wp2
  go_ret
  exact⟨by first|rfl|(simp;done)|(simp[*];done),by repeat(first|exact aQ.refl _|apply aQ.step)⟩
def civil_Length.days (m:Int):Int:=if m=2 then 28 else if m=4 then 30 else if m=6 then 30 else if m=9 then 30 else if m=11 then 30 else 31
def civil_Length.f (a0:Int) (a1:Int):Option (Int × Int):=if a0 < 1 then (some (0,5)) else (if a0 > 9999 then (some (0,5)) else (if a1 < 1 then (some (0,5)) else (if a1 > 12 then (some (0,5)) else (if a1=2 then ((civil_leap.f a0).bind fun t=>(if t=true then (some (29,0)) else (some (28,0)))) else (some (civil_Length.days a1,0))))))
set_option maxRecDepth 100000 in
set_option maxHeartbeats 2000000 in
theorem civil_Length.calls (a0:Int) (a1:Int) (r1:Int) (r2:Int) (w:World) (h:civil_Length.f a0 a1=some (r1,r2)) :
  Calls Tryd.prog 54 #[.int .i64 a0,.int .i64 a1] w fun e w'=>e = .returned (.tuple #[.int .i64 r1,.int .i64 r2])∧aQ w w':=by
 unfold civil_Length.f at h
 by_cases c1:a0 < 1
 ·rw[if_pos c1] at h
  obtain⟨rfl,rfl⟩:=Prod.mk.inj (Option.some.inj h)
  have b1:decide (a0 < 1)=true:=decide_eq_true c1
  clear c1 h
  go_enter Tryd.func54,Tryd.ntmps54
  go_wp2
  go_ret2
  exact⟨by first|rfl|(simp;done)|(simp[*];done),by repeat(first|exact aQ.refl _|apply aQ.step)⟩
 ·rw[if_neg c1] at h
  have b1:decide (a0 < 1)=false:=decide_eq_false c1
  clear c1
  by_cases c2:a0 > 9999
  ·rw[if_pos c2] at h
   obtain⟨rfl,rfl⟩:=Prod.mk.inj (Option.some.inj h)
   have b2:decide (9999 < a0)=true:=decide_eq_true c2
   clear c2 h
   go_enter Tryd.func54,Tryd.ntmps54
   go_wp2
   go_ret2
   exact⟨by first|rfl|(simp;done)|(simp[*];done),by repeat(first|exact aQ.refl _|apply aQ.step)⟩
  ·rw[if_neg c2] at h
   have b2:decide (9999 < a0)=false:=decide_eq_false c2
   clear c2
   by_cases c3:a1 < 1
   ·rw[if_pos c3] at h
    obtain⟨rfl,rfl⟩:=Prod.mk.inj (Option.some.inj h)
    have b3:decide (a1 < 1)=true:=decide_eq_true c3
    clear c3 h
    go_enter Tryd.func54,Tryd.ntmps54
    go_wp2
    go_ret2
    exact⟨by first|rfl|(simp;done)|(simp[*];done),by repeat(first|exact aQ.refl _|apply aQ.step)⟩
   ·rw[if_neg c3] at h
    by_cases c4:a1 > 12
    ·rw[if_pos c4] at h
     obtain⟨rfl,rfl⟩:=Prod.mk.inj (Option.some.inj h)
     have b3:decide (a1 < 1)=false:=decide_eq_false c3
     have b4:decide (12 < a1)=true:=decide_eq_true c4
     clear c3 c4 h
     go_enter Tryd.func54,Tryd.ntmps54
     go_wp2
     go_ret2
     exact⟨by first|rfl|(simp;done)|(simp[*];done),by repeat(first|exact aQ.refl _|apply aQ.step)⟩
    ·rw[if_neg c4] at h
     by_cases c5:a1=2
     ·rw[if_pos c5] at h
      subst c5
      obtain⟨t,A0,h⟩:=Option.bind_eq_some_iff.mp h
      have A1:=ag.mk A0
      clear A0 c3 c4
      cases t with
      |true=>
       obtain⟨rfl,rfl⟩:=Prod.mk.inj (Option.some.inj h)
       clear h
       go_enter Tryd.func54,Tryd.ntmps54
       go_wp2_with (go_at_call 70;(with_reducible refine(civil_leap.calls a0 true _ A1.o).mono ?_);rintro e w' ⟨rfl,⟨nd,rfl⟩⟩)
       go_ret2
       exact⟨by first|rfl|(simp;done)|(simp[*];done),by repeat(first|exact aQ.refl _|apply aQ.step)⟩
      |false=>
       obtain⟨rfl,rfl⟩:=Prod.mk.inj (Option.some.inj h)
       clear h
       have hx : ∀ w:World,Sem.run Tryd.prog (Instr.index 112 (.agg #[.int .i64 31,.int .i64 28,.int .i64 31,.int .i64 30,.int .i64 31,.int .i64 30,.int .i64 31,.int .i64 31,.int .i64 30,.int .i64 31,.int .i64 30,.int .i64 31]) (.int .i64 1)) w=Result.ok (.int .i64 28) w:=fun w=>by kernel_rfl
       go_enter Tryd.func54,Tryd.ntmps54
       go_wp2_with (go_at_call 70;(with_reducible refine(civil_leap.calls a0 false _ A1.o).mono ?_);rintro e w' ⟨rfl,⟨nd,rfl⟩⟩)
       go_ret2
       exact⟨by first|rfl|(simp;done)|(simp[*];done),by repeat(first|exact aQ.refl _|apply aQ.step)⟩
     ·rw[if_neg c5] at h
      have hm:a1=1∨a1=3∨a1=4∨a1=5∨a1=6∨a1=7∨a1=8∨a1=9∨a1=10∨a1=11∨a1=12:=by omega
      clear c3 c4 c5
      obtain⟨e1,rfl⟩:=Prod.mk.inj (Option.some.inj h)
      clear h
      rcases hm with rfl|rfl|rfl|rfl|rfl|rfl|rfl|rfl|rfl|rfl|rfl
      ·subst e1
       have hx : ∀ w:World,Sem.run Tryd.prog (Instr.index 112 (.agg #[.int .i64 31,.int .i64 28,.int .i64 31,.int .i64 30,.int .i64 31,.int .i64 30,.int .i64 31,.int .i64 31,.int .i64 30,.int .i64 31,.int .i64 30,.int .i64 31]) (.int .i64 0)) w=Result.ok (.int .i64 31) w:=fun w=>by kernel_rfl
       go_enter Tryd.func54,Tryd.ntmps54
       go_wp2
       go_ret2
       exact⟨by first|rfl|(simp;done)|(simp[*];done),by repeat(first|exact aQ.refl _|apply aQ.step)⟩
      ·subst e1
       have hx : ∀ w:World,Sem.run Tryd.prog (Instr.index 112 (.agg #[.int .i64 31,.int .i64 28,.int .i64 31,.int .i64 30,.int .i64 31,.int .i64 30,.int .i64 31,.int .i64 31,.int .i64 30,.int .i64 31,.int .i64 30,.int .i64 31]) (.int .i64 2)) w=Result.ok (.int .i64 31) w:=fun w=>by kernel_rfl
       go_enter Tryd.func54,Tryd.ntmps54
       go_wp2
       go_ret2
       exact⟨by first|rfl|(simp;done)|(simp[*];done),by repeat(first|exact aQ.refl _|apply aQ.step)⟩
      ·subst e1
       have hx : ∀ w:World,Sem.run Tryd.prog (Instr.index 112 (.agg #[.int .i64 31,.int .i64 28,.int .i64 31,.int .i64 30,.int .i64 31,.int .i64 30,.int .i64 31,.int .i64 31,.int .i64 30,.int .i64 31,.int .i64 30,.int .i64 31]) (.int .i64 3)) w=Result.ok (.int .i64 30) w:=fun w=>by kernel_rfl
       go_enter Tryd.func54,Tryd.ntmps54
       go_wp2
       go_ret2
       exact⟨by first|rfl|(simp;done)|(simp[*];done),by repeat(first|exact aQ.refl _|apply aQ.step)⟩
      ·subst e1
       have hx : ∀ w:World,Sem.run Tryd.prog (Instr.index 112 (.agg #[.int .i64 31,.int .i64 28,.int .i64 31,.int .i64 30,.int .i64 31,.int .i64 30,.int .i64 31,.int .i64 31,.int .i64 30,.int .i64 31,.int .i64 30,.int .i64 31]) (.int .i64 4)) w=Result.ok (.int .i64 31) w:=fun w=>by kernel_rfl
       go_enter Tryd.func54,Tryd.ntmps54
       go_wp2
       go_ret2
       exact⟨by first|rfl|(simp;done)|(simp[*];done),by repeat(first|exact aQ.refl _|apply aQ.step)⟩
      ·subst e1
       have hx : ∀ w:World,Sem.run Tryd.prog (Instr.index 112 (.agg #[.int .i64 31,.int .i64 28,.int .i64 31,.int .i64 30,.int .i64 31,.int .i64 30,.int .i64 31,.int .i64 31,.int .i64 30,.int .i64 31,.int .i64 30,.int .i64 31]) (.int .i64 5)) w=Result.ok (.int .i64 30) w:=fun w=>by kernel_rfl
       go_enter Tryd.func54,Tryd.ntmps54
       go_wp2
       go_ret2
       exact⟨by first|rfl|(simp;done)|(simp[*];done),by repeat(first|exact aQ.refl _|apply aQ.step)⟩
      ·subst e1
       have hx : ∀ w:World,Sem.run Tryd.prog (Instr.index 112 (.agg #[.int .i64 31,.int .i64 28,.int .i64 31,.int .i64 30,.int .i64 31,.int .i64 30,.int .i64 31,.int .i64 31,.int .i64 30,.int .i64 31,.int .i64 30,.int .i64 31]) (.int .i64 6)) w=Result.ok (.int .i64 31) w:=fun w=>by kernel_rfl
       go_enter Tryd.func54,Tryd.ntmps54
       go_wp2
       go_ret2
       exact⟨by first|rfl|(simp;done)|(simp[*];done),by repeat(first|exact aQ.refl _|apply aQ.step)⟩
      ·subst e1
       have hx : ∀ w:World,Sem.run Tryd.prog (Instr.index 112 (.agg #[.int .i64 31,.int .i64 28,.int .i64 31,.int .i64 30,.int .i64 31,.int .i64 30,.int .i64 31,.int .i64 31,.int .i64 30,.int .i64 31,.int .i64 30,.int .i64 31]) (.int .i64 7)) w=Result.ok (.int .i64 31) w:=fun w=>by kernel_rfl
       go_enter Tryd.func54,Tryd.ntmps54
       go_wp2
       go_ret2
       exact⟨by first|rfl|(simp;done)|(simp[*];done),by repeat(first|exact aQ.refl _|apply aQ.step)⟩
      ·subst e1
       have hx : ∀ w:World,Sem.run Tryd.prog (Instr.index 112 (.agg #[.int .i64 31,.int .i64 28,.int .i64 31,.int .i64 30,.int .i64 31,.int .i64 30,.int .i64 31,.int .i64 31,.int .i64 30,.int .i64 31,.int .i64 30,.int .i64 31]) (.int .i64 8)) w=Result.ok (.int .i64 30) w:=fun w=>by kernel_rfl
       go_enter Tryd.func54,Tryd.ntmps54
       go_wp2
       go_ret2
       exact⟨by first|rfl|(simp;done)|(simp[*];done),by repeat(first|exact aQ.refl _|apply aQ.step)⟩
      ·subst e1
       have hx : ∀ w:World,Sem.run Tryd.prog (Instr.index 112 (.agg #[.int .i64 31,.int .i64 28,.int .i64 31,.int .i64 30,.int .i64 31,.int .i64 30,.int .i64 31,.int .i64 31,.int .i64 30,.int .i64 31,.int .i64 30,.int .i64 31]) (.int .i64 9)) w=Result.ok (.int .i64 31) w:=fun w=>by kernel_rfl
       go_enter Tryd.func54,Tryd.ntmps54
       go_wp2
       go_ret2
       exact⟨by first|rfl|(simp;done)|(simp[*];done),by repeat(first|exact aQ.refl _|apply aQ.step)⟩
      ·subst e1
       have hx : ∀ w:World,Sem.run Tryd.prog (Instr.index 112 (.agg #[.int .i64 31,.int .i64 28,.int .i64 31,.int .i64 30,.int .i64 31,.int .i64 30,.int .i64 31,.int .i64 31,.int .i64 30,.int .i64 31,.int .i64 30,.int .i64 31]) (.int .i64 10)) w=Result.ok (.int .i64 30) w:=fun w=>by kernel_rfl
       go_enter Tryd.func54,Tryd.ntmps54
       go_wp2
       go_ret2
       exact⟨by first|rfl|(simp;done)|(simp[*];done),by repeat(first|exact aQ.refl _|apply aQ.step)⟩
      ·subst e1
       have hx : ∀ w:World,Sem.run Tryd.prog (Instr.index 112 (.agg #[.int .i64 31,.int .i64 28,.int .i64 31,.int .i64 30,.int .i64 31,.int .i64 30,.int .i64 31,.int .i64 31,.int .i64 30,.int .i64 31,.int .i64 30,.int .i64 31]) (.int .i64 11)) w=Result.ok (.int .i64 31) w:=fun w=>by kernel_rfl
       go_enter Tryd.func54,Tryd.ntmps54
       go_wp2
       go_ret2
       exact⟨by first|rfl|(simp;done)|(simp[*];done),by repeat(first|exact aQ.refl _|apply aQ.step)⟩
def civil_good.f (a0_0:Int) (a0_1:Int) (a0_2:Int):Option (Bool):=(civil_Length.f a0_0 a0_1).bind fun bt102=>(if bt102.2=0 then (if a0_2≥1 then (some (decide (a0_2≤bt102.1))) else (some false)) else (some false))
set_option maxHeartbeats 8000000 in
set_option maxRecDepth 100000 in
theorem civil_good.calls (a0_0:Int) (a0_1:Int) (a0_2:Int) (r:Bool) (w:World) (h:civil_good.f a0_0 a0_1 a0_2=some r) :
  Calls Tryd.prog 56 #[.agg #[.int .i64 a0_0,.int .i64 a0_1,.int .i64 a0_2]] w fun e w'=>e = .returned (.bool r)∧Below w.heap.size w w':=by
 have hu68:=Tryd.underlying68
 have HB:=ag.mk (Below.refl w.heap.size w)
 have H:((civil_Length.f a0_0 a0_1).bind fun bt102=>(if bt102.2=0 then (if a0_2≥1 then (some (decide (a0_2≤bt102.1))) else (some false)) else (some false)))=some r:=h
 clear h
 replace H:=Option.bind_eq_some_iff.mp H
 obtain⟨⟨t102,t103⟩,A20,H⟩:=H
 replace H:(if t103=0 then (if a0_2≥1 then (some (decide (a0_2≤t102))) else (some false)) else (some false))=some r:=H
 have A2:=ag.mk A20
 clear A20
 by_cases c3:t103=0
 ·rw[if_pos c3] at H
  have c3b0:(t103 == 0)=true:=beq_iff_eq.mpr c3
  have c3b1:(t103 != 0)=false:=bne_eq_false_iff_eq.mpr c3
  clear c3
  by_cases c4:a0_2≥1
  ·rw[if_pos c4] at H
   have c4b0:decide (1≤a0_2)=true:=decide_eq_true c4
   clear c4
   obtain rfl:=Option.some.inj H
   go_enter Tryd.func56,Tryd.ntmps56
   go_wp2_with (first|((with_reducible refine aI (N:=1) rfl ?_);refine aH ?hg (N:=1) ?hd (cs:=#[.int .i64 a0_0,.int .i64 a0_1,.int .i64 a0_2]) (t:=68) ?hr ?_;(case hd=>rfl);(case hg=>rfl);(case hr=>first|(go_simp;done)|(go_simp;rfl));intro gb101 hg w5 hbox hb;have n0_:=ag.mk (aj (by repeat(first|(with_reducible first|exact HB.o|apply ae|apply aa|apply af)|exact HB.o)) hb);have n1_:=ag.mk (hbox);have n2_:=ag.mk ((by rw[hg];exact(ak (by repeat(first|(with_reducible first|exact HB.o|apply ae|apply aa|apply af)|exact HB.o))):w.heap.size≤gb101));have n3_:=ag.mk ((by rw[hg];exact(ak (by repeat(first|(with_reducible first|exact HB.o|apply ae|apply aa|apply af)|exact HB.o))):w.heap.size≤gb101));clear HB;have HB:=n0_;have BK101:=n1_;have GW101:=n2_;have GE101:=n3_;clear n0_ n1_ n2_ n3_;clear hb hbox hg;have hcz6_0:w5.cell? ⟨gb101,0,none⟩=some (.int .i64 a0_0):=(ah BK101.o 0).trans rfl;have hcz6_1:w5.cell? ⟨gb101,1,none⟩=some (.int .i64 a0_1):=(ah BK101.o 1).trans rfl;have hcz6_2:w5.cell? ⟨gb101,2,none⟩=some (.int .i64 a0_2):=(ah BK101.o 2).trans rfl;have hfz6_0:=ai BK101.o 0;have hfz6_1:=ai BK101.o 1;have hfz6_2:=ai BK101.o 2)|((with_reducible refine aR (f:=54) rfl ?_);refine aZ (some 10) rfl rfl Tryd.func54 (by kernel_rfl) rfl #[.int .i64 a0_0,.int .i64 a0_1] rfl (by (try simp only[List.map_toArray,List.map_cons,List.map_nil]);first|done|rfl|(simp only[List.length_drop,List.length_take];rfl)) ?_;(with_reducible refine(civil_Length.calls a0_0 a0_1 t102 t103 _ A2.o).mono ?_);rintro e w' ⟨rfl,⟨nd,rfl⟩⟩;refine⟨_,rfl,?_⟩))
   go_ret
   exact⟨by first|rfl|(simp[ay,az] <;> rfl)|(simp[*,ay,az] <;> rfl),by repeat(first|(with_reducible first|exact HB.o|apply ae|apply aa|apply af|refine ax ?_ GE101.o)|exact HB.o)⟩
  ·rw[if_neg c4] at H
   have c4b0:decide (1≤a0_2)=false:=decide_eq_false c4
   clear c4
   obtain rfl:=Option.some.inj H
   go_enter Tryd.func56,Tryd.ntmps56
   go_wp2_with (first|((with_reducible refine aI (N:=1) rfl ?_);refine aH ?hg (N:=1) ?hd (cs:=#[.int .i64 a0_0,.int .i64 a0_1,.int .i64 a0_2]) (t:=68) ?hr ?_;(case hd=>rfl);(case hg=>rfl);(case hr=>first|(go_simp;done)|(go_simp;rfl));intro gb101 hg w7 hbox hb;have n0_:=ag.mk (aj (by repeat(first|(with_reducible first|exact HB.o|apply ae|apply aa|apply af)|exact HB.o)) hb);have n1_:=ag.mk (hbox);have n2_:=ag.mk ((by rw[hg];exact(ak (by repeat(first|(with_reducible first|exact HB.o|apply ae|apply aa|apply af)|exact HB.o))):w.heap.size≤gb101));have n3_:=ag.mk ((by rw[hg];exact(ak (by repeat(first|(with_reducible first|exact HB.o|apply ae|apply aa|apply af)|exact HB.o))):w.heap.size≤gb101));clear HB;have HB:=n0_;have BK101:=n1_;have GW101:=n2_;have GE101:=n3_;clear n0_ n1_ n2_ n3_;clear hb hbox hg;have hcz8_0:w7.cell? ⟨gb101,0,none⟩=some (.int .i64 a0_0):=(ah BK101.o 0).trans rfl;have hcz8_1:w7.cell? ⟨gb101,1,none⟩=some (.int .i64 a0_1):=(ah BK101.o 1).trans rfl;have hcz8_2:w7.cell? ⟨gb101,2,none⟩=some (.int .i64 a0_2):=(ah BK101.o 2).trans rfl;have hfz8_0:=ai BK101.o 0;have hfz8_1:=ai BK101.o 1;have hfz8_2:=ai BK101.o 2)|((with_reducible refine aR (f:=54) rfl ?_);refine aZ (some 10) rfl rfl Tryd.func54 (by kernel_rfl) rfl #[.int .i64 a0_0,.int .i64 a0_1] rfl (by (try simp only[List.map_toArray,List.map_cons,List.map_nil]);first|done|rfl|(simp only[List.length_drop,List.length_take];rfl)) ?_;(with_reducible refine(civil_Length.calls a0_0 a0_1 t102 t103 _ A2.o).mono ?_);rintro e w' ⟨rfl,⟨nd,rfl⟩⟩;refine⟨_,rfl,?_⟩))
   go_ret
   exact⟨by first|rfl|(simp[ay,az] <;> rfl)|(simp[*,ay,az] <;> rfl),by repeat(first|(with_reducible first|exact HB.o|apply ae|apply aa|apply af|refine ax ?_ GE101.o)|exact HB.o)⟩
 ·rw[if_neg c3] at H
  have c3b0:(t103 == 0)=false:=beq_eq_false_iff_ne.mpr c3
  have c3b1:(t103 != 0)=true:=bne_iff_ne.mpr c3
  obtain rfl:=Option.some.inj H
  go_enter Tryd.func56,Tryd.ntmps56
  go_wp2_with (first|((with_reducible refine aI (N:=1) rfl ?_);refine aH ?hg (N:=1) ?hd (cs:=#[.int .i64 a0_0,.int .i64 a0_1,.int .i64 a0_2]) (t:=68) ?hr ?_;(case hd=>rfl);(case hg=>rfl);(case hr=>first|(go_simp;done)|(go_simp;rfl));intro gb101 hg w9 hbox hb;have n0_:=ag.mk (aj (by repeat(first|(with_reducible first|exact HB.o|apply ae|apply aa|apply af)|exact HB.o)) hb);have n1_:=ag.mk (hbox);have n2_:=ag.mk ((by rw[hg];exact(ak (by repeat(first|(with_reducible first|exact HB.o|apply ae|apply aa|apply af)|exact HB.o))):w.heap.size≤gb101));have n3_:=ag.mk ((by rw[hg];exact(ak (by repeat(first|(with_reducible first|exact HB.o|apply ae|apply aa|apply af)|exact HB.o))):w.heap.size≤gb101));clear HB;have HB:=n0_;have BK101:=n1_;have GW101:=n2_;have GE101:=n3_;clear n0_ n1_ n2_ n3_;clear hb hbox hg;have hcz10_0:w9.cell? ⟨gb101,0,none⟩=some (.int .i64 a0_0):=(ah BK101.o 0).trans rfl;have hcz10_1:w9.cell? ⟨gb101,1,none⟩=some (.int .i64 a0_1):=(ah BK101.o 1).trans rfl;have hcz10_2:w9.cell? ⟨gb101,2,none⟩=some (.int .i64 a0_2):=(ah BK101.o 2).trans rfl;have hfz10_0:=ai BK101.o 0;have hfz10_1:=ai BK101.o 1;have hfz10_2:=ai BK101.o 2)|((with_reducible refine aR (f:=54) rfl ?_);refine aZ (some 10) rfl rfl Tryd.func54 (by kernel_rfl) rfl #[.int .i64 a0_0,.int .i64 a0_1] rfl (by (try simp only[List.map_toArray,List.map_cons,List.map_nil]);first|done|rfl|(simp only[List.length_drop,List.length_take];rfl)) ?_;(with_reducible refine(civil_Length.calls a0_0 a0_1 t102 t103 _ A2.o).mono ?_);rintro e w' ⟨rfl,⟨nd,rfl⟩⟩;refine⟨_,rfl,?_⟩))
  go_ret
  exact⟨by first|rfl|(simp[ay,az] <;> rfl)|(simp[*,ay,az] <;> rfl),by repeat(first|(with_reducible first|exact HB.o|apply ae|apply aa|apply af|refine ax ?_ GE101.o)|exact HB.o)⟩
def civil_Days.f (a0_0:Int) (a0_1:Int) (a0_2:Int):Option (Int × Int):=(civil_good.f a0_0 a0_1 a0_2).bind fun t105=>(if t105=true then (if (wrap64 (a0_1 - 3)) < 0 then (some (wrap64 ((wrap64 ((wrap64 ((wrap64 ((wrap64 ((wrap64 ((wrap64 ((wrap64 ((wrap64 (Int.tdiv (wrap64 (a0_0 - 1)) 400)) * 146097))+(wrap64 ((Int.tmod (wrap64 (a0_0 - 1)) 400) * 365))))+(wrap64 (Int.tdiv (Int.tmod (wrap64 (a0_0 - 1)) 400) 4)))) - (wrap64 (Int.tdiv (Int.tmod (wrap64 (a0_0 - 1)) 400) 100))))+(wrap64 (Int.tdiv (wrap64 ((wrap64 (153 * (wrap64 ((wrap64 (a0_1 - 3))+12))))+2)) 5))))+a0_2)) - 1)) - 719468),0)) else (some (wrap64 ((wrap64 ((wrap64 ((wrap64 ((wrap64 ((wrap64 ((wrap64 ((wrap64 ((wrap64 (Int.tdiv a0_0 400)) * 146097))+(wrap64 ((Int.tmod a0_0 400) * 365))))+(wrap64 (Int.tdiv (Int.tmod a0_0 400) 4)))) - (wrap64 (Int.tdiv (Int.tmod a0_0 400) 100))))+(wrap64 (Int.tdiv (wrap64 ((wrap64 (153 * (wrap64 (a0_1 - 3))))+2)) 5))))+a0_2)) - 1)) - 719468),0))) else (some (0,5)))
set_option maxHeartbeats 8000000 in
set_option maxRecDepth 100000 in
theorem civil_Days.calls (a0_0:Int) (a0_1:Int) (a0_2:Int) (r1:Int) (r2:Int) (w:World) (h:civil_Days.f a0_0 a0_1 a0_2=some (r1,r2)) :
  Calls Tryd.prog 49 #[.agg #[.int .i64 a0_0,.int .i64 a0_1,.int .i64 a0_2]] w fun e w'=>e = .returned (.tuple #[.int .i64 r1,.int .i64 r2])∧Below w.heap.size w w':=by
 have hu68:=Tryd.underlying68
 have HB:=ag.mk (Below.refl w.heap.size w)
 have H:((civil_good.f a0_0 a0_1 a0_2).bind fun t105=>(if t105=true then (if (wrap64 (a0_1 - 3)) < 0 then (some (wrap64 ((wrap64 ((wrap64 ((wrap64 ((wrap64 ((wrap64 ((wrap64 ((wrap64 ((wrap64 (Int.tdiv (wrap64 (a0_0 - 1)) 400)) * 146097))+(wrap64 ((Int.tmod (wrap64 (a0_0 - 1)) 400) * 365))))+(wrap64 (Int.tdiv (Int.tmod (wrap64 (a0_0 - 1)) 400) 4)))) - (wrap64 (Int.tdiv (Int.tmod (wrap64 (a0_0 - 1)) 400) 100))))+(wrap64 (Int.tdiv (wrap64 ((wrap64 (153 * (wrap64 ((wrap64 (a0_1 - 3))+12))))+2)) 5))))+a0_2)) - 1)) - 719468),0)) else (some (wrap64 ((wrap64 ((wrap64 ((wrap64 ((wrap64 ((wrap64 ((wrap64 ((wrap64 ((wrap64 (Int.tdiv a0_0 400)) * 146097))+(wrap64 ((Int.tmod a0_0 400) * 365))))+(wrap64 (Int.tdiv (Int.tmod a0_0 400) 4)))) - (wrap64 (Int.tdiv (Int.tmod a0_0 400) 100))))+(wrap64 (Int.tdiv (wrap64 ((wrap64 (153 * (wrap64 (a0_1 - 3))))+2)) 5))))+a0_2)) - 1)) - 719468),0))) else (some (0,5))))=some (r1,r2):=h
 clear h
 replace H:=Option.bind_eq_some_iff.mp H
 obtain⟨t105,A20,H⟩:=H
 replace H:(if t105=true then (if (wrap64 (a0_1 - 3)) < 0 then (some (wrap64 ((wrap64 ((wrap64 ((wrap64 ((wrap64 ((wrap64 ((wrap64 ((wrap64 ((wrap64 (Int.tdiv (wrap64 (a0_0 - 1)) 400)) * 146097))+(wrap64 ((Int.tmod (wrap64 (a0_0 - 1)) 400) * 365))))+(wrap64 (Int.tdiv (Int.tmod (wrap64 (a0_0 - 1)) 400) 4)))) - (wrap64 (Int.tdiv (Int.tmod (wrap64 (a0_0 - 1)) 400) 100))))+(wrap64 (Int.tdiv (wrap64 ((wrap64 (153 * (wrap64 ((wrap64 (a0_1 - 3))+12))))+2)) 5))))+a0_2)) - 1)) - 719468),0)) else (some (wrap64 ((wrap64 ((wrap64 ((wrap64 ((wrap64 ((wrap64 ((wrap64 ((wrap64 ((wrap64 (Int.tdiv a0_0 400)) * 146097))+(wrap64 ((Int.tmod a0_0 400) * 365))))+(wrap64 (Int.tdiv (Int.tmod a0_0 400) 4)))) - (wrap64 (Int.tdiv (Int.tmod a0_0 400) 100))))+(wrap64 (Int.tdiv (wrap64 ((wrap64 (153 * (wrap64 (a0_1 - 3))))+2)) 5))))+a0_2)) - 1)) - 719468),0))) else (some (0,5)))=some (r1,r2):=H
 have A2:=ag.mk A20
 clear A20
 by_cases c3:t105=true
 ·subst c3
  have H1:(if (wrap64 (a0_1 - 3)) < 0 then (some (wrap64 ((wrap64 ((wrap64 ((wrap64 ((wrap64 ((wrap64 ((wrap64 ((wrap64 ((wrap64 (Int.tdiv (wrap64 (a0_0 - 1)) 400)) * 146097))+(wrap64 ((Int.tmod (wrap64 (a0_0 - 1)) 400) * 365))))+(wrap64 (Int.tdiv (Int.tmod (wrap64 (a0_0 - 1)) 400) 4)))) - (wrap64 (Int.tdiv (Int.tmod (wrap64 (a0_0 - 1)) 400) 100))))+(wrap64 (Int.tdiv (wrap64 ((wrap64 (153 * (wrap64 ((wrap64 (a0_1 - 3))+12))))+2)) 5))))+a0_2)) - 1)) - 719468),0)) else (some (wrap64 ((wrap64 ((wrap64 ((wrap64 ((wrap64 ((wrap64 ((wrap64 ((wrap64 ((wrap64 (Int.tdiv a0_0 400)) * 146097))+(wrap64 ((Int.tmod a0_0 400) * 365))))+(wrap64 (Int.tdiv (Int.tmod a0_0 400) 4)))) - (wrap64 (Int.tdiv (Int.tmod a0_0 400) 100))))+(wrap64 (Int.tdiv (wrap64 ((wrap64 (153 * (wrap64 (a0_1 - 3))))+2)) 5))))+a0_2)) - 1)) - 719468),0)))=some (r1,r2):=by rw[if_pos rfl] at H;exact H
  clear H
  have H:=H1
  clear H1
  by_cases c4:(wrap64 (a0_1 - 3)) < 0
  ·rw[if_pos c4] at H
   have c4b0:decide ((wrap64 (a0_1 - 3)) < 0)=true:=decide_eq_true c4
   clear c4
   simp only[Option.some.injEq,Prod.mk.injEq] at H
   obtain⟨rfl,rfl⟩:=H
   go_enter Tryd.func49,Tryd.ntmps49
   go_wp2_with (first|((with_reducible refine aI (N:=1) rfl ?_);refine aH ?hg (N:=1) ?hd (cs:=#[.int .i64 a0_0,.int .i64 a0_1,.int .i64 a0_2]) (t:=68) ?hr ?_;(case hd=>rfl);(case hg=>rfl);(case hr=>first|(go_simp;done)|(go_simp;rfl));intro gb104 hg w5 hbox hb;have n0_:=ag.mk (aj (by repeat(first|(with_reducible first|exact HB.o|apply ae|apply aa|apply af)|exact HB.o)) hb);have n1_:=ag.mk (hbox);have n2_:=ag.mk ((by rw[hg];exact(ak (by repeat(first|(with_reducible first|exact HB.o|apply ae|apply aa|apply af)|exact HB.o))):w.heap.size≤gb104));have n3_:=ag.mk ((by rw[hg];exact(ak (by repeat(first|(with_reducible first|exact HB.o|apply ae|apply aa|apply af)|exact HB.o))):w.heap.size≤gb104));clear HB;have HB:=n0_;have BK104:=n1_;have GW104:=n2_;have GE104:=n3_;clear n0_ n1_ n2_ n3_;clear hb hbox hg;have hcz6_0:w5.cell? ⟨gb104,0,none⟩=some (.int .i64 a0_0):=(ah BK104.o 0).trans rfl;have hcz6_1:w5.cell? ⟨gb104,1,none⟩=some (.int .i64 a0_1):=(ah BK104.o 1).trans rfl;have hcz6_2:w5.cell? ⟨gb104,2,none⟩=some (.int .i64 a0_2):=(ah BK104.o 2).trans rfl;have hfz6_0:=ai BK104.o 0;have hfz6_1:=ai BK104.o 1;have hfz6_2:=ai BK104.o 2)|(go_at_call 56;(with_reducible refine(civil_good.calls a0_0 a0_1 a0_2 true _ A2.o).mono ?_);rintro e w7 ⟨rfl,hb⟩;have n0_:=ag.mk (aN (g:=gb104) (o:=.cells #[.int .i64 a0_0,.int .i64 a0_1,.int .i64 a0_2] 68 (0,0)) (by (with_reducible repeat(first|refine av ?_ _|refine aA ?_|refine au ?_ _));exact BK104.o) hb);have n1_:=ag.mk (aj (by repeat(first|(with_reducible first|exact HB.o|apply ae|apply aa|apply af|refine ax ?_ GE104.o)|exact HB.o)) hb);clear BK104;clear HB;have BK104:=n0_;have HB:=n1_;clear n0_ n1_;(try clear hb);(try clear hb2);(try clear hk);(try clear hi);have hcz8_0:w7.cell? ⟨gb104,0,none⟩=some (.int .i64 a0_0):=(ah BK104.o 0).trans rfl;have hcz8_1:w7.cell? ⟨gb104,1,none⟩=some (.int .i64 a0_1):=(ah BK104.o 1).trans rfl;have hcz8_2:w7.cell? ⟨gb104,2,none⟩=some (.int .i64 a0_2):=(ah BK104.o 2).trans rfl;have hfz8_0:=ai BK104.o 0;have hfz8_1:=ai BK104.o 1;have hfz8_2:=ai BK104.o 2))
   repeat(go_quiet (first|((with_reducible refine aI (N:=1) rfl ?_);refine aH ?hg (N:=1) ?hd (cs:=#[.int .i64 a0_0,.int .i64 a0_1,.int .i64 a0_2]) (t:=68) ?hr ?_;(case hd=>rfl);(case hg=>rfl);(case hr=>first|(go_simp;done)|(go_simp;rfl));intro gb104 hg w5 hbox hb;have n0_:=ag.mk (aj (by repeat(first|(with_reducible first|exact HB.o|apply ae|apply aa|apply af)|exact HB.o)) hb);have n1_:=ag.mk (hbox);have n2_:=ag.mk ((by rw[hg];exact(ak (by repeat(first|(with_reducible first|exact HB.o|apply ae|apply aa|apply af)|exact HB.o))):w.heap.size≤gb104));have n3_:=ag.mk ((by rw[hg];exact(ak (by repeat(first|(with_reducible first|exact HB.o|apply ae|apply aa|apply af)|exact HB.o))):w.heap.size≤gb104));clear HB;have HB:=n0_;have BK104:=n1_;have GW104:=n2_;have GE104:=n3_;clear n0_ n1_ n2_ n3_;clear hb hbox hg;have hcz6_0:w5.cell? ⟨gb104,0,none⟩=some (.int .i64 a0_0):=(ah BK104.o 0).trans rfl;have hcz6_1:w5.cell? ⟨gb104,1,none⟩=some (.int .i64 a0_1):=(ah BK104.o 1).trans rfl;have hcz6_2:w5.cell? ⟨gb104,2,none⟩=some (.int .i64 a0_2):=(ah BK104.o 2).trans rfl;have hfz6_0:=ai BK104.o 0;have hfz6_1:=ai BK104.o 1;have hfz6_2:=ai BK104.o 2)|(go_at_call 56;(with_reducible refine(civil_good.calls a0_0 a0_1 a0_2 true _ A2.o).mono ?_);rintro e w7 ⟨rfl,hb⟩;have n0_:=ag.mk (aN (g:=gb104) (o:=.cells #[.int .i64 a0_0,.int .i64 a0_1,.int .i64 a0_2] 68 (0,0)) (by (with_reducible repeat(first|refine av ?_ _|refine aA ?_|refine au ?_ _));exact BK104.o) hb);have n1_:=ag.mk (aj (by repeat(first|(with_reducible first|exact HB.o|apply ae|apply aa|apply af|refine ax ?_ GE104.o)|exact HB.o)) hb);clear BK104;clear HB;have BK104:=n0_;have HB:=n1_;clear n0_ n1_;(try clear hb);(try clear hb2);(try clear hk);(try clear hi);have hcz8_0:w7.cell? ⟨gb104,0,none⟩=some (.int .i64 a0_0):=(ah BK104.o 0).trans rfl;have hcz8_1:w7.cell? ⟨gb104,1,none⟩=some (.int .i64 a0_1):=(ah BK104.o 1).trans rfl;have hcz8_2:w7.cell? ⟨gb104,2,none⟩=some (.int .i64 a0_2):=(ah BK104.o 2).trans rfl;have hfz8_0:=ai BK104.o 0;have hfz8_1:=ai BK104.o 1;have hfz8_2:=ai BK104.o 2));try go_wp2_with (first|((with_reducible refine aI (N:=1) rfl ?_);refine aH ?hg (N:=1) ?hd (cs:=#[.int .i64 a0_0,.int .i64 a0_1,.int .i64 a0_2]) (t:=68) ?hr ?_;(case hd=>rfl);(case hg=>rfl);(case hr=>first|(go_simp;done)|(go_simp;rfl));intro gb104 hg w5 hbox hb;have n0_:=ag.mk (aj (by repeat(first|(with_reducible first|exact HB.o|apply ae|apply aa|apply af)|exact HB.o)) hb);have n1_:=ag.mk (hbox);have n2_:=ag.mk ((by rw[hg];exact(ak (by repeat(first|(with_reducible first|exact HB.o|apply ae|apply aa|apply af)|exact HB.o))):w.heap.size≤gb104));have n3_:=ag.mk ((by rw[hg];exact(ak (by repeat(first|(with_reducible first|exact HB.o|apply ae|apply aa|apply af)|exact HB.o))):w.heap.size≤gb104));clear HB;have HB:=n0_;have BK104:=n1_;have GW104:=n2_;have GE104:=n3_;clear n0_ n1_ n2_ n3_;clear hb hbox hg;have hcz6_0:w5.cell? ⟨gb104,0,none⟩=some (.int .i64 a0_0):=(ah BK104.o 0).trans rfl;have hcz6_1:w5.cell? ⟨gb104,1,none⟩=some (.int .i64 a0_1):=(ah BK104.o 1).trans rfl;have hcz6_2:w5.cell? ⟨gb104,2,none⟩=some (.int .i64 a0_2):=(ah BK104.o 2).trans rfl;have hfz6_0:=ai BK104.o 0;have hfz6_1:=ai BK104.o 1;have hfz6_2:=ai BK104.o 2)|(go_at_call 56;(with_reducible refine(civil_good.calls a0_0 a0_1 a0_2 true _ A2.o).mono ?_);rintro e w7 ⟨rfl,hb⟩;have n0_:=ag.mk (aN (g:=gb104) (o:=.cells #[.int .i64 a0_0,.int .i64 a0_1,.int .i64 a0_2] 68 (0,0)) (by (with_reducible repeat(first|refine av ?_ _|refine aA ?_|refine au ?_ _));exact BK104.o) hb);have n1_:=ag.mk (aj (by repeat(first|(with_reducible first|exact HB.o|apply ae|apply aa|apply af|refine ax ?_ GE104.o)|exact HB.o)) hb);clear BK104;clear HB;have BK104:=n0_;have HB:=n1_;clear n0_ n1_;(try clear hb);(try clear hb2);(try clear hk);(try clear hi);have hcz8_0:w7.cell? ⟨gb104,0,none⟩=some (.int .i64 a0_0):=(ah BK104.o 0).trans rfl;have hcz8_1:w7.cell? ⟨gb104,1,none⟩=some (.int .i64 a0_1):=(ah BK104.o 1).trans rfl;have hcz8_2:w7.cell? ⟨gb104,2,none⟩=some (.int .i64 a0_2):=(ah BK104.o 2).trans rfl;have hfz8_0:=ai BK104.o 0;have hfz8_1:=ai BK104.o 1;have hfz8_2:=ai BK104.o 2)))
   go_ret2
   exact⟨by first|rfl|(simp[ay,az] <;> rfl)|(simp[*,ay,az] <;> rfl),by repeat(first|(with_reducible first|exact HB.o|apply ae|apply aa|apply af|refine ax ?_ GE104.o)|exact HB.o)⟩
  ·rw[if_neg c4] at H
   have c4b0:decide ((wrap64 (a0_1 - 3)) < 0)=false:=decide_eq_false c4
   clear c4
   simp only[Option.some.injEq,Prod.mk.injEq] at H
   obtain⟨rfl,rfl⟩:=H
   go_enter Tryd.func49,Tryd.ntmps49
   go_wp2_with (first|((with_reducible refine aI (N:=1) rfl ?_);refine aH ?hg (N:=1) ?hd (cs:=#[.int .i64 a0_0,.int .i64 a0_1,.int .i64 a0_2]) (t:=68) ?hr ?_;(case hd=>rfl);(case hg=>rfl);(case hr=>first|(go_simp;done)|(go_simp;rfl));intro gb104 hg w9 hbox hb;have n0_:=ag.mk (aj (by repeat(first|(with_reducible first|exact HB.o|apply ae|apply aa|apply af)|exact HB.o)) hb);have n1_:=ag.mk (hbox);have n2_:=ag.mk ((by rw[hg];exact(ak (by repeat(first|(with_reducible first|exact HB.o|apply ae|apply aa|apply af)|exact HB.o))):w.heap.size≤gb104));have n3_:=ag.mk ((by rw[hg];exact(ak (by repeat(first|(with_reducible first|exact HB.o|apply ae|apply aa|apply af)|exact HB.o))):w.heap.size≤gb104));clear HB;have HB:=n0_;have BK104:=n1_;have GW104:=n2_;have GE104:=n3_;clear n0_ n1_ n2_ n3_;clear hb hbox hg;have hcz10_0:w9.cell? ⟨gb104,0,none⟩=some (.int .i64 a0_0):=(ah BK104.o 0).trans rfl;have hcz10_1:w9.cell? ⟨gb104,1,none⟩=some (.int .i64 a0_1):=(ah BK104.o 1).trans rfl;have hcz10_2:w9.cell? ⟨gb104,2,none⟩=some (.int .i64 a0_2):=(ah BK104.o 2).trans rfl;have hfz10_0:=ai BK104.o 0;have hfz10_1:=ai BK104.o 1;have hfz10_2:=ai BK104.o 2)|(go_at_call 56;(with_reducible refine(civil_good.calls a0_0 a0_1 a0_2 true _ A2.o).mono ?_);rintro e w11 ⟨rfl,hb⟩;have n0_:=ag.mk (aN (g:=gb104) (o:=.cells #[.int .i64 a0_0,.int .i64 a0_1,.int .i64 a0_2] 68 (0,0)) (by (with_reducible repeat(first|refine av ?_ _|refine aA ?_|refine au ?_ _));exact BK104.o) hb);have n1_:=ag.mk (aj (by repeat(first|(with_reducible first|exact HB.o|apply ae|apply aa|apply af|refine ax ?_ GE104.o)|exact HB.o)) hb);clear BK104;clear HB;have BK104:=n0_;have HB:=n1_;clear n0_ n1_;(try clear hb);(try clear hb2);(try clear hk);(try clear hi);have hcz12_0:w11.cell? ⟨gb104,0,none⟩=some (.int .i64 a0_0):=(ah BK104.o 0).trans rfl;have hcz12_1:w11.cell? ⟨gb104,1,none⟩=some (.int .i64 a0_1):=(ah BK104.o 1).trans rfl;have hcz12_2:w11.cell? ⟨gb104,2,none⟩=some (.int .i64 a0_2):=(ah BK104.o 2).trans rfl;have hfz12_0:=ai BK104.o 0;have hfz12_1:=ai BK104.o 1;have hfz12_2:=ai BK104.o 2))
   repeat(go_quiet (first|((with_reducible refine aI (N:=1) rfl ?_);refine aH ?hg (N:=1) ?hd (cs:=#[.int .i64 a0_0,.int .i64 a0_1,.int .i64 a0_2]) (t:=68) ?hr ?_;(case hd=>rfl);(case hg=>rfl);(case hr=>first|(go_simp;done)|(go_simp;rfl));intro gb104 hg w9 hbox hb;have n0_:=ag.mk (aj (by repeat(first|(with_reducible first|exact HB.o|apply ae|apply aa|apply af)|exact HB.o)) hb);have n1_:=ag.mk (hbox);have n2_:=ag.mk ((by rw[hg];exact(ak (by repeat(first|(with_reducible first|exact HB.o|apply ae|apply aa|apply af)|exact HB.o))):w.heap.size≤gb104));have n3_:=ag.mk ((by rw[hg];exact(ak (by repeat(first|(with_reducible first|exact HB.o|apply ae|apply aa|apply af)|exact HB.o))):w.heap.size≤gb104));clear HB;have HB:=n0_;have BK104:=n1_;have GW104:=n2_;have GE104:=n3_;clear n0_ n1_ n2_ n3_;clear hb hbox hg;have hcz10_0:w9.cell? ⟨gb104,0,none⟩=some (.int .i64 a0_0):=(ah BK104.o 0).trans rfl;have hcz10_1:w9.cell? ⟨gb104,1,none⟩=some (.int .i64 a0_1):=(ah BK104.o 1).trans rfl;have hcz10_2:w9.cell? ⟨gb104,2,none⟩=some (.int .i64 a0_2):=(ah BK104.o 2).trans rfl;have hfz10_0:=ai BK104.o 0;have hfz10_1:=ai BK104.o 1;have hfz10_2:=ai BK104.o 2)|(go_at_call 56;(with_reducible refine(civil_good.calls a0_0 a0_1 a0_2 true _ A2.o).mono ?_);rintro e w11 ⟨rfl,hb⟩;have n0_:=ag.mk (aN (g:=gb104) (o:=.cells #[.int .i64 a0_0,.int .i64 a0_1,.int .i64 a0_2] 68 (0,0)) (by (with_reducible repeat(first|refine av ?_ _|refine aA ?_|refine au ?_ _));exact BK104.o) hb);have n1_:=ag.mk (aj (by repeat(first|(with_reducible first|exact HB.o|apply ae|apply aa|apply af|refine ax ?_ GE104.o)|exact HB.o)) hb);clear BK104;clear HB;have BK104:=n0_;have HB:=n1_;clear n0_ n1_;(try clear hb);(try clear hb2);(try clear hk);(try clear hi);have hcz12_0:w11.cell? ⟨gb104,0,none⟩=some (.int .i64 a0_0):=(ah BK104.o 0).trans rfl;have hcz12_1:w11.cell? ⟨gb104,1,none⟩=some (.int .i64 a0_1):=(ah BK104.o 1).trans rfl;have hcz12_2:w11.cell? ⟨gb104,2,none⟩=some (.int .i64 a0_2):=(ah BK104.o 2).trans rfl;have hfz12_0:=ai BK104.o 0;have hfz12_1:=ai BK104.o 1;have hfz12_2:=ai BK104.o 2));try go_wp2_with (first|((with_reducible refine aI (N:=1) rfl ?_);refine aH ?hg (N:=1) ?hd (cs:=#[.int .i64 a0_0,.int .i64 a0_1,.int .i64 a0_2]) (t:=68) ?hr ?_;(case hd=>rfl);(case hg=>rfl);(case hr=>first|(go_simp;done)|(go_simp;rfl));intro gb104 hg w9 hbox hb;have n0_:=ag.mk (aj (by repeat(first|(with_reducible first|exact HB.o|apply ae|apply aa|apply af)|exact HB.o)) hb);have n1_:=ag.mk (hbox);have n2_:=ag.mk ((by rw[hg];exact(ak (by repeat(first|(with_reducible first|exact HB.o|apply ae|apply aa|apply af)|exact HB.o))):w.heap.size≤gb104));have n3_:=ag.mk ((by rw[hg];exact(ak (by repeat(first|(with_reducible first|exact HB.o|apply ae|apply aa|apply af)|exact HB.o))):w.heap.size≤gb104));clear HB;have HB:=n0_;have BK104:=n1_;have GW104:=n2_;have GE104:=n3_;clear n0_ n1_ n2_ n3_;clear hb hbox hg;have hcz10_0:w9.cell? ⟨gb104,0,none⟩=some (.int .i64 a0_0):=(ah BK104.o 0).trans rfl;have hcz10_1:w9.cell? ⟨gb104,1,none⟩=some (.int .i64 a0_1):=(ah BK104.o 1).trans rfl;have hcz10_2:w9.cell? ⟨gb104,2,none⟩=some (.int .i64 a0_2):=(ah BK104.o 2).trans rfl;have hfz10_0:=ai BK104.o 0;have hfz10_1:=ai BK104.o 1;have hfz10_2:=ai BK104.o 2)|(go_at_call 56;(with_reducible refine(civil_good.calls a0_0 a0_1 a0_2 true _ A2.o).mono ?_);rintro e w11 ⟨rfl,hb⟩;have n0_:=ag.mk (aN (g:=gb104) (o:=.cells #[.int .i64 a0_0,.int .i64 a0_1,.int .i64 a0_2] 68 (0,0)) (by (with_reducible repeat(first|refine av ?_ _|refine aA ?_|refine au ?_ _));exact BK104.o) hb);have n1_:=ag.mk (aj (by repeat(first|(with_reducible first|exact HB.o|apply ae|apply aa|apply af|refine ax ?_ GE104.o)|exact HB.o)) hb);clear BK104;clear HB;have BK104:=n0_;have HB:=n1_;clear n0_ n1_;(try clear hb);(try clear hb2);(try clear hk);(try clear hi);have hcz12_0:w11.cell? ⟨gb104,0,none⟩=some (.int .i64 a0_0):=(ah BK104.o 0).trans rfl;have hcz12_1:w11.cell? ⟨gb104,1,none⟩=some (.int .i64 a0_1):=(ah BK104.o 1).trans rfl;have hcz12_2:w11.cell? ⟨gb104,2,none⟩=some (.int .i64 a0_2):=(ah BK104.o 2).trans rfl;have hfz12_0:=ai BK104.o 0;have hfz12_1:=ai BK104.o 1;have hfz12_2:=ai BK104.o 2)))
   go_ret2
   exact⟨by first|rfl|(simp[ay,az] <;> rfl)|(simp[*,ay,az] <;> rfl),by repeat(first|(with_reducible first|exact HB.o|apply ae|apply aa|apply af|refine ax ?_ GE104.o)|exact HB.o)⟩
 ·replace c3:=Bool.eq_false_iff.mpr c3
  subst c3
  have H1:(some (0,5))=some (r1,r2):=by rw[if_neg (show ¬ (false=true) by decide)] at H;exact H
  clear H
  have H:=H1
  clear H1
  simp only[Option.some.injEq,Prod.mk.injEq] at H
  obtain⟨rfl,rfl⟩:=H
  go_enter Tryd.func49,Tryd.ntmps49
  go_wp2_with (first|((with_reducible refine aI (N:=1) rfl ?_);refine aH ?hg (N:=1) ?hd (cs:=#[.int .i64 a0_0,.int .i64 a0_1,.int .i64 a0_2]) (t:=68) ?hr ?_;(case hd=>rfl);(case hg=>rfl);(case hr=>first|(go_simp;done)|(go_simp;rfl));intro gb104 hg w13 hbox hb;have n0_:=ag.mk (aj (by repeat(first|(with_reducible first|exact HB.o|apply ae|apply aa|apply af)|exact HB.o)) hb);have n1_:=ag.mk (hbox);have n2_:=ag.mk ((by rw[hg];exact(ak (by repeat(first|(with_reducible first|exact HB.o|apply ae|apply aa|apply af)|exact HB.o))):w.heap.size≤gb104));have n3_:=ag.mk ((by rw[hg];exact(ak (by repeat(first|(with_reducible first|exact HB.o|apply ae|apply aa|apply af)|exact HB.o))):w.heap.size≤gb104));clear HB;have HB:=n0_;have BK104:=n1_;have GW104:=n2_;have GE104:=n3_;clear n0_ n1_ n2_ n3_;clear hb hbox hg;have hcz14_0:w13.cell? ⟨gb104,0,none⟩=some (.int .i64 a0_0):=(ah BK104.o 0).trans rfl;have hcz14_1:w13.cell? ⟨gb104,1,none⟩=some (.int .i64 a0_1):=(ah BK104.o 1).trans rfl;have hcz14_2:w13.cell? ⟨gb104,2,none⟩=some (.int .i64 a0_2):=(ah BK104.o 2).trans rfl;have hfz14_0:=ai BK104.o 0;have hfz14_1:=ai BK104.o 1;have hfz14_2:=ai BK104.o 2)|(go_at_call 56;(with_reducible refine(civil_good.calls a0_0 a0_1 a0_2 false _ A2.o).mono ?_);rintro e w15 ⟨rfl,hb⟩;have n0_:=ag.mk (aN (g:=gb104) (o:=.cells #[.int .i64 a0_0,.int .i64 a0_1,.int .i64 a0_2] 68 (0,0)) (by (with_reducible repeat(first|refine av ?_ _|refine aA ?_|refine au ?_ _));exact BK104.o) hb);have n1_:=ag.mk (aj (by repeat(first|(with_reducible first|exact HB.o|apply ae|apply aa|apply af|refine ax ?_ GE104.o)|exact HB.o)) hb);clear BK104;clear HB;have BK104:=n0_;have HB:=n1_;clear n0_ n1_;(try clear hb);(try clear hb2);(try clear hk);(try clear hi)))
  repeat(go_quiet (first|((with_reducible refine aI (N:=1) rfl ?_);refine aH ?hg (N:=1) ?hd (cs:=#[.int .i64 a0_0,.int .i64 a0_1,.int .i64 a0_2]) (t:=68) ?hr ?_;(case hd=>rfl);(case hg=>rfl);(case hr=>first|(go_simp;done)|(go_simp;rfl));intro gb104 hg w13 hbox hb;have n0_:=ag.mk (aj (by repeat(first|(with_reducible first|exact HB.o|apply ae|apply aa|apply af)|exact HB.o)) hb);have n1_:=ag.mk (hbox);have n2_:=ag.mk ((by rw[hg];exact(ak (by repeat(first|(with_reducible first|exact HB.o|apply ae|apply aa|apply af)|exact HB.o))):w.heap.size≤gb104));have n3_:=ag.mk ((by rw[hg];exact(ak (by repeat(first|(with_reducible first|exact HB.o|apply ae|apply aa|apply af)|exact HB.o))):w.heap.size≤gb104));clear HB;have HB:=n0_;have BK104:=n1_;have GW104:=n2_;have GE104:=n3_;clear n0_ n1_ n2_ n3_;clear hb hbox hg;have hcz14_0:w13.cell? ⟨gb104,0,none⟩=some (.int .i64 a0_0):=(ah BK104.o 0).trans rfl;have hcz14_1:w13.cell? ⟨gb104,1,none⟩=some (.int .i64 a0_1):=(ah BK104.o 1).trans rfl;have hcz14_2:w13.cell? ⟨gb104,2,none⟩=some (.int .i64 a0_2):=(ah BK104.o 2).trans rfl;have hfz14_0:=ai BK104.o 0;have hfz14_1:=ai BK104.o 1;have hfz14_2:=ai BK104.o 2)|(go_at_call 56;(with_reducible refine(civil_good.calls a0_0 a0_1 a0_2 false _ A2.o).mono ?_);rintro e w15 ⟨rfl,hb⟩;have n0_:=ag.mk (aN (g:=gb104) (o:=.cells #[.int .i64 a0_0,.int .i64 a0_1,.int .i64 a0_2] 68 (0,0)) (by (with_reducible repeat(first|refine av ?_ _|refine aA ?_|refine au ?_ _));exact BK104.o) hb);have n1_:=ag.mk (aj (by repeat(first|(with_reducible first|exact HB.o|apply ae|apply aa|apply af|refine ax ?_ GE104.o)|exact HB.o)) hb);clear BK104;clear HB;have BK104:=n0_;have HB:=n1_;clear n0_ n1_;(try clear hb);(try clear hb2);(try clear hk);(try clear hi)));try go_wp2_with (first|((with_reducible refine aI (N:=1) rfl ?_);refine aH ?hg (N:=1) ?hd (cs:=#[.int .i64 a0_0,.int .i64 a0_1,.int .i64 a0_2]) (t:=68) ?hr ?_;(case hd=>rfl);(case hg=>rfl);(case hr=>first|(go_simp;done)|(go_simp;rfl));intro gb104 hg w13 hbox hb;have n0_:=ag.mk (aj (by repeat(first|(with_reducible first|exact HB.o|apply ae|apply aa|apply af)|exact HB.o)) hb);have n1_:=ag.mk (hbox);have n2_:=ag.mk ((by rw[hg];exact(ak (by repeat(first|(with_reducible first|exact HB.o|apply ae|apply aa|apply af)|exact HB.o))):w.heap.size≤gb104));have n3_:=ag.mk ((by rw[hg];exact(ak (by repeat(first|(with_reducible first|exact HB.o|apply ae|apply aa|apply af)|exact HB.o))):w.heap.size≤gb104));clear HB;have HB:=n0_;have BK104:=n1_;have GW104:=n2_;have GE104:=n3_;clear n0_ n1_ n2_ n3_;clear hb hbox hg;have hcz14_0:w13.cell? ⟨gb104,0,none⟩=some (.int .i64 a0_0):=(ah BK104.o 0).trans rfl;have hcz14_1:w13.cell? ⟨gb104,1,none⟩=some (.int .i64 a0_1):=(ah BK104.o 1).trans rfl;have hcz14_2:w13.cell? ⟨gb104,2,none⟩=some (.int .i64 a0_2):=(ah BK104.o 2).trans rfl;have hfz14_0:=ai BK104.o 0;have hfz14_1:=ai BK104.o 1;have hfz14_2:=ai BK104.o 2)|(go_at_call 56;(with_reducible refine(civil_good.calls a0_0 a0_1 a0_2 false _ A2.o).mono ?_);rintro e w15 ⟨rfl,hb⟩;have n0_:=ag.mk (aN (g:=gb104) (o:=.cells #[.int .i64 a0_0,.int .i64 a0_1,.int .i64 a0_2] 68 (0,0)) (by (with_reducible repeat(first|refine av ?_ _|refine aA ?_|refine au ?_ _));exact BK104.o) hb);have n1_:=ag.mk (aj (by repeat(first|(with_reducible first|exact HB.o|apply ae|apply aa|apply af|refine ax ?_ GE104.o)|exact HB.o)) hb);clear BK104;clear HB;have BK104:=n0_;have HB:=n1_;clear n0_ n1_;(try clear hb);(try clear hb2);(try clear hk);(try clear hi))))
  go_ret2
  exact⟨by first|rfl|(simp[ay,az] <;> rfl)|(simp[*,ay,az] <;> rfl),by repeat(first|(with_reducible first|exact HB.o|apply ae|apply aa|apply af|refine ax ?_ GE104.o)|exact HB.o)⟩
def civil_YearDay.f (a0_0:Int) (a0_1:Int) (a0_2:Int):Option (Int × Int):=(civil_Days.f a0_0 a0_1 a0_2).bind fun bt107=>(if bt107.2=0 then ((civil_Days.f a0_0 1 1).bind fun bt109=>(some (wrap64 ((wrap64 (bt107.1 - bt109.1))+1),0))) else (some (0,bt107.2)))
set_option maxHeartbeats 8000000 in
set_option maxRecDepth 100000 in
theorem civil_YearDay.calls (a0_0:Int) (a0_1:Int) (a0_2:Int) (r1:Int) (r2:Int) (w:World) (h:civil_YearDay.f a0_0 a0_1 a0_2=some (r1,r2)) :
  Calls Tryd.prog 37 #[.agg #[.int .i64 a0_0,.int .i64 a0_1,.int .i64 a0_2]] w fun e w'=>e = .returned (.tuple #[.int .i64 r1,.int .i64 r2])∧Below w.heap.size w w':=by
 have hu68:=Tryd.underlying68
 have HB:=ag.mk (Below.refl w.heap.size w)
 have H:((civil_Days.f a0_0 a0_1 a0_2).bind fun bt107=>(if bt107.2=0 then ((civil_Days.f a0_0 1 1).bind fun bt109=>(some (wrap64 ((wrap64 (bt107.1 - bt109.1))+1),0))) else (some (0,bt107.2))))=some (r1,r2):=h
 clear h
 replace H:=Option.bind_eq_some_iff.mp H
 obtain⟨⟨t107,t108⟩,A20,H⟩:=H
 replace H:(if t108=0 then ((civil_Days.f a0_0 1 1).bind fun bt109=>(some (wrap64 ((wrap64 (t107 - bt109.1))+1),0))) else (some (0,t108)))=some (r1,r2):=H
 have A2:=ag.mk A20
 clear A20
 by_cases c3:t108=0
 ·rw[if_pos c3] at H
  have c3b0:(t108 == 0)=true:=beq_iff_eq.mpr c3
  have c3b1:(t108 != 0)=false:=bne_eq_false_iff_eq.mpr c3
  clear c3
  replace H:=Option.bind_eq_some_iff.mp H
  obtain⟨⟨t109,t110⟩,A40,H⟩:=H
  replace H:(some (wrap64 ((wrap64 (t107 - t109))+1),0))=some (r1,r2):=H
  have A4:=ag.mk A40
  clear A40
  simp only[Option.some.injEq,Prod.mk.injEq] at H
  obtain⟨rfl,rfl⟩:=H
  go_enter Tryd.func37,Tryd.ntmps37
  go_wp2_with (first|((with_reducible refine aI (N:=1) rfl ?_);refine aH ?hg (N:=1) ?hd (cs:=#[.int .i64 a0_0,.int .i64 a0_1,.int .i64 a0_2]) (t:=68) ?hr ?_;(case hd=>rfl);(case hg=>rfl);(case hr=>first|(go_simp;done)|(go_simp;rfl));intro gb106 hg w5 hbox hb;have n0_:=ag.mk (aj (by repeat(first|(with_reducible first|exact HB.o|apply ae|apply aa|apply af)|exact HB.o)) hb);have n1_:=ag.mk (hbox);have n2_:=ag.mk ((by rw[hg];exact(ak (by repeat(first|(with_reducible first|exact HB.o|apply ae|apply aa|apply af)|exact HB.o))):w.heap.size≤gb106));have n3_:=ag.mk ((by rw[hg];exact(ak (by repeat(first|(with_reducible first|exact HB.o|apply ae|apply aa|apply af)|exact HB.o))):w.heap.size≤gb106));clear HB;have HB:=n0_;have BK106:=n1_;have GW106:=n2_;have GE106:=n3_;clear n0_ n1_ n2_ n3_;clear hb hbox hg;have hcz6_0:w5.cell? ⟨gb106,0,none⟩=some (.int .i64 a0_0):=(ah BK106.o 0).trans rfl;have hcz6_1:w5.cell? ⟨gb106,1,none⟩=some (.int .i64 a0_1):=(ah BK106.o 1).trans rfl;have hcz6_2:w5.cell? ⟨gb106,2,none⟩=some (.int .i64 a0_2):=(ah BK106.o 2).trans rfl;have hfz6_0:=ai BK106.o 0;have hfz6_1:=ai BK106.o 1;have hfz6_2:=ai BK106.o 2)|((with_reducible refine aR (f:=49) rfl ?_);refine aZ (some 10) rfl rfl Tryd.func49 (by kernel_rfl) rfl #[.agg #[.int .i64 a0_0,.int .i64 a0_1,.int .i64 a0_2]] rfl (by (try simp only[List.map_toArray,List.map_cons,List.map_nil]);first|done|rfl|(simp only[List.length_drop,List.length_take];rfl)) ?_;(with_reducible refine(civil_Days.calls a0_0 a0_1 a0_2 t107 t108 _ A2.o).mono ?_);rintro e w7 ⟨rfl,hb⟩;refine⟨_,rfl,?_⟩;have n0_:=ag.mk (aN (g:=gb106) (o:=.cells #[.int .i64 a0_0,.int .i64 a0_1,.int .i64 a0_2] 68 (0,0)) (by (with_reducible repeat(first|refine av ?_ _|refine aA ?_|refine au ?_ _));exact BK106.o) hb);have n1_:=ag.mk (aj (by repeat(first|(with_reducible first|exact HB.o|apply ae|apply aa|apply af|refine ax ?_ GE106.o)|exact HB.o)) hb);clear BK106;clear HB;have BK106:=n0_;have HB:=n1_;clear n0_ n1_;(try clear hb);(try clear hb2);(try clear hk);(try clear hi);have hcz8_0:w7.cell? ⟨gb106,0,none⟩=some (.int .i64 a0_0):=(ah BK106.o 0).trans rfl;have hcz8_1:w7.cell? ⟨gb106,1,none⟩=some (.int .i64 a0_1):=(ah BK106.o 1).trans rfl;have hcz8_2:w7.cell? ⟨gb106,2,none⟩=some (.int .i64 a0_2):=(ah BK106.o 2).trans rfl;have hfz8_0:=ai BK106.o 0;have hfz8_1:=ai BK106.o 1;have hfz8_2:=ai BK106.o 2)|((with_reducible refine aR (f:=49) rfl ?_);refine aZ (some 20) rfl rfl Tryd.func49 (by kernel_rfl) rfl #[.agg #[.int .i64 a0_0,.int .i64 1,.int .i64 1]] rfl (by (try simp only[List.map_toArray,List.map_cons,List.map_nil]);first|done|rfl|(simp only[List.length_drop,List.length_take];rfl)) ?_;(with_reducible refine(civil_Days.calls a0_0 1 1 t109 t110 _ A4.o).mono ?_);rintro e w9 ⟨rfl,hb⟩;refine⟨_,rfl,?_⟩;have n0_:=ag.mk (aN (g:=gb106) (o:=.cells #[.int .i64 a0_0,.int .i64 a0_1,.int .i64 a0_2] 68 (0,0)) (by (with_reducible repeat(first|refine av ?_ _|refine aA ?_|refine au ?_ _));exact BK106.o) hb);have n1_:=ag.mk (aj (by repeat(first|(with_reducible first|exact HB.o|apply ae|apply aa|apply af|refine ax ?_ GE106.o)|exact HB.o)) hb);clear BK106;clear HB;have BK106:=n0_;have HB:=n1_;clear n0_ n1_;(try clear hb);(try clear hb2);(try clear hk);(try clear hi)))
  go_ret2
  exact⟨by first|rfl|(simp[ay,az] <;> rfl)|(simp[*,ay,az] <;> rfl),by repeat(first|(with_reducible first|exact HB.o|apply ae|apply aa|apply af|refine ax ?_ GE106.o)|exact HB.o)⟩
 ·rw[if_neg c3] at H
  have c3b0:(t108 == 0)=false:=beq_eq_false_iff_ne.mpr c3
  have c3b1:(t108 != 0)=true:=bne_iff_ne.mpr c3
  simp only[Option.some.injEq,Prod.mk.injEq] at H
  obtain⟨rfl,rfl⟩:=H
  go_enter Tryd.func37,Tryd.ntmps37
  go_wp2_with (first|((with_reducible refine aI (N:=1) rfl ?_);refine aH ?hg (N:=1) ?hd (cs:=#[.int .i64 a0_0,.int .i64 a0_1,.int .i64 a0_2]) (t:=68) ?hr ?_;(case hd=>rfl);(case hg=>rfl);(case hr=>first|(go_simp;done)|(go_simp;rfl));intro gb106 hg w10 hbox hb;have n0_:=ag.mk (aj (by repeat(first|(with_reducible first|exact HB.o|apply ae|apply aa|apply af)|exact HB.o)) hb);have n1_:=ag.mk (hbox);have n2_:=ag.mk ((by rw[hg];exact(ak (by repeat(first|(with_reducible first|exact HB.o|apply ae|apply aa|apply af)|exact HB.o))):w.heap.size≤gb106));have n3_:=ag.mk ((by rw[hg];exact(ak (by repeat(first|(with_reducible first|exact HB.o|apply ae|apply aa|apply af)|exact HB.o))):w.heap.size≤gb106));clear HB;have HB:=n0_;have BK106:=n1_;have GW106:=n2_;have GE106:=n3_;clear n0_ n1_ n2_ n3_;clear hb hbox hg;have hcz11_0:w10.cell? ⟨gb106,0,none⟩=some (.int .i64 a0_0):=(ah BK106.o 0).trans rfl;have hcz11_1:w10.cell? ⟨gb106,1,none⟩=some (.int .i64 a0_1):=(ah BK106.o 1).trans rfl;have hcz11_2:w10.cell? ⟨gb106,2,none⟩=some (.int .i64 a0_2):=(ah BK106.o 2).trans rfl;have hfz11_0:=ai BK106.o 0;have hfz11_1:=ai BK106.o 1;have hfz11_2:=ai BK106.o 2)|((with_reducible refine aR (f:=49) rfl ?_);refine aZ (some 10) rfl rfl Tryd.func49 (by kernel_rfl) rfl #[.agg #[.int .i64 a0_0,.int .i64 a0_1,.int .i64 a0_2]] rfl (by (try simp only[List.map_toArray,List.map_cons,List.map_nil]);first|done|rfl|(simp only[List.length_drop,List.length_take];rfl)) ?_;(with_reducible refine(civil_Days.calls a0_0 a0_1 a0_2 t107 t108 _ A2.o).mono ?_);rintro e w12 ⟨rfl,hb⟩;refine⟨_,rfl,?_⟩;have n0_:=ag.mk (aN (g:=gb106) (o:=.cells #[.int .i64 a0_0,.int .i64 a0_1,.int .i64 a0_2] 68 (0,0)) (by (with_reducible repeat(first|refine av ?_ _|refine aA ?_|refine au ?_ _));exact BK106.o) hb);have n1_:=ag.mk (aj (by repeat(first|(with_reducible first|exact HB.o|apply ae|apply aa|apply af|refine ax ?_ GE106.o)|exact HB.o)) hb);clear BK106;clear HB;have BK106:=n0_;have HB:=n1_;clear n0_ n1_;(try clear hb);(try clear hb2);(try clear hk);(try clear hi)))
  go_ret2
  exact⟨by first|rfl|(simp[ay,az] <;> rfl)|(simp[*,ay,az] <;> rfl),by repeat(first|(with_reducible first|exact HB.o|apply ae|apply aa|apply af|refine ax ?_ GE106.o)|exact HB.o)⟩
def sound_Day.f (a0:Int):Option (Int × Int):=(civil_YearDay.f 2000 (wrap64 (Int.tdiv a0 100)) (Int.tmod a0 100)).bind fun bt111=>(if bt111.2=0 then (some (bt111.1,0)) else (some (0,8)))
set_option maxHeartbeats 8000000 in
set_option maxRecDepth 100000 in
theorem sound_Day.calls (a0:Int) (r1:Int) (r2:Int) (w:World) (h:sound_Day.f a0=some (r1,r2)) :
  Calls Tryd.prog 16 #[.int .i64 a0] w fun e w'=>e = .returned (.tuple #[.int .i64 r1,.int .i64 r2])∧Below w.heap.size w w':=by
 have hu68:=Tryd.underlying68
 have HB:=ag.mk (Below.refl w.heap.size w)
 have H:((civil_YearDay.f 2000 (wrap64 (Int.tdiv a0 100)) (Int.tmod a0 100)).bind fun bt111=>(if bt111.2=0 then (some (bt111.1,0)) else (some (0,8))))=some (r1,r2):=h
 clear h
 replace H:=Option.bind_eq_some_iff.mp H
 obtain⟨⟨t111,t112⟩,A20,H⟩:=H
 replace H:(if t112=0 then (some (t111,0)) else (some (0,8)))=some (r1,r2):=H
 have A2:=ag.mk A20
 clear A20
 by_cases c3:t112=0
 ·rw[if_pos c3] at H
  have c3b0:(t112 == 0)=true:=beq_iff_eq.mpr c3
  have c3b1:(t112 != 0)=false:=bne_eq_false_iff_eq.mpr c3
  clear c3
  simp only[Option.some.injEq,Prod.mk.injEq] at H
  obtain⟨rfl,rfl⟩:=H
  go_enter Tryd.func16,Tryd.ntmps16
  go_wp2_with (first|((with_reducible refine aR (f:=37) rfl ?_);refine aZ (some 12) rfl rfl Tryd.func37 (by kernel_rfl) rfl #[.agg #[.int .i64 2000,.int .i64 (wrap64 (Int.tdiv a0 100)),.int .i64 (Int.tmod a0 100)]] rfl (by (try simp only[List.map_toArray,List.map_cons,List.map_nil]);first|done|rfl|(simp only[List.length_drop,List.length_take];rfl)) ?_;(with_reducible refine(civil_YearDay.calls 2000 (wrap64 (Int.tdiv a0 100)) (Int.tmod a0 100) t111 t112 _ A2.o).mono ?_);rintro e w4 ⟨rfl,hb⟩;refine⟨_,rfl,?_⟩;have n0_:=ag.mk (aj (by repeat(first|(with_reducible first|exact HB.o|apply ae|apply aa|apply af)|exact HB.o)) hb);clear HB;have HB:=n0_;clear n0_;(try clear hb);(try clear hb2);(try clear hk);(try clear hi)))
  go_ret2
  exact⟨by first|rfl|(simp[ay,az] <;> rfl)|(simp[*,ay,az] <;> rfl),by repeat(first|(with_reducible first|exact HB.o|apply ae|apply aa|apply af)|exact HB.o)⟩
 ·rw[if_neg c3] at H
  have c3b0:(t112 == 0)=false:=beq_eq_false_iff_ne.mpr c3
  have c3b1:(t112 != 0)=true:=bne_iff_ne.mpr c3
  simp only[Option.some.injEq,Prod.mk.injEq] at H
  obtain⟨rfl,rfl⟩:=H
  go_enter Tryd.func16,Tryd.ntmps16
  go_wp2_with (first|((with_reducible refine aR (f:=37) rfl ?_);refine aZ (some 12) rfl rfl Tryd.func37 (by kernel_rfl) rfl #[.agg #[.int .i64 2000,.int .i64 (wrap64 (Int.tdiv a0 100)),.int .i64 (Int.tmod a0 100)]] rfl (by (try simp only[List.map_toArray,List.map_cons,List.map_nil]);first|done|rfl|(simp only[List.length_drop,List.length_take];rfl)) ?_;(with_reducible refine(civil_YearDay.calls 2000 (wrap64 (Int.tdiv a0 100)) (Int.tmod a0 100) t111 t112 _ A2.o).mono ?_);rintro e w5 ⟨rfl,hb⟩;refine⟨_,rfl,?_⟩;have n0_:=ag.mk (aj (by repeat(first|(with_reducible first|exact HB.o|apply ae|apply aa|apply af)|exact HB.o)) hb);clear HB;have HB:=n0_;clear n0_;(try clear hb);(try clear hb2);(try clear hk);(try clear hi)))
  go_ret2
  exact⟨by first|rfl|(simp[ay,az] <;> rfl)|(simp[*,ay,az] <;> rfl),by repeat(first|(with_reducible first|exact HB.o|apply ae|apply aa|apply af)|exact HB.o)⟩
def sound_Holds.j0:Nat → Int → Int → Int → Bool → Option (Bool)
 |0,_,_,_,_=>none
 |k+1,x5,x7,x9,x28=>if x28=true then (some false) else (if x7≤x9 then (if x7≤x5 then (some (decide (x5≤x9))) else (some false)) else (if x7≤x5 then (some true) else (some (decide (x5≤x9)))))
def sound_Holds.f (k:Nat) (a0_0:ByteArray) (a0_1:Int) (a0_2:Int) (a1:Int):Option (Bool):=(sound_Day.f a1).bind fun bt114=>((sound_Day.f a0_1).bind fun bt116=>((sound_Day.f a0_2).bind fun bt118=>(if bt114.2=0 then (if bt116.2=0 then (sound_Holds.j0 k bt114.1 bt116.1 bt118.1 (bt118.2 != 0)) else (sound_Holds.j0 k bt114.1 bt116.1 bt118.1 true)) else (sound_Holds.j0 k bt114.1 bt116.1 bt118.1 true))))
theorem sound_Holds.mono_l : ∀ k,(∀ y0 y1 y2 y3,LeO (sound_Holds.j0 k y0 y1 y2 y3) (sound_Holds.j0 (k+1) y0 y1 y2 y3))
 |0=>fun _ _ _ _ r h=>by simp[sound_Holds.j0] at h
 |k+1=>by
  have ih0:=sound_Holds.mono_l k
  ·intro y0 y1 y2 y3
   unfold sound_Holds.j0
   repeat' first
   |(with_reducible exact ih0 _ _ _ _)
   |(with_reducible exact LeO.refl _)
   |(with_reducible exact LeO.none _)
   |(with_reducible refine LeO.ite ?_ ?_)
   |(with_reducible refine LeO.bind ?_ (fun _=>?_))
   |exact ih0 _ _ _ _
   |exact LeO.none _
   |refine LeO.ite ?_ ?_
   |refine LeO.bind ?_ (fun _=>?_)
theorem sound_Holds.mono : ∀ a0 a1 a2 a3 k,LeO (sound_Holds.f k a0 a1 a2 a3) (sound_Holds.f (k+1) a0 a1 a2 a3):=by
 intro a0 a1 a2 a3 k
 have ih0:=sound_Holds.mono_l k
 unfold sound_Holds.f
 repeat' first
   |(with_reducible exact ih0 _ _ _ _)
   |(with_reducible exact LeO.refl _)
   |(with_reducible exact LeO.none _)
   |(with_reducible refine LeO.ite ?_ ?_)
   |(with_reducible refine LeO.bind ?_ (fun _=>?_))
   |exact ih0 _ _ _ _
   |exact LeO.none _
   |refine LeO.ite ?_ ?_
   |refine LeO.bind ?_ (fun _=>?_)
set_option maxHeartbeats 8000000 in
set_option maxRecDepth 100000 in
theorem sound_Holds.calls (k:Nat) (a0_0:ByteArray) (a0_1:Int) (a0_2:Int) (a1:Int) (r:Bool) (w:World) (h:sound_Holds.f k a0_0 a0_1 a0_2 a1=some r) :
  Calls Tryd.prog 17 #[.agg #[.string a0_0,.int .i64 a0_1,.int .i64 a0_2],.int .i64 a1] w fun e w'=>e = .returned (.bool r)∧Below w.heap.size w w':=by
 have hu41:=Tryd.underlying41
 have HB:=ag.mk (Below.refl w.heap.size w)
 have H:((sound_Day.f a1).bind fun bt114=>((sound_Day.f a0_1).bind fun bt116=>((sound_Day.f a0_2).bind fun bt118=>(if bt114.2=0 then (if bt116.2=0 then (sound_Holds.j0 k bt114.1 bt116.1 bt118.1 (bt118.2 != 0)) else (sound_Holds.j0 k bt114.1 bt116.1 bt118.1 true)) else (sound_Holds.j0 k bt114.1 bt116.1 bt118.1 true)))))=some r:=h
 clear h
 replace H:=Option.bind_eq_some_iff.mp H
 obtain⟨⟨t114,t115⟩,A30,H⟩:=H
 replace H:((sound_Day.f a0_1).bind fun bt116=>((sound_Day.f a0_2).bind fun bt118=>(if t115=0 then (if bt116.2=0 then (sound_Holds.j0 k t114 bt116.1 bt118.1 (bt118.2 != 0)) else (sound_Holds.j0 k t114 bt116.1 bt118.1 true)) else (sound_Holds.j0 k t114 bt116.1 bt118.1 true))))=some r:=H
 have A3:=ag.mk A30
 clear A30
 replace H:=Option.bind_eq_some_iff.mp H
 obtain⟨⟨t116,t117⟩,A40,H⟩:=H
 replace H:((sound_Day.f a0_2).bind fun bt118=>(if t115=0 then (if t117=0 then (sound_Holds.j0 k t114 t116 bt118.1 (bt118.2 != 0)) else (sound_Holds.j0 k t114 t116 bt118.1 true)) else (sound_Holds.j0 k t114 t116 bt118.1 true)))=some r:=H
 have A4:=ag.mk A40
 clear A40
 replace H:=Option.bind_eq_some_iff.mp H
 obtain⟨⟨t118,t119⟩,A50,H⟩:=H
 replace H:(if t115=0 then (if t117=0 then (sound_Holds.j0 k t114 t116 t118 (t119 != 0)) else (sound_Holds.j0 k t114 t116 t118 true)) else (sound_Holds.j0 k t114 t116 t118 true))=some r:=H
 have A5:=ag.mk A50
 clear A50
 have HC6:=ag.mk H
 clear H
 go_enter Tryd.func17,Tryd.ntmps17
 go_upto_region 4 with (first|((with_reducible refine aI (N:=2) rfl ?_);refine aH ?hg (N:=2) ?hd (cs:=#[.string a0_0,.int .i64 a0_1,.int .i64 a0_2]) (t:=41) ?hr ?_;(case hd=>rfl);(case hg=>rfl);(case hr=>first|(go_simp;done)|(go_simp;rfl));intro gb113 hg w7 hbox hb;have n0_:=ag.mk (aj (by repeat(first|(with_reducible first|exact HB.o|apply ae|apply aa|apply af)|exact HB.o)) hb);have n1_:=ag.mk (hbox);have n2_:=ag.mk ((by rw[hg];exact(ak (by repeat(first|(with_reducible first|exact HB.o|apply ae|apply aa|apply af)|exact HB.o))):w.heap.size≤gb113));have n3_:=ag.mk ((by rw[hg];exact(ak (by repeat(first|(with_reducible first|exact HB.o|apply ae|apply aa|apply af)|exact HB.o))):w.heap.size≤gb113));clear HB;have HB:=n0_;have BK113:=n1_;have GW113:=n2_;have GE113:=n3_;clear n0_ n1_ n2_ n3_;clear hb hbox hg)|((with_reducible refine aR (f:=16) rfl ?_);refine aZ (some 13) rfl rfl Tryd.func16 (by kernel_rfl) rfl #[.int .i64 a1] rfl (by (try simp only[List.map_toArray,List.map_cons,List.map_nil]);first|done|rfl|(simp only[List.length_drop,List.length_take];rfl)) ?_;(with_reducible refine(sound_Day.calls a1 t114 t115 _ A3.o).mono ?_);rintro e w8 ⟨rfl,hb⟩;refine⟨_,rfl,?_⟩;have n0_:=ag.mk (aN (g:=gb113) (o:=.cells #[.string a0_0,.int .i64 a0_1,.int .i64 a0_2] 41 (0,0)) (by (with_reducible repeat(first|refine av ?_ _|refine aA ?_|refine au ?_ _));exact BK113.o) hb);have n1_:=ag.mk (aj (by repeat(first|(with_reducible first|exact HB.o|apply ae|apply aa|apply af|refine ax ?_ GE113.o)|exact HB.o)) hb);clear BK113;clear HB;have BK113:=n0_;have HB:=n1_;clear n0_ n1_;(try clear hb);(try clear hb2);(try clear hk);(try clear hi);have hcz9_0:w8.cell? ⟨gb113,0,none⟩=some (.string a0_0):=(ah BK113.o 0).trans rfl;have hcz9_1:w8.cell? ⟨gb113,1,none⟩=some (.int .i64 a0_1):=(ah BK113.o 1).trans rfl;have hcz9_2:w8.cell? ⟨gb113,2,none⟩=some (.int .i64 a0_2):=(ah BK113.o 2).trans rfl;have hfz9_0:=ai BK113.o 0;have hfz9_1:=ai BK113.o 1;have hfz9_2:=ai BK113.o 2)|((with_reducible refine aR (f:=16) rfl ?_);refine aZ (some 19) rfl rfl Tryd.func16 (by kernel_rfl) rfl #[.int .i64 a0_1] rfl (by (try simp only[List.map_toArray,List.map_cons,List.map_nil]);first|done|rfl|(simp only[List.length_drop,List.length_take];rfl)) ?_;(with_reducible refine(sound_Day.calls a0_1 t116 t117 _ A4.o).mono ?_);rintro e w10 ⟨rfl,hb⟩;refine⟨_,rfl,?_⟩;have n0_:=ag.mk (aN (g:=gb113) (o:=.cells #[.string a0_0,.int .i64 a0_1,.int .i64 a0_2] 41 (0,0)) (by (with_reducible repeat(first|refine av ?_ _|refine aA ?_|refine au ?_ _));exact BK113.o) hb);have n1_:=ag.mk (aj (by repeat(first|(with_reducible first|exact HB.o|apply ae|apply aa|apply af|refine ax ?_ GE113.o)|exact HB.o)) hb);clear BK113;clear HB;have BK113:=n0_;have HB:=n1_;clear n0_ n1_;(try clear hb);(try clear hb2);(try clear hk);(try clear hi);have hcz11_0:w10.cell? ⟨gb113,0,none⟩=some (.string a0_0):=(ah BK113.o 0).trans rfl;have hcz11_1:w10.cell? ⟨gb113,1,none⟩=some (.int .i64 a0_1):=(ah BK113.o 1).trans rfl;have hcz11_2:w10.cell? ⟨gb113,2,none⟩=some (.int .i64 a0_2):=(ah BK113.o 2).trans rfl;have hfz11_0:=ai BK113.o 0;have hfz11_1:=ai BK113.o 1;have hfz11_2:=ai BK113.o 2)|((with_reducible refine aR (f:=16) rfl ?_);refine aZ (some 25) rfl rfl Tryd.func16 (by kernel_rfl) rfl #[.int .i64 a0_2] rfl (by (try simp only[List.map_toArray,List.map_cons,List.map_nil]);first|done|rfl|(simp only[List.length_drop,List.length_take];rfl)) ?_;(with_reducible refine(sound_Day.calls a0_2 t118 t119 _ A5.o).mono ?_);rintro e w12 ⟨rfl,hb⟩;refine⟨_,rfl,?_⟩;have n0_:=ag.mk (aN (g:=gb113) (o:=.cells #[.string a0_0,.int .i64 a0_1,.int .i64 a0_2] 41 (0,0)) (by (with_reducible repeat(first|refine av ?_ _|refine aA ?_|refine au ?_ _));exact BK113.o) hb);have n1_:=ag.mk (aj (by repeat(first|(with_reducible first|exact HB.o|apply ae|apply aa|apply af|refine ax ?_ GE113.o)|exact HB.o)) hb);clear BK113;clear HB;have BK113:=n0_;have HB:=n1_;clear n0_ n1_;(try clear hb);(try clear hb2);(try clear hk);(try clear hi)))
 (try simp only[Act.put,List.setIfInBounds_toArray,List.set_cons_zero,List.set_cons_succ])
 go_cut [28] (fun v28 wc=>∃ (kq:Nat) (x28_5:Bool),v28 = .bool x28_5∧ag (sound_Holds.j0 kq t114 t116 t118 x28_5=some r)∧ag (kq≤k)∧ag (wc.heap[gb113]? = some (.cells #[.string a0_0,.int .i64 a0_1,.int .i64 a0_2] 41 (0,0)))∧ag (Below w.heap.size w wc))
 case first=>
  have H:=HC6.o
  clear HC6
  by_cases c13:t115=0
  ·rw[if_pos c13] at H
   have c13b0:(t115 == 0)=true:=beq_iff_eq.mpr c13
   have c13b1:(t115 != 0)=false:=bne_eq_false_iff_eq.mpr c13
   clear c13
   (first|rw[c13b0]|(simp only[i64_w,i32_w];rw[c13b0])|skip)
   by_cases c14:t117=0
   ·rw[if_pos c14] at H
    have c14b0:(t117 == 0)=true:=beq_iff_eq.mpr c14
    have c14b1:(t117 != 0)=false:=bne_eq_false_iff_eq.mpr c14
    clear c14
    have H':=ag.mk H
    clear H
    go_wp2
    go_meet
    case rel=>exact⟨_,((t119 != 0)),(by first|rfl|(simp;done)|(simp[*];done)|(simp[aJ];done)|(simp[aK];done)),H',⟨by first|omega|exact Nat.le_refl _⟩,⟨by (with_reducible repeat(first|refine av ?_ _|refine aA ?_|refine au ?_ _));exact BK113.o⟩,⟨by repeat(first|(with_reducible first|exact HB.o|apply ae|apply aa|apply af|refine ax ?_ GE113.o)|exact HB.o)⟩⟩
   ·rw[if_neg c14] at H
    have c14b0:(t117 == 0)=false:=beq_eq_false_iff_ne.mpr c14
    have c14b1:(t117 != 0)=true:=bne_iff_ne.mpr c14
    have H':=ag.mk H
    clear H
    go_wp2
    go_meet
    case rel=>exact⟨_,(true),(by first|rfl|(simp;done)|(simp[*];done)|(simp[aJ];done)|(simp[aK];done)),H',⟨by first|omega|exact Nat.le_refl _⟩,⟨by (with_reducible repeat(first|refine av ?_ _|refine aA ?_|refine au ?_ _));exact BK113.o⟩,⟨by repeat(first|(with_reducible first|exact HB.o|apply ae|apply aa|apply af|refine ax ?_ GE113.o)|exact HB.o)⟩⟩
  ·rw[if_neg c13] at H
   have c13b0:(t115 == 0)=false:=beq_eq_false_iff_ne.mpr c13
   have c13b1:(t115 != 0)=true:=bne_iff_ne.mpr c13
   (first|rw[c13b0]|(simp only[i64_w,i32_w];rw[c13b0])|skip)
   have H':=ag.mk H
   clear H
   go_wp2
   go_meet
   case rel=>exact⟨_,(true),(by first|rfl|(simp;done)|(simp[*];done)|(simp[aJ];done)|(simp[aK];done)),H',⟨by first|omega|exact Nat.le_refl _⟩,⟨by (with_reducible repeat(first|refine av ?_ _|refine aA ?_|refine au ?_ _));exact BK113.o⟩,⟨by repeat(first|(with_reducible first|exact HB.o|apply ae|apply aa|apply af|refine ax ?_ GE113.o)|exact HB.o)⟩⟩
 case rest=>
  clear HC6
  try clear c1
  try clear p2
  try clear c13
  try clear c13b0
  try clear c13b1
  try clear c14
  try clear c14b0
  try clear c14b1
  try clear hcz11_0
  try clear hcz11_1
  try clear hcz11_2
  try clear hcz9_0
  try clear hcz9_1
  try clear hcz9_2
  try clear hfz11_0
  try clear hfz11_1
  try clear hfz11_2
  try clear hfz9_0
  try clear hfz9_1
  try clear hfz9_2
  obtain⟨kq,x28_5,rfl,HA,HJ5,BK113,HB⟩:=hcut
  cases kq with
  |zero=>exact absurd HA.o (by simp[sound_Holds.j0])
  |succ kj5=>
   have H:=HA.o
   clear HA
   simp only[sound_Holds.j0] at H
   by_cases c15:x28_5=true
   ·subst c15
    have H1:(some false)=some r:=by rw[if_pos rfl] at H;exact H
    clear H
    have H:=H1
    clear H1
    obtain rfl:=Option.some.inj H
    go_wp2
    go_ret
    exact⟨by first|rfl|(simp[ay,az] <;> rfl)|(simp[*,ay,az] <;> rfl),by repeat(first|(with_reducible first|exact HB.o|apply ae|apply aa|apply af|refine ax ?_ GE113.o)|exact HB.o)⟩
   ·replace c15:=Bool.eq_false_iff.mpr c15
    subst c15
    have H1:(if t116≤t118 then (if t116≤t114 then (some (decide (t114≤t118))) else (some false)) else (if t116≤t114 then (some true) else (some (decide (t114≤t118)))))=some r:=by rw[if_neg (show ¬ (false=true) by decide)] at H;exact H
    clear H
    have H:=H1
    clear H1
    by_cases c16:t116≤t118
    ·rw[if_pos c16] at H
     have c16b0:decide (t116≤t118)=true:=decide_eq_true c16
     clear c16
     by_cases c17:t116≤t114
     ·rw[if_pos c17] at H
      have c17b0:decide (t116≤t114)=true:=decide_eq_true c17
      clear c17
      obtain rfl:=Option.some.inj H
      go_wp2
      go_ret
      exact⟨by first|rfl|(simp[ay,az] <;> rfl)|(simp[*,ay,az] <;> rfl),by repeat(first|(with_reducible first|exact HB.o|apply ae|apply aa|apply af|refine ax ?_ GE113.o)|exact HB.o)⟩
     ·rw[if_neg c17] at H
      have c17b0:decide (t116≤t114)=false:=decide_eq_false c17
      clear c17
      obtain rfl:=Option.some.inj H
      go_wp2
      go_ret
      exact⟨by first|rfl|(simp[ay,az] <;> rfl)|(simp[*,ay,az] <;> rfl),by repeat(first|(with_reducible first|exact HB.o|apply ae|apply aa|apply af|refine ax ?_ GE113.o)|exact HB.o)⟩
    ·rw[if_neg c16] at H
     have c16b0:decide (t116≤t118)=false:=decide_eq_false c16
     clear c16
     by_cases c18:t116≤t114
     ·rw[if_pos c18] at H
      have c18b0:decide (t116≤t114)=true:=decide_eq_true c18
      clear c18
      obtain rfl:=Option.some.inj H
      go_wp2
      go_ret
      exact⟨by first|rfl|(simp[ay,az] <;> rfl)|(simp[*,ay,az] <;> rfl),by repeat(first|(with_reducible first|exact HB.o|apply ae|apply aa|apply af|refine ax ?_ GE113.o)|exact HB.o)⟩
     ·rw[if_neg c18] at H
      have c18b0:decide (t116≤t114)=false:=decide_eq_false c18
      clear c18
      obtain rfl:=Option.some.inj H
      go_wp2
      go_ret
      exact⟨by first|rfl|(simp[ay,az] <;> rfl)|(simp[*,ay,az] <;> rfl),by repeat(first|(with_reducible first|exact HB.o|apply ae|apply aa|apply af|refine ax ?_ GE113.o)|exact HB.o)⟩
def strings_Trim.f (a0:ByteArray) (a1:ByteArray):Option ByteArray:=if a0.size≤9223372036854775807∧a1.size < 4294967281∧a1.data.toList.all (fun b=>decide (b.toNat < 128))=true then some ⟨(Lib.trimS a0.data.toList a1.data.toList).toArray⟩ else none
set_option maxRecDepth 100000 in
theorem strings_Trim.calls (a0:ByteArray) (a1:ByteArray) (r:ByteArray) (w:World) (h:strings_Trim.f a0 a1=some r) :
  Calls Tryd.prog 50 #[.string a0,.string a1] w fun e w'=>e = .returned (.string r)∧Below w.heap.size w w':=by
 unfold strings_Trim.f at h
 by_cases hc:a0.size≤9223372036854775807∧a1.size < 4294967281∧a1.data.toList.all (fun b=>decide (b.toNat < 128))=true
 ·rw[if_pos hc] at h
  obtain rfl:=Option.some.inj h
  exact Any.strings_Trim_laid Tryd.lays160 (by kernel_rfl) a0 a1 w hc.1 hc.2.1 (ascii_of_all hc.2.2)
 ·rw[if_neg hc] at h
  cases h
def scan_Marks.f (a0:ByteArray):Option (Bool):=(strings_Trim.f a0 (⟨#[97,98,99,100,101,102,103,104,105,106,107,108,109,110,111,112,113,114,115,116,117,118,119,120,121,122,48,49,50,51,52,53,54,55,56,57,95,45]⟩ : ByteArray)).bind fun t120=>(some (t120.toList == ([] : List UInt8)))
set_option maxHeartbeats 8000000 in
set_option maxRecDepth 100000 in
theorem scan_Marks.calls (a0:ByteArray) (r:Bool) (w:World) (h:scan_Marks.f a0=some r) :
  Calls Tryd.prog 42 #[.string a0] w fun e w'=>e = .returned (.bool r)∧Below w.heap.size w w':=by
 have HB:=ag.mk (Below.refl w.heap.size w)
 have H:((strings_Trim.f a0 (⟨#[97,98,99,100,101,102,103,104,105,106,107,108,109,110,111,112,113,114,115,116,117,118,119,120,121,122,48,49,50,51,52,53,54,55,56,57,95,45]⟩ : ByteArray)).bind fun t120=>(some (t120.toList == ([] : List UInt8))))=some r:=h
 clear h
 replace H:=Option.bind_eq_some_iff.mp H
 obtain⟨t120,A20,H⟩:=H
 replace H:(some (t120.toList == ([] : List UInt8)))=some r:=H
 have A2:=ag.mk A20
 clear A20
 obtain rfl:=Option.some.inj H
 go_enter Tryd.func42,Tryd.ntmps42
 go_wp2_with (first|((with_reducible refine aR (f:=50) rfl ?_);refine aZ (some 4) rfl rfl Tryd.func50 (by kernel_rfl) rfl #[.string a0,.string (⟨#[97,98,99,100,101,102,103,104,105,106,107,108,109,110,111,112,113,114,115,116,117,118,119,120,121,122,48,49,50,51,52,53,54,55,56,57,95,45]⟩ : ByteArray)] rfl (by (try simp only[List.map_toArray,List.map_cons,List.map_nil]);first|done|rfl|(simp only[List.length_drop,List.length_take];rfl)) ?_;(with_reducible refine(strings_Trim.calls a0 (⟨#[97,98,99,100,101,102,103,104,105,106,107,108,109,110,111,112,113,114,115,116,117,118,119,120,121,122,48,49,50,51,52,53,54,55,56,57,95,45]⟩ : ByteArray) t120 _ A2.o).mono ?_);rintro e w3 ⟨rfl,hb⟩;refine⟨_,rfl,?_⟩;have n0_:=ag.mk (aj (by repeat(first|(with_reducible first|exact HB.o|apply ae|apply aa|apply af)|exact HB.o)) hb);clear HB;have HB:=n0_;clear n0_;(try clear hb);(try clear hb2);(try clear hk);(try clear hi)))
 go_ret
 exact⟨by first|rfl|(simp[ay,az] <;> rfl)|(simp[*,ay,az] <;> rfl),by repeat(first|(with_reducible first|exact HB.o|apply ae|apply aa|apply af)|exact HB.o)⟩
def scan_Name.f (a0:ByteArray):Option (Bool):=if a0.toList=([] : List UInt8) then (some false) else (if (a0.size:Int)≤24 then (if 0 < (a0.size:Int) then (if (bt a0 0)≥97 then (if (bt a0 0)≤122 then ((scan_Marks.f a0).bind fun t121=>(some t121)) else (some false)) else (some false)) else (none)) else (some false))
set_option maxHeartbeats 8000000 in
set_option maxRecDepth 100000 in
theorem scan_Name.calls (a0:ByteArray) (r:Bool) (w:World) (h:scan_Name.f a0=some r) :
  Calls Tryd.prog 28 #[.string a0] w fun e w'=>e = .returned (.bool r)∧Below w.heap.size w w':=by
 have HB:=ag.mk (Below.refl w.heap.size w)
 have H:(if a0.toList=([] : List UInt8) then (some false) else (if (a0.size:Int)≤24 then (if 0 < (a0.size:Int) then (if (bt a0 0)≥97 then (if (bt a0 0)≤122 then ((scan_Marks.f a0).bind fun t121=>(some t121)) else (some false)) else (some false)) else (none)) else (some false)))=some r:=h
 clear h
 by_cases c2:a0.toList=([] : List UInt8)
 ·rw[if_pos c2] at H
  have c2b0:(a0.toList == ([] : List UInt8))=true:=beq_iff_eq.mpr c2
  have c2b1:(a0.toList != ([] : List UInt8))=false:=bne_eq_false_iff_eq.mpr c2
  clear c2
  obtain rfl:=Option.some.inj H
  go_enter Tryd.func28,Tryd.ntmps28
  go_wp2
  go_ret
  exact⟨by first|rfl|(simp[ay,az] <;> rfl)|(simp[*,ay,az] <;> rfl),by repeat(first|(with_reducible first|exact HB.o|apply ae|apply aa|apply af)|exact HB.o)⟩
 ·rw[if_neg c2] at H
  have c2b0:(a0.toList == ([] : List UInt8))=false:=beq_eq_false_iff_ne.mpr c2
  have c2b1:(a0.toList != ([] : List UInt8))=true:=bne_iff_ne.mpr c2
  by_cases c3:(a0.size:Int)≤24
  ·rw[if_pos c3] at H
   have c3b0:decide ((a0.size:Int)≤24)=true:=decide_eq_true c3
   have c3b1:decide (a0.size≤24)=true:=decide_eq_true (by omega)
   clear c3
   by_cases c4:0 < (a0.size:Int)
   ·rw[if_pos c4] at H
    have c4b0:decide (0 < (a0.size:Int))=true:=decide_eq_true c4
    have c4b1:decide (0 < a0.size)=true:=decide_eq_true (by omega)
    clear c4
    by_cases c6:(bt a0 0)≥97
    ·rw[if_pos c6] at H
     have c6b0:decide (97≤(bt a0 0))=true:=decide_eq_true c6
     clear c6
     by_cases c8:(bt a0 0)≤122
     ·rw[if_pos c8] at H
      have c8b0:decide ((bt a0 0)≤122)=true:=decide_eq_true c8
      clear c8
      replace H:=Option.bind_eq_some_iff.mp H
      obtain⟨t121,A90,H⟩:=H
      replace H:(some t121)=some r:=H
      have A9:=ag.mk A90
      clear A90
      obtain rfl:=Option.some.inj H
      have p5:0≤(0:Int):=(by omega)
      have q5:0 < a0.size:=(by have:(0:Int) < (a0.size:Int):=of_decide_eq_true (by first|(with_reducible assumption)|assumption);omega)
      have hx5 : ∀ h:0 < a0.size,((a0[0]'h).toNat:Int)=bt a0 0:=bt_at a0 0
      clear p5
      have qi5:(0 < (a0.size:Int))=True:=eq_true (of_decide_eq_true (by first|(with_reducible assumption)|assumption))
      replace q5:=eq_true q5
      have p7:0≤(0:Int):=(by omega)
      have q7:0 < a0.size:=(by have:(0:Int) < (a0.size:Int):=of_decide_eq_true (by first|(with_reducible assumption)|assumption);omega)
      have hx7 : ∀ h:0 < a0.size,((a0[0]'h).toNat:Int)=bt a0 0:=bt_at a0 0
      clear p7
      have qi7:(0 < (a0.size:Int))=True:=eq_true (of_decide_eq_true (by first|(with_reducible assumption)|assumption))
      replace q7:=eq_true q7
      go_enter Tryd.func28,Tryd.ntmps28
      go_wp2_with (first|(go_at_call 42;(with_reducible refine(scan_Marks.calls a0 t121 _ A9.o).mono ?_);rintro e w10 ⟨rfl,hb⟩;have n0_:=ag.mk (aj (by repeat(first|(with_reducible first|exact HB.o|apply ae|apply aa|apply af)|exact HB.o)) hb);clear HB;have HB:=n0_;clear n0_;(try clear hb);(try clear hb2);(try clear hk);(try clear hi)))
      go_ret
      exact⟨by first|rfl|(simp[ay,az] <;> rfl)|(simp[*,ay,az] <;> rfl),by repeat(first|(with_reducible first|exact HB.o|apply ae|apply aa|apply af)|exact HB.o)⟩
     ·rw[if_neg c8] at H
      have c8b0:decide ((bt a0 0)≤122)=false:=decide_eq_false c8
      clear c8
      obtain rfl:=Option.some.inj H
      have p5:0≤(0:Int):=(by omega)
      have q5:0 < a0.size:=(by have:(0:Int) < (a0.size:Int):=of_decide_eq_true (by first|(with_reducible assumption)|assumption);omega)
      have hx5 : ∀ h:0 < a0.size,((a0[0]'h).toNat:Int)=bt a0 0:=bt_at a0 0
      clear p5
      have qi5:(0 < (a0.size:Int))=True:=eq_true (of_decide_eq_true (by first|(with_reducible assumption)|assumption))
      replace q5:=eq_true q5
      have p7:0≤(0:Int):=(by omega)
      have q7:0 < a0.size:=(by have:(0:Int) < (a0.size:Int):=of_decide_eq_true (by first|(with_reducible assumption)|assumption);omega)
      have hx7 : ∀ h:0 < a0.size,((a0[0]'h).toNat:Int)=bt a0 0:=bt_at a0 0
      clear p7
      have qi7:(0 < (a0.size:Int))=True:=eq_true (of_decide_eq_true (by first|(with_reducible assumption)|assumption))
      replace q7:=eq_true q7
      go_enter Tryd.func28,Tryd.ntmps28
      go_wp2
      go_ret
      exact⟨by first|rfl|(simp[ay,az] <;> rfl)|(simp[*,ay,az] <;> rfl),by repeat(first|(with_reducible first|exact HB.o|apply ae|apply aa|apply af)|exact HB.o)⟩
    ·rw[if_neg c6] at H
     have c6b0:decide (97≤(bt a0 0))=false:=decide_eq_false c6
     clear c6
     obtain rfl:=Option.some.inj H
     have p5:0≤(0:Int):=(by omega)
     have q5:0 < a0.size:=(by have:(0:Int) < (a0.size:Int):=of_decide_eq_true (by first|(with_reducible assumption)|assumption);omega)
     have hx5 : ∀ h:0 < a0.size,((a0[0]'h).toNat:Int)=bt a0 0:=bt_at a0 0
     clear p5
     have qi5:(0 < (a0.size:Int))=True:=eq_true (of_decide_eq_true (by first|(with_reducible assumption)|assumption))
     replace q5:=eq_true q5
     go_enter Tryd.func28,Tryd.ntmps28
     go_wp2
     go_ret
     exact⟨by first|rfl|(simp[ay,az] <;> rfl)|(simp[*,ay,az] <;> rfl),by repeat(first|(with_reducible first|exact HB.o|apply ae|apply aa|apply af)|exact HB.o)⟩
   ·rw[if_neg c4] at H
    exact absurd H (by simp)
  ·rw[if_neg c3] at H
   have c3b0:decide ((a0.size:Int)≤24)=false:=decide_eq_false c3
   have c3b1:decide (a0.size≤24)=false:=decide_eq_false (by omega)
   clear c3
   obtain rfl:=Option.some.inj H
   go_enter Tryd.func28,Tryd.ntmps28
   go_wp2
   go_ret
   exact⟨by first|rfl|(simp[ay,az] <;> rfl)|(simp[*,ay,az] <;> rfl),by repeat(first|(with_reducible first|exact HB.o|apply ae|apply aa|apply af)|exact HB.o)⟩
def sound_within.f (a0:Int) (a1:Int) (a2:Int):Option (Bool):=if a0≥a1 then (some (decide (a0≤a2))) else (some false)
set_option maxHeartbeats 8000000 in
set_option maxRecDepth 100000 in
theorem sound_within.calls (a0:Int) (a1:Int) (a2:Int) (r:Bool) (w:World) (h:sound_within.f a0 a1 a2=some r) :
  Calls Tryd.prog 30 #[.int .i64 a0,.int .i64 a1,.int .i64 a2] w fun e w'=>e = .returned (.bool r)∧aQ w w':=by
 have H:(if a0≥a1 then (some (decide (a0≤a2))) else (some false))=some r:=h
 clear h
 by_cases c4:a0≥a1
 ·rw[if_pos c4] at H
  have c4b0:decide (a1≤a0)=true:=decide_eq_true c4
  clear c4
  obtain rfl:=Option.some.inj H
  go_enter Tryd.func30,Tryd.ntmps30
  go_wp2
  go_ret
  exact⟨by first|rfl|(simp;done)|(simp[*];done),by repeat(first|exact aQ.refl _|apply aQ.step)⟩
 ·rw[if_neg c4] at H
  have c4b0:decide (a1≤a0)=false:=decide_eq_false c4
  clear c4
  obtain rfl:=Option.some.inj H
  go_enter Tryd.func30,Tryd.ntmps30
  go_wp2
  go_ret
  exact⟨by first|rfl|(simp;done)|(simp[*];done),by repeat(first|exact aQ.refl _|apply aQ.step)⟩
end Go.Proofs.YtcmhfcciapenfaaDoor.Pa
