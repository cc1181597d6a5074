/- A part of the proof. -/
import Derived.Test.YtcmhfcciapenfaaDoorQ15
set_option linter.all false
namespace Go.Proofs.YtcmhfcciapenfaaDoor.Pa
open Go.RowKit Go.Proofs.YtcmhfcciapenfaaDoorW.PrintWords Go.Proofs.YtcmhfcciapenfaaDoorW.PrintLast Go.Proofs.YtcmhfcciapenfaaDoorW.PrintMore
attribute [local go_sem] bJ bL bU bV bA bB bM bN
mutual
def zone_Check.j0:Nat → Bool → Int → Int → Int → Int → Int → Int → Int → Int → Int → Int → Option (Int)
 |0,_,_,_,_,_,_,_,_,_,_,_=>none
 |k+1,x3,x153000,x153001,x153002,x153003,x153004,x153005,x153006,x153007,x153008,x153009=>if x3=true then (some 8) else (if x153001=0 then (some 0) else (if x153001=30 then (zone_Check.j1 k false x153000 x153001 x153002 x153003 x153004 x153005 x153006 x153007 x153008 x153009) else (zone_Check.j1 k (x153001 != 60) x153000 x153001 x153002 x153003 x153004 x153005 x153006 x153007 x153008 x153009)))
def zone_Check.j1:Nat → Bool → Int → Int → Int → Int → Int → Int → Int → Int → Int → Int → Option (Int)
 |0,_,_,_,_,_,_,_,_,_,_,_=>none
 |k+1,x22,x153000,x153001,x153002,x153003,x153004,x153005,x153006,x153007,x153008,x153009=>if x22=true then (some 8) else ((zone_good.f k x153002 x153003 x153004 x153005).bind fun t153=>(if t153=true then ((zone_good.f k x153006 x153007 x153008 x153009).bind fun t154=>(if t154=true then (if x153002=x153006 then (some 8) else (some 0)) else (some 8))) else (some 8)))
end
def zone_Check.f (k:Nat) (a0_0:Int) (a0_1:Int) (a0_2:Int) (a0_3:Int) (a0_4:Int) (a0_5:Int) (a0_6:Int) (a0_7:Int) (a0_8:Int) (a0_9:Int):Option (Int):=if a0_0 < (-720) then (zone_Check.j0 k true a0_0 a0_1 a0_2 a0_3 a0_4 a0_5 a0_6 a0_7 a0_8 a0_9) else (if a0_0 > 840 then (zone_Check.j0 k true a0_0 a0_1 a0_2 a0_3 a0_4 a0_5 a0_6 a0_7 a0_8 a0_9) else (zone_Check.j0 k ((Int.tmod a0_0 15) != 0) a0_0 a0_1 a0_2 a0_3 a0_4 a0_5 a0_6 a0_7 a0_8 a0_9))
set_option maxHeartbeats 8000000 in
set_option maxRecDepth 100000 in
theorem zone_Check.calls (k:Nat) (a0_0:Int) (a0_1:Int) (a0_2:Int) (a0_3:Int) (a0_4:Int) (a0_5:Int) (a0_6:Int) (a0_7:Int) (a0_8:Int) (a0_9:Int) (r:Int) (w:World) (h:zone_Check.f k a0_0 a0_1 a0_2 a0_3 a0_4 a0_5 a0_6 a0_7 a0_8 a0_9=some r) :
  Calls Tryd.prog 29 #[.agg #[.int .i64 a0_0,.int .i64 a0_1,.int .i64 a0_2,.int .i64 a0_3,.int .i64 a0_4,.int .i64 a0_5,.int .i64 a0_6,.int .i64 a0_7,.int .i64 a0_8,.int .i64 a0_9]] w fun e w'=>e = .returned (.int .i64 r)∧Below w.heap.size w w':=by
 have hu25:=Tryd.underlying25
 have hu23:=Tryd.underlying23
 have HB:=ag.mk (Below.refl w.heap.size w)
 have H:(if a0_0 < (-720) then (zone_Check.j0 k true a0_0 a0_1 a0_2 a0_3 a0_4 a0_5 a0_6 a0_7 a0_8 a0_9) else (if a0_0 > 840 then (zone_Check.j0 k true a0_0 a0_1 a0_2 a0_3 a0_4 a0_5 a0_6 a0_7 a0_8 a0_9) else (zone_Check.j0 k ((Int.tmod a0_0 15) != 0) a0_0 a0_1 a0_2 a0_3 a0_4 a0_5 a0_6 a0_7 a0_8 a0_9)))=some r:=h
 clear h
 have HC2:=ag.mk H
 clear H
 go_enter Tryd.func29,Tryd.ntmps29
 go_upto_region 1 with (first|((with_reducible refine aI (N:=1) rfl ?_);refine aH ?hg (N:=1) ?hd (cs:=#[.int .i64 a0_0,.int .i64 a0_1,.int .i64 a0_2,.int .i64 a0_3,.int .i64 a0_4,.int .i64 a0_5,.int .i64 a0_6,.int .i64 a0_7,.int .i64 a0_8,.int .i64 a0_9]) (t:=25) ?hr ?_;(case hd=>rfl);(case hg=>rfl);(case hr=>first|(go_simp;done)|(go_simp;rfl));intro gb152 hg w3 hbox hb;have n0_:=ag.mk (aj (by repeat(first|(with_reducible first|exact HB.o|apply ae|apply aa|apply af)|exact HB.o)) hb);have n1_:=ag.mk (hbox);have n2_:=ag.mk ((by rw[hg];exact(ak (by repeat(first|(with_reducible first|exact HB.o|apply ae|apply aa|apply af)|exact HB.o))):w.heap.size≤gb152));have n3_:=ag.mk ((by rw[hg];exact(ak (by repeat(first|(with_reducible first|exact HB.o|apply ae|apply aa|apply af)|exact HB.o))):w.heap.size≤gb152));clear HB;have HB:=n0_;have BK152:=n1_;have GW152:=n2_;have GE152:=n3_;clear n0_ n1_ n2_ n3_;clear hb hbox hg))
 (try simp only[Act.put,List.setIfInBounds_toArray,List.set_cons_zero,List.set_cons_succ])
 go_cut [3] (fun v3 wc=>∃ (kq:Nat) (x3_1:Bool),v3 = .bool x3_1∧ag (zone_Check.j0 kq x3_1 a0_0 a0_1 a0_2 a0_3 a0_4 a0_5 a0_6 a0_7 a0_8 a0_9=some r)∧ag (kq≤k)∧ag (wc.heap[gb152]? = some (.cells #[.int .i64 a0_0,.int .i64 a0_1,.int .i64 a0_2,.int .i64 a0_3,.int .i64 a0_4,.int .i64 a0_5,.int .i64 a0_6,.int .i64 a0_7,.int .i64 a0_8,.int .i64 a0_9] 25 (0,0)))∧ag (Below w.heap.size w wc))
 case first=>
  have H:=HC2.o
  clear HC2
  by_cases c4:a0_0 < (-720)
  ·rw[if_pos c4] at H
   have c4b0:decide (a0_0 < (-720))=true:=decide_eq_true c4
   clear c4
   (first|rw[c4b0]|(simp only[i64_w,i32_w];rw[c4b0])|skip)
   have H':=ag.mk H
   clear H
   have hcz5_0:w3.cell? ⟨gb152,0,none⟩=some (.int .i64 a0_0):=(ah BK152.o 0).trans rfl
   have hcz5_1:w3.cell? ⟨gb152,1,none⟩=some (.int .i64 a0_1):=(ah BK152.o 1).trans rfl
   have hcz5_2:w3.cell? ⟨gb152,2,none⟩=some (.int .i64 a0_2):=(ah BK152.o 2).trans rfl
   have hcz5_3:w3.cell? ⟨gb152,3,none⟩=some (.int .i64 a0_3):=(ah BK152.o 3).trans rfl
   have hcz5_4:w3.cell? ⟨gb152,4,none⟩=some (.int .i64 a0_4):=(ah BK152.o 4).trans rfl
   have hcz5_5:w3.cell? ⟨gb152,5,none⟩=some (.int .i64 a0_5):=(ah BK152.o 5).trans rfl
   have hcz5_6:w3.cell? ⟨gb152,6,none⟩=some (.int .i64 a0_6):=(ah BK152.o 6).trans rfl
   have hcz5_7:w3.cell? ⟨gb152,7,none⟩=some (.int .i64 a0_7):=(ah BK152.o 7).trans rfl
   have hcz5_8:w3.cell? ⟨gb152,8,none⟩=some (.int .i64 a0_8):=(ah BK152.o 8).trans rfl
   have hcz5_9:w3.cell? ⟨gb152,9,none⟩=some (.int .i64 a0_9):=(ah BK152.o 9).trans rfl
   have hfz5_0:=ai BK152.o 0
   have hfz5_1:=ai BK152.o 1
   have hfz5_2:=ai BK152.o 2
   have hfz5_3:=ai BK152.o 3
   have hfz5_4:=ai BK152.o 4
   have hfz5_5:=ai BK152.o 5
   have hfz5_6:=ai BK152.o 6
   have hfz5_7:=ai BK152.o 7
   have hfz5_8:=ai BK152.o 8
   have hfz5_9:=ai BK152.o 9
   go_wp2
   go_meet
   case rel=>exact⟨_,(true),(by first|rfl|(simp;done)|(simp[*];done)|(simp[aJ];done)|(simp[aK];done)),H',⟨by first|omega|exact Nat.le_refl _⟩,⟨by (with_reducible repeat(first|refine av ?_ _|refine aA ?_|refine au ?_ _));exact BK152.o⟩,⟨by repeat(first|(with_reducible first|exact HB.o|apply ae|apply aa|apply af|refine ax ?_ GE152.o)|exact HB.o)⟩⟩
  ·rw[if_neg c4] at H
   have c4b0:decide (a0_0 < (-720))=false:=decide_eq_false c4
   clear c4
   (first|rw[c4b0]|(simp only[i64_w,i32_w];rw[c4b0])|skip)
   by_cases c6:a0_0 > 840
   ·rw[if_pos c6] at H
    have c6b0:decide (840 < a0_0)=true:=decide_eq_true c6
    clear c6
    have H':=ag.mk H
    clear H
    have hcz7_0:w3.cell? ⟨gb152,0,none⟩=some (.int .i64 a0_0):=(ah BK152.o 0).trans rfl
    have hcz7_1:w3.cell? ⟨gb152,1,none⟩=some (.int .i64 a0_1):=(ah BK152.o 1).trans rfl
    have hcz7_2:w3.cell? ⟨gb152,2,none⟩=some (.int .i64 a0_2):=(ah BK152.o 2).trans rfl
    have hcz7_3:w3.cell? ⟨gb152,3,none⟩=some (.int .i64 a0_3):=(ah BK152.o 3).trans rfl
    have hcz7_4:w3.cell? ⟨gb152,4,none⟩=some (.int .i64 a0_4):=(ah BK152.o 4).trans rfl
    have hcz7_5:w3.cell? ⟨gb152,5,none⟩=some (.int .i64 a0_5):=(ah BK152.o 5).trans rfl
    have hcz7_6:w3.cell? ⟨gb152,6,none⟩=some (.int .i64 a0_6):=(ah BK152.o 6).trans rfl
    have hcz7_7:w3.cell? ⟨gb152,7,none⟩=some (.int .i64 a0_7):=(ah BK152.o 7).trans rfl
    have hcz7_8:w3.cell? ⟨gb152,8,none⟩=some (.int .i64 a0_8):=(ah BK152.o 8).trans rfl
    have hcz7_9:w3.cell? ⟨gb152,9,none⟩=some (.int .i64 a0_9):=(ah BK152.o 9).trans rfl
    have hfz7_0:=ai BK152.o 0
    have hfz7_1:=ai BK152.o 1
    have hfz7_2:=ai BK152.o 2
    have hfz7_3:=ai BK152.o 3
    have hfz7_4:=ai BK152.o 4
    have hfz7_5:=ai BK152.o 5
    have hfz7_6:=ai BK152.o 6
    have hfz7_7:=ai BK152.o 7
    have hfz7_8:=ai BK152.o 8
    have hfz7_9:=ai BK152.o 9
    go_wp2
    go_meet
    case rel=>exact⟨_,(true),(by first|rfl|(simp;done)|(simp[*];done)|(simp[aJ];done)|(simp[aK];done)),H',⟨by first|omega|exact Nat.le_refl _⟩,⟨by (with_reducible repeat(first|refine av ?_ _|refine aA ?_|refine au ?_ _));exact BK152.o⟩,⟨by repeat(first|(with_reducible first|exact HB.o|apply ae|apply aa|apply af|refine ax ?_ GE152.o)|exact HB.o)⟩⟩
   ·rw[if_neg c6] at H
    have c6b0:decide (840 < a0_0)=false:=decide_eq_false c6
    clear c6
    have H':=ag.mk H
    clear H
    have hcz8_0:w3.cell? ⟨gb152,0,none⟩=some (.int .i64 a0_0):=(ah BK152.o 0).trans rfl
    have hcz8_1:w3.cell? ⟨gb152,1,none⟩=some (.int .i64 a0_1):=(ah BK152.o 1).trans rfl
    have hcz8_2:w3.cell? ⟨gb152,2,none⟩=some (.int .i64 a0_2):=(ah BK152.o 2).trans rfl
    have hcz8_3:w3.cell? ⟨gb152,3,none⟩=some (.int .i64 a0_3):=(ah BK152.o 3).trans rfl
    have hcz8_4:w3.cell? ⟨gb152,4,none⟩=some (.int .i64 a0_4):=(ah BK152.o 4).trans rfl
    have hcz8_5:w3.cell? ⟨gb152,5,none⟩=some (.int .i64 a0_5):=(ah BK152.o 5).trans rfl
    have hcz8_6:w3.cell? ⟨gb152,6,none⟩=some (.int .i64 a0_6):=(ah BK152.o 6).trans rfl
    have hcz8_7:w3.cell? ⟨gb152,7,none⟩=some (.int .i64 a0_7):=(ah BK152.o 7).trans rfl
    have hcz8_8:w3.cell? ⟨gb152,8,none⟩=some (.int .i64 a0_8):=(ah BK152.o 8).trans rfl
    have hcz8_9:w3.cell? ⟨gb152,9,none⟩=some (.int .i64 a0_9):=(ah BK152.o 9).trans rfl
    have hfz8_0:=ai BK152.o 0
    have hfz8_1:=ai BK152.o 1
    have hfz8_2:=ai BK152.o 2
    have hfz8_3:=ai BK152.o 3
    have hfz8_4:=ai BK152.o 4
    have hfz8_5:=ai BK152.o 5
    have hfz8_6:=ai BK152.o 6
    have hfz8_7:=ai BK152.o 7
    have hfz8_8:=ai BK152.o 8
    have hfz8_9:=ai BK152.o 9
    go_wp2
    go_meet
    case rel=>exact⟨_,(((Int.tmod a0_0 15) != 0)),(by first|rfl|(simp;done)|(simp[*];done)|(simp[aJ];done)|(simp[aK];done)),H',⟨by first|omega|exact Nat.le_refl _⟩,⟨by (with_reducible repeat(first|refine av ?_ _|refine aA ?_|refine au ?_ _));exact BK152.o⟩,⟨by repeat(first|(with_reducible first|exact HB.o|apply ae|apply aa|apply af|refine ax ?_ GE152.o)|exact HB.o)⟩⟩
 case rest=>
  clear HC2
  try clear c2
  try clear p2
  try clear c4
  try clear c4b0
  try clear c6
  try clear c6b0
  try clear hcz5_0
  try clear hcz5_1
  try clear hcz5_2
  try clear hcz5_3
  try clear hcz5_4
  try clear hcz5_5
  try clear hcz5_6
  try clear hcz5_7
  try clear hcz5_8
  try clear hcz5_9
  try clear hcz7_0
  try clear hcz7_1
  try clear hcz7_2
  try clear hcz7_3
  try clear hcz7_4
  try clear hcz7_5
  try clear hcz7_6
  try clear hcz7_7
  try clear hcz7_8
  try clear hcz7_9
  try clear hcz8_0
  try clear hcz8_1
  try clear hcz8_2
  try clear hcz8_3
  try clear hcz8_4
  try clear hcz8_5
  try clear hcz8_6
  try clear hcz8_7
  try clear hcz8_8
  try clear hcz8_9
  try clear hfz5_0
  try clear hfz5_1
  try clear hfz5_2
  try clear hfz5_3
  try clear hfz5_4
  try clear hfz5_5
  try clear hfz5_6
  try clear hfz5_7
  try clear hfz5_8
  try clear hfz5_9
  try clear hfz7_0
  try clear hfz7_1
  try clear hfz7_2
  try clear hfz7_3
  try clear hfz7_4
  try clear hfz7_5
  try clear hfz7_6
  try clear hfz7_7
  try clear hfz7_8
  try clear hfz7_9
  try clear hfz8_0
  try clear hfz8_1
  try clear hfz8_2
  try clear hfz8_3
  try clear hfz8_4
  try clear hfz8_5
  try clear hfz8_6
  try clear hfz8_7
  try clear hfz8_8
  try clear hfz8_9
  obtain⟨kq,x3_1,rfl,HA,HJ1,BK152,HB⟩:=hcut
  cases kq with
  |zero=>exact absurd HA.o (by simp[zone_Check.j0])
  |succ kj1=>
   have H:=HA.o
   clear HA
   simp only[zone_Check.j0] at H
   by_cases c9:x3_1=true
   ·subst c9
    have H1:(some 8)=some r:=by rw[if_pos rfl] at H;exact H
    clear H
    have H:=H1
    clear H1
    obtain rfl:=Option.some.inj H
    go_wp2
    go_ret
    exact⟨by first|rfl|(simp[ay,az] <;> rfl)|(simp[*,ay,az] <;> rfl),by repeat(first|(with_reducible first|exact HB.o|apply ae|apply aa|apply af|refine ax ?_ GE152.o)|exact HB.o)⟩
   ·replace c9:=Bool.eq_false_iff.mpr c9
    subst c9
    have H1:(if a0_1=0 then (some 0) else (if a0_1=30 then (zone_Check.j1 kj1 false a0_0 a0_1 a0_2 a0_3 a0_4 a0_5 a0_6 a0_7 a0_8 a0_9) else (zone_Check.j1 kj1 (a0_1 != 60) a0_0 a0_1 a0_2 a0_3 a0_4 a0_5 a0_6 a0_7 a0_8 a0_9)))=some r:=by rw[if_neg (show ¬ (false=true) by decide)] at H;exact H
    clear H
    have H:=H1
    clear H1
    by_cases c10:a0_1=0
    ·rw[if_pos c10] at H
     have c10b0:(a0_1 == 0)=true:=beq_iff_eq.mpr c10
     have c10b1:(a0_1 != 0)=false:=bne_eq_false_iff_eq.mpr c10
     clear c10
     obtain rfl:=Option.some.inj H
     have hcz11_0:wc.cell? ⟨gb152,0,none⟩=some (.int .i64 a0_0):=(ah BK152.o 0).trans rfl
     have hcz11_1:wc.cell? ⟨gb152,1,none⟩=some (.int .i64 a0_1):=(ah BK152.o 1).trans rfl
     have hcz11_2:wc.cell? ⟨gb152,2,none⟩=some (.int .i64 a0_2):=(ah BK152.o 2).trans rfl
     have hcz11_3:wc.cell? ⟨gb152,3,none⟩=some (.int .i64 a0_3):=(ah BK152.o 3).trans rfl
     have hcz11_4:wc.cell? ⟨gb152,4,none⟩=some (.int .i64 a0_4):=(ah BK152.o 4).trans rfl
     have hcz11_5:wc.cell? ⟨gb152,5,none⟩=some (.int .i64 a0_5):=(ah BK152.o 5).trans rfl
     have hcz11_6:wc.cell? ⟨gb152,6,none⟩=some (.int .i64 a0_6):=(ah BK152.o 6).trans rfl
     have hcz11_7:wc.cell? ⟨gb152,7,none⟩=some (.int .i64 a0_7):=(ah BK152.o 7).trans rfl
     have hcz11_8:wc.cell? ⟨gb152,8,none⟩=some (.int .i64 a0_8):=(ah BK152.o 8).trans rfl
     have hcz11_9:wc.cell? ⟨gb152,9,none⟩=some (.int .i64 a0_9):=(ah BK152.o 9).trans rfl
     have hfz11_0:=ai BK152.o 0
     have hfz11_1:=ai BK152.o 1
     have hfz11_2:=ai BK152.o 2
     have hfz11_3:=ai BK152.o 3
     have hfz11_4:=ai BK152.o 4
     have hfz11_5:=ai BK152.o 5
     have hfz11_6:=ai BK152.o 6
     have hfz11_7:=ai BK152.o 7
     have hfz11_8:=ai BK152.o 8
     have hfz11_9:=ai BK152.o 9
     go_wp2
     go_ret
     exact⟨by first|rfl|(simp[ay,az] <;> rfl)|(simp[*,ay,az] <;> rfl),by repeat(first|(with_reducible first|exact HB.o|apply ae|apply aa|apply af|refine ax ?_ GE152.o)|exact HB.o)⟩
    ·rw[if_neg c10] at H
     have c10b0:(a0_1 == 0)=false:=beq_eq_false_iff_ne.mpr c10
     have c10b1:(a0_1 != 0)=true:=bne_iff_ne.mpr c10
     have HC12:=ag.mk H
     clear H
     have hcz13_0:wc.cell? ⟨gb152,0,none⟩=some (.int .i64 a0_0):=(ah BK152.o 0).trans rfl
     have hcz13_1:wc.cell? ⟨gb152,1,none⟩=some (.int .i64 a0_1):=(ah BK152.o 1).trans rfl
     have hcz13_2:wc.cell? ⟨gb152,2,none⟩=some (.int .i64 a0_2):=(ah BK152.o 2).trans rfl
     have hcz13_3:wc.cell? ⟨gb152,3,none⟩=some (.int .i64 a0_3):=(ah BK152.o 3).trans rfl
     have hcz13_4:wc.cell? ⟨gb152,4,none⟩=some (.int .i64 a0_4):=(ah BK152.o 4).trans rfl
     have hcz13_5:wc.cell? ⟨gb152,5,none⟩=some (.int .i64 a0_5):=(ah BK152.o 5).trans rfl
     have hcz13_6:wc.cell? ⟨gb152,6,none⟩=some (.int .i64 a0_6):=(ah BK152.o 6).trans rfl
     have hcz13_7:wc.cell? ⟨gb152,7,none⟩=some (.int .i64 a0_7):=(ah BK152.o 7).trans rfl
     have hcz13_8:wc.cell? ⟨gb152,8,none⟩=some (.int .i64 a0_8):=(ah BK152.o 8).trans rfl
     have hcz13_9:wc.cell? ⟨gb152,9,none⟩=some (.int .i64 a0_9):=(ah BK152.o 9).trans rfl
     have hfz13_0:=ai BK152.o 0
     have hfz13_1:=ai BK152.o 1
     have hfz13_2:=ai BK152.o 2
     have hfz13_3:=ai BK152.o 3
     have hfz13_4:=ai BK152.o 4
     have hfz13_5:=ai BK152.o 5
     have hfz13_6:=ai BK152.o 6
     have hfz13_7:=ai BK152.o 7
     have hfz13_8:=ai BK152.o 8
     have hfz13_9:=ai BK152.o 9
     go_upto_region 5 with (fail)
     go_cut [22] (fun v22 wc=>∃ (kq:Nat) (x22_11:Bool),v22 = .bool x22_11∧ag (zone_Check.j1 kq x22_11 a0_0 a0_1 a0_2 a0_3 a0_4 a0_5 a0_6 a0_7 a0_8 a0_9=some r)∧ag (kq≤kj1)∧ag (wc.heap[gb152]? = some (.cells #[.int .i64 a0_0,.int .i64 a0_1,.int .i64 a0_2,.int .i64 a0_3,.int .i64 a0_4,.int .i64 a0_5,.int .i64 a0_6,.int .i64 a0_7,.int .i64 a0_8,.int .i64 a0_9] 25 (0,0)))∧ag (Below w.heap.size w wc))
     case first=>
      have H:=HC12.o
      clear HC12
      by_cases c14:a0_1=30
      ·rw[if_pos c14] at H
       have c14b0:(a0_1 == 30)=true:=beq_iff_eq.mpr c14
       have c14b1:(a0_1 != 30)=false:=bne_eq_false_iff_eq.mpr c14
       clear c14
       (first|rw[c14b0]|(simp only[i64_w,i32_w];rw[c14b0])|skip)
       have H':=ag.mk H
       clear H
       have hcz15_0:wc.cell? ⟨gb152,0,none⟩=some (.int .i64 a0_0):=(ah BK152.o 0).trans rfl
       have hcz15_1:wc.cell? ⟨gb152,1,none⟩=some (.int .i64 a0_1):=(ah BK152.o 1).trans rfl
       have hcz15_2:wc.cell? ⟨gb152,2,none⟩=some (.int .i64 a0_2):=(ah BK152.o 2).trans rfl
       have hcz15_3:wc.cell? ⟨gb152,3,none⟩=some (.int .i64 a0_3):=(ah BK152.o 3).trans rfl
       have hcz15_4:wc.cell? ⟨gb152,4,none⟩=some (.int .i64 a0_4):=(ah BK152.o 4).trans rfl
       have hcz15_5:wc.cell? ⟨gb152,5,none⟩=some (.int .i64 a0_5):=(ah BK152.o 5).trans rfl
       have hcz15_6:wc.cell? ⟨gb152,6,none⟩=some (.int .i64 a0_6):=(ah BK152.o 6).trans rfl
       have hcz15_7:wc.cell? ⟨gb152,7,none⟩=some (.int .i64 a0_7):=(ah BK152.o 7).trans rfl
       have hcz15_8:wc.cell? ⟨gb152,8,none⟩=some (.int .i64 a0_8):=(ah BK152.o 8).trans rfl
       have hcz15_9:wc.cell? ⟨gb152,9,none⟩=some (.int .i64 a0_9):=(ah BK152.o 9).trans rfl
       have hfz15_0:=ai BK152.o 0
       have hfz15_1:=ai BK152.o 1
       have hfz15_2:=ai BK152.o 2
       have hfz15_3:=ai BK152.o 3
       have hfz15_4:=ai BK152.o 4
       have hfz15_5:=ai BK152.o 5
       have hfz15_6:=ai BK152.o 6
       have hfz15_7:=ai BK152.o 7
       have hfz15_8:=ai BK152.o 8
       have hfz15_9:=ai BK152.o 9
       go_wp2
       go_meet
       case rel=>exact⟨_,(false),(by first|rfl|(simp;done)|(simp[*];done)|(simp[aJ];done)|(simp[aK];done)),H',⟨by have:=HJ1.o;first|omega|exact Nat.le_refl _⟩,⟨by (with_reducible repeat(first|refine av ?_ _|refine aA ?_|refine au ?_ _));exact BK152.o⟩,⟨by repeat(first|(with_reducible first|exact HB.o|apply ae|apply aa|apply af|refine ax ?_ GE152.o)|exact HB.o)⟩⟩
      ·rw[if_neg c14] at H
       have c14b0:(a0_1 == 30)=false:=beq_eq_false_iff_ne.mpr c14
       have c14b1:(a0_1 != 30)=true:=bne_iff_ne.mpr c14
       (first|rw[c14b0]|(simp only[i64_w,i32_w];rw[c14b0])|skip)
       have H':=ag.mk H
       clear H
       have hcz16_0:wc.cell? ⟨gb152,0,none⟩=some (.int .i64 a0_0):=(ah BK152.o 0).trans rfl
       have hcz16_1:wc.cell? ⟨gb152,1,none⟩=some (.int .i64 a0_1):=(ah BK152.o 1).trans rfl
       have hcz16_2:wc.cell? ⟨gb152,2,none⟩=some (.int .i64 a0_2):=(ah BK152.o 2).trans rfl
       have hcz16_3:wc.cell? ⟨gb152,3,none⟩=some (.int .i64 a0_3):=(ah BK152.o 3).trans rfl
       have hcz16_4:wc.cell? ⟨gb152,4,none⟩=some (.int .i64 a0_4):=(ah BK152.o 4).trans rfl
       have hcz16_5:wc.cell? ⟨gb152,5,none⟩=some (.int .i64 a0_5):=(ah BK152.o 5).trans rfl
       have hcz16_6:wc.cell? ⟨gb152,6,none⟩=some (.int .i64 a0_6):=(ah BK152.o 6).trans rfl
       have hcz16_7:wc.cell? ⟨gb152,7,none⟩=some (.int .i64 a0_7):=(ah BK152.o 7).trans rfl
       have hcz16_8:wc.cell? ⟨gb152,8,none⟩=some (.int .i64 a0_8):=(ah BK152.o 8).trans rfl
       have hcz16_9:wc.cell? ⟨gb152,9,none⟩=some (.int .i64 a0_9):=(ah BK152.o 9).trans rfl
       have hfz16_0:=ai BK152.o 0
       have hfz16_1:=ai BK152.o 1
       have hfz16_2:=ai BK152.o 2
       have hfz16_3:=ai BK152.o 3
       have hfz16_4:=ai BK152.o 4
       have hfz16_5:=ai BK152.o 5
       have hfz16_6:=ai BK152.o 6
       have hfz16_7:=ai BK152.o 7
       have hfz16_8:=ai BK152.o 8
       have hfz16_9:=ai BK152.o 9
       go_wp2
       go_meet
       case rel=>exact⟨_,((a0_1 != 60)),(by first|rfl|(simp;done)|(simp[*];done)|(simp[aJ];done)|(simp[aK];done)),H',⟨by have:=HJ1.o;first|omega|exact Nat.le_refl _⟩,⟨by (with_reducible repeat(first|refine av ?_ _|refine aA ?_|refine au ?_ _));exact BK152.o⟩,⟨by repeat(first|(with_reducible first|exact HB.o|apply ae|apply aa|apply af|refine ax ?_ GE152.o)|exact HB.o)⟩⟩
     case rest=>
      clear HC12
      try clear c1
      try clear c2
      try clear p2
      try clear c4
      try clear c4b0
      try clear c6
      try clear c6b0
      try clear c9
      try clear c10
      try clear c10b0
      try clear c10b1
      try clear c14
      try clear c14b0
      try clear c14b1
      try clear hcz11_0
      try clear hcz11_1
      try clear hcz11_2
      try clear hcz11_3
      try clear hcz11_4
      try clear hcz11_5
      try clear hcz11_6
      try clear hcz11_7
      try clear hcz11_8
      try clear hcz11_9
      try clear hcz13_0
      try clear hcz13_1
      try clear hcz13_2
      try clear hcz13_3
      try clear hcz13_4
      try clear hcz13_5
      try clear hcz13_6
      try clear hcz13_7
      try clear hcz13_8
      try clear hcz13_9
      try clear hcz15_0
      try clear hcz15_1
      try clear hcz15_2
      try clear hcz15_3
      try clear hcz15_4
      try clear hcz15_5
      try clear hcz15_6
      try clear hcz15_7
      try clear hcz15_8
      try clear hcz15_9
      try clear hcz16_0
      try clear hcz16_1
      try clear hcz16_2
      try clear hcz16_3
      try clear hcz16_4
      try clear hcz16_5
      try clear hcz16_6
      try clear hcz16_7
      try clear hcz16_8
      try clear hcz16_9
      try clear hcz5_0
      try clear hcz5_1
      try clear hcz5_2
      try clear hcz5_3
      try clear hcz5_4
      try clear hcz5_5
      try clear hcz5_6
      try clear hcz5_7
      try clear hcz5_8
      try clear hcz5_9
      try clear hcz7_0
      try clear hcz7_1
      try clear hcz7_2
      try clear hcz7_3
      try clear hcz7_4
      try clear hcz7_5
      try clear hcz7_6
      try clear hcz7_7
      try clear hcz7_8
      try clear hcz7_9
      try clear hcz8_0
      try clear hcz8_1
      try clear hcz8_2
      try clear hcz8_3
      try clear hcz8_4
      try clear hcz8_5
      try clear hcz8_6
      try clear hcz8_7
      try clear hcz8_8
      try clear hcz8_9
      try clear hfz11_0
      try clear hfz11_1
      try clear hfz11_2
      try clear hfz11_3
      try clear hfz11_4
      try clear hfz11_5
      try clear hfz11_6
      try clear hfz11_7
      try clear hfz11_8
      try clear hfz11_9
      try clear hfz13_0
      try clear hfz13_1
      try clear hfz13_2
      try clear hfz13_3
      try clear hfz13_4
      try clear hfz13_5
      try clear hfz13_6
      try clear hfz13_7
      try clear hfz13_8
      try clear hfz13_9
      try clear hfz15_0
      try clear hfz15_1
      try clear hfz15_2
      try clear hfz15_3
      try clear hfz15_4
      try clear hfz15_5
      try clear hfz15_6
      try clear hfz15_7
      try clear hfz15_8
      try clear hfz15_9
      try clear hfz16_0
      try clear hfz16_1
      try clear hfz16_2
      try clear hfz16_3
      try clear hfz16_4
      try clear hfz16_5
      try clear hfz16_6
      try clear hfz16_7
      try clear hfz16_8
      try clear hfz16_9
      try clear hfz5_0
      try clear hfz5_1
      try clear hfz5_2
      try clear hfz5_3
      try clear hfz5_4
      try clear hfz5_5
      try clear hfz5_6
      try clear hfz5_7
      try clear hfz5_8
      try clear hfz5_9
      try clear hfz7_0
      try clear hfz7_1
      try clear hfz7_2
      try clear hfz7_3
      try clear hfz7_4
      try clear hfz7_5
      try clear hfz7_6
      try clear hfz7_7
      try clear hfz7_8
      try clear hfz7_9
      try clear hfz8_0
      try clear hfz8_1
      try clear hfz8_2
      try clear hfz8_3
      try clear hfz8_4
      try clear hfz8_5
      try clear hfz8_6
      try clear hfz8_7
      try clear hfz8_8
      try clear hfz8_9
      try clear p2
      obtain⟨kq,x22_11,rfl,HA,HJ11,BK152,HB⟩:=hcut
      cases kq with
      |zero=>exact absurd HA.o (by simp[zone_Check.j1])
      |succ kj11=>
       have H:=HA.o
       clear HA
       simp only[zone_Check.j1] at H
       by_cases c17:x22_11=true
       ·subst c17
        have H1:(some 8)=some r:=by rw[if_pos rfl] at H;exact H
        clear H
        have H:=H1
        clear H1
        obtain rfl:=Option.some.inj H
        go_wp2
        go_ret
        exact⟨by first|rfl|(simp[ay,az] <;> rfl)|(simp[*,ay,az] <;> rfl),by repeat(first|(with_reducible first|exact HB.o|apply ae|apply aa|apply af|refine ax ?_ GE152.o)|exact HB.o)⟩
       ·replace c17:=Bool.eq_false_iff.mpr c17
        subst c17
        have H1:((zone_good.f kj11 a0_2 a0_3 a0_4 a0_5).bind fun t153=>(if t153=true then ((zone_good.f kj11 a0_6 a0_7 a0_8 a0_9).bind fun t154=>(if t154=true then (if a0_2=a0_6 then (some 8) else (some 0)) else (some 8))) else (some 8)))=some r:=by rw[if_neg (show ¬ (false=true) by decide)] at H;exact H
        clear H
        have H:=H1
        clear H1
        replace H:=Option.bind_eq_some_iff.mp H
        obtain⟨t153,A180,H⟩:=H
        replace H:(if t153=true then ((zone_good.f kj11 a0_6 a0_7 a0_8 a0_9).bind fun t154=>(if t154=true then (if a0_2=a0_6 then (some 8) else (some 0)) else (some 8))) else (some 8))=some r:=H
        have A18:=ag.mk A180
        clear A180
        by_cases c19:t153=true
        ·subst c19
         have H1:((zone_good.f kj11 a0_6 a0_7 a0_8 a0_9).bind fun t154=>(if t154=true then (if a0_2=a0_6 then (some 8) else (some 0)) else (some 8)))=some r:=by rw[if_pos rfl] at H;exact H
         clear H
         have H:=H1
         clear H1
         replace H:=Option.bind_eq_some_iff.mp H
         obtain⟨t154,A200,H⟩:=H
         replace H:(if t154=true then (if a0_2=a0_6 then (some 8) else (some 0)) else (some 8))=some r:=H
         have A20:=ag.mk A200
         clear A200
         by_cases c21:t154=true
         ·subst c21
          have H1:(if a0_2=a0_6 then (some 8) else (some 0))=some r:=by rw[if_pos rfl] at H;exact H
          clear H
          have H:=H1
          clear H1
          by_cases c22:a0_2=a0_6
          ·rw[if_pos c22] at H
           have c22b0:(a0_2 == a0_6)=true:=beq_iff_eq.mpr c22
           have c22b1:(a0_2 != a0_6)=false:=bne_eq_false_iff_eq.mpr c22
           clear c22
           obtain rfl:=Option.some.inj H
           have hcz23_0:wc.cell? ⟨gb152,0,none⟩=some (.int .i64 a0_0):=(ah BK152.o 0).trans rfl
           have hcz23_1:wc.cell? ⟨gb152,1,none⟩=some (.int .i64 a0_1):=(ah BK152.o 1).trans rfl
           have hcz23_2:wc.cell? ⟨gb152,2,none⟩=some (.int .i64 a0_2):=(ah BK152.o 2).trans rfl
           have hcz23_3:wc.cell? ⟨gb152,3,none⟩=some (.int .i64 a0_3):=(ah BK152.o 3).trans rfl
           have hcz23_4:wc.cell? ⟨gb152,4,none⟩=some (.int .i64 a0_4):=(ah BK152.o 4).trans rfl
           have hcz23_5:wc.cell? ⟨gb152,5,none⟩=some (.int .i64 a0_5):=(ah BK152.o 5).trans rfl
           have hcz23_6:wc.cell? ⟨gb152,6,none⟩=some (.int .i64 a0_6):=(ah BK152.o 6).trans rfl
           have hcz23_7:wc.cell? ⟨gb152,7,none⟩=some (.int .i64 a0_7):=(ah BK152.o 7).trans rfl
           have hcz23_8:wc.cell? ⟨gb152,8,none⟩=some (.int .i64 a0_8):=(ah BK152.o 8).trans rfl
           have hcz23_9:wc.cell? ⟨gb152,9,none⟩=some (.int .i64 a0_9):=(ah BK152.o 9).trans rfl
           have hfz23_0:=ai BK152.o 0
           have hfz23_1:=ai BK152.o 1
           have hfz23_2:=ai BK152.o 2
           have hfz23_3:=ai BK152.o 3
           have hfz23_4:=ai BK152.o 4
           have hfz23_5:=ai BK152.o 5
           have hfz23_6:=ai BK152.o 6
           have hfz23_7:=ai BK152.o 7
           have hfz23_8:=ai BK152.o 8
           have hfz23_9:=ai BK152.o 9
           go_wp2_with (first|((with_reducible refine aR (f:=43) rfl ?_);refine aZ (some 33) rfl rfl Tryd.func43 (by kernel_rfl) rfl #[.agg #[.int .i64 a0_2,.int .i64 a0_3,.int .i64 a0_4,.int .i64 a0_5]] rfl (by (try simp only[List.map_toArray,List.map_cons,List.map_nil]);first|done|rfl|(simp only[List.length_drop,List.length_take];rfl)) ?_;(with_reducible refine(zone_good.calls kj11 a0_2 a0_3 a0_4 a0_5 true _ A18.o).mono ?_);rintro e w24 ⟨rfl,hb⟩;refine⟨_,rfl,?_⟩;have n0_:=ag.mk (aN (g:=gb152) (o:=.cells #[.int .i64 a0_0,.int .i64 a0_1,.int .i64 a0_2,.int .i64 a0_3,.int .i64 a0_4,.int .i64 a0_5,.int .i64 a0_6,.int .i64 a0_7,.int .i64 a0_8,.int .i64 a0_9] 25 (0,0)) (by (with_reducible repeat(first|refine av ?_ _|refine aA ?_|refine au ?_ _));exact BK152.o) hb);have n1_:=ag.mk (aj (by repeat(first|(with_reducible first|exact HB.o|apply ae|apply aa|apply af|refine ax ?_ GE152.o)|exact HB.o)) hb);clear BK152;clear HB;have BK152:=n0_;have HB:=n1_;clear n0_ n1_;(try clear hb);(try clear hb2);(try clear hk);(try clear hi);have hcz25_0:w24.cell? ⟨gb152,0,none⟩=some (.int .i64 a0_0):=(ah BK152.o 0).trans rfl;have hcz25_1:w24.cell? ⟨gb152,1,none⟩=some (.int .i64 a0_1):=(ah BK152.o 1).trans rfl;have hcz25_2:w24.cell? ⟨gb152,2,none⟩=some (.int .i64 a0_2):=(ah BK152.o 2).trans rfl;have hcz25_3:w24.cell? ⟨gb152,3,none⟩=some (.int .i64 a0_3):=(ah BK152.o 3).trans rfl;have hcz25_4:w24.cell? ⟨gb152,4,none⟩=some (.int .i64 a0_4):=(ah BK152.o 4).trans rfl;have hcz25_5:w24.cell? ⟨gb152,5,none⟩=some (.int .i64 a0_5):=(ah BK152.o 5).trans rfl;have hcz25_6:w24.cell? ⟨gb152,6,none⟩=some (.int .i64 a0_6):=(ah BK152.o 6).trans rfl;have hcz25_7:w24.cell? ⟨gb152,7,none⟩=some (.int .i64 a0_7):=(ah BK152.o 7).trans rfl;have hcz25_8:w24.cell? ⟨gb152,8,none⟩=some (.int .i64 a0_8):=(ah BK152.o 8).trans rfl;have hcz25_9:w24.cell? ⟨gb152,9,none⟩=some (.int .i64 a0_9):=(ah BK152.o 9).trans rfl;have hfz25_0:=ai BK152.o 0;have hfz25_1:=ai BK152.o 1;have hfz25_2:=ai BK152.o 2;have hfz25_3:=ai BK152.o 3;have hfz25_4:=ai BK152.o 4;have hfz25_5:=ai BK152.o 5;have hfz25_6:=ai BK152.o 6;have hfz25_7:=ai BK152.o 7;have hfz25_8:=ai BK152.o 8;have hfz25_9:=ai BK152.o 9)|((with_reducible refine aR (f:=43) rfl ?_);refine aZ (some 37) rfl rfl Tryd.func43 (by kernel_rfl) rfl #[.agg #[.int .i64 a0_6,.int .i64 a0_7,.int .i64 a0_8,.int .i64 a0_9]] rfl (by (try simp only[List.map_toArray,List.map_cons,List.map_nil]);first|done|rfl|(simp only[List.length_drop,List.length_take];rfl)) ?_;(with_reducible refine(zone_good.calls kj11 a0_6 a0_7 a0_8 a0_9 true _ A20.o).mono ?_);rintro e w26 ⟨rfl,hb⟩;refine⟨_,rfl,?_⟩;have n0_:=ag.mk (aN (g:=gb152) (o:=.cells #[.int .i64 a0_0,.int .i64 a0_1,.int .i64 a0_2,.int .i64 a0_3,.int .i64 a0_4,.int .i64 a0_5,.int .i64 a0_6,.int .i64 a0_7,.int .i64 a0_8,.int .i64 a0_9] 25 (0,0)) (by (with_reducible repeat(first|refine av ?_ _|refine aA ?_|refine au ?_ _));exact BK152.o) hb);have n1_:=ag.mk (aj (by repeat(first|(with_reducible first|exact HB.o|apply ae|apply aa|apply af|refine ax ?_ GE152.o)|exact HB.o)) hb);clear BK152;clear HB;have BK152:=n0_;have HB:=n1_;clear n0_ n1_;(try clear hb);(try clear hb2);(try clear hk);(try clear hi);have hcz27_0:w26.cell? ⟨gb152,0,none⟩=some (.int .i64 a0_0):=(ah BK152.o 0).trans rfl;have hcz27_1:w26.cell? ⟨gb152,1,none⟩=some (.int .i64 a0_1):=(ah BK152.o 1).trans rfl;have hcz27_2:w26.cell? ⟨gb152,2,none⟩=some (.int .i64 a0_2):=(ah BK152.o 2).trans rfl;have hcz27_3:w26.cell? ⟨gb152,3,none⟩=some (.int .i64 a0_3):=(ah BK152.o 3).trans rfl;have hcz27_4:w26.cell? ⟨gb152,4,none⟩=some (.int .i64 a0_4):=(ah BK152.o 4).trans rfl;have hcz27_5:w26.cell? ⟨gb152,5,none⟩=some (.int .i64 a0_5):=(ah BK152.o 5).trans rfl;have hcz27_6:w26.cell? ⟨gb152,6,none⟩=some (.int .i64 a0_6):=(ah BK152.o 6).trans rfl;have hcz27_7:w26.cell? ⟨gb152,7,none⟩=some (.int .i64 a0_7):=(ah BK152.o 7).trans rfl;have hcz27_8:w26.cell? ⟨gb152,8,none⟩=some (.int .i64 a0_8):=(ah BK152.o 8).trans rfl;have hcz27_9:w26.cell? ⟨gb152,9,none⟩=some (.int .i64 a0_9):=(ah BK152.o 9).trans rfl;have hfz27_0:=ai BK152.o 0;have hfz27_1:=ai BK152.o 1;have hfz27_2:=ai BK152.o 2;have hfz27_3:=ai BK152.o 3;have hfz27_4:=ai BK152.o 4;have hfz27_5:=ai BK152.o 5;have hfz27_6:=ai BK152.o 6;have hfz27_7:=ai BK152.o 7;have hfz27_8:=ai BK152.o 8;have hfz27_9:=ai BK152.o 9))
           go_ret
           exact⟨by first|rfl|(simp[ay,az] <;> rfl)|(simp[*,ay,az] <;> rfl),by repeat(first|(with_reducible first|exact HB.o|apply ae|apply aa|apply af|refine ax ?_ GE152.o)|exact HB.o)⟩
          ·rw[if_neg c22] at H
           have c22b0:(a0_2 == a0_6)=false:=beq_eq_false_iff_ne.mpr c22
           have c22b1:(a0_2 != a0_6)=true:=bne_iff_ne.mpr c22
           obtain rfl:=Option.some.inj H
           have hcz28_0:wc.cell? ⟨gb152,0,none⟩=some (.int .i64 a0_0):=(ah BK152.o 0).trans rfl
           have hcz28_1:wc.cell? ⟨gb152,1,none⟩=some (.int .i64 a0_1):=(ah BK152.o 1).trans rfl
           have hcz28_2:wc.cell? ⟨gb152,2,none⟩=some (.int .i64 a0_2):=(ah BK152.o 2).trans rfl
           have hcz28_3:wc.cell? ⟨gb152,3,none⟩=some (.int .i64 a0_3):=(ah BK152.o 3).trans rfl
           have hcz28_4:wc.cell? ⟨gb152,4,none⟩=some (.int .i64 a0_4):=(ah BK152.o 4).trans rfl
           have hcz28_5:wc.cell? ⟨gb152,5,none⟩=some (.int .i64 a0_5):=(ah BK152.o 5).trans rfl
           have hcz28_6:wc.cell? ⟨gb152,6,none⟩=some (.int .i64 a0_6):=(ah BK152.o 6).trans rfl
           have hcz28_7:wc.cell? ⟨gb152,7,none⟩=some (.int .i64 a0_7):=(ah BK152.o 7).trans rfl
           have hcz28_8:wc.cell? ⟨gb152,8,none⟩=some (.int .i64 a0_8):=(ah BK152.o 8).trans rfl
           have hcz28_9:wc.cell? ⟨gb152,9,none⟩=some (.int .i64 a0_9):=(ah BK152.o 9).trans rfl
           have hfz28_0:=ai BK152.o 0
           have hfz28_1:=ai BK152.o 1
           have hfz28_2:=ai BK152.o 2
           have hfz28_3:=ai BK152.o 3
           have hfz28_4:=ai BK152.o 4
           have hfz28_5:=ai BK152.o 5
           have hfz28_6:=ai BK152.o 6
           have hfz28_7:=ai BK152.o 7
           have hfz28_8:=ai BK152.o 8
           have hfz28_9:=ai BK152.o 9
           go_wp2_with (first|((with_reducible refine aR (f:=43) rfl ?_);refine aZ (some 33) rfl rfl Tryd.func43 (by kernel_rfl) rfl #[.agg #[.int .i64 a0_2,.int .i64 a0_3,.int .i64 a0_4,.int .i64 a0_5]] rfl (by (try simp only[List.map_toArray,List.map_cons,List.map_nil]);first|done|rfl|(simp only[List.length_drop,List.length_take];rfl)) ?_;(with_reducible refine(zone_good.calls kj11 a0_2 a0_3 a0_4 a0_5 true _ A18.o).mono ?_);rintro e w29 ⟨rfl,hb⟩;refine⟨_,rfl,?_⟩;have n0_:=ag.mk (aN (g:=gb152) (o:=.cells #[.int .i64 a0_0,.int .i64 a0_1,.int .i64 a0_2,.int .i64 a0_3,.int .i64 a0_4,.int .i64 a0_5,.int .i64 a0_6,.int .i64 a0_7,.int .i64 a0_8,.int .i64 a0_9] 25 (0,0)) (by (with_reducible repeat(first|refine av ?_ _|refine aA ?_|refine au ?_ _));exact BK152.o) hb);have n1_:=ag.mk (aj (by repeat(first|(with_reducible first|exact HB.o|apply ae|apply aa|apply af|refine ax ?_ GE152.o)|exact HB.o)) hb);clear BK152;clear HB;have BK152:=n0_;have HB:=n1_;clear n0_ n1_;(try clear hb);(try clear hb2);(try clear hk);(try clear hi);have hcz30_0:w29.cell? ⟨gb152,0,none⟩=some (.int .i64 a0_0):=(ah BK152.o 0).trans rfl;have hcz30_1:w29.cell? ⟨gb152,1,none⟩=some (.int .i64 a0_1):=(ah BK152.o 1).trans rfl;have hcz30_2:w29.cell? ⟨gb152,2,none⟩=some (.int .i64 a0_2):=(ah BK152.o 2).trans rfl;have hcz30_3:w29.cell? ⟨gb152,3,none⟩=some (.int .i64 a0_3):=(ah BK152.o 3).trans rfl;have hcz30_4:w29.cell? ⟨gb152,4,none⟩=some (.int .i64 a0_4):=(ah BK152.o 4).trans rfl;have hcz30_5:w29.cell? ⟨gb152,5,none⟩=some (.int .i64 a0_5):=(ah BK152.o 5).trans rfl;have hcz30_6:w29.cell? ⟨gb152,6,none⟩=some (.int .i64 a0_6):=(ah BK152.o 6).trans rfl;have hcz30_7:w29.cell? ⟨gb152,7,none⟩=some (.int .i64 a0_7):=(ah BK152.o 7).trans rfl;have hcz30_8:w29.cell? ⟨gb152,8,none⟩=some (.int .i64 a0_8):=(ah BK152.o 8).trans rfl;have hcz30_9:w29.cell? ⟨gb152,9,none⟩=some (.int .i64 a0_9):=(ah BK152.o 9).trans rfl;have hfz30_0:=ai BK152.o 0;have hfz30_1:=ai BK152.o 1;have hfz30_2:=ai BK152.o 2;have hfz30_3:=ai BK152.o 3;have hfz30_4:=ai BK152.o 4;have hfz30_5:=ai BK152.o 5;have hfz30_6:=ai BK152.o 6;have hfz30_7:=ai BK152.o 7;have hfz30_8:=ai BK152.o 8;have hfz30_9:=ai BK152.o 9)|((with_reducible refine aR (f:=43) rfl ?_);refine aZ (some 37) rfl rfl Tryd.func43 (by kernel_rfl) rfl #[.agg #[.int .i64 a0_6,.int .i64 a0_7,.int .i64 a0_8,.int .i64 a0_9]] rfl (by (try simp only[List.map_toArray,List.map_cons,List.map_nil]);first|done|rfl|(simp only[List.length_drop,List.length_take];rfl)) ?_;(with_reducible refine(zone_good.calls kj11 a0_6 a0_7 a0_8 a0_9 true _ A20.o).mono ?_);rintro e w31 ⟨rfl,hb⟩;refine⟨_,rfl,?_⟩;have n0_:=ag.mk (aN (g:=gb152) (o:=.cells #[.int .i64 a0_0,.int .i64 a0_1,.int .i64 a0_2,.int .i64 a0_3,.int .i64 a0_4,.int .i64 a0_5,.int .i64 a0_6,.int .i64 a0_7,.int .i64 a0_8,.int .i64 a0_9] 25 (0,0)) (by (with_reducible repeat(first|refine av ?_ _|refine aA ?_|refine au ?_ _));exact BK152.o) hb);have n1_:=ag.mk (aj (by repeat(first|(with_reducible first|exact HB.o|apply ae|apply aa|apply af|refine ax ?_ GE152.o)|exact HB.o)) hb);clear BK152;clear HB;have BK152:=n0_;have HB:=n1_;clear n0_ n1_;(try clear hb);(try clear hb2);(try clear hk);(try clear hi);have hcz32_0:w31.cell? ⟨gb152,0,none⟩=some (.int .i64 a0_0):=(ah BK152.o 0).trans rfl;have hcz32_1:w31.cell? ⟨gb152,1,none⟩=some (.int .i64 a0_1):=(ah BK152.o 1).trans rfl;have hcz32_2:w31.cell? ⟨gb152,2,none⟩=some (.int .i64 a0_2):=(ah BK152.o 2).trans rfl;have hcz32_3:w31.cell? ⟨gb152,3,none⟩=some (.int .i64 a0_3):=(ah BK152.o 3).trans rfl;have hcz32_4:w31.cell? ⟨gb152,4,none⟩=some (.int .i64 a0_4):=(ah BK152.o 4).trans rfl;have hcz32_5:w31.cell? ⟨gb152,5,none⟩=some (.int .i64 a0_5):=(ah BK152.o 5).trans rfl;have hcz32_6:w31.cell? ⟨gb152,6,none⟩=some (.int .i64 a0_6):=(ah BK152.o 6).trans rfl;have hcz32_7:w31.cell? ⟨gb152,7,none⟩=some (.int .i64 a0_7):=(ah BK152.o 7).trans rfl;have hcz32_8:w31.cell? ⟨gb152,8,none⟩=some (.int .i64 a0_8):=(ah BK152.o 8).trans rfl;have hcz32_9:w31.cell? ⟨gb152,9,none⟩=some (.int .i64 a0_9):=(ah BK152.o 9).trans rfl;have hfz32_0:=ai BK152.o 0;have hfz32_1:=ai BK152.o 1;have hfz32_2:=ai BK152.o 2;have hfz32_3:=ai BK152.o 3;have hfz32_4:=ai BK152.o 4;have hfz32_5:=ai BK152.o 5;have hfz32_6:=ai BK152.o 6;have hfz32_7:=ai BK152.o 7;have hfz32_8:=ai BK152.o 8;have hfz32_9:=ai BK152.o 9))
           go_ret
           exact⟨by first|rfl|(simp[ay,az] <;> rfl)|(simp[*,ay,az] <;> rfl),by repeat(first|(with_reducible first|exact HB.o|apply ae|apply aa|apply af|refine ax ?_ GE152.o)|exact HB.o)⟩
         ·replace c21:=Bool.eq_false_iff.mpr c21
          subst c21
          have H1:(some 8)=some r:=by rw[if_neg (show ¬ (false=true) by decide)] at H;exact H
          clear H
          have H:=H1
          clear H1
          obtain rfl:=Option.some.inj H
          have hcz33_0:wc.cell? ⟨gb152,0,none⟩=some (.int .i64 a0_0):=(ah BK152.o 0).trans rfl
          have hcz33_1:wc.cell? ⟨gb152,1,none⟩=some (.int .i64 a0_1):=(ah BK152.o 1).trans rfl
          have hcz33_2:wc.cell? ⟨gb152,2,none⟩=some (.int .i64 a0_2):=(ah BK152.o 2).trans rfl
          have hcz33_3:wc.cell? ⟨gb152,3,none⟩=some (.int .i64 a0_3):=(ah BK152.o 3).trans rfl
          have hcz33_4:wc.cell? ⟨gb152,4,none⟩=some (.int .i64 a0_4):=(ah BK152.o 4).trans rfl
          have hcz33_5:wc.cell? ⟨gb152,5,none⟩=some (.int .i64 a0_5):=(ah BK152.o 5).trans rfl
          have hcz33_6:wc.cell? ⟨gb152,6,none⟩=some (.int .i64 a0_6):=(ah BK152.o 6).trans rfl
          have hcz33_7:wc.cell? ⟨gb152,7,none⟩=some (.int .i64 a0_7):=(ah BK152.o 7).trans rfl
          have hcz33_8:wc.cell? ⟨gb152,8,none⟩=some (.int .i64 a0_8):=(ah BK152.o 8).trans rfl
          have hcz33_9:wc.cell? ⟨gb152,9,none⟩=some (.int .i64 a0_9):=(ah BK152.o 9).trans rfl
          have hfz33_0:=ai BK152.o 0
          have hfz33_1:=ai BK152.o 1
          have hfz33_2:=ai BK152.o 2
          have hfz33_3:=ai BK152.o 3
          have hfz33_4:=ai BK152.o 4
          have hfz33_5:=ai BK152.o 5
          have hfz33_6:=ai BK152.o 6
          have hfz33_7:=ai BK152.o 7
          have hfz33_8:=ai BK152.o 8
          have hfz33_9:=ai BK152.o 9
          go_wp2_with (first|((with_reducible refine aR (f:=43) rfl ?_);refine aZ (some 33) rfl rfl Tryd.func43 (by kernel_rfl) rfl #[.agg #[.int .i64 a0_2,.int .i64 a0_3,.int .i64 a0_4,.int .i64 a0_5]] rfl (by (try simp only[List.map_toArray,List.map_cons,List.map_nil]);first|done|rfl|(simp only[List.length_drop,List.length_take];rfl)) ?_;(with_reducible refine(zone_good.calls kj11 a0_2 a0_3 a0_4 a0_5 true _ A18.o).mono ?_);rintro e w34 ⟨rfl,hb⟩;refine⟨_,rfl,?_⟩;have n0_:=ag.mk (aN (g:=gb152) (o:=.cells #[.int .i64 a0_0,.int .i64 a0_1,.int .i64 a0_2,.int .i64 a0_3,.int .i64 a0_4,.int .i64 a0_5,.int .i64 a0_6,.int .i64 a0_7,.int .i64 a0_8,.int .i64 a0_9] 25 (0,0)) (by (with_reducible repeat(first|refine av ?_ _|refine aA ?_|refine au ?_ _));exact BK152.o) hb);have n1_:=ag.mk (aj (by repeat(first|(with_reducible first|exact HB.o|apply ae|apply aa|apply af|refine ax ?_ GE152.o)|exact HB.o)) hb);clear BK152;clear HB;have BK152:=n0_;have HB:=n1_;clear n0_ n1_;(try clear hb);(try clear hb2);(try clear hk);(try clear hi);have hcz35_0:w34.cell? ⟨gb152,0,none⟩=some (.int .i64 a0_0):=(ah BK152.o 0).trans rfl;have hcz35_1:w34.cell? ⟨gb152,1,none⟩=some (.int .i64 a0_1):=(ah BK152.o 1).trans rfl;have hcz35_2:w34.cell? ⟨gb152,2,none⟩=some (.int .i64 a0_2):=(ah BK152.o 2).trans rfl;have hcz35_3:w34.cell? ⟨gb152,3,none⟩=some (.int .i64 a0_3):=(ah BK152.o 3).trans rfl;have hcz35_4:w34.cell? ⟨gb152,4,none⟩=some (.int .i64 a0_4):=(ah BK152.o 4).trans rfl;have hcz35_5:w34.cell? ⟨gb152,5,none⟩=some (.int .i64 a0_5):=(ah BK152.o 5).trans rfl;have hcz35_6:w34.cell? ⟨gb152,6,none⟩=some (.int .i64 a0_6):=(ah BK152.o 6).trans rfl;have hcz35_7:w34.cell? ⟨gb152,7,none⟩=some (.int .i64 a0_7):=(ah BK152.o 7).trans rfl;have hcz35_8:w34.cell? ⟨gb152,8,none⟩=some (.int .i64 a0_8):=(ah BK152.o 8).trans rfl;have hcz35_9:w34.cell? ⟨gb152,9,none⟩=some (.int .i64 a0_9):=(ah BK152.o 9).trans rfl;have hfz35_0:=ai BK152.o 0;have hfz35_1:=ai BK152.o 1;have hfz35_2:=ai BK152.o 2;have hfz35_3:=ai BK152.o 3;have hfz35_4:=ai BK152.o 4;have hfz35_5:=ai BK152.o 5;have hfz35_6:=ai BK152.o 6;have hfz35_7:=ai BK152.o 7;have hfz35_8:=ai BK152.o 8;have hfz35_9:=ai BK152.o 9)|((with_reducible refine aR (f:=43) rfl ?_);refine aZ (some 37) rfl rfl Tryd.func43 (by kernel_rfl) rfl #[.agg #[.int .i64 a0_6,.int .i64 a0_7,.int .i64 a0_8,.int .i64 a0_9]] rfl (by (try simp only[List.map_toArray,List.map_cons,List.map_nil]);first|done|rfl|(simp only[List.length_drop,List.length_take];rfl)) ?_;(with_reducible refine(zone_good.calls kj11 a0_6 a0_7 a0_8 a0_9 false _ A20.o).mono ?_);rintro e w36 ⟨rfl,hb⟩;refine⟨_,rfl,?_⟩;have n0_:=ag.mk (aN (g:=gb152) (o:=.cells #[.int .i64 a0_0,.int .i64 a0_1,.int .i64 a0_2,.int .i64 a0_3,.int .i64 a0_4,.int .i64 a0_5,.int .i64 a0_6,.int .i64 a0_7,.int .i64 a0_8,.int .i64 a0_9] 25 (0,0)) (by (with_reducible repeat(first|refine av ?_ _|refine aA ?_|refine au ?_ _));exact BK152.o) hb);have n1_:=ag.mk (aj (by repeat(first|(with_reducible first|exact HB.o|apply ae|apply aa|apply af|refine ax ?_ GE152.o)|exact HB.o)) hb);clear BK152;clear HB;have BK152:=n0_;have HB:=n1_;clear n0_ n1_;(try clear hb);(try clear hb2);(try clear hk);(try clear hi)))
          go_ret
          exact⟨by first|rfl|(simp[ay,az] <;> rfl)|(simp[*,ay,az] <;> rfl),by repeat(first|(with_reducible first|exact HB.o|apply ae|apply aa|apply af|refine ax ?_ GE152.o)|exact HB.o)⟩
        ·replace c19:=Bool.eq_false_iff.mpr c19
         subst c19
         have H1:(some 8)=some r:=by rw[if_neg (show ¬ (false=true) by decide)] at H;exact H
         clear H
         have H:=H1
         clear H1
         obtain rfl:=Option.some.inj H
         have hcz37_0:wc.cell? ⟨gb152,0,none⟩=some (.int .i64 a0_0):=(ah BK152.o 0).trans rfl
         have hcz37_1:wc.cell? ⟨gb152,1,none⟩=some (.int .i64 a0_1):=(ah BK152.o 1).trans rfl
         have hcz37_2:wc.cell? ⟨gb152,2,none⟩=some (.int .i64 a0_2):=(ah BK152.o 2).trans rfl
         have hcz37_3:wc.cell? ⟨gb152,3,none⟩=some (.int .i64 a0_3):=(ah BK152.o 3).trans rfl
         have hcz37_4:wc.cell? ⟨gb152,4,none⟩=some (.int .i64 a0_4):=(ah BK152.o 4).trans rfl
         have hcz37_5:wc.cell? ⟨gb152,5,none⟩=some (.int .i64 a0_5):=(ah BK152.o 5).trans rfl
         have hcz37_6:wc.cell? ⟨gb152,6,none⟩=some (.int .i64 a0_6):=(ah BK152.o 6).trans rfl
         have hcz37_7:wc.cell? ⟨gb152,7,none⟩=some (.int .i64 a0_7):=(ah BK152.o 7).trans rfl
         have hcz37_8:wc.cell? ⟨gb152,8,none⟩=some (.int .i64 a0_8):=(ah BK152.o 8).trans rfl
         have hcz37_9:wc.cell? ⟨gb152,9,none⟩=some (.int .i64 a0_9):=(ah BK152.o 9).trans rfl
         have hfz37_0:=ai BK152.o 0
         have hfz37_1:=ai BK152.o 1
         have hfz37_2:=ai BK152.o 2
         have hfz37_3:=ai BK152.o 3
         have hfz37_4:=ai BK152.o 4
         have hfz37_5:=ai BK152.o 5
         have hfz37_6:=ai BK152.o 6
         have hfz37_7:=ai BK152.o 7
         have hfz37_8:=ai BK152.o 8
         have hfz37_9:=ai BK152.o 9
         go_wp2_with (first|((with_reducible refine aR (f:=43) rfl ?_);refine aZ (some 33) rfl rfl Tryd.func43 (by kernel_rfl) rfl #[.agg #[.int .i64 a0_2,.int .i64 a0_3,.int .i64 a0_4,.int .i64 a0_5]] rfl (by (try simp only[List.map_toArray,List.map_cons,List.map_nil]);first|done|rfl|(simp only[List.length_drop,List.length_take];rfl)) ?_;(with_reducible refine(zone_good.calls kj11 a0_2 a0_3 a0_4 a0_5 false _ A18.o).mono ?_);rintro e w38 ⟨rfl,hb⟩;refine⟨_,rfl,?_⟩;have n0_:=ag.mk (aN (g:=gb152) (o:=.cells #[.int .i64 a0_0,.int .i64 a0_1,.int .i64 a0_2,.int .i64 a0_3,.int .i64 a0_4,.int .i64 a0_5,.int .i64 a0_6,.int .i64 a0_7,.int .i64 a0_8,.int .i64 a0_9] 25 (0,0)) (by (with_reducible repeat(first|refine av ?_ _|refine aA ?_|refine au ?_ _));exact BK152.o) hb);have n1_:=ag.mk (aj (by repeat(first|(with_reducible first|exact HB.o|apply ae|apply aa|apply af|refine ax ?_ GE152.o)|exact HB.o)) hb);clear BK152;clear HB;have BK152:=n0_;have HB:=n1_;clear n0_ n1_;(try clear hb);(try clear hb2);(try clear hk);(try clear hi)))
         go_ret
         exact⟨by first|rfl|(simp[ay,az] <;> rfl)|(simp[*,ay,az] <;> rfl),by repeat(first|(with_reducible first|exact HB.o|apply ae|apply aa|apply af|refine ax ?_ GE152.o)|exact HB.o)⟩
end Go.Proofs.YtcmhfcciapenfaaDoor.Pa
