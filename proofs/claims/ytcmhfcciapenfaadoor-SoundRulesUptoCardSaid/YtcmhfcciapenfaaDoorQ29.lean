/- A part of the proof. -/
import Derived.Test.YtcmhfcciapenfaaDoorQ27
import Derived.Test.YtcmhfcciapenfaaDoorQ28
set_option linter.all false
namespace Go.Proofs.YtcmhfcciapenfaaDoor.Pa
open Go.RowKit Go.Proofs.YtcmhfcciapenfaaDoorW.PrintWords Go.Proofs.YtcmhfcciapenfaaDoorW.PrintLast Go.Proofs.YtcmhfcciapenfaaDoorW.PrintMore
attribute [local go_sem] bJ bL bU bV bA bB bM bN
attribute [local go_sem high] eqA70
def pylonref04_Check.j0:Nat → Bool → Int → Int → Int → Int → Int → Int → Int → Int → Int → Int → Option (Int)
 |0,_,_,_,_,_,_,_,_,_,_,_=>none
 |k+1,x31,x188000,x188001,x188002,x188003,x188004,x188005,x188006,x188007,x188008,x188009=>if x31=true then (some 8) else (if x188001=0 then (some 0) else ((pylonref04_good.f x188002 x188003 x188004 x188005).bind fun t188=>(if t188=true then ((pylonref04_good.f x188006 x188007 x188008 x188009).bind fun t189=>(if t189=true then (if x188002=x188006 then (some 8) else (some 0)) else (some 8))) else (some 8))))
def pylonref04_Check.f (k:Nat) (a0_0:Int) (a0_1:Int) (a0_2:Int) (a0_3:Int) (a0_4:Int) (a0_5:Int) (a0_6:Int) (a0_7:Int) (a0_8:Int) (a0_9:Int):Option (Int):=if a0_0 < (-720) then (pylonref04_Check.j0 k true a0_0 a0_1 a0_2 a0_3 a0_4 a0_5 a0_6 a0_7 a0_8 a0_9) else (if a0_0 > 840 then (pylonref04_Check.j0 k true a0_0 a0_1 a0_2 a0_3 a0_4 a0_5 a0_6 a0_7 a0_8 a0_9) else (if (Int.tmod a0_0 15)=0 then (if a0_1=0 then (pylonref04_Check.j0 k false a0_0 a0_1 a0_2 a0_3 a0_4 a0_5 a0_6 a0_7 a0_8 a0_9) else (if a0_1=30 then (pylonref04_Check.j0 k false a0_0 a0_1 a0_2 a0_3 a0_4 a0_5 a0_6 a0_7 a0_8 a0_9) else (pylonref04_Check.j0 k (a0_1 != 60) a0_0 a0_1 a0_2 a0_3 a0_4 a0_5 a0_6 a0_7 a0_8 a0_9))) else (pylonref04_Check.j0 k true a0_0 a0_1 a0_2 a0_3 a0_4 a0_5 a0_6 a0_7 a0_8 a0_9)))
theorem pylonref04_Check.mono_l : ∀ k,(∀ y0 y1 y2 y3 y4 y5 y6 y7 y8 y9 y10,LeO (pylonref04_Check.j0 k y0 y1 y2 y3 y4 y5 y6 y7 y8 y9 y10) (pylonref04_Check.j0 (k+1) y0 y1 y2 y3 y4 y5 y6 y7 y8 y9 y10))
 |0=>fun _ _ _ _ _ _ _ _ _ _ _ r h=>by simp[pylonref04_Check.j0] at h
 |k+1=>by
  have ih0:=pylonref04_Check.mono_l k
  ·intro y0 y1 y2 y3 y4 y5 y6 y7 y8 y9 y10
   unfold pylonref04_Check.j0
   repeat' first
   |(with_reducible exact ih0 _ _ _ _ _ _ _ _ _ _ _)
   |(with_reducible exact LeO.refl _)
   |(with_reducible exact LeO.none _)
   |(with_reducible refine LeO.ite ?_ ?_)
   |(with_reducible refine LeO.bind ?_ (fun _=>?_))
   |exact ih0 _ _ _ _ _ _ _ _ _ _ _
   |exact LeO.none _
   |refine LeO.ite ?_ ?_
   |refine LeO.bind ?_ (fun _=>?_)
theorem pylonref04_Check.mono : ∀ a0 a1 a2 a3 a4 a5 a6 a7 a8 a9 k,LeO (pylonref04_Check.f k a0 a1 a2 a3 a4 a5 a6 a7 a8 a9) (pylonref04_Check.f (k+1) a0 a1 a2 a3 a4 a5 a6 a7 a8 a9):=by
 intro a0 a1 a2 a3 a4 a5 a6 a7 a8 a9 k
 have ih0:=pylonref04_Check.mono_l k
 unfold pylonref04_Check.f
 repeat' first
   |(with_reducible exact ih0 _ _ _ _ _ _ _ _ _ _ _)
   |(with_reducible exact LeO.refl _)
   |(with_reducible exact LeO.none _)
   |(with_reducible refine LeO.ite ?_ ?_)
   |(with_reducible refine LeO.bind ?_ (fun _=>?_))
   |exact ih0 _ _ _ _ _ _ _ _ _ _ _
   |exact LeO.none _
   |refine LeO.ite ?_ ?_
   |refine LeO.bind ?_ (fun _=>?_)
set_option maxHeartbeats 8000000 in
set_option maxRecDepth 100000 in
theorem pylonref04_Check.calls (k:Nat) (a0_0:Int) (a0_1:Int) (a0_2:Int) (a0_3:Int) (a0_4:Int) (a0_5:Int) (a0_6:Int) (a0_7:Int) (a0_8:Int) (a0_9:Int) (r:Int) (w:World) (h:pylonref04_Check.f k a0_0 a0_1 a0_2 a0_3 a0_4 a0_5 a0_6 a0_7 a0_8 a0_9=some r) :
  Calls Tryd.prog 22 #[.agg #[.int .i64 a0_0,.int .i64 a0_1,.int .i64 a0_2,.int .i64 a0_3,.int .i64 a0_4,.int .i64 a0_5,.int .i64 a0_6,.int .i64 a0_7,.int .i64 a0_8,.int .i64 a0_9]] w fun e w'=>e = .returned (.int .i64 r)∧Below w.heap.size w w':=by
 have hu25:=Tryd.underlying25
 have hu23:=Tryd.underlying23
 have HB:=ag.mk (Below.refl w.heap.size w)
 have H:(if a0_0 < (-720) then (pylonref04_Check.j0 k true a0_0 a0_1 a0_2 a0_3 a0_4 a0_5 a0_6 a0_7 a0_8 a0_9) else (if a0_0 > 840 then (pylonref04_Check.j0 k true a0_0 a0_1 a0_2 a0_3 a0_4 a0_5 a0_6 a0_7 a0_8 a0_9) else (if (Int.tmod a0_0 15)=0 then (if a0_1=0 then (pylonref04_Check.j0 k false a0_0 a0_1 a0_2 a0_3 a0_4 a0_5 a0_6 a0_7 a0_8 a0_9) else (if a0_1=30 then (pylonref04_Check.j0 k false a0_0 a0_1 a0_2 a0_3 a0_4 a0_5 a0_6 a0_7 a0_8 a0_9) else (pylonref04_Check.j0 k (a0_1 != 60) a0_0 a0_1 a0_2 a0_3 a0_4 a0_5 a0_6 a0_7 a0_8 a0_9))) else (pylonref04_Check.j0 k true a0_0 a0_1 a0_2 a0_3 a0_4 a0_5 a0_6 a0_7 a0_8 a0_9))))=some r:=h
 clear h
 have HC2:=ag.mk H
 clear H
 go_enter Tryd.func22,Tryd.ntmps22
 go_upto_region 1 with (first|((with_reducible refine aI (N:=1) rfl ?_);refine aH ?hg (N:=1) ?hd (cs:=#[.int .i64 a0_0,.int .i64 a0_1,.int .i64 a0_2,.int .i64 a0_3,.int .i64 a0_4,.int .i64 a0_5,.int .i64 a0_6,.int .i64 a0_7,.int .i64 a0_8,.int .i64 a0_9]) (t:=25) ?hr ?_;(case hd=>rfl);(case hg=>rfl);(case hr=>first|(go_simp;done)|(go_simp;rfl));intro gb187 hg w3 hbox hb;have n0_:=ag.mk (aj (by repeat(first|(with_reducible first|exact HB.o|apply ae|apply aa|apply af)|exact HB.o)) hb);have n1_:=ag.mk (hbox);have n2_:=ag.mk ((by rw[hg];exact(ak (by repeat(first|(with_reducible first|exact HB.o|apply ae|apply aa|apply af)|exact HB.o))):w.heap.size≤gb187));have n3_:=ag.mk ((by rw[hg];exact(ak (by repeat(first|(with_reducible first|exact HB.o|apply ae|apply aa|apply af)|exact HB.o))):w.heap.size≤gb187));clear HB;have HB:=n0_;have BK187:=n1_;have GW187:=n2_;have GE187:=n3_;clear n0_ n1_ n2_ n3_;clear hb hbox hg))
 (try simp only[Act.put,List.setIfInBounds_toArray,List.set_cons_zero,List.set_cons_succ])
 go_cut [31] (fun v31 wc=>∃ (kq:Nat) (x31_1:Bool),v31 = .bool x31_1∧ag (pylonref04_Check.j0 kq x31_1 a0_0 a0_1 a0_2 a0_3 a0_4 a0_5 a0_6 a0_7 a0_8 a0_9=some r)∧ag (kq≤k)∧ag (wc.heap[gb187]? = some (.cells #[.int .i64 a0_0,.int .i64 a0_1,.int .i64 a0_2,.int .i64 a0_3,.int .i64 a0_4,.int .i64 a0_5,.int .i64 a0_6,.int .i64 a0_7,.int .i64 a0_8,.int .i64 a0_9] 25 (0,0)))∧ag (Below w.heap.size w wc))
 case first=>
  have H:=HC2.o
  clear HC2
  by_cases c4:a0_0 < (-720)
  ·rw[if_pos c4] at H
   have c4b0:decide (a0_0 < (-720))=true:=decide_eq_true c4
   clear c4
   (first|rw[c4b0]|(simp only[i64_w,i32_w];rw[c4b0])|skip)
   have H':=ag.mk H
   clear H
   have hcz5_0:w3.cell? ⟨gb187,0,none⟩=some (.int .i64 a0_0):=(ah BK187.o 0).trans rfl
   have hcz5_1:w3.cell? ⟨gb187,1,none⟩=some (.int .i64 a0_1):=(ah BK187.o 1).trans rfl
   have hcz5_2:w3.cell? ⟨gb187,2,none⟩=some (.int .i64 a0_2):=(ah BK187.o 2).trans rfl
   have hcz5_3:w3.cell? ⟨gb187,3,none⟩=some (.int .i64 a0_3):=(ah BK187.o 3).trans rfl
   have hcz5_4:w3.cell? ⟨gb187,4,none⟩=some (.int .i64 a0_4):=(ah BK187.o 4).trans rfl
   have hcz5_5:w3.cell? ⟨gb187,5,none⟩=some (.int .i64 a0_5):=(ah BK187.o 5).trans rfl
   have hcz5_6:w3.cell? ⟨gb187,6,none⟩=some (.int .i64 a0_6):=(ah BK187.o 6).trans rfl
   have hcz5_7:w3.cell? ⟨gb187,7,none⟩=some (.int .i64 a0_7):=(ah BK187.o 7).trans rfl
   have hcz5_8:w3.cell? ⟨gb187,8,none⟩=some (.int .i64 a0_8):=(ah BK187.o 8).trans rfl
   have hcz5_9:w3.cell? ⟨gb187,9,none⟩=some (.int .i64 a0_9):=(ah BK187.o 9).trans rfl
   have hfz5_0:=ai BK187.o 0
   have hfz5_1:=ai BK187.o 1
   have hfz5_2:=ai BK187.o 2
   have hfz5_3:=ai BK187.o 3
   have hfz5_4:=ai BK187.o 4
   have hfz5_5:=ai BK187.o 5
   have hfz5_6:=ai BK187.o 6
   have hfz5_7:=ai BK187.o 7
   have hfz5_8:=ai BK187.o 8
   have hfz5_9:=ai BK187.o 9
   go_wp2
   go_meet
   case rel=>exact⟨_,(true),(by first|rfl|(simp;done)|(simp[*];done)|(simp[aJ];done)|(simp[aK];done)),H',⟨by first|omega|exact Nat.le_refl _⟩,⟨by (with_reducible repeat(first|refine av ?_ _|refine aA ?_|refine au ?_ _));exact BK187.o⟩,⟨by repeat(first|(with_reducible first|exact HB.o|apply ae|apply aa|apply af|refine ax ?_ GE187.o)|exact HB.o)⟩⟩
  ·rw[if_neg c4] at H
   have c4b0:decide (a0_0 < (-720))=false:=decide_eq_false c4
   clear c4
   (first|rw[c4b0]|(simp only[i64_w,i32_w];rw[c4b0])|skip)
   by_cases c6:a0_0 > 840
   ·rw[if_pos c6] at H
    have c6b0:decide (840 < a0_0)=true:=decide_eq_true c6
    clear c6
    have H':=ag.mk H
    clear H
    have hcz7_0:w3.cell? ⟨gb187,0,none⟩=some (.int .i64 a0_0):=(ah BK187.o 0).trans rfl
    have hcz7_1:w3.cell? ⟨gb187,1,none⟩=some (.int .i64 a0_1):=(ah BK187.o 1).trans rfl
    have hcz7_2:w3.cell? ⟨gb187,2,none⟩=some (.int .i64 a0_2):=(ah BK187.o 2).trans rfl
    have hcz7_3:w3.cell? ⟨gb187,3,none⟩=some (.int .i64 a0_3):=(ah BK187.o 3).trans rfl
    have hcz7_4:w3.cell? ⟨gb187,4,none⟩=some (.int .i64 a0_4):=(ah BK187.o 4).trans rfl
    have hcz7_5:w3.cell? ⟨gb187,5,none⟩=some (.int .i64 a0_5):=(ah BK187.o 5).trans rfl
    have hcz7_6:w3.cell? ⟨gb187,6,none⟩=some (.int .i64 a0_6):=(ah BK187.o 6).trans rfl
    have hcz7_7:w3.cell? ⟨gb187,7,none⟩=some (.int .i64 a0_7):=(ah BK187.o 7).trans rfl
    have hcz7_8:w3.cell? ⟨gb187,8,none⟩=some (.int .i64 a0_8):=(ah BK187.o 8).trans rfl
    have hcz7_9:w3.cell? ⟨gb187,9,none⟩=some (.int .i64 a0_9):=(ah BK187.o 9).trans rfl
    have hfz7_0:=ai BK187.o 0
    have hfz7_1:=ai BK187.o 1
    have hfz7_2:=ai BK187.o 2
    have hfz7_3:=ai BK187.o 3
    have hfz7_4:=ai BK187.o 4
    have hfz7_5:=ai BK187.o 5
    have hfz7_6:=ai BK187.o 6
    have hfz7_7:=ai BK187.o 7
    have hfz7_8:=ai BK187.o 8
    have hfz7_9:=ai BK187.o 9
    go_wp2
    go_meet
    case rel=>exact⟨_,(true),(by first|rfl|(simp;done)|(simp[*];done)|(simp[aJ];done)|(simp[aK];done)),H',⟨by first|omega|exact Nat.le_refl _⟩,⟨by (with_reducible repeat(first|refine av ?_ _|refine aA ?_|refine au ?_ _));exact BK187.o⟩,⟨by repeat(first|(with_reducible first|exact HB.o|apply ae|apply aa|apply af|refine ax ?_ GE187.o)|exact HB.o)⟩⟩
   ·rw[if_neg c6] at H
    have c6b0:decide (840 < a0_0)=false:=decide_eq_false c6
    clear c6
    by_cases c8:(Int.tmod a0_0 15)=0
    ·rw[if_pos c8] at H
     have c8b0:((Int.tmod a0_0 15) == 0)=true:=beq_iff_eq.mpr c8
     have c8b1:((Int.tmod a0_0 15) != 0)=false:=bne_eq_false_iff_eq.mpr c8
     clear c8
     by_cases c9:a0_1=0
     ·rw[if_pos c9] at H
      have c9b0:(a0_1 == 0)=true:=beq_iff_eq.mpr c9
      have c9b1:(a0_1 != 0)=false:=bne_eq_false_iff_eq.mpr c9
      clear c9
      have H':=ag.mk H
      clear H
      have hcz10_0:w3.cell? ⟨gb187,0,none⟩=some (.int .i64 a0_0):=(ah BK187.o 0).trans rfl
      have hcz10_1:w3.cell? ⟨gb187,1,none⟩=some (.int .i64 a0_1):=(ah BK187.o 1).trans rfl
      have hcz10_2:w3.cell? ⟨gb187,2,none⟩=some (.int .i64 a0_2):=(ah BK187.o 2).trans rfl
      have hcz10_3:w3.cell? ⟨gb187,3,none⟩=some (.int .i64 a0_3):=(ah BK187.o 3).trans rfl
      have hcz10_4:w3.cell? ⟨gb187,4,none⟩=some (.int .i64 a0_4):=(ah BK187.o 4).trans rfl
      have hcz10_5:w3.cell? ⟨gb187,5,none⟩=some (.int .i64 a0_5):=(ah BK187.o 5).trans rfl
      have hcz10_6:w3.cell? ⟨gb187,6,none⟩=some (.int .i64 a0_6):=(ah BK187.o 6).trans rfl
      have hcz10_7:w3.cell? ⟨gb187,7,none⟩=some (.int .i64 a0_7):=(ah BK187.o 7).trans rfl
      have hcz10_8:w3.cell? ⟨gb187,8,none⟩=some (.int .i64 a0_8):=(ah BK187.o 8).trans rfl
      have hcz10_9:w3.cell? ⟨gb187,9,none⟩=some (.int .i64 a0_9):=(ah BK187.o 9).trans rfl
      have hfz10_0:=ai BK187.o 0
      have hfz10_1:=ai BK187.o 1
      have hfz10_2:=ai BK187.o 2
      have hfz10_3:=ai BK187.o 3
      have hfz10_4:=ai BK187.o 4
      have hfz10_5:=ai BK187.o 5
      have hfz10_6:=ai BK187.o 6
      have hfz10_7:=ai BK187.o 7
      have hfz10_8:=ai BK187.o 8
      have hfz10_9:=ai BK187.o 9
      go_wp2
      go_meet
      case rel=>exact⟨_,(false),(by first|rfl|(simp;done)|(simp[*];done)|(simp[aJ];done)|(simp[aK];done)),H',⟨by first|omega|exact Nat.le_refl _⟩,⟨by (with_reducible repeat(first|refine av ?_ _|refine aA ?_|refine au ?_ _));exact BK187.o⟩,⟨by repeat(first|(with_reducible first|exact HB.o|apply ae|apply aa|apply af|refine ax ?_ GE187.o)|exact HB.o)⟩⟩
     ·rw[if_neg c9] at H
      have c9b0:(a0_1 == 0)=false:=beq_eq_false_iff_ne.mpr c9
      have c9b1:(a0_1 != 0)=true:=bne_iff_ne.mpr c9
      by_cases c11:a0_1=30
      ·rw[if_pos c11] at H
       have c11b0:(a0_1 == 30)=true:=beq_iff_eq.mpr c11
       have c11b1:(a0_1 != 30)=false:=bne_eq_false_iff_eq.mpr c11
       clear c11
       have H':=ag.mk H
       clear H
       have hcz12_0:w3.cell? ⟨gb187,0,none⟩=some (.int .i64 a0_0):=(ah BK187.o 0).trans rfl
       have hcz12_1:w3.cell? ⟨gb187,1,none⟩=some (.int .i64 a0_1):=(ah BK187.o 1).trans rfl
       have hcz12_2:w3.cell? ⟨gb187,2,none⟩=some (.int .i64 a0_2):=(ah BK187.o 2).trans rfl
       have hcz12_3:w3.cell? ⟨gb187,3,none⟩=some (.int .i64 a0_3):=(ah BK187.o 3).trans rfl
       have hcz12_4:w3.cell? ⟨gb187,4,none⟩=some (.int .i64 a0_4):=(ah BK187.o 4).trans rfl
       have hcz12_5:w3.cell? ⟨gb187,5,none⟩=some (.int .i64 a0_5):=(ah BK187.o 5).trans rfl
       have hcz12_6:w3.cell? ⟨gb187,6,none⟩=some (.int .i64 a0_6):=(ah BK187.o 6).trans rfl
       have hcz12_7:w3.cell? ⟨gb187,7,none⟩=some (.int .i64 a0_7):=(ah BK187.o 7).trans rfl
       have hcz12_8:w3.cell? ⟨gb187,8,none⟩=some (.int .i64 a0_8):=(ah BK187.o 8).trans rfl
       have hcz12_9:w3.cell? ⟨gb187,9,none⟩=some (.int .i64 a0_9):=(ah BK187.o 9).trans rfl
       have hfz12_0:=ai BK187.o 0
       have hfz12_1:=ai BK187.o 1
       have hfz12_2:=ai BK187.o 2
       have hfz12_3:=ai BK187.o 3
       have hfz12_4:=ai BK187.o 4
       have hfz12_5:=ai BK187.o 5
       have hfz12_6:=ai BK187.o 6
       have hfz12_7:=ai BK187.o 7
       have hfz12_8:=ai BK187.o 8
       have hfz12_9:=ai BK187.o 9
       go_wp2
       go_meet
       case rel=>exact⟨_,(false),(by first|rfl|(simp;done)|(simp[*];done)|(simp[aJ];done)|(simp[aK];done)),H',⟨by first|omega|exact Nat.le_refl _⟩,⟨by (with_reducible repeat(first|refine av ?_ _|refine aA ?_|refine au ?_ _));exact BK187.o⟩,⟨by repeat(first|(with_reducible first|exact HB.o|apply ae|apply aa|apply af|refine ax ?_ GE187.o)|exact HB.o)⟩⟩
      ·rw[if_neg c11] at H
       have c11b0:(a0_1 == 30)=false:=beq_eq_false_iff_ne.mpr c11
       have c11b1:(a0_1 != 30)=true:=bne_iff_ne.mpr c11
       have H':=ag.mk H
       clear H
       have hcz13_0:w3.cell? ⟨gb187,0,none⟩=some (.int .i64 a0_0):=(ah BK187.o 0).trans rfl
       have hcz13_1:w3.cell? ⟨gb187,1,none⟩=some (.int .i64 a0_1):=(ah BK187.o 1).trans rfl
       have hcz13_2:w3.cell? ⟨gb187,2,none⟩=some (.int .i64 a0_2):=(ah BK187.o 2).trans rfl
       have hcz13_3:w3.cell? ⟨gb187,3,none⟩=some (.int .i64 a0_3):=(ah BK187.o 3).trans rfl
       have hcz13_4:w3.cell? ⟨gb187,4,none⟩=some (.int .i64 a0_4):=(ah BK187.o 4).trans rfl
       have hcz13_5:w3.cell? ⟨gb187,5,none⟩=some (.int .i64 a0_5):=(ah BK187.o 5).trans rfl
       have hcz13_6:w3.cell? ⟨gb187,6,none⟩=some (.int .i64 a0_6):=(ah BK187.o 6).trans rfl
       have hcz13_7:w3.cell? ⟨gb187,7,none⟩=some (.int .i64 a0_7):=(ah BK187.o 7).trans rfl
       have hcz13_8:w3.cell? ⟨gb187,8,none⟩=some (.int .i64 a0_8):=(ah BK187.o 8).trans rfl
       have hcz13_9:w3.cell? ⟨gb187,9,none⟩=some (.int .i64 a0_9):=(ah BK187.o 9).trans rfl
       have hfz13_0:=ai BK187.o 0
       have hfz13_1:=ai BK187.o 1
       have hfz13_2:=ai BK187.o 2
       have hfz13_3:=ai BK187.o 3
       have hfz13_4:=ai BK187.o 4
       have hfz13_5:=ai BK187.o 5
       have hfz13_6:=ai BK187.o 6
       have hfz13_7:=ai BK187.o 7
       have hfz13_8:=ai BK187.o 8
       have hfz13_9:=ai BK187.o 9
       go_wp2
       go_meet
       case rel=>exact⟨_,((a0_1 != 60)),(by first|rfl|(simp;done)|(simp[*];done)|(simp[aJ];done)|(simp[aK];done)),H',⟨by first|omega|exact Nat.le_refl _⟩,⟨by (with_reducible repeat(first|refine av ?_ _|refine aA ?_|refine au ?_ _));exact BK187.o⟩,⟨by repeat(first|(with_reducible first|exact HB.o|apply ae|apply aa|apply af|refine ax ?_ GE187.o)|exact HB.o)⟩⟩
    ·rw[if_neg c8] at H
     have c8b0:((Int.tmod a0_0 15) == 0)=false:=beq_eq_false_iff_ne.mpr c8
     have c8b1:((Int.tmod a0_0 15) != 0)=true:=bne_iff_ne.mpr c8
     have H':=ag.mk H
     clear H
     have hcz14_0:w3.cell? ⟨gb187,0,none⟩=some (.int .i64 a0_0):=(ah BK187.o 0).trans rfl
     have hcz14_1:w3.cell? ⟨gb187,1,none⟩=some (.int .i64 a0_1):=(ah BK187.o 1).trans rfl
     have hcz14_2:w3.cell? ⟨gb187,2,none⟩=some (.int .i64 a0_2):=(ah BK187.o 2).trans rfl
     have hcz14_3:w3.cell? ⟨gb187,3,none⟩=some (.int .i64 a0_3):=(ah BK187.o 3).trans rfl
     have hcz14_4:w3.cell? ⟨gb187,4,none⟩=some (.int .i64 a0_4):=(ah BK187.o 4).trans rfl
     have hcz14_5:w3.cell? ⟨gb187,5,none⟩=some (.int .i64 a0_5):=(ah BK187.o 5).trans rfl
     have hcz14_6:w3.cell? ⟨gb187,6,none⟩=some (.int .i64 a0_6):=(ah BK187.o 6).trans rfl
     have hcz14_7:w3.cell? ⟨gb187,7,none⟩=some (.int .i64 a0_7):=(ah BK187.o 7).trans rfl
     have hcz14_8:w3.cell? ⟨gb187,8,none⟩=some (.int .i64 a0_8):=(ah BK187.o 8).trans rfl
     have hcz14_9:w3.cell? ⟨gb187,9,none⟩=some (.int .i64 a0_9):=(ah BK187.o 9).trans rfl
     have hfz14_0:=ai BK187.o 0
     have hfz14_1:=ai BK187.o 1
     have hfz14_2:=ai BK187.o 2
     have hfz14_3:=ai BK187.o 3
     have hfz14_4:=ai BK187.o 4
     have hfz14_5:=ai BK187.o 5
     have hfz14_6:=ai BK187.o 6
     have hfz14_7:=ai BK187.o 7
     have hfz14_8:=ai BK187.o 8
     have hfz14_9:=ai BK187.o 9
     go_wp2
     go_meet
     case rel=>exact⟨_,(true),(by first|rfl|(simp;done)|(simp[*];done)|(simp[aJ];done)|(simp[aK];done)),H',⟨by first|omega|exact Nat.le_refl _⟩,⟨by (with_reducible repeat(first|refine av ?_ _|refine aA ?_|refine au ?_ _));exact BK187.o⟩,⟨by repeat(first|(with_reducible first|exact HB.o|apply ae|apply aa|apply af|refine ax ?_ GE187.o)|exact HB.o)⟩⟩
 case rest=>
  clear HC2
  try clear c1
  try clear c2
  try clear p2
  try clear c4
  try clear c4b0
  try clear c6
  try clear c6b0
  try clear c8
  try clear c8b0
  try clear c8b1
  try clear c9
  try clear c9b0
  try clear c9b1
  try clear c11
  try clear c11b0
  try clear c11b1
  try clear hcz10_0
  try clear hcz10_1
  try clear hcz10_2
  try clear hcz10_3
  try clear hcz10_4
  try clear hcz10_5
  try clear hcz10_6
  try clear hcz10_7
  try clear hcz10_8
  try clear hcz10_9
  try clear hcz12_0
  try clear hcz12_1
  try clear hcz12_2
  try clear hcz12_3
  try clear hcz12_4
  try clear hcz12_5
  try clear hcz12_6
  try clear hcz12_7
  try clear hcz12_8
  try clear hcz12_9
  try clear hcz13_0
  try clear hcz13_1
  try clear hcz13_2
  try clear hcz13_3
  try clear hcz13_4
  try clear hcz13_5
  try clear hcz13_6
  try clear hcz13_7
  try clear hcz13_8
  try clear hcz13_9
  try clear hcz14_0
  try clear hcz14_1
  try clear hcz14_2
  try clear hcz14_3
  try clear hcz14_4
  try clear hcz14_5
  try clear hcz14_6
  try clear hcz14_7
  try clear hcz14_8
  try clear hcz14_9
  try clear hcz5_0
  try clear hcz5_1
  try clear hcz5_2
  try clear hcz5_3
  try clear hcz5_4
  try clear hcz5_5
  try clear hcz5_6
  try clear hcz5_7
  try clear hcz5_8
  try clear hcz5_9
  try clear hcz7_0
  try clear hcz7_1
  try clear hcz7_2
  try clear hcz7_3
  try clear hcz7_4
  try clear hcz7_5
  try clear hcz7_6
  try clear hcz7_7
  try clear hcz7_8
  try clear hcz7_9
  try clear hfz10_0
  try clear hfz10_1
  try clear hfz10_2
  try clear hfz10_3
  try clear hfz10_4
  try clear hfz10_5
  try clear hfz10_6
  try clear hfz10_7
  try clear hfz10_8
  try clear hfz10_9
  try clear hfz12_0
  try clear hfz12_1
  try clear hfz12_2
  try clear hfz12_3
  try clear hfz12_4
  try clear hfz12_5
  try clear hfz12_6
  try clear hfz12_7
  try clear hfz12_8
  try clear hfz12_9
  try clear hfz13_0
  try clear hfz13_1
  try clear hfz13_2
  try clear hfz13_3
  try clear hfz13_4
  try clear hfz13_5
  try clear hfz13_6
  try clear hfz13_7
  try clear hfz13_8
  try clear hfz13_9
  try clear hfz14_0
  try clear hfz14_1
  try clear hfz14_2
  try clear hfz14_3
  try clear hfz14_4
  try clear hfz14_5
  try clear hfz14_6
  try clear hfz14_7
  try clear hfz14_8
  try clear hfz14_9
  try clear hfz5_0
  try clear hfz5_1
  try clear hfz5_2
  try clear hfz5_3
  try clear hfz5_4
  try clear hfz5_5
  try clear hfz5_6
  try clear hfz5_7
  try clear hfz5_8
  try clear hfz5_9
  try clear hfz7_0
  try clear hfz7_1
  try clear hfz7_2
  try clear hfz7_3
  try clear hfz7_4
  try clear hfz7_5
  try clear hfz7_6
  try clear hfz7_7
  try clear hfz7_8
  try clear hfz7_9
  obtain⟨kq,x31_1,rfl,HA,HJ1,BK187,HB⟩:=hcut
  cases kq with
  |zero=>exact absurd HA.o (by simp[pylonref04_Check.j0])
  |succ kj1=>
   have H:=HA.o
   clear HA
   simp only[pylonref04_Check.j0] at H
   by_cases c15:x31_1=true
   ·subst c15
    have H1:(some 8)=some r:=by rw[if_pos rfl] at H;exact H
    clear H
    have H:=H1
    clear H1
    obtain rfl:=Option.some.inj H
    go_wp2
    go_ret
    exact⟨by first|rfl|(simp[ay,az] <;> rfl)|(simp[*,ay,az] <;> rfl),by repeat(first|(with_reducible first|exact HB.o|apply ae|apply aa|apply af|refine ax ?_ GE187.o)|exact HB.o)⟩
   ·replace c15:=Bool.eq_false_iff.mpr c15
    subst c15
    have H1:(if a0_1=0 then (some 0) else ((pylonref04_good.f a0_2 a0_3 a0_4 a0_5).bind fun t188=>(if t188=true then ((pylonref04_good.f a0_6 a0_7 a0_8 a0_9).bind fun t189=>(if t189=true then (if a0_2=a0_6 then (some 8) else (some 0)) else (some 8))) else (some 8))))=some r:=by rw[if_neg (show ¬ (false=true) by decide)] at H;exact H
    clear H
    have H:=H1
    clear H1
    by_cases c16:a0_1=0
    ·rw[if_pos c16] at H
     have c16b0:(a0_1 == 0)=true:=beq_iff_eq.mpr c16
     have c16b1:(a0_1 != 0)=false:=bne_eq_false_iff_eq.mpr c16
     clear c16
     obtain rfl:=Option.some.inj H
     have hcz17_0:wc.cell? ⟨gb187,0,none⟩=some (.int .i64 a0_0):=(ah BK187.o 0).trans rfl
     have hcz17_1:wc.cell? ⟨gb187,1,none⟩=some (.int .i64 a0_1):=(ah BK187.o 1).trans rfl
     have hcz17_2:wc.cell? ⟨gb187,2,none⟩=some (.int .i64 a0_2):=(ah BK187.o 2).trans rfl
     have hcz17_3:wc.cell? ⟨gb187,3,none⟩=some (.int .i64 a0_3):=(ah BK187.o 3).trans rfl
     have hcz17_4:wc.cell? ⟨gb187,4,none⟩=some (.int .i64 a0_4):=(ah BK187.o 4).trans rfl
     have hcz17_5:wc.cell? ⟨gb187,5,none⟩=some (.int .i64 a0_5):=(ah BK187.o 5).trans rfl
     have hcz17_6:wc.cell? ⟨gb187,6,none⟩=some (.int .i64 a0_6):=(ah BK187.o 6).trans rfl
     have hcz17_7:wc.cell? ⟨gb187,7,none⟩=some (.int .i64 a0_7):=(ah BK187.o 7).trans rfl
     have hcz17_8:wc.cell? ⟨gb187,8,none⟩=some (.int .i64 a0_8):=(ah BK187.o 8).trans rfl
     have hcz17_9:wc.cell? ⟨gb187,9,none⟩=some (.int .i64 a0_9):=(ah BK187.o 9).trans rfl
     have hfz17_0:=ai BK187.o 0
     have hfz17_1:=ai BK187.o 1
     have hfz17_2:=ai BK187.o 2
     have hfz17_3:=ai BK187.o 3
     have hfz17_4:=ai BK187.o 4
     have hfz17_5:=ai BK187.o 5
     have hfz17_6:=ai BK187.o 6
     have hfz17_7:=ai BK187.o 7
     have hfz17_8:=ai BK187.o 8
     have hfz17_9:=ai BK187.o 9
     go_wp2
     go_ret
     exact⟨by first|rfl|(simp[ay,az] <;> rfl)|(simp[*,ay,az] <;> rfl),by repeat(first|(with_reducible first|exact HB.o|apply ae|apply aa|apply af|refine ax ?_ GE187.o)|exact HB.o)⟩
    ·rw[if_neg c16] at H
     have c16b0:(a0_1 == 0)=false:=beq_eq_false_iff_ne.mpr c16
     have c16b1:(a0_1 != 0)=true:=bne_iff_ne.mpr c16
     replace H:=Option.bind_eq_some_iff.mp H
     obtain⟨t188,A180,H⟩:=H
     replace H:(if t188=true then ((pylonref04_good.f a0_6 a0_7 a0_8 a0_9).bind fun t189=>(if t189=true then (if a0_2=a0_6 then (some 8) else (some 0)) else (some 8))) else (some 8))=some r:=H
     have A18:=ag.mk A180
     clear A180
     by_cases c19:t188=true
     ·subst c19
      have H1:((pylonref04_good.f a0_6 a0_7 a0_8 a0_9).bind fun t189=>(if t189=true then (if a0_2=a0_6 then (some 8) else (some 0)) else (some 8)))=some r:=by rw[if_pos rfl] at H;exact H
      clear H
      have H:=H1
      clear H1
      replace H:=Option.bind_eq_some_iff.mp H
      obtain⟨t189,A200,H⟩:=H
      replace H:(if t189=true then (if a0_2=a0_6 then (some 8) else (some 0)) else (some 8))=some r:=H
      have A20:=ag.mk A200
      clear A200
      by_cases c21:t189=true
      ·subst c21
       have H1:(if a0_2=a0_6 then (some 8) else (some 0))=some r:=by rw[if_pos rfl] at H;exact H
       clear H
       have H:=H1
       clear H1
       by_cases c22:a0_2=a0_6
       ·rw[if_pos c22] at H
        have c22b0:(a0_2 == a0_6)=true:=beq_iff_eq.mpr c22
        have c22b1:(a0_2 != a0_6)=false:=bne_eq_false_iff_eq.mpr c22
        clear c22
        obtain rfl:=Option.some.inj H
        have hcz23_0:wc.cell? ⟨gb187,0,none⟩=some (.int .i64 a0_0):=(ah BK187.o 0).trans rfl
        have hcz23_1:wc.cell? ⟨gb187,1,none⟩=some (.int .i64 a0_1):=(ah BK187.o 1).trans rfl
        have hcz23_2:wc.cell? ⟨gb187,2,none⟩=some (.int .i64 a0_2):=(ah BK187.o 2).trans rfl
        have hcz23_3:wc.cell? ⟨gb187,3,none⟩=some (.int .i64 a0_3):=(ah BK187.o 3).trans rfl
        have hcz23_4:wc.cell? ⟨gb187,4,none⟩=some (.int .i64 a0_4):=(ah BK187.o 4).trans rfl
        have hcz23_5:wc.cell? ⟨gb187,5,none⟩=some (.int .i64 a0_5):=(ah BK187.o 5).trans rfl
        have hcz23_6:wc.cell? ⟨gb187,6,none⟩=some (.int .i64 a0_6):=(ah BK187.o 6).trans rfl
        have hcz23_7:wc.cell? ⟨gb187,7,none⟩=some (.int .i64 a0_7):=(ah BK187.o 7).trans rfl
        have hcz23_8:wc.cell? ⟨gb187,8,none⟩=some (.int .i64 a0_8):=(ah BK187.o 8).trans rfl
        have hcz23_9:wc.cell? ⟨gb187,9,none⟩=some (.int .i64 a0_9):=(ah BK187.o 9).trans rfl
        have hfz23_0:=ai BK187.o 0
        have hfz23_1:=ai BK187.o 1
        have hfz23_2:=ai BK187.o 2
        have hfz23_3:=ai BK187.o 3
        have hfz23_4:=ai BK187.o 4
        have hfz23_5:=ai BK187.o 5
        have hfz23_6:=ai BK187.o 6
        have hfz23_7:=ai BK187.o 7
        have hfz23_8:=ai BK187.o 8
        have hfz23_9:=ai BK187.o 9
        go_wp2_with (first|(go_at_call 39;(with_reducible refine(pylonref04_good.calls a0_2 a0_3 a0_4 a0_5 true _ A18.o).mono ?_);rintro e w24 ⟨rfl,hb⟩;have n0_:=ag.mk (aN (g:=gb187) (o:=.cells #[.int .i64 a0_0,.int .i64 a0_1,.int .i64 a0_2,.int .i64 a0_3,.int .i64 a0_4,.int .i64 a0_5,.int .i64 a0_6,.int .i64 a0_7,.int .i64 a0_8,.int .i64 a0_9] 25 (0,0)) (by (with_reducible repeat(first|refine av ?_ _|refine aA ?_|refine au ?_ _));exact BK187.o) hb);have n1_:=ag.mk (aj (by repeat(first|(with_reducible first|exact HB.o|apply ae|apply aa|apply af|refine ax ?_ GE187.o)|exact HB.o)) hb);clear BK187;clear HB;have BK187:=n0_;have HB:=n1_;clear n0_ n1_;(try clear hb);(try clear hb2);(try clear hk);(try clear hi);have hcz25_0:w24.cell? ⟨gb187,0,none⟩=some (.int .i64 a0_0):=(ah BK187.o 0).trans rfl;have hcz25_1:w24.cell? ⟨gb187,1,none⟩=some (.int .i64 a0_1):=(ah BK187.o 1).trans rfl;have hcz25_2:w24.cell? ⟨gb187,2,none⟩=some (.int .i64 a0_2):=(ah BK187.o 2).trans rfl;have hcz25_3:w24.cell? ⟨gb187,3,none⟩=some (.int .i64 a0_3):=(ah BK187.o 3).trans rfl;have hcz25_4:w24.cell? ⟨gb187,4,none⟩=some (.int .i64 a0_4):=(ah BK187.o 4).trans rfl;have hcz25_5:w24.cell? ⟨gb187,5,none⟩=some (.int .i64 a0_5):=(ah BK187.o 5).trans rfl;have hcz25_6:w24.cell? ⟨gb187,6,none⟩=some (.int .i64 a0_6):=(ah BK187.o 6).trans rfl;have hcz25_7:w24.cell? ⟨gb187,7,none⟩=some (.int .i64 a0_7):=(ah BK187.o 7).trans rfl;have hcz25_8:w24.cell? ⟨gb187,8,none⟩=some (.int .i64 a0_8):=(ah BK187.o 8).trans rfl;have hcz25_9:w24.cell? ⟨gb187,9,none⟩=some (.int .i64 a0_9):=(ah BK187.o 9).trans rfl;have hfz25_0:=ai BK187.o 0;have hfz25_1:=ai BK187.o 1;have hfz25_2:=ai BK187.o 2;have hfz25_3:=ai BK187.o 3;have hfz25_4:=ai BK187.o 4;have hfz25_5:=ai BK187.o 5;have hfz25_6:=ai BK187.o 6;have hfz25_7:=ai BK187.o 7;have hfz25_8:=ai BK187.o 8;have hfz25_9:=ai BK187.o 9)|(go_at_call 39;(with_reducible refine(pylonref04_good.calls a0_6 a0_7 a0_8 a0_9 true _ A20.o).mono ?_);rintro e w26 ⟨rfl,hb⟩;have n0_:=ag.mk (aN (g:=gb187) (o:=.cells #[.int .i64 a0_0,.int .i64 a0_1,.int .i64 a0_2,.int .i64 a0_3,.int .i64 a0_4,.int .i64 a0_5,.int .i64 a0_6,.int .i64 a0_7,.int .i64 a0_8,.int .i64 a0_9] 25 (0,0)) (by (with_reducible repeat(first|refine av ?_ _|refine aA ?_|refine au ?_ _));exact BK187.o) hb);have n1_:=ag.mk (aj (by repeat(first|(with_reducible first|exact HB.o|apply ae|apply aa|apply af|refine ax ?_ GE187.o)|exact HB.o)) hb);clear BK187;clear HB;have BK187:=n0_;have HB:=n1_;clear n0_ n1_;(try clear hb);(try clear hb2);(try clear hk);(try clear hi);have hcz27_0:w26.cell? ⟨gb187,0,none⟩=some (.int .i64 a0_0):=(ah BK187.o 0).trans rfl;have hcz27_1:w26.cell? ⟨gb187,1,none⟩=some (.int .i64 a0_1):=(ah BK187.o 1).trans rfl;have hcz27_2:w26.cell? ⟨gb187,2,none⟩=some (.int .i64 a0_2):=(ah BK187.o 2).trans rfl;have hcz27_3:w26.cell? ⟨gb187,3,none⟩=some (.int .i64 a0_3):=(ah BK187.o 3).trans rfl;have hcz27_4:w26.cell? ⟨gb187,4,none⟩=some (.int .i64 a0_4):=(ah BK187.o 4).trans rfl;have hcz27_5:w26.cell? ⟨gb187,5,none⟩=some (.int .i64 a0_5):=(ah BK187.o 5).trans rfl;have hcz27_6:w26.cell? ⟨gb187,6,none⟩=some (.int .i64 a0_6):=(ah BK187.o 6).trans rfl;have hcz27_7:w26.cell? ⟨gb187,7,none⟩=some (.int .i64 a0_7):=(ah BK187.o 7).trans rfl;have hcz27_8:w26.cell? ⟨gb187,8,none⟩=some (.int .i64 a0_8):=(ah BK187.o 8).trans rfl;have hcz27_9:w26.cell? ⟨gb187,9,none⟩=some (.int .i64 a0_9):=(ah BK187.o 9).trans rfl;have hfz27_0:=ai BK187.o 0;have hfz27_1:=ai BK187.o 1;have hfz27_2:=ai BK187.o 2;have hfz27_3:=ai BK187.o 3;have hfz27_4:=ai BK187.o 4;have hfz27_5:=ai BK187.o 5;have hfz27_6:=ai BK187.o 6;have hfz27_7:=ai BK187.o 7;have hfz27_8:=ai BK187.o 8;have hfz27_9:=ai BK187.o 9))
        go_ret
        exact⟨by first|rfl|(simp[ay,az] <;> rfl)|(simp[*,ay,az] <;> rfl),by repeat(first|(with_reducible first|exact HB.o|apply ae|apply aa|apply af|refine ax ?_ GE187.o)|exact HB.o)⟩
       ·rw[if_neg c22] at H
        have c22b0:(a0_2 == a0_6)=false:=beq_eq_false_iff_ne.mpr c22
        have c22b1:(a0_2 != a0_6)=true:=bne_iff_ne.mpr c22
        obtain rfl:=Option.some.inj H
        have hcz28_0:wc.cell? ⟨gb187,0,none⟩=some (.int .i64 a0_0):=(ah BK187.o 0).trans rfl
        have hcz28_1:wc.cell? ⟨gb187,1,none⟩=some (.int .i64 a0_1):=(ah BK187.o 1).trans rfl
        have hcz28_2:wc.cell? ⟨gb187,2,none⟩=some (.int .i64 a0_2):=(ah BK187.o 2).trans rfl
        have hcz28_3:wc.cell? ⟨gb187,3,none⟩=some (.int .i64 a0_3):=(ah BK187.o 3).trans rfl
        have hcz28_4:wc.cell? ⟨gb187,4,none⟩=some (.int .i64 a0_4):=(ah BK187.o 4).trans rfl
        have hcz28_5:wc.cell? ⟨gb187,5,none⟩=some (.int .i64 a0_5):=(ah BK187.o 5).trans rfl
        have hcz28_6:wc.cell? ⟨gb187,6,none⟩=some (.int .i64 a0_6):=(ah BK187.o 6).trans rfl
        have hcz28_7:wc.cell? ⟨gb187,7,none⟩=some (.int .i64 a0_7):=(ah BK187.o 7).trans rfl
        have hcz28_8:wc.cell? ⟨gb187,8,none⟩=some (.int .i64 a0_8):=(ah BK187.o 8).trans rfl
        have hcz28_9:wc.cell? ⟨gb187,9,none⟩=some (.int .i64 a0_9):=(ah BK187.o 9).trans rfl
        have hfz28_0:=ai BK187.o 0
        have hfz28_1:=ai BK187.o 1
        have hfz28_2:=ai BK187.o 2
        have hfz28_3:=ai BK187.o 3
        have hfz28_4:=ai BK187.o 4
        have hfz28_5:=ai BK187.o 5
        have hfz28_6:=ai BK187.o 6
        have hfz28_7:=ai BK187.o 7
        have hfz28_8:=ai BK187.o 8
        have hfz28_9:=ai BK187.o 9
        go_wp2_with (first|(go_at_call 39;(with_reducible refine(pylonref04_good.calls a0_2 a0_3 a0_4 a0_5 true _ A18.o).mono ?_);rintro e w29 ⟨rfl,hb⟩;have n0_:=ag.mk (aN (g:=gb187) (o:=.cells #[.int .i64 a0_0,.int .i64 a0_1,.int .i64 a0_2,.int .i64 a0_3,.int .i64 a0_4,.int .i64 a0_5,.int .i64 a0_6,.int .i64 a0_7,.int .i64 a0_8,.int .i64 a0_9] 25 (0,0)) (by (with_reducible repeat(first|refine av ?_ _|refine aA ?_|refine au ?_ _));exact BK187.o) hb);have n1_:=ag.mk (aj (by repeat(first|(with_reducible first|exact HB.o|apply ae|apply aa|apply af|refine ax ?_ GE187.o)|exact HB.o)) hb);clear BK187;clear HB;have BK187:=n0_;have HB:=n1_;clear n0_ n1_;(try clear hb);(try clear hb2);(try clear hk);(try clear hi);have hcz30_0:w29.cell? ⟨gb187,0,none⟩=some (.int .i64 a0_0):=(ah BK187.o 0).trans rfl;have hcz30_1:w29.cell? ⟨gb187,1,none⟩=some (.int .i64 a0_1):=(ah BK187.o 1).trans rfl;have hcz30_2:w29.cell? ⟨gb187,2,none⟩=some (.int .i64 a0_2):=(ah BK187.o 2).trans rfl;have hcz30_3:w29.cell? ⟨gb187,3,none⟩=some (.int .i64 a0_3):=(ah BK187.o 3).trans rfl;have hcz30_4:w29.cell? ⟨gb187,4,none⟩=some (.int .i64 a0_4):=(ah BK187.o 4).trans rfl;have hcz30_5:w29.cell? ⟨gb187,5,none⟩=some (.int .i64 a0_5):=(ah BK187.o 5).trans rfl;have hcz30_6:w29.cell? ⟨gb187,6,none⟩=some (.int .i64 a0_6):=(ah BK187.o 6).trans rfl;have hcz30_7:w29.cell? ⟨gb187,7,none⟩=some (.int .i64 a0_7):=(ah BK187.o 7).trans rfl;have hcz30_8:w29.cell? ⟨gb187,8,none⟩=some (.int .i64 a0_8):=(ah BK187.o 8).trans rfl;have hcz30_9:w29.cell? ⟨gb187,9,none⟩=some (.int .i64 a0_9):=(ah BK187.o 9).trans rfl;have hfz30_0:=ai BK187.o 0;have hfz30_1:=ai BK187.o 1;have hfz30_2:=ai BK187.o 2;have hfz30_3:=ai BK187.o 3;have hfz30_4:=ai BK187.o 4;have hfz30_5:=ai BK187.o 5;have hfz30_6:=ai BK187.o 6;have hfz30_7:=ai BK187.o 7;have hfz30_8:=ai BK187.o 8;have hfz30_9:=ai BK187.o 9)|(go_at_call 39;(with_reducible refine(pylonref04_good.calls a0_6 a0_7 a0_8 a0_9 true _ A20.o).mono ?_);rintro e w31 ⟨rfl,hb⟩;have n0_:=ag.mk (aN (g:=gb187) (o:=.cells #[.int .i64 a0_0,.int .i64 a0_1,.int .i64 a0_2,.int .i64 a0_3,.int .i64 a0_4,.int .i64 a0_5,.int .i64 a0_6,.int .i64 a0_7,.int .i64 a0_8,.int .i64 a0_9] 25 (0,0)) (by (with_reducible repeat(first|refine av ?_ _|refine aA ?_|refine au ?_ _));exact BK187.o) hb);have n1_:=ag.mk (aj (by repeat(first|(with_reducible first|exact HB.o|apply ae|apply aa|apply af|refine ax ?_ GE187.o)|exact HB.o)) hb);clear BK187;clear HB;have BK187:=n0_;have HB:=n1_;clear n0_ n1_;(try clear hb);(try clear hb2);(try clear hk);(try clear hi);have hcz32_0:w31.cell? ⟨gb187,0,none⟩=some (.int .i64 a0_0):=(ah BK187.o 0).trans rfl;have hcz32_1:w31.cell? ⟨gb187,1,none⟩=some (.int .i64 a0_1):=(ah BK187.o 1).trans rfl;have hcz32_2:w31.cell? ⟨gb187,2,none⟩=some (.int .i64 a0_2):=(ah BK187.o 2).trans rfl;have hcz32_3:w31.cell? ⟨gb187,3,none⟩=some (.int .i64 a0_3):=(ah BK187.o 3).trans rfl;have hcz32_4:w31.cell? ⟨gb187,4,none⟩=some (.int .i64 a0_4):=(ah BK187.o 4).trans rfl;have hcz32_5:w31.cell? ⟨gb187,5,none⟩=some (.int .i64 a0_5):=(ah BK187.o 5).trans rfl;have hcz32_6:w31.cell? ⟨gb187,6,none⟩=some (.int .i64 a0_6):=(ah BK187.o 6).trans rfl;have hcz32_7:w31.cell? ⟨gb187,7,none⟩=some (.int .i64 a0_7):=(ah BK187.o 7).trans rfl;have hcz32_8:w31.cell? ⟨gb187,8,none⟩=some (.int .i64 a0_8):=(ah BK187.o 8).trans rfl;have hcz32_9:w31.cell? ⟨gb187,9,none⟩=some (.int .i64 a0_9):=(ah BK187.o 9).trans rfl;have hfz32_0:=ai BK187.o 0;have hfz32_1:=ai BK187.o 1;have hfz32_2:=ai BK187.o 2;have hfz32_3:=ai BK187.o 3;have hfz32_4:=ai BK187.o 4;have hfz32_5:=ai BK187.o 5;have hfz32_6:=ai BK187.o 6;have hfz32_7:=ai BK187.o 7;have hfz32_8:=ai BK187.o 8;have hfz32_9:=ai BK187.o 9))
        go_ret
        exact⟨by first|rfl|(simp[ay,az] <;> rfl)|(simp[*,ay,az] <;> rfl),by repeat(first|(with_reducible first|exact HB.o|apply ae|apply aa|apply af|refine ax ?_ GE187.o)|exact HB.o)⟩
      ·replace c21:=Bool.eq_false_iff.mpr c21
       subst c21
       have H1:(some 8)=some r:=by rw[if_neg (show ¬ (false=true) by decide)] at H;exact H
       clear H
       have H:=H1
       clear H1
       obtain rfl:=Option.some.inj H
       have hcz33_0:wc.cell? ⟨gb187,0,none⟩=some (.int .i64 a0_0):=(ah BK187.o 0).trans rfl
       have hcz33_1:wc.cell? ⟨gb187,1,none⟩=some (.int .i64 a0_1):=(ah BK187.o 1).trans rfl
       have hcz33_2:wc.cell? ⟨gb187,2,none⟩=some (.int .i64 a0_2):=(ah BK187.o 2).trans rfl
       have hcz33_3:wc.cell? ⟨gb187,3,none⟩=some (.int .i64 a0_3):=(ah BK187.o 3).trans rfl
       have hcz33_4:wc.cell? ⟨gb187,4,none⟩=some (.int .i64 a0_4):=(ah BK187.o 4).trans rfl
       have hcz33_5:wc.cell? ⟨gb187,5,none⟩=some (.int .i64 a0_5):=(ah BK187.o 5).trans rfl
       have hcz33_6:wc.cell? ⟨gb187,6,none⟩=some (.int .i64 a0_6):=(ah BK187.o 6).trans rfl
       have hcz33_7:wc.cell? ⟨gb187,7,none⟩=some (.int .i64 a0_7):=(ah BK187.o 7).trans rfl
       have hcz33_8:wc.cell? ⟨gb187,8,none⟩=some (.int .i64 a0_8):=(ah BK187.o 8).trans rfl
       have hcz33_9:wc.cell? ⟨gb187,9,none⟩=some (.int .i64 a0_9):=(ah BK187.o 9).trans rfl
       have hfz33_0:=ai BK187.o 0
       have hfz33_1:=ai BK187.o 1
       have hfz33_2:=ai BK187.o 2
       have hfz33_3:=ai BK187.o 3
       have hfz33_4:=ai BK187.o 4
       have hfz33_5:=ai BK187.o 5
       have hfz33_6:=ai BK187.o 6
       have hfz33_7:=ai BK187.o 7
       have hfz33_8:=ai BK187.o 8
       have hfz33_9:=ai BK187.o 9
       go_wp2_with (first|(go_at_call 39;(with_reducible refine(pylonref04_good.calls a0_2 a0_3 a0_4 a0_5 true _ A18.o).mono ?_);rintro e w34 ⟨rfl,hb⟩;have n0_:=ag.mk (aN (g:=gb187) (o:=.cells #[.int .i64 a0_0,.int .i64 a0_1,.int .i64 a0_2,.int .i64 a0_3,.int .i64 a0_4,.int .i64 a0_5,.int .i64 a0_6,.int .i64 a0_7,.int .i64 a0_8,.int .i64 a0_9] 25 (0,0)) (by (with_reducible repeat(first|refine av ?_ _|refine aA ?_|refine au ?_ _));exact BK187.o) hb);have n1_:=ag.mk (aj (by repeat(first|(with_reducible first|exact HB.o|apply ae|apply aa|apply af|refine ax ?_ GE187.o)|exact HB.o)) hb);clear BK187;clear HB;have BK187:=n0_;have HB:=n1_;clear n0_ n1_;(try clear hb);(try clear hb2);(try clear hk);(try clear hi);have hcz35_0:w34.cell? ⟨gb187,0,none⟩=some (.int .i64 a0_0):=(ah BK187.o 0).trans rfl;have hcz35_1:w34.cell? ⟨gb187,1,none⟩=some (.int .i64 a0_1):=(ah BK187.o 1).trans rfl;have hcz35_2:w34.cell? ⟨gb187,2,none⟩=some (.int .i64 a0_2):=(ah BK187.o 2).trans rfl;have hcz35_3:w34.cell? ⟨gb187,3,none⟩=some (.int .i64 a0_3):=(ah BK187.o 3).trans rfl;have hcz35_4:w34.cell? ⟨gb187,4,none⟩=some (.int .i64 a0_4):=(ah BK187.o 4).trans rfl;have hcz35_5:w34.cell? ⟨gb187,5,none⟩=some (.int .i64 a0_5):=(ah BK187.o 5).trans rfl;have hcz35_6:w34.cell? ⟨gb187,6,none⟩=some (.int .i64 a0_6):=(ah BK187.o 6).trans rfl;have hcz35_7:w34.cell? ⟨gb187,7,none⟩=some (.int .i64 a0_7):=(ah BK187.o 7).trans rfl;have hcz35_8:w34.cell? ⟨gb187,8,none⟩=some (.int .i64 a0_8):=(ah BK187.o 8).trans rfl;have hcz35_9:w34.cell? ⟨gb187,9,none⟩=some (.int .i64 a0_9):=(ah BK187.o 9).trans rfl;have hfz35_0:=ai BK187.o 0;have hfz35_1:=ai BK187.o 1;have hfz35_2:=ai BK187.o 2;have hfz35_3:=ai BK187.o 3;have hfz35_4:=ai BK187.o 4;have hfz35_5:=ai BK187.o 5;have hfz35_6:=ai BK187.o 6;have hfz35_7:=ai BK187.o 7;have hfz35_8:=ai BK187.o 8;have hfz35_9:=ai BK187.o 9)|(go_at_call 39;(with_reducible refine(pylonref04_good.calls a0_6 a0_7 a0_8 a0_9 false _ A20.o).mono ?_);rintro e w36 ⟨rfl,hb⟩;have n0_:=ag.mk (aN (g:=gb187) (o:=.cells #[.int .i64 a0_0,.int .i64 a0_1,.int .i64 a0_2,.int .i64 a0_3,.int .i64 a0_4,.int .i64 a0_5,.int .i64 a0_6,.int .i64 a0_7,.int .i64 a0_8,.int .i64 a0_9] 25 (0,0)) (by (with_reducible repeat(first|refine av ?_ _|refine aA ?_|refine au ?_ _));exact BK187.o) hb);have n1_:=ag.mk (aj (by repeat(first|(with_reducible first|exact HB.o|apply ae|apply aa|apply af|refine ax ?_ GE187.o)|exact HB.o)) hb);clear BK187;clear HB;have BK187:=n0_;have HB:=n1_;clear n0_ n1_;(try clear hb);(try clear hb2);(try clear hk);(try clear hi)))
       go_ret
       exact⟨by first|rfl|(simp[ay,az] <;> rfl)|(simp[*,ay,az] <;> rfl),by repeat(first|(with_reducible first|exact HB.o|apply ae|apply aa|apply af|refine ax ?_ GE187.o)|exact HB.o)⟩
     ·replace c19:=Bool.eq_false_iff.mpr c19
      subst c19
      have H1:(some 8)=some r:=by rw[if_neg (show ¬ (false=true) by decide)] at H;exact H
      clear H
      have H:=H1
      clear H1
      obtain rfl:=Option.some.inj H
      have hcz37_0:wc.cell? ⟨gb187,0,none⟩=some (.int .i64 a0_0):=(ah BK187.o 0).trans rfl
      have hcz37_1:wc.cell? ⟨gb187,1,none⟩=some (.int .i64 a0_1):=(ah BK187.o 1).trans rfl
      have hcz37_2:wc.cell? ⟨gb187,2,none⟩=some (.int .i64 a0_2):=(ah BK187.o 2).trans rfl
      have hcz37_3:wc.cell? ⟨gb187,3,none⟩=some (.int .i64 a0_3):=(ah BK187.o 3).trans rfl
      have hcz37_4:wc.cell? ⟨gb187,4,none⟩=some (.int .i64 a0_4):=(ah BK187.o 4).trans rfl
      have hcz37_5:wc.cell? ⟨gb187,5,none⟩=some (.int .i64 a0_5):=(ah BK187.o 5).trans rfl
      have hcz37_6:wc.cell? ⟨gb187,6,none⟩=some (.int .i64 a0_6):=(ah BK187.o 6).trans rfl
      have hcz37_7:wc.cell? ⟨gb187,7,none⟩=some (.int .i64 a0_7):=(ah BK187.o 7).trans rfl
      have hcz37_8:wc.cell? ⟨gb187,8,none⟩=some (.int .i64 a0_8):=(ah BK187.o 8).trans rfl
      have hcz37_9:wc.cell? ⟨gb187,9,none⟩=some (.int .i64 a0_9):=(ah BK187.o 9).trans rfl
      have hfz37_0:=ai BK187.o 0
      have hfz37_1:=ai BK187.o 1
      have hfz37_2:=ai BK187.o 2
      have hfz37_3:=ai BK187.o 3
      have hfz37_4:=ai BK187.o 4
      have hfz37_5:=ai BK187.o 5
      have hfz37_6:=ai BK187.o 6
      have hfz37_7:=ai BK187.o 7
      have hfz37_8:=ai BK187.o 8
      have hfz37_9:=ai BK187.o 9
      go_wp2_with (first|(go_at_call 39;(with_reducible refine(pylonref04_good.calls a0_2 a0_3 a0_4 a0_5 false _ A18.o).mono ?_);rintro e w38 ⟨rfl,hb⟩;have n0_:=ag.mk (aN (g:=gb187) (o:=.cells #[.int .i64 a0_0,.int .i64 a0_1,.int .i64 a0_2,.int .i64 a0_3,.int .i64 a0_4,.int .i64 a0_5,.int .i64 a0_6,.int .i64 a0_7,.int .i64 a0_8,.int .i64 a0_9] 25 (0,0)) (by (with_reducible repeat(first|refine av ?_ _|refine aA ?_|refine au ?_ _));exact BK187.o) hb);have n1_:=ag.mk (aj (by repeat(first|(with_reducible first|exact HB.o|apply ae|apply aa|apply af|refine ax ?_ GE187.o)|exact HB.o)) hb);clear BK187;clear HB;have BK187:=n0_;have HB:=n1_;clear n0_ n1_;(try clear hb);(try clear hb2);(try clear hk);(try clear hi)))
      go_ret
      exact⟨by first|rfl|(simp[ay,az] <;> rfl)|(simp[*,ay,az] <;> rfl),by repeat(first|(with_reducible first|exact HB.o|apply ae|apply aa|apply af|refine ax ?_ GE187.o)|exact HB.o)⟩
end Go.Proofs.YtcmhfcciapenfaaDoor.Pa
