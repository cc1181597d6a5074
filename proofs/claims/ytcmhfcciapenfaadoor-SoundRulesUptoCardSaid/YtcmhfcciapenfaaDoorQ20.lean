/- A part of the proof. -/
import Derived.Test.YtcmhfcciapenfaaDoorQ05
set_option linter.all false
namespace Go.Proofs.YtcmhfcciapenfaaDoor.Pa
open Go.RowKit Go.Proofs.YtcmhfcciapenfaaDoorW.PrintWords Go.Proofs.YtcmhfcciapenfaaDoorW.PrintLast Go.Proofs.YtcmhfcciapenfaaDoorW.PrintMore
attribute [local go_sem] bJ bL bU bV bA bB bM bN
mutual
def pylonlaw09_md.l0:Nat → Int → Int → Option (Int)
 |0,_,_=>none
 |k+1,x0,x3=>if x3≤12 then (if x3=2 then (if x0 < 29 then (some (wrap64 ((wrap64 ((wrap64 (100 * x3))+x0))+1))) else (pylonlaw09_md.l0 k (wrap64 (x0 - 29)) (wrap64 (x3+1)))) else (if x3=4 then (pylonlaw09_md.j1 k x0 x3 31 (x3 == 4)) else (if x3=6 then (pylonlaw09_md.j1 k x0 x3 31 (x3 == 6)) else (if x3=9 then (pylonlaw09_md.j1 k x0 x3 31 (x3 == 9)) else (pylonlaw09_md.j1 k x0 x3 31 (x3 == 11)))))) else (some 101)
def pylonlaw09_md.j1:Nat → Int → Int → Int → Bool → Option (Int)
 |0,_,_,_,_=>none
 |k+1,x0,x3,x4,x16=>if x16=true then (if x0 < 30 then (some (wrap64 ((wrap64 ((wrap64 (100 * x3))+x0))+1))) else (pylonlaw09_md.l0 k (wrap64 (x0 - 30)) (wrap64 (x3+1)))) else (if x0 < x4 then (some (wrap64 ((wrap64 ((wrap64 (100 * x3))+x0))+1))) else (pylonlaw09_md.l0 k (wrap64 (x0 - x4)) (wrap64 (x3+1))))
end
def pylonlaw09_md.f (k:Nat) (a0:Int):Option (Int):=pylonlaw09_md.l0 k (wrap64 (Int.tmod (IntKind.u64.wrap (a0)) 366)) 1
theorem pylonlaw09_md.mono_l : ∀ k,(∀ y0 y1,LeO (pylonlaw09_md.l0 k y0 y1) (pylonlaw09_md.l0 (k+1) y0 y1))∧(∀ y0 y1 y2 y3,LeO (pylonlaw09_md.j1 k y0 y1 y2 y3) (pylonlaw09_md.j1 (k+1) y0 y1 y2 y3))
 |0=>⟨fun _ _ r h=>by simp[pylonlaw09_md.l0] at h,fun _ _ _ _ r h=>by simp[pylonlaw09_md.j1] at h⟩
 |k+1=>by
  obtain⟨ih0,ih1⟩:=pylonlaw09_md.mono_l k
  refine⟨?_,?_⟩
  ·intro y0 y1
   unfold pylonlaw09_md.l0
   repeat' first
   |(with_reducible exact ih0 _ _)
   |(with_reducible exact ih1 _ _ _ _)
   |(with_reducible exact LeO.refl _)
   |(with_reducible exact LeO.none _)
   |(with_reducible refine LeO.ite ?_ ?_)
   |(with_reducible refine LeO.bind ?_ (fun _=>?_))
   |exact ih0 _ _
   |exact ih1 _ _ _ _
   |exact LeO.none _
   |refine LeO.ite ?_ ?_
   |refine LeO.bind ?_ (fun _=>?_)
  ·intro y0 y1 y2 y3
   unfold pylonlaw09_md.j1
   repeat' first
   |(with_reducible exact ih0 _ _)
   |(with_reducible exact ih1 _ _ _ _)
   |(with_reducible exact LeO.refl _)
   |(with_reducible exact LeO.none _)
   |(with_reducible refine LeO.ite ?_ ?_)
   |(with_reducible refine LeO.bind ?_ (fun _=>?_))
   |exact ih0 _ _
   |exact ih1 _ _ _ _
   |exact LeO.none _
   |refine LeO.ite ?_ ?_
   |refine LeO.bind ?_ (fun _=>?_)
theorem pylonlaw09_md.mono : ∀ a0 k,LeO (pylonlaw09_md.f k a0) (pylonlaw09_md.f (k+1) a0):=by
 intro a0 k
 obtain⟨ih0,ih1⟩:=pylonlaw09_md.mono_l k
 unfold pylonlaw09_md.f
 repeat' first
   |(with_reducible exact ih0 _ _)
   |(with_reducible exact ih1 _ _ _ _)
   |(with_reducible exact LeO.refl _)
   |(with_reducible exact LeO.none _)
   |(with_reducible refine LeO.ite ?_ ?_)
   |(with_reducible refine LeO.bind ?_ (fun _=>?_))
   |exact ih0 _ _
   |exact ih1 _ _ _ _
   |exact LeO.none _
   |refine LeO.ite ?_ ?_
   |refine LeO.bind ?_ (fun _=>?_)
set_option maxHeartbeats 8000000 in
set_option maxRecDepth 100000 in
theorem pylonlaw09_md.calls (k:Nat) (a0:Int) (r:Int) (w:World) (h:pylonlaw09_md.f k a0=some r) :
  Calls Tryd.prog 19 #[.int .i64 a0] w fun e w'=>e = .returned (.int .i64 r)∧aQ w w':=by
 have H:(pylonlaw09_md.l0 k (wrap64 (Int.tmod (IntKind.u64.wrap (a0)) 366)) 1)=some r:=h
 clear h
 have H':=ag.mk H
 clear H
 go_enter Tryd.func19,Tryd.ntmps19
 go_wp2
 go_loopg [0,3] k (fun kq v0 v3 w'=>∃ (x0_1:Int) (x3_1:Int),v0 = .int .i64 x0_1∧v3 = .int .i64 x3_1∧ag (pylonlaw09_md.l0 kq x0_1 x3_1=some r)∧ag (kq≤k)∧aQ w w')
 case atStart=>exact⟨(wrap64 (Int.tmod (IntKind.u64.wrap (a0)) 366)),(1),(by first|rfl|(simp;done)|(simp[*];done)|(simp[aJ];done)|(simp[aK];done)),(by first|rfl|(simp;done)|(simp[*];done)|(simp[aJ];done)|(simp[aK];done)),H',⟨Nat.le_refl _⟩,by repeat(first|exact aQ.refl _|apply aQ.step)⟩
 case round=>
  clear H'
  try clear c1
  obtain⟨x0_1,x3_1,rfl,rfl,HA,HK1,⟨m1,rfl⟩⟩:=hrel
  cases gk with
  |zero=>exact absurd HA.o (by simp[pylonlaw09_md.l0])
  |succ k1=>
   have H:=HA.o
   clear HA
   simp only[pylonlaw09_md.l0] at H
   by_cases c2:x3_1≤12
   ·rw[if_pos c2] at H
    have c2b0:decide (x3_1≤12)=true:=decide_eq_true c2
    clear c2
    by_cases c3:x3_1=2
    ·rw[if_pos c3] at H
     have c3b0:(x3_1 == 2)=true:=beq_iff_eq.mpr c3
     have c3b1:(x3_1 != 2)=false:=bne_eq_false_iff_eq.mpr c3
     clear c3
     by_cases c4:x0_1 < 29
     ·rw[if_pos c4] at H
      have c4b0:decide (x0_1 < 29)=true:=decide_eq_true c4
      clear c4
      obtain rfl:=Option.some.inj H
      go_wp2
      go_ret
      exact⟨by first|rfl|(simp;done)|(simp[*];done),by repeat(first|exact aQ.refl _|apply aQ.step)⟩
     ·rw[if_neg c4] at H
      have c4b0:decide (x0_1 < 29)=false:=decide_eq_false c4
      clear c4
      have H':=ag.mk H
      clear H
      go_wp2
      go_roundg k1
      case measure=>have:=HK1.o;omega
      case rel=>exact⟨(wrap64 (x0_1 - 29)),(wrap64 (x3_1+1)),(by first|rfl|(simp;done)|(simp[*];done)|(simp[aJ];done)|(simp[aK];done)),(by first|rfl|(simp;done)|(simp[*];done)|(simp[aJ];done)|(simp[aK];done)),H',⟨by have:=HK1.o;omega⟩,by repeat(first|exact aQ.refl _|apply aQ.step)⟩
    ·rw[if_neg c3] at H
     have c3b0:(x3_1 == 2)=false:=beq_eq_false_iff_ne.mpr c3
     have c3b1:(x3_1 != 2)=true:=bne_iff_ne.mpr c3
     have HC5:=ag.mk H
     clear H
     go_upto_if 16 with (fail)
     go_cut [16] (fun v16 wc=>∃ (kq:Nat) (x16_4:Bool),v16 = .bool x16_4∧ag (pylonlaw09_md.j1 kq x0_1 x3_1 31 x16_4=some r)∧ag (kq≤k1)∧aQ w wc)
     case first=>
      have H:=HC5.o
      clear HC5
      by_cases c6:x3_1=4
      ·rw[if_pos c6] at H
       have c6b0:(x3_1 == 4)=true:=beq_iff_eq.mpr c6
       have c6b1:(x3_1 != 4)=false:=bne_eq_false_iff_eq.mpr c6
       clear c6
       (first|rw[c6b0]|(simp only[i64_w,i32_w];rw[c6b0])|skip)
       have H':=ag.mk H
       clear H
       go_wp2
       go_meet
       case rel=>exact⟨_,((x3_1 == 4)),(by first|rfl|(simp;done)|(simp[*];done)|(simp[aJ];done)|(simp[aK];done)),H',⟨by have:=HK1.o;first|omega|exact Nat.le_refl _⟩,by repeat(first|exact aQ.refl _|apply aQ.step)⟩
      ·rw[if_neg c6] at H
       have c6b0:(x3_1 == 4)=false:=beq_eq_false_iff_ne.mpr c6
       have c6b1:(x3_1 != 4)=true:=bne_iff_ne.mpr c6
       (first|rw[c6b0]|(simp only[i64_w,i32_w];rw[c6b0])|skip)
       by_cases c7:x3_1=6
       ·rw[if_pos c7] at H
        have c7b0:(x3_1 == 6)=true:=beq_iff_eq.mpr c7
        have c7b1:(x3_1 != 6)=false:=bne_eq_false_iff_eq.mpr c7
        clear c7
        have H':=ag.mk H
        clear H
        go_wp2
        go_meet
        case rel=>exact⟨_,((x3_1 == 6)),(by first|rfl|(simp;done)|(simp[*];done)|(simp[aJ];done)|(simp[aK];done)),H',⟨by have:=HK1.o;first|omega|exact Nat.le_refl _⟩,by repeat(first|exact aQ.refl _|apply aQ.step)⟩
       ·rw[if_neg c7] at H
        have c7b0:(x3_1 == 6)=false:=beq_eq_false_iff_ne.mpr c7
        have c7b1:(x3_1 != 6)=true:=bne_iff_ne.mpr c7
        by_cases c8:x3_1=9
        ·rw[if_pos c8] at H
         have c8b0:(x3_1 == 9)=true:=beq_iff_eq.mpr c8
         have c8b1:(x3_1 != 9)=false:=bne_eq_false_iff_eq.mpr c8
         clear c8
         have H':=ag.mk H
         clear H
         go_wp2
         go_meet
         case rel=>exact⟨_,((x3_1 == 9)),(by first|rfl|(simp;done)|(simp[*];done)|(simp[aJ];done)|(simp[aK];done)),H',⟨by have:=HK1.o;first|omega|exact Nat.le_refl _⟩,by repeat(first|exact aQ.refl _|apply aQ.step)⟩
        ·rw[if_neg c8] at H
         have c8b0:(x3_1 == 9)=false:=beq_eq_false_iff_ne.mpr c8
         have c8b1:(x3_1 != 9)=true:=bne_iff_ne.mpr c8
         have H':=ag.mk H
         clear H
         go_wp2
         go_meet
         case rel=>exact⟨_,((x3_1 == 11)),(by first|rfl|(simp;done)|(simp[*];done)|(simp[aJ];done)|(simp[aK];done)),H',⟨by have:=HK1.o;first|omega|exact Nat.le_refl _⟩,by repeat(first|exact aQ.refl _|apply aQ.step)⟩
     case rest=>
      clear HC5
      try clear c1
      try clear c2
      try clear c2b0
      try clear p2
      try clear c3
      try clear c3b0
      try clear c3b1
      try clear c4
      try clear c4b0
      try clear c6
      try clear c6b0
      try clear c6b1
      try clear p6
      try clear c7
      try clear c7b0
      try clear c7b1
      try clear c8
      try clear c8b0
      try clear c8b1
      obtain⟨kq,x16_4,rfl,HA,HJ4,⟨mc4,rfl⟩⟩:=hcut
      cases kq with
      |zero=>exact absurd HA.o (by simp[pylonlaw09_md.j1])
      |succ kj4=>
       have H:=HA.o
       clear HA
       simp only[pylonlaw09_md.j1] at H
       by_cases c9:x16_4=true
       ·subst c9
        have H1:(if x0_1 < 30 then (some (wrap64 ((wrap64 ((wrap64 (100 * x3_1))+x0_1))+1))) else (pylonlaw09_md.l0 kj4 (wrap64 (x0_1 - 30)) (wrap64 (x3_1+1))))=some r:=by rw[if_pos rfl] at H;exact H
        clear H
        have H:=H1
        clear H1
        by_cases c10:x0_1 < 30
        ·rw[if_pos c10] at H
         have c10b0:decide (x0_1 < 30)=true:=decide_eq_true c10
         clear c10
         obtain rfl:=Option.some.inj H
         go_wp2
         go_ret
         exact⟨by first|rfl|(simp;done)|(simp[*];done),by repeat(first|exact aQ.refl _|apply aQ.step)⟩
        ·rw[if_neg c10] at H
         have c10b0:decide (x0_1 < 30)=false:=decide_eq_false c10
         clear c10
         have H':=ag.mk H
         clear H
         go_wp2
         go_roundg kj4
         case measure=>have:=HK1.o;have:=HJ4.o;omega
         case rel=>exact⟨(wrap64 (x0_1 - 30)),(wrap64 (x3_1+1)),(by first|rfl|(simp;done)|(simp[*];done)|(simp[aJ];done)|(simp[aK];done)),(by first|rfl|(simp;done)|(simp[*];done)|(simp[aJ];done)|(simp[aK];done)),H',⟨by have:=HK1.o;have:=HJ4.o;omega⟩,by repeat(first|exact aQ.refl _|apply aQ.step)⟩
       ·replace c9:=Bool.eq_false_iff.mpr c9
        subst c9
        have H1:(if x0_1 < 31 then (some (wrap64 ((wrap64 ((wrap64 (100 * x3_1))+x0_1))+1))) else (pylonlaw09_md.l0 kj4 (wrap64 (x0_1 - 31)) (wrap64 (x3_1+1))))=some r:=by rw[if_neg (show ¬ (false=true) by decide)] at H;exact H
        clear H
        have H:=H1
        clear H1
        by_cases c11:x0_1 < 31
        ·rw[if_pos c11] at H
         have c11b0:decide (x0_1 < 31)=true:=decide_eq_true c11
         clear c11
         obtain rfl:=Option.some.inj H
         go_wp2
         go_ret
         exact⟨by first|rfl|(simp;done)|(simp[*];done),by repeat(first|exact aQ.refl _|apply aQ.step)⟩
        ·rw[if_neg c11] at H
         have c11b0:decide (x0_1 < 31)=false:=decide_eq_false c11
         clear c11
         have H':=ag.mk H
         clear H
         go_wp2
         go_roundg kj4
         case measure=>have:=HK1.o;have:=HJ4.o;omega
         case rel=>exact⟨(wrap64 (x0_1 - 31)),(wrap64 (x3_1+1)),(by first|rfl|(simp;done)|(simp[*];done)|(simp[aJ];done)|(simp[aK];done)),(by first|rfl|(simp;done)|(simp[*];done)|(simp[aJ];done)|(simp[aK];done)),H',⟨by have:=HK1.o;have:=HJ4.o;omega⟩,by repeat(first|exact aQ.refl _|apply aQ.step)⟩
   ·rw[if_neg c2] at H
    have c2b0:decide (x3_1≤12)=false:=decide_eq_false c2
    clear c2
    obtain rfl:=Option.some.inj H
    go_wp2
    go_ret
    exact⟨by first|rfl|(simp;done)|(simp[*];done),by repeat(first|exact aQ.refl _|apply aQ.step)⟩
def pylonref03_leap.f (a0:Int):Option (Bool):=if (Int.tmod a0 4)=0 then (if (Int.tmod a0 100)=0 then (some ((Int.tmod a0 400) == 0)) else (some true)) else (some false)
set_option maxHeartbeats 8000000 in
set_option maxRecDepth 100000 in
theorem pylonref03_leap.calls (a0:Int) (r:Bool) (w:World) (h:pylonref03_leap.f a0=some r) :
  Calls Tryd.prog 55 #[.int .i64 a0] w fun e w'=>e = .returned (.bool r)∧aQ w w':=by
 have H:(if (Int.tmod a0 4)=0 then (if (Int.tmod a0 100)=0 then (some ((Int.tmod a0 400) == 0)) else (some true)) else (some false))=some r:=h
 clear h
 by_cases c2:(Int.tmod a0 4)=0
 ·rw[if_pos c2] at H
  have c2b0:((Int.tmod a0 4) == 0)=true:=beq_iff_eq.mpr c2
  have c2b1:((Int.tmod a0 4) != 0)=false:=bne_eq_false_iff_eq.mpr c2
  clear c2
  by_cases c3:(Int.tmod a0 100)=0
  ·rw[if_pos c3] at H
   have c3b0:((Int.tmod a0 100) == 0)=true:=beq_iff_eq.mpr c3
   have c3b1:((Int.tmod a0 100) != 0)=false:=bne_eq_false_iff_eq.mpr c3
   clear c3
   obtain rfl:=Option.some.inj H
   go_enter Tryd.func55,Tryd.ntmps55
   go_wp2
   go_ret
   exact⟨by first|rfl|(simp;done)|(simp[*];done),by repeat(first|exact aQ.refl _|apply aQ.step)⟩
  ·rw[if_neg c3] at H
   have c3b0:((Int.tmod a0 100) == 0)=false:=beq_eq_false_iff_ne.mpr c3
   have c3b1:((Int.tmod a0 100) != 0)=true:=bne_iff_ne.mpr c3
   obtain rfl:=Option.some.inj H
   go_enter Tryd.func55,Tryd.ntmps55
   go_wp2
   go_ret
   exact⟨by first|rfl|(simp;done)|(simp[*];done),by repeat(first|exact aQ.refl _|apply aQ.step)⟩
 ·rw[if_neg c2] at H
  have c2b0:((Int.tmod a0 4) == 0)=false:=beq_eq_false_iff_ne.mpr c2
  have c2b1:((Int.tmod a0 4) != 0)=true:=bne_iff_ne.mpr c2
  obtain rfl:=Option.some.inj H
  go_enter Tryd.func55,Tryd.ntmps55
  go_wp2
  go_ret
  exact⟨by first|rfl|(simp;done)|(simp[*];done),by repeat(first|exact aQ.refl _|apply aQ.step)⟩
mutual
def pylonref03_Length.j0:Nat → Int → Int → Bool → Option (Int × Int)
 |0,_,_,_=>none
 |k+1,x0,x1,x19=>if x19=true then (some (0,5)) else (if x1=4 then (pylonref03_Length.j1 k x0 x1 (x1 == 4)) else (if x1=6 then (pylonref03_Length.j1 k x0 x1 (x1 == 6)) else (if x1=9 then (pylonref03_Length.j1 k x0 x1 (x1 == 9)) else (pylonref03_Length.j1 k x0 x1 (x1 == 11)))))
def pylonref03_Length.j1:Nat → Int → Int → Bool → Option (Int × Int)
 |0,_,_,_=>none
 |k+1,x0,x20,x21=>if x21=true then (some (30,0)) else (if x20=2 then ((pylonref03_leap.f x0).bind fun t155=>(if t155=true then (some (29,0)) else (some (28,0)))) else (some (31,0)))
end
def pylonref03_Length.f (k:Nat) (a0:Int) (a1:Int):Option (Int × Int):=if a0 < 1 then (pylonref03_Length.j0 k a0 a1 true) else (if a0 > 9999 then (pylonref03_Length.j0 k a0 a1 true) else (if a1 < 1 then (pylonref03_Length.j0 k a0 a1 true) else (pylonref03_Length.j0 k a0 a1 (decide (a1 > 12)))))
theorem pylonref03_Length.mono_l : ∀ k,(∀ y0 y1 y2,LeO (pylonref03_Length.j0 k y0 y1 y2) (pylonref03_Length.j0 (k+1) y0 y1 y2))∧(∀ y0 y1 y2,LeO (pylonref03_Length.j1 k y0 y1 y2) (pylonref03_Length.j1 (k+1) y0 y1 y2))
 |0=>⟨fun _ _ _ r h=>by simp[pylonref03_Length.j0] at h,fun _ _ _ r h=>by simp[pylonref03_Length.j1] at h⟩
 |k+1=>by
  obtain⟨ih0,ih1⟩:=pylonref03_Length.mono_l k
  refine⟨?_,?_⟩
  ·intro y0 y1 y2
   unfold pylonref03_Length.j0
   repeat' first
   |(with_reducible exact ih0 _ _ _)
   |(with_reducible exact ih1 _ _ _)
   |(with_reducible exact LeO.refl _)
   |(with_reducible exact LeO.none _)
   |(with_reducible refine LeO.ite ?_ ?_)
   |(with_reducible refine LeO.bind ?_ (fun _=>?_))
   |exact ih0 _ _ _
   |exact ih1 _ _ _
   |exact LeO.none _
   |refine LeO.ite ?_ ?_
   |refine LeO.bind ?_ (fun _=>?_)
  ·intro y0 y1 y2
   unfold pylonref03_Length.j1
   repeat' first
   |(with_reducible exact ih0 _ _ _)
   |(with_reducible exact ih1 _ _ _)
   |(with_reducible exact LeO.refl _)
   |(with_reducible exact LeO.none _)
   |(with_reducible refine LeO.ite ?_ ?_)
   |(with_reducible refine LeO.bind ?_ (fun _=>?_))
   |exact ih0 _ _ _
   |exact ih1 _ _ _
   |exact LeO.none _
   |refine LeO.ite ?_ ?_
   |refine LeO.bind ?_ (fun _=>?_)
theorem pylonref03_Length.mono : ∀ a0 a1 k,LeO (pylonref03_Length.f k a0 a1) (pylonref03_Length.f (k+1) a0 a1):=by
 intro a0 a1 k
 obtain⟨ih0,ih1⟩:=pylonref03_Length.mono_l k
 unfold pylonref03_Length.f
 repeat' first
   |(with_reducible exact ih0 _ _ _)
   |(with_reducible exact ih1 _ _ _)
   |(with_reducible exact LeO.refl _)
   |(with_reducible exact LeO.none _)
   |(with_reducible refine LeO.ite ?_ ?_)
   |(with_reducible refine LeO.bind ?_ (fun _=>?_))
   |exact ih0 _ _ _
   |exact ih1 _ _ _
   |exact LeO.none _
   |refine LeO.ite ?_ ?_
   |refine LeO.bind ?_ (fun _=>?_)
set_option maxHeartbeats 8000000 in
set_option maxRecDepth 100000 in
theorem pylonref03_Length.calls (k:Nat) (a0:Int) (a1:Int) (r1:Int) (r2:Int) (w:World) (h:pylonref03_Length.f k a0 a1=some (r1,r2)) :
  Calls Tryd.prog 48 #[.int .i64 a0,.int .i64 a1] w fun e w'=>e = .returned (.tuple #[.int .i64 r1,.int .i64 r2])∧aQ w w':=by
 have H:(if a0 < 1 then (pylonref03_Length.j0 k a0 a1 true) else (if a0 > 9999 then (pylonref03_Length.j0 k a0 a1 true) else (if a1 < 1 then (pylonref03_Length.j0 k a0 a1 true) else (pylonref03_Length.j0 k a0 a1 (decide (a1 > 12))))))=some (r1,r2):=h
 clear h
 have HC3:=ag.mk H
 clear H
 go_enter Tryd.func48,Tryd.ntmps48
 go_upto_region 1 with (fail)
 go_cut [19] (fun v19 wc=>∃ (kq:Nat) (x19_2:Bool),v19 = .bool x19_2∧ag (pylonref03_Length.j0 kq a0 a1 x19_2=some (r1,r2))∧ag (kq≤k)∧aQ w wc)
 case first=>
  have H:=HC3.o
  clear HC3
  by_cases c4:a0 < 1
  ·rw[if_pos c4] at H
   have c4b0:decide (a0 < 1)=true:=decide_eq_true c4
   clear c4
   (first|rw[c4b0]|(simp only[i64_w,i32_w];rw[c4b0])|skip)
   have H':=ag.mk H
   clear H
   go_wp2
   go_meet
   case rel=>exact⟨_,(true),(by first|rfl|(simp;done)|(simp[*];done)|(simp[aJ];done)|(simp[aK];done)),H',⟨by first|omega|exact Nat.le_refl _⟩,by repeat(first|exact aQ.refl _|apply aQ.step)⟩
  ·rw[if_neg c4] at H
   have c4b0:decide (a0 < 1)=false:=decide_eq_false c4
   clear c4
   (first|rw[c4b0]|(simp only[i64_w,i32_w];rw[c4b0])|skip)
   by_cases c5:a0 > 9999
   ·rw[if_pos c5] at H
    have c5b0:decide (9999 < a0)=true:=decide_eq_true c5
    clear c5
    have H':=ag.mk H
    clear H
    go_wp2
    go_meet
    case rel=>exact⟨_,(true),(by first|rfl|(simp;done)|(simp[*];done)|(simp[aJ];done)|(simp[aK];done)),H',⟨by first|omega|exact Nat.le_refl _⟩,by repeat(first|exact aQ.refl _|apply aQ.step)⟩
   ·rw[if_neg c5] at H
    have c5b0:decide (9999 < a0)=false:=decide_eq_false c5
    clear c5
    by_cases c6:a1 < 1
    ·rw[if_pos c6] at H
     have c6b0:decide (a1 < 1)=true:=decide_eq_true c6
     clear c6
     have H':=ag.mk H
     clear H
     go_wp2
     go_meet
     case rel=>exact⟨_,(true),(by first|rfl|(simp;done)|(simp[*];done)|(simp[aJ];done)|(simp[aK];done)),H',⟨by first|omega|exact Nat.le_refl _⟩,by repeat(first|exact aQ.refl _|apply aQ.step)⟩
    ·rw[if_neg c6] at H
     have c6b0:decide (a1 < 1)=false:=decide_eq_false c6
     clear c6
     have H':=ag.mk H
     clear H
     go_wp2
     go_meet
     case rel=>exact⟨_,(decide (a1 > 12)),(by first|rfl|(simp;done)|(simp[*];done)|(simp[aJ];done)|(simp[aK];done)),H',⟨by first|omega|exact Nat.le_refl _⟩,by repeat(first|exact aQ.refl _|apply aQ.step)⟩
 case rest=>
  clear HC3
  try clear p2
  try clear c4
  try clear c4b0
  try clear c5
  try clear c5b0
  try clear c6
  try clear c6b0
  obtain⟨kq,x19_2,rfl,HA,HJ2,⟨mc2,rfl⟩⟩:=hcut
  cases kq with
  |zero=>exact absurd HA.o (by simp[pylonref03_Length.j0])
  |succ kj2=>
   have H:=HA.o
   clear HA
   simp only[pylonref03_Length.j0] at H
   by_cases c7:x19_2=true
   ·subst c7
    have H1:(some (0,5))=some (r1,r2):=by rw[if_pos rfl] at H;exact H
    clear H
    have H:=H1
    clear H1
    simp only[Option.some.injEq,Prod.mk.injEq] at H
    obtain⟨rfl,rfl⟩:=H
    go_wp2
    go_ret2
    exact⟨by first|rfl|(simp;done)|(simp[*];done),by repeat(first|exact aQ.refl _|apply aQ.step)⟩
   ·replace c7:=Bool.eq_false_iff.mpr c7
    subst c7
    have H1:(if a1=4 then (pylonref03_Length.j1 kj2 a0 a1 (a1 == 4)) else (if a1=6 then (pylonref03_Length.j1 kj2 a0 a1 (a1 == 6)) else (if a1=9 then (pylonref03_Length.j1 kj2 a0 a1 (a1 == 9)) else (pylonref03_Length.j1 kj2 a0 a1 (a1 == 11)))))=some (r1,r2):=by rw[if_neg (show ¬ (false=true) by decide)] at H;exact H
    clear H
    have H:=H1
    clear H1
    have HC8:=ag.mk H
    clear H
    go_upto_if 21 with (fail)
    go_cut [21] (fun v21 wc=>∃ (kq:Nat) (x21_7:Bool),v21 = .bool x21_7∧ag (pylonref03_Length.j1 kq a0 a1 x21_7=some (r1,r2))∧ag (kq≤kj2)∧aQ w wc)
    case first=>
     have H:=HC8.o
     clear HC8
     by_cases c9:a1=4
     ·rw[if_pos c9] at H
      have c9b0:(a1 == 4)=true:=beq_iff_eq.mpr c9
      have c9b1:(a1 != 4)=false:=bne_eq_false_iff_eq.mpr c9
      clear c9
      (first|rw[c9b0]|(simp only[i64_w,i32_w];rw[c9b0])|skip)
      have H':=ag.mk H
      clear H
      go_wp2
      go_meet
      case rel=>exact⟨_,((a1 == 4)),(by first|rfl|(simp;done)|(simp[*];done)|(simp[aJ];done)|(simp[aK];done)),H',⟨by have:=HJ2.o;first|omega|exact Nat.le_refl _⟩,by repeat(first|exact aQ.refl _|apply aQ.step)⟩
     ·rw[if_neg c9] at H
      have c9b0:(a1 == 4)=false:=beq_eq_false_iff_ne.mpr c9
      have c9b1:(a1 != 4)=true:=bne_iff_ne.mpr c9
      (first|rw[c9b0]|(simp only[i64_w,i32_w];rw[c9b0])|skip)
      by_cases c10:a1=6
      ·rw[if_pos c10] at H
       have c10b0:(a1 == 6)=true:=beq_iff_eq.mpr c10
       have c10b1:(a1 != 6)=false:=bne_eq_false_iff_eq.mpr c10
       clear c10
       have H':=ag.mk H
       clear H
       go_wp2
       go_meet
       case rel=>exact⟨_,((a1 == 6)),(by first|rfl|(simp;done)|(simp[*];done)|(simp[aJ];done)|(simp[aK];done)),H',⟨by have:=HJ2.o;first|omega|exact Nat.le_refl _⟩,by repeat(first|exact aQ.refl _|apply aQ.step)⟩
      ·rw[if_neg c10] at H
       have c10b0:(a1 == 6)=false:=beq_eq_false_iff_ne.mpr c10
       have c10b1:(a1 != 6)=true:=bne_iff_ne.mpr c10
       by_cases c11:a1=9
       ·rw[if_pos c11] at H
        have c11b0:(a1 == 9)=true:=beq_iff_eq.mpr c11
        have c11b1:(a1 != 9)=false:=bne_eq_false_iff_eq.mpr c11
        clear c11
        have H':=ag.mk H
        clear H
        go_wp2
        go_meet
        case rel=>exact⟨_,((a1 == 9)),(by first|rfl|(simp;done)|(simp[*];done)|(simp[aJ];done)|(simp[aK];done)),H',⟨by have:=HJ2.o;first|omega|exact Nat.le_refl _⟩,by repeat(first|exact aQ.refl _|apply aQ.step)⟩
       ·rw[if_neg c11] at H
        have c11b0:(a1 == 9)=false:=beq_eq_false_iff_ne.mpr c11
        have c11b1:(a1 != 9)=true:=bne_iff_ne.mpr c11
        have H':=ag.mk H
        clear H
        go_wp2
        go_meet
        case rel=>exact⟨_,((a1 == 11)),(by first|rfl|(simp;done)|(simp[*];done)|(simp[aJ];done)|(simp[aK];done)),H',⟨by have:=HJ2.o;first|omega|exact Nat.le_refl _⟩,by repeat(first|exact aQ.refl _|apply aQ.step)⟩
    case rest=>
     clear HC8
     try clear c1
     try clear c2
     try clear p2
     try clear c4
     try clear c4b0
     try clear c5
     try clear c5b0
     try clear c6
     try clear c6b0
     try clear c7
     try clear c9
     try clear c9b0
     try clear c9b1
     try clear c10
     try clear c10b0
     try clear c10b1
     try clear c11
     try clear c11b0
     try clear c11b1
     try clear p2
     obtain⟨kq,x21_7,rfl,HA,HJ7,⟨mc7,rfl⟩⟩:=hcut
     cases kq with
     |zero=>exact absurd HA.o (by simp[pylonref03_Length.j1])
     |succ kj7=>
      have H:=HA.o
      clear HA
      simp only[pylonref03_Length.j1] at H
      by_cases c12:x21_7=true
      ·subst c12
       have H1:(some (30,0))=some (r1,r2):=by rw[if_pos rfl] at H;exact H
       clear H
       have H:=H1
       clear H1
       simp only[Option.some.injEq,Prod.mk.injEq] at H
       obtain⟨rfl,rfl⟩:=H
       go_wp2
       go_ret2
       exact⟨by first|rfl|(simp;done)|(simp[*];done),by repeat(first|exact aQ.refl _|apply aQ.step)⟩
      ·replace c12:=Bool.eq_false_iff.mpr c12
       subst c12
       have H1:(if a1=2 then ((pylonref03_leap.f a0).bind fun t155=>(if t155=true then (some (29,0)) else (some (28,0)))) else (some (31,0)))=some (r1,r2):=by rw[if_neg (show ¬ (false=true) by decide)] at H;exact H
       clear H
       have H:=H1
       clear H1
       by_cases c13:a1=2
       ·rw[if_pos c13] at H
        have c13b0:(a1 == 2)=true:=beq_iff_eq.mpr c13
        have c13b1:(a1 != 2)=false:=bne_eq_false_iff_eq.mpr c13
        clear c13
        replace H:=Option.bind_eq_some_iff.mp H
        obtain⟨t155,A140,H⟩:=H
        replace H:(if t155=true then (some (29,0)) else (some (28,0)))=some (r1,r2):=H
        have A14:=ag.mk A140
        clear A140
        by_cases c15:t155=true
        ·subst c15
         have H1:(some (29,0))=some (r1,r2):=by rw[if_pos rfl] at H;exact H
         clear H
         have H:=H1
         clear H1
         simp only[Option.some.injEq,Prod.mk.injEq] at H
         obtain⟨rfl,rfl⟩:=H
         go_wp2_with (first|((with_reducible refine aR (f:=55) rfl ?_);refine aZ (some 29) rfl rfl Tryd.func55 (by kernel_rfl) rfl #[.int .i64 a0] rfl (by (try simp only[List.map_toArray,List.map_cons,List.map_nil]);first|done|rfl|(simp only[List.length_drop,List.length_take];rfl)) ?_;(with_reducible refine(pylonref03_leap.calls a0 true _ A14.o).mono ?_);rintro e w' ⟨rfl,⟨nd,rfl⟩⟩;refine⟨_,rfl,?_⟩))
         go_ret2
         exact⟨by first|rfl|(simp;done)|(simp[*];done),by repeat(first|exact aQ.refl _|apply aQ.step)⟩
        ·replace c15:=Bool.eq_false_iff.mpr c15
         subst c15
         have H1:(some (28,0))=some (r1,r2):=by rw[if_neg (show ¬ (false=true) by decide)] at H;exact H
         clear H
         have H:=H1
         clear H1
         simp only[Option.some.injEq,Prod.mk.injEq] at H
         obtain⟨rfl,rfl⟩:=H
         go_wp2_with (first|((with_reducible refine aR (f:=55) rfl ?_);refine aZ (some 29) rfl rfl Tryd.func55 (by kernel_rfl) rfl #[.int .i64 a0] rfl (by (try simp only[List.map_toArray,List.map_cons,List.map_nil]);first|done|rfl|(simp only[List.length_drop,List.length_take];rfl)) ?_;(with_reducible refine(pylonref03_leap.calls a0 false _ A14.o).mono ?_);rintro e w' ⟨rfl,⟨nd,rfl⟩⟩;refine⟨_,rfl,?_⟩))
         go_ret2
         exact⟨by first|rfl|(simp;done)|(simp[*];done),by repeat(first|exact aQ.refl _|apply aQ.step)⟩
       ·rw[if_neg c13] at H
        have c13b0:(a1 == 2)=false:=beq_eq_false_iff_ne.mpr c13
        have c13b1:(a1 != 2)=true:=bne_iff_ne.mpr c13
        simp only[Option.some.injEq,Prod.mk.injEq] at H
        obtain⟨rfl,rfl⟩:=H
        go_wp2
        go_ret2
        exact⟨by first|rfl|(simp;done)|(simp[*];done),by repeat(first|exact aQ.refl _|apply aQ.step)⟩
def pylonref03_Is.f (k:Nat) (a0_0:Int) (a0_1:Int) (a0_2:Int):Option (Bool):=(pylonref03_Length.f k a0_0 a0_1).bind fun bt157=>(if bt157.2=0 then (if a0_2≥1 then (some (decide (a0_2≤bt157.1))) else (some false)) else (some false))
theorem pylonref03_Is.mono : ∀ a0 a1 a2 k,LeO (pylonref03_Is.f k a0 a1 a2) (pylonref03_Is.f (k+1) a0 a1 a2):=by
 intro a0 a1 a2 k
 unfold pylonref03_Is.f
 repeat' first
   |(with_reducible exact pylonref03_Length.mono _ _ _)
   |(with_reducible exact LeO.refl _)
   |(with_reducible exact LeO.none _)
   |(with_reducible refine LeO.ite ?_ ?_)
   |(with_reducible refine LeO.bind ?_ (fun _=>?_))
   |exact pylonref03_Length.mono _ _ _
   |exact LeO.none _
   |refine LeO.ite ?_ ?_
   |refine LeO.bind ?_ (fun _=>?_)
set_option maxHeartbeats 8000000 in
set_option maxRecDepth 100000 in
theorem pylonref03_Is.calls (k:Nat) (a0_0:Int) (a0_1:Int) (a0_2:Int) (r:Bool) (w:World) (h:pylonref03_Is.f k a0_0 a0_1 a0_2=some r) :
  Calls Tryd.prog 47 #[.agg #[.int .i64 a0_0,.int .i64 a0_1,.int .i64 a0_2]] w fun e w'=>e = .returned (.bool r)∧Below w.heap.size w w':=by
 have hu68:=Tryd.underlying68
 have HB:=ag.mk (Below.refl w.heap.size w)
 have H:((pylonref03_Length.f k a0_0 a0_1).bind fun bt157=>(if bt157.2=0 then (if a0_2≥1 then (some (decide (a0_2≤bt157.1))) else (some false)) else (some false)))=some r:=h
 clear h
 replace H:=Option.bind_eq_some_iff.mp H
 obtain⟨⟨t157,t158⟩,A20,H⟩:=H
 replace H:(if t158=0 then (if a0_2≥1 then (some (decide (a0_2≤t157))) else (some false)) else (some false))=some r:=H
 have A2:=ag.mk A20
 clear A20
 by_cases c3:t158=0
 ·rw[if_pos c3] at H
  have c3b0:(t158 == 0)=true:=beq_iff_eq.mpr c3
  have c3b1:(t158 != 0)=false:=bne_eq_false_iff_eq.mpr c3
  clear c3
  by_cases c4:a0_2≥1
  ·rw[if_pos c4] at H
   have c4b0:decide (1≤a0_2)=true:=decide_eq_true c4
   clear c4
   obtain rfl:=Option.some.inj H
   go_enter Tryd.func47,Tryd.ntmps47
   go_wp2_with (first|((with_reducible refine aI (N:=1) rfl ?_);refine aH ?hg (N:=1) ?hd (cs:=#[.int .i64 a0_0,.int .i64 a0_1,.int .i64 a0_2]) (t:=68) ?hr ?_;(case hd=>rfl);(case hg=>rfl);(case hr=>first|(go_simp;done)|(go_simp;rfl));intro gb156 hg w5 hbox hb;have n0_:=ag.mk (aj (by repeat(first|(with_reducible first|exact HB.o|apply ae|apply aa|apply af)|exact HB.o)) hb);have n1_:=ag.mk (hbox);have n2_:=ag.mk ((by rw[hg];exact(ak (by repeat(first|(with_reducible first|exact HB.o|apply ae|apply aa|apply af)|exact HB.o))):w.heap.size≤gb156));have n3_:=ag.mk ((by rw[hg];exact(ak (by repeat(first|(with_reducible first|exact HB.o|apply ae|apply aa|apply af)|exact HB.o))):w.heap.size≤gb156));clear HB;have HB:=n0_;have BK156:=n1_;have GW156:=n2_;have GE156:=n3_;clear n0_ n1_ n2_ n3_;clear hb hbox hg;have hcz6_0:w5.cell? ⟨gb156,0,none⟩=some (.int .i64 a0_0):=(ah BK156.o 0).trans rfl;have hcz6_1:w5.cell? ⟨gb156,1,none⟩=some (.int .i64 a0_1):=(ah BK156.o 1).trans rfl;have hcz6_2:w5.cell? ⟨gb156,2,none⟩=some (.int .i64 a0_2):=(ah BK156.o 2).trans rfl;have hfz6_0:=ai BK156.o 0;have hfz6_1:=ai BK156.o 1;have hfz6_2:=ai BK156.o 2)|((with_reducible refine aR (f:=48) rfl ?_);refine aZ (some 10) rfl rfl Tryd.func48 (by kernel_rfl) rfl #[.int .i64 a0_0,.int .i64 a0_1] rfl (by (try simp only[List.map_toArray,List.map_cons,List.map_nil]);first|done|rfl|(simp only[List.length_drop,List.length_take];rfl)) ?_;(with_reducible refine(pylonref03_Length.calls k a0_0 a0_1 t157 t158 _ A2.o).mono ?_);rintro e w' ⟨rfl,⟨nd,rfl⟩⟩;refine⟨_,rfl,?_⟩))
   go_ret
   exact⟨by first|rfl|(simp[ay,az] <;> rfl)|(simp[*,ay,az] <;> rfl),by repeat(first|(with_reducible first|exact HB.o|apply ae|apply aa|apply af|refine ax ?_ GE156.o)|exact HB.o)⟩
  ·rw[if_neg c4] at H
   have c4b0:decide (1≤a0_2)=false:=decide_eq_false c4
   clear c4
   obtain rfl:=Option.some.inj H
   go_enter Tryd.func47,Tryd.ntmps47
   go_wp2_with (first|((with_reducible refine aI (N:=1) rfl ?_);refine aH ?hg (N:=1) ?hd (cs:=#[.int .i64 a0_0,.int .i64 a0_1,.int .i64 a0_2]) (t:=68) ?hr ?_;(case hd=>rfl);(case hg=>rfl);(case hr=>first|(go_simp;done)|(go_simp;rfl));intro gb156 hg w7 hbox hb;have n0_:=ag.mk (aj (by repeat(first|(with_reducible first|exact HB.o|apply ae|apply aa|apply af)|exact HB.o)) hb);have n1_:=ag.mk (hbox);have n2_:=ag.mk ((by rw[hg];exact(ak (by repeat(first|(with_reducible first|exact HB.o|apply ae|apply aa|apply af)|exact HB.o))):w.heap.size≤gb156));have n3_:=ag.mk ((by rw[hg];exact(ak (by repeat(first|(with_reducible first|exact HB.o|apply ae|apply aa|apply af)|exact HB.o))):w.heap.size≤gb156));clear HB;have HB:=n0_;have BK156:=n1_;have GW156:=n2_;have GE156:=n3_;clear n0_ n1_ n2_ n3_;clear hb hbox hg;have hcz8_0:w7.cell? ⟨gb156,0,none⟩=some (.int .i64 a0_0):=(ah BK156.o 0).trans rfl;have hcz8_1:w7.cell? ⟨gb156,1,none⟩=some (.int .i64 a0_1):=(ah BK156.o 1).trans rfl;have hcz8_2:w7.cell? ⟨gb156,2,none⟩=some (.int .i64 a0_2):=(ah BK156.o 2).trans rfl;have hfz8_0:=ai BK156.o 0;have hfz8_1:=ai BK156.o 1;have hfz8_2:=ai BK156.o 2)|((with_reducible refine aR (f:=48) rfl ?_);refine aZ (some 10) rfl rfl Tryd.func48 (by kernel_rfl) rfl #[.int .i64 a0_0,.int .i64 a0_1] rfl (by (try simp only[List.map_toArray,List.map_cons,List.map_nil]);first|done|rfl|(simp only[List.length_drop,List.length_take];rfl)) ?_;(with_reducible refine(pylonref03_Length.calls k a0_0 a0_1 t157 t158 _ A2.o).mono ?_);rintro e w' ⟨rfl,⟨nd,rfl⟩⟩;refine⟨_,rfl,?_⟩))
   go_ret
   exact⟨by first|rfl|(simp[ay,az] <;> rfl)|(simp[*,ay,az] <;> rfl),by repeat(first|(with_reducible first|exact HB.o|apply ae|apply aa|apply af|refine ax ?_ GE156.o)|exact HB.o)⟩
 ·rw[if_neg c3] at H
  have c3b0:(t158 == 0)=false:=beq_eq_false_iff_ne.mpr c3
  have c3b1:(t158 != 0)=true:=bne_iff_ne.mpr c3
  obtain rfl:=Option.some.inj H
  go_enter Tryd.func47,Tryd.ntmps47
  go_wp2_with (first|((with_reducible refine aI (N:=1) rfl ?_);refine aH ?hg (N:=1) ?hd (cs:=#[.int .i64 a0_0,.int .i64 a0_1,.int .i64 a0_2]) (t:=68) ?hr ?_;(case hd=>rfl);(case hg=>rfl);(case hr=>first|(go_simp;done)|(go_simp;rfl));intro gb156 hg w9 hbox hb;have n0_:=ag.mk (aj (by repeat(first|(with_reducible first|exact HB.o|apply ae|apply aa|apply af)|exact HB.o)) hb);have n1_:=ag.mk (hbox);have n2_:=ag.mk ((by rw[hg];exact(ak (by repeat(first|(with_reducible first|exact HB.o|apply ae|apply aa|apply af)|exact HB.o))):w.heap.size≤gb156));have n3_:=ag.mk ((by rw[hg];exact(ak (by repeat(first|(with_reducible first|exact HB.o|apply ae|apply aa|apply af)|exact HB.o))):w.heap.size≤gb156));clear HB;have HB:=n0_;have BK156:=n1_;have GW156:=n2_;have GE156:=n3_;clear n0_ n1_ n2_ n3_;clear hb hbox hg;have hcz10_0:w9.cell? ⟨gb156,0,none⟩=some (.int .i64 a0_0):=(ah BK156.o 0).trans rfl;have hcz10_1:w9.cell? ⟨gb156,1,none⟩=some (.int .i64 a0_1):=(ah BK156.o 1).trans rfl;have hcz10_2:w9.cell? ⟨gb156,2,none⟩=some (.int .i64 a0_2):=(ah BK156.o 2).trans rfl;have hfz10_0:=ai BK156.o 0;have hfz10_1:=ai BK156.o 1;have hfz10_2:=ai BK156.o 2)|((with_reducible refine aR (f:=48) rfl ?_);refine aZ (some 10) rfl rfl Tryd.func48 (by kernel_rfl) rfl #[.int .i64 a0_0,.int .i64 a0_1] rfl (by (try simp only[List.map_toArray,List.map_cons,List.map_nil]);first|done|rfl|(simp only[List.length_drop,List.length_take];rfl)) ?_;(with_reducible refine(pylonref03_Length.calls k a0_0 a0_1 t157 t158 _ A2.o).mono ?_);rintro e w' ⟨rfl,⟨nd,rfl⟩⟩;refine⟨_,rfl,?_⟩))
  go_ret
  exact⟨by first|rfl|(simp[ay,az] <;> rfl)|(simp[*,ay,az] <;> rfl),by repeat(first|(with_reducible first|exact HB.o|apply ae|apply aa|apply af|refine ax ?_ GE156.o)|exact HB.o)⟩
def pylonref03_YearDay.l0:Nat → Int → Int → Int → Int → Int → Option (Int × Int)
 |0,_,_,_,_,_=>none
 |k+1,x4,x5,x160000,x160001,x160002=>if x5 < x160001 then ((pylonref03_Length.f k x160000 x5).bind fun bt161=>(pylonref03_YearDay.l0 k (wrap64 (x4+bt161.1)) (wrap64 (x5+1)) x160000 x160001 x160002)) else (some (x4,0))
def pylonref03_YearDay.f (k:Nat) (a0_0:Int) (a0_1:Int) (a0_2:Int):Option (Int × Int):=(pylonref03_Is.f k a0_0 a0_1 a0_2).bind fun t160=>(if t160=true then (pylonref03_YearDay.l0 k a0_2 1 a0_0 a0_1 a0_2) else (some (0,5)))
theorem pylonref03_YearDay.mono_l : ∀ k,(∀ y0 y1 y2 y3 y4,LeO (pylonref03_YearDay.l0 k y0 y1 y2 y3 y4) (pylonref03_YearDay.l0 (k+1) y0 y1 y2 y3 y4))
 |0=>fun _ _ _ _ _ r h=>by simp[pylonref03_YearDay.l0] at h
 |k+1=>by
  have ih0:=pylonref03_YearDay.mono_l k
  ·intro y0 y1 y2 y3 y4
   unfold pylonref03_YearDay.l0
   repeat' first
   |(with_reducible exact ih0 _ _ _ _ _)
   |(with_reducible exact pylonref03_Is.mono _ _ _ _)
   |(with_reducible exact pylonref03_Length.mono _ _ _)
   |(with_reducible exact LeO.refl _)
   |(with_reducible exact LeO.none _)
   |(with_reducible refine LeO.ite ?_ ?_)
   |(with_reducible refine LeO.bind ?_ (fun _=>?_))
   |exact ih0 _ _ _ _ _
   |exact pylonref03_Is.mono _ _ _ _
   |exact pylonref03_Length.mono _ _ _
   |exact LeO.none _
   |refine LeO.ite ?_ ?_
   |refine LeO.bind ?_ (fun _=>?_)
theorem pylonref03_YearDay.mono : ∀ a0 a1 a2 k,LeO (pylonref03_YearDay.f k a0 a1 a2) (pylonref03_YearDay.f (k+1) a0 a1 a2):=by
 intro a0 a1 a2 k
 have ih0:=pylonref03_YearDay.mono_l k
 unfold pylonref03_YearDay.f
 repeat' first
   |(with_reducible exact ih0 _ _ _ _ _)
   |(with_reducible exact pylonref03_Is.mono _ _ _ _)
   |(with_reducible exact pylonref03_Length.mono _ _ _)
   |(with_reducible exact LeO.refl _)
   |(with_reducible exact LeO.none _)
   |(with_reducible refine LeO.ite ?_ ?_)
   |(with_reducible refine LeO.bind ?_ (fun _=>?_))
   |exact ih0 _ _ _ _ _
   |exact pylonref03_Is.mono _ _ _ _
   |exact pylonref03_Length.mono _ _ _
   |exact LeO.none _
   |refine LeO.ite ?_ ?_
   |refine LeO.bind ?_ (fun _=>?_)
set_option maxHeartbeats 8000000 in
set_option maxRecDepth 100000 in
theorem pylonref03_YearDay.calls (k:Nat) (a0_0:Int) (a0_1:Int) (a0_2:Int) (r1:Int) (r2:Int) (w:World) (h:pylonref03_YearDay.f k a0_0 a0_1 a0_2=some (r1,r2)) :
  Calls Tryd.prog 36 #[.agg #[.int .i64 a0_0,.int .i64 a0_1,.int .i64 a0_2]] w fun e w'=>e = .returned (.tuple #[.int .i64 r1,.int .i64 r2])∧Below w.heap.size w w':=by
 have hu68:=Tryd.underlying68
 have HB:=ag.mk (Below.refl w.heap.size w)
 have H:((pylonref03_Is.f k a0_0 a0_1 a0_2).bind fun t160=>(if t160=true then (pylonref03_YearDay.l0 k a0_2 1 a0_0 a0_1 a0_2) else (some (0,5))))=some (r1,r2):=h
 clear h
 replace H:=Option.bind_eq_some_iff.mp H
 obtain⟨t160,A20,H⟩:=H
 replace H:(if t160=true then (pylonref03_YearDay.l0 k a0_2 1 a0_0 a0_1 a0_2) else (some (0,5)))=some (r1,r2):=H
 have A2:=ag.mk A20
 clear A20
 by_cases c3:t160=true
 ·subst c3
  have H1:(pylonref03_YearDay.l0 k a0_2 1 a0_0 a0_1 a0_2)=some (r1,r2):=by rw[if_pos rfl] at H;exact H
  clear H
  have H:=H1
  clear H1
  have H':=ag.mk H
  clear H
  go_enter Tryd.func36,Tryd.ntmps36
  go_wp2_with (first|((with_reducible refine aI (N:=1) rfl ?_);refine aH ?hg (N:=1) ?hd (cs:=#[.int .i64 a0_0,.int .i64 a0_1,.int .i64 a0_2]) (t:=68) ?hr ?_;(case hd=>rfl);(case hg=>rfl);(case hr=>first|(go_simp;done)|(go_simp;rfl));intro gb159 hg w4 hbox hb;have n0_:=ag.mk (aj (by repeat(first|(with_reducible first|exact HB.o|apply ae|apply aa|apply af)|exact HB.o)) hb);have n1_:=ag.mk (hbox);have n2_:=ag.mk ((by rw[hg];exact(ak (by repeat(first|(with_reducible first|exact HB.o|apply ae|apply aa|apply af)|exact HB.o))):w.heap.size≤gb159));have n3_:=ag.mk ((by rw[hg];exact(ak (by repeat(first|(with_reducible first|exact HB.o|apply ae|apply aa|apply af)|exact HB.o))):w.heap.size≤gb159));clear HB;have HB:=n0_;have BK159:=n1_;have GW159:=n2_;have GE159:=n3_;clear n0_ n1_ n2_ n3_;clear hb hbox hg;have hcz5_0:w4.cell? ⟨gb159,0,none⟩=some (.int .i64 a0_0):=(ah BK159.o 0).trans rfl;have hcz5_1:w4.cell? ⟨gb159,1,none⟩=some (.int .i64 a0_1):=(ah BK159.o 1).trans rfl;have hcz5_2:w4.cell? ⟨gb159,2,none⟩=some (.int .i64 a0_2):=(ah BK159.o 2).trans rfl;have hfz5_0:=ai BK159.o 0;have hfz5_1:=ai BK159.o 1;have hfz5_2:=ai BK159.o 2)|((with_reducible refine aR (f:=47) rfl ?_);refine aZ (some 9) rfl rfl Tryd.func47 (by kernel_rfl) rfl #[.agg #[.int .i64 a0_0,.int .i64 a0_1,.int .i64 a0_2]] rfl (by (try simp only[List.map_toArray,List.map_cons,List.map_nil]);first|done|rfl|(simp only[List.length_drop,List.length_take];rfl)) ?_;(with_reducible refine(pylonref03_Is.calls k a0_0 a0_1 a0_2 true _ A2.o).mono ?_);rintro e w6 ⟨rfl,hb⟩;refine⟨_,rfl,?_⟩;have n0_:=ag.mk (aN (g:=gb159) (o:=.cells #[.int .i64 a0_0,.int .i64 a0_1,.int .i64 a0_2] 68 (0,0)) (by (with_reducible repeat(first|refine av ?_ _|refine aA ?_|refine au ?_ _));exact BK159.o) hb);have n1_:=ag.mk (aj (by repeat(first|(with_reducible first|exact HB.o|apply ae|apply aa|apply af|refine ax ?_ GE159.o)|exact HB.o)) hb);clear BK159;clear HB;have BK159:=n0_;have HB:=n1_;clear n0_ n1_;(try clear hb);(try clear hb2);(try clear hk);(try clear hi);have hcz7_0:w6.cell? ⟨gb159,0,none⟩=some (.int .i64 a0_0):=(ah BK159.o 0).trans rfl;have hcz7_1:w6.cell? ⟨gb159,1,none⟩=some (.int .i64 a0_1):=(ah BK159.o 1).trans rfl;have hcz7_2:w6.cell? ⟨gb159,2,none⟩=some (.int .i64 a0_2):=(ah BK159.o 2).trans rfl;have hfz7_0:=ai BK159.o 0;have hfz7_1:=ai BK159.o 1;have hfz7_2:=ai BK159.o 2))
  go_loopg [4,5] k (fun kq v4 v5 w'=>∃ (x4_1:Int) (x5_1:Int),v4 = .int .i64 x4_1∧v5 = .int .i64 x5_1∧ag (pylonref03_YearDay.l0 kq x4_1 x5_1 a0_0 a0_1 a0_2=some (r1,r2))∧ag (kq≤k)∧ag (w'.heap[gb159]? = some (.cells #[.int .i64 a0_0,.int .i64 a0_1,.int .i64 a0_2] 68 (0,0)))∧ag (Below w.heap.size w w'))
  case atStart=>exact⟨(a0_2),(1),(by first|rfl|(simp;done)|(simp[*];done)|(simp[aJ];done)|(simp[aK];done)),(by first|rfl|(simp;done)|(simp[*];done)|(simp[aJ];done)|(simp[aK];done)),H',⟨Nat.le_refl _⟩,⟨by (with_reducible repeat(first|refine av ?_ _|refine aA ?_|refine au ?_ _));exact BK159.o⟩,⟨by repeat(first|(with_reducible first|exact HB.o|apply ae|apply aa|apply af|refine ax ?_ GE159.o)|exact HB.o)⟩⟩
  case round=>
   clear H'
   try clear p2
   try clear c3
   try clear c4
   try clear hcz5_0
   try clear hcz5_1
   try clear hcz5_2
   try clear hcz7_0
   try clear hcz7_1
   try clear hcz7_2
   try clear hfz5_0
   try clear hfz5_1
   try clear hfz5_2
   try clear hfz7_0
   try clear hfz7_1
   try clear hfz7_2
   (try clear BK159)
   obtain⟨x4_1,x5_1,rfl,rfl,HA,HK1,BK159,HB⟩:=hrel
   cases gk with
   |zero=>exact absurd HA.o (by simp[pylonref03_YearDay.l0])
   |succ k1=>
    have H:=HA.o
    clear HA
    simp only[pylonref03_YearDay.l0] at H
    by_cases c8:x5_1 < a0_1
    ·rw[if_pos c8] at H
     have c8b0:decide (x5_1 < a0_1)=true:=decide_eq_true c8
     clear c8
     replace H:=Option.bind_eq_some_iff.mp H
     obtain⟨⟨t161,t162⟩,A90,H⟩:=H
     replace H:(pylonref03_YearDay.l0 k1 (wrap64 (x4_1+t161)) (wrap64 (x5_1+1)) a0_0 a0_1 a0_2)=some (r1,r2):=H
     have A9:=ag.mk A90
     clear A90
     have H':=ag.mk H
     clear H
     have hcz10_0:wr.cell? ⟨gb159,0,none⟩=some (.int .i64 a0_0):=(ah BK159.o 0).trans rfl
     have hcz10_1:wr.cell? ⟨gb159,1,none⟩=some (.int .i64 a0_1):=(ah BK159.o 1).trans rfl
     have hcz10_2:wr.cell? ⟨gb159,2,none⟩=some (.int .i64 a0_2):=(ah BK159.o 2).trans rfl
     have hfz10_0:=ai BK159.o 0
     have hfz10_1:=ai BK159.o 1
     have hfz10_2:=ai BK159.o 2
     go_wp2_with (first|((with_reducible refine aR (f:=48) rfl ?_);refine aZ (some 23) rfl rfl Tryd.func48 (by kernel_rfl) rfl #[.int .i64 a0_0,.int .i64 x5_1] rfl (by (try simp only[List.map_toArray,List.map_cons,List.map_nil]);first|done|rfl|(simp only[List.length_drop,List.length_take];rfl)) ?_;(with_reducible refine(pylonref03_Length.calls k1 a0_0 x5_1 t161 t162 _ A9.o).mono ?_);rintro e w' ⟨rfl,⟨nd,rfl⟩⟩;refine⟨_,rfl,?_⟩))
     go_roundg k1
     case measure=>have:=HK1.o;omega
     case rel=>exact⟨(wrap64 (x4_1+t161)),(wrap64 (x5_1+1)),(by first|rfl|(simp;done)|(simp[*];done)|(simp[aJ];done)|(simp[aK];done)),(by first|rfl|(simp;done)|(simp[*];done)|(simp[aJ];done)|(simp[aK];done)),H',⟨by have:=HK1.o;omega⟩,⟨by (with_reducible repeat(first|refine av ?_ _|refine aA ?_|refine au ?_ _));exact BK159.o⟩,⟨by repeat(first|(with_reducible first|exact HB.o|apply ae|apply aa|apply af|refine ax ?_ GE159.o)|exact HB.o)⟩⟩
    ·rw[if_neg c8] at H
     have c8b0:decide (x5_1 < a0_1)=false:=decide_eq_false c8
     clear c8
     simp only[Option.some.injEq,Prod.mk.injEq] at H
     obtain⟨rfl,rfl⟩:=H
     have hcz11_0:wr.cell? ⟨gb159,0,none⟩=some (.int .i64 a0_0):=(ah BK159.o 0).trans rfl
     have hcz11_1:wr.cell? ⟨gb159,1,none⟩=some (.int .i64 a0_1):=(ah BK159.o 1).trans rfl
     have hcz11_2:wr.cell? ⟨gb159,2,none⟩=some (.int .i64 a0_2):=(ah BK159.o 2).trans rfl
     have hfz11_0:=ai BK159.o 0
     have hfz11_1:=ai BK159.o 1
     have hfz11_2:=ai BK159.o 2
     go_wp2
     go_ret2
     exact⟨by first|rfl|(simp[ay,az] <;> rfl)|(simp[*,ay,az] <;> rfl),by repeat(first|(with_reducible first|exact HB.o|apply ae|apply aa|apply af|refine ax ?_ GE159.o)|exact HB.o)⟩
 ·replace c3:=Bool.eq_false_iff.mpr c3
  subst c3
  have H1:(some (0,5))=some (r1,r2):=by rw[if_neg (show ¬ (false=true) by decide)] at H;exact H
  clear H
  have H:=H1
  clear H1
  simp only[Option.some.injEq,Prod.mk.injEq] at H
  obtain⟨rfl,rfl⟩:=H
  go_enter Tryd.func36,Tryd.ntmps36
  go_wp2_with (first|((with_reducible refine aI (N:=1) rfl ?_);refine aH ?hg (N:=1) ?hd (cs:=#[.int .i64 a0_0,.int .i64 a0_1,.int .i64 a0_2]) (t:=68) ?hr ?_;(case hd=>rfl);(case hg=>rfl);(case hr=>first|(go_simp;done)|(go_simp;rfl));intro gb159 hg w12 hbox hb;have n0_:=ag.mk (aj (by repeat(first|(with_reducible first|exact HB.o|apply ae|apply aa|apply af)|exact HB.o)) hb);have n1_:=ag.mk (hbox);have n2_:=ag.mk ((by rw[hg];exact(ak (by repeat(first|(with_reducible first|exact HB.o|apply ae|apply aa|apply af)|exact HB.o))):w.heap.size≤gb159));have n3_:=ag.mk ((by rw[hg];exact(ak (by repeat(first|(with_reducible first|exact HB.o|apply ae|apply aa|apply af)|exact HB.o))):w.heap.size≤gb159));clear HB;have HB:=n0_;have BK159:=n1_;have GW159:=n2_;have GE159:=n3_;clear n0_ n1_ n2_ n3_;clear hb hbox hg;have hcz13_0:w12.cell? ⟨gb159,0,none⟩=some (.int .i64 a0_0):=(ah BK159.o 0).trans rfl;have hcz13_1:w12.cell? ⟨gb159,1,none⟩=some (.int .i64 a0_1):=(ah BK159.o 1).trans rfl;have hcz13_2:w12.cell? ⟨gb159,2,none⟩=some (.int .i64 a0_2):=(ah BK159.o 2).trans rfl;have hfz13_0:=ai BK159.o 0;have hfz13_1:=ai BK159.o 1;have hfz13_2:=ai BK159.o 2)|((with_reducible refine aR (f:=47) rfl ?_);refine aZ (some 9) rfl rfl Tryd.func47 (by kernel_rfl) rfl #[.agg #[.int .i64 a0_0,.int .i64 a0_1,.int .i64 a0_2]] rfl (by (try simp only[List.map_toArray,List.map_cons,List.map_nil]);first|done|rfl|(simp only[List.length_drop,List.length_take];rfl)) ?_;(with_reducible refine(pylonref03_Is.calls k a0_0 a0_1 a0_2 false _ A2.o).mono ?_);rintro e w14 ⟨rfl,hb⟩;refine⟨_,rfl,?_⟩;have n0_:=ag.mk (aN (g:=gb159) (o:=.cells #[.int .i64 a0_0,.int .i64 a0_1,.int .i64 a0_2] 68 (0,0)) (by (with_reducible repeat(first|refine av ?_ _|refine aA ?_|refine au ?_ _));exact BK159.o) hb);have n1_:=ag.mk (aj (by repeat(first|(with_reducible first|exact HB.o|apply ae|apply aa|apply af|refine ax ?_ GE159.o)|exact HB.o)) hb);clear BK159;clear HB;have BK159:=n0_;have HB:=n1_;clear n0_ n1_;(try clear hb);(try clear hb2);(try clear hk);(try clear hi)))
  go_ret2
  exact⟨by first|rfl|(simp[ay,az] <;> rfl)|(simp[*,ay,az] <;> rfl),by repeat(first|(with_reducible first|exact HB.o|apply ae|apply aa|apply af|refine ax ?_ GE159.o)|exact HB.o)⟩
def pylonref09_Day.j0:Nat → Int → Bool → Option (Int × Int)
 |0,_,_=>none
 |k+1,x0,x11=>if x11=true then (some (0,8)) else ((pylonref03_YearDay.f k 2000 (wrap64 (Int.tdiv x0 100)) (Int.tmod x0 100)).bind fun bt163=>(if bt163.2=0 then (some (bt163.1,0)) else (some (0,8))))
def pylonref09_Day.f (k:Nat) (a0:Int):Option (Int × Int):=if a0 < 101 then (pylonref09_Day.j0 k a0 true) else (pylonref09_Day.j0 k a0 (decide (a0 > 1231)))
theorem pylonref09_Day.mono_l : ∀ k,(∀ y0 y1,LeO (pylonref09_Day.j0 k y0 y1) (pylonref09_Day.j0 (k+1) y0 y1))
 |0=>fun _ _ r h=>by simp[pylonref09_Day.j0] at h
 |k+1=>by
  have ih0:=pylonref09_Day.mono_l k
  ·intro y0 y1
   unfold pylonref09_Day.j0
   repeat' first
   |(with_reducible exact ih0 _ _)
   |(with_reducible exact pylonref03_YearDay.mono _ _ _ _)
   |(with_reducible exact LeO.refl _)
   |(with_reducible exact LeO.none _)
   |(with_reducible refine LeO.ite ?_ ?_)
   |(with_reducible refine LeO.bind ?_ (fun _=>?_))
   |exact ih0 _ _
   |exact pylonref03_YearDay.mono _ _ _ _
   |exact LeO.none _
   |refine LeO.ite ?_ ?_
   |refine LeO.bind ?_ (fun _=>?_)
theorem pylonref09_Day.mono : ∀ a0 k,LeO (pylonref09_Day.f k a0) (pylonref09_Day.f (k+1) a0):=by
 intro a0 k
 have ih0:=pylonref09_Day.mono_l k
 unfold pylonref09_Day.f
 repeat' first
   |(with_reducible exact ih0 _ _)
   |(with_reducible exact pylonref03_YearDay.mono _ _ _ _)
   |(with_reducible exact LeO.refl _)
   |(with_reducible exact LeO.none _)
   |(with_reducible refine LeO.ite ?_ ?_)
   |(with_reducible refine LeO.bind ?_ (fun _=>?_))
   |exact ih0 _ _
   |exact pylonref03_YearDay.mono _ _ _ _
   |exact LeO.none _
   |refine LeO.ite ?_ ?_
   |refine LeO.bind ?_ (fun _=>?_)
set_option maxHeartbeats 8000000 in
set_option maxRecDepth 100000 in
theorem pylonref09_Day.calls (k:Nat) (a0:Int) (r1:Int) (r2:Int) (w:World) (h:pylonref09_Day.f k a0=some (r1,r2)) :
  Calls Tryd.prog 15 #[.int .i64 a0] w fun e w'=>e = .returned (.tuple #[.int .i64 r1,.int .i64 r2])∧Below w.heap.size w w':=by
 have hu68:=Tryd.underlying68
 have HB:=ag.mk (Below.refl w.heap.size w)
 have H:(if a0 < 101 then (pylonref09_Day.j0 k a0 true) else (pylonref09_Day.j0 k a0 (decide (a0 > 1231))))=some (r1,r2):=h
 clear h
 have HC2:=ag.mk H
 clear H
 go_enter Tryd.func15,Tryd.ntmps15
 go_upto_region 1 with (fail)
 go_cut [11] (fun v11 wc=>∃ (kq:Nat) (x11_1:Bool),v11 = .bool x11_1∧ag (pylonref09_Day.j0 kq a0 x11_1=some (r1,r2))∧ag (kq≤k)∧ag (Below w.heap.size w wc))
 case first=>
  have H:=HC2.o
  clear HC2
  by_cases c3:a0 < 101
  ·rw[if_pos c3] at H
   have c3b0:decide (a0 < 101)=true:=decide_eq_true c3
   clear c3
   (first|rw[c3b0]|(simp only[i64_w,i32_w];rw[c3b0])|skip)
   have H':=ag.mk H
   clear H
   go_wp2
   go_meet
   case rel=>exact⟨_,(true),(by first|rfl|(simp;done)|(simp[*];done)|(simp[aJ];done)|(simp[aK];done)),H',⟨by first|omega|exact Nat.le_refl _⟩,⟨by repeat(first|(with_reducible first|exact HB.o|apply ae|apply aa|apply af)|exact HB.o)⟩⟩
  ·rw[if_neg c3] at H
   have c3b0:decide (a0 < 101)=false:=decide_eq_false c3
   clear c3
   (first|rw[c3b0]|(simp only[i64_w,i32_w];rw[c3b0])|skip)
   have H':=ag.mk H
   clear H
   go_wp2
   go_meet
   case rel=>exact⟨_,(decide (a0 > 1231)),(by first|rfl|(simp;done)|(simp[*];done)|(simp[aJ];done)|(simp[aK];done)),H',⟨by first|omega|exact Nat.le_refl _⟩,⟨by repeat(first|(with_reducible first|exact HB.o|apply ae|apply aa|apply af)|exact HB.o)⟩⟩
 case rest=>
  clear HC2
  try clear c1
  try clear p2
  try clear c3
  try clear c3b0
  obtain⟨kq,x11_1,rfl,HA,HJ1,HB⟩:=hcut
  cases kq with
  |zero=>exact absurd HA.o (by simp[pylonref09_Day.j0])
  |succ kj1=>
   have H:=HA.o
   clear HA
   simp only[pylonref09_Day.j0] at H
   by_cases c4:x11_1=true
   ·subst c4
    have H1:(some (0,8))=some (r1,r2):=by rw[if_pos rfl] at H;exact H
    clear H
    have H:=H1
    clear H1
    simp only[Option.some.injEq,Prod.mk.injEq] at H
    obtain⟨rfl,rfl⟩:=H
    go_wp2
    go_ret2
    exact⟨by first|rfl|(simp[ay,az] <;> rfl)|(simp[*,ay,az] <;> rfl),by repeat(first|(with_reducible first|exact HB.o|apply ae|apply aa|apply af)|exact HB.o)⟩
   ·replace c4:=Bool.eq_false_iff.mpr c4
    subst c4
    have H1:((pylonref03_YearDay.f kj1 2000 (wrap64 (Int.tdiv a0 100)) (Int.tmod a0 100)).bind fun bt163=>(if bt163.2=0 then (some (bt163.1,0)) else (some (0,8))))=some (r1,r2):=by rw[if_neg (show ¬ (false=true) by decide)] at H;exact H
    clear H
    have H:=H1
    clear H1
    replace H:=Option.bind_eq_some_iff.mp H
    obtain⟨⟨t163,t164⟩,A50,H⟩:=H
    replace H:(if t164=0 then (some (t163,0)) else (some (0,8)))=some (r1,r2):=H
    have A5:=ag.mk A50
    clear A50
    by_cases c6:t164=0
    ·rw[if_pos c6] at H
     have c6b0:(t164 == 0)=true:=beq_iff_eq.mpr c6
     have c6b1:(t164 != 0)=false:=bne_eq_false_iff_eq.mpr c6
     clear c6
     simp only[Option.some.injEq,Prod.mk.injEq] at H
     obtain⟨rfl,rfl⟩:=H
     go_wp2_with (first|((with_reducible refine aR (f:=36) rfl ?_);refine aZ (some 18) rfl rfl Tryd.func36 (by kernel_rfl) rfl #[.agg #[.int .i64 2000,.int .i64 (wrap64 (Int.tdiv a0 100)),.int .i64 (Int.tmod a0 100)]] rfl (by (try simp only[List.map_toArray,List.map_cons,List.map_nil]);first|done|rfl|(simp only[List.length_drop,List.length_take];rfl)) ?_;(with_reducible refine(pylonref03_YearDay.calls kj1 2000 (wrap64 (Int.tdiv a0 100)) (Int.tmod a0 100) t163 t164 _ A5.o).mono ?_);rintro e w7 ⟨rfl,hb⟩;refine⟨_,rfl,?_⟩;have n0_:=ag.mk (aj (by repeat(first|(with_reducible first|exact HB.o|apply ae|apply aa|apply af)|exact HB.o)) hb);clear HB;have HB:=n0_;clear n0_;(try clear hb);(try clear hb2);(try clear hk);(try clear hi)))
     go_ret2
     exact⟨by first|rfl|(simp[ay,az] <;> rfl)|(simp[*,ay,az] <;> rfl),by repeat(first|(with_reducible first|exact HB.o|apply ae|apply aa|apply af)|exact HB.o)⟩
    ·rw[if_neg c6] at H
     have c6b0:(t164 == 0)=false:=beq_eq_false_iff_ne.mpr c6
     have c6b1:(t164 != 0)=true:=bne_iff_ne.mpr c6
     simp only[Option.some.injEq,Prod.mk.injEq] at H
     obtain⟨rfl,rfl⟩:=H
     go_wp2_with (first|((with_reducible refine aR (f:=36) rfl ?_);refine aZ (some 18) rfl rfl Tryd.func36 (by kernel_rfl) rfl #[.agg #[.int .i64 2000,.int .i64 (wrap64 (Int.tdiv a0 100)),.int .i64 (Int.tmod a0 100)]] rfl (by (try simp only[List.map_toArray,List.map_cons,List.map_nil]);first|done|rfl|(simp only[List.length_drop,List.length_take];rfl)) ?_;(with_reducible refine(pylonref03_YearDay.calls kj1 2000 (wrap64 (Int.tdiv a0 100)) (Int.tmod a0 100) t163 t164 _ A5.o).mono ?_);rintro e w8 ⟨rfl,hb⟩;refine⟨_,rfl,?_⟩;have n0_:=ag.mk (aj (by repeat(first|(with_reducible first|exact HB.o|apply ae|apply aa|apply af)|exact HB.o)) hb);clear HB;have HB:=n0_;clear n0_;(try clear hb);(try clear hb2);(try clear hk);(try clear hi)))
     go_ret2
     exact⟨by first|rfl|(simp[ay,az] <;> rfl)|(simp[*,ay,az] <;> rfl),by repeat(first|(with_reducible first|exact HB.o|apply ae|apply aa|apply af)|exact HB.o)⟩
end Go.Proofs.YtcmhfcciapenfaaDoor.Pa
