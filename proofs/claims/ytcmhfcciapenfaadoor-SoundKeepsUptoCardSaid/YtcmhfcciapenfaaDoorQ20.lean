/- A part of the proof. -/
import Derived.Test.YtcmhfcciapenfaaDoorQ05
set_option linter.all false
namespace Go.Proofs.YtcmhfcciapenfaaDoor.Pa
open Go.RowKit Go.Proofs.YtcmhfcciapenfaaDoorW.PrintWords Go.Proofs.YtcmhfcciapenfaaDoorW.PrintLast Go.Proofs.YtcmhfcciapenfaaDoorW.PrintMore
attribute [local go_sem] bL bM bW bX bG bH bN bO
mutual
def pylonlaw09_md.l0:Nat → Int → Int → Option (Int)
 |0,_,_=>none
 |k+1,x0,x3=>if x3≤12 then (if x3=2 then (if x0 < 29 then (some (wrap64 ((wrap64 ((wrap64 (100 * x3))+x0))+1))) else (pylonlaw09_md.l0 k (wrap64 (x0 - 29)) (wrap64 (x3+1)))) else (if x3=4 then (pylonlaw09_md.j1 k x0 x3 31 (x3 == 4)) else (if x3=6 then (pylonlaw09_md.j1 k x0 x3 31 (x3 == 6)) else (if x3=9 then (pylonlaw09_md.j1 k x0 x3 31 (x3 == 9)) else (pylonlaw09_md.j1 k x0 x3 31 (x3 == 11)))))) else (some 101)
def pylonlaw09_md.j1:Nat → Int → Int → Int → Bool → Option (Int)
 |0,_,_,_,_=>none
 |k+1,x0,x3,x4,x16=>if x16=true then (if x0 < 30 then (some (wrap64 ((wrap64 ((wrap64 (100 * x3))+x0))+1))) else (pylonlaw09_md.l0 k (wrap64 (x0 - 30)) (wrap64 (x3+1)))) else (if x0 < x4 then (some (wrap64 ((wrap64 ((wrap64 (100 * x3))+x0))+1))) else (pylonlaw09_md.l0 k (wrap64 (x0 - x4)) (wrap64 (x3+1))))
end
def pylonlaw09_md.f (k:Nat) (a0:Int):Option (Int):=pylonlaw09_md.l0 k (wrap64 (Int.tmod (IntKind.u64.wrap (a0)) 366)) 1
theorem pylonlaw09_md.mono_l : ∀ k,(∀ y0 y1,LeO (pylonlaw09_md.l0 k y0 y1) (pylonlaw09_md.l0 (k+1) y0 y1))∧(∀ y0 y1 y2 y3,LeO (pylonlaw09_md.j1 k y0 y1 y2 y3) (pylonlaw09_md.j1 (k+1) y0 y1 y2 y3))
 |0=>⟨fun _ _ r h=>by simp[pylonlaw09_md.l0] at h,fun _ _ _ _ r h=>by simp[pylonlaw09_md.j1] at h⟩
 |k+1=>by
  obtain⟨ih0,ih1⟩:=pylonlaw09_md.mono_l k
  refine⟨?_,?_⟩
  ·intro y0 y1
   unfold pylonlaw09_md.l0
   repeat' first
   |(with_reducible exact ih0 _ _)
   |(with_reducible exact ih1 _ _ _ _)
   |(with_reducible exact LeO.refl _)
   |(with_reducible exact LeO.none _)
   |(with_reducible refine LeO.ite ?_ ?_)
   |(with_reducible refine LeO.bind ?_ (fun _=>?_))
   |exact ih0 _ _
   |exact ih1 _ _ _ _
   |exact LeO.none _
   |refine LeO.ite ?_ ?_
   |refine LeO.bind ?_ (fun _=>?_)
  ·intro y0 y1 y2 y3
   unfold pylonlaw09_md.j1
   repeat' first
   |(with_reducible exact ih0 _ _)
   |(with_reducible exact ih1 _ _ _ _)
   |(with_reducible exact LeO.refl _)
   |(with_reducible exact LeO.none _)
   |(with_reducible refine LeO.ite ?_ ?_)
   |(with_reducible refine LeO.bind ?_ (fun _=>?_))
   |exact ih0 _ _
   |exact ih1 _ _ _ _
   |exact LeO.none _
   |refine LeO.ite ?_ ?_
   |refine LeO.bind ?_ (fun _=>?_)
theorem pylonlaw09_md.mono : ∀ a0 k,LeO (pylonlaw09_md.f k a0) (pylonlaw09_md.f (k+1) a0):=by
 intro a0 k
 obtain⟨ih0,ih1⟩:=pylonlaw09_md.mono_l k
 unfold pylonlaw09_md.f
 repeat' first
   |(with_reducible exact ih0 _ _)
   |(with_reducible exact ih1 _ _ _ _)
   |(with_reducible exact LeO.refl _)
   |(with_reducible exact LeO.none _)
   |(with_reducible refine LeO.ite ?_ ?_)
   |(with_reducible refine LeO.bind ?_ (fun _=>?_))
   |exact ih0 _ _
   |exact ih1 _ _ _ _
   |exact LeO.none _
   |refine LeO.ite ?_ ?_
   |refine LeO.bind ?_ (fun _=>?_)
set_option maxHeartbeats 8000000 in
set_option maxRecDepth 100000 in
theorem pylonlaw09_md.calls (k:Nat) (a0:Int) (r:Int) (w:World) (h:pylonlaw09_md.f k a0=some r) :
  Calls Tryd.prog 19 #[.int .i64 a0] w fun e w'=>e = .returned (.int .i64 r)∧aU w w':=by
 have H:(pylonlaw09_md.l0 k (wrap64 (Int.tmod (IntKind.u64.wrap (a0)) 366)) 1)=some r:=h
 clear h
 have H':=ag.mk H
 clear H
 go_enter Tryd.func19,Tryd.ntmps19
 go_wp2
 go_loopg [0,3] k (fun kq v0 v3 w'=>∃ (x0_1:Int) (x3_1:Int),v0 = .int .i64 x0_1∧v3 = .int .i64 x3_1∧ag (pylonlaw09_md.l0 kq x0_1 x3_1=some r)∧ag (kq≤k)∧aU w w')
 case atStart=>exact⟨(wrap64 (Int.tmod (IntKind.u64.wrap (a0)) 366)),(1),(by first|rfl|(simp;done)|(simp[*];done)|(simp[aQ];done)|(simp[aR];done)),(by first|rfl|(simp;done)|(simp[*];done)|(simp[aQ];done)|(simp[aR];done)),H',⟨Nat.le_refl _⟩,by repeat(first|exact aU.refl _|apply aU.step)⟩
 case round=>
  clear H'
  try clear c1
  obtain⟨x0_1,x3_1,rfl,rfl,HA,HK1,⟨m1,rfl⟩⟩:=hrel
  cases gk with
  |zero=>exact absurd HA.o (by simp[pylonlaw09_md.l0])
  |succ k1=>
   have H:=HA.o
   clear HA
   simp only[pylonlaw09_md.l0] at H
   by_cases c2:x3_1≤12
   ·rw[if_pos c2] at H
    have c2b0:decide (x3_1≤12)=true:=decide_eq_true c2
    clear c2
    by_cases c3:x3_1=2
    ·rw[if_pos c3] at H
     have c3b0:(x3_1 == 2)=true:=beq_iff_eq.mpr c3
     have c3b1:(x3_1 != 2)=false:=bne_eq_false_iff_eq.mpr c3
     clear c3
     by_cases c4:x0_1 < 29
     ·rw[if_pos c4] at H
      have c4b0:decide (x0_1 < 29)=true:=decide_eq_true c4
      clear c4
      obtain rfl:=Option.some.inj H
      go_wp2
      go_ret
      exact⟨by first|rfl|(simp;done)|(simp[*];done),by repeat(first|exact aU.refl _|apply aU.step)⟩
     ·rw[if_neg c4] at H
      have c4b0:decide (x0_1 < 29)=false:=decide_eq_false c4
      clear c4
      have H':=ag.mk H
      clear H
      go_wp2
      go_roundg k1
      case measure=>have:=HK1.o;omega
      case rel=>exact⟨(wrap64 (x0_1 - 29)),(wrap64 (x3_1+1)),(by first|rfl|(simp;done)|(simp[*];done)|(simp[aQ];done)|(simp[aR];done)),(by first|rfl|(simp;done)|(simp[*];done)|(simp[aQ];done)|(simp[aR];done)),H',⟨by have:=HK1.o;omega⟩,by repeat(first|exact aU.refl _|apply aU.step)⟩
    ·rw[if_neg c3] at H
     have c3b0:(x3_1 == 2)=false:=beq_eq_false_iff_ne.mpr c3
     have c3b1:(x3_1 != 2)=true:=bne_iff_ne.mpr c3
     have HC5:=ag.mk H
     clear H
     go_upto_if 16 with (fail)
     go_cut [16] (fun v16 wc=>∃ (kq:Nat) (x16_4:Bool),v16 = .bool x16_4∧ag (pylonlaw09_md.j1 kq x0_1 x3_1 31 x16_4=some r)∧ag (kq≤k1)∧aU w wc)
     case first=>
      have H:=HC5.o
      clear HC5
      by_cases c6:x3_1=4
      ·rw[if_pos c6] at H
       have c6b0:(x3_1 == 4)=true:=beq_iff_eq.mpr c6
       have c6b1:(x3_1 != 4)=false:=bne_eq_false_iff_eq.mpr c6
       clear c6
       (first|rw[c6b0]|(simp only[i64_w,i32_w];rw[c6b0])|skip)
       have H':=ag.mk H
       clear H
       go_wp2
       go_meet
       case rel=>exact⟨_,((x3_1 == 4)),(by first|rfl|(simp;done)|(simp[*];done)|(simp[aQ];done)|(simp[aR];done)),H',⟨by have:=HK1.o;first|omega|exact Nat.le_refl _⟩,by repeat(first|exact aU.refl _|apply aU.step)⟩
      ·rw[if_neg c6] at H
       have c6b0:(x3_1 == 4)=false:=beq_eq_false_iff_ne.mpr c6
       have c6b1:(x3_1 != 4)=true:=bne_iff_ne.mpr c6
       (first|rw[c6b0]|(simp only[i64_w,i32_w];rw[c6b0])|skip)
       by_cases c7:x3_1=6
       ·rw[if_pos c7] at H
        have c7b0:(x3_1 == 6)=true:=beq_iff_eq.mpr c7
        have c7b1:(x3_1 != 6)=false:=bne_eq_false_iff_eq.mpr c7
        clear c7
        have H':=ag.mk H
        clear H
        go_wp2
        go_meet
        case rel=>exact⟨_,((x3_1 == 6)),(by first|rfl|(simp;done)|(simp[*];done)|(simp[aQ];done)|(simp[aR];done)),H',⟨by have:=HK1.o;first|omega|exact Nat.le_refl _⟩,by repeat(first|exact aU.refl _|apply aU.step)⟩
       ·rw[if_neg c7] at H
        have c7b0:(x3_1 == 6)=false:=beq_eq_false_iff_ne.mpr c7
        have c7b1:(x3_1 != 6)=true:=bne_iff_ne.mpr c7
        by_cases c8:x3_1=9
        ·rw[if_pos c8] at H
         have c8b0:(x3_1 == 9)=true:=beq_iff_eq.mpr c8
         have c8b1:(x3_1 != 9)=false:=bne_eq_false_iff_eq.mpr c8
         clear c8
         have H':=ag.mk H
         clear H
         go_wp2
         go_meet
         case rel=>exact⟨_,((x3_1 == 9)),(by first|rfl|(simp;done)|(simp[*];done)|(simp[aQ];done)|(simp[aR];done)),H',⟨by have:=HK1.o;first|omega|exact Nat.le_refl _⟩,by repeat(first|exact aU.refl _|apply aU.step)⟩
        ·rw[if_neg c8] at H
         have c8b0:(x3_1 == 9)=false:=beq_eq_false_iff_ne.mpr c8
         have c8b1:(x3_1 != 9)=true:=bne_iff_ne.mpr c8
         have H':=ag.mk H
         clear H
         go_wp2
         go_meet
         case rel=>exact⟨_,((x3_1 == 11)),(by first|rfl|(simp;done)|(simp[*];done)|(simp[aQ];done)|(simp[aR];done)),H',⟨by have:=HK1.o;first|omega|exact Nat.le_refl _⟩,by repeat(first|exact aU.refl _|apply aU.step)⟩
     case rest=>
      clear HC5
      try clear c1
      try clear c2
      try clear c2b0
      try clear p2
      try clear c3
      try clear c3b0
      try clear c3b1
      try clear c4
      try clear c4b0
      try clear c6
      try clear c6b0
      try clear c6b1
      try clear p6
      try clear c7
      try clear c7b0
      try clear c7b1
      try clear c8
      try clear c8b0
      try clear c8b1
      obtain⟨kq,x16_4,rfl,HA,HJ4,⟨mc4,rfl⟩⟩:=hcut
      cases kq with
      |zero=>exact absurd HA.o (by simp[pylonlaw09_md.j1])
      |succ kj4=>
       have H:=HA.o
       clear HA
       simp only[pylonlaw09_md.j1] at H
       by_cases c9:x16_4=true
       ·subst c9
        have H1:(if x0_1 < 30 then (some (wrap64 ((wrap64 ((wrap64 (100 * x3_1))+x0_1))+1))) else (pylonlaw09_md.l0 kj4 (wrap64 (x0_1 - 30)) (wrap64 (x3_1+1))))=some r:=by rw[if_pos rfl] at H;exact H
        clear H
        have H:=H1
        clear H1
        by_cases c10:x0_1 < 30
        ·rw[if_pos c10] at H
         have c10b0:decide (x0_1 < 30)=true:=decide_eq_true c10
         clear c10
         obtain rfl:=Option.some.inj H
         go_wp2
         go_ret
         exact⟨by first|rfl|(simp;done)|(simp[*];done),by repeat(first|exact aU.refl _|apply aU.step)⟩
        ·rw[if_neg c10] at H
         have c10b0:decide (x0_1 < 30)=false:=decide_eq_false c10
         clear c10
         have H':=ag.mk H
         clear H
         go_wp2
         go_roundg kj4
         case measure=>have:=HK1.o;have:=HJ4.o;omega
         case rel=>exact⟨(wrap64 (x0_1 - 30)),(wrap64 (x3_1+1)),(by first|rfl|(simp;done)|(simp[*];done)|(simp[aQ];done)|(simp[aR];done)),(by first|rfl|(simp;done)|(simp[*];done)|(simp[aQ];done)|(simp[aR];done)),H',⟨by have:=HK1.o;have:=HJ4.o;omega⟩,by repeat(first|exact aU.refl _|apply aU.step)⟩
       ·replace c9:=Bool.eq_false_iff.mpr c9
        subst c9
        have H1:(if x0_1 < 31 then (some (wrap64 ((wrap64 ((wrap64 (100 * x3_1))+x0_1))+1))) else (pylonlaw09_md.l0 kj4 (wrap64 (x0_1 - 31)) (wrap64 (x3_1+1))))=some r:=by rw[if_neg (show ¬ (false=true) by decide)] at H;exact H
        clear H
        have H:=H1
        clear H1
        by_cases c11:x0_1 < 31
        ·rw[if_pos c11] at H
         have c11b0:decide (x0_1 < 31)=true:=decide_eq_true c11
         clear c11
         obtain rfl:=Option.some.inj H
         go_wp2
         go_ret
         exact⟨by first|rfl|(simp;done)|(simp[*];done),by repeat(first|exact aU.refl _|apply aU.step)⟩
        ·rw[if_neg c11] at H
         have c11b0:decide (x0_1 < 31)=false:=decide_eq_false c11
         clear c11
         have H':=ag.mk H
         clear H
         go_wp2
         go_roundg kj4
         case measure=>have:=HK1.o;have:=HJ4.o;omega
         case rel=>exact⟨(wrap64 (x0_1 - 31)),(wrap64 (x3_1+1)),(by first|rfl|(simp;done)|(simp[*];done)|(simp[aQ];done)|(simp[aR];done)),(by first|rfl|(simp;done)|(simp[*];done)|(simp[aQ];done)|(simp[aR];done)),H',⟨by have:=HK1.o;have:=HJ4.o;omega⟩,by repeat(first|exact aU.refl _|apply aU.step)⟩
   ·rw[if_neg c2] at H
    have c2b0:decide (x3_1≤12)=false:=decide_eq_false c2
    clear c2
    obtain rfl:=Option.some.inj H
    go_wp2
    go_ret
    exact⟨by first|rfl|(simp;done)|(simp[*];done),by repeat(first|exact aU.refl _|apply aU.step)⟩
end Go.Proofs.YtcmhfcciapenfaaDoor.Pa
