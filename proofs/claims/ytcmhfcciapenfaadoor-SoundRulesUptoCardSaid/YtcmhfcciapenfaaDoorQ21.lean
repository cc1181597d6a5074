/- A part of the proof. -/
import Derived.Test.YtcmhfcciapenfaaDoorQ20
set_option linter.all false
namespace Go.Proofs.YtcmhfcciapenfaaDoor.Pa
open Go.RowKit Go.Proofs.YtcmhfcciapenfaaDoorW.PrintWords Go.Proofs.YtcmhfcciapenfaaDoorW.PrintLast Go.Proofs.YtcmhfcciapenfaaDoorW.PrintMore
attribute [local go_sem] bJ bL bU bV bA bB bM bN
def pylonref09_Holds.j0:Nat → Int → Int → Int → Bool → Option (Bool)
 |0,_,_,_,_=>none
 |k+1,x5,x7,x9,x37=>if x37=true then (some false) else (if x7≤x9 then (if x5≥x7 then (some (decide (x5≤x9))) else (some false)) else (if x5≥x7 then (some true) else (some (decide (x5≤x9)))))
theorem pylonref09_Holds.mono_l : ∀ k,(∀ y0 y1 y2 y3,LeO (pylonref09_Holds.j0 k y0 y1 y2 y3) (pylonref09_Holds.j0 (k+1) y0 y1 y2 y3))
 |0=>fun _ _ _ _ r h=>by simp[pylonref09_Holds.j0] at h
 |k+1=>by
  have ih0:=pylonref09_Holds.mono_l k
  ·intro y0 y1 y2 y3
   unfold pylonref09_Holds.j0
   repeat' first
   |(with_reducible exact ih0 _ _ _ _)
   |(with_reducible exact pylonref09_Day.mono _ _)
   |(with_reducible exact LeO.refl _)
   |(with_reducible exact LeO.none _)
   |(with_reducible refine LeO.ite ?_ ?_)
   |(with_reducible refine LeO.bind ?_ (fun _=>?_))
   |exact ih0 _ _ _ _
   |exact pylonref09_Day.mono _ _
   |exact LeO.none _
   |refine LeO.ite ?_ ?_
   |refine LeO.bind ?_ (fun _=>?_)
def pylonref06_Of.l0:Nat → ByteArray → Int → Int → Option (Bool)
 |0,_,_,_=>none
 |k+1,x0,x1,x5=>if x5 < (x0.size:Int) then (if 0≤x5 then (if (bt x0 x5)≥97 then (if (bt x0 x5)≤122 then (pylonref06_Of.l0 k x0 x1 (wrap64 (x5+1))) else (if (bt x0 x5)≥48 then (if (bt x0 x5)≤57 then (pylonref06_Of.l0 k x0 x1 (wrap64 (x5+1))) else (if (bt x0 x5)=95 then (pylonref06_Of.l0 k x0 x1 (wrap64 (x5+1))) else (if ((bt x0 x5)=45) then (pylonref06_Of.l0 k x0 x1 (wrap64 (x5+1))) else (some false)))) else (if (bt x0 x5)=95 then (pylonref06_Of.l0 k x0 x1 (wrap64 (x5+1))) else (if ((bt x0 x5)=45) then (pylonref06_Of.l0 k x0 x1 (wrap64 (x5+1))) else (some false))))) else (if (bt x0 x5)≥48 then (if (bt x0 x5)≤57 then (pylonref06_Of.l0 k x0 x1 (wrap64 (x5+1))) else (if (bt x0 x5)=95 then (pylonref06_Of.l0 k x0 x1 (wrap64 (x5+1))) else (if ((bt x0 x5)=45) then (pylonref06_Of.l0 k x0 x1 (wrap64 (x5+1))) else (some false)))) else (if (bt x0 x5)=95 then (pylonref06_Of.l0 k x0 x1 (wrap64 (x5+1))) else (if ((bt x0 x5)=45) then (pylonref06_Of.l0 k x0 x1 (wrap64 (x5+1))) else (some false))))) else (none)) else (if (x0.size:Int)≥1 then (some (decide ((x0.size:Int)≤x1))) else (some false))
def pylonref06_Of.f (k:Nat) (a0:ByteArray) (a1:Int):Option (Bool):=pylonref06_Of.l0 k a0 a1 0
theorem pylonref06_Of.mono_l : ∀ k,(∀ y0 y1 y2,LeO (pylonref06_Of.l0 k y0 y1 y2) (pylonref06_Of.l0 (k+1) y0 y1 y2))
 |0=>fun _ _ _ r h=>by simp[pylonref06_Of.l0] at h
 |k+1=>by
  have ih0:=pylonref06_Of.mono_l k
  ·intro y0 y1 y2
   unfold pylonref06_Of.l0
   repeat' first
   |(with_reducible exact ih0 _ _ _)
   |(with_reducible exact LeO.refl _)
   |(with_reducible exact LeO.none _)
   |(with_reducible refine LeO.ite ?_ ?_)
   |(with_reducible refine LeO.bind ?_ (fun _=>?_))
   |exact ih0 _ _ _
   |exact LeO.none _
   |refine LeO.ite ?_ ?_
   |refine LeO.bind ?_ (fun _=>?_)
theorem pylonref06_Of.mono : ∀ a0 a1 k,LeO (pylonref06_Of.f k a0 a1) (pylonref06_Of.f (k+1) a0 a1):=by
 intro a0 a1 k
 have ih0:=pylonref06_Of.mono_l k
 unfold pylonref06_Of.f
 repeat' first
   |(with_reducible exact ih0 _ _ _)
   |(with_reducible exact LeO.refl _)
   |(with_reducible exact LeO.none _)
   |(with_reducible refine LeO.ite ?_ ?_)
   |(with_reducible refine LeO.bind ?_ (fun _=>?_))
   |exact ih0 _ _ _
   |exact LeO.none _
   |refine LeO.ite ?_ ?_
   |refine LeO.bind ?_ (fun _=>?_)
set_option maxHeartbeats 8000000 in
set_option maxRecDepth 100000 in
theorem pylonref06_Of.calls (k:Nat) (a0:ByteArray) (a1:Int) (r:Bool) (w:World) (h:pylonref06_Of.f k a0 a1=some r) :
  Calls Tryd.prog 38 #[.string a0,.int .i64 a1] w fun e w'=>e = .returned (.bool r)∧aQ w w':=by
 have H:(pylonref06_Of.l0 k a0 a1 0)=some r:=h
 clear h
 have H':=ag.mk H
 clear H
 go_enter Tryd.func38,Tryd.ntmps38
 go_wp2
 go_loopg [5] k (fun kq v5 w'=>∃ (x5_1:Int),v5 = .int .i64 x5_1∧ag (pylonref06_Of.l0 kq a0 a1 x5_1=some r)∧ag (kq≤k)∧aQ w w')
 case atStart=>exact⟨(0),(by first|rfl|(simp;done)|(simp[*];done)|(simp[aJ];done)|(simp[aK];done)),H',⟨Nat.le_refl _⟩,by repeat(first|exact aQ.refl _|apply aQ.step)⟩
 case round=>
  clear H'
  try clear p2
  obtain⟨x5_1,rfl,HA,HK1,⟨m1,rfl⟩⟩:=hrel
  cases gk with
  |zero=>exact absurd HA.o (by simp[pylonref06_Of.l0])
  |succ k1=>
   have H:=HA.o
   clear HA
   simp only[pylonref06_Of.l0] at H
   by_cases c3:x5_1 < (a0.size:Int)
   ·rw[if_pos c3] at H
    have c3b0:decide (x5_1 < (a0.size:Int))=true:=decide_eq_true c3
    clear c3
    by_cases c4:0≤x5_1
    ·rw[if_pos c4] at H
     have c4b0:decide (0≤x5_1)=true:=decide_eq_true c4
     clear c4
     by_cases c6:(bt a0 x5_1)≥97
     ·rw[if_pos c6] at H
      have c6b0:decide (97≤(bt a0 x5_1))=true:=decide_eq_true c6
      clear c6
      by_cases c7:(bt a0 x5_1)≤122
      ·rw[if_pos c7] at H
       have c7b0:decide ((bt a0 x5_1)≤122)=true:=decide_eq_true c7
       clear c7
       have H':=ag.mk H
       clear H
       have p5:0≤(x5_1:Int):=of_decide_eq_true (by first|(with_reducible assumption)|assumption)
       have q5:x5_1 < (a0.size:Int):=of_decide_eq_true (by first|(with_reducible assumption)|assumption)
       have hx5:=bt_at a0 x5_1
       replace p5:=eq_true p5
       replace q5:=eq_true q5
       go_wp2
       go_roundg k1
       case measure=>have:=HK1.o;omega
       case rel=>exact⟨(wrap64 (x5_1+1)),(by first|rfl|(simp;done)|(simp[*];done)|(simp[aJ];done)|(simp[aK];done)),H',⟨by have:=HK1.o;omega⟩,by repeat(first|exact aQ.refl _|apply aQ.step)⟩
      ·rw[if_neg c7] at H
       have c7b0:decide ((bt a0 x5_1)≤122)=false:=decide_eq_false c7
       clear c7
       by_cases c8:(bt a0 x5_1)≥48
       ·rw[if_pos c8] at H
        have c8b0:decide (48≤(bt a0 x5_1))=true:=decide_eq_true c8
        clear c8
        by_cases c9:(bt a0 x5_1)≤57
        ·rw[if_pos c9] at H
         have c9b0:decide ((bt a0 x5_1)≤57)=true:=decide_eq_true c9
         clear c9
         have H':=ag.mk H
         clear H
         have p5:0≤(x5_1:Int):=of_decide_eq_true (by first|(with_reducible assumption)|assumption)
         have q5:x5_1 < (a0.size:Int):=of_decide_eq_true (by first|(with_reducible assumption)|assumption)
         have hx5:=bt_at a0 x5_1
         replace p5:=eq_true p5
         replace q5:=eq_true q5
         go_wp2
         go_roundg k1
         case measure=>have:=HK1.o;omega
         case rel=>exact⟨(wrap64 (x5_1+1)),(by first|rfl|(simp;done)|(simp[*];done)|(simp[aJ];done)|(simp[aK];done)),H',⟨by have:=HK1.o;omega⟩,by repeat(first|exact aQ.refl _|apply aQ.step)⟩
        ·rw[if_neg c9] at H
         have c9b0:decide ((bt a0 x5_1)≤57)=false:=decide_eq_false c9
         clear c9
         by_cases c10:(bt a0 x5_1)=95
         ·rw[if_pos c10] at H
          have c10b0:((bt a0 x5_1) == 95)=true:=beq_iff_eq.mpr c10
          have c10b1:((bt a0 x5_1) != 95)=false:=bne_eq_false_iff_eq.mpr c10
          clear c10
          have H':=ag.mk H
          clear H
          have p5:0≤(x5_1:Int):=of_decide_eq_true (by first|(with_reducible assumption)|assumption)
          have q5:x5_1 < (a0.size:Int):=of_decide_eq_true (by first|(with_reducible assumption)|assumption)
          have hx5:=bt_at a0 x5_1
          replace p5:=eq_true p5
          replace q5:=eq_true q5
          go_wp2
          go_roundg k1
          case measure=>have:=HK1.o;omega
          case rel=>exact⟨(wrap64 (x5_1+1)),(by first|rfl|(simp;done)|(simp[*];done)|(simp[aJ];done)|(simp[aK];done)),H',⟨by have:=HK1.o;omega⟩,by repeat(first|exact aQ.refl _|apply aQ.step)⟩
         ·rw[if_neg c10] at H
          have c10b0:((bt a0 x5_1) == 95)=false:=beq_eq_false_iff_ne.mpr c10
          have c10b1:((bt a0 x5_1) != 95)=true:=bne_iff_ne.mpr c10
          by_cases c11:((bt a0 x5_1)=45)
          ·rw[if_pos c11] at H
           have c11b0:((bt a0 x5_1) == 45)=true:=beq_iff_eq.mpr c11
           have c11b1:((bt a0 x5_1) != 45)=false:=bne_eq_false_iff_eq.mpr c11
           clear c11
           have H':=ag.mk H
           clear H
           have p5:0≤(x5_1:Int):=of_decide_eq_true (by first|(with_reducible assumption)|assumption)
           have q5:x5_1 < (a0.size:Int):=of_decide_eq_true (by first|(with_reducible assumption)|assumption)
           have hx5:=bt_at a0 x5_1
           replace p5:=eq_true p5
           replace q5:=eq_true q5
           go_wp2
           go_roundg k1
           case measure=>have:=HK1.o;omega
           case rel=>exact⟨(wrap64 (x5_1+1)),(by first|rfl|(simp;done)|(simp[*];done)|(simp[aJ];done)|(simp[aK];done)),H',⟨by have:=HK1.o;omega⟩,by repeat(first|exact aQ.refl _|apply aQ.step)⟩
          ·rw[if_neg c11] at H
           have c11b0:((bt a0 x5_1) == 45)=false:=beq_eq_false_iff_ne.mpr c11
           have c11b1:((bt a0 x5_1) != 45)=true:=bne_iff_ne.mpr c11
           obtain rfl:=Option.some.inj H
           have p5:0≤(x5_1:Int):=of_decide_eq_true (by first|(with_reducible assumption)|assumption)
           have q5:x5_1 < (a0.size:Int):=of_decide_eq_true (by first|(with_reducible assumption)|assumption)
           have hx5:=bt_at a0 x5_1
           replace p5:=eq_true p5
           replace q5:=eq_true q5
           go_wp2
           go_ret
           exact⟨by first|rfl|(simp;done)|(simp[*];done),by repeat(first|exact aQ.refl _|apply aQ.step)⟩
       ·rw[if_neg c8] at H
        have c8b0:decide (48≤(bt a0 x5_1))=false:=decide_eq_false c8
        clear c8
        by_cases c12:(bt a0 x5_1)=95
        ·rw[if_pos c12] at H
         have c12b0:((bt a0 x5_1) == 95)=true:=beq_iff_eq.mpr c12
         have c12b1:((bt a0 x5_1) != 95)=false:=bne_eq_false_iff_eq.mpr c12
         clear c12
         have H':=ag.mk H
         clear H
         have p5:0≤(x5_1:Int):=of_decide_eq_true (by first|(with_reducible assumption)|assumption)
         have q5:x5_1 < (a0.size:Int):=of_decide_eq_true (by first|(with_reducible assumption)|assumption)
         have hx5:=bt_at a0 x5_1
         replace p5:=eq_true p5
         replace q5:=eq_true q5
         go_wp2
         go_roundg k1
         case measure=>have:=HK1.o;omega
         case rel=>exact⟨(wrap64 (x5_1+1)),(by first|rfl|(simp;done)|(simp[*];done)|(simp[aJ];done)|(simp[aK];done)),H',⟨by have:=HK1.o;omega⟩,by repeat(first|exact aQ.refl _|apply aQ.step)⟩
        ·rw[if_neg c12] at H
         have c12b0:((bt a0 x5_1) == 95)=false:=beq_eq_false_iff_ne.mpr c12
         have c12b1:((bt a0 x5_1) != 95)=true:=bne_iff_ne.mpr c12
         by_cases c13:((bt a0 x5_1)=45)
         ·rw[if_pos c13] at H
          have c13b0:((bt a0 x5_1) == 45)=true:=beq_iff_eq.mpr c13
          have c13b1:((bt a0 x5_1) != 45)=false:=bne_eq_false_iff_eq.mpr c13
          clear c13
          have H':=ag.mk H
          clear H
          have p5:0≤(x5_1:Int):=of_decide_eq_true (by first|(with_reducible assumption)|assumption)
          have q5:x5_1 < (a0.size:Int):=of_decide_eq_true (by first|(with_reducible assumption)|assumption)
          have hx5:=bt_at a0 x5_1
          replace p5:=eq_true p5
          replace q5:=eq_true q5
          go_wp2
          go_roundg k1
          case measure=>have:=HK1.o;omega
          case rel=>exact⟨(wrap64 (x5_1+1)),(by first|rfl|(simp;done)|(simp[*];done)|(simp[aJ];done)|(simp[aK];done)),H',⟨by have:=HK1.o;omega⟩,by repeat(first|exact aQ.refl _|apply aQ.step)⟩
         ·rw[if_neg c13] at H
          have c13b0:((bt a0 x5_1) == 45)=false:=beq_eq_false_iff_ne.mpr c13
          have c13b1:((bt a0 x5_1) != 45)=true:=bne_iff_ne.mpr c13
          obtain rfl:=Option.some.inj H
          have p5:0≤(x5_1:Int):=of_decide_eq_true (by first|(with_reducible assumption)|assumption)
          have q5:x5_1 < (a0.size:Int):=of_decide_eq_true (by first|(with_reducible assumption)|assumption)
          have hx5:=bt_at a0 x5_1
          replace p5:=eq_true p5
          replace q5:=eq_true q5
          go_wp2
          go_ret
          exact⟨by first|rfl|(simp;done)|(simp[*];done),by repeat(first|exact aQ.refl _|apply aQ.step)⟩
     ·rw[if_neg c6] at H
      have c6b0:decide (97≤(bt a0 x5_1))=false:=decide_eq_false c6
      clear c6
      by_cases c14:(bt a0 x5_1)≥48
      ·rw[if_pos c14] at H
       have c14b0:decide (48≤(bt a0 x5_1))=true:=decide_eq_true c14
       clear c14
       by_cases c15:(bt a0 x5_1)≤57
       ·rw[if_pos c15] at H
        have c15b0:decide ((bt a0 x5_1)≤57)=true:=decide_eq_true c15
        clear c15
        have H':=ag.mk H
        clear H
        have p5:0≤(x5_1:Int):=of_decide_eq_true (by first|(with_reducible assumption)|assumption)
        have q5:x5_1 < (a0.size:Int):=of_decide_eq_true (by first|(with_reducible assumption)|assumption)
        have hx5:=bt_at a0 x5_1
        replace p5:=eq_true p5
        replace q5:=eq_true q5
        go_wp2
        go_roundg k1
        case measure=>have:=HK1.o;omega
        case rel=>exact⟨(wrap64 (x5_1+1)),(by first|rfl|(simp;done)|(simp[*];done)|(simp[aJ];done)|(simp[aK];done)),H',⟨by have:=HK1.o;omega⟩,by repeat(first|exact aQ.refl _|apply aQ.step)⟩
       ·rw[if_neg c15] at H
        have c15b0:decide ((bt a0 x5_1)≤57)=false:=decide_eq_false c15
        clear c15
        by_cases c16:(bt a0 x5_1)=95
        ·rw[if_pos c16] at H
         have c16b0:((bt a0 x5_1) == 95)=true:=beq_iff_eq.mpr c16
         have c16b1:((bt a0 x5_1) != 95)=false:=bne_eq_false_iff_eq.mpr c16
         clear c16
         have H':=ag.mk H
         clear H
         have p5:0≤(x5_1:Int):=of_decide_eq_true (by first|(with_reducible assumption)|assumption)
         have q5:x5_1 < (a0.size:Int):=of_decide_eq_true (by first|(with_reducible assumption)|assumption)
         have hx5:=bt_at a0 x5_1
         replace p5:=eq_true p5
         replace q5:=eq_true q5
         go_wp2
         go_roundg k1
         case measure=>have:=HK1.o;omega
         case rel=>exact⟨(wrap64 (x5_1+1)),(by first|rfl|(simp;done)|(simp[*];done)|(simp[aJ];done)|(simp[aK];done)),H',⟨by have:=HK1.o;omega⟩,by repeat(first|exact aQ.refl _|apply aQ.step)⟩
        ·rw[if_neg c16] at H
         have c16b0:((bt a0 x5_1) == 95)=false:=beq_eq_false_iff_ne.mpr c16
         have c16b1:((bt a0 x5_1) != 95)=true:=bne_iff_ne.mpr c16
         by_cases c17:((bt a0 x5_1)=45)
         ·rw[if_pos c17] at H
          have c17b0:((bt a0 x5_1) == 45)=true:=beq_iff_eq.mpr c17
          have c17b1:((bt a0 x5_1) != 45)=false:=bne_eq_false_iff_eq.mpr c17
          clear c17
          have H':=ag.mk H
          clear H
          have p5:0≤(x5_1:Int):=of_decide_eq_true (by first|(with_reducible assumption)|assumption)
          have q5:x5_1 < (a0.size:Int):=of_decide_eq_true (by first|(with_reducible assumption)|assumption)
          have hx5:=bt_at a0 x5_1
          replace p5:=eq_true p5
          replace q5:=eq_true q5
          go_wp2
          go_roundg k1
          case measure=>have:=HK1.o;omega
          case rel=>exact⟨(wrap64 (x5_1+1)),(by first|rfl|(simp;done)|(simp[*];done)|(simp[aJ];done)|(simp[aK];done)),H',⟨by have:=HK1.o;omega⟩,by repeat(first|exact aQ.refl _|apply aQ.step)⟩
         ·rw[if_neg c17] at H
          have c17b0:((bt a0 x5_1) == 45)=false:=beq_eq_false_iff_ne.mpr c17
          have c17b1:((bt a0 x5_1) != 45)=true:=bne_iff_ne.mpr c17
          obtain rfl:=Option.some.inj H
          have p5:0≤(x5_1:Int):=of_decide_eq_true (by first|(with_reducible assumption)|assumption)
          have q5:x5_1 < (a0.size:Int):=of_decide_eq_true (by first|(with_reducible assumption)|assumption)
          have hx5:=bt_at a0 x5_1
          replace p5:=eq_true p5
          replace q5:=eq_true q5
          go_wp2
          go_ret
          exact⟨by first|rfl|(simp;done)|(simp[*];done),by repeat(first|exact aQ.refl _|apply aQ.step)⟩
      ·rw[if_neg c14] at H
       have c14b0:decide (48≤(bt a0 x5_1))=false:=decide_eq_false c14
       clear c14
       by_cases c18:(bt a0 x5_1)=95
       ·rw[if_pos c18] at H
        have c18b0:((bt a0 x5_1) == 95)=true:=beq_iff_eq.mpr c18
        have c18b1:((bt a0 x5_1) != 95)=false:=bne_eq_false_iff_eq.mpr c18
        clear c18
        have H':=ag.mk H
        clear H
        have p5:0≤(x5_1:Int):=of_decide_eq_true (by first|(with_reducible assumption)|assumption)
        have q5:x5_1 < (a0.size:Int):=of_decide_eq_true (by first|(with_reducible assumption)|assumption)
        have hx5:=bt_at a0 x5_1
        replace p5:=eq_true p5
        replace q5:=eq_true q5
        go_wp2
        go_roundg k1
        case measure=>have:=HK1.o;omega
        case rel=>exact⟨(wrap64 (x5_1+1)),(by first|rfl|(simp;done)|(simp[*];done)|(simp[aJ];done)|(simp[aK];done)),H',⟨by have:=HK1.o;omega⟩,by repeat(first|exact aQ.refl _|apply aQ.step)⟩
       ·rw[if_neg c18] at H
        have c18b0:((bt a0 x5_1) == 95)=false:=beq_eq_false_iff_ne.mpr c18
        have c18b1:((bt a0 x5_1) != 95)=true:=bne_iff_ne.mpr c18
        by_cases c19:((bt a0 x5_1)=45)
        ·rw[if_pos c19] at H
         have c19b0:((bt a0 x5_1) == 45)=true:=beq_iff_eq.mpr c19
         have c19b1:((bt a0 x5_1) != 45)=false:=bne_eq_false_iff_eq.mpr c19
         clear c19
         have H':=ag.mk H
         clear H
         have p5:0≤(x5_1:Int):=of_decide_eq_true (by first|(with_reducible assumption)|assumption)
         have q5:x5_1 < (a0.size:Int):=of_decide_eq_true (by first|(with_reducible assumption)|assumption)
         have hx5:=bt_at a0 x5_1
         replace p5:=eq_true p5
         replace q5:=eq_true q5
         go_wp2
         go_roundg k1
         case measure=>have:=HK1.o;omega
         case rel=>exact⟨(wrap64 (x5_1+1)),(by first|rfl|(simp;done)|(simp[*];done)|(simp[aJ];done)|(simp[aK];done)),H',⟨by have:=HK1.o;omega⟩,by repeat(first|exact aQ.refl _|apply aQ.step)⟩
        ·rw[if_neg c19] at H
         have c19b0:((bt a0 x5_1) == 45)=false:=beq_eq_false_iff_ne.mpr c19
         have c19b1:((bt a0 x5_1) != 45)=true:=bne_iff_ne.mpr c19
         obtain rfl:=Option.some.inj H
         have p5:0≤(x5_1:Int):=of_decide_eq_true (by first|(with_reducible assumption)|assumption)
         have q5:x5_1 < (a0.size:Int):=of_decide_eq_true (by first|(with_reducible assumption)|assumption)
         have hx5:=bt_at a0 x5_1
         replace p5:=eq_true p5
         replace q5:=eq_true q5
         go_wp2
         go_ret
         exact⟨by first|rfl|(simp;done)|(simp[*];done),by repeat(first|exact aQ.refl _|apply aQ.step)⟩
    ·rw[if_neg c4] at H
     exact absurd H (by simp)
   ·rw[if_neg c3] at H
    have c3b0:decide (x5_1 < (a0.size:Int))=false:=decide_eq_false c3
    clear c3
    by_cases c20:(a0.size:Int)≥1
    ·rw[if_pos c20] at H
     have c20b0:decide (1≤(a0.size:Int))=true:=decide_eq_true c20
     have c20b1:decide (1≤a0.size)=true:=decide_eq_true (by omega)
     clear c20
     obtain rfl:=Option.some.inj H
     go_wp2
     go_ret
     exact⟨by first|rfl|(simp;done)|(simp[*];done),by repeat(first|exact aQ.refl _|apply aQ.step)⟩
    ·rw[if_neg c20] at H
     have c20b0:decide (1≤(a0.size:Int))=false:=decide_eq_false c20
     have c20b1:decide (1≤a0.size)=false:=decide_eq_false (by omega)
     clear c20
     obtain rfl:=Option.some.inj H
     go_wp2
     go_ret
     exact⟨by first|rfl|(simp;done)|(simp[*];done),by repeat(first|exact aQ.refl _|apply aQ.step)⟩
def pylonref06_Name.f (k:Nat) (a0:ByteArray):Option (Bool):=(pylonref06_Of.f k a0 24).bind fun t172=>(if t172=true then (if 0 < (a0.size:Int) then (if (bt a0 0)≥97 then (some (decide ((bt a0 0)≤122))) else (some false)) else (none)) else (some false))
theorem pylonref06_Name.mono : ∀ a0 k,LeO (pylonref06_Name.f k a0) (pylonref06_Name.f (k+1) a0):=by
 intro a0 k
 unfold pylonref06_Name.f
 repeat' first
   |(with_reducible exact pylonref06_Of.mono _ _ _)
   |(with_reducible exact LeO.refl _)
   |(with_reducible exact LeO.none _)
   |(with_reducible refine LeO.ite ?_ ?_)
   |(with_reducible refine LeO.bind ?_ (fun _=>?_))
   |exact pylonref06_Of.mono _ _ _
   |exact LeO.none _
   |refine LeO.ite ?_ ?_
   |refine LeO.bind ?_ (fun _=>?_)
set_option maxHeartbeats 8000000 in
set_option maxRecDepth 100000 in
theorem pylonref06_Name.calls (k:Nat) (a0:ByteArray) (r:Bool) (w:World) (h:pylonref06_Name.f k a0=some r) :
  Calls Tryd.prog 21 #[.string a0] w fun e w'=>e = .returned (.bool r)∧aQ w w':=by
 have H:((pylonref06_Of.f k a0 24).bind fun t172=>(if t172=true then (if 0 < (a0.size:Int) then (if (bt a0 0)≥97 then (some (decide ((bt a0 0)≤122))) else (some false)) else (none)) else (some false)))=some r:=h
 clear h
 replace H:=Option.bind_eq_some_iff.mp H
 obtain⟨t172,A20,H⟩:=H
 replace H:(if t172=true then (if 0 < (a0.size:Int) then (if (bt a0 0)≥97 then (some (decide ((bt a0 0)≤122))) else (some false)) else (none)) else (some false))=some r:=H
 have A2:=ag.mk A20
 clear A20
 by_cases c3:t172=true
 ·subst c3
  have H1:(if 0 < (a0.size:Int) then (if (bt a0 0)≥97 then (some (decide ((bt a0 0)≤122))) else (some false)) else (none))=some r:=by rw[if_pos rfl] at H;exact H
  clear H
  have H:=H1
  clear H1
  by_cases c4:0 < (a0.size:Int)
  ·rw[if_pos c4] at H
   have c4b0:decide (0 < (a0.size:Int))=true:=decide_eq_true c4
   have c4b1:decide (0 < a0.size)=true:=decide_eq_true (by omega)
   clear c4
   by_cases c6:(bt a0 0)≥97
   ·rw[if_pos c6] at H
    have c6b0:decide (97≤(bt a0 0))=true:=decide_eq_true c6
    clear c6
    obtain rfl:=Option.some.inj H
    go_enter Tryd.func21,Tryd.ntmps21
    go_wp2_with (first|((with_reducible refine aR (f:=38) rfl ?_);refine aZ (some 4) rfl rfl Tryd.func38 (by kernel_rfl) rfl #[.string a0,.int .i64 24] rfl (by (try simp only[List.map_toArray,List.map_cons,List.map_nil]);first|done|rfl|(simp only[List.length_drop,List.length_take];rfl)) ?_;(with_reducible refine(pylonref06_Of.calls k a0 24 true _ A2.o).mono ?_);rintro e w' ⟨rfl,⟨nd,rfl⟩⟩;refine⟨_,rfl,?_⟩;have p5:0≤(0:Int):=(by omega);have q5:0 < a0.size:=(by have:(0:Int) < (a0.size:Int):=of_decide_eq_true (by first|(with_reducible assumption)|assumption);omega);have hx5 : ∀ h:0 < a0.size,((a0[0]'h).toNat:Int)=bt a0 0:=bt_at a0 0;clear p5;have qi5:(0 < (a0.size:Int))=True:=eq_true (of_decide_eq_true (by first|(with_reducible assumption)|assumption));replace q5:=eq_true q5;have p7:0≤(0:Int):=(by omega);have q7:0 < a0.size:=(by have:(0:Int) < (a0.size:Int):=of_decide_eq_true (by first|(with_reducible assumption)|assumption);omega);have hx7 : ∀ h:0 < a0.size,((a0[0]'h).toNat:Int)=bt a0 0:=bt_at a0 0;clear p7;have qi7:(0 < (a0.size:Int))=True:=eq_true (of_decide_eq_true (by first|(with_reducible assumption)|assumption));replace q7:=eq_true q7))
    go_ret
    exact⟨by first|rfl|(simp;done)|(simp[*];done),by repeat(first|exact aQ.refl _|apply aQ.step)⟩
   ·rw[if_neg c6] at H
    have c6b0:decide (97≤(bt a0 0))=false:=decide_eq_false c6
    clear c6
    obtain rfl:=Option.some.inj H
    go_enter Tryd.func21,Tryd.ntmps21
    go_wp2_with (first|((with_reducible refine aR (f:=38) rfl ?_);refine aZ (some 4) rfl rfl Tryd.func38 (by kernel_rfl) rfl #[.string a0,.int .i64 24] rfl (by (try simp only[List.map_toArray,List.map_cons,List.map_nil]);first|done|rfl|(simp only[List.length_drop,List.length_take];rfl)) ?_;(with_reducible refine(pylonref06_Of.calls k a0 24 true _ A2.o).mono ?_);rintro e w' ⟨rfl,⟨nd,rfl⟩⟩;refine⟨_,rfl,?_⟩;have p5:0≤(0:Int):=(by omega);have q5:0 < a0.size:=(by have:(0:Int) < (a0.size:Int):=of_decide_eq_true (by first|(with_reducible assumption)|assumption);omega);have hx5 : ∀ h:0 < a0.size,((a0[0]'h).toNat:Int)=bt a0 0:=bt_at a0 0;clear p5;have qi5:(0 < (a0.size:Int))=True:=eq_true (of_decide_eq_true (by first|(with_reducible assumption)|assumption));replace q5:=eq_true q5))
    go_ret
    exact⟨by first|rfl|(simp;done)|(simp[*];done),by repeat(first|exact aQ.refl _|apply aQ.step)⟩
  ·rw[if_neg c4] at H
   exact absurd H (by simp)
 ·replace c3:=Bool.eq_false_iff.mpr c3
  subst c3
  have H1:(some false)=some r:=by rw[if_neg (show ¬ (false=true) by decide)] at H;exact H
  clear H
  have H:=H1
  clear H1
  obtain rfl:=Option.some.inj H
  go_enter Tryd.func21,Tryd.ntmps21
  go_wp2_with (first|((with_reducible refine aR (f:=38) rfl ?_);refine aZ (some 4) rfl rfl Tryd.func38 (by kernel_rfl) rfl #[.string a0,.int .i64 24] rfl (by (try simp only[List.map_toArray,List.map_cons,List.map_nil]);first|done|rfl|(simp only[List.length_drop,List.length_take];rfl)) ?_;(with_reducible refine(pylonref06_Of.calls k a0 24 false _ A2.o).mono ?_);rintro e w' ⟨rfl,⟨nd,rfl⟩⟩;refine⟨_,rfl,?_⟩))
  go_ret
  exact⟨by first|rfl|(simp;done)|(simp[*];done),by repeat(first|exact aQ.refl _|apply aQ.step)⟩
end Go.Proofs.YtcmhfcciapenfaaDoor.Pa
