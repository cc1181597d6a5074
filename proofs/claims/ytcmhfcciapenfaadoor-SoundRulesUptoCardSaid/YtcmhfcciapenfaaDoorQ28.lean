/- A part of the proof. -/
import Derived.Test.YtcmhfcciapenfaaDoorQ00
import Derived.Test.YtcmhfcciapenfaaDoorQ21
set_option linter.all false
namespace Go.Proofs.YtcmhfcciapenfaaDoor.Pa
open Go.RowKit Go.Proofs.YtcmhfcciapenfaaDoorW.PrintWords Go.Proofs.YtcmhfcciapenfaaDoorW.PrintLast Go.Proofs.YtcmhfcciapenfaaDoorW.PrintMore
attribute [local go_sem] bJ bL bU bV bA bB bM bN
mutual
def pylonref17_Good.j0:Nat → List (S70) → Bool → Option (Bool)
 |0,_,_=>none
 |k+1,x0,x13=>if x13=true then (some false) else (pylonref17_Good.l0 k x0 0 (x0.length:Int) 0)
def pylonref17_Good.l0:Nat → List (S70) → Int → Int → Int → Option (Bool)
 |0,_,_,_,_=>none
 |k+1,x0,x3,x15,x16=>if x16 < x15 then (if 0≤x16 then (if x16 < (x0.length:Int) then (if ((aV x0 x16).f1) < (-10000000) then (pylonref17_Good.j2 k x0 x3 x16 x15 x16 true ((aV x0 x16).f0) ((aV x0 x16).f1)) else (pylonref17_Good.j2 k x0 x3 x16 x15 x16 (decide (((aV x0 x16).f1) > 10000000)) ((aV x0 x16).f0) ((aV x0 x16).f1))) else (none)) else (none)) else (some false)
def pylonref17_Good.j2:Nat → List (S70) → Int → Int → Int → Int → Bool → Int → Int → Option (Bool)
 |0,_,_,_,_,_,_,_,_=>none
 |k+1,x0,x3,x4,x15,x16,x30,x180000,x180001=>if x30=true then (some false) else (if x4=(wrap64 ((x0.length:Int) - 1)) then (some (x180000 == 0)) else (if x180000≤x3 then (some false) else (if x180000 > 500000000000000 then (some false) else (pylonref17_Good.l0 k x0 x180000 x15 (wrap64 (x16+1))))))
end
def pylonref17_Good.f (k:Nat) (l0:List (S70)):Option (Bool):=if (l0.length:Int) < 1 then (pylonref17_Good.j0 k l0 true) else (pylonref17_Good.j0 k l0 (decide ((l0.length:Int) > 64)))
theorem pylonref17_Good.mono_l : ∀ k,(∀ y0 y1,LeO (pylonref17_Good.j0 k y0 y1) (pylonref17_Good.j0 (k+1) y0 y1))∧(∀ y0 y1 y2 y3,LeO (pylonref17_Good.l0 k y0 y1 y2 y3) (pylonref17_Good.l0 (k+1) y0 y1 y2 y3))∧(∀ y0 y1 y2 y3 y4 y5 y6 y7,LeO (pylonref17_Good.j2 k y0 y1 y2 y3 y4 y5 y6 y7) (pylonref17_Good.j2 (k+1) y0 y1 y2 y3 y4 y5 y6 y7))
 |0=>⟨fun _ _ r h=>by simp[pylonref17_Good.j0] at h,fun _ _ _ _ r h=>by simp[pylonref17_Good.l0] at h,fun _ _ _ _ _ _ _ _ r h=>by simp[pylonref17_Good.j2] at h⟩
 |k+1=>by
  obtain⟨ih0,ih1,ih2⟩:=pylonref17_Good.mono_l k
  refine⟨?_,?_,?_⟩
  ·intro y0 y1
   unfold pylonref17_Good.j0
   repeat' first
   |(with_reducible exact ih0 _ _)
   |(with_reducible exact ih1 _ _ _ _)
   |(with_reducible exact ih2 _ _ _ _ _ _ _ _)
   |(with_reducible exact LeO.refl _)
   |(with_reducible exact LeO.none _)
   |(with_reducible refine LeO.ite ?_ ?_)
   |(with_reducible refine LeO.bind ?_ (fun _=>?_))
   |exact ih0 _ _
   |exact ih1 _ _ _ _
   |exact ih2 _ _ _ _ _ _ _ _
   |exact LeO.none _
   |refine LeO.ite ?_ ?_
   |refine LeO.bind ?_ (fun _=>?_)
  ·intro y0 y1 y2 y3
   unfold pylonref17_Good.l0
   repeat' first
   |(with_reducible exact ih0 _ _)
   |(with_reducible exact ih1 _ _ _ _)
   |(with_reducible exact ih2 _ _ _ _ _ _ _ _)
   |(with_reducible exact LeO.refl _)
   |(with_reducible exact LeO.none _)
   |(with_reducible refine LeO.ite ?_ ?_)
   |(with_reducible refine LeO.bind ?_ (fun _=>?_))
   |exact ih0 _ _
   |exact ih1 _ _ _ _
   |exact ih2 _ _ _ _ _ _ _ _
   |exact LeO.none _
   |refine LeO.ite ?_ ?_
   |refine LeO.bind ?_ (fun _=>?_)
  ·intro y0 y1 y2 y3 y4 y5 y6 y7
   unfold pylonref17_Good.j2
   repeat' first
   |(with_reducible exact ih0 _ _)
   |(with_reducible exact ih1 _ _ _ _)
   |(with_reducible exact ih2 _ _ _ _ _ _ _ _)
   |(with_reducible exact LeO.refl _)
   |(with_reducible exact LeO.none _)
   |(with_reducible refine LeO.ite ?_ ?_)
   |(with_reducible refine LeO.bind ?_ (fun _=>?_))
   |exact ih0 _ _
   |exact ih1 _ _ _ _
   |exact ih2 _ _ _ _ _ _ _ _
   |exact LeO.none _
   |refine LeO.ite ?_ ?_
   |refine LeO.bind ?_ (fun _=>?_)
theorem pylonref17_Good.mono : ∀ a0 k,LeO (pylonref17_Good.f k a0) (pylonref17_Good.f (k+1) a0):=by
 intro a0 k
 obtain⟨ih0,ih1,ih2⟩:=pylonref17_Good.mono_l k
 unfold pylonref17_Good.f
 repeat' first
   |(with_reducible exact ih0 _ _)
   |(with_reducible exact ih1 _ _ _ _)
   |(with_reducible exact ih2 _ _ _ _ _ _ _ _)
   |(with_reducible exact LeO.refl _)
   |(with_reducible exact LeO.none _)
   |(with_reducible refine LeO.ite ?_ ?_)
   |(with_reducible refine LeO.bind ?_ (fun _=>?_))
   |exact ih0 _ _
   |exact ih1 _ _ _ _
   |exact ih2 _ _ _ _ _ _ _ _
   |exact LeO.none _
   |refine LeO.ite ?_ ?_
   |refine LeO.bind ?_ (fun _=>?_)
set_option maxHeartbeats 8000000 in
set_option maxRecDepth 100000 in
theorem pylonref17_Good.calls (k:Nat) (A0:Option Addr) (c0:Nat) (l0:List (S70)) (r:Bool) (w:World) (hr0:Kd.C k70 w A0 l0.length l0) (hc0:l0.length≤c0) (h:pylonref17_Good.f k l0=some r) :
  Calls Tryd.prog 41 #[.slice A0 l0.length c0] w fun e w'=>e = .returned (.bool r)∧Below w.heap.size w w':=by
 have hu70:=Tryd.underlying70
 have HR0:=ag.mk hr0
 have HC0:=ag.mk hc0
 clear hr0 hc0
 have HB:=ag.mk (Below.refl w.heap.size w)
 have H:(if (l0.length:Int) < 1 then (pylonref17_Good.j0 k l0 true) else (pylonref17_Good.j0 k l0 (decide ((l0.length:Int) > 64))))=some r:=h
 clear h
 have HC2:=ag.mk H
 clear H
 go_enter Tryd.func41,Tryd.ntmps41
 go_upto_region 1 with (fail)
 go_cut [13] (fun v13 wc=>∃ (kq:Nat) (x13_1:Bool),v13 = .bool x13_1∧ag (pylonref17_Good.j0 kq l0 x13_1=some r)∧ag (kq≤k)∧ag (Below w.heap.size w wc))
 case first=>
  have H:=HC2.o
  clear HC2
  by_cases c3:(l0.length:Int) < 1
  ·rw[if_pos c3] at H
   have c3b0:decide ((l0.length:Int) < 1)=true:=decide_eq_true c3
   have c3b1:decide (l0.length < 1)=true:=decide_eq_true (by omega)
   clear c3
   (first|rw[c3b0]|(simp only[i64_w,i32_w];rw[c3b0])|skip)
   have H':=ag.mk H
   clear H
   go_wp2
   go_meet
   case rel=>exact⟨_,(true),(by first|rfl|(simp;done)|(simp[*];done)|(simp[aJ];done)|(simp[aK];done)),H',⟨by first|omega|exact Nat.le_refl _⟩,⟨by repeat(first|(with_reducible first|exact HB.o|apply ae|apply aa|apply af)|exact HB.o)⟩⟩
  ·rw[if_neg c3] at H
   have c3b0:decide ((l0.length:Int) < 1)=false:=decide_eq_false c3
   have c3b1:decide (l0.length < 1)=false:=decide_eq_false (by omega)
   clear c3
   (first|rw[c3b0]|(simp only[i64_w,i32_w];rw[c3b0])|skip)
   have H':=ag.mk H
   clear H
   go_wp2
   go_meet
   case rel=>exact⟨_,(decide ((l0.length:Int) > 64)),(by first|rfl|(simp;done)|(simp[*];done)|(simp[aJ];done)|(simp[aK];done)),H',⟨by first|omega|exact Nat.le_refl _⟩,⟨by repeat(first|(with_reducible first|exact HB.o|apply ae|apply aa|apply af)|exact HB.o)⟩⟩
 case rest=>
  clear HC2
  try clear p2
  try clear c3
  try clear c3b0
  try clear c3b1
  obtain⟨kq,x13_1,rfl,HA,HJ1,HB⟩:=hcut
  cases kq with
  |zero=>exact absurd HA.o (by simp[pylonref17_Good.j0])
  |succ kj1=>
   have H:=HA.o
   clear HA
   simp only[pylonref17_Good.j0] at H
   by_cases c4:x13_1=true
   ·subst c4
    have H1:(some false)=some r:=by rw[if_pos rfl] at H;exact H
    clear H
    have H:=H1
    clear H1
    obtain rfl:=Option.some.inj H
    go_wp2
    go_ret
    exact⟨by first|rfl|(simp[ay,az] <;> rfl)|(simp[*,ay,az] <;> rfl),by repeat(first|(with_reducible first|exact HB.o|apply ae|apply aa|apply af)|exact HB.o)⟩
   ·replace c4:=Bool.eq_false_iff.mpr c4
    subst c4
    have H1:(pylonref17_Good.l0 kj1 l0 0 (l0.length:Int) 0)=some r:=by rw[if_neg (show ¬ (false=true) by decide)] at H;exact H
    clear H
    have H:=H1
    clear H1
    have H':=ag.mk H
    clear H
    go_wp2
    go_loopg [3,16] kj1 (fun kq v3 v16 w'=>∃ (x3_2:Int) (x16_2:Int),v3 = .int .i64 x3_2∧v16 = .int .i64 x16_2∧ag (pylonref17_Good.l0 kq l0 x3_2 (l0.length:Int) x16_2=some r)∧ag (kq≤kj1)∧ag (Below w.heap.size w w'))
    case atStart=>exact⟨(0),(0),(by first|rfl|(simp;done)|(simp[*];done)|(simp[aJ];done)|(simp[aK];done)),(by first|rfl|(simp;done)|(simp[*];done)|(simp[aJ];done)|(simp[aK];done)),H',⟨Nat.le_refl _⟩,⟨by repeat(first|(with_reducible first|exact HB.o|apply ae|apply aa|apply af)|exact HB.o)⟩⟩
    case round=>
     clear H'
     try clear p2
     try clear c3
     try clear c3b0
     try clear c3b1
     try clear c4
     try clear p2
     obtain⟨x3_2,x16_2,rfl,rfl,HA,HK2,HB⟩:=hrel
     cases gk with
     |zero=>exact absurd HA.o (by simp[pylonref17_Good.l0])
     |succ k2=>
      have H:=HA.o
      clear HA
      simp only[pylonref17_Good.l0] at H
      by_cases c5:x16_2 < (l0.length:Int)
      ·rw[if_pos c5] at H
       have c5b0:decide (x16_2 < (l0.length:Int))=true:=decide_eq_true c5
       clear c5
       by_cases c6:0≤x16_2
       ·rw[if_pos c6] at H
        have c6b0:decide (0≤x16_2)=true:=decide_eq_true c6
        clear c6
        by_cases c7:x16_2 < (l0.length:Int)
        ·rw[if_pos c7] at H
         have c7b0:decide (x16_2 < (l0.length:Int))=true:=decide_eq_true c7
         clear c7
         have HC8:=ag.mk H
         clear H
         have p178:0≤(x16_2:Int):=of_decide_eq_true (by first|(with_reducible assumption)|assumption)
         have q178:x16_2 < (l0.length:Int):=of_decide_eq_true (by first|(with_reducible assumption)|assumption)
         obtain⟨ad178,e178,hx178_0,hx178_1⟩:=fK HR0.o x16_2 p178 q178
         cases e178
         replace hx178_0:=cqq HB.o hx178_0
         replace hx178_1:=cqq HB.o hx178_1
         replace p178:=eq_true p178
         replace q178:=eq_true q178
         go_upto_region 8 with (first|((with_reducible refine aI (N:=5) rfl ?_);(try (refine gate_guard (by rfl) ?_;dsimp only));refine aH ?hg (N:=5) ?hd (cs:=#[.int .i64 0,.int .i64 0]) (t:=70) ?hr ?_;(case hd=>rfl);(case hg=>rfl);(case hr=>first|(go_simp;done)|(go_simp;rfl));intro gb179 hg w9 hbox hb;have n0_:=ag.mk (aj (by repeat(first|(with_reducible first|exact HB.o|apply ae|apply aa|apply af)|exact HB.o)) hb);have n1_:=ag.mk (hbox);have n2_:=ag.mk ((by rw[hg];exact(ak (by repeat(first|(with_reducible first|exact HB.o|apply ae|apply aa|apply af)|exact HB.o))):w.heap.size≤gb179));have n3_:=ag.mk ((by rw[hg];exact(ak (by repeat(first|(with_reducible first|exact HB.o|apply ae|apply aa|apply af)|exact HB.o))):w.heap.size≤gb179));clear HB;have HB:=n0_;have BK179:=n1_;have GW179:=n2_;have GE179:=n3_;clear n0_ n1_ n2_ n3_;clear hb hbox hg;have hcz10_0:w9.cell? ⟨gb179,0,none⟩=some (.int .i64 0):=(ah BK179.o 0).trans rfl;have hcz10_1:w9.cell? ⟨gb179,1,none⟩=some (.int .i64 0):=(ah BK179.o 1).trans rfl;have hfz10_0:=ai BK179.o 0;have hfz10_1:=ai BK179.o 1))
         (try simp only[Act.put,List.setIfInBounds_toArray,List.set_cons_zero,List.set_cons_succ])
         go_cut [30] (fun v30 wc=>∃ (kq:Nat) (x30_7:Bool),v30 = .bool x30_7∧ag (pylonref17_Good.j2 kq l0 x3_2 x16_2 (l0.length:Int) x16_2 x30_7 ((aV l0 x16_2).f0) ((aV l0 x16_2).f1)=some r)∧ag (kq≤k2)∧ag (wc.heap[gb179]? = some (.cells #[.int .i64 ((aV l0 x16_2).f0),.int .i64 ((aV l0 x16_2).f1)] 70 (0,0)))∧ag (Below w.heap.size w wc))
         case first=>
          have H:=HC8.o
          clear HC8
          by_cases c11:((aV l0 x16_2).f1) < (-10000000)
          ·rw[if_pos c11] at H
           have c11b0:decide (((aV l0 x16_2).f1) < (-10000000))=true:=decide_eq_true c11
           clear c11
           (first|rw[c11b0]|(simp only[i64_w,i32_w];rw[c11b0])|skip)
           have H':=ag.mk H
           clear H
           have hcz12_0:w9.cell? ⟨gb179,0,none⟩=some (.int .i64 0):=(ah BK179.o 0).trans rfl
           have hcz12_1:w9.cell? ⟨gb179,1,none⟩=some (.int .i64 0):=(ah BK179.o 1).trans rfl
           have hfz12_0:=ai BK179.o 0
           have hfz12_1:=ai BK179.o 1
           go_wp2
           go_meet
           case rel=>exact⟨_,(true),(by first|rfl|(simp;done)|(simp[*];done)|(simp[aJ];done)|(simp[aK];done)),H',⟨by have:=HJ1.o;have:=HK2.o;first|omega|exact Nat.le_refl _⟩,⟨by (with_reducible repeat(first|refine av ?_ _|refine aA ?_|refine au ?_ _));refine aX (cs:=#[.int .i64 ((aV l0 x16_2).f0),.int .i64 0]) ?_ 1 _ rfl;(with_reducible repeat(first|refine av ?_ _|refine aA ?_|refine au ?_ _));refine aX (cs:=#[.int .i64 0,.int .i64 0]) ?_ 0 _ rfl;(with_reducible repeat(first|refine av ?_ _|refine aA ?_|refine au ?_ _));exact BK179.o⟩,⟨by repeat(first|(with_reducible first|exact HB.o|apply ae|apply aa|apply af|refine ax ?_ GE179.o)|exact HB.o)⟩⟩
          ·rw[if_neg c11] at H
           have c11b0:decide (((aV l0 x16_2).f1) < (-10000000))=false:=decide_eq_false c11
           clear c11
           (first|rw[c11b0]|(simp only[i64_w,i32_w];rw[c11b0])|skip)
           have H':=ag.mk H
           clear H
           have hcz13_0:w9.cell? ⟨gb179,0,none⟩=some (.int .i64 0):=(ah BK179.o 0).trans rfl
           have hcz13_1:w9.cell? ⟨gb179,1,none⟩=some (.int .i64 0):=(ah BK179.o 1).trans rfl
           have hfz13_0:=ai BK179.o 0
           have hfz13_1:=ai BK179.o 1
           go_wp2
           go_meet
           case rel=>exact⟨_,(decide (((aV l0 x16_2).f1) > 10000000)),(by first|rfl|(simp;done)|(simp[*];done)|(simp[aJ];done)|(simp[aK];done)),H',⟨by have:=HJ1.o;have:=HK2.o;first|omega|exact Nat.le_refl _⟩,⟨by (with_reducible repeat(first|refine av ?_ _|refine aA ?_|refine au ?_ _));refine aX (cs:=#[.int .i64 ((aV l0 x16_2).f0),.int .i64 0]) ?_ 1 _ rfl;(with_reducible repeat(first|refine av ?_ _|refine aA ?_|refine au ?_ _));refine aX (cs:=#[.int .i64 0,.int .i64 0]) ?_ 0 _ rfl;(with_reducible repeat(first|refine av ?_ _|refine aA ?_|refine au ?_ _));exact BK179.o⟩,⟨by repeat(first|(with_reducible first|exact HB.o|apply ae|apply aa|apply af|refine ax ?_ GE179.o)|exact HB.o)⟩⟩
         case rest=>
          clear HC8
          try clear c1
          try clear p1
          try clear q1
          try clear hx1
          try clear p2
          try clear c3
          try clear c3b0
          try clear c3b1
          try clear c4
          try clear c5
          try clear c5b0
          try clear c6
          try clear c6b0
          try clear c7
          try clear c7b0
          try clear c11
          try clear c11b0
          try clear hcz10_0
          try clear hcz10_1
          try clear hcz12_0
          try clear hcz12_1
          try clear hcz13_0
          try clear hcz13_1
          try clear hfz10_0
          try clear hfz10_1
          try clear hfz12_0
          try clear hfz12_1
          try clear hfz13_0
          try clear hfz13_1
          try clear hx178_0
          try clear hx178_1
          try clear p178
          try clear p2
          try clear q178
          obtain⟨kq,x30_7,rfl,HA,HJ7,BK179,HB⟩:=hcut
          cases kq with
          |zero=>exact absurd HA.o (by simp[pylonref17_Good.j2])
          |succ kj7=>
           have H:=HA.o
           clear HA
           simp only[pylonref17_Good.j2] at H
           by_cases c14:x30_7=true
           ·subst c14
            have H1:(some false)=some r:=by rw[if_pos rfl] at H;exact H
            clear H
            have H:=H1
            clear H1
            obtain rfl:=Option.some.inj H
            go_wp2
            go_ret
            exact⟨by first|rfl|(simp[ay,az] <;> rfl)|(simp[*,ay,az] <;> rfl),by repeat(first|(with_reducible first|exact HB.o|apply ae|apply aa|apply af|refine ax ?_ GE179.o)|exact HB.o)⟩
           ·replace c14:=Bool.eq_false_iff.mpr c14
            subst c14
            have H1:(if x16_2=(wrap64 ((l0.length:Int) - 1)) then (some (((aV l0 x16_2).f0) == 0)) else (if ((aV l0 x16_2).f0)≤x3_2 then (some false) else (if ((aV l0 x16_2).f0) > 500000000000000 then (some false) else (pylonref17_Good.l0 kj7 l0 ((aV l0 x16_2).f0) (l0.length:Int) (wrap64 (x16_2+1))))))=some r:=by rw[if_neg (show ¬ (false=true) by decide)] at H;exact H
            clear H
            have H:=H1
            clear H1
            by_cases c15:x16_2=(wrap64 ((l0.length:Int) - 1))
            ·rw[if_pos c15] at H
             have c15b0:(x16_2 == (wrap64 ((l0.length:Int) - 1)))=true:=beq_iff_eq.mpr c15
             have c15b1:(x16_2 != (wrap64 ((l0.length:Int) - 1)))=false:=bne_eq_false_iff_eq.mpr c15
             clear c15
             obtain rfl:=Option.some.inj H
             have hcz16_0:wc.cell? ⟨gb179,0,none⟩=some (.int .i64 ((aV l0 x16_2).f0)):=(ah BK179.o 0).trans rfl
             have hcz16_1:wc.cell? ⟨gb179,1,none⟩=some (.int .i64 ((aV l0 x16_2).f1)):=(ah BK179.o 1).trans rfl
             have hfz16_0:=ai BK179.o 0
             have hfz16_1:=ai BK179.o 1
             go_wp2
             go_ret
             exact⟨by first|rfl|(simp[ay,az] <;> rfl)|(simp[*,ay,az] <;> rfl),by repeat(first|(with_reducible first|exact HB.o|apply ae|apply aa|apply af|refine ax ?_ GE179.o)|exact HB.o)⟩
            ·rw[if_neg c15] at H
             have c15b0:(x16_2 == (wrap64 ((l0.length:Int) - 1)))=false:=beq_eq_false_iff_ne.mpr c15
             have c15b1:(x16_2 != (wrap64 ((l0.length:Int) - 1)))=true:=bne_iff_ne.mpr c15
             by_cases c17:((aV l0 x16_2).f0)≤x3_2
             ·rw[if_pos c17] at H
              have c17b0:decide (((aV l0 x16_2).f0)≤x3_2)=true:=decide_eq_true c17
              clear c17
              obtain rfl:=Option.some.inj H
              have hcz18_0:wc.cell? ⟨gb179,0,none⟩=some (.int .i64 ((aV l0 x16_2).f0)):=(ah BK179.o 0).trans rfl
              have hcz18_1:wc.cell? ⟨gb179,1,none⟩=some (.int .i64 ((aV l0 x16_2).f1)):=(ah BK179.o 1).trans rfl
              have hfz18_0:=ai BK179.o 0
              have hfz18_1:=ai BK179.o 1
              go_wp2
              go_ret
              exact⟨by first|rfl|(simp[ay,az] <;> rfl)|(simp[*,ay,az] <;> rfl),by repeat(first|(with_reducible first|exact HB.o|apply ae|apply aa|apply af|refine ax ?_ GE179.o)|exact HB.o)⟩
             ·rw[if_neg c17] at H
              have c17b0:decide (((aV l0 x16_2).f0)≤x3_2)=false:=decide_eq_false c17
              clear c17
              by_cases c19:((aV l0 x16_2).f0) > 500000000000000
              ·rw[if_pos c19] at H
               have c19b0:decide (500000000000000 < ((aV l0 x16_2).f0))=true:=decide_eq_true c19
               clear c19
               obtain rfl:=Option.some.inj H
               have hcz20_0:wc.cell? ⟨gb179,0,none⟩=some (.int .i64 ((aV l0 x16_2).f0)):=(ah BK179.o 0).trans rfl
               have hcz20_1:wc.cell? ⟨gb179,1,none⟩=some (.int .i64 ((aV l0 x16_2).f1)):=(ah BK179.o 1).trans rfl
               have hfz20_0:=ai BK179.o 0
               have hfz20_1:=ai BK179.o 1
               go_wp2
               go_ret
               exact⟨by first|rfl|(simp[ay,az] <;> rfl)|(simp[*,ay,az] <;> rfl),by repeat(first|(with_reducible first|exact HB.o|apply ae|apply aa|apply af|refine ax ?_ GE179.o)|exact HB.o)⟩
              ·rw[if_neg c19] at H
               have c19b0:decide (500000000000000 < ((aV l0 x16_2).f0))=false:=decide_eq_false c19
               clear c19
               have H':=ag.mk H
               clear H
               have hcz21_0:wc.cell? ⟨gb179,0,none⟩=some (.int .i64 ((aV l0 x16_2).f0)):=(ah BK179.o 0).trans rfl
               have hcz21_1:wc.cell? ⟨gb179,1,none⟩=some (.int .i64 ((aV l0 x16_2).f1)):=(ah BK179.o 1).trans rfl
               have hfz21_0:=ai BK179.o 0
               have hfz21_1:=ai BK179.o 1
               go_wp2
               go_roundg kj7
               case measure=>have:=HJ1.o;have:=HK2.o;have:=HJ7.o;omega
               case rel=>exact⟨(((aV l0 x16_2).f0)),(wrap64 (x16_2+1)),(by first|rfl|(simp;done)|(simp[*];done)|(simp[aJ];done)|(simp[aK];done)),(by first|rfl|(simp;done)|(simp[*];done)|(simp[aJ];done)|(simp[aK];done)),H',⟨by have:=HJ1.o;have:=HK2.o;have:=HJ7.o;omega⟩,⟨by repeat(first|(with_reducible first|exact HB.o|apply ae|apply aa|apply af|refine ax ?_ GE179.o)|exact HB.o)⟩⟩
        ·rw[if_neg c7] at H
         exact absurd H (by simp)
       ·rw[if_neg c6] at H
        exact absurd H (by simp)
      ·rw[if_neg c5] at H
       have c5b0:decide (x16_2 < (l0.length:Int))=false:=decide_eq_false c5
       clear c5
       obtain rfl:=Option.some.inj H
       go_wp2
       go_ret
       exact⟨by first|rfl|(simp[ay,az] <;> rfl)|(simp[*,ay,az] <;> rfl),by repeat(first|(with_reducible first|exact HB.o|apply ae|apply aa|apply af)|exact HB.o)⟩
mutual
def pylonref09_blocks.l0:Nat → List (S48) → Int → Int → Option (Bool)
 |0,_,_,_=>none
 |k+1,x0,x6,x7=>if x7 < x6 then (if 0≤x7 then (if x7 < (x0.length:Int) then ((pylonref06_Name.f k ((bu x0 x7).f0)).bind fun t181=>(if t181=true then ((pylonref17_Good.f k ((bu x0 x7).f1)).bind fun t183=>(pylonref09_blocks.j1 k x0 x7 x6 x7 (!t183))) else (pylonref09_blocks.j1 k x0 x7 x6 x7 true))) else (none)) else (none)) else (if (x0.length:Int)≥1 then (some (decide ((x0.length:Int)≤64))) else (some false))
def pylonref09_blocks.j1:Nat → List (S48) → Int → Int → Int → Bool → Option (Bool)
 |0,_,_,_,_,_=>none
 |k+1,x0,x3,x6,x7,x25=>if x25=true then (some false) else (pylonref09_blocks.l1 k x0 x3 0 x6 x7)
def pylonref09_blocks.l1:Nat → List (S48) → Int → Int → Int → Int → Option (Bool)
 |0,_,_,_,_,_=>none
 |k+1,x0,x3,x4,x6,x7=>if x4 < x3 then (if 0≤x4 then (if x4 < (x0.length:Int) then (if 0≤x3 then (if x3 < (x0.length:Int) then (if ((bu x0 x4).f0).toList=((bu x0 x3).f0).toList then (some false) else (pylonref09_blocks.l1 k x0 x3 (wrap64 (x4+1)) x6 x7)) else (none)) else (none)) else (none)) else (none)) else (pylonref09_blocks.l0 k x0 x6 (wrap64 (x7+1)))
end
def pylonref09_blocks.f (k:Nat) (l0:List (S48)):Option (Bool):=pylonref09_blocks.l0 k l0 (l0.length:Int) 0
theorem pylonref09_blocks.mono_l : ∀ k,(∀ y0 y1 y2,LeO (pylonref09_blocks.l0 k y0 y1 y2) (pylonref09_blocks.l0 (k+1) y0 y1 y2))∧(∀ y0 y1 y2 y3 y4,LeO (pylonref09_blocks.j1 k y0 y1 y2 y3 y4) (pylonref09_blocks.j1 (k+1) y0 y1 y2 y3 y4))∧(∀ y0 y1 y2 y3 y4,LeO (pylonref09_blocks.l1 k y0 y1 y2 y3 y4) (pylonref09_blocks.l1 (k+1) y0 y1 y2 y3 y4))
 |0=>⟨fun _ _ _ r h=>by simp[pylonref09_blocks.l0] at h,fun _ _ _ _ _ r h=>by simp[pylonref09_blocks.j1] at h,fun _ _ _ _ _ r h=>by simp[pylonref09_blocks.l1] at h⟩
 |k+1=>by
  obtain⟨ih0,ih1,ih2⟩:=pylonref09_blocks.mono_l k
  refine⟨?_,?_,?_⟩
  ·intro y0 y1 y2
   unfold pylonref09_blocks.l0
   repeat' first
   |(with_reducible exact ih0 _ _ _)
   |(with_reducible exact ih1 _ _ _ _ _)
   |(with_reducible exact ih2 _ _ _ _ _)
   |(with_reducible exact pylonref06_Name.mono _ _)
   |(with_reducible exact pylonref17_Good.mono _ _)
   |(with_reducible exact LeO.refl _)
   |(with_reducible exact LeO.none _)
   |(with_reducible refine LeO.ite ?_ ?_)
   |(with_reducible refine LeO.bind ?_ (fun _=>?_))
   |exact ih0 _ _ _
   |exact ih1 _ _ _ _ _
   |exact ih2 _ _ _ _ _
   |exact pylonref06_Name.mono _ _
   |exact pylonref17_Good.mono _ _
   |exact LeO.none _
   |refine LeO.ite ?_ ?_
   |refine LeO.bind ?_ (fun _=>?_)
  ·intro y0 y1 y2 y3 y4
   unfold pylonref09_blocks.j1
   repeat' first
   |(with_reducible exact ih0 _ _ _)
   |(with_reducible exact ih1 _ _ _ _ _)
   |(with_reducible exact ih2 _ _ _ _ _)
   |(with_reducible exact pylonref06_Name.mono _ _)
   |(with_reducible exact pylonref17_Good.mono _ _)
   |(with_reducible exact LeO.refl _)
   |(with_reducible exact LeO.none _)
   |(with_reducible refine LeO.ite ?_ ?_)
   |(with_reducible refine LeO.bind ?_ (fun _=>?_))
   |exact ih0 _ _ _
   |exact ih1 _ _ _ _ _
   |exact ih2 _ _ _ _ _
   |exact pylonref06_Name.mono _ _
   |exact pylonref17_Good.mono _ _
   |exact LeO.none _
   |refine LeO.ite ?_ ?_
   |refine LeO.bind ?_ (fun _=>?_)
  ·intro y0 y1 y2 y3 y4
   unfold pylonref09_blocks.l1
   repeat' first
   |(with_reducible exact ih0 _ _ _)
   |(with_reducible exact ih1 _ _ _ _ _)
   |(with_reducible exact ih2 _ _ _ _ _)
   |(with_reducible exact pylonref06_Name.mono _ _)
   |(with_reducible exact pylonref17_Good.mono _ _)
   |(with_reducible exact LeO.refl _)
   |(with_reducible exact LeO.none _)
   |(with_reducible refine LeO.ite ?_ ?_)
   |(with_reducible refine LeO.bind ?_ (fun _=>?_))
   |exact ih0 _ _ _
   |exact ih1 _ _ _ _ _
   |exact ih2 _ _ _ _ _
   |exact pylonref06_Name.mono _ _
   |exact pylonref17_Good.mono _ _
   |exact LeO.none _
   |refine LeO.ite ?_ ?_
   |refine LeO.bind ?_ (fun _=>?_)
theorem pylonref09_blocks.mono : ∀ a0 k,LeO (pylonref09_blocks.f k a0) (pylonref09_blocks.f (k+1) a0):=by
 intro a0 k
 obtain⟨ih0,ih1,ih2⟩:=pylonref09_blocks.mono_l k
 unfold pylonref09_blocks.f
 repeat' first
   |(with_reducible exact ih0 _ _ _)
   |(with_reducible exact ih1 _ _ _ _ _)
   |(with_reducible exact ih2 _ _ _ _ _)
   |(with_reducible exact pylonref06_Name.mono _ _)
   |(with_reducible exact pylonref17_Good.mono _ _)
   |(with_reducible exact LeO.refl _)
   |(with_reducible exact LeO.none _)
   |(with_reducible refine LeO.ite ?_ ?_)
   |(with_reducible refine LeO.bind ?_ (fun _=>?_))
   |exact ih0 _ _ _
   |exact ih1 _ _ _ _ _
   |exact ih2 _ _ _ _ _
   |exact pylonref06_Name.mono _ _
   |exact pylonref17_Good.mono _ _
   |exact LeO.none _
   |refine LeO.ite ?_ ?_
   |refine LeO.bind ?_ (fun _=>?_)
set_option maxHeartbeats 8000000 in
set_option maxRecDepth 100000 in
theorem pylonref09_blocks.calls (k:Nat) (A0:Option Addr) (c0:Nat) (l0:List (S48)) (r:Bool) (w:World) (hr0:Kd.C k48 w A0 l0.length l0) (hc0:l0.length≤c0) (h:pylonref09_blocks.f k l0=some r) :
  Calls Tryd.prog 26 #[.slice A0 l0.length c0] w fun e w'=>e = .returned (.bool r)∧Below w.heap.size w w':=by
 have HR0:=ag.mk hr0
 have HC0:=ag.mk hc0
 clear hr0 hc0
 have HB:=ag.mk (Below.refl w.heap.size w)
 have H:(pylonref09_blocks.l0 k l0 (l0.length:Int) 0)=some r:=h
 clear h
 have H':=ag.mk H
 clear H
 go_enter Tryd.func26,Tryd.ntmps26
 go_wp2
 repeat(go_quiet (fail);try go_wp2)
 go_loopg [7] k (fun kq v7 w'=>∃ (x7_1:Int),v7 = .int .i64 x7_1∧ag (pylonref09_blocks.l0 kq l0 (l0.length:Int) x7_1=some r)∧ag (kq≤k)∧ag (Below w.heap.size w w'))
 case atStart=>exact⟨(0),(by first|rfl|(simp;done)|(simp[*];done)|(simp[aJ];done)|(simp[aK];done)),H',⟨Nat.le_refl _⟩,⟨by repeat(first|(with_reducible first|exact HB.o|apply ae|apply aa|apply af)|exact HB.o)⟩⟩
 case round=>
  clear H'
  obtain⟨x7_1,rfl,HA,HK1,HB⟩:=hrel
  cases gk with
  |zero=>exact absurd HA.o (by simp[pylonref09_blocks.l0])
  |succ k1=>
   have H:=HA.o
   clear HA
   simp only[pylonref09_blocks.l0] at H
   by_cases c2:x7_1 < (l0.length:Int)
   ·rw[if_pos c2] at H
    have c2b0:decide (x7_1 < (l0.length:Int))=true:=decide_eq_true c2
    clear c2
    have HC3:=ag.mk H
    clear H
    go_upto_region 4 with (fail)
    repeat(go_quiet (fail);go_upto_region 4 with (fail))
    go_cut [25] (fun v25 wc=>∃ (kq:Nat) (x25_2:Bool),v25 = .bool x25_2∧ag (pylonref09_blocks.j1 kq l0 x7_1 (l0.length:Int) x7_1 x25_2=some r)∧ag (kq≤k1)∧ag (Below w.heap.size w wc))
    case first=>
     have H:=HC3.o
     clear HC3
     by_cases c4:0≤x7_1
     ·rw[if_pos c4] at H
      have c4b0:decide (0≤x7_1)=true:=decide_eq_true c4
      clear c4
      (first|rw[c4b0]|(simp only[i64_w,i32_w];rw[c4b0])|skip)
      by_cases c5:x7_1 < (l0.length:Int)
      ·rw[if_pos c5] at H
       have c5b0:decide (x7_1 < (l0.length:Int))=true:=decide_eq_true c5
       clear c5
       replace H:=Option.bind_eq_some_iff.mp H
       obtain⟨t181,A60,H⟩:=H
       replace H:(if t181=true then ((pylonref17_Good.f k1 ((bu l0 x7_1).f1)).bind fun t183=>(pylonref09_blocks.j1 k1 l0 x7_1 (l0.length:Int) x7_1 (!t183))) else (pylonref09_blocks.j1 k1 l0 x7_1 (l0.length:Int) x7_1 true))=some r:=H
       have A6:=ag.mk A60
       clear A60
       by_cases c7:t181=true
       ·subst c7
        have H1:((pylonref17_Good.f k1 ((bu l0 x7_1).f1)).bind fun t183=>(pylonref09_blocks.j1 k1 l0 x7_1 (l0.length:Int) x7_1 (!t183)))=some r:=by rw[if_pos rfl] at H;exact H
        clear H
        have H:=H1
        clear H1
        replace H:=Option.bind_eq_some_iff.mp H
        obtain⟨t183,A80,H⟩:=H
        replace H:(pylonref09_blocks.j1 k1 l0 x7_1 (l0.length:Int) x7_1 (!t183))=some r:=H
        have A8:=ag.mk A80
        clear A80
        have H':=ag.mk H
        clear H
        have p180:0≤(x7_1:Int):=of_decide_eq_true (by first|(with_reducible assumption)|assumption)
        have q180:x7_1 < (l0.length:Int):=of_decide_eq_true (by first|(with_reducible assumption)|assumption)
        obtain⟨ad180,A180_1,c180_1,e180,hx180_0,hx180_1,hl180_1,hi180_1⟩:=ek HR0.o x7_1 p180 q180
        cases e180
        replace hx180_0:=cqq HB.o hx180_0
        replace hx180_1:=cqq HB.o hx180_1
        have HR180_1:=ag.mk hi180_1
        have HC180_1:=ag.mk hl180_1
        clear hi180_1 hl180_1
        replace p180:=eq_true p180
        replace q180:=eq_true q180
        go_wp2_with (first|(go_at_call 21;(with_reducible refine(pylonref06_Name.calls k1 ((bu l0 x7_1).f0) true _ A6.o).mono ?_);rintro e w' ⟨rfl,⟨nd,rfl⟩⟩;(try first|exact⟨rfl,_,World.drewN_drewN _ _ _⟩|exact⟨rfl,_,Eq.trans (World.drewN_drewN _ _ _) (congrArg (World.drewN _) (Nat.add_assoc _ _ _))⟩);have p182:0≤(x7_1:Int):=of_decide_eq_true (by first|(with_reducible assumption)|assumption);have q182:x7_1 < (l0.length:Int):=of_decide_eq_true (by first|(with_reducible assumption)|assumption);obtain⟨ad182,A182_1,c182_1,e182,hx182_0,hx182_1,hl182_1,hi182_1⟩:=ek HR0.o x7_1 p182 q182;obtain rfl:ad180=ad182:=(by injection e182);replace hx182_0:=cqq HB.o hx182_0;replace hx182_1:=cqq HB.o hx182_1;have HR182_1:=ag.mk hi182_1;have HC182_1:=ag.mk hl182_1;clear hi182_1 hl182_1;replace p182:=eq_true p182;replace q182:=eq_true q182;have ea_:=Option.some.inj (hx180_1.symm.trans hx182_1);injection ea_ with ea_ en_ ec_;subst ea_;subst ec_;clear en_)|(go_at_call 41;(with_reducible refine(pylonref17_Good.calls k1 _ _ ((bu l0 x7_1).f1) t183 _ ?side1 ?side2 A8.o).mono ?_);(case side1=>repeat(first|exact(Kd.bg HR182_1.o (by repeat(first|(with_reducible first|exact HB.o|apply ae|apply aa|apply af)|exact HB.o)))|(with_reducible refine Kd.C_alloc ?_ _)|(with_reducible refine Kd.C_drewN ?_ _)|(with_reducible refine Kd.C_drew ?_)));(case side2=>exact HC182_1.o);rintro e w9 ⟨rfl,hb⟩;have n0_:=ag.mk (aj (by repeat(first|(with_reducible first|exact HB.o|apply ae|apply aa|apply af)|exact HB.o)) hb);clear HB;have HB:=n0_;clear n0_;(try clear hb);(try clear hb2);(try clear hk);(try clear hi)))
        repeat(go_quiet (first|(go_at_call 21;(with_reducible refine(pylonref06_Name.calls k1 ((bu l0 x7_1).f0) true _ A6.o).mono ?_);rintro e w' ⟨rfl,⟨nd,rfl⟩⟩;(try first|exact⟨rfl,_,World.drewN_drewN _ _ _⟩|exact⟨rfl,_,Eq.trans (World.drewN_drewN _ _ _) (congrArg (World.drewN _) (Nat.add_assoc _ _ _))⟩);have p182:0≤(x7_1:Int):=of_decide_eq_true (by first|(with_reducible assumption)|assumption);have q182:x7_1 < (l0.length:Int):=of_decide_eq_true (by first|(with_reducible assumption)|assumption);obtain⟨ad182,A182_1,c182_1,e182,hx182_0,hx182_1,hl182_1,hi182_1⟩:=ek HR0.o x7_1 p182 q182;obtain rfl:ad180=ad182:=(by injection e182);replace hx182_0:=cqq HB.o hx182_0;replace hx182_1:=cqq HB.o hx182_1;have HR182_1:=ag.mk hi182_1;have HC182_1:=ag.mk hl182_1;clear hi182_1 hl182_1;replace p182:=eq_true p182;replace q182:=eq_true q182;have ea_:=Option.some.inj (hx180_1.symm.trans hx182_1);injection ea_ with ea_ en_ ec_;subst ea_;subst ec_;clear en_)|(go_at_call 41;(with_reducible refine(pylonref17_Good.calls k1 _ _ ((bu l0 x7_1).f1) t183 _ ?side1 ?side2 A8.o).mono ?_);(case side1=>repeat(first|exact(Kd.bg HR182_1.o (by repeat(first|(with_reducible first|exact HB.o|apply ae|apply aa|apply af)|exact HB.o)))|(with_reducible refine Kd.C_alloc ?_ _)|(with_reducible refine Kd.C_drewN ?_ _)|(with_reducible refine Kd.C_drew ?_)));(case side2=>exact HC182_1.o);rintro e w9 ⟨rfl,hb⟩;have n0_:=ag.mk (aj (by repeat(first|(with_reducible first|exact HB.o|apply ae|apply aa|apply af)|exact HB.o)) hb);clear HB;have HB:=n0_;clear n0_;(try clear hb);(try clear hb2);(try clear hk);(try clear hi)));try go_wp2_with (first|(go_at_call 21;(with_reducible refine(pylonref06_Name.calls k1 ((bu l0 x7_1).f0) true _ A6.o).mono ?_);rintro e w' ⟨rfl,⟨nd,rfl⟩⟩;(try first|exact⟨rfl,_,World.drewN_drewN _ _ _⟩|exact⟨rfl,_,Eq.trans (World.drewN_drewN _ _ _) (congrArg (World.drewN _) (Nat.add_assoc _ _ _))⟩);have p182:0≤(x7_1:Int):=of_decide_eq_true (by first|(with_reducible assumption)|assumption);have q182:x7_1 < (l0.length:Int):=of_decide_eq_true (by first|(with_reducible assumption)|assumption);obtain⟨ad182,A182_1,c182_1,e182,hx182_0,hx182_1,hl182_1,hi182_1⟩:=ek HR0.o x7_1 p182 q182;obtain rfl:ad180=ad182:=(by injection e182);replace hx182_0:=cqq HB.o hx182_0;replace hx182_1:=cqq HB.o hx182_1;have HR182_1:=ag.mk hi182_1;have HC182_1:=ag.mk hl182_1;clear hi182_1 hl182_1;replace p182:=eq_true p182;replace q182:=eq_true q182;have ea_:=Option.some.inj (hx180_1.symm.trans hx182_1);injection ea_ with ea_ en_ ec_;subst ea_;subst ec_;clear en_)|(go_at_call 41;(with_reducible refine(pylonref17_Good.calls k1 _ _ ((bu l0 x7_1).f1) t183 _ ?side1 ?side2 A8.o).mono ?_);(case side1=>repeat(first|exact(Kd.bg HR182_1.o (by repeat(first|(with_reducible first|exact HB.o|apply ae|apply aa|apply af)|exact HB.o)))|(with_reducible refine Kd.C_alloc ?_ _)|(with_reducible refine Kd.C_drewN ?_ _)|(with_reducible refine Kd.C_drew ?_)));(case side2=>exact HC182_1.o);rintro e w9 ⟨rfl,hb⟩;have n0_:=ag.mk (aj (by repeat(first|(with_reducible first|exact HB.o|apply ae|apply aa|apply af)|exact HB.o)) hb);clear HB;have HB:=n0_;clear n0_;(try clear hb);(try clear hb2);(try clear hk);(try clear hi))))
        go_meet
        case rel=>exact⟨_,(!t183),(by first|rfl|(simp;done)|(simp[*];done)|(simp[aJ];done)|(simp[aK];done)),H',⟨by have:=HK1.o;first|omega|exact Nat.le_refl _⟩,⟨by repeat(first|(with_reducible first|exact HB.o|apply ae|apply aa|apply af)|exact HB.o)⟩⟩
       ·replace c7:=Bool.eq_false_iff.mpr c7
        subst c7
        have H1:(pylonref09_blocks.j1 k1 l0 x7_1 (l0.length:Int) x7_1 true)=some r:=by rw[if_neg (show ¬ (false=true) by decide)] at H;exact H
        clear H
        have H:=H1
        clear H1
        have H':=ag.mk H
        clear H
        have p180:0≤(x7_1:Int):=of_decide_eq_true (by first|(with_reducible assumption)|assumption)
        have q180:x7_1 < (l0.length:Int):=of_decide_eq_true (by first|(with_reducible assumption)|assumption)
        obtain⟨ad180,A180_1,c180_1,e180,hx180_0,hx180_1,hl180_1,hi180_1⟩:=ek HR0.o x7_1 p180 q180
        cases e180
        replace hx180_0:=cqq HB.o hx180_0
        replace hx180_1:=cqq HB.o hx180_1
        have HR180_1:=ag.mk hi180_1
        have HC180_1:=ag.mk hl180_1
        clear hi180_1 hl180_1
        replace p180:=eq_true p180
        replace q180:=eq_true q180
        go_wp2_with (first|(go_at_call 21;(with_reducible refine(pylonref06_Name.calls k1 ((bu l0 x7_1).f0) false _ A6.o).mono ?_);rintro e w' ⟨rfl,⟨nd,rfl⟩⟩;(try first|exact⟨rfl,_,World.drewN_drewN _ _ _⟩|exact⟨rfl,_,Eq.trans (World.drewN_drewN _ _ _) (congrArg (World.drewN _) (Nat.add_assoc _ _ _))⟩)))
        repeat(go_quiet (first|(go_at_call 21;(with_reducible refine(pylonref06_Name.calls k1 ((bu l0 x7_1).f0) false _ A6.o).mono ?_);rintro e w' ⟨rfl,⟨nd,rfl⟩⟩;(try first|exact⟨rfl,_,World.drewN_drewN _ _ _⟩|exact⟨rfl,_,Eq.trans (World.drewN_drewN _ _ _) (congrArg (World.drewN _) (Nat.add_assoc _ _ _))⟩)));try go_wp2_with (first|(go_at_call 21;(with_reducible refine(pylonref06_Name.calls k1 ((bu l0 x7_1).f0) false _ A6.o).mono ?_);rintro e w' ⟨rfl,⟨nd,rfl⟩⟩;(try first|exact⟨rfl,_,World.drewN_drewN _ _ _⟩|exact⟨rfl,_,Eq.trans (World.drewN_drewN _ _ _) (congrArg (World.drewN _) (Nat.add_assoc _ _ _))⟩))))
        go_meet
        case rel=>exact⟨_,(true),(by first|rfl|(simp;done)|(simp[*];done)|(simp[aJ];done)|(simp[aK];done)),H',⟨by have:=HK1.o;first|omega|exact Nat.le_refl _⟩,⟨by repeat(first|(with_reducible first|exact HB.o|apply ae|apply aa|apply af)|exact HB.o)⟩⟩
      ·rw[if_neg c5] at H
       exact absurd H (by simp)
     ·rw[if_neg c4] at H
      exact absurd H (by simp)
    case rest=>
     clear HC3
     try clear c1
     try clear p1
     try clear q1
     try clear hx1
     try clear c2
     try clear c2b0
     try clear p2
     try clear c4
     try clear c4b0
     try clear c5
     try clear c5b0
     try clear c7
     try clear hx180_0
     try clear hx180_1
     try clear hx182_0
     try clear hx182_1
     try clear p180
     try clear p182
     try clear q180
     try clear q182
     obtain⟨kq,x25_2,rfl,HA,HJ2,HB⟩:=hcut
     cases kq with
     |zero=>exact absurd HA.o (by simp[pylonref09_blocks.j1])
     |succ kj2=>
      have H:=HA.o
      clear HA
      simp only[pylonref09_blocks.j1] at H
      by_cases c10:x25_2=true
      ·subst c10
       have H1:(some false)=some r:=by rw[if_pos rfl] at H;exact H
       clear H
       have H:=H1
       clear H1
       obtain rfl:=Option.some.inj H
       go_wp2
       repeat(go_quiet (fail);try go_wp2)
       go_ret
       exact⟨by first|rfl|(simp[ay,az] <;> rfl)|(simp[*,ay,az] <;> rfl),by repeat(first|(with_reducible first|exact HB.o|apply ae|apply aa|apply af)|exact HB.o)⟩
      ·replace c10:=Bool.eq_false_iff.mpr c10
       subst c10
       have H1:(pylonref09_blocks.l1 kj2 l0 x7_1 0 (l0.length:Int) x7_1)=some r:=by rw[if_neg (show ¬ (false=true) by decide)] at H;exact H
       clear H
       have H:=H1
       clear H1
       have H':=ag.mk H
       clear H
       go_wp2
       repeat(go_quiet (fail);try go_wp2)
       go_loopg [4] kj2 (fun kq v4 w'=>∃ (x4_3:Int),v4 = .int .i64 x4_3∧ag (pylonref09_blocks.l1 kq l0 x7_1 x4_3 (l0.length:Int) x7_1=some r)∧ag (kq≤kj2)∧ag (Below w.heap.size w w'))
       case atStart=>exact⟨(0),(by first|rfl|(simp;done)|(simp[*];done)|(simp[aJ];done)|(simp[aK];done)),H',⟨Nat.le_refl _⟩,⟨by repeat(first|(with_reducible first|exact HB.o|apply ae|apply aa|apply af)|exact HB.o)⟩⟩
       case round=>
        clear H'
        try clear c1
        try clear p1
        try clear q1
        try clear hx1
        try clear c2
        try clear c2b0
        try clear p2
        try clear c4
        try clear c4b0
        try clear c5
        try clear c5b0
        try clear c7
        try clear c10
        try clear hx180_0
        try clear hx180_1
        try clear hx182_0
        try clear hx182_1
        try clear p1
        try clear p180
        try clear p182
        try clear p2
        try clear q1
        try clear q180
        try clear q182
        obtain⟨x4_3,rfl,HA,HK3,HB⟩:=hrel
        cases gk with
        |zero=>exact absurd HA.o (by simp[pylonref09_blocks.l1])
        |succ k3=>
         have H:=HA.o
         clear HA
         simp only[pylonref09_blocks.l1] at H
         by_cases c11:x4_3 < x7_1
         ·rw[if_pos c11] at H
          have c11b0:decide (x4_3 < x7_1)=true:=decide_eq_true c11
          clear c11
          by_cases c12:0≤x4_3
          ·rw[if_pos c12] at H
           have c12b0:decide (0≤x4_3)=true:=decide_eq_true c12
           clear c12
           by_cases c13:x4_3 < (l0.length:Int)
           ·rw[if_pos c13] at H
            have c13b0:decide (x4_3 < (l0.length:Int))=true:=decide_eq_true c13
            clear c13
            by_cases c14:0≤x7_1
            ·rw[if_pos c14] at H
             have c14b0:decide (0≤x7_1)=true:=decide_eq_true c14
             clear c14
             by_cases c15:x7_1 < (l0.length:Int)
             ·rw[if_pos c15] at H
              have c15b0:decide (x7_1 < (l0.length:Int))=true:=decide_eq_true c15
              clear c15
              by_cases c16:((bu l0 x4_3).f0).toList=((bu l0 x7_1).f0).toList
              ·rw[if_pos c16] at H
               have c16b0:(((bu l0 x4_3).f0).toList == ((bu l0 x7_1).f0).toList)=true:=beq_iff_eq.mpr c16
               have c16b1:(((bu l0 x4_3).f0).toList != ((bu l0 x7_1).f0).toList)=false:=bne_eq_false_iff_eq.mpr c16
               clear c16
               obtain rfl:=Option.some.inj H
               have p184:0≤(x4_3:Int):=of_decide_eq_true (by first|(with_reducible assumption)|assumption)
               have q184:x4_3 < (l0.length:Int):=of_decide_eq_true (by first|(with_reducible assumption)|assumption)
               obtain⟨ad184,A184_1,c184_1,e184,hx184_0,hx184_1,hl184_1,hi184_1⟩:=ek HR0.o x4_3 p184 q184
               cases e184
               replace hx184_0:=cqq HB.o hx184_0
               replace hx184_1:=cqq HB.o hx184_1
               have HR184_1:=ag.mk hi184_1
               have HC184_1:=ag.mk hl184_1
               clear hi184_1 hl184_1
               replace p184:=eq_true p184
               replace q184:=eq_true q184
               have p185:0≤(x7_1:Int):=of_decide_eq_true (by first|(with_reducible assumption)|assumption)
               have q185:x7_1 < (l0.length:Int):=of_decide_eq_true (by first|(with_reducible assumption)|assumption)
               obtain⟨ad185,A185_1,c185_1,e185,hx185_0,hx185_1,hl185_1,hi185_1⟩:=ek HR0.o x7_1 p185 q185
               obtain rfl:ad184=ad185:=(by injection e185)
               replace hx185_0:=cqq HB.o hx185_0
               replace hx185_1:=cqq HB.o hx185_1
               have HR185_1:=ag.mk hi185_1
               have HC185_1:=ag.mk hl185_1
               clear hi185_1 hl185_1
               replace p185:=eq_true p185
               replace q185:=eq_true q185
               go_wp2
               repeat(go_quiet (fail);try go_wp2)
               go_ret
               exact⟨by first|rfl|(simp[ay,az] <;> rfl)|(simp[*,ay,az] <;> rfl),by repeat(first|(with_reducible first|exact HB.o|apply ae|apply aa|apply af)|exact HB.o)⟩
              ·rw[if_neg c16] at H
               have c16b0:(((bu l0 x4_3).f0).toList == ((bu l0 x7_1).f0).toList)=false:=beq_eq_false_iff_ne.mpr c16
               have c16b1:(((bu l0 x4_3).f0).toList != ((bu l0 x7_1).f0).toList)=true:=bne_iff_ne.mpr c16
               have H':=ag.mk H
               clear H
               have p184:0≤(x4_3:Int):=of_decide_eq_true (by first|(with_reducible assumption)|assumption)
               have q184:x4_3 < (l0.length:Int):=of_decide_eq_true (by first|(with_reducible assumption)|assumption)
               obtain⟨ad184,A184_1,c184_1,e184,hx184_0,hx184_1,hl184_1,hi184_1⟩:=ek HR0.o x4_3 p184 q184
               cases e184
               replace hx184_0:=cqq HB.o hx184_0
               replace hx184_1:=cqq HB.o hx184_1
               have HR184_1:=ag.mk hi184_1
               have HC184_1:=ag.mk hl184_1
               clear hi184_1 hl184_1
               replace p184:=eq_true p184
               replace q184:=eq_true q184
               have p185:0≤(x7_1:Int):=of_decide_eq_true (by first|(with_reducible assumption)|assumption)
               have q185:x7_1 < (l0.length:Int):=of_decide_eq_true (by first|(with_reducible assumption)|assumption)
               obtain⟨ad185,A185_1,c185_1,e185,hx185_0,hx185_1,hl185_1,hi185_1⟩:=ek HR0.o x7_1 p185 q185
               obtain rfl:ad184=ad185:=(by injection e185)
               replace hx185_0:=cqq HB.o hx185_0
               replace hx185_1:=cqq HB.o hx185_1
               have HR185_1:=ag.mk hi185_1
               have HC185_1:=ag.mk hl185_1
               clear hi185_1 hl185_1
               replace p185:=eq_true p185
               replace q185:=eq_true q185
               go_wp2
               repeat(go_quiet (fail);try go_wp2)
               go_roundg k3
               case measure=>have:=HK1.o;have:=HJ2.o;have:=HK3.o;omega
               case rel=>exact⟨(wrap64 (x4_3+1)),(by first|rfl|(simp;done)|(simp[*];done)|(simp[aJ];done)|(simp[aK];done)),H',⟨by have:=HK1.o;have:=HJ2.o;have:=HK3.o;omega⟩,⟨by repeat(first|(with_reducible first|exact HB.o|apply ae|apply aa|apply af)|exact HB.o)⟩⟩
             ·rw[if_neg c15] at H
              exact absurd H (by simp)
            ·rw[if_neg c14] at H
             exact absurd H (by simp)
           ·rw[if_neg c13] at H
            exact absurd H (by simp)
          ·rw[if_neg c12] at H
           exact absurd H (by simp)
         ·rw[if_neg c11] at H
          have c11b0:decide (x4_3 < x7_1)=false:=decide_eq_false c11
          clear c11
          have H':=ag.mk H
          clear H
          go_wp2
          repeat(go_quiet (fail);try go_wp2)
          go_roundg k3
          case measure=>have:=HK1.o;have:=HJ2.o;have:=HK3.o;omega
          case rel=>exact⟨(wrap64 (x7_1+1)),(by first|rfl|(simp;done)|(simp[*];done)|(simp[aJ];done)|(simp[aK];done)),H',⟨by have:=HK1.o;have:=HJ2.o;have:=HK3.o;omega⟩,⟨by repeat(first|(with_reducible first|exact HB.o|apply ae|apply aa|apply af)|exact HB.o)⟩⟩
   ·rw[if_neg c2] at H
    have c2b0:decide (x7_1 < (l0.length:Int))=false:=decide_eq_false c2
    clear c2
    by_cases c17:(l0.length:Int)≥1
    ·rw[if_pos c17] at H
     have c17b0:decide (1≤(l0.length:Int))=true:=decide_eq_true c17
     have c17b1:decide (1≤l0.length)=true:=decide_eq_true (by omega)
     clear c17
     obtain rfl:=Option.some.inj H
     go_wp2
     repeat(go_quiet (fail);try go_wp2)
     go_ret
     exact⟨by first|rfl|(simp[ay,az] <;> rfl)|(simp[*,ay,az] <;> rfl),by repeat(first|(with_reducible first|exact HB.o|apply ae|apply aa|apply af)|exact HB.o)⟩
    ·rw[if_neg c17] at H
     have c17b0:decide (1≤(l0.length:Int))=false:=decide_eq_false c17
     have c17b1:decide (1≤l0.length)=false:=decide_eq_false (by omega)
     clear c17
     obtain rfl:=Option.some.inj H
     go_wp2
     repeat(go_quiet (fail);try go_wp2)
     go_ret
     exact⟨by first|rfl|(simp[ay,az] <;> rfl)|(simp[*,ay,az] <;> rfl),by repeat(first|(with_reducible first|exact HB.o|apply ae|apply aa|apply af)|exact HB.o)⟩
def pylonref09_within.f (a0:Int) (a1:Int) (a2:Int):Option (Bool):=if a0≥a1 then (some (decide (a0≤a2))) else (some false)
set_option maxHeartbeats 8000000 in
set_option maxRecDepth 100000 in
theorem pylonref09_within.calls (a0:Int) (a1:Int) (a2:Int) (r:Bool) (w:World) (h:pylonref09_within.f a0 a1 a2=some r) :
  Calls Tryd.prog 23 #[.int .i64 a0,.int .i64 a1,.int .i64 a2] w fun e w'=>e = .returned (.bool r)∧aQ w w':=by
 have H:(if a0≥a1 then (some (decide (a0≤a2))) else (some false))=some r:=h
 clear h
 by_cases c4:a0≥a1
 ·rw[if_pos c4] at H
  have c4b0:decide (a1≤a0)=true:=decide_eq_true c4
  clear c4
  obtain rfl:=Option.some.inj H
  go_enter Tryd.func23,Tryd.ntmps23
  go_wp2
  go_ret
  exact⟨by first|rfl|(simp;done)|(simp[*];done),by repeat(first|exact aQ.refl _|apply aQ.step)⟩
 ·rw[if_neg c4] at H
  have c4b0:decide (a1≤a0)=false:=decide_eq_false c4
  clear c4
  obtain rfl:=Option.some.inj H
  go_enter Tryd.func23,Tryd.ntmps23
  go_wp2
  go_ret
  exact⟨by first|rfl|(simp;done)|(simp[*];done),by repeat(first|exact aQ.refl _|apply aQ.step)⟩
def pylonref04_good.f (a0_0:Int) (a0_1:Int) (a0_2:Int) (a0_3:Int):Option (Bool):=if a0_0≥1 then (if a0_0≤12 then (if a0_1≥1 then (if a0_1≤5 then (if a0_2≥0 then (if a0_2≤6 then (if a0_3≥60 then (some (decide (a0_3≤1380))) else (some false)) else (some false)) else (some false)) else (some false)) else (some false)) else (some false)) else (some false)
set_option maxHeartbeats 8000000 in
set_option maxRecDepth 100000 in
theorem pylonref04_good.calls (a0_0:Int) (a0_1:Int) (a0_2:Int) (a0_3:Int) (r:Bool) (w:World) (h:pylonref04_good.f a0_0 a0_1 a0_2 a0_3=some r) :
  Calls Tryd.prog 39 #[.agg #[.int .i64 a0_0,.int .i64 a0_1,.int .i64 a0_2,.int .i64 a0_3]] w fun e w'=>e = .returned (.bool r)∧Below w.heap.size w w':=by
 have hu23:=Tryd.underlying23
 have HB:=ag.mk (Below.refl w.heap.size w)
 have H:(if a0_0≥1 then (if a0_0≤12 then (if a0_1≥1 then (if a0_1≤5 then (if a0_2≥0 then (if a0_2≤6 then (if a0_3≥60 then (some (decide (a0_3≤1380))) else (some false)) else (some false)) else (some false)) else (some false)) else (some false)) else (some false)) else (some false))=some r:=h
 clear h
 by_cases c2:a0_0≥1
 ·rw[if_pos c2] at H
  have c2b0:decide (1≤a0_0)=true:=decide_eq_true c2
  clear c2
  by_cases c3:a0_0≤12
  ·rw[if_pos c3] at H
   have c3b0:decide (a0_0≤12)=true:=decide_eq_true c3
   clear c3
   by_cases c4:a0_1≥1
   ·rw[if_pos c4] at H
    have c4b0:decide (1≤a0_1)=true:=decide_eq_true c4
    clear c4
    by_cases c5:a0_1≤5
    ·rw[if_pos c5] at H
     have c5b0:decide (a0_1≤5)=true:=decide_eq_true c5
     clear c5
     by_cases c6:a0_2≥0
     ·rw[if_pos c6] at H
      have c6b0:decide (0≤a0_2)=true:=decide_eq_true c6
      clear c6
      by_cases c7:a0_2≤6
      ·rw[if_pos c7] at H
       have c7b0:decide (a0_2≤6)=true:=decide_eq_true c7
       clear c7
       by_cases c8:a0_3≥60
       ·rw[if_pos c8] at H
        have c8b0:decide (60≤a0_3)=true:=decide_eq_true c8
        clear c8
        obtain rfl:=Option.some.inj H
        go_enter Tryd.func39,Tryd.ntmps39
        go_wp2_with (first|((with_reducible refine aI (N:=1) rfl ?_);refine aH ?hg (N:=1) ?hd (cs:=#[.int .i64 a0_0,.int .i64 a0_1,.int .i64 a0_2,.int .i64 a0_3]) (t:=23) ?hr ?_;(case hd=>rfl);(case hg=>rfl);(case hr=>first|(go_simp;done)|(go_simp;rfl));intro gb186 hg w9 hbox hb;have n0_:=ag.mk (aj (by repeat(first|(with_reducible first|exact HB.o|apply ae|apply aa|apply af)|exact HB.o)) hb);have n1_:=ag.mk (hbox);have n2_:=ag.mk ((by rw[hg];exact(ak (by repeat(first|(with_reducible first|exact HB.o|apply ae|apply aa|apply af)|exact HB.o))):w.heap.size≤gb186));have n3_:=ag.mk ((by rw[hg];exact(ak (by repeat(first|(with_reducible first|exact HB.o|apply ae|apply aa|apply af)|exact HB.o))):w.heap.size≤gb186));clear HB;have HB:=n0_;have BK186:=n1_;have GW186:=n2_;have GE186:=n3_;clear n0_ n1_ n2_ n3_;clear hb hbox hg;have hcz10_0:w9.cell? ⟨gb186,0,none⟩=some (.int .i64 a0_0):=(ah BK186.o 0).trans rfl;have hcz10_1:w9.cell? ⟨gb186,1,none⟩=some (.int .i64 a0_1):=(ah BK186.o 1).trans rfl;have hcz10_2:w9.cell? ⟨gb186,2,none⟩=some (.int .i64 a0_2):=(ah BK186.o 2).trans rfl;have hcz10_3:w9.cell? ⟨gb186,3,none⟩=some (.int .i64 a0_3):=(ah BK186.o 3).trans rfl;have hfz10_0:=ai BK186.o 0;have hfz10_1:=ai BK186.o 1;have hfz10_2:=ai BK186.o 2;have hfz10_3:=ai BK186.o 3))
        go_ret
        exact⟨by first|rfl|(simp[ay,az] <;> rfl)|(simp[*,ay,az] <;> rfl),by repeat(first|(with_reducible first|exact HB.o|apply ae|apply aa|apply af|refine ax ?_ GE186.o)|exact HB.o)⟩
       ·rw[if_neg c8] at H
        have c8b0:decide (60≤a0_3)=false:=decide_eq_false c8
        clear c8
        obtain rfl:=Option.some.inj H
        go_enter Tryd.func39,Tryd.ntmps39
        go_wp2_with (first|((with_reducible refine aI (N:=1) rfl ?_);refine aH ?hg (N:=1) ?hd (cs:=#[.int .i64 a0_0,.int .i64 a0_1,.int .i64 a0_2,.int .i64 a0_3]) (t:=23) ?hr ?_;(case hd=>rfl);(case hg=>rfl);(case hr=>first|(go_simp;done)|(go_simp;rfl));intro gb186 hg w11 hbox hb;have n0_:=ag.mk (aj (by repeat(first|(with_reducible first|exact HB.o|apply ae|apply aa|apply af)|exact HB.o)) hb);have n1_:=ag.mk (hbox);have n2_:=ag.mk ((by rw[hg];exact(ak (by repeat(first|(with_reducible first|exact HB.o|apply ae|apply aa|apply af)|exact HB.o))):w.heap.size≤gb186));have n3_:=ag.mk ((by rw[hg];exact(ak (by repeat(first|(with_reducible first|exact HB.o|apply ae|apply aa|apply af)|exact HB.o))):w.heap.size≤gb186));clear HB;have HB:=n0_;have BK186:=n1_;have GW186:=n2_;have GE186:=n3_;clear n0_ n1_ n2_ n3_;clear hb hbox hg;have hcz12_0:w11.cell? ⟨gb186,0,none⟩=some (.int .i64 a0_0):=(ah BK186.o 0).trans rfl;have hcz12_1:w11.cell? ⟨gb186,1,none⟩=some (.int .i64 a0_1):=(ah BK186.o 1).trans rfl;have hcz12_2:w11.cell? ⟨gb186,2,none⟩=some (.int .i64 a0_2):=(ah BK186.o 2).trans rfl;have hcz12_3:w11.cell? ⟨gb186,3,none⟩=some (.int .i64 a0_3):=(ah BK186.o 3).trans rfl;have hfz12_0:=ai BK186.o 0;have hfz12_1:=ai BK186.o 1;have hfz12_2:=ai BK186.o 2;have hfz12_3:=ai BK186.o 3))
        go_ret
        exact⟨by first|rfl|(simp[ay,az] <;> rfl)|(simp[*,ay,az] <;> rfl),by repeat(first|(with_reducible first|exact HB.o|apply ae|apply aa|apply af|refine ax ?_ GE186.o)|exact HB.o)⟩
      ·rw[if_neg c7] at H
       have c7b0:decide (a0_2≤6)=false:=decide_eq_false c7
       clear c7
       obtain rfl:=Option.some.inj H
       go_enter Tryd.func39,Tryd.ntmps39
       go_wp2_with (first|((with_reducible refine aI (N:=1) rfl ?_);refine aH ?hg (N:=1) ?hd (cs:=#[.int .i64 a0_0,.int .i64 a0_1,.int .i64 a0_2,.int .i64 a0_3]) (t:=23) ?hr ?_;(case hd=>rfl);(case hg=>rfl);(case hr=>first|(go_simp;done)|(go_simp;rfl));intro gb186 hg w13 hbox hb;have n0_:=ag.mk (aj (by repeat(first|(with_reducible first|exact HB.o|apply ae|apply aa|apply af)|exact HB.o)) hb);have n1_:=ag.mk (hbox);have n2_:=ag.mk ((by rw[hg];exact(ak (by repeat(first|(with_reducible first|exact HB.o|apply ae|apply aa|apply af)|exact HB.o))):w.heap.size≤gb186));have n3_:=ag.mk ((by rw[hg];exact(ak (by repeat(first|(with_reducible first|exact HB.o|apply ae|apply aa|apply af)|exact HB.o))):w.heap.size≤gb186));clear HB;have HB:=n0_;have BK186:=n1_;have GW186:=n2_;have GE186:=n3_;clear n0_ n1_ n2_ n3_;clear hb hbox hg;have hcz14_0:w13.cell? ⟨gb186,0,none⟩=some (.int .i64 a0_0):=(ah BK186.o 0).trans rfl;have hcz14_1:w13.cell? ⟨gb186,1,none⟩=some (.int .i64 a0_1):=(ah BK186.o 1).trans rfl;have hcz14_2:w13.cell? ⟨gb186,2,none⟩=some (.int .i64 a0_2):=(ah BK186.o 2).trans rfl;have hcz14_3:w13.cell? ⟨gb186,3,none⟩=some (.int .i64 a0_3):=(ah BK186.o 3).trans rfl;have hfz14_0:=ai BK186.o 0;have hfz14_1:=ai BK186.o 1;have hfz14_2:=ai BK186.o 2;have hfz14_3:=ai BK186.o 3))
       go_ret
       exact⟨by first|rfl|(simp[ay,az] <;> rfl)|(simp[*,ay,az] <;> rfl),by repeat(first|(with_reducible first|exact HB.o|apply ae|apply aa|apply af|refine ax ?_ GE186.o)|exact HB.o)⟩
     ·rw[if_neg c6] at H
      have c6b0:decide (0≤a0_2)=false:=decide_eq_false c6
      clear c6
      obtain rfl:=Option.some.inj H
      go_enter Tryd.func39,Tryd.ntmps39
      go_wp2_with (first|((with_reducible refine aI (N:=1) rfl ?_);refine aH ?hg (N:=1) ?hd (cs:=#[.int .i64 a0_0,.int .i64 a0_1,.int .i64 a0_2,.int .i64 a0_3]) (t:=23) ?hr ?_;(case hd=>rfl);(case hg=>rfl);(case hr=>first|(go_simp;done)|(go_simp;rfl));intro gb186 hg w15 hbox hb;have n0_:=ag.mk (aj (by repeat(first|(with_reducible first|exact HB.o|apply ae|apply aa|apply af)|exact HB.o)) hb);have n1_:=ag.mk (hbox);have n2_:=ag.mk ((by rw[hg];exact(ak (by repeat(first|(with_reducible first|exact HB.o|apply ae|apply aa|apply af)|exact HB.o))):w.heap.size≤gb186));have n3_:=ag.mk ((by rw[hg];exact(ak (by repeat(first|(with_reducible first|exact HB.o|apply ae|apply aa|apply af)|exact HB.o))):w.heap.size≤gb186));clear HB;have HB:=n0_;have BK186:=n1_;have GW186:=n2_;have GE186:=n3_;clear n0_ n1_ n2_ n3_;clear hb hbox hg;have hcz16_0:w15.cell? ⟨gb186,0,none⟩=some (.int .i64 a0_0):=(ah BK186.o 0).trans rfl;have hcz16_1:w15.cell? ⟨gb186,1,none⟩=some (.int .i64 a0_1):=(ah BK186.o 1).trans rfl;have hcz16_2:w15.cell? ⟨gb186,2,none⟩=some (.int .i64 a0_2):=(ah BK186.o 2).trans rfl;have hcz16_3:w15.cell? ⟨gb186,3,none⟩=some (.int .i64 a0_3):=(ah BK186.o 3).trans rfl;have hfz16_0:=ai BK186.o 0;have hfz16_1:=ai BK186.o 1;have hfz16_2:=ai BK186.o 2;have hfz16_3:=ai BK186.o 3))
      go_ret
      exact⟨by first|rfl|(simp[ay,az] <;> rfl)|(simp[*,ay,az] <;> rfl),by repeat(first|(with_reducible first|exact HB.o|apply ae|apply aa|apply af|refine ax ?_ GE186.o)|exact HB.o)⟩
    ·rw[if_neg c5] at H
     have c5b0:decide (a0_1≤5)=false:=decide_eq_false c5
     clear c5
     obtain rfl:=Option.some.inj H
     go_enter Tryd.func39,Tryd.ntmps39
     go_wp2_with (first|((with_reducible refine aI (N:=1) rfl ?_);refine aH ?hg (N:=1) ?hd (cs:=#[.int .i64 a0_0,.int .i64 a0_1,.int .i64 a0_2,.int .i64 a0_3]) (t:=23) ?hr ?_;(case hd=>rfl);(case hg=>rfl);(case hr=>first|(go_simp;done)|(go_simp;rfl));intro gb186 hg w17 hbox hb;have n0_:=ag.mk (aj (by repeat(first|(with_reducible first|exact HB.o|apply ae|apply aa|apply af)|exact HB.o)) hb);have n1_:=ag.mk (hbox);have n2_:=ag.mk ((by rw[hg];exact(ak (by repeat(first|(with_reducible first|exact HB.o|apply ae|apply aa|apply af)|exact HB.o))):w.heap.size≤gb186));have n3_:=ag.mk ((by rw[hg];exact(ak (by repeat(first|(with_reducible first|exact HB.o|apply ae|apply aa|apply af)|exact HB.o))):w.heap.size≤gb186));clear HB;have HB:=n0_;have BK186:=n1_;have GW186:=n2_;have GE186:=n3_;clear n0_ n1_ n2_ n3_;clear hb hbox hg;have hcz18_0:w17.cell? ⟨gb186,0,none⟩=some (.int .i64 a0_0):=(ah BK186.o 0).trans rfl;have hcz18_1:w17.cell? ⟨gb186,1,none⟩=some (.int .i64 a0_1):=(ah BK186.o 1).trans rfl;have hcz18_2:w17.cell? ⟨gb186,2,none⟩=some (.int .i64 a0_2):=(ah BK186.o 2).trans rfl;have hcz18_3:w17.cell? ⟨gb186,3,none⟩=some (.int .i64 a0_3):=(ah BK186.o 3).trans rfl;have hfz18_0:=ai BK186.o 0;have hfz18_1:=ai BK186.o 1;have hfz18_2:=ai BK186.o 2;have hfz18_3:=ai BK186.o 3))
     go_ret
     exact⟨by first|rfl|(simp[ay,az] <;> rfl)|(simp[*,ay,az] <;> rfl),by repeat(first|(with_reducible first|exact HB.o|apply ae|apply aa|apply af|refine ax ?_ GE186.o)|exact HB.o)⟩
   ·rw[if_neg c4] at H
    have c4b0:decide (1≤a0_1)=false:=decide_eq_false c4
    clear c4
    obtain rfl:=Option.some.inj H
    go_enter Tryd.func39,Tryd.ntmps39
    go_wp2_with (first|((with_reducible refine aI (N:=1) rfl ?_);refine aH ?hg (N:=1) ?hd (cs:=#[.int .i64 a0_0,.int .i64 a0_1,.int .i64 a0_2,.int .i64 a0_3]) (t:=23) ?hr ?_;(case hd=>rfl);(case hg=>rfl);(case hr=>first|(go_simp;done)|(go_simp;rfl));intro gb186 hg w19 hbox hb;have n0_:=ag.mk (aj (by repeat(first|(with_reducible first|exact HB.o|apply ae|apply aa|apply af)|exact HB.o)) hb);have n1_:=ag.mk (hbox);have n2_:=ag.mk ((by rw[hg];exact(ak (by repeat(first|(with_reducible first|exact HB.o|apply ae|apply aa|apply af)|exact HB.o))):w.heap.size≤gb186));have n3_:=ag.mk ((by rw[hg];exact(ak (by repeat(first|(with_reducible first|exact HB.o|apply ae|apply aa|apply af)|exact HB.o))):w.heap.size≤gb186));clear HB;have HB:=n0_;have BK186:=n1_;have GW186:=n2_;have GE186:=n3_;clear n0_ n1_ n2_ n3_;clear hb hbox hg;have hcz20_0:w19.cell? ⟨gb186,0,none⟩=some (.int .i64 a0_0):=(ah BK186.o 0).trans rfl;have hcz20_1:w19.cell? ⟨gb186,1,none⟩=some (.int .i64 a0_1):=(ah BK186.o 1).trans rfl;have hcz20_2:w19.cell? ⟨gb186,2,none⟩=some (.int .i64 a0_2):=(ah BK186.o 2).trans rfl;have hcz20_3:w19.cell? ⟨gb186,3,none⟩=some (.int .i64 a0_3):=(ah BK186.o 3).trans rfl;have hfz20_0:=ai BK186.o 0;have hfz20_1:=ai BK186.o 1;have hfz20_2:=ai BK186.o 2;have hfz20_3:=ai BK186.o 3))
    go_ret
    exact⟨by first|rfl|(simp[ay,az] <;> rfl)|(simp[*,ay,az] <;> rfl),by repeat(first|(with_reducible first|exact HB.o|apply ae|apply aa|apply af|refine ax ?_ GE186.o)|exact HB.o)⟩
  ·rw[if_neg c3] at H
   have c3b0:decide (a0_0≤12)=false:=decide_eq_false c3
   clear c3
   obtain rfl:=Option.some.inj H
   go_enter Tryd.func39,Tryd.ntmps39
   go_wp2_with (first|((with_reducible refine aI (N:=1) rfl ?_);refine aH ?hg (N:=1) ?hd (cs:=#[.int .i64 a0_0,.int .i64 a0_1,.int .i64 a0_2,.int .i64 a0_3]) (t:=23) ?hr ?_;(case hd=>rfl);(case hg=>rfl);(case hr=>first|(go_simp;done)|(go_simp;rfl));intro gb186 hg w21 hbox hb;have n0_:=ag.mk (aj (by repeat(first|(with_reducible first|exact HB.o|apply ae|apply aa|apply af)|exact HB.o)) hb);have n1_:=ag.mk (hbox);have n2_:=ag.mk ((by rw[hg];exact(ak (by repeat(first|(with_reducible first|exact HB.o|apply ae|apply aa|apply af)|exact HB.o))):w.heap.size≤gb186));have n3_:=ag.mk ((by rw[hg];exact(ak (by repeat(first|(with_reducible first|exact HB.o|apply ae|apply aa|apply af)|exact HB.o))):w.heap.size≤gb186));clear HB;have HB:=n0_;have BK186:=n1_;have GW186:=n2_;have GE186:=n3_;clear n0_ n1_ n2_ n3_;clear hb hbox hg;have hcz22_0:w21.cell? ⟨gb186,0,none⟩=some (.int .i64 a0_0):=(ah BK186.o 0).trans rfl;have hcz22_1:w21.cell? ⟨gb186,1,none⟩=some (.int .i64 a0_1):=(ah BK186.o 1).trans rfl;have hcz22_2:w21.cell? ⟨gb186,2,none⟩=some (.int .i64 a0_2):=(ah BK186.o 2).trans rfl;have hcz22_3:w21.cell? ⟨gb186,3,none⟩=some (.int .i64 a0_3):=(ah BK186.o 3).trans rfl;have hfz22_0:=ai BK186.o 0;have hfz22_1:=ai BK186.o 1;have hfz22_2:=ai BK186.o 2;have hfz22_3:=ai BK186.o 3))
   go_ret
   exact⟨by first|rfl|(simp[ay,az] <;> rfl)|(simp[*,ay,az] <;> rfl),by repeat(first|(with_reducible first|exact HB.o|apply ae|apply aa|apply af|refine ax ?_ GE186.o)|exact HB.o)⟩
 ·rw[if_neg c2] at H
  have c2b0:decide (1≤a0_0)=false:=decide_eq_false c2
  clear c2
  obtain rfl:=Option.some.inj H
  go_enter Tryd.func39,Tryd.ntmps39
  go_wp2_with (first|((with_reducible refine aI (N:=1) rfl ?_);refine aH ?hg (N:=1) ?hd (cs:=#[.int .i64 a0_0,.int .i64 a0_1,.int .i64 a0_2,.int .i64 a0_3]) (t:=23) ?hr ?_;(case hd=>rfl);(case hg=>rfl);(case hr=>first|(go_simp;done)|(go_simp;rfl));intro gb186 hg w23 hbox hb;have n0_:=ag.mk (aj (by repeat(first|(with_reducible first|exact HB.o|apply ae|apply aa|apply af)|exact HB.o)) hb);have n1_:=ag.mk (hbox);have n2_:=ag.mk ((by rw[hg];exact(ak (by repeat(first|(with_reducible first|exact HB.o|apply ae|apply aa|apply af)|exact HB.o))):w.heap.size≤gb186));have n3_:=ag.mk ((by rw[hg];exact(ak (by repeat(first|(with_reducible first|exact HB.o|apply ae|apply aa|apply af)|exact HB.o))):w.heap.size≤gb186));clear HB;have HB:=n0_;have BK186:=n1_;have GW186:=n2_;have GE186:=n3_;clear n0_ n1_ n2_ n3_;clear hb hbox hg;have hcz24_0:w23.cell? ⟨gb186,0,none⟩=some (.int .i64 a0_0):=(ah BK186.o 0).trans rfl;have hcz24_1:w23.cell? ⟨gb186,1,none⟩=some (.int .i64 a0_1):=(ah BK186.o 1).trans rfl;have hcz24_2:w23.cell? ⟨gb186,2,none⟩=some (.int .i64 a0_2):=(ah BK186.o 2).trans rfl;have hcz24_3:w23.cell? ⟨gb186,3,none⟩=some (.int .i64 a0_3):=(ah BK186.o 3).trans rfl;have hfz24_0:=ai BK186.o 0;have hfz24_1:=ai BK186.o 1;have hfz24_2:=ai BK186.o 2;have hfz24_3:=ai BK186.o 3))
  go_ret
  exact⟨by first|rfl|(simp[ay,az] <;> rfl)|(simp[*,ay,az] <;> rfl),by repeat(first|(with_reducible first|exact HB.o|apply ae|apply aa|apply af|refine ax ?_ GE186.o)|exact HB.o)⟩
end Go.Proofs.YtcmhfcciapenfaaDoor.Pa
