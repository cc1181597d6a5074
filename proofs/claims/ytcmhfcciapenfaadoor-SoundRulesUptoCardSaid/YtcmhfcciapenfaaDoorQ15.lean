/- A part of the proof. -/
import Derived.Test.YtcmhfcciapenfaaDoorQ00
import Derived.Test.YtcmhfcciapenfaaDoorQ12
set_option linter.all false
namespace Go.Proofs.YtcmhfcciapenfaaDoor.Pa
open Go.RowKit Go.Proofs.YtcmhfcciapenfaaDoorW.PrintWords Go.Proofs.YtcmhfcciapenfaaDoorW.PrintLast Go.Proofs.YtcmhfcciapenfaaDoorW.PrintMore
attribute [local go_sem] bJ bL bU bV bA bB bM bN
def civil_Nth.j0:Nat → Int → Int → Int → Int → Int → Bool → Option (Int × Int × Int × Int)
 |0,_,_,_,_,_,_=>none
 |k+1,x0,x1,x2,x3,x10,x38=>if x38=true then (some (0,0,0,8)) else ((civil_Weekday.f x0 x1 1).bind fun bt133=>(if (wrap64 ((wrap64 (1+(Int.tmod (wrap64 ((wrap64 (x3 - bt133.1))+7)) 7)))+(wrap64 (7 * (wrap64 (x2 - 1)))))) > x10 then (some (x0,x1,wrap64 ((wrap64 ((wrap64 (1+(Int.tmod (wrap64 ((wrap64 (x3 - bt133.1))+7)) 7)))+(wrap64 (7 * (wrap64 (x2 - 1)))))) - 7),0)) else (some (x0,x1,wrap64 ((wrap64 (1+(Int.tmod (wrap64 ((wrap64 (x3 - bt133.1))+7)) 7)))+(wrap64 (7 * (wrap64 (x2 - 1))))),0))))
def civil_Nth.f (k:Nat) (a0:Int) (a1:Int) (a2:Int) (a3:Int):Option (Int × Int × Int × Int):=(civil_Length.f a0 a1).bind fun bt131=>(if bt131.2=0 then (if a2 < 1 then (civil_Nth.j0 k a0 a1 a2 a3 bt131.1 true) else (if a2 > 5 then (civil_Nth.j0 k a0 a1 a2 a3 bt131.1 true) else (if a3 < 0 then (civil_Nth.j0 k a0 a1 a2 a3 bt131.1 true) else (civil_Nth.j0 k a0 a1 a2 a3 bt131.1 (decide (a3 > 6)))))) else (some (0,0,0,bt131.2)))
theorem civil_Nth.mono_l : ∀ k,(∀ y0 y1 y2 y3 y4 y5,LeO (civil_Nth.j0 k y0 y1 y2 y3 y4 y5) (civil_Nth.j0 (k+1) y0 y1 y2 y3 y4 y5))
 |0=>fun _ _ _ _ _ _ r h=>by simp[civil_Nth.j0] at h
 |k+1=>by
  have ih0:=civil_Nth.mono_l k
  ·intro y0 y1 y2 y3 y4 y5
   unfold civil_Nth.j0
   repeat' first
   |(with_reducible exact ih0 _ _ _ _ _ _)
   |(with_reducible exact LeO.refl _)
   |(with_reducible exact LeO.none _)
   |(with_reducible refine LeO.ite ?_ ?_)
   |(with_reducible refine LeO.bind ?_ (fun _=>?_))
   |exact ih0 _ _ _ _ _ _
   |exact LeO.none _
   |refine LeO.ite ?_ ?_
   |refine LeO.bind ?_ (fun _=>?_)
theorem civil_Nth.mono : ∀ a0 a1 a2 a3 k,LeO (civil_Nth.f k a0 a1 a2 a3) (civil_Nth.f (k+1) a0 a1 a2 a3):=by
 intro a0 a1 a2 a3 k
 have ih0:=civil_Nth.mono_l k
 unfold civil_Nth.f
 repeat' first
   |(with_reducible exact ih0 _ _ _ _ _ _)
   |(with_reducible exact LeO.refl _)
   |(with_reducible exact LeO.none _)
   |(with_reducible refine LeO.ite ?_ ?_)
   |(with_reducible refine LeO.bind ?_ (fun _=>?_))
   |exact ih0 _ _ _ _ _ _
   |exact LeO.none _
   |refine LeO.ite ?_ ?_
   |refine LeO.bind ?_ (fun _=>?_)
set_option maxHeartbeats 8000000 in
set_option maxRecDepth 100000 in
theorem civil_Nth.calls (k:Nat) (a0:Int) (a1:Int) (a2:Int) (a3:Int) (r1:Int) (r2:Int) (r3:Int) (r4:Int) (w:World) (h:civil_Nth.f k a0 a1 a2 a3=some (r1,r2,r3,r4)) :
  Calls Tryd.prog 51 #[.int .i64 a0,.int .i64 a1,.int .i64 a2,.int .i64 a3] w fun e w'=>e = .returned (.tuple #[.agg #[.int .i64 r1,.int .i64 r2,.int .i64 r3],.int .i64 r4])∧Below w.heap.size w w':=by
 have hu68:=Tryd.underlying68
 have HB:=ag.mk (Below.refl w.heap.size w)
 have H:((civil_Length.f a0 a1).bind fun bt131=>(if bt131.2=0 then (if a2 < 1 then (civil_Nth.j0 k a0 a1 a2 a3 bt131.1 true) else (if a2 > 5 then (civil_Nth.j0 k a0 a1 a2 a3 bt131.1 true) else (if a3 < 0 then (civil_Nth.j0 k a0 a1 a2 a3 bt131.1 true) else (civil_Nth.j0 k a0 a1 a2 a3 bt131.1 (decide (a3 > 6)))))) else (some (0,0,0,bt131.2))))=some (r1,r2,r3,r4):=h
 clear h
 replace H:=Option.bind_eq_some_iff.mp H
 obtain⟨⟨t131,t132⟩,A50,H⟩:=H
 replace H:(if t132=0 then (if a2 < 1 then (civil_Nth.j0 k a0 a1 a2 a3 t131 true) else (if a2 > 5 then (civil_Nth.j0 k a0 a1 a2 a3 t131 true) else (if a3 < 0 then (civil_Nth.j0 k a0 a1 a2 a3 t131 true) else (civil_Nth.j0 k a0 a1 a2 a3 t131 (decide (a3 > 6)))))) else (some (0,0,0,t132)))=some (r1,r2,r3,r4):=H
 have A5:=ag.mk A50
 clear A50
 by_cases c6:t132=0
 ·rw[if_pos c6] at H
  have c6b0:(t132 == 0)=true:=beq_iff_eq.mpr c6
  have c6b1:(t132 != 0)=false:=bne_eq_false_iff_eq.mpr c6
  clear c6
  have HC7:=ag.mk H
  clear H
  go_enter Tryd.func51,Tryd.ntmps51
  go_upto_region 4 with (first|((with_reducible refine aI (N:=8) rfl ?_);refine aH ?hg (N:=8) ?hd (cs:=#[.int .i64 0,.int .i64 0,.int .i64 0]) (t:=68) ?hr ?_;(case hd=>rfl);(case hg=>rfl);(case hr=>first|(go_simp;done)|(go_simp;rfl));intro gb130 hg w8 hbox hb;have n0_:=ag.mk (aj (by repeat(first|(with_reducible first|exact HB.o|apply ae|apply aa|apply af)|exact HB.o)) hb);have n1_:=ag.mk (hbox);have n2_:=ag.mk ((by rw[hg];exact(ak (by repeat(first|(with_reducible first|exact HB.o|apply ae|apply aa|apply af)|exact HB.o))):w.heap.size≤gb130));have n3_:=ag.mk ((by rw[hg];exact(ak (by repeat(first|(with_reducible first|exact HB.o|apply ae|apply aa|apply af)|exact HB.o))):w.heap.size≤gb130));clear HB;have HB:=n0_;have BK130:=n1_;have GW130:=n2_;have GE130:=n3_;clear n0_ n1_ n2_ n3_;clear hb hbox hg)|((with_reducible refine aR (f:=54) rfl ?_);refine aZ (some 18) rfl rfl Tryd.func54 (by kernel_rfl) rfl #[.int .i64 a0,.int .i64 a1] rfl (by (try simp only[List.map_toArray,List.map_cons,List.map_nil]);first|done|rfl|(simp only[List.length_drop,List.length_take];rfl)) ?_;(with_reducible refine(civil_Length.calls a0 a1 t131 t132 _ A5.o).mono ?_);rintro e w' ⟨rfl,⟨nd,rfl⟩⟩;refine⟨_,rfl,?_⟩))
  (try simp only[Act.put,List.setIfInBounds_toArray,List.set_cons_zero,List.set_cons_succ])
  go_cut [38] (fun v38 wc=>∃ (kq:Nat) (x38_6:Bool),v38 = .bool x38_6∧ag (civil_Nth.j0 kq a0 a1 a2 a3 t131 x38_6=some (r1,r2,r3,r4))∧ag (kq≤k)∧ag (wc.heap[gb130]? = some (.cells #[.int .i64 0,.int .i64 0,.int .i64 0] 68 (0,0)))∧ag (Below w.heap.size w wc))
  case first=>
   have H:=HC7.o
   clear HC7
   by_cases c9:a2 < 1
   ·rw[if_pos c9] at H
    have c9b0:decide (a2 < 1)=true:=decide_eq_true c9
    clear c9
    (first|rw[c9b0]|(simp only[i64_w,i32_w];rw[c9b0])|skip)
    have H':=ag.mk H
    clear H
    go_wp2
    go_meet
    case rel=>exact⟨_,(true),(by first|rfl|(simp;done)|(simp[*];done)|(simp[aJ];done)|(simp[aK];done)),H',⟨by first|omega|exact Nat.le_refl _⟩,⟨by (with_reducible repeat(first|refine av ?_ _|refine aA ?_|refine au ?_ _));exact BK130.o⟩,⟨by repeat(first|(with_reducible first|exact HB.o|apply ae|apply aa|apply af|refine ax ?_ GE130.o)|exact HB.o)⟩⟩
   ·rw[if_neg c9] at H
    have c9b0:decide (a2 < 1)=false:=decide_eq_false c9
    clear c9
    (first|rw[c9b0]|(simp only[i64_w,i32_w];rw[c9b0])|skip)
    by_cases c10:a2 > 5
    ·rw[if_pos c10] at H
     have c10b0:decide (5 < a2)=true:=decide_eq_true c10
     clear c10
     have H':=ag.mk H
     clear H
     go_wp2
     go_meet
     case rel=>exact⟨_,(true),(by first|rfl|(simp;done)|(simp[*];done)|(simp[aJ];done)|(simp[aK];done)),H',⟨by first|omega|exact Nat.le_refl _⟩,⟨by (with_reducible repeat(first|refine av ?_ _|refine aA ?_|refine au ?_ _));exact BK130.o⟩,⟨by repeat(first|(with_reducible first|exact HB.o|apply ae|apply aa|apply af|refine ax ?_ GE130.o)|exact HB.o)⟩⟩
    ·rw[if_neg c10] at H
     have c10b0:decide (5 < a2)=false:=decide_eq_false c10
     clear c10
     by_cases c11:a3 < 0
     ·rw[if_pos c11] at H
      have c11b0:decide (a3 < 0)=true:=decide_eq_true c11
      clear c11
      have H':=ag.mk H
      clear H
      go_wp2
      go_meet
      case rel=>exact⟨_,(true),(by first|rfl|(simp;done)|(simp[*];done)|(simp[aJ];done)|(simp[aK];done)),H',⟨by first|omega|exact Nat.le_refl _⟩,⟨by (with_reducible repeat(first|refine av ?_ _|refine aA ?_|refine au ?_ _));exact BK130.o⟩,⟨by repeat(first|(with_reducible first|exact HB.o|apply ae|apply aa|apply af|refine ax ?_ GE130.o)|exact HB.o)⟩⟩
     ·rw[if_neg c11] at H
      have c11b0:decide (a3 < 0)=false:=decide_eq_false c11
      clear c11
      have H':=ag.mk H
      clear H
      go_wp2
      go_meet
      case rel=>exact⟨_,(decide (a3 > 6)),(by first|rfl|(simp;done)|(simp[*];done)|(simp[aJ];done)|(simp[aK];done)),H',⟨by first|omega|exact Nat.le_refl _⟩,⟨by (with_reducible repeat(first|refine av ?_ _|refine aA ?_|refine au ?_ _));exact BK130.o⟩,⟨by repeat(first|(with_reducible first|exact HB.o|apply ae|apply aa|apply af|refine ax ?_ GE130.o)|exact HB.o)⟩⟩
  case rest=>
   clear HC7
   try clear c1
   try clear p2
   try clear c5
   try clear c6
   try clear c6b0
   try clear c6b1
   try clear c9
   try clear c9b0
   try clear c10
   try clear c10b0
   try clear c11
   try clear c11b0
   obtain⟨kq,x38_6,rfl,HA,HJ6,BK130,HB⟩:=hcut
   cases kq with
   |zero=>exact absurd HA.o (by simp[civil_Nth.j0])
   |succ kj6=>
    have H:=HA.o
    clear HA
    simp only[civil_Nth.j0] at H
    by_cases c12:x38_6=true
    ·subst c12
     have H1:(some (0,0,0,8))=some (r1,r2,r3,r4):=by rw[if_pos rfl] at H;exact H
     clear H
     have H:=H1
     clear H1
     simp only[Option.some.injEq,Prod.mk.injEq] at H
     obtain⟨rfl,rfl,rfl,rfl⟩:=H
     have hcz13_0:wc.cell? ⟨gb130,0,none⟩=some (.int .i64 0):=(ah BK130.o 0).trans rfl
     have hcz13_1:wc.cell? ⟨gb130,1,none⟩=some (.int .i64 0):=(ah BK130.o 1).trans rfl
     have hcz13_2:wc.cell? ⟨gb130,2,none⟩=some (.int .i64 0):=(ah BK130.o 2).trans rfl
     have hfz13_0:=ai BK130.o 0
     have hfz13_1:=ai BK130.o 1
     have hfz13_2:=ai BK130.o 2
     go_wp2
     refine bodyPost_ret (eO rfl _ _ gb130 68 #[.int .i64 0,.int .i64 0,.int .i64 0] (0,0) _ rfl (by (with_reducible repeat(first|refine av ?_ _|refine aA ?_|refine au ?_ _));refine aX (cs:=#[.int .i64 0,.int .i64 0,.int .i64 0]) ?_ 2 _ rfl;(with_reducible repeat(first|refine av ?_ _|refine aA ?_|refine au ?_ _));refine aX (cs:=#[.int .i64 0,.int .i64 0,.int .i64 0]) ?_ 1 _ rfl;(with_reducible repeat(first|refine av ?_ _|refine aA ?_|refine au ?_ _));refine aX (cs:=#[.int .i64 0,.int .i64 0,.int .i64 0]) ?_ 0 _ rfl;(with_reducible repeat(first|refine av ?_ _|refine aA ?_|refine au ?_ _));exact BK130.o) Tryd.underlying68 rfl (by kernel_rfl)) rfl ?_
     exact⟨by first|rfl|(simp[ay,az] <;> rfl)|(simp[*,ay,az] <;> rfl),by repeat(first|(with_reducible first|exact HB.o|apply ae|apply aa|apply af|refine ax ?_ GE130.o)|exact HB.o)⟩
    ·replace c12:=Bool.eq_false_iff.mpr c12
     subst c12
     have H1:((civil_Weekday.f a0 a1 1).bind fun bt133=>(if (wrap64 ((wrap64 (1+(Int.tmod (wrap64 ((wrap64 (a3 - bt133.1))+7)) 7)))+(wrap64 (7 * (wrap64 (a2 - 1)))))) > t131 then (some (a0,a1,wrap64 ((wrap64 ((wrap64 (1+(Int.tmod (wrap64 ((wrap64 (a3 - bt133.1))+7)) 7)))+(wrap64 (7 * (wrap64 (a2 - 1)))))) - 7),0)) else (some (a0,a1,wrap64 ((wrap64 (1+(Int.tmod (wrap64 ((wrap64 (a3 - bt133.1))+7)) 7)))+(wrap64 (7 * (wrap64 (a2 - 1))))),0))))=some (r1,r2,r3,r4):=by rw[if_neg (show ¬ (false=true) by decide)] at H;exact H
     clear H
     have H:=H1
     clear H1
     replace H:=Option.bind_eq_some_iff.mp H
     obtain⟨⟨t133,t134⟩,A140,H⟩:=H
     replace H:(if (wrap64 ((wrap64 (1+(Int.tmod (wrap64 ((wrap64 (a3 - t133))+7)) 7)))+(wrap64 (7 * (wrap64 (a2 - 1)))))) > t131 then (some (a0,a1,wrap64 ((wrap64 ((wrap64 (1+(Int.tmod (wrap64 ((wrap64 (a3 - t133))+7)) 7)))+(wrap64 (7 * (wrap64 (a2 - 1)))))) - 7),0)) else (some (a0,a1,wrap64 ((wrap64 (1+(Int.tmod (wrap64 ((wrap64 (a3 - t133))+7)) 7)))+(wrap64 (7 * (wrap64 (a2 - 1))))),0)))=some (r1,r2,r3,r4):=H
     have A14:=ag.mk A140
     clear A140
     by_cases c15:(wrap64 ((wrap64 (1+(Int.tmod (wrap64 ((wrap64 (a3 - t133))+7)) 7)))+(wrap64 (7 * (wrap64 (a2 - 1)))))) > t131
     ·rw[if_pos c15] at H
      have c15b0:decide (t131 < (wrap64 ((wrap64 (1+(Int.tmod (wrap64 ((wrap64 (a3 - t133))+7)) 7)))+(wrap64 (7 * (wrap64 (a2 - 1)))))))=true:=decide_eq_true c15
      clear c15
      simp only[Option.some.injEq,Prod.mk.injEq] at H
      obtain⟨rfl,rfl,rfl,rfl⟩:=H
      go_wp2_with (first|((with_reducible refine aR (f:=64) rfl ?_);refine aZ (some 44) rfl rfl Tryd.func64 (by kernel_rfl) rfl #[.agg #[.int .i64 a0,.int .i64 a1,.int .i64 1]] rfl (by (try simp only[List.map_toArray,List.map_cons,List.map_nil]);first|done|rfl|(simp only[List.length_drop,List.length_take];rfl)) ?_;(with_reducible refine(civil_Weekday.calls a0 a1 1 t133 t134 _ A14.o).mono ?_);rintro e w16 ⟨rfl,hb⟩;refine⟨_,rfl,?_⟩;have n0_:=ag.mk (aN (g:=gb130) (o:=.cells #[.int .i64 0,.int .i64 0,.int .i64 0] 68 (0,0)) (by (with_reducible repeat(first|refine av ?_ _|refine aA ?_|refine au ?_ _));exact BK130.o) hb);have n1_:=ag.mk (aj (by repeat(first|(with_reducible first|exact HB.o|apply ae|apply aa|apply af|refine ax ?_ GE130.o)|exact HB.o)) hb);clear BK130;clear HB;have BK130:=n0_;have HB:=n1_;clear n0_ n1_;(try clear hb);(try clear hb2);(try clear hk);(try clear hi);have hcz17_0:w16.cell? ⟨gb130,0,none⟩=some (.int .i64 0):=(ah BK130.o 0).trans rfl;have hcz17_1:w16.cell? ⟨gb130,1,none⟩=some (.int .i64 0):=(ah BK130.o 1).trans rfl;have hcz17_2:w16.cell? ⟨gb130,2,none⟩=some (.int .i64 0):=(ah BK130.o 2).trans rfl;have hfz17_0:=ai BK130.o 0;have hfz17_1:=ai BK130.o 1;have hfz17_2:=ai BK130.o 2))
      refine bodyPost_ret (eO rfl _ _ gb130 68 #[.int .i64 a0,.int .i64 a1,.int .i64 (wrap64 ((wrap64 ((wrap64 (1+(Int.tmod (wrap64 ((wrap64 (a3 - t133))+7)) 7)))+(wrap64 (7 * (wrap64 (a2 - 1)))))) - 7))] (0,0) _ rfl (by (with_reducible repeat(first|refine av ?_ _|refine aA ?_|refine au ?_ _));refine aX (cs:=#[.int .i64 a0,.int .i64 a1,.int .i64 0]) ?_ 2 _ rfl;(with_reducible repeat(first|refine av ?_ _|refine aA ?_|refine au ?_ _));refine aX (cs:=#[.int .i64 a0,.int .i64 0,.int .i64 0]) ?_ 1 _ rfl;(with_reducible repeat(first|refine av ?_ _|refine aA ?_|refine au ?_ _));refine aX (cs:=#[.int .i64 0,.int .i64 0,.int .i64 0]) ?_ 0 _ rfl;(with_reducible repeat(first|refine av ?_ _|refine aA ?_|refine au ?_ _));exact BK130.o) Tryd.underlying68 rfl (by kernel_rfl)) rfl ?_
      exact⟨by first|rfl|(simp[ay,az] <;> rfl)|(simp[*,ay,az] <;> rfl),by repeat(first|(with_reducible first|exact HB.o|apply ae|apply aa|apply af|refine ax ?_ GE130.o)|exact HB.o)⟩
     ·rw[if_neg c15] at H
      have c15b0:decide (t131 < (wrap64 ((wrap64 (1+(Int.tmod (wrap64 ((wrap64 (a3 - t133))+7)) 7)))+(wrap64 (7 * (wrap64 (a2 - 1)))))))=false:=decide_eq_false c15
      clear c15
      simp only[Option.some.injEq,Prod.mk.injEq] at H
      obtain⟨rfl,rfl,rfl,rfl⟩:=H
      go_wp2_with (first|((with_reducible refine aR (f:=64) rfl ?_);refine aZ (some 44) rfl rfl Tryd.func64 (by kernel_rfl) rfl #[.agg #[.int .i64 a0,.int .i64 a1,.int .i64 1]] rfl (by (try simp only[List.map_toArray,List.map_cons,List.map_nil]);first|done|rfl|(simp only[List.length_drop,List.length_take];rfl)) ?_;(with_reducible refine(civil_Weekday.calls a0 a1 1 t133 t134 _ A14.o).mono ?_);rintro e w18 ⟨rfl,hb⟩;refine⟨_,rfl,?_⟩;have n0_:=ag.mk (aN (g:=gb130) (o:=.cells #[.int .i64 0,.int .i64 0,.int .i64 0] 68 (0,0)) (by (with_reducible repeat(first|refine av ?_ _|refine aA ?_|refine au ?_ _));exact BK130.o) hb);have n1_:=ag.mk (aj (by repeat(first|(with_reducible first|exact HB.o|apply ae|apply aa|apply af|refine ax ?_ GE130.o)|exact HB.o)) hb);clear BK130;clear HB;have BK130:=n0_;have HB:=n1_;clear n0_ n1_;(try clear hb);(try clear hb2);(try clear hk);(try clear hi);have hcz19_0:w18.cell? ⟨gb130,0,none⟩=some (.int .i64 0):=(ah BK130.o 0).trans rfl;have hcz19_1:w18.cell? ⟨gb130,1,none⟩=some (.int .i64 0):=(ah BK130.o 1).trans rfl;have hcz19_2:w18.cell? ⟨gb130,2,none⟩=some (.int .i64 0):=(ah BK130.o 2).trans rfl;have hfz19_0:=ai BK130.o 0;have hfz19_1:=ai BK130.o 1;have hfz19_2:=ai BK130.o 2))
      refine bodyPost_ret (eO rfl _ _ gb130 68 #[.int .i64 a0,.int .i64 a1,.int .i64 (wrap64 ((wrap64 (1+(Int.tmod (wrap64 ((wrap64 (a3 - t133))+7)) 7)))+(wrap64 (7 * (wrap64 (a2 - 1))))))] (0,0) _ rfl (by (with_reducible repeat(first|refine av ?_ _|refine aA ?_|refine au ?_ _));refine aX (cs:=#[.int .i64 a0,.int .i64 a1,.int .i64 0]) ?_ 2 _ rfl;(with_reducible repeat(first|refine av ?_ _|refine aA ?_|refine au ?_ _));refine aX (cs:=#[.int .i64 a0,.int .i64 0,.int .i64 0]) ?_ 1 _ rfl;(with_reducible repeat(first|refine av ?_ _|refine aA ?_|refine au ?_ _));refine aX (cs:=#[.int .i64 0,.int .i64 0,.int .i64 0]) ?_ 0 _ rfl;(with_reducible repeat(first|refine av ?_ _|refine aA ?_|refine au ?_ _));exact BK130.o) Tryd.underlying68 rfl (by kernel_rfl)) rfl ?_
      exact⟨by first|rfl|(simp[ay,az] <;> rfl)|(simp[*,ay,az] <;> rfl),by repeat(first|(with_reducible first|exact HB.o|apply ae|apply aa|apply af|refine ax ?_ GE130.o)|exact HB.o)⟩
 ·rw[if_neg c6] at H
  have c6b0:(t132 == 0)=false:=beq_eq_false_iff_ne.mpr c6
  have c6b1:(t132 != 0)=true:=bne_iff_ne.mpr c6
  simp only[Option.some.injEq,Prod.mk.injEq] at H
  obtain⟨rfl,rfl,rfl,rfl⟩:=H
  go_enter Tryd.func51,Tryd.ntmps51
  go_wp2_with (first|((with_reducible refine aI (N:=8) rfl ?_);refine aH ?hg (N:=8) ?hd (cs:=#[.int .i64 0,.int .i64 0,.int .i64 0]) (t:=68) ?hr ?_;(case hd=>rfl);(case hg=>rfl);(case hr=>first|(go_simp;done)|(go_simp;rfl));intro gb130 hg w20 hbox hb;have n0_:=ag.mk (aj (by repeat(first|(with_reducible first|exact HB.o|apply ae|apply aa|apply af)|exact HB.o)) hb);have n1_:=ag.mk (hbox);have n2_:=ag.mk ((by rw[hg];exact(ak (by repeat(first|(with_reducible first|exact HB.o|apply ae|apply aa|apply af)|exact HB.o))):w.heap.size≤gb130));have n3_:=ag.mk ((by rw[hg];exact(ak (by repeat(first|(with_reducible first|exact HB.o|apply ae|apply aa|apply af)|exact HB.o))):w.heap.size≤gb130));clear HB;have HB:=n0_;have BK130:=n1_;have GW130:=n2_;have GE130:=n3_;clear n0_ n1_ n2_ n3_;clear hb hbox hg)|((with_reducible refine aR (f:=54) rfl ?_);refine aZ (some 18) rfl rfl Tryd.func54 (by kernel_rfl) rfl #[.int .i64 a0,.int .i64 a1] rfl (by (try simp only[List.map_toArray,List.map_cons,List.map_nil]);first|done|rfl|(simp only[List.length_drop,List.length_take];rfl)) ?_;(with_reducible refine(civil_Length.calls a0 a1 t131 t132 _ A5.o).mono ?_);rintro e w' ⟨rfl,⟨nd,rfl⟩⟩;refine⟨_,rfl,?_⟩;(try (rw[drewN_self w20];generalize hq_:World.drewN w20 _=w20;have n0_:ag (w20.heap[gb130]? = some (.cells #[.int .i64 0,.int .i64 0,.int .i64 0] 68 (0,0))):=⟨by rw[← hq_];exact(by (with_reducible repeat(first|refine av ?_ _|refine aA ?_|refine au ?_ _));exact BK130.o)⟩;have n1_:ag (Below w.heap.size w w20):=⟨by rw[← hq_];exact(by repeat(first|(with_reducible first|exact HB.o|apply ae|apply aa|apply af|refine ax ?_ GE130.o)|exact HB.o))⟩;clear BK130 HB hq_;have BK130:=n0_;have HB:=n1_;clear n0_ n1_));have hcz21_0:w20.cell? ⟨gb130,0,none⟩=some (.int .i64 0):=(ah BK130.o 0).trans rfl;have hcz21_1:w20.cell? ⟨gb130,1,none⟩=some (.int .i64 0):=(ah BK130.o 1).trans rfl;have hcz21_2:w20.cell? ⟨gb130,2,none⟩=some (.int .i64 0):=(ah BK130.o 2).trans rfl;have hfz21_0:=ai BK130.o 0;have hfz21_1:=ai BK130.o 1;have hfz21_2:=ai BK130.o 2))
  refine bodyPost_ret (eO rfl _ _ gb130 68 #[.int .i64 0,.int .i64 0,.int .i64 0] (0,0) _ rfl (by (with_reducible repeat(first|refine av ?_ _|refine aA ?_|refine au ?_ _));refine aX (cs:=#[.int .i64 0,.int .i64 0,.int .i64 0]) ?_ 2 _ rfl;(with_reducible repeat(first|refine av ?_ _|refine aA ?_|refine au ?_ _));refine aX (cs:=#[.int .i64 0,.int .i64 0,.int .i64 0]) ?_ 1 _ rfl;(with_reducible repeat(first|refine av ?_ _|refine aA ?_|refine au ?_ _));refine aX (cs:=#[.int .i64 0,.int .i64 0,.int .i64 0]) ?_ 0 _ rfl;(with_reducible repeat(first|refine av ?_ _|refine aA ?_|refine au ?_ _));exact BK130.o) Tryd.underlying68 rfl (by kernel_rfl)) rfl ?_
  exact⟨by first|rfl|(simp[ay,az] <;> rfl)|(simp[*,ay,az] <;> rfl),by repeat(first|(with_reducible first|exact HB.o|apply ae|apply aa|apply af|refine ax ?_ GE130.o)|exact HB.o)⟩
def holiday_Check.f (k:Nat) (a0_0:Int) (a0_1:Int) (a0_2:Int) (a0_3:Int):Option (Int):=if a0_0=1 then ((civil_Length.f 2000 a0_1).bind fun bt136=>(if bt136.2=0 then (if a0_2≥1 then (if a0_2≤bt136.1 then (if a0_3=0 then (some 0) else (some 8)) else (some 8)) else (some 8)) else (some 8))) else (if a0_0=2 then ((civil_Nth.f k 2000 a0_1 a0_2 a0_3).bind fun bt138=>(if bt138.2.2.2=0 then (some 0) else (some 8))) else (if a0_0=3 then (if a0_1≥(-100) then (if a0_1≤100 then (if a0_2=0 then (if a0_3=0 then (some 0) else (some 8)) else (some 8)) else (some 8)) else (some 8)) else (some 8)))
theorem holiday_Check.mono : ∀ a0 a1 a2 a3 k,LeO (holiday_Check.f k a0 a1 a2 a3) (holiday_Check.f (k+1) a0 a1 a2 a3):=by
 intro a0 a1 a2 a3 k
 unfold holiday_Check.f
 repeat' first
   |(with_reducible exact civil_Nth.mono _ _ _ _ _)
   |(with_reducible exact LeO.refl _)
   |(with_reducible exact LeO.none _)
   |(with_reducible refine LeO.ite ?_ ?_)
   |(with_reducible refine LeO.bind ?_ (fun _=>?_))
   |exact civil_Nth.mono _ _ _ _ _
   |exact LeO.none _
   |refine LeO.ite ?_ ?_
   |refine LeO.bind ?_ (fun _=>?_)
set_option maxHeartbeats 8000000 in
set_option maxRecDepth 100000 in
theorem holiday_Check.calls (k:Nat) (a0_0:Int) (a0_1:Int) (a0_2:Int) (a0_3:Int) (r:Int) (w:World) (h:holiday_Check.f k a0_0 a0_1 a0_2 a0_3=some r) :
  Calls Tryd.prog 45 #[.agg #[.int .i64 a0_0,.int .i64 a0_1,.int .i64 a0_2,.int .i64 a0_3]] w fun e w'=>e = .returned (.int .i64 r)∧Below w.heap.size w w':=by
 have hu43:=Tryd.underlying43
 have hu68:=Tryd.underlying68
 have HB:=ag.mk (Below.refl w.heap.size w)
 have H:(if a0_0=1 then ((civil_Length.f 2000 a0_1).bind fun bt136=>(if bt136.2=0 then (if a0_2≥1 then (if a0_2≤bt136.1 then (if a0_3=0 then (some 0) else (some 8)) else (some 8)) else (some 8)) else (some 8))) else (if a0_0=2 then ((civil_Nth.f k 2000 a0_1 a0_2 a0_3).bind fun bt138=>(if bt138.2.2.2=0 then (some 0) else (some 8))) else (if a0_0=3 then (if a0_1≥(-100) then (if a0_1≤100 then (if a0_2=0 then (if a0_3=0 then (some 0) else (some 8)) else (some 8)) else (some 8)) else (some 8)) else (some 8))))=some r:=h
 clear h
 by_cases c2:a0_0=1
 ·rw[if_pos c2] at H
  have c2b0:(a0_0 == 1)=true:=beq_iff_eq.mpr c2
  have c2b1:(a0_0 != 1)=false:=bne_eq_false_iff_eq.mpr c2
  clear c2
  replace H:=Option.bind_eq_some_iff.mp H
  obtain⟨⟨t136,t137⟩,A30,H⟩:=H
  replace H:(if t137=0 then (if a0_2≥1 then (if a0_2≤t136 then (if a0_3=0 then (some 0) else (some 8)) else (some 8)) else (some 8)) else (some 8))=some r:=H
  have A3:=ag.mk A30
  clear A30
  by_cases c4:t137=0
  ·rw[if_pos c4] at H
   have c4b0:(t137 == 0)=true:=beq_iff_eq.mpr c4
   have c4b1:(t137 != 0)=false:=bne_eq_false_iff_eq.mpr c4
   clear c4
   by_cases c5:a0_2≥1
   ·rw[if_pos c5] at H
    have c5b0:decide (1≤a0_2)=true:=decide_eq_true c5
    clear c5
    by_cases c6:a0_2≤t136
    ·rw[if_pos c6] at H
     have c6b0:decide (a0_2≤t136)=true:=decide_eq_true c6
     clear c6
     by_cases c7:a0_3=0
     ·rw[if_pos c7] at H
      have c7b0:(a0_3 == 0)=true:=beq_iff_eq.mpr c7
      have c7b1:(a0_3 != 0)=false:=bne_eq_false_iff_eq.mpr c7
      clear c7
      obtain rfl:=Option.some.inj H
      go_enter Tryd.func45,Tryd.ntmps45
      go_wp2_with (first|((with_reducible refine aI (N:=1) rfl ?_);refine aH ?hg (N:=1) ?hd (cs:=#[.int .i64 a0_0,.int .i64 a0_1,.int .i64 a0_2,.int .i64 a0_3]) (t:=43) ?hr ?_;(case hd=>rfl);(case hg=>rfl);(case hr=>first|(go_simp;done)|(go_simp;rfl));intro gb135 hg w8 hbox hb;have n0_:=ag.mk (aj (by repeat(first|(with_reducible first|exact HB.o|apply ae|apply aa|apply af)|exact HB.o)) hb);have n1_:=ag.mk (hbox);have n2_:=ag.mk ((by rw[hg];exact(ak (by repeat(first|(with_reducible first|exact HB.o|apply ae|apply aa|apply af)|exact HB.o))):w.heap.size≤gb135));have n3_:=ag.mk ((by rw[hg];exact(ak (by repeat(first|(with_reducible first|exact HB.o|apply ae|apply aa|apply af)|exact HB.o))):w.heap.size≤gb135));clear HB;have HB:=n0_;have BK135:=n1_;have GW135:=n2_;have GE135:=n3_;clear n0_ n1_ n2_ n3_;clear hb hbox hg;have hcz9_0:w8.cell? ⟨gb135,0,none⟩=some (.int .i64 a0_0):=(ah BK135.o 0).trans rfl;have hcz9_1:w8.cell? ⟨gb135,1,none⟩=some (.int .i64 a0_1):=(ah BK135.o 1).trans rfl;have hcz9_2:w8.cell? ⟨gb135,2,none⟩=some (.int .i64 a0_2):=(ah BK135.o 2).trans rfl;have hcz9_3:w8.cell? ⟨gb135,3,none⟩=some (.int .i64 a0_3):=(ah BK135.o 3).trans rfl;have hfz9_0:=ai BK135.o 0;have hfz9_1:=ai BK135.o 1;have hfz9_2:=ai BK135.o 2;have hfz9_3:=ai BK135.o 3)|((with_reducible refine aR (f:=54) rfl ?_);refine aZ (some 14) rfl rfl Tryd.func54 (by kernel_rfl) rfl #[.int .i64 2000,.int .i64 a0_1] rfl (by (try simp only[List.map_toArray,List.map_cons,List.map_nil]);first|done|rfl|(simp only[List.length_drop,List.length_take];rfl)) ?_;(with_reducible refine(civil_Length.calls 2000 a0_1 t136 t137 _ A3.o).mono ?_);rintro e w' ⟨rfl,⟨nd,rfl⟩⟩;refine⟨_,rfl,?_⟩))
      go_ret
      exact⟨by first|rfl|(simp[ay,az] <;> rfl)|(simp[*,ay,az] <;> rfl),by repeat(first|(with_reducible first|exact HB.o|apply ae|apply aa|apply af|refine ax ?_ GE135.o)|exact HB.o)⟩
     ·rw[if_neg c7] at H
      have c7b0:(a0_3 == 0)=false:=beq_eq_false_iff_ne.mpr c7
      have c7b1:(a0_3 != 0)=true:=bne_iff_ne.mpr c7
      obtain rfl:=Option.some.inj H
      go_enter Tryd.func45,Tryd.ntmps45
      go_wp2_with (first|((with_reducible refine aI (N:=1) rfl ?_);refine aH ?hg (N:=1) ?hd (cs:=#[.int .i64 a0_0,.int .i64 a0_1,.int .i64 a0_2,.int .i64 a0_3]) (t:=43) ?hr ?_;(case hd=>rfl);(case hg=>rfl);(case hr=>first|(go_simp;done)|(go_simp;rfl));intro gb135 hg w10 hbox hb;have n0_:=ag.mk (aj (by repeat(first|(with_reducible first|exact HB.o|apply ae|apply aa|apply af)|exact HB.o)) hb);have n1_:=ag.mk (hbox);have n2_:=ag.mk ((by rw[hg];exact(ak (by repeat(first|(with_reducible first|exact HB.o|apply ae|apply aa|apply af)|exact HB.o))):w.heap.size≤gb135));have n3_:=ag.mk ((by rw[hg];exact(ak (by repeat(first|(with_reducible first|exact HB.o|apply ae|apply aa|apply af)|exact HB.o))):w.heap.size≤gb135));clear HB;have HB:=n0_;have BK135:=n1_;have GW135:=n2_;have GE135:=n3_;clear n0_ n1_ n2_ n3_;clear hb hbox hg;have hcz11_0:w10.cell? ⟨gb135,0,none⟩=some (.int .i64 a0_0):=(ah BK135.o 0).trans rfl;have hcz11_1:w10.cell? ⟨gb135,1,none⟩=some (.int .i64 a0_1):=(ah BK135.o 1).trans rfl;have hcz11_2:w10.cell? ⟨gb135,2,none⟩=some (.int .i64 a0_2):=(ah BK135.o 2).trans rfl;have hcz11_3:w10.cell? ⟨gb135,3,none⟩=some (.int .i64 a0_3):=(ah BK135.o 3).trans rfl;have hfz11_0:=ai BK135.o 0;have hfz11_1:=ai BK135.o 1;have hfz11_2:=ai BK135.o 2;have hfz11_3:=ai BK135.o 3)|((with_reducible refine aR (f:=54) rfl ?_);refine aZ (some 14) rfl rfl Tryd.func54 (by kernel_rfl) rfl #[.int .i64 2000,.int .i64 a0_1] rfl (by (try simp only[List.map_toArray,List.map_cons,List.map_nil]);first|done|rfl|(simp only[List.length_drop,List.length_take];rfl)) ?_;(with_reducible refine(civil_Length.calls 2000 a0_1 t136 t137 _ A3.o).mono ?_);rintro e w' ⟨rfl,⟨nd,rfl⟩⟩;refine⟨_,rfl,?_⟩))
      go_ret
      exact⟨by first|rfl|(simp[ay,az] <;> rfl)|(simp[*,ay,az] <;> rfl),by repeat(first|(with_reducible first|exact HB.o|apply ae|apply aa|apply af|refine ax ?_ GE135.o)|exact HB.o)⟩
    ·rw[if_neg c6] at H
     have c6b0:decide (a0_2≤t136)=false:=decide_eq_false c6
     clear c6
     obtain rfl:=Option.some.inj H
     go_enter Tryd.func45,Tryd.ntmps45
     go_wp2_with (first|((with_reducible refine aI (N:=1) rfl ?_);refine aH ?hg (N:=1) ?hd (cs:=#[.int .i64 a0_0,.int .i64 a0_1,.int .i64 a0_2,.int .i64 a0_3]) (t:=43) ?hr ?_;(case hd=>rfl);(case hg=>rfl);(case hr=>first|(go_simp;done)|(go_simp;rfl));intro gb135 hg w12 hbox hb;have n0_:=ag.mk (aj (by repeat(first|(with_reducible first|exact HB.o|apply ae|apply aa|apply af)|exact HB.o)) hb);have n1_:=ag.mk (hbox);have n2_:=ag.mk ((by rw[hg];exact(ak (by repeat(first|(with_reducible first|exact HB.o|apply ae|apply aa|apply af)|exact HB.o))):w.heap.size≤gb135));have n3_:=ag.mk ((by rw[hg];exact(ak (by repeat(first|(with_reducible first|exact HB.o|apply ae|apply aa|apply af)|exact HB.o))):w.heap.size≤gb135));clear HB;have HB:=n0_;have BK135:=n1_;have GW135:=n2_;have GE135:=n3_;clear n0_ n1_ n2_ n3_;clear hb hbox hg;have hcz13_0:w12.cell? ⟨gb135,0,none⟩=some (.int .i64 a0_0):=(ah BK135.o 0).trans rfl;have hcz13_1:w12.cell? ⟨gb135,1,none⟩=some (.int .i64 a0_1):=(ah BK135.o 1).trans rfl;have hcz13_2:w12.cell? ⟨gb135,2,none⟩=some (.int .i64 a0_2):=(ah BK135.o 2).trans rfl;have hcz13_3:w12.cell? ⟨gb135,3,none⟩=some (.int .i64 a0_3):=(ah BK135.o 3).trans rfl;have hfz13_0:=ai BK135.o 0;have hfz13_1:=ai BK135.o 1;have hfz13_2:=ai BK135.o 2;have hfz13_3:=ai BK135.o 3)|((with_reducible refine aR (f:=54) rfl ?_);refine aZ (some 14) rfl rfl Tryd.func54 (by kernel_rfl) rfl #[.int .i64 2000,.int .i64 a0_1] rfl (by (try simp only[List.map_toArray,List.map_cons,List.map_nil]);first|done|rfl|(simp only[List.length_drop,List.length_take];rfl)) ?_;(with_reducible refine(civil_Length.calls 2000 a0_1 t136 t137 _ A3.o).mono ?_);rintro e w' ⟨rfl,⟨nd,rfl⟩⟩;refine⟨_,rfl,?_⟩))
     go_ret
     exact⟨by first|rfl|(simp[ay,az] <;> rfl)|(simp[*,ay,az] <;> rfl),by repeat(first|(with_reducible first|exact HB.o|apply ae|apply aa|apply af|refine ax ?_ GE135.o)|exact HB.o)⟩
   ·rw[if_neg c5] at H
    have c5b0:decide (1≤a0_2)=false:=decide_eq_false c5
    clear c5
    obtain rfl:=Option.some.inj H
    go_enter Tryd.func45,Tryd.ntmps45
    go_wp2_with (first|((with_reducible refine aI (N:=1) rfl ?_);refine aH ?hg (N:=1) ?hd (cs:=#[.int .i64 a0_0,.int .i64 a0_1,.int .i64 a0_2,.int .i64 a0_3]) (t:=43) ?hr ?_;(case hd=>rfl);(case hg=>rfl);(case hr=>first|(go_simp;done)|(go_simp;rfl));intro gb135 hg w14 hbox hb;have n0_:=ag.mk (aj (by repeat(first|(with_reducible first|exact HB.o|apply ae|apply aa|apply af)|exact HB.o)) hb);have n1_:=ag.mk (hbox);have n2_:=ag.mk ((by rw[hg];exact(ak (by repeat(first|(with_reducible first|exact HB.o|apply ae|apply aa|apply af)|exact HB.o))):w.heap.size≤gb135));have n3_:=ag.mk ((by rw[hg];exact(ak (by repeat(first|(with_reducible first|exact HB.o|apply ae|apply aa|apply af)|exact HB.o))):w.heap.size≤gb135));clear HB;have HB:=n0_;have BK135:=n1_;have GW135:=n2_;have GE135:=n3_;clear n0_ n1_ n2_ n3_;clear hb hbox hg;have hcz15_0:w14.cell? ⟨gb135,0,none⟩=some (.int .i64 a0_0):=(ah BK135.o 0).trans rfl;have hcz15_1:w14.cell? ⟨gb135,1,none⟩=some (.int .i64 a0_1):=(ah BK135.o 1).trans rfl;have hcz15_2:w14.cell? ⟨gb135,2,none⟩=some (.int .i64 a0_2):=(ah BK135.o 2).trans rfl;have hcz15_3:w14.cell? ⟨gb135,3,none⟩=some (.int .i64 a0_3):=(ah BK135.o 3).trans rfl;have hfz15_0:=ai BK135.o 0;have hfz15_1:=ai BK135.o 1;have hfz15_2:=ai BK135.o 2;have hfz15_3:=ai BK135.o 3)|((with_reducible refine aR (f:=54) rfl ?_);refine aZ (some 14) rfl rfl Tryd.func54 (by kernel_rfl) rfl #[.int .i64 2000,.int .i64 a0_1] rfl (by (try simp only[List.map_toArray,List.map_cons,List.map_nil]);first|done|rfl|(simp only[List.length_drop,List.length_take];rfl)) ?_;(with_reducible refine(civil_Length.calls 2000 a0_1 t136 t137 _ A3.o).mono ?_);rintro e w' ⟨rfl,⟨nd,rfl⟩⟩;refine⟨_,rfl,?_⟩))
    go_ret
    exact⟨by first|rfl|(simp[ay,az] <;> rfl)|(simp[*,ay,az] <;> rfl),by repeat(first|(with_reducible first|exact HB.o|apply ae|apply aa|apply af|refine ax ?_ GE135.o)|exact HB.o)⟩
  ·rw[if_neg c4] at H
   have c4b0:(t137 == 0)=false:=beq_eq_false_iff_ne.mpr c4
   have c4b1:(t137 != 0)=true:=bne_iff_ne.mpr c4
   obtain rfl:=Option.some.inj H
   go_enter Tryd.func45,Tryd.ntmps45
   go_wp2_with (first|((with_reducible refine aI (N:=1) rfl ?_);refine aH ?hg (N:=1) ?hd (cs:=#[.int .i64 a0_0,.int .i64 a0_1,.int .i64 a0_2,.int .i64 a0_3]) (t:=43) ?hr ?_;(case hd=>rfl);(case hg=>rfl);(case hr=>first|(go_simp;done)|(go_simp;rfl));intro gb135 hg w16 hbox hb;have n0_:=ag.mk (aj (by repeat(first|(with_reducible first|exact HB.o|apply ae|apply aa|apply af)|exact HB.o)) hb);have n1_:=ag.mk (hbox);have n2_:=ag.mk ((by rw[hg];exact(ak (by repeat(first|(with_reducible first|exact HB.o|apply ae|apply aa|apply af)|exact HB.o))):w.heap.size≤gb135));have n3_:=ag.mk ((by rw[hg];exact(ak (by repeat(first|(with_reducible first|exact HB.o|apply ae|apply aa|apply af)|exact HB.o))):w.heap.size≤gb135));clear HB;have HB:=n0_;have BK135:=n1_;have GW135:=n2_;have GE135:=n3_;clear n0_ n1_ n2_ n3_;clear hb hbox hg;have hcz17_0:w16.cell? ⟨gb135,0,none⟩=some (.int .i64 a0_0):=(ah BK135.o 0).trans rfl;have hcz17_1:w16.cell? ⟨gb135,1,none⟩=some (.int .i64 a0_1):=(ah BK135.o 1).trans rfl;have hcz17_2:w16.cell? ⟨gb135,2,none⟩=some (.int .i64 a0_2):=(ah BK135.o 2).trans rfl;have hcz17_3:w16.cell? ⟨gb135,3,none⟩=some (.int .i64 a0_3):=(ah BK135.o 3).trans rfl;have hfz17_0:=ai BK135.o 0;have hfz17_1:=ai BK135.o 1;have hfz17_2:=ai BK135.o 2;have hfz17_3:=ai BK135.o 3)|((with_reducible refine aR (f:=54) rfl ?_);refine aZ (some 14) rfl rfl Tryd.func54 (by kernel_rfl) rfl #[.int .i64 2000,.int .i64 a0_1] rfl (by (try simp only[List.map_toArray,List.map_cons,List.map_nil]);first|done|rfl|(simp only[List.length_drop,List.length_take];rfl)) ?_;(with_reducible refine(civil_Length.calls 2000 a0_1 t136 t137 _ A3.o).mono ?_);rintro e w' ⟨rfl,⟨nd,rfl⟩⟩;refine⟨_,rfl,?_⟩))
   go_ret
   exact⟨by first|rfl|(simp[ay,az] <;> rfl)|(simp[*,ay,az] <;> rfl),by repeat(first|(with_reducible first|exact HB.o|apply ae|apply aa|apply af|refine ax ?_ GE135.o)|exact HB.o)⟩
 ·rw[if_neg c2] at H
  have c2b0:(a0_0 == 1)=false:=beq_eq_false_iff_ne.mpr c2
  have c2b1:(a0_0 != 1)=true:=bne_iff_ne.mpr c2
  by_cases c18:a0_0=2
  ·rw[if_pos c18] at H
   have c18b0:(a0_0 == 2)=true:=beq_iff_eq.mpr c18
   have c18b1:(a0_0 != 2)=false:=bne_eq_false_iff_eq.mpr c18
   clear c18
   replace H:=Option.bind_eq_some_iff.mp H
   obtain⟨⟨t138,t139,t140,t141⟩,A190,H⟩:=H
   replace H:(if t141=0 then (some 0) else (some 8))=some r:=H
   have A19:=ag.mk A190
   clear A190
   by_cases c20:t141=0
   ·rw[if_pos c20] at H
    have c20b0:(t141 == 0)=true:=beq_iff_eq.mpr c20
    have c20b1:(t141 != 0)=false:=bne_eq_false_iff_eq.mpr c20
    clear c20
    obtain rfl:=Option.some.inj H
    go_enter Tryd.func45,Tryd.ntmps45
    go_wp2_with (first|((with_reducible refine aI (N:=1) rfl ?_);refine aH ?hg (N:=1) ?hd (cs:=#[.int .i64 a0_0,.int .i64 a0_1,.int .i64 a0_2,.int .i64 a0_3]) (t:=43) ?hr ?_;(case hd=>rfl);(case hg=>rfl);(case hr=>first|(go_simp;done)|(go_simp;rfl));intro gb135 hg w21 hbox hb;have n0_:=ag.mk (aj (by repeat(first|(with_reducible first|exact HB.o|apply ae|apply aa|apply af)|exact HB.o)) hb);have n1_:=ag.mk (hbox);have n2_:=ag.mk ((by rw[hg];exact(ak (by repeat(first|(with_reducible first|exact HB.o|apply ae|apply aa|apply af)|exact HB.o))):w.heap.size≤gb135));have n3_:=ag.mk ((by rw[hg];exact(ak (by repeat(first|(with_reducible first|exact HB.o|apply ae|apply aa|apply af)|exact HB.o))):w.heap.size≤gb135));clear HB;have HB:=n0_;have BK135:=n1_;have GW135:=n2_;have GE135:=n3_;clear n0_ n1_ n2_ n3_;clear hb hbox hg;have hcz22_0:w21.cell? ⟨gb135,0,none⟩=some (.int .i64 a0_0):=(ah BK135.o 0).trans rfl;have hcz22_1:w21.cell? ⟨gb135,1,none⟩=some (.int .i64 a0_1):=(ah BK135.o 1).trans rfl;have hcz22_2:w21.cell? ⟨gb135,2,none⟩=some (.int .i64 a0_2):=(ah BK135.o 2).trans rfl;have hcz22_3:w21.cell? ⟨gb135,3,none⟩=some (.int .i64 a0_3):=(ah BK135.o 3).trans rfl;have hfz22_0:=ai BK135.o 0;have hfz22_1:=ai BK135.o 1;have hfz22_2:=ai BK135.o 2;have hfz22_3:=ai BK135.o 3)|((with_reducible refine aR (f:=51) rfl ?_);refine aZ (some 44) rfl rfl Tryd.func51 (by kernel_rfl) rfl #[.int .i64 2000,.int .i64 a0_1,.int .i64 a0_2,.int .i64 a0_3] rfl (by (try simp only[List.map_toArray,List.map_cons,List.map_nil]);first|done|rfl|(simp only[List.length_drop,List.length_take];rfl)) ?_;(with_reducible refine(civil_Nth.calls k 2000 a0_1 a0_2 a0_3 t138 t139 t140 t141 _ A19.o).mono ?_);rintro e w23 ⟨rfl,hb⟩;refine⟨_,rfl,?_⟩;have n0_:=ag.mk (aN (g:=gb135) (o:=.cells #[.int .i64 a0_0,.int .i64 a0_1,.int .i64 a0_2,.int .i64 a0_3] 43 (0,0)) (by (with_reducible repeat(first|refine av ?_ _|refine aA ?_|refine au ?_ _));exact BK135.o) hb);have n1_:=ag.mk (aj (by repeat(first|(with_reducible first|exact HB.o|apply ae|apply aa|apply af|refine ax ?_ GE135.o)|exact HB.o)) hb);clear BK135;clear HB;have BK135:=n0_;have HB:=n1_;clear n0_ n1_;(try clear hb);(try clear hb2);(try clear hk);(try clear hi))|((with_reducible refine aI (N:=5) rfl ?_);refine aH ?hg (N:=5) ?hd (cs:=#[.int .i64 0,.int .i64 0,.int .i64 0]) (t:=68) ?hr ?_;(case hd=>rfl);(case hg=>rfl);(case hr=>first|(go_simp;done)|(go_simp;rfl));intro gb142 hg w24 hbox hb;have n0_:=ag.mk (aN (g:=gb135) (o:=.cells #[.int .i64 a0_0,.int .i64 a0_1,.int .i64 a0_2,.int .i64 a0_3] 43 (0,0)) (by (with_reducible repeat(first|refine av ?_ _|refine aA ?_|refine au ?_ _));exact BK135.o) hb);have n1_:=ag.mk (aj (by repeat(first|(with_reducible first|exact HB.o|apply ae|apply aa|apply af|refine ax ?_ GE135.o)|exact HB.o)) hb);have n2_:=ag.mk (hbox);have n3_:=ag.mk ((by rw[hg];exact(ak (by repeat(first|(with_reducible first|exact HB.o|apply ae|apply aa|apply af|refine ax ?_ GE135.o)|exact HB.o))):w.heap.size≤gb142));have n4_:=ag.mk ((by rw[hg];exact(ak (by repeat(first|(with_reducible first|exact HB.o|apply ae|apply aa|apply af|refine ax ?_ GE135.o)|exact HB.o))):w.heap.size≤gb142));have n5_:=ag.mk ((by rw[hg];exact Nat.ne_of_lt (cz (g:=gb135) (o:=.cells #[.int .i64 a0_0,.int .i64 a0_1,.int .i64 a0_2,.int .i64 a0_3] 43 (0,0)) (by (with_reducible repeat(first|refine av ?_ _|refine aA ?_|refine au ?_ _));exact BK135.o)):gb135≠gb142));have n6_:=ag.mk ((by rw[hg];exact Nat.ne_of_gt (cz (g:=gb135) (o:=.cells #[.int .i64 a0_0,.int .i64 a0_1,.int .i64 a0_2,.int .i64 a0_3] 43 (0,0)) (by (with_reducible repeat(first|refine av ?_ _|refine aA ?_|refine au ?_ _));exact BK135.o)):gb142≠gb135));clear BK135;clear HB;have BK135:=n0_;have HB:=n1_;have BK142:=n2_;have GW142:=n3_;have GE142:=n4_;have NB135_142:=n5_;have NB142_135:=n6_;clear n0_ n1_ n2_ n3_ n4_ n5_ n6_;clear hb hbox hg;have hnb25:=NB142_135.o;have hnc25:=NB135_142.o;have hcz26_0:w24.cell? ⟨gb142,0,none⟩=some (.int .i64 0):=(ah BK142.o 0).trans rfl;have hcz26_1:w24.cell? ⟨gb142,1,none⟩=some (.int .i64 0):=(ah BK142.o 1).trans rfl;have hcz26_2:w24.cell? ⟨gb142,2,none⟩=some (.int .i64 0):=(ah BK142.o 2).trans rfl;have hfz26_0:=ai BK142.o 0;have hfz26_1:=ai BK142.o 1;have hfz26_2:=ai BK142.o 2))
    go_ret
    exact⟨by first|rfl|(simp[ay,az] <;> rfl)|(simp[*,ay,az] <;> rfl),by repeat(first|(with_reducible first|exact HB.o|apply ae|apply aa|apply af|refine ax ?_ GE135.o|refine ax ?_ GE142.o)|exact HB.o)⟩
   ·rw[if_neg c20] at H
    have c20b0:(t141 == 0)=false:=beq_eq_false_iff_ne.mpr c20
    have c20b1:(t141 != 0)=true:=bne_iff_ne.mpr c20
    obtain rfl:=Option.some.inj H
    go_enter Tryd.func45,Tryd.ntmps45
    go_wp2_with (first|((with_reducible refine aI (N:=1) rfl ?_);refine aH ?hg (N:=1) ?hd (cs:=#[.int .i64 a0_0,.int .i64 a0_1,.int .i64 a0_2,.int .i64 a0_3]) (t:=43) ?hr ?_;(case hd=>rfl);(case hg=>rfl);(case hr=>first|(go_simp;done)|(go_simp;rfl));intro gb135 hg w27 hbox hb;have n0_:=ag.mk (aj (by repeat(first|(with_reducible first|exact HB.o|apply ae|apply aa|apply af)|exact HB.o)) hb);have n1_:=ag.mk (hbox);have n2_:=ag.mk ((by rw[hg];exact(ak (by repeat(first|(with_reducible first|exact HB.o|apply ae|apply aa|apply af)|exact HB.o))):w.heap.size≤gb135));have n3_:=ag.mk ((by rw[hg];exact(ak (by repeat(first|(with_reducible first|exact HB.o|apply ae|apply aa|apply af)|exact HB.o))):w.heap.size≤gb135));clear HB;have HB:=n0_;have BK135:=n1_;have GW135:=n2_;have GE135:=n3_;clear n0_ n1_ n2_ n3_;clear hb hbox hg;have hcz28_0:w27.cell? ⟨gb135,0,none⟩=some (.int .i64 a0_0):=(ah BK135.o 0).trans rfl;have hcz28_1:w27.cell? ⟨gb135,1,none⟩=some (.int .i64 a0_1):=(ah BK135.o 1).trans rfl;have hcz28_2:w27.cell? ⟨gb135,2,none⟩=some (.int .i64 a0_2):=(ah BK135.o 2).trans rfl;have hcz28_3:w27.cell? ⟨gb135,3,none⟩=some (.int .i64 a0_3):=(ah BK135.o 3).trans rfl;have hfz28_0:=ai BK135.o 0;have hfz28_1:=ai BK135.o 1;have hfz28_2:=ai BK135.o 2;have hfz28_3:=ai BK135.o 3)|((with_reducible refine aR (f:=51) rfl ?_);refine aZ (some 44) rfl rfl Tryd.func51 (by kernel_rfl) rfl #[.int .i64 2000,.int .i64 a0_1,.int .i64 a0_2,.int .i64 a0_3] rfl (by (try simp only[List.map_toArray,List.map_cons,List.map_nil]);first|done|rfl|(simp only[List.length_drop,List.length_take];rfl)) ?_;(with_reducible refine(civil_Nth.calls k 2000 a0_1 a0_2 a0_3 t138 t139 t140 t141 _ A19.o).mono ?_);rintro e w29 ⟨rfl,hb⟩;refine⟨_,rfl,?_⟩;have n0_:=ag.mk (aN (g:=gb135) (o:=.cells #[.int .i64 a0_0,.int .i64 a0_1,.int .i64 a0_2,.int .i64 a0_3] 43 (0,0)) (by (with_reducible repeat(first|refine av ?_ _|refine aA ?_|refine au ?_ _));exact BK135.o) hb);have n1_:=ag.mk (aj (by repeat(first|(with_reducible first|exact HB.o|apply ae|apply aa|apply af|refine ax ?_ GE135.o)|exact HB.o)) hb);clear BK135;clear HB;have BK135:=n0_;have HB:=n1_;clear n0_ n1_;(try clear hb);(try clear hb2);(try clear hk);(try clear hi))|((with_reducible refine aI (N:=5) rfl ?_);refine aH ?hg (N:=5) ?hd (cs:=#[.int .i64 0,.int .i64 0,.int .i64 0]) (t:=68) ?hr ?_;(case hd=>rfl);(case hg=>rfl);(case hr=>first|(go_simp;done)|(go_simp;rfl));intro gb142 hg w30 hbox hb;have n0_:=ag.mk (aN (g:=gb135) (o:=.cells #[.int .i64 a0_0,.int .i64 a0_1,.int .i64 a0_2,.int .i64 a0_3] 43 (0,0)) (by (with_reducible repeat(first|refine av ?_ _|refine aA ?_|refine au ?_ _));exact BK135.o) hb);have n1_:=ag.mk (aj (by repeat(first|(with_reducible first|exact HB.o|apply ae|apply aa|apply af|refine ax ?_ GE135.o)|exact HB.o)) hb);have n2_:=ag.mk (hbox);have n3_:=ag.mk ((by rw[hg];exact(ak (by repeat(first|(with_reducible first|exact HB.o|apply ae|apply aa|apply af|refine ax ?_ GE135.o)|exact HB.o))):w.heap.size≤gb142));have n4_:=ag.mk ((by rw[hg];exact(ak (by repeat(first|(with_reducible first|exact HB.o|apply ae|apply aa|apply af|refine ax ?_ GE135.o)|exact HB.o))):w.heap.size≤gb142));have n5_:=ag.mk ((by rw[hg];exact Nat.ne_of_lt (cz (g:=gb135) (o:=.cells #[.int .i64 a0_0,.int .i64 a0_1,.int .i64 a0_2,.int .i64 a0_3] 43 (0,0)) (by (with_reducible repeat(first|refine av ?_ _|refine aA ?_|refine au ?_ _));exact BK135.o)):gb135≠gb142));have n6_:=ag.mk ((by rw[hg];exact Nat.ne_of_gt (cz (g:=gb135) (o:=.cells #[.int .i64 a0_0,.int .i64 a0_1,.int .i64 a0_2,.int .i64 a0_3] 43 (0,0)) (by (with_reducible repeat(first|refine av ?_ _|refine aA ?_|refine au ?_ _));exact BK135.o)):gb142≠gb135));clear BK135;clear HB;have BK135:=n0_;have HB:=n1_;have BK142:=n2_;have GW142:=n3_;have GE142:=n4_;have NB135_142:=n5_;have NB142_135:=n6_;clear n0_ n1_ n2_ n3_ n4_ n5_ n6_;clear hb hbox hg;have hnb31:=NB142_135.o;have hnc31:=NB135_142.o;have hcz32_0:w30.cell? ⟨gb142,0,none⟩=some (.int .i64 0):=(ah BK142.o 0).trans rfl;have hcz32_1:w30.cell? ⟨gb142,1,none⟩=some (.int .i64 0):=(ah BK142.o 1).trans rfl;have hcz32_2:w30.cell? ⟨gb142,2,none⟩=some (.int .i64 0):=(ah BK142.o 2).trans rfl;have hfz32_0:=ai BK142.o 0;have hfz32_1:=ai BK142.o 1;have hfz32_2:=ai BK142.o 2))
    go_ret
    exact⟨by first|rfl|(simp[ay,az] <;> rfl)|(simp[*,ay,az] <;> rfl),by repeat(first|(with_reducible first|exact HB.o|apply ae|apply aa|apply af|refine ax ?_ GE135.o|refine ax ?_ GE142.o)|exact HB.o)⟩
  ·rw[if_neg c18] at H
   have c18b0:(a0_0 == 2)=false:=beq_eq_false_iff_ne.mpr c18
   have c18b1:(a0_0 != 2)=true:=bne_iff_ne.mpr c18
   by_cases c33:a0_0=3
   ·rw[if_pos c33] at H
    have c33b0:(a0_0 == 3)=true:=beq_iff_eq.mpr c33
    have c33b1:(a0_0 != 3)=false:=bne_eq_false_iff_eq.mpr c33
    clear c33
    by_cases c34:a0_1≥(-100)
    ·rw[if_pos c34] at H
     have c34b0:decide ((-100)≤a0_1)=true:=decide_eq_true c34
     clear c34
     by_cases c35:a0_1≤100
     ·rw[if_pos c35] at H
      have c35b0:decide (a0_1≤100)=true:=decide_eq_true c35
      clear c35
      by_cases c36:a0_2=0
      ·rw[if_pos c36] at H
       have c36b0:(a0_2 == 0)=true:=beq_iff_eq.mpr c36
       have c36b1:(a0_2 != 0)=false:=bne_eq_false_iff_eq.mpr c36
       clear c36
       by_cases c37:a0_3=0
       ·rw[if_pos c37] at H
        have c37b0:(a0_3 == 0)=true:=beq_iff_eq.mpr c37
        have c37b1:(a0_3 != 0)=false:=bne_eq_false_iff_eq.mpr c37
        clear c37
        obtain rfl:=Option.some.inj H
        go_enter Tryd.func45,Tryd.ntmps45
        go_wp2_with (first|((with_reducible refine aI (N:=1) rfl ?_);refine aH ?hg (N:=1) ?hd (cs:=#[.int .i64 a0_0,.int .i64 a0_1,.int .i64 a0_2,.int .i64 a0_3]) (t:=43) ?hr ?_;(case hd=>rfl);(case hg=>rfl);(case hr=>first|(go_simp;done)|(go_simp;rfl));intro gb135 hg w38 hbox hb;have n0_:=ag.mk (aj (by repeat(first|(with_reducible first|exact HB.o|apply ae|apply aa|apply af)|exact HB.o)) hb);have n1_:=ag.mk (hbox);have n2_:=ag.mk ((by rw[hg];exact(ak (by repeat(first|(with_reducible first|exact HB.o|apply ae|apply aa|apply af)|exact HB.o))):w.heap.size≤gb135));have n3_:=ag.mk ((by rw[hg];exact(ak (by repeat(first|(with_reducible first|exact HB.o|apply ae|apply aa|apply af)|exact HB.o))):w.heap.size≤gb135));clear HB;have HB:=n0_;have BK135:=n1_;have GW135:=n2_;have GE135:=n3_;clear n0_ n1_ n2_ n3_;clear hb hbox hg;have hcz39_0:w38.cell? ⟨gb135,0,none⟩=some (.int .i64 a0_0):=(ah BK135.o 0).trans rfl;have hcz39_1:w38.cell? ⟨gb135,1,none⟩=some (.int .i64 a0_1):=(ah BK135.o 1).trans rfl;have hcz39_2:w38.cell? ⟨gb135,2,none⟩=some (.int .i64 a0_2):=(ah BK135.o 2).trans rfl;have hcz39_3:w38.cell? ⟨gb135,3,none⟩=some (.int .i64 a0_3):=(ah BK135.o 3).trans rfl;have hfz39_0:=ai BK135.o 0;have hfz39_1:=ai BK135.o 1;have hfz39_2:=ai BK135.o 2;have hfz39_3:=ai BK135.o 3))
        go_ret
        exact⟨by first|rfl|(simp[ay,az] <;> rfl)|(simp[*,ay,az] <;> rfl),by repeat(first|(with_reducible first|exact HB.o|apply ae|apply aa|apply af|refine ax ?_ GE135.o)|exact HB.o)⟩
       ·rw[if_neg c37] at H
        have c37b0:(a0_3 == 0)=false:=beq_eq_false_iff_ne.mpr c37
        have c37b1:(a0_3 != 0)=true:=bne_iff_ne.mpr c37
        obtain rfl:=Option.some.inj H
        go_enter Tryd.func45,Tryd.ntmps45
        go_wp2_with (first|((with_reducible refine aI (N:=1) rfl ?_);refine aH ?hg (N:=1) ?hd (cs:=#[.int .i64 a0_0,.int .i64 a0_1,.int .i64 a0_2,.int .i64 a0_3]) (t:=43) ?hr ?_;(case hd=>rfl);(case hg=>rfl);(case hr=>first|(go_simp;done)|(go_simp;rfl));intro gb135 hg w40 hbox hb;have n0_:=ag.mk (aj (by repeat(first|(with_reducible first|exact HB.o|apply ae|apply aa|apply af)|exact HB.o)) hb);have n1_:=ag.mk (hbox);have n2_:=ag.mk ((by rw[hg];exact(ak (by repeat(first|(with_reducible first|exact HB.o|apply ae|apply aa|apply af)|exact HB.o))):w.heap.size≤gb135));have n3_:=ag.mk ((by rw[hg];exact(ak (by repeat(first|(with_reducible first|exact HB.o|apply ae|apply aa|apply af)|exact HB.o))):w.heap.size≤gb135));clear HB;have HB:=n0_;have BK135:=n1_;have GW135:=n2_;have GE135:=n3_;clear n0_ n1_ n2_ n3_;clear hb hbox hg;have hcz41_0:w40.cell? ⟨gb135,0,none⟩=some (.int .i64 a0_0):=(ah BK135.o 0).trans rfl;have hcz41_1:w40.cell? ⟨gb135,1,none⟩=some (.int .i64 a0_1):=(ah BK135.o 1).trans rfl;have hcz41_2:w40.cell? ⟨gb135,2,none⟩=some (.int .i64 a0_2):=(ah BK135.o 2).trans rfl;have hcz41_3:w40.cell? ⟨gb135,3,none⟩=some (.int .i64 a0_3):=(ah BK135.o 3).trans rfl;have hfz41_0:=ai BK135.o 0;have hfz41_1:=ai BK135.o 1;have hfz41_2:=ai BK135.o 2;have hfz41_3:=ai BK135.o 3))
        go_ret
        exact⟨by first|rfl|(simp[ay,az] <;> rfl)|(simp[*,ay,az] <;> rfl),by repeat(first|(with_reducible first|exact HB.o|apply ae|apply aa|apply af|refine ax ?_ GE135.o)|exact HB.o)⟩
      ·rw[if_neg c36] at H
       have c36b0:(a0_2 == 0)=false:=beq_eq_false_iff_ne.mpr c36
       have c36b1:(a0_2 != 0)=true:=bne_iff_ne.mpr c36
       obtain rfl:=Option.some.inj H
       go_enter Tryd.func45,Tryd.ntmps45
       go_wp2_with (first|((with_reducible refine aI (N:=1) rfl ?_);refine aH ?hg (N:=1) ?hd (cs:=#[.int .i64 a0_0,.int .i64 a0_1,.int .i64 a0_2,.int .i64 a0_3]) (t:=43) ?hr ?_;(case hd=>rfl);(case hg=>rfl);(case hr=>first|(go_simp;done)|(go_simp;rfl));intro gb135 hg w42 hbox hb;have n0_:=ag.mk (aj (by repeat(first|(with_reducible first|exact HB.o|apply ae|apply aa|apply af)|exact HB.o)) hb);have n1_:=ag.mk (hbox);have n2_:=ag.mk ((by rw[hg];exact(ak (by repeat(first|(with_reducible first|exact HB.o|apply ae|apply aa|apply af)|exact HB.o))):w.heap.size≤gb135));have n3_:=ag.mk ((by rw[hg];exact(ak (by repeat(first|(with_reducible first|exact HB.o|apply ae|apply aa|apply af)|exact HB.o))):w.heap.size≤gb135));clear HB;have HB:=n0_;have BK135:=n1_;have GW135:=n2_;have GE135:=n3_;clear n0_ n1_ n2_ n3_;clear hb hbox hg;have hcz43_0:w42.cell? ⟨gb135,0,none⟩=some (.int .i64 a0_0):=(ah BK135.o 0).trans rfl;have hcz43_1:w42.cell? ⟨gb135,1,none⟩=some (.int .i64 a0_1):=(ah BK135.o 1).trans rfl;have hcz43_2:w42.cell? ⟨gb135,2,none⟩=some (.int .i64 a0_2):=(ah BK135.o 2).trans rfl;have hcz43_3:w42.cell? ⟨gb135,3,none⟩=some (.int .i64 a0_3):=(ah BK135.o 3).trans rfl;have hfz43_0:=ai BK135.o 0;have hfz43_1:=ai BK135.o 1;have hfz43_2:=ai BK135.o 2;have hfz43_3:=ai BK135.o 3))
       go_ret
       exact⟨by first|rfl|(simp[ay,az] <;> rfl)|(simp[*,ay,az] <;> rfl),by repeat(first|(with_reducible first|exact HB.o|apply ae|apply aa|apply af|refine ax ?_ GE135.o)|exact HB.o)⟩
     ·rw[if_neg c35] at H
      have c35b0:decide (a0_1≤100)=false:=decide_eq_false c35
      clear c35
      obtain rfl:=Option.some.inj H
      go_enter Tryd.func45,Tryd.ntmps45
      go_wp2_with (first|((with_reducible refine aI (N:=1) rfl ?_);refine aH ?hg (N:=1) ?hd (cs:=#[.int .i64 a0_0,.int .i64 a0_1,.int .i64 a0_2,.int .i64 a0_3]) (t:=43) ?hr ?_;(case hd=>rfl);(case hg=>rfl);(case hr=>first|(go_simp;done)|(go_simp;rfl));intro gb135 hg w44 hbox hb;have n0_:=ag.mk (aj (by repeat(first|(with_reducible first|exact HB.o|apply ae|apply aa|apply af)|exact HB.o)) hb);have n1_:=ag.mk (hbox);have n2_:=ag.mk ((by rw[hg];exact(ak (by repeat(first|(with_reducible first|exact HB.o|apply ae|apply aa|apply af)|exact HB.o))):w.heap.size≤gb135));have n3_:=ag.mk ((by rw[hg];exact(ak (by repeat(first|(with_reducible first|exact HB.o|apply ae|apply aa|apply af)|exact HB.o))):w.heap.size≤gb135));clear HB;have HB:=n0_;have BK135:=n1_;have GW135:=n2_;have GE135:=n3_;clear n0_ n1_ n2_ n3_;clear hb hbox hg;have hcz45_0:w44.cell? ⟨gb135,0,none⟩=some (.int .i64 a0_0):=(ah BK135.o 0).trans rfl;have hcz45_1:w44.cell? ⟨gb135,1,none⟩=some (.int .i64 a0_1):=(ah BK135.o 1).trans rfl;have hcz45_2:w44.cell? ⟨gb135,2,none⟩=some (.int .i64 a0_2):=(ah BK135.o 2).trans rfl;have hcz45_3:w44.cell? ⟨gb135,3,none⟩=some (.int .i64 a0_3):=(ah BK135.o 3).trans rfl;have hfz45_0:=ai BK135.o 0;have hfz45_1:=ai BK135.o 1;have hfz45_2:=ai BK135.o 2;have hfz45_3:=ai BK135.o 3))
      go_ret
      exact⟨by first|rfl|(simp[ay,az] <;> rfl)|(simp[*,ay,az] <;> rfl),by repeat(first|(with_reducible first|exact HB.o|apply ae|apply aa|apply af|refine ax ?_ GE135.o)|exact HB.o)⟩
    ·rw[if_neg c34] at H
     have c34b0:decide ((-100)≤a0_1)=false:=decide_eq_false c34
     clear c34
     obtain rfl:=Option.some.inj H
     go_enter Tryd.func45,Tryd.ntmps45
     go_wp2_with (first|((with_reducible refine aI (N:=1) rfl ?_);refine aH ?hg (N:=1) ?hd (cs:=#[.int .i64 a0_0,.int .i64 a0_1,.int .i64 a0_2,.int .i64 a0_3]) (t:=43) ?hr ?_;(case hd=>rfl);(case hg=>rfl);(case hr=>first|(go_simp;done)|(go_simp;rfl));intro gb135 hg w46 hbox hb;have n0_:=ag.mk (aj (by repeat(first|(with_reducible first|exact HB.o|apply ae|apply aa|apply af)|exact HB.o)) hb);have n1_:=ag.mk (hbox);have n2_:=ag.mk ((by rw[hg];exact(ak (by repeat(first|(with_reducible first|exact HB.o|apply ae|apply aa|apply af)|exact HB.o))):w.heap.size≤gb135));have n3_:=ag.mk ((by rw[hg];exact(ak (by repeat(first|(with_reducible first|exact HB.o|apply ae|apply aa|apply af)|exact HB.o))):w.heap.size≤gb135));clear HB;have HB:=n0_;have BK135:=n1_;have GW135:=n2_;have GE135:=n3_;clear n0_ n1_ n2_ n3_;clear hb hbox hg;have hcz47_0:w46.cell? ⟨gb135,0,none⟩=some (.int .i64 a0_0):=(ah BK135.o 0).trans rfl;have hcz47_1:w46.cell? ⟨gb135,1,none⟩=some (.int .i64 a0_1):=(ah BK135.o 1).trans rfl;have hcz47_2:w46.cell? ⟨gb135,2,none⟩=some (.int .i64 a0_2):=(ah BK135.o 2).trans rfl;have hcz47_3:w46.cell? ⟨gb135,3,none⟩=some (.int .i64 a0_3):=(ah BK135.o 3).trans rfl;have hfz47_0:=ai BK135.o 0;have hfz47_1:=ai BK135.o 1;have hfz47_2:=ai BK135.o 2;have hfz47_3:=ai BK135.o 3))
     go_ret
     exact⟨by first|rfl|(simp[ay,az] <;> rfl)|(simp[*,ay,az] <;> rfl),by repeat(first|(with_reducible first|exact HB.o|apply ae|apply aa|apply af|refine ax ?_ GE135.o)|exact HB.o)⟩
   ·rw[if_neg c33] at H
    have c33b0:(a0_0 == 3)=false:=beq_eq_false_iff_ne.mpr c33
    have c33b1:(a0_0 != 3)=true:=bne_iff_ne.mpr c33
    obtain rfl:=Option.some.inj H
    go_enter Tryd.func45,Tryd.ntmps45
    go_wp2_with (first|((with_reducible refine aI (N:=1) rfl ?_);refine aH ?hg (N:=1) ?hd (cs:=#[.int .i64 a0_0,.int .i64 a0_1,.int .i64 a0_2,.int .i64 a0_3]) (t:=43) ?hr ?_;(case hd=>rfl);(case hg=>rfl);(case hr=>first|(go_simp;done)|(go_simp;rfl));intro gb135 hg w48 hbox hb;have n0_:=ag.mk (aj (by repeat(first|(with_reducible first|exact HB.o|apply ae|apply aa|apply af)|exact HB.o)) hb);have n1_:=ag.mk (hbox);have n2_:=ag.mk ((by rw[hg];exact(ak (by repeat(first|(with_reducible first|exact HB.o|apply ae|apply aa|apply af)|exact HB.o))):w.heap.size≤gb135));have n3_:=ag.mk ((by rw[hg];exact(ak (by repeat(first|(with_reducible first|exact HB.o|apply ae|apply aa|apply af)|exact HB.o))):w.heap.size≤gb135));clear HB;have HB:=n0_;have BK135:=n1_;have GW135:=n2_;have GE135:=n3_;clear n0_ n1_ n2_ n3_;clear hb hbox hg;have hcz49_0:w48.cell? ⟨gb135,0,none⟩=some (.int .i64 a0_0):=(ah BK135.o 0).trans rfl;have hcz49_1:w48.cell? ⟨gb135,1,none⟩=some (.int .i64 a0_1):=(ah BK135.o 1).trans rfl;have hcz49_2:w48.cell? ⟨gb135,2,none⟩=some (.int .i64 a0_2):=(ah BK135.o 2).trans rfl;have hcz49_3:w48.cell? ⟨gb135,3,none⟩=some (.int .i64 a0_3):=(ah BK135.o 3).trans rfl;have hfz49_0:=ai BK135.o 0;have hfz49_1:=ai BK135.o 1;have hfz49_2:=ai BK135.o 2;have hfz49_3:=ai BK135.o 3))
    go_ret
    exact⟨by first|rfl|(simp[ay,az] <;> rfl)|(simp[*,ay,az] <;> rfl),by repeat(first|(with_reducible first|exact HB.o|apply ae|apply aa|apply af|refine ax ?_ GE135.o)|exact HB.o)⟩
def sound_holidays.l0:Nat → List (S43) → List (S43) → Int → Int → Option (Bool)
 |0,_,_,_,_=>none
 |k+1,x0,x5,x6,x7=>if x7 < x6 then (if 0≤x7 then (if x7 < (x5.length:Int) then ((holiday_Check.f k ((aW x5 x7).f0) ((aW x5 x7).f1) ((aW x5 x7).f2) ((aW x5 x7).f3)).bind fun t145=>(if t145=0 then (sound_holidays.l0 k x0 x5 x6 (wrap64 (x7+1))) else (some false))) else (none)) else (none)) else (some (decide ((x0.length:Int)≤64)))
def sound_holidays.f (k:Nat) (l0:List (S43)):Option (Bool):=sound_holidays.l0 k l0 l0 (l0.length:Int) 0
theorem sound_holidays.mono_l : ∀ k,(∀ y0 y1 y2 y3,LeO (sound_holidays.l0 k y0 y1 y2 y3) (sound_holidays.l0 (k+1) y0 y1 y2 y3))
 |0=>fun _ _ _ _ r h=>by simp[sound_holidays.l0] at h
 |k+1=>by
  have ih0:=sound_holidays.mono_l k
  ·intro y0 y1 y2 y3
   unfold sound_holidays.l0
   repeat' first
   |(with_reducible exact ih0 _ _ _ _)
   |(with_reducible exact holiday_Check.mono _ _ _ _ _)
   |(with_reducible exact LeO.refl _)
   |(with_reducible exact LeO.none _)
   |(with_reducible refine LeO.ite ?_ ?_)
   |(with_reducible refine LeO.bind ?_ (fun _=>?_))
   |exact ih0 _ _ _ _
   |exact holiday_Check.mono _ _ _ _ _
   |exact LeO.none _
   |refine LeO.ite ?_ ?_
   |refine LeO.bind ?_ (fun _=>?_)
theorem sound_holidays.mono : ∀ a0 k,LeO (sound_holidays.f k a0) (sound_holidays.f (k+1) a0):=by
 intro a0 k
 have ih0:=sound_holidays.mono_l k
 unfold sound_holidays.f
 repeat' first
   |(with_reducible exact ih0 _ _ _ _)
   |(with_reducible exact holiday_Check.mono _ _ _ _ _)
   |(with_reducible exact LeO.refl _)
   |(with_reducible exact LeO.none _)
   |(with_reducible refine LeO.ite ?_ ?_)
   |(with_reducible refine LeO.bind ?_ (fun _=>?_))
   |exact ih0 _ _ _ _
   |exact holiday_Check.mono _ _ _ _ _
   |exact LeO.none _
   |refine LeO.ite ?_ ?_
   |refine LeO.bind ?_ (fun _=>?_)
set_option maxHeartbeats 8000000 in
set_option maxRecDepth 100000 in
theorem sound_holidays.calls (k:Nat) (A0:Option Addr) (c0:Nat) (l0:List (S43)) (r:Bool) (w:World) (hr0:Kd.C k43 w A0 l0.length l0) (hc0:l0.length≤c0) (h:sound_holidays.f k l0=some r) :
  Calls Tryd.prog 32 #[.slice A0 l0.length c0] w fun e w'=>e = .returned (.bool r)∧Below w.heap.size w w':=by
 have hu43:=Tryd.underlying43
 have HR0:=ag.mk hr0
 have HC0:=ag.mk hc0
 clear hr0 hc0
 have HB:=ag.mk (Below.refl w.heap.size w)
 have H:(sound_holidays.l0 k l0 l0 (l0.length:Int) 0)=some r:=h
 clear h
 have H':=ag.mk H
 clear H
 go_enter Tryd.func32,Tryd.ntmps32
 go_wp2
 go_loopg [7] k (fun kq v7 w'=>∃ (x7_1:Int),v7 = .int .i64 x7_1∧ag (sound_holidays.l0 kq l0 l0 (l0.length:Int) x7_1=some r)∧ag (kq≤k)∧ag (Below w.heap.size w w'))
 case atStart=>exact⟨(0),(by first|rfl|(simp;done)|(simp[*];done)|(simp[aJ];done)|(simp[aK];done)),H',⟨Nat.le_refl _⟩,⟨by repeat(first|(with_reducible first|exact HB.o|apply ae|apply aa|apply af)|exact HB.o)⟩⟩
 case round=>
  clear H'
  obtain⟨x7_1,rfl,HA,HK1,HB⟩:=hrel
  cases gk with
  |zero=>exact absurd HA.o (by simp[sound_holidays.l0])
  |succ k1=>
   have H:=HA.o
   clear HA
   simp only[sound_holidays.l0] at H
   by_cases c2:x7_1 < (l0.length:Int)
   ·rw[if_pos c2] at H
    have c2b0:decide (x7_1 < (l0.length:Int))=true:=decide_eq_true c2
    clear c2
    by_cases c3:0≤x7_1
    ·rw[if_pos c3] at H
     have c3b0:decide (0≤x7_1)=true:=decide_eq_true c3
     clear c3
     by_cases c4:x7_1 < (l0.length:Int)
     ·rw[if_pos c4] at H
      have c4b0:decide (x7_1 < (l0.length:Int))=true:=decide_eq_true c4
      clear c4
      replace H:=Option.bind_eq_some_iff.mp H
      obtain⟨t145,A50,H⟩:=H
      replace H:(if t145=0 then (sound_holidays.l0 k1 l0 l0 (l0.length:Int) (wrap64 (x7_1+1))) else (some false))=some r:=H
      have A5:=ag.mk A50
      clear A50
      by_cases c6:t145=0
      ·rw[if_pos c6] at H
       have c6b0:(t145 == 0)=true:=beq_iff_eq.mpr c6
       have c6b1:(t145 != 0)=false:=bne_eq_false_iff_eq.mpr c6
       clear c6
       have H':=ag.mk H
       clear H
       have p143:0≤(x7_1:Int):=of_decide_eq_true (by first|(with_reducible assumption)|assumption)
       have q143:x7_1 < (l0.length:Int):=of_decide_eq_true (by first|(with_reducible assumption)|assumption)
       obtain⟨ad143,e143,hx143_0,hx143_1,hx143_2,hx143_3⟩:=at_T43 HR0.o x7_1 p143 q143
       cases e143
       replace hx143_0:=cqq HB.o hx143_0
       replace hx143_1:=cqq HB.o hx143_1
       replace hx143_2:=cqq HB.o hx143_2
       replace hx143_3:=cqq HB.o hx143_3
       replace p143:=eq_true p143
       replace q143:=eq_true q143
       go_wp2_with (first|((with_reducible refine aI (N:=4) rfl ?_);refine aH ?hg (N:=4) ?hd (cs:=#[.int .i64 0,.int .i64 0,.int .i64 0,.int .i64 0]) (t:=43) ?hr ?_;(case hd=>rfl);(case hg=>rfl);(case hr=>first|(go_simp;done)|(go_simp;rfl));intro gb144 hg w7 hbox hb;have n0_:=ag.mk (aj (by repeat(first|(with_reducible first|exact HB.o|apply ae|apply aa|apply af)|exact HB.o)) hb);have n1_:=ag.mk (hbox);have n2_:=ag.mk ((by rw[hg];exact(ak (by repeat(first|(with_reducible first|exact HB.o|apply ae|apply aa|apply af)|exact HB.o))):w.heap.size≤gb144));have n3_:=ag.mk ((by rw[hg];exact(ak (by repeat(first|(with_reducible first|exact HB.o|apply ae|apply aa|apply af)|exact HB.o))):w.heap.size≤gb144));clear HB;have HB:=n0_;have BK144:=n1_;have GW144:=n2_;have GE144:=n3_;clear n0_ n1_ n2_ n3_;clear hb hbox hg;have hcz8_0:w7.cell? ⟨gb144,0,none⟩=some (.int .i64 0):=(ah BK144.o 0).trans rfl;have hcz8_1:w7.cell? ⟨gb144,1,none⟩=some (.int .i64 0):=(ah BK144.o 1).trans rfl;have hcz8_2:w7.cell? ⟨gb144,2,none⟩=some (.int .i64 0):=(ah BK144.o 2).trans rfl;have hcz8_3:w7.cell? ⟨gb144,3,none⟩=some (.int .i64 0):=(ah BK144.o 3).trans rfl;have hfz8_0:=ai BK144.o 0;have hfz8_1:=ai BK144.o 1;have hfz8_2:=ai BK144.o 2;have hfz8_3:=ai BK144.o 3)|((with_reducible refine aR (f:=45) rfl ?_);refine aZ (some 12) rfl rfl Tryd.func45 (by kernel_rfl) rfl #[.agg #[.int .i64 ((aW l0 x7_1).f0),.int .i64 ((aW l0 x7_1).f1),.int .i64 ((aW l0 x7_1).f2),.int .i64 ((aW l0 x7_1).f3)]] rfl (by (try simp only[List.map_toArray,List.map_cons,List.map_nil]);first|done|rfl|(simp only[List.length_drop,List.length_take];rfl)) ?_;(with_reducible refine(holiday_Check.calls k1 ((aW l0 x7_1).f0) ((aW l0 x7_1).f1) ((aW l0 x7_1).f2) ((aW l0 x7_1).f3) t145 _ A5.o).mono ?_);rintro e w9 ⟨rfl,hb⟩;refine⟨_,rfl,?_⟩;have n0_:=ag.mk (aN (g:=gb144) (o:=.cells #[.int .i64 ((aW l0 x7_1).f0),.int .i64 ((aW l0 x7_1).f1),.int .i64 ((aW l0 x7_1).f2),.int .i64 ((aW l0 x7_1).f3)] 43 (0,0)) (by (with_reducible repeat(first|refine av ?_ _|refine aA ?_|refine au ?_ _));refine aX (cs:=#[.int .i64 ((aW l0 x7_1).f0),.int .i64 ((aW l0 x7_1).f1),.int .i64 ((aW l0 x7_1).f2),.int .i64 0]) ?_ 3 _ rfl;(with_reducible repeat(first|refine av ?_ _|refine aA ?_|refine au ?_ _));refine aX (cs:=#[.int .i64 ((aW l0 x7_1).f0),.int .i64 ((aW l0 x7_1).f1),.int .i64 0,.int .i64 0]) ?_ 2 _ rfl;(with_reducible repeat(first|refine av ?_ _|refine aA ?_|refine au ?_ _));refine aX (cs:=#[.int .i64 ((aW l0 x7_1).f0),.int .i64 0,.int .i64 0,.int .i64 0]) ?_ 1 _ rfl;(with_reducible repeat(first|refine av ?_ _|refine aA ?_|refine au ?_ _));refine aX (cs:=#[.int .i64 0,.int .i64 0,.int .i64 0,.int .i64 0]) ?_ 0 _ rfl;(with_reducible repeat(first|refine av ?_ _|refine aA ?_|refine au ?_ _));exact BK144.o) hb);have n1_:=ag.mk (aj (by repeat(first|(with_reducible first|exact HB.o|apply ae|apply aa|apply af|refine ax ?_ GE144.o)|exact HB.o)) hb);clear BK144;clear HB;have BK144:=n0_;have HB:=n1_;clear n0_ n1_;(try clear hb);(try clear hb2);(try clear hk);(try clear hi)))
       go_roundg k1
       case measure=>have:=HK1.o;omega
       case rel=>exact⟨(wrap64 (x7_1+1)),(by first|rfl|(simp;done)|(simp[*];done)|(simp[aJ];done)|(simp[aK];done)),H',⟨by have:=HK1.o;omega⟩,⟨by repeat(first|(with_reducible first|exact HB.o|apply ae|apply aa|apply af|refine ax ?_ GE144.o)|exact HB.o)⟩⟩
      ·rw[if_neg c6] at H
       have c6b0:(t145 == 0)=false:=beq_eq_false_iff_ne.mpr c6
       have c6b1:(t145 != 0)=true:=bne_iff_ne.mpr c6
       obtain rfl:=Option.some.inj H
       have p143:0≤(x7_1:Int):=of_decide_eq_true (by first|(with_reducible assumption)|assumption)
       have q143:x7_1 < (l0.length:Int):=of_decide_eq_true (by first|(with_reducible assumption)|assumption)
       obtain⟨ad143,e143,hx143_0,hx143_1,hx143_2,hx143_3⟩:=at_T43 HR0.o x7_1 p143 q143
       cases e143
       replace hx143_0:=cqq HB.o hx143_0
       replace hx143_1:=cqq HB.o hx143_1
       replace hx143_2:=cqq HB.o hx143_2
       replace hx143_3:=cqq HB.o hx143_3
       replace p143:=eq_true p143
       replace q143:=eq_true q143
       go_wp2_with (first|((with_reducible refine aI (N:=4) rfl ?_);refine aH ?hg (N:=4) ?hd (cs:=#[.int .i64 0,.int .i64 0,.int .i64 0,.int .i64 0]) (t:=43) ?hr ?_;(case hd=>rfl);(case hg=>rfl);(case hr=>first|(go_simp;done)|(go_simp;rfl));intro gb144 hg w10 hbox hb;have n0_:=ag.mk (aj (by repeat(first|(with_reducible first|exact HB.o|apply ae|apply aa|apply af)|exact HB.o)) hb);have n1_:=ag.mk (hbox);have n2_:=ag.mk ((by rw[hg];exact(ak (by repeat(first|(with_reducible first|exact HB.o|apply ae|apply aa|apply af)|exact HB.o))):w.heap.size≤gb144));have n3_:=ag.mk ((by rw[hg];exact(ak (by repeat(first|(with_reducible first|exact HB.o|apply ae|apply aa|apply af)|exact HB.o))):w.heap.size≤gb144));clear HB;have HB:=n0_;have BK144:=n1_;have GW144:=n2_;have GE144:=n3_;clear n0_ n1_ n2_ n3_;clear hb hbox hg;have hcz11_0:w10.cell? ⟨gb144,0,none⟩=some (.int .i64 0):=(ah BK144.o 0).trans rfl;have hcz11_1:w10.cell? ⟨gb144,1,none⟩=some (.int .i64 0):=(ah BK144.o 1).trans rfl;have hcz11_2:w10.cell? ⟨gb144,2,none⟩=some (.int .i64 0):=(ah BK144.o 2).trans rfl;have hcz11_3:w10.cell? ⟨gb144,3,none⟩=some (.int .i64 0):=(ah BK144.o 3).trans rfl;have hfz11_0:=ai BK144.o 0;have hfz11_1:=ai BK144.o 1;have hfz11_2:=ai BK144.o 2;have hfz11_3:=ai BK144.o 3)|((with_reducible refine aR (f:=45) rfl ?_);refine aZ (some 12) rfl rfl Tryd.func45 (by kernel_rfl) rfl #[.agg #[.int .i64 ((aW l0 x7_1).f0),.int .i64 ((aW l0 x7_1).f1),.int .i64 ((aW l0 x7_1).f2),.int .i64 ((aW l0 x7_1).f3)]] rfl (by (try simp only[List.map_toArray,List.map_cons,List.map_nil]);first|done|rfl|(simp only[List.length_drop,List.length_take];rfl)) ?_;(with_reducible refine(holiday_Check.calls k1 ((aW l0 x7_1).f0) ((aW l0 x7_1).f1) ((aW l0 x7_1).f2) ((aW l0 x7_1).f3) t145 _ A5.o).mono ?_);rintro e w12 ⟨rfl,hb⟩;refine⟨_,rfl,?_⟩;have n0_:=ag.mk (aN (g:=gb144) (o:=.cells #[.int .i64 ((aW l0 x7_1).f0),.int .i64 ((aW l0 x7_1).f1),.int .i64 ((aW l0 x7_1).f2),.int .i64 ((aW l0 x7_1).f3)] 43 (0,0)) (by (with_reducible repeat(first|refine av ?_ _|refine aA ?_|refine au ?_ _));refine aX (cs:=#[.int .i64 ((aW l0 x7_1).f0),.int .i64 ((aW l0 x7_1).f1),.int .i64 ((aW l0 x7_1).f2),.int .i64 0]) ?_ 3 _ rfl;(with_reducible repeat(first|refine av ?_ _|refine aA ?_|refine au ?_ _));refine aX (cs:=#[.int .i64 ((aW l0 x7_1).f0),.int .i64 ((aW l0 x7_1).f1),.int .i64 0,.int .i64 0]) ?_ 2 _ rfl;(with_reducible repeat(first|refine av ?_ _|refine aA ?_|refine au ?_ _));refine aX (cs:=#[.int .i64 ((aW l0 x7_1).f0),.int .i64 0,.int .i64 0,.int .i64 0]) ?_ 1 _ rfl;(with_reducible repeat(first|refine av ?_ _|refine aA ?_|refine au ?_ _));refine aX (cs:=#[.int .i64 0,.int .i64 0,.int .i64 0,.int .i64 0]) ?_ 0 _ rfl;(with_reducible repeat(first|refine av ?_ _|refine aA ?_|refine au ?_ _));exact BK144.o) hb);have n1_:=ag.mk (aj (by repeat(first|(with_reducible first|exact HB.o|apply ae|apply aa|apply af|refine ax ?_ GE144.o)|exact HB.o)) hb);clear BK144;clear HB;have BK144:=n0_;have HB:=n1_;clear n0_ n1_;(try clear hb);(try clear hb2);(try clear hk);(try clear hi)))
       go_ret
       exact⟨by first|rfl|(simp[ay,az] <;> rfl)|(simp[*,ay,az] <;> rfl),by repeat(first|(with_reducible first|exact HB.o|apply ae|apply aa|apply af|refine ax ?_ GE144.o)|exact HB.o)⟩
     ·rw[if_neg c4] at H
      exact absurd H (by simp)
    ·rw[if_neg c3] at H
     exact absurd H (by simp)
   ·rw[if_neg c2] at H
    have c2b0:decide (x7_1 < (l0.length:Int))=false:=decide_eq_false c2
    clear c2
    obtain rfl:=Option.some.inj H
    go_wp2
    go_ret
    exact⟨by first|rfl|(simp[ay,az] <;> rfl)|(simp[*,ay,az] <;> rfl),by repeat(first|(with_reducible first|exact HB.o|apply ae|apply aa|apply af)|exact HB.o)⟩
def zone_good.f (k:Nat) (a0_0:Int) (a0_1:Int) (a0_2:Int) (a0_3:Int):Option (Bool):=(civil_Nth.f k 2000 a0_0 a0_1 a0_2).bind fun bt147=>(if bt147.2.2.2=0 then (if a0_3≥60 then (some (decide (a0_3≤1380))) else (some false)) else (some false))
set_option maxHeartbeats 8000000 in
set_option maxRecDepth 100000 in
theorem zone_good.calls (k:Nat) (a0_0:Int) (a0_1:Int) (a0_2:Int) (a0_3:Int) (r:Bool) (w:World) (h:zone_good.f k a0_0 a0_1 a0_2 a0_3=some r) :
  Calls Tryd.prog 43 #[.agg #[.int .i64 a0_0,.int .i64 a0_1,.int .i64 a0_2,.int .i64 a0_3]] w fun e w'=>e = .returned (.bool r)∧Below w.heap.size w w':=by
 have hu23:=Tryd.underlying23
 have hu68:=Tryd.underlying68
 have HB:=ag.mk (Below.refl w.heap.size w)
 have H:((civil_Nth.f k 2000 a0_0 a0_1 a0_2).bind fun bt147=>(if bt147.2.2.2=0 then (if a0_3≥60 then (some (decide (a0_3≤1380))) else (some false)) else (some false)))=some r:=h
 clear h
 replace H:=Option.bind_eq_some_iff.mp H
 obtain⟨⟨t147,t148,t149,t150⟩,A20,H⟩:=H
 replace H:(if t150=0 then (if a0_3≥60 then (some (decide (a0_3≤1380))) else (some false)) else (some false))=some r:=H
 have A2:=ag.mk A20
 clear A20
 by_cases c3:t150=0
 ·rw[if_pos c3] at H
  have c3b0:(t150 == 0)=true:=beq_iff_eq.mpr c3
  have c3b1:(t150 != 0)=false:=bne_eq_false_iff_eq.mpr c3
  clear c3
  by_cases c4:a0_3≥60
  ·rw[if_pos c4] at H
   have c4b0:decide (60≤a0_3)=true:=decide_eq_true c4
   clear c4
   obtain rfl:=Option.some.inj H
   go_enter Tryd.func43,Tryd.ntmps43
   go_wp2_with (first|((with_reducible refine aI (N:=1) rfl ?_);refine aH ?hg (N:=1) ?hd (cs:=#[.int .i64 a0_0,.int .i64 a0_1,.int .i64 a0_2,.int .i64 a0_3]) (t:=23) ?hr ?_;(case hd=>rfl);(case hg=>rfl);(case hr=>first|(go_simp;done)|(go_simp;rfl));intro gb146 hg w5 hbox hb;have n0_:=ag.mk (aj (by repeat(first|(with_reducible first|exact HB.o|apply ae|apply aa|apply af)|exact HB.o)) hb);have n1_:=ag.mk (hbox);have n2_:=ag.mk ((by rw[hg];exact(ak (by repeat(first|(with_reducible first|exact HB.o|apply ae|apply aa|apply af)|exact HB.o))):w.heap.size≤gb146));have n3_:=ag.mk ((by rw[hg];exact(ak (by repeat(first|(with_reducible first|exact HB.o|apply ae|apply aa|apply af)|exact HB.o))):w.heap.size≤gb146));clear HB;have HB:=n0_;have BK146:=n1_;have GW146:=n2_;have GE146:=n3_;clear n0_ n1_ n2_ n3_;clear hb hbox hg;have hcz6_0:w5.cell? ⟨gb146,0,none⟩=some (.int .i64 a0_0):=(ah BK146.o 0).trans rfl;have hcz6_1:w5.cell? ⟨gb146,1,none⟩=some (.int .i64 a0_1):=(ah BK146.o 1).trans rfl;have hcz6_2:w5.cell? ⟨gb146,2,none⟩=some (.int .i64 a0_2):=(ah BK146.o 2).trans rfl;have hcz6_3:w5.cell? ⟨gb146,3,none⟩=some (.int .i64 a0_3):=(ah BK146.o 3).trans rfl;have hfz6_0:=ai BK146.o 0;have hfz6_1:=ai BK146.o 1;have hfz6_2:=ai BK146.o 2;have hfz6_3:=ai BK146.o 3)|((with_reducible refine aR (f:=51) rfl ?_);refine aZ (some 12) rfl rfl Tryd.func51 (by kernel_rfl) rfl #[.int .i64 2000,.int .i64 a0_0,.int .i64 a0_1,.int .i64 a0_2] rfl (by (try simp only[List.map_toArray,List.map_cons,List.map_nil]);first|done|rfl|(simp only[List.length_drop,List.length_take];rfl)) ?_;(with_reducible refine(civil_Nth.calls k 2000 a0_0 a0_1 a0_2 t147 t148 t149 t150 _ A2.o).mono ?_);rintro e w7 ⟨rfl,hb⟩;refine⟨_,rfl,?_⟩;have n0_:=ag.mk (aN (g:=gb146) (o:=.cells #[.int .i64 a0_0,.int .i64 a0_1,.int .i64 a0_2,.int .i64 a0_3] 23 (0,0)) (by (with_reducible repeat(first|refine av ?_ _|refine aA ?_|refine au ?_ _));exact BK146.o) hb);have n1_:=ag.mk (aj (by repeat(first|(with_reducible first|exact HB.o|apply ae|apply aa|apply af|refine ax ?_ GE146.o)|exact HB.o)) hb);clear BK146;clear HB;have BK146:=n0_;have HB:=n1_;clear n0_ n1_;(try clear hb);(try clear hb2);(try clear hk);(try clear hi))|((with_reducible refine aI (N:=3) rfl ?_);refine aH ?hg (N:=3) ?hd (cs:=#[.int .i64 0,.int .i64 0,.int .i64 0]) (t:=68) ?hr ?_;(case hd=>rfl);(case hg=>rfl);(case hr=>first|(go_simp;done)|(go_simp;rfl));intro gb151 hg w8 hbox hb;have n0_:=ag.mk (aN (g:=gb146) (o:=.cells #[.int .i64 a0_0,.int .i64 a0_1,.int .i64 a0_2,.int .i64 a0_3] 23 (0,0)) (by (with_reducible repeat(first|refine av ?_ _|refine aA ?_|refine au ?_ _));exact BK146.o) hb);have n1_:=ag.mk (aj (by repeat(first|(with_reducible first|exact HB.o|apply ae|apply aa|apply af|refine ax ?_ GE146.o)|exact HB.o)) hb);have n2_:=ag.mk (hbox);have n3_:=ag.mk ((by rw[hg];exact(ak (by repeat(first|(with_reducible first|exact HB.o|apply ae|apply aa|apply af|refine ax ?_ GE146.o)|exact HB.o))):w.heap.size≤gb151));have n4_:=ag.mk ((by rw[hg];exact(ak (by repeat(first|(with_reducible first|exact HB.o|apply ae|apply aa|apply af|refine ax ?_ GE146.o)|exact HB.o))):w.heap.size≤gb151));have n5_:=ag.mk ((by rw[hg];exact Nat.ne_of_lt (cz (g:=gb146) (o:=.cells #[.int .i64 a0_0,.int .i64 a0_1,.int .i64 a0_2,.int .i64 a0_3] 23 (0,0)) (by (with_reducible repeat(first|refine av ?_ _|refine aA ?_|refine au ?_ _));exact BK146.o)):gb146≠gb151));have n6_:=ag.mk ((by rw[hg];exact Nat.ne_of_gt (cz (g:=gb146) (o:=.cells #[.int .i64 a0_0,.int .i64 a0_1,.int .i64 a0_2,.int .i64 a0_3] 23 (0,0)) (by (with_reducible repeat(first|refine av ?_ _|refine aA ?_|refine au ?_ _));exact BK146.o)):gb151≠gb146));clear BK146;clear HB;have BK146:=n0_;have HB:=n1_;have BK151:=n2_;have GW151:=n3_;have GE151:=n4_;have NB146_151:=n5_;have NB151_146:=n6_;clear n0_ n1_ n2_ n3_ n4_ n5_ n6_;clear hb hbox hg;have hnb9:=NB151_146.o;have hnc9:=NB146_151.o;have hcz10_0:w8.cell? ⟨gb151,0,none⟩=some (.int .i64 0):=(ah BK151.o 0).trans rfl;have hcz10_1:w8.cell? ⟨gb151,1,none⟩=some (.int .i64 0):=(ah BK151.o 1).trans rfl;have hcz10_2:w8.cell? ⟨gb151,2,none⟩=some (.int .i64 0):=(ah BK151.o 2).trans rfl;have hfz10_0:=ai BK151.o 0;have hfz10_1:=ai BK151.o 1;have hfz10_2:=ai BK151.o 2;have hcz11_0:w8.cell? ⟨gb146,0,none⟩=some (.int .i64 a0_0):=(ah BK146.o 0).trans rfl;have hcz11_1:w8.cell? ⟨gb146,1,none⟩=some (.int .i64 a0_1):=(ah BK146.o 1).trans rfl;have hcz11_2:w8.cell? ⟨gb146,2,none⟩=some (.int .i64 a0_2):=(ah BK146.o 2).trans rfl;have hcz11_3:w8.cell? ⟨gb146,3,none⟩=some (.int .i64 a0_3):=(ah BK146.o 3).trans rfl;have hfz11_0:=ai BK146.o 0;have hfz11_1:=ai BK146.o 1;have hfz11_2:=ai BK146.o 2;have hfz11_3:=ai BK146.o 3))
   go_ret
   exact⟨by first|rfl|(simp[ay,az] <;> rfl)|(simp[*,ay,az] <;> rfl),by repeat(first|(with_reducible first|exact HB.o|apply ae|apply aa|apply af|refine ax ?_ GE146.o|refine ax ?_ GE151.o)|exact HB.o)⟩
  ·rw[if_neg c4] at H
   have c4b0:decide (60≤a0_3)=false:=decide_eq_false c4
   clear c4
   obtain rfl:=Option.some.inj H
   go_enter Tryd.func43,Tryd.ntmps43
   go_wp2_with (first|((with_reducible refine aI (N:=1) rfl ?_);refine aH ?hg (N:=1) ?hd (cs:=#[.int .i64 a0_0,.int .i64 a0_1,.int .i64 a0_2,.int .i64 a0_3]) (t:=23) ?hr ?_;(case hd=>rfl);(case hg=>rfl);(case hr=>first|(go_simp;done)|(go_simp;rfl));intro gb146 hg w12 hbox hb;have n0_:=ag.mk (aj (by repeat(first|(with_reducible first|exact HB.o|apply ae|apply aa|apply af)|exact HB.o)) hb);have n1_:=ag.mk (hbox);have n2_:=ag.mk ((by rw[hg];exact(ak (by repeat(first|(with_reducible first|exact HB.o|apply ae|apply aa|apply af)|exact HB.o))):w.heap.size≤gb146));have n3_:=ag.mk ((by rw[hg];exact(ak (by repeat(first|(with_reducible first|exact HB.o|apply ae|apply aa|apply af)|exact HB.o))):w.heap.size≤gb146));clear HB;have HB:=n0_;have BK146:=n1_;have GW146:=n2_;have GE146:=n3_;clear n0_ n1_ n2_ n3_;clear hb hbox hg;have hcz13_0:w12.cell? ⟨gb146,0,none⟩=some (.int .i64 a0_0):=(ah BK146.o 0).trans rfl;have hcz13_1:w12.cell? ⟨gb146,1,none⟩=some (.int .i64 a0_1):=(ah BK146.o 1).trans rfl;have hcz13_2:w12.cell? ⟨gb146,2,none⟩=some (.int .i64 a0_2):=(ah BK146.o 2).trans rfl;have hcz13_3:w12.cell? ⟨gb146,3,none⟩=some (.int .i64 a0_3):=(ah BK146.o 3).trans rfl;have hfz13_0:=ai BK146.o 0;have hfz13_1:=ai BK146.o 1;have hfz13_2:=ai BK146.o 2;have hfz13_3:=ai BK146.o 3)|((with_reducible refine aR (f:=51) rfl ?_);refine aZ (some 12) rfl rfl Tryd.func51 (by kernel_rfl) rfl #[.int .i64 2000,.int .i64 a0_0,.int .i64 a0_1,.int .i64 a0_2] rfl (by (try simp only[List.map_toArray,List.map_cons,List.map_nil]);first|done|rfl|(simp only[List.length_drop,List.length_take];rfl)) ?_;(with_reducible refine(civil_Nth.calls k 2000 a0_0 a0_1 a0_2 t147 t148 t149 t150 _ A2.o).mono ?_);rintro e w14 ⟨rfl,hb⟩;refine⟨_,rfl,?_⟩;have n0_:=ag.mk (aN (g:=gb146) (o:=.cells #[.int .i64 a0_0,.int .i64 a0_1,.int .i64 a0_2,.int .i64 a0_3] 23 (0,0)) (by (with_reducible repeat(first|refine av ?_ _|refine aA ?_|refine au ?_ _));exact BK146.o) hb);have n1_:=ag.mk (aj (by repeat(first|(with_reducible first|exact HB.o|apply ae|apply aa|apply af|refine ax ?_ GE146.o)|exact HB.o)) hb);clear BK146;clear HB;have BK146:=n0_;have HB:=n1_;clear n0_ n1_;(try clear hb);(try clear hb2);(try clear hk);(try clear hi))|((with_reducible refine aI (N:=3) rfl ?_);refine aH ?hg (N:=3) ?hd (cs:=#[.int .i64 0,.int .i64 0,.int .i64 0]) (t:=68) ?hr ?_;(case hd=>rfl);(case hg=>rfl);(case hr=>first|(go_simp;done)|(go_simp;rfl));intro gb151 hg w15 hbox hb;have n0_:=ag.mk (aN (g:=gb146) (o:=.cells #[.int .i64 a0_0,.int .i64 a0_1,.int .i64 a0_2,.int .i64 a0_3] 23 (0,0)) (by (with_reducible repeat(first|refine av ?_ _|refine aA ?_|refine au ?_ _));exact BK146.o) hb);have n1_:=ag.mk (aj (by repeat(first|(with_reducible first|exact HB.o|apply ae|apply aa|apply af|refine ax ?_ GE146.o)|exact HB.o)) hb);have n2_:=ag.mk (hbox);have n3_:=ag.mk ((by rw[hg];exact(ak (by repeat(first|(with_reducible first|exact HB.o|apply ae|apply aa|apply af|refine ax ?_ GE146.o)|exact HB.o))):w.heap.size≤gb151));have n4_:=ag.mk ((by rw[hg];exact(ak (by repeat(first|(with_reducible first|exact HB.o|apply ae|apply aa|apply af|refine ax ?_ GE146.o)|exact HB.o))):w.heap.size≤gb151));have n5_:=ag.mk ((by rw[hg];exact Nat.ne_of_lt (cz (g:=gb146) (o:=.cells #[.int .i64 a0_0,.int .i64 a0_1,.int .i64 a0_2,.int .i64 a0_3] 23 (0,0)) (by (with_reducible repeat(first|refine av ?_ _|refine aA ?_|refine au ?_ _));exact BK146.o)):gb146≠gb151));have n6_:=ag.mk ((by rw[hg];exact Nat.ne_of_gt (cz (g:=gb146) (o:=.cells #[.int .i64 a0_0,.int .i64 a0_1,.int .i64 a0_2,.int .i64 a0_3] 23 (0,0)) (by (with_reducible repeat(first|refine av ?_ _|refine aA ?_|refine au ?_ _));exact BK146.o)):gb151≠gb146));clear BK146;clear HB;have BK146:=n0_;have HB:=n1_;have BK151:=n2_;have GW151:=n3_;have GE151:=n4_;have NB146_151:=n5_;have NB151_146:=n6_;clear n0_ n1_ n2_ n3_ n4_ n5_ n6_;clear hb hbox hg;have hnb16:=NB151_146.o;have hnc16:=NB146_151.o;have hcz17_0:w15.cell? ⟨gb151,0,none⟩=some (.int .i64 0):=(ah BK151.o 0).trans rfl;have hcz17_1:w15.cell? ⟨gb151,1,none⟩=some (.int .i64 0):=(ah BK151.o 1).trans rfl;have hcz17_2:w15.cell? ⟨gb151,2,none⟩=some (.int .i64 0):=(ah BK151.o 2).trans rfl;have hfz17_0:=ai BK151.o 0;have hfz17_1:=ai BK151.o 1;have hfz17_2:=ai BK151.o 2;have hcz18_0:w15.cell? ⟨gb146,0,none⟩=some (.int .i64 a0_0):=(ah BK146.o 0).trans rfl;have hcz18_1:w15.cell? ⟨gb146,1,none⟩=some (.int .i64 a0_1):=(ah BK146.o 1).trans rfl;have hcz18_2:w15.cell? ⟨gb146,2,none⟩=some (.int .i64 a0_2):=(ah BK146.o 2).trans rfl;have hcz18_3:w15.cell? ⟨gb146,3,none⟩=some (.int .i64 a0_3):=(ah BK146.o 3).trans rfl;have hfz18_0:=ai BK146.o 0;have hfz18_1:=ai BK146.o 1;have hfz18_2:=ai BK146.o 2;have hfz18_3:=ai BK146.o 3))
   go_ret
   exact⟨by first|rfl|(simp[ay,az] <;> rfl)|(simp[*,ay,az] <;> rfl),by repeat(first|(with_reducible first|exact HB.o|apply ae|apply aa|apply af|refine ax ?_ GE146.o|refine ax ?_ GE151.o)|exact HB.o)⟩
 ·rw[if_neg c3] at H
  have c3b0:(t150 == 0)=false:=beq_eq_false_iff_ne.mpr c3
  have c3b1:(t150 != 0)=true:=bne_iff_ne.mpr c3
  obtain rfl:=Option.some.inj H
  go_enter Tryd.func43,Tryd.ntmps43
  go_wp2_with (first|((with_reducible refine aI (N:=1) rfl ?_);refine aH ?hg (N:=1) ?hd (cs:=#[.int .i64 a0_0,.int .i64 a0_1,.int .i64 a0_2,.int .i64 a0_3]) (t:=23) ?hr ?_;(case hd=>rfl);(case hg=>rfl);(case hr=>first|(go_simp;done)|(go_simp;rfl));intro gb146 hg w19 hbox hb;have n0_:=ag.mk (aj (by repeat(first|(with_reducible first|exact HB.o|apply ae|apply aa|apply af)|exact HB.o)) hb);have n1_:=ag.mk (hbox);have n2_:=ag.mk ((by rw[hg];exact(ak (by repeat(first|(with_reducible first|exact HB.o|apply ae|apply aa|apply af)|exact HB.o))):w.heap.size≤gb146));have n3_:=ag.mk ((by rw[hg];exact(ak (by repeat(first|(with_reducible first|exact HB.o|apply ae|apply aa|apply af)|exact HB.o))):w.heap.size≤gb146));clear HB;have HB:=n0_;have BK146:=n1_;have GW146:=n2_;have GE146:=n3_;clear n0_ n1_ n2_ n3_;clear hb hbox hg;have hcz20_0:w19.cell? ⟨gb146,0,none⟩=some (.int .i64 a0_0):=(ah BK146.o 0).trans rfl;have hcz20_1:w19.cell? ⟨gb146,1,none⟩=some (.int .i64 a0_1):=(ah BK146.o 1).trans rfl;have hcz20_2:w19.cell? ⟨gb146,2,none⟩=some (.int .i64 a0_2):=(ah BK146.o 2).trans rfl;have hcz20_3:w19.cell? ⟨gb146,3,none⟩=some (.int .i64 a0_3):=(ah BK146.o 3).trans rfl;have hfz20_0:=ai BK146.o 0;have hfz20_1:=ai BK146.o 1;have hfz20_2:=ai BK146.o 2;have hfz20_3:=ai BK146.o 3)|((with_reducible refine aR (f:=51) rfl ?_);refine aZ (some 12) rfl rfl Tryd.func51 (by kernel_rfl) rfl #[.int .i64 2000,.int .i64 a0_0,.int .i64 a0_1,.int .i64 a0_2] rfl (by (try simp only[List.map_toArray,List.map_cons,List.map_nil]);first|done|rfl|(simp only[List.length_drop,List.length_take];rfl)) ?_;(with_reducible refine(civil_Nth.calls k 2000 a0_0 a0_1 a0_2 t147 t148 t149 t150 _ A2.o).mono ?_);rintro e w21 ⟨rfl,hb⟩;refine⟨_,rfl,?_⟩;have n0_:=ag.mk (aN (g:=gb146) (o:=.cells #[.int .i64 a0_0,.int .i64 a0_1,.int .i64 a0_2,.int .i64 a0_3] 23 (0,0)) (by (with_reducible repeat(first|refine av ?_ _|refine aA ?_|refine au ?_ _));exact BK146.o) hb);have n1_:=ag.mk (aj (by repeat(first|(with_reducible first|exact HB.o|apply ae|apply aa|apply af|refine ax ?_ GE146.o)|exact HB.o)) hb);clear BK146;clear HB;have BK146:=n0_;have HB:=n1_;clear n0_ n1_;(try clear hb);(try clear hb2);(try clear hk);(try clear hi))|((with_reducible refine aI (N:=3) rfl ?_);refine aH ?hg (N:=3) ?hd (cs:=#[.int .i64 0,.int .i64 0,.int .i64 0]) (t:=68) ?hr ?_;(case hd=>rfl);(case hg=>rfl);(case hr=>first|(go_simp;done)|(go_simp;rfl));intro gb151 hg w22 hbox hb;have n0_:=ag.mk (aN (g:=gb146) (o:=.cells #[.int .i64 a0_0,.int .i64 a0_1,.int .i64 a0_2,.int .i64 a0_3] 23 (0,0)) (by (with_reducible repeat(first|refine av ?_ _|refine aA ?_|refine au ?_ _));exact BK146.o) hb);have n1_:=ag.mk (aj (by repeat(first|(with_reducible first|exact HB.o|apply ae|apply aa|apply af|refine ax ?_ GE146.o)|exact HB.o)) hb);have n2_:=ag.mk (hbox);have n3_:=ag.mk ((by rw[hg];exact(ak (by repeat(first|(with_reducible first|exact HB.o|apply ae|apply aa|apply af|refine ax ?_ GE146.o)|exact HB.o))):w.heap.size≤gb151));have n4_:=ag.mk ((by rw[hg];exact(ak (by repeat(first|(with_reducible first|exact HB.o|apply ae|apply aa|apply af|refine ax ?_ GE146.o)|exact HB.o))):w.heap.size≤gb151));have n5_:=ag.mk ((by rw[hg];exact Nat.ne_of_lt (cz (g:=gb146) (o:=.cells #[.int .i64 a0_0,.int .i64 a0_1,.int .i64 a0_2,.int .i64 a0_3] 23 (0,0)) (by (with_reducible repeat(first|refine av ?_ _|refine aA ?_|refine au ?_ _));exact BK146.o)):gb146≠gb151));have n6_:=ag.mk ((by rw[hg];exact Nat.ne_of_gt (cz (g:=gb146) (o:=.cells #[.int .i64 a0_0,.int .i64 a0_1,.int .i64 a0_2,.int .i64 a0_3] 23 (0,0)) (by (with_reducible repeat(first|refine av ?_ _|refine aA ?_|refine au ?_ _));exact BK146.o)):gb151≠gb146));clear BK146;clear HB;have BK146:=n0_;have HB:=n1_;have BK151:=n2_;have GW151:=n3_;have GE151:=n4_;have NB146_151:=n5_;have NB151_146:=n6_;clear n0_ n1_ n2_ n3_ n4_ n5_ n6_;clear hb hbox hg;have hnb23:=NB151_146.o;have hnc23:=NB146_151.o;have hcz24_0:w22.cell? ⟨gb151,0,none⟩=some (.int .i64 0):=(ah BK151.o 0).trans rfl;have hcz24_1:w22.cell? ⟨gb151,1,none⟩=some (.int .i64 0):=(ah BK151.o 1).trans rfl;have hcz24_2:w22.cell? ⟨gb151,2,none⟩=some (.int .i64 0):=(ah BK151.o 2).trans rfl;have hfz24_0:=ai BK151.o 0;have hfz24_1:=ai BK151.o 1;have hfz24_2:=ai BK151.o 2))
  go_ret
  exact⟨by first|rfl|(simp[ay,az] <;> rfl)|(simp[*,ay,az] <;> rfl),by repeat(first|(with_reducible first|exact HB.o|apply ae|apply aa|apply af|refine ax ?_ GE146.o|refine ax ?_ GE151.o)|exact HB.o)⟩
end Go.Proofs.YtcmhfcciapenfaaDoor.Pa
