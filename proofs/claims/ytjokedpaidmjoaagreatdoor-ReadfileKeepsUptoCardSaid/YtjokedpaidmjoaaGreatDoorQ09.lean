/- A part of the proof. -/
import Derived.Test.YtjokedpaidmjoaaGreatDoorQ00
import Derived.Test.YtjokedpaidmjoaaGreatDoorQ04
set_option linter.all false
namespace Go.Proofs.YtjokedpaidmjoaaGreatDoor.Pa
open Go.RowKit Go.Proofs.YtjokedpaidmjoaaGreatDoorW.PrintWords Go.Proofs.YtjokedpaidmjoaaGreatDoorW.PrintLast Go.Proofs.YtjokedpaidmjoaaGreatDoorW.PrintMore
attribute [local go_sem] dK dL eO eP dw dx dM dN
def pylonref06_Columns.l0:Nat → List ByteArray → List Int → Int → Int → Int → Option (List Int)
 |0,_,_,_,_,_=>none
 |k+1,x0,x3,x4,x10,x11=>if x11 < x10 then (if 0≤x11 then (if x11 < (x3.length:Int) then (if x11 < (x0.length:Int) then (pylonref06_Columns.l0 k x0 (x3.set (x11:Int).toNat x4) (wrap64 ((wrap64 (x4+((rdOf ByteArray.empty x0 x11).size:Int)))+1)) x10 (wrap64 (x11+1))) else (none)) else (none)) else (none)) else (some x3)
def pylonref06_Columns.f (k:Nat) (l0:List ByteArray):Option (List Int):=if 0≤(l0.length:Int) then (if ((l0.length:Int):Int).toNat≤35184372088832 then (pylonref06_Columns.l0 k l0 (List.replicate ((l0.length:Int):Int).toNat 0) 1 (l0.length:Int) 0) else (none)) else (none)
set_option maxHeartbeats 8000000 in
set_option maxRecDepth 100000 in
theorem pylonref06_Columns.calls (k:Nat) (A0:Option Addr) (c0:Nat) (l0:List ByteArray) (r:List Int) (w:World) (hr0:Kd.C Kd.string w A0 l0.length l0) (hc0:l0.length≤c0) (h:pylonref06_Columns.f k l0=some r) :
  Calls Tryz.prog 69 #[.slice A0 l0.length c0] w fun e w'=>∃ v0_:Value,e = .returned (v0_)∧Kd.R (Kd.int .i64) 3 w' w.heap.size (fun _=>True) v0_ r∧Below w.heap.size w w':=by
 have HR0:=ae.mk hr0
 have HC0:=ae.mk hc0
 clear hr0 hc0
 have HB:=ae.mk (Below.refl w.heap.size w)
 have H:(if 0≤(l0.length:Int) then (if ((l0.length:Int):Int).toNat≤35184372088832 then (pylonref06_Columns.l0 k l0 (List.replicate ((l0.length:Int):Int).toNat 0) 1 (l0.length:Int) 0) else (none)) else (none))=some r:=h
 clear h
 by_cases c2:0≤(l0.length:Int)
 ·rw[if_pos c2] at H
  have c2b0:=eq_true c2
  have c2b1:decide (0≤(l0.length:Int))=true:=decide_eq_true c2
  clear c2
  by_cases c3:((l0.length:Int):Int).toNat≤35184372088832
  ·rw[if_pos c3] at H
   have c3b0:=eq_true c3
   have c3b1:decide (((l0.length:Int):Int).toNat≤35184372088832)=true:=decide_eq_true c3
   clear c3
   obtain⟨y133,hy133⟩ : ∃ y_:List Int,y_=(List.replicate ((l0.length:Int):Int).toNat 0):=⟨_,rfl⟩
   replace H:(pylonref06_Columns.l0 k l0 y133 1 (l0.length:Int) 0)=some r:=by first|(rw[hy133];with_reducible exact H)|(have H2_:=(Option.bind_some _ _).symm.trans H;rw[hy133];with_reducible exact H2_)|(have H2_:=(Option.bind_some _ _).symm.trans H;with_reducible exact H2_)|with_reducible exact H|(rw[hy133];exact H)|exact H
   have Ny133:=ae.mk hy133
   clear hy133
   have H':=ae.mk H
   clear H
   go_enter Tryz.func69,Tryz.ntmps69
   go_wp2_with (first|((with_reducible refine gate_dst (N:=8) rfl ?_);refine Kd.R_make (Kd.int .i64) _ 3 rfl (N:=8) rfl 83 _ _ rfl (l0.length:Int) rfl rfl Tryz.underlying83 (.int .i64 0) 8 info3 rfl (by decide) (by omega) 0 (ok:=fun _=>True) (okp:=fun _=>True) rfl (fun _ hk=>hk) trivial (of_decide_eq_true (by first|(with_reducible assumption)|assumption)) (Nat.le_trans (Nat.mul_le_mul_right _ (of_decide_eq_true (by first|(with_reducible assumption)|assumption):(l0.length:Int).toNat≤35184372088832)) (by omega)) (Below.refl _ _) (Nat.le_refl _) ?_;intro v134 w4 ho5 hb hg_ hnew_;clear hg_ hnew_;(first|rw[← Ny133.o] at ho5|(simp only[Int.reduceToNat] at ho5;rw[← Ny133.o] at ho5));have n0_:=ae.mk (Kd.R_lower ho5 (bf (by repeat(first|(with_reducible first|exact HB.o|apply af|apply aa|apply ag)|exact HB.o))));have n1_:=ae.mk (bC (by repeat(first|(with_reducible first|exact HB.o|apply af|apply aa|apply ag)|exact HB.o)) hb);clear HB;have HO135:=n0_;have HB:=n1_;clear n0_ n1_;clear hb ho5))
   go_loopg [4,11] k (fun kq v4 v11 w'=>∃ (x3_1:List Int) (x4_1:Int) (x11_1:Int),v4 = .int .i64 x4_1∧v11 = .int .i64 x11_1∧ae (pylonref06_Columns.l0 kq l0 x3_1 x4_1 (l0.length:Int) x11_1=some r)∧ae (kq≤k)∧ae (Kd.R (Kd.int .i64) 3 w' w.heap.size (fun _=>True) v134 x3_1)∧ae (Below w.heap.size w w'))
   case atStart=>exact⟨(y133),(1),(0),(by first|rfl|(simp;done)|(simp[*];done)|(simp[isEmpty_bne];done)|(simp[isEmpty_beq];done)),(by first|rfl|(simp;done)|(simp[*];done)|(simp[isEmpty_bne];done)|(simp[isEmpty_beq];done)),H',⟨Nat.le_refl _⟩,⟨by (with_reducible repeat(first|apply Kd.az|apply Kd.aA|apply Kd.aZ));exact HO135.o⟩,⟨by repeat(first|(with_reducible first|exact HB.o|apply af|apply aa|apply ag)|exact HB.o)⟩⟩
   case round=>
    clear H'
    try clear c2
    try clear c2b0
    try clear c2b1
    try clear p2
    try clear c3
    try clear c3b0
    try clear c3b1
    (try clear HO_3)
    obtain⟨x3_1,x4_1,x11_1,rfl,rfl,HA,HK1,HO_3,HB⟩:=hrel
    cases gk with
    |zero=>exact absurd HA.o (by simp[pylonref06_Columns.l0])
    |succ k1=>
     have H:=HA.o
     clear HA
     simp only[pylonref06_Columns.l0] at H
     by_cases c6:x11_1 < (l0.length:Int)
     ·rw[if_pos c6] at H
      have c6b0:decide (x11_1 < (l0.length:Int))=true:=decide_eq_true c6
      clear c6
      by_cases c7:0≤x11_1
      ·rw[if_pos c7] at H
       have c7b0:decide (0≤x11_1)=true:=decide_eq_true c7
       clear c7
       by_cases c8:x11_1 < (x3_1.length:Int)
       ·rw[if_pos c8] at H
        have c8b0:decide (x11_1 < (x3_1.length:Int))=true:=decide_eq_true c8
        clear c8
        obtain⟨y136,hy136⟩ : ∃ y_:List Int,y_=(x3_1.set (x11_1:Int).toNat x4_1):=⟨_,rfl⟩
        replace H:(if x11_1 < (l0.length:Int) then (pylonref06_Columns.l0 k1 l0 y136 (wrap64 ((wrap64 (x4_1+((rdOf ByteArray.empty l0 x11_1).size:Int)))+1)) (l0.length:Int) (wrap64 (x11_1+1))) else (none))=some r:=by first|(rw[hy136];with_reducible exact H)|(have H2_:=(Option.bind_some _ _).symm.trans H;rw[hy136];with_reducible exact H2_)|(have H2_:=(Option.bind_some _ _).symm.trans H;with_reducible exact H2_)|with_reducible exact H|(rw[hy136];exact H)|exact H
        have Ny136:=ae.mk hy136
        clear hy136
        by_cases c10:x11_1 < (l0.length:Int)
        ·rw[if_pos c10] at H
         have c10b0:decide (x11_1 < (l0.length:Int))=true:=decide_eq_true c10
         clear c10
         have H':=ae.mk H
         clear H
         have p9:0≤(x11_1:Int):=of_decide_eq_true (by first|(with_reducible assumption)|assumption)
         have q9:(x11_1:Int) < ((x3_1.length:Int):Int):=of_decide_eq_true (by first|(with_reducible assumption)|assumption)
         obtain⟨go9,co9,eo9,gb9,gl9,cl9,HG9⟩:=Kd.R_form HO_3.o (by omega)
         (first|cases eo9|(injection eo9 with ea_ en_ ec_;(first|subst ea_|(injection ea_ with ea_;subst ea_));subst ec_;clear en_))
         have GB9:=ae.mk gb9
         have GG9:=ae.mk HG9
         clear gb9 gl9 HG9
         obtain⟨hx9_0,hf9_0⟩:=Kd.R_celln 0 HO_3.o (x11_1:Int) p9 q9
         replace p9:=eq_true p9
         replace q9:=eq_true q9
         have HP11:=Kd.R_putg HO_3.o (x11_1:Int) x4_1
         go_wp2_with (first|((with_reducible refine gate_store (t:=3) (p:=17) rfl ?_);refine store_event (t:=3) (p:=17) (v:=?vo_w12) (w1:=(wr.setCell ⟨go9,(x11_1:Int).toNat,none⟩ (.int .i64 x4_1))) ?hg ?ho ?hn ?hr ?_;(case ho=>rfl);(case hg=>rfl);(case hn=>rfl);(case hr=>first|(go_simp;done)|(go_simp;rfl));intro w12 hw;have hg:wr.grownBy w12 (some go9):=(by rw[hw];exact HP11.2);have hp_:Kd.R (Kd.int .i64) 3 w12 w.heap.size (fun _=>True) (.slice (some ⟨go9,0,none⟩) x3_1.length co9) y136:=(by rw[hw,Ny136.o];exact HP11.1);clear HP11;have n0_:=ae.mk (hp_);have n1_:=ae.mk ((by rw[hw];exact below_set (HB.o) GB9.o:Below w.heap.size w w12));clear HO_3;clear HB;have HO_3:=n0_;have HB:=n1_;clear n0_ n1_;clear hg hw hp_;have p137:0≤(x11_1:Int):=of_decide_eq_true (by first|(with_reducible assumption)|assumption);have q137:x11_1 < (l0.length:Int):=of_decide_eq_true (by first|(with_reducible assumption)|assumption);obtain⟨ad137,e137,hx137_0⟩:=Kd.at_string HR0.o x11_1 p137 q137;cases e137;replace hx137_0:=cqq HB.o hx137_0;replace p137:=eq_true p137;replace q137:=eq_true q137))
         go_roundg k1
         case measure=>have:=HK1.o;omega
         case rel=>exact⟨(y136),(wrap64 ((wrap64 (x4_1+((rdOf ByteArray.empty l0 x11_1).size:Int)))+1)),(wrap64 (x11_1+1)),(by first|rfl|(simp;done)|(simp[*];done)|(simp[isEmpty_bne];done)|(simp[isEmpty_beq];done)),(by first|rfl|(simp;done)|(simp[*];done)|(simp[isEmpty_bne];done)|(simp[isEmpty_beq];done)),H',⟨by have:=HK1.o;omega⟩,⟨by (with_reducible repeat(first|apply Kd.az|apply Kd.aA|apply Kd.aZ));exact HO_3.o⟩,⟨by repeat(first|(with_reducible first|exact HB.o|apply af|apply aa|apply ag)|exact HB.o)⟩⟩
        ·rw[if_neg c10] at H
         exact absurd H (by simp)
       ·rw[if_neg c8] at H
        exact absurd H (by simp)
      ·rw[if_neg c7] at H
       exact absurd H (by simp)
     ·rw[if_neg c6] at H
      have c6b0:decide (x11_1 < (l0.length:Int))=false:=decide_eq_false c6
      clear c6
      obtain rfl:=Option.some.inj H
      go_wp2
      go_ret
      exact⟨_,by first|rfl|(simp[aj,ak] <;> rfl)|(simp[*,aj,ak] <;> rfl),by (with_reducible repeat(first|apply Kd.az|apply Kd.aA|apply Kd.aZ));exact HO_3.o,by repeat(first|(with_reducible first|exact HB.o|apply af|apply aa|apply ag)|exact HB.o)⟩
  ·rw[if_neg c3] at H
   exact absurd H (by simp)
 ·rw[if_neg c2] at H
  exact absurd H (by simp)
def pylonref01_signed.j0:Nat → Bool → Int → Bool → Option (Int × Int)
 |0,_,_,_=>none
 |k+1,x0,x2,x24=>if x24=true then (some (0,5)) else (if x0=true then (if x2 > 0 then (some (wrap64 ((wrap64 (-(wrap64 (IntKind.u64.wrap (x2 - 1))))) - 1),0)) else (some (wrap64 (x2),0))) else (some (wrap64 (x2),0)))
def pylonref01_signed.f (k:Nat) (a0:Bool) (a1:Int) (a2:Int):Option (Int × Int):=if a1=0 then (if a0=true then (pylonref01_signed.j0 k a0 a2 (decide (a2 > 9223372036854775808))) else (if a2≥9223372036854775808 then (pylonref01_signed.j0 k a0 a2 true) else (pylonref01_signed.j0 k a0 a2 false))) else (pylonref01_signed.j0 k a0 a2 true)
set_option maxHeartbeats 8000000 in
set_option maxRecDepth 100000 in
theorem pylonref01_signed.calls (k:Nat) (a0:Bool) (a1:Int) (a2:Int) (r1:Int) (r2:Int) (w:World) (h:pylonref01_signed.f k a0 a1 a2=some (r1,r2)) :
  Calls Tryz.prog 79 #[.bool a0,.int .u64 a1,.int .u64 a2] w fun e w'=>e = .returned (.tuple #[.int .i64 r1,.int .i64 r2])∧ah w w':=by
 have H:(if a1=0 then (if a0=true then (pylonref01_signed.j0 k a0 a2 (decide (a2 > 9223372036854775808))) else (if a2≥9223372036854775808 then (pylonref01_signed.j0 k a0 a2 true) else (pylonref01_signed.j0 k a0 a2 false))) else (pylonref01_signed.j0 k a0 a2 true))=some (r1,r2):=h
 clear h
 have HC4:=ae.mk H
 clear H
 go_enter Tryz.func79,Tryz.ntmps79
 go_upto_region 1 with (fail)
 go_cut [24] (fun v24 wc=>∃ (kq:Nat) (x24_3:Bool),v24 = .bool x24_3∧ae (pylonref01_signed.j0 kq a0 a2 x24_3=some (r1,r2))∧ae (kq≤k)∧ah w wc)
 case first=>
  have H:=HC4.o
  clear HC4
  by_cases c5:a1=0
  ·rw[if_pos c5] at H
   have c5b0:(a1 == 0)=true:=beq_iff_eq.mpr c5
   have c5b1:(a1 != 0)=false:=bne_eq_false_iff_eq.mpr c5
   clear c5
   (first|rw[c5b0]|(simp only[i64_w,i32_w];rw[c5b0])|skip)
   by_cases c6:a0=true
   ·subst c6
    have H1:(pylonref01_signed.j0 k true a2 (decide (a2 > 9223372036854775808)))=some (r1,r2):=by rw[if_pos rfl] at H;exact H
    clear H
    have H:=H1
    clear H1
    have H':=ae.mk H
    clear H
    go_wp2
    go_meet
    case rel=>exact⟨_,(decide (a2 > 9223372036854775808)),(by first|rfl|(simp;done)|(simp[*];done)|(simp[isEmpty_bne];done)|(simp[isEmpty_beq];done)),H',⟨by first|omega|exact Nat.le_refl _⟩,by repeat(first|exact ah.refl _|apply ah.step)⟩
   ·replace c6:=Bool.eq_false_iff.mpr c6
    subst c6
    have H1:(if a2≥9223372036854775808 then (pylonref01_signed.j0 k false a2 true) else (pylonref01_signed.j0 k false a2 false))=some (r1,r2):=by rw[if_neg (show ¬ (false=true) by decide)] at H;exact H
    clear H
    have H:=H1
    clear H1
    by_cases c7:a2≥9223372036854775808
    ·rw[if_pos c7] at H
     have c7b0:decide (9223372036854775808≤a2)=true:=decide_eq_true c7
     clear c7
     have H':=ae.mk H
     clear H
     go_wp2
     go_meet
     case rel=>exact⟨_,(true),(by first|rfl|(simp;done)|(simp[*];done)|(simp[isEmpty_bne];done)|(simp[isEmpty_beq];done)),H',⟨by first|omega|exact Nat.le_refl _⟩,by repeat(first|exact ah.refl _|apply ah.step)⟩
    ·rw[if_neg c7] at H
     have c7b0:decide (9223372036854775808≤a2)=false:=decide_eq_false c7
     clear c7
     have H':=ae.mk H
     clear H
     go_wp2
     go_meet
     case rel=>exact⟨_,(false),(by first|rfl|(simp;done)|(simp[*];done)|(simp[isEmpty_bne];done)|(simp[isEmpty_beq];done)),H',⟨by first|omega|exact Nat.le_refl _⟩,by repeat(first|exact ah.refl _|apply ah.step)⟩
  ·rw[if_neg c5] at H
   have c5b0:(a1 == 0)=false:=beq_eq_false_iff_ne.mpr c5
   have c5b1:(a1 != 0)=true:=bne_iff_ne.mpr c5
   (first|rw[c5b0]|(simp only[i64_w,i32_w];rw[c5b0])|skip)
   have H':=ae.mk H
   clear H
   go_wp2
   go_meet
   case rel=>exact⟨_,(true),(by first|rfl|(simp;done)|(simp[*];done)|(simp[isEmpty_bne];done)|(simp[isEmpty_beq];done)),H',⟨by first|omega|exact Nat.le_refl _⟩,by repeat(first|exact ah.refl _|apply ah.step)⟩
 case rest=>
  clear HC4
  try clear p2
  try clear c5
  try clear c5b0
  try clear c5b1
  try clear c6
  try clear c7
  try clear c7b0
  obtain⟨kq,x24_3,rfl,HA,HJ3,⟨mc3,rfl⟩⟩:=hcut
  cases kq with
  |zero=>exact absurd HA.o (by simp[pylonref01_signed.j0])
  |succ kj3=>
   have H:=HA.o
   clear HA
   simp only[pylonref01_signed.j0] at H
   by_cases c8:x24_3=true
   ·subst c8
    have H1:(some (0,5))=some (r1,r2):=by rw[if_pos rfl] at H;exact H
    clear H
    have H:=H1
    clear H1
    simp only[Option.some.injEq,Prod.mk.injEq] at H
    obtain⟨rfl,rfl⟩:=H
    go_wp2
    go_ret2
    exact⟨by first|rfl|(simp;done)|(simp[*];done),by repeat(first|exact ah.refl _|apply ah.step)⟩
   ·replace c8:=Bool.eq_false_iff.mpr c8
    subst c8
    have H1:(if a0=true then (if a2 > 0 then (some (wrap64 ((wrap64 (-(wrap64 (IntKind.u64.wrap (a2 - 1))))) - 1),0)) else (some (wrap64 (a2),0))) else (some (wrap64 (a2),0)))=some (r1,r2):=by rw[if_neg (show ¬ (false=true) by decide)] at H;exact H
    clear H
    have H:=H1
    clear H1
    by_cases c9:a0=true
    ·subst c9
     have H1:(if a2 > 0 then (some (wrap64 ((wrap64 (-(wrap64 (IntKind.u64.wrap (a2 - 1))))) - 1),0)) else (some (wrap64 (a2),0)))=some (r1,r2):=by rw[if_pos rfl] at H;exact H
     clear H
     have H:=H1
     clear H1
     by_cases c10:a2 > 0
     ·rw[if_pos c10] at H
      have c10b0:decide (0 < a2)=true:=decide_eq_true c10
      clear c10
      simp only[Option.some.injEq,Prod.mk.injEq] at H
      obtain⟨rfl,rfl⟩:=H
      go_wp2
      go_ret2
      exact⟨by first|rfl|(simp;done)|(simp[*];done),by repeat(first|exact ah.refl _|apply ah.step)⟩
     ·rw[if_neg c10] at H
      have c10b0:decide (0 < a2)=false:=decide_eq_false c10
      clear c10
      simp only[Option.some.injEq,Prod.mk.injEq] at H
      obtain⟨rfl,rfl⟩:=H
      go_wp2
      go_ret2
      exact⟨by first|rfl|(simp;done)|(simp[*];done),by repeat(first|exact ah.refl _|apply ah.step)⟩
    ·replace c9:=Bool.eq_false_iff.mpr c9
     subst c9
     have H1:(some (wrap64 (a2),0))=some (r1,r2):=by rw[if_neg (show ¬ (false=true) by decide)] at H;exact H
     clear H
     have H:=H1
     clear H1
     simp only[Option.some.injEq,Prod.mk.injEq] at H
     obtain⟨rfl,rfl⟩:=H
     go_wp2
     go_ret2
     exact⟨by first|rfl|(simp;done)|(simp[*];done),by repeat(first|exact ah.refl _|apply ah.step)⟩
mutual
def pylonref01_IsText.j0:Nat → ByteArray → Bool → Option (Bool)
 |0,_,_=>none
 |k+1,x0,x3=>if x3=true then (if 1≤(x0.size:Int) then (pylonref01_IsText.j1 k (x0.extract 1 x0.size) x3) else (none)) else (pylonref01_IsText.j1 k x0 x3)
def pylonref01_IsText.j1:Nat → ByteArray → Bool → Option (Bool)
 |0,_,_=>none
 |k+1,x0,x3=>if (x0.size:Int)=0 then (pylonref01_IsText.j2 k x0 true) else (if 0 < (x0.size:Int) then (if (bt x0 0)=48 then (if (x0.size:Int) > 1 then (pylonref01_IsText.j2 k x0 true) else (pylonref01_IsText.j2 k x0 x3)) else (pylonref01_IsText.j2 k x0 false)) else (none))
def pylonref01_IsText.j2:Nat → ByteArray → Bool → Option (Bool)
 |0,_,_=>none
 |k+1,x0,x31=>if x31=true then (some false) else (pylonref01_IsText.l0 k x0 0)
def pylonref01_IsText.l0:Nat → ByteArray → Int → Option (Bool)
 |0,_,_=>none
 |k+1,x0,x4=>if x4 < (x0.size:Int) then (if 0≤x4 then (if (bt x0 x4) < 48 then (some false) else (if (bt x0 x4) > 57 then (some false) else (pylonref01_IsText.l0 k x0 (wrap64 (x4+1))))) else (none)) else (some true)
end
def pylonref01_IsText.f (k:Nat) (a0:ByteArray):Option (Bool):=if (a0.size:Int) > 0 then (if 0 < (a0.size:Int) then (pylonref01_IsText.j0 k a0 ((bt a0 0) == 45)) else (none)) else (pylonref01_IsText.j0 k a0 false)
set_option maxHeartbeats 8000000 in
set_option maxRecDepth 100000 in
theorem pylonref01_IsText.calls (k:Nat) (a0:ByteArray) (r:Bool) (w:World) (h:pylonref01_IsText.f k a0=some r) :
  Calls Tryz.prog 89 #[.string a0] w fun e w'=>e = .returned (.bool r)∧ah w w':=by
 have H:(if (a0.size:Int) > 0 then (if 0 < (a0.size:Int) then (pylonref01_IsText.j0 k a0 ((bt a0 0) == 45)) else (none)) else (pylonref01_IsText.j0 k a0 false))=some r:=h
 clear h
 have HC2:=ae.mk H
 clear H
 go_enter Tryz.func89,Tryz.ntmps89
 go_upto_region 1 with (fail)
 go_cut [3] (fun v3 wc=>∃ (kq:Nat) (x3_1:Bool),v3 = .bool x3_1∧ae (pylonref01_IsText.j0 kq a0 x3_1=some r)∧ae (kq≤k)∧ah w wc)
 case first=>
  have H:=HC2.o
  clear HC2
  by_cases c3:(a0.size:Int) > 0
  ·rw[if_pos c3] at H
   have c3b0:decide (0 < (a0.size:Int))=true:=decide_eq_true c3
   have c3b1:decide (0 < a0.size)=true:=decide_eq_true (by omega)
   clear c3
   (first|rw[c3b0]|(simp only[i64_w,i32_w];rw[c3b0])|skip)
   by_cases c4:0 < (a0.size:Int)
   ·rw[if_pos c4] at H
    have c4b0:decide (0 < (a0.size:Int))=true:=decide_eq_true c4
    have c4b1:decide (0 < a0.size)=true:=decide_eq_true (by omega)
    clear c4
    have H':=ae.mk H
    clear H
    have p5:0≤(0:Int):=(by omega)
    have q5:0 < a0.size:=(by have:(0:Int) < (a0.size:Int):=of_decide_eq_true (by first|(with_reducible assumption)|assumption);omega)
    have hx5 : ∀ h:0 < a0.size,((a0[0]'h).toNat:Int)=bt a0 0:=bt_at a0 0
    clear p5
    have qi5:(0 < (a0.size:Int))=True:=eq_true (of_decide_eq_true (by first|(with_reducible assumption)|assumption))
    replace q5:=eq_true q5
    go_wp2
    go_meet
    case rel=>exact⟨_,(((bt a0 0) == 45)),(by first|rfl|(simp;done)|(simp[*];done)|(simp[isEmpty_bne];done)|(simp[isEmpty_beq];done)),H',⟨by first|omega|exact Nat.le_refl _⟩,by repeat(first|exact ah.refl _|apply ah.step)⟩
   ·rw[if_neg c4] at H
    exact absurd H (by simp)
  ·rw[if_neg c3] at H
   have c3b0:decide (0 < (a0.size:Int))=false:=decide_eq_false c3
   have c3b1:decide (0 < a0.size)=false:=decide_eq_false (by omega)
   clear c3
   (first|rw[c3b0]|(simp only[i64_w,i32_w];rw[c3b0])|skip)
   have H':=ae.mk H
   clear H
   go_wp2
   go_meet
   case rel=>exact⟨_,(false),(by first|rfl|(simp;done)|(simp[*];done)|(simp[isEmpty_bne];done)|(simp[isEmpty_beq];done)),H',⟨by first|omega|exact Nat.le_refl _⟩,by repeat(first|exact ah.refl _|apply ah.step)⟩
 case rest=>
  clear HC2
  try clear p2
  try clear c3
  try clear c3b0
  try clear c3b1
  try clear c4
  try clear c4b0
  try clear c4b1
  try clear p5
  try clear q5
  try clear hx5
  try clear qi5
  try clear p5
  try clear q5
  obtain⟨kq,x3_1,rfl,HA,HJ1,⟨mc1,rfl⟩⟩:=hcut
  cases kq with
  |zero=>exact absurd HA.o (by simp[pylonref01_IsText.j0])
  |succ kj1=>
   have H:=HA.o
   clear HA
   simp only[pylonref01_IsText.j0] at H
   have HC6:=ae.mk H
   clear H
   go_upto_if 13 with (fail)
   go_cut [0] (fun v0 wc=>∃ (kq:Nat) (x0_5:ByteArray),v0 = .string x0_5∧ae (pylonref01_IsText.j1 kq x0_5 x3_1=some r)∧ae (kq≤kj1)∧ah w wc)
   case first=>
    have H:=HC6.o
    clear HC6
    by_cases c7:x3_1=true
    ·subst c7
     have H1:(if 1≤(a0.size:Int) then (pylonref01_IsText.j1 kj1 (a0.extract 1 a0.size) true) else (none))=some r:=by rw[if_pos rfl] at H;exact H
     clear H
     have H:=H1
     clear H1
     by_cases c8:1≤(a0.size:Int)
     ·rw[if_pos c8] at H
      have c8b0:=eq_true c8
      have c8b1:decide (1≤(a0.size:Int))=true:=decide_eq_true c8
      clear c8
      have H':=ae.mk H
      clear H
      go_wp2
      go_meet
      case rel=>exact⟨_,(a0.extract 1 a0.size),(by first|rfl|(simp;done)|(simp[*];done)|(simp[isEmpty_bne];done)|(simp[isEmpty_beq];done)),H',⟨by have:=HJ1.o;first|omega|exact Nat.le_refl _⟩,by repeat(first|exact ah.refl _|apply ah.step)⟩
     ·rw[if_neg c8] at H
      exact absurd H (by simp)
    ·replace c7:=Bool.eq_false_iff.mpr c7
     subst c7
     have H1:(pylonref01_IsText.j1 kj1 a0 false)=some r:=by rw[if_neg (show ¬ (false=true) by decide)] at H;exact H
     clear H
     have H:=H1
     clear H1
     have H':=ae.mk H
     clear H
     go_wp2
     go_meet
     case rel=>exact⟨_,(a0),(by first|rfl|(simp;done)|(simp[*];done)|(simp[isEmpty_bne];done)|(simp[isEmpty_beq];done)),H',⟨by have:=HJ1.o;first|omega|exact Nat.le_refl _⟩,by repeat(first|exact ah.refl _|apply ah.step)⟩
   case rest=>
    clear HC6
    try clear c1
    try clear p2
    try clear c3
    try clear c3b0
    try clear c3b1
    try clear c4
    try clear c4b0
    try clear c4b1
    try clear p5
    try clear q5
    try clear hx5
    try clear qi5
    try clear c7
    try clear c8
    try clear c8b0
    try clear c8b1
    try clear p2
    try clear p5
    try clear q5
    obtain⟨kq,x0_5,rfl,HA,HJ5,⟨mc5,rfl⟩⟩:=hcut
    cases kq with
    |zero=>exact absurd HA.o (by simp[pylonref01_IsText.j1])
    |succ kj5=>
     have H:=HA.o
     clear HA
     simp only[pylonref01_IsText.j1] at H
     have HC9:=ae.mk H
     clear H
     go_upto_region 4 with (fail)
     go_cut [31] (fun v31 wc=>∃ (kq:Nat) (x31_8:Bool),v31 = .bool x31_8∧ae (pylonref01_IsText.j2 kq x0_5 x31_8=some r)∧ae (kq≤kj5)∧ah w wc)
     case first=>
      have H:=HC9.o
      clear HC9
      by_cases c10:(x0_5.size:Int)=0
      ·rw[if_pos c10] at H
       have c10b0:((x0_5.size:Int) == 0)=true:=beq_iff_eq.mpr c10
       have c10b1:((x0_5.size:Int) != 0)=false:=bne_eq_false_iff_eq.mpr c10
       clear c10
       (first|rw[c10b0]|(simp only[i64_w,i32_w];rw[c10b0])|skip)
       have H':=ae.mk H
       clear H
       go_wp2
       go_meet
       case rel=>exact⟨_,(true),(by first|rfl|(simp;done)|(simp[*];done)|(simp[isEmpty_bne];done)|(simp[isEmpty_beq];done)),H',⟨by have:=HJ1.o;have:=HJ5.o;first|omega|exact Nat.le_refl _⟩,by repeat(first|exact ah.refl _|apply ah.step)⟩
      ·rw[if_neg c10] at H
       have c10b0:((x0_5.size:Int) == 0)=false:=beq_eq_false_iff_ne.mpr c10
       have c10b1:((x0_5.size:Int) != 0)=true:=bne_iff_ne.mpr c10
       (first|rw[c10b0]|(simp only[i64_w,i32_w];rw[c10b0])|skip)
       by_cases c11:0 < (x0_5.size:Int)
       ·rw[if_pos c11] at H
        have c11b0:decide (0 < (x0_5.size:Int))=true:=decide_eq_true c11
        have c11b1:decide (0 < x0_5.size)=true:=decide_eq_true (by omega)
        clear c11
        by_cases c13:(bt x0_5 0)=48
        ·rw[if_pos c13] at H
         have c13b0:((bt x0_5 0) == 48)=true:=beq_iff_eq.mpr c13
         have c13b1:((bt x0_5 0) != 48)=false:=bne_eq_false_iff_eq.mpr c13
         clear c13
         by_cases c14:(x0_5.size:Int) > 1
         ·rw[if_pos c14] at H
          have c14b0:decide (1 < (x0_5.size:Int))=true:=decide_eq_true c14
          have c14b1:decide (1 < x0_5.size)=true:=decide_eq_true (by omega)
          clear c14
          have H':=ae.mk H
          clear H
          have p12:0≤(0:Int):=(by omega)
          have q12:0 < x0_5.size:=(by have:(0:Int) < (x0_5.size:Int):=of_decide_eq_true (by first|(with_reducible assumption)|assumption);omega)
          have hx12 : ∀ h:0 < x0_5.size,((x0_5[0]'h).toNat:Int)=bt x0_5 0:=bt_at x0_5 0
          clear p12
          have qi12:(0 < (x0_5.size:Int))=True:=eq_true (of_decide_eq_true (by first|(with_reducible assumption)|assumption))
          replace q12:=eq_true q12
          go_wp2
          go_meet
          case rel=>exact⟨_,(true),(by first|rfl|(simp;done)|(simp[*];done)|(simp[isEmpty_bne];done)|(simp[isEmpty_beq];done)),H',⟨by have:=HJ1.o;have:=HJ5.o;first|omega|exact Nat.le_refl _⟩,by repeat(first|exact ah.refl _|apply ah.step)⟩
         ·rw[if_neg c14] at H
          have c14b0:decide (1 < (x0_5.size:Int))=false:=decide_eq_false c14
          have c14b1:decide (1 < x0_5.size)=false:=decide_eq_false (by omega)
          clear c14
          have H':=ae.mk H
          clear H
          have p12:0≤(0:Int):=(by omega)
          have q12:0 < x0_5.size:=(by have:(0:Int) < (x0_5.size:Int):=of_decide_eq_true (by first|(with_reducible assumption)|assumption);omega)
          have hx12 : ∀ h:0 < x0_5.size,((x0_5[0]'h).toNat:Int)=bt x0_5 0:=bt_at x0_5 0
          clear p12
          have qi12:(0 < (x0_5.size:Int))=True:=eq_true (of_decide_eq_true (by first|(with_reducible assumption)|assumption))
          replace q12:=eq_true q12
          go_wp2
          go_meet
          case rel=>exact⟨_,(x3_1),(by first|rfl|(simp;done)|(simp[*];done)|(simp[isEmpty_bne];done)|(simp[isEmpty_beq];done)),H',⟨by have:=HJ1.o;have:=HJ5.o;first|omega|exact Nat.le_refl _⟩,by repeat(first|exact ah.refl _|apply ah.step)⟩
        ·rw[if_neg c13] at H
         have c13b0:((bt x0_5 0) == 48)=false:=beq_eq_false_iff_ne.mpr c13
         have c13b1:((bt x0_5 0) != 48)=true:=bne_iff_ne.mpr c13
         have H':=ae.mk H
         clear H
         have p12:0≤(0:Int):=(by omega)
         have q12:0 < x0_5.size:=(by have:(0:Int) < (x0_5.size:Int):=of_decide_eq_true (by first|(with_reducible assumption)|assumption);omega)
         have hx12 : ∀ h:0 < x0_5.size,((x0_5[0]'h).toNat:Int)=bt x0_5 0:=bt_at x0_5 0
         clear p12
         have qi12:(0 < (x0_5.size:Int))=True:=eq_true (of_decide_eq_true (by first|(with_reducible assumption)|assumption))
         replace q12:=eq_true q12
         go_wp2
         go_meet
         case rel=>exact⟨_,(false),(by first|rfl|(simp;done)|(simp[*];done)|(simp[isEmpty_bne];done)|(simp[isEmpty_beq];done)),H',⟨by have:=HJ1.o;have:=HJ5.o;first|omega|exact Nat.le_refl _⟩,by repeat(first|exact ah.refl _|apply ah.step)⟩
       ·rw[if_neg c11] at H
        exact absurd H (by simp)
     case rest=>
      clear HC9
      try clear c1
      try clear p1
      try clear q1
      try clear hx1
      try clear qi1
      try clear p2
      try clear c3
      try clear c3b0
      try clear c3b1
      try clear c4
      try clear c4b0
      try clear c4b1
      try clear c5
      try clear p5
      try clear q5
      try clear hx5
      try clear qi5
      try clear c7
      try clear c8
      try clear c8b0
      try clear c8b1
      try clear c10
      try clear c10b0
      try clear c10b1
      try clear c11
      try clear c11b0
      try clear c11b1
      try clear p12
      try clear q12
      try clear hx12
      try clear qi12
      try clear c13
      try clear c13b0
      try clear c13b1
      try clear c14
      try clear c14b0
      try clear c14b1
      try clear p12
      try clear p2
      try clear p5
      try clear q12
      try clear q5
      obtain⟨kq,x31_8,rfl,HA,HJ8,⟨mc8,rfl⟩⟩:=hcut
      cases kq with
      |zero=>exact absurd HA.o (by simp[pylonref01_IsText.j2])
      |succ kj8=>
       have H:=HA.o
       clear HA
       simp only[pylonref01_IsText.j2] at H
       by_cases c15:x31_8=true
       ·subst c15
        have H1:(some false)=some r:=by rw[if_pos rfl] at H;exact H
        clear H
        have H:=H1
        clear H1
        obtain rfl:=Option.some.inj H
        go_wp2
        go_ret
        exact⟨by first|rfl|(simp;done)|(simp[*];done),by repeat(first|exact ah.refl _|apply ah.step)⟩
       ·replace c15:=Bool.eq_false_iff.mpr c15
        subst c15
        have H1:(pylonref01_IsText.l0 kj8 x0_5 0)=some r:=by rw[if_neg (show ¬ (false=true) by decide)] at H;exact H
        clear H
        have H:=H1
        clear H1
        have H':=ae.mk H
        clear H
        go_wp2
        go_loopg [4] kj8 (fun kq v4 w'=>∃ (x4_4:Int),v4 = .int .i64 x4_4∧ae (pylonref01_IsText.l0 kq x0_5 x4_4=some r)∧ae (kq≤kj8)∧ah w w')
        case atStart=>exact⟨(0),(by first|rfl|(simp;done)|(simp[*];done)|(simp[isEmpty_bne];done)|(simp[isEmpty_beq];done)),H',⟨Nat.le_refl _⟩,by repeat(first|exact ah.refl _|apply ah.step)⟩
        case round=>
         clear H'
         try clear c1
         try clear p1
         try clear q1
         try clear hx1
         try clear qi1
         try clear p2
         try clear c3
         try clear c3b0
         try clear c3b1
         try clear c4
         try clear c4b0
         try clear c4b1
         try clear c5
         try clear p5
         try clear q5
         try clear hx5
         try clear qi5
         try clear c7
         try clear c8
         try clear c8b0
         try clear c8b1
         try clear c10
         try clear c10b0
         try clear c10b1
         try clear c11
         try clear c11b0
         try clear c11b1
         try clear p12
         try clear q12
         try clear hx12
         try clear qi12
         try clear c13
         try clear c13b0
         try clear c13b1
         try clear c14
         try clear c14b0
         try clear c14b1
         try clear c15
         try clear p1
         try clear p12
         try clear p2
         try clear p5
         try clear q1
         try clear q12
         try clear q5
         obtain⟨x4_4,rfl,HA,HK4,⟨m4,rfl⟩⟩:=hrel
         cases gk with
         |zero=>exact absurd HA.o (by simp[pylonref01_IsText.l0])
         |succ k4=>
          have H:=HA.o
          clear HA
          simp only[pylonref01_IsText.l0] at H
          by_cases c16:x4_4 < (x0_5.size:Int)
          ·rw[if_pos c16] at H
           have c16b0:decide (x4_4 < (x0_5.size:Int))=true:=decide_eq_true c16
           clear c16
           by_cases c17:0≤x4_4
           ·rw[if_pos c17] at H
            have c17b0:decide (0≤x4_4)=true:=decide_eq_true c17
            clear c17
            by_cases c19:(bt x0_5 x4_4) < 48
            ·rw[if_pos c19] at H
             have c19b0:decide ((bt x0_5 x4_4) < 48)=true:=decide_eq_true c19
             clear c19
             obtain rfl:=Option.some.inj H
             have p18:0≤(x4_4:Int):=of_decide_eq_true (by first|(with_reducible assumption)|assumption)
             have q18:x4_4 < (x0_5.size:Int):=of_decide_eq_true (by first|(with_reducible assumption)|assumption)
             have hx18:=bt_at x0_5 x4_4
             replace p18:=eq_true p18
             replace q18:=eq_true q18
             go_wp2
             go_ret
             exact⟨by first|rfl|(simp;done)|(simp[*];done),by repeat(first|exact ah.refl _|apply ah.step)⟩
            ·rw[if_neg c19] at H
             have c19b0:decide ((bt x0_5 x4_4) < 48)=false:=decide_eq_false c19
             clear c19
             by_cases c21:(bt x0_5 x4_4) > 57
             ·rw[if_pos c21] at H
              have c21b0:decide (57 < (bt x0_5 x4_4))=true:=decide_eq_true c21
              clear c21
              obtain rfl:=Option.some.inj H
              have p18:0≤(x4_4:Int):=of_decide_eq_true (by first|(with_reducible assumption)|assumption)
              have q18:x4_4 < (x0_5.size:Int):=of_decide_eq_true (by first|(with_reducible assumption)|assumption)
              have hx18:=bt_at x0_5 x4_4
              replace p18:=eq_true p18
              replace q18:=eq_true q18
              have p20:0≤(x4_4:Int):=of_decide_eq_true (by first|(with_reducible assumption)|assumption)
              have q20:x4_4 < (x0_5.size:Int):=of_decide_eq_true (by first|(with_reducible assumption)|assumption)
              have hx20:=bt_at x0_5 x4_4
              replace p20:=eq_true p20
              replace q20:=eq_true q20
              go_wp2
              go_ret
              exact⟨by first|rfl|(simp;done)|(simp[*];done),by repeat(first|exact ah.refl _|apply ah.step)⟩
             ·rw[if_neg c21] at H
              have c21b0:decide (57 < (bt x0_5 x4_4))=false:=decide_eq_false c21
              clear c21
              have H':=ae.mk H
              clear H
              have p18:0≤(x4_4:Int):=of_decide_eq_true (by first|(with_reducible assumption)|assumption)
              have q18:x4_4 < (x0_5.size:Int):=of_decide_eq_true (by first|(with_reducible assumption)|assumption)
              have hx18:=bt_at x0_5 x4_4
              replace p18:=eq_true p18
              replace q18:=eq_true q18
              have p20:0≤(x4_4:Int):=of_decide_eq_true (by first|(with_reducible assumption)|assumption)
              have q20:x4_4 < (x0_5.size:Int):=of_decide_eq_true (by first|(with_reducible assumption)|assumption)
              have hx20:=bt_at x0_5 x4_4
              replace p20:=eq_true p20
              replace q20:=eq_true q20
              go_wp2
              go_roundg k4
              case measure=>have:=HJ1.o;have:=HJ5.o;have:=HJ8.o;have:=HK4.o;omega
              case rel=>exact⟨(wrap64 (x4_4+1)),(by first|rfl|(simp;done)|(simp[*];done)|(simp[isEmpty_bne];done)|(simp[isEmpty_beq];done)),H',⟨by have:=HJ1.o;have:=HJ5.o;have:=HJ8.o;have:=HK4.o;omega⟩,by repeat(first|exact ah.refl _|apply ah.step)⟩
           ·rw[if_neg c17] at H
            exact absurd H (by simp)
          ·rw[if_neg c16] at H
           have c16b0:decide (x4_4 < (x0_5.size:Int))=false:=decide_eq_false c16
           clear c16
           obtain rfl:=Option.some.inj H
           go_wp2
           go_ret
           exact⟨by first|rfl|(simp;done)|(simp[*];done),by repeat(first|exact ah.refl _|apply ah.step)⟩
end Go.Proofs.YtjokedpaidmjoaaGreatDoor.Pa
