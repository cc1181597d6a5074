/- A part of the proof. -/
import Derived.Test.YtjokedpaidmjoaaGreatDoorQ09
set_option linter.all false
namespace Go.Proofs.YtjokedpaidmjoaaGreatDoor.Pa
open Go.RowKit Go.Proofs.YtjokedpaidmjoaaGreatDoorW.PrintWords Go.Proofs.YtjokedpaidmjoaaGreatDoorW.PrintLast Go.Proofs.YtjokedpaidmjoaaGreatDoorW.PrintMore
attribute [local go_sem] dK dL eO eP dw dx dM dN
mutual
def pylonref01_Read.j0:Nat → ByteArray → Bool → Option (Int × Int)
 |0,_,_=>none
 |k+1,x0,x4=>pylonref01_Read.l0 k x0 x4 0 0
def pylonref01_Read.l0:Nat → ByteArray → Bool → Int → Int → Option (Int × Int)
 |0,_,_,_,_=>none
 |k+1,x0,x4,x5,x6=>if x6 < (x0.size:Int) then (if 0≤x6 then (if x5 > ((9223372036854775808 - (((bt x0 x6) - 48) % 256)) / 10) then (some (0,5)) else (pylonref01_Read.l0 k x0 x4 (IntKind.u64.wrap ((IntKind.u64.wrap (x5 * 10))+(((bt x0 x6) - 48) % 256))) (wrap64 (x6+1)))) else (none)) else ((pylonref01_signed.f k x4 0 x5).bind fun bt139=>(some (bt139.1,bt139.2)))
end
def pylonref01_Read.f (k:Nat) (a0:ByteArray):Option (Int × Int):=(pylonref01_IsText.f k a0).bind fun t138=>(if t138=true then (if 0 < (a0.size:Int) then (if (bt a0 0)=45 then (if 1≤(a0.size:Int) then (pylonref01_Read.j0 k (a0.extract 1 a0.size) ((bt a0 0) == 45)) else (none)) else (pylonref01_Read.j0 k a0 ((bt a0 0) == 45))) else (none)) else (some (0,1)))
set_option maxHeartbeats 8000000 in
set_option maxRecDepth 100000 in
theorem pylonref01_Read.calls (k:Nat) (a0:ByteArray) (r1:Int) (r2:Int) (w:World) (h:pylonref01_Read.f k a0=some (r1,r2)) :
  Calls Tryz.prog 81 #[.string a0] w fun e w'=>e = .returned (.tuple #[.int .i64 r1,.int .i64 r2])∧ah w w':=by
 have H:((pylonref01_IsText.f k a0).bind fun t138=>(if t138=true then (if 0 < (a0.size:Int) then (if (bt a0 0)=45 then (if 1≤(a0.size:Int) then (pylonref01_Read.j0 k (a0.extract 1 a0.size) ((bt a0 0) == 45)) else (none)) else (pylonref01_Read.j0 k a0 ((bt a0 0) == 45))) else (none)) else (some (0,1))))=some (r1,r2):=h
 clear h
 replace H:=Option.bind_eq_some_iff.mp H
 obtain⟨t138,A20,H⟩:=H
 replace H:(if t138=true then (if 0 < (a0.size:Int) then (if (bt a0 0)=45 then (if 1≤(a0.size:Int) then (pylonref01_Read.j0 k (a0.extract 1 a0.size) ((bt a0 0) == 45)) else (none)) else (pylonref01_Read.j0 k a0 ((bt a0 0) == 45))) else (none)) else (some (0,1)))=some (r1,r2):=H
 have A2:=ae.mk A20
 clear A20
 by_cases c3:t138=true
 ·subst c3
  have H1:(if 0 < (a0.size:Int) then (if (bt a0 0)=45 then (if 1≤(a0.size:Int) then (pylonref01_Read.j0 k (a0.extract 1 a0.size) ((bt a0 0) == 45)) else (none)) else (pylonref01_Read.j0 k a0 ((bt a0 0) == 45))) else (none))=some (r1,r2):=by rw[if_pos rfl] at H;exact H
  clear H
  have H:=H1
  clear H1
  by_cases c4:0 < (a0.size:Int)
  ·rw[if_pos c4] at H
   have c4b0:decide (0 < (a0.size:Int))=true:=decide_eq_true c4
   have c4b1:decide (0 < a0.size)=true:=decide_eq_true (by omega)
   clear c4
   have HC6:=ae.mk H
   clear H
   go_enter Tryz.func81,Tryz.ntmps81
   go_upto_if 14 with (first|((with_reducible refine au (f:=89) rfl ?_);refine bD (some 9) rfl rfl Tryz.func89 (by kernel_rfl) rfl #[.string a0] rfl (by (try simp only[List.map_toArray,List.map_cons,List.map_nil]);first|done|rfl|(simp only[List.length_drop,List.length_take];rfl)) ?_;(with_reducible refine(pylonref01_IsText.calls k a0 true _ A2.o).mono ?_);rintro e w' ⟨rfl,⟨nd,rfl⟩⟩;refine⟨_,rfl,?_⟩;have p5:0≤(0:Int):=(by omega);have q5:0 < a0.size:=(by have:(0:Int) < (a0.size:Int):=of_decide_eq_true (by first|(with_reducible assumption)|assumption);omega);have hx5 : ∀ h:0 < a0.size,((a0[0]'h).toNat:Int)=bt a0 0:=bt_at a0 0;clear p5;have qi5:(0 < (a0.size:Int))=True:=eq_true (of_decide_eq_true (by first|(with_reducible assumption)|assumption));replace q5:=eq_true q5))
   (try simp only[Act.put,List.setIfInBounds_toArray,List.set_cons_zero,List.set_cons_succ])
   go_cut [0] (fun v0 wc=>∃ (kq:Nat) (x0_5:ByteArray),v0 = .string x0_5∧ae (pylonref01_Read.j0 kq x0_5 ((bt a0 0) == 45)=some (r1,r2))∧ae (kq≤k)∧ah w wc)
   case first=>
    have H:=HC6.o
    clear HC6
    by_cases c7:(bt a0 0)=45
    ·rw[if_pos c7] at H
     have c7b0:((bt a0 0) == 45)=true:=beq_iff_eq.mpr c7
     have c7b1:((bt a0 0) != 45)=false:=bne_eq_false_iff_eq.mpr c7
     clear c7
     (first|rw[c7b0]|(simp only[i64_w,i32_w];rw[c7b0])|skip)
     by_cases c8:1≤(a0.size:Int)
     ·rw[if_pos c8] at H
      have c8b0:=eq_true c8
      have c8b1:decide (1≤(a0.size:Int))=true:=decide_eq_true c8
      clear c8
      have H':=ae.mk H
      clear H
      go_wp2
      refine Met.intro ?_
      go_step
      (repeat apply Exists.intro)
      refine⟨?rel,?frame⟩
      case frame=>(first|rfl|(rw[c7b0];done)|(rw[c7b0];rfl))
      case rel=>exact⟨_,(a0.extract 1 a0.size),(by first|rfl|(simp;done)|(simp[*];done)|(simp[isEmpty_bne];done)|(simp[isEmpty_beq];done)),H',⟨by first|omega|exact Nat.le_refl _⟩,by repeat(first|exact ah.refl _|apply ah.step)⟩
     ·rw[if_neg c8] at H
      exact absurd H (by simp)
    ·rw[if_neg c7] at H
     have c7b0:((bt a0 0) == 45)=false:=beq_eq_false_iff_ne.mpr c7
     have c7b1:((bt a0 0) != 45)=true:=bne_iff_ne.mpr c7
     (first|rw[c7b0]|(simp only[i64_w,i32_w];rw[c7b0])|skip)
     have H':=ae.mk H
     clear H
     go_wp2
     refine Met.intro ?_
     go_step
     (repeat apply Exists.intro)
     refine⟨?rel,?frame⟩
     case frame=>(first|rfl|(rw[c7b0];done)|(rw[c7b0];rfl))
     case rel=>exact⟨_,(a0),(by first|rfl|(simp;done)|(simp[*];done)|(simp[isEmpty_bne];done)|(simp[isEmpty_beq];done)),H',⟨by first|omega|exact Nat.le_refl _⟩,by repeat(first|exact ah.refl _|apply ah.step)⟩
   case rest=>
    clear HC6
    try clear p2
    try clear c3
    try clear c4
    try clear c4b0
    try clear c4b1
    try clear p5
    try clear q5
    try clear hx5
    try clear qi5
    try clear c7
    try clear c7b0
    try clear c7b1
    try clear c8
    try clear c8b0
    try clear c8b1
    try clear p5
    try clear q5
    obtain⟨kq,x0_5,rfl,HA,HJ5,⟨mc5,rfl⟩⟩:=hcut
    cases kq with
    |zero=>exact absurd HA.o (by simp[pylonref01_Read.j0])
    |succ kj5=>
     have H:=HA.o
     clear HA
     simp only[pylonref01_Read.j0] at H
     have H':=ae.mk H
     clear H
     go_wp2
     go_loopg [5,6] kj5 (fun kq v5 v6 w'=>∃ (x5_2:Int) (x6_2:Int),v5 = .int .u64 x5_2∧v6 = .int .i64 x6_2∧ae (pylonref01_Read.l0 kq x0_5 ((bt a0 0) == 45) x5_2 x6_2=some (r1,r2))∧ae (kq≤kj5)∧ah w w')
     case atStart=>exact⟨(0),(0),(by first|rfl|(simp;done)|(simp[*];done)|(simp[isEmpty_bne];done)|(simp[isEmpty_beq];done)),(by first|rfl|(simp;done)|(simp[*];done)|(simp[isEmpty_bne];done)|(simp[isEmpty_beq];done)),H',⟨Nat.le_refl _⟩,by repeat(first|exact ah.refl _|apply ah.step)⟩
     case round=>
      clear H'
      try clear p2
      try clear c3
      try clear c4
      try clear c4b0
      try clear c4b1
      try clear c5
      try clear p5
      try clear q5
      try clear hx5
      try clear qi5
      try clear c7
      try clear c7b0
      try clear c7b1
      try clear c8
      try clear c8b0
      try clear c8b1
      try clear p2
      try clear p5
      try clear q5
      obtain⟨x5_2,x6_2,rfl,rfl,HA,HK2,⟨m2,rfl⟩⟩:=hrel
      cases gk with
      |zero=>exact absurd HA.o (by simp[pylonref01_Read.l0])
      |succ k2=>
       have H:=HA.o
       clear HA
       simp only[pylonref01_Read.l0] at H
       by_cases c9:x6_2 < (x0_5.size:Int)
       ·rw[if_pos c9] at H
        have c9b0:decide (x6_2 < (x0_5.size:Int))=true:=decide_eq_true c9
        clear c9
        by_cases c10:0≤x6_2
        ·rw[if_pos c10] at H
         have c10b0:decide (0≤x6_2)=true:=decide_eq_true c10
         clear c10
         by_cases c12:x5_2 > ((9223372036854775808 - (((bt x0_5 x6_2) - 48) % 256)) / 10)
         ·rw[if_pos c12] at H
          have c12b0:decide (((9223372036854775808 - (((bt x0_5 x6_2) - 48) % 256)) / 10) < x5_2)=true:=decide_eq_true c12
          clear c12
          simp only[Option.some.injEq,Prod.mk.injEq] at H
          obtain⟨rfl,rfl⟩:=H
          have p11:0≤(x6_2:Int):=of_decide_eq_true (by first|(with_reducible assumption)|assumption)
          have q11:x6_2 < (x0_5.size:Int):=of_decide_eq_true (by first|(with_reducible assumption)|assumption)
          have hx11:=bt_at x0_5 x6_2
          replace p11:=eq_true p11
          replace q11:=eq_true q11
          go_wp2
          go_ret2
          exact⟨by first|rfl|(simp;done)|(simp[*];done),by repeat(first|exact ah.refl _|apply ah.step)⟩
         ·rw[if_neg c12] at H
          have c12b0:decide (((9223372036854775808 - (((bt x0_5 x6_2) - 48) % 256)) / 10) < x5_2)=false:=decide_eq_false c12
          clear c12
          have H':=ae.mk H
          clear H
          have p11:0≤(x6_2:Int):=of_decide_eq_true (by first|(with_reducible assumption)|assumption)
          have q11:x6_2 < (x0_5.size:Int):=of_decide_eq_true (by first|(with_reducible assumption)|assumption)
          have hx11:=bt_at x0_5 x6_2
          replace p11:=eq_true p11
          replace q11:=eq_true q11
          go_wp2
          go_roundg k2
          case measure=>have:=HJ5.o;have:=HK2.o;omega
          case rel=>exact⟨(IntKind.u64.wrap ((IntKind.u64.wrap (x5_2 * 10))+(((bt x0_5 x6_2) - 48) % 256))),(wrap64 (x6_2+1)),(by first|rfl|(simp;done)|(simp[*];done)|(simp[isEmpty_bne];done)|(simp[isEmpty_beq];done)),(by first|rfl|(simp;done)|(simp[*];done)|(simp[isEmpty_bne];done)|(simp[isEmpty_beq];done)),H',⟨by have:=HJ5.o;have:=HK2.o;omega⟩,by repeat(first|exact ah.refl _|apply ah.step)⟩
        ·rw[if_neg c10] at H
         exact absurd H (by simp)
       ·rw[if_neg c9] at H
        have c9b0:decide (x6_2 < (x0_5.size:Int))=false:=decide_eq_false c9
        clear c9
        replace H:=Option.bind_eq_some_iff.mp H
        obtain⟨⟨t139,t140⟩,A130,H⟩:=H
        replace H:(some (t139,t140))=some (r1,r2):=H
        have A13:=ae.mk A130
        clear A130
        simp only[Option.some.injEq,Prod.mk.injEq] at H
        obtain⟨rfl,rfl⟩:=H
        go_wp2_with (first|((with_reducible refine au (f:=79) rfl ?_);refine bD (some 39) rfl rfl Tryz.func79 (by kernel_rfl) rfl #[.bool ((bt a0 0) == 45),.int .u64 0,.int .u64 x5_2] rfl (by (try simp only[List.map_toArray,List.map_cons,List.map_nil]);first|done|rfl|(simp only[List.length_drop,List.length_take];rfl)) ?_;(with_reducible refine(pylonref01_signed.calls k2 ((bt a0 0) == 45) 0 x5_2 t139 t140 _ A13.o).mono ?_);rintro e w' ⟨rfl,⟨nd,rfl⟩⟩;refine⟨_,rfl,?_⟩))
        go_ret2
        exact⟨by first|rfl|(simp;done)|(simp[*];done),by repeat(first|exact ah.refl _|apply ah.step)⟩
  ·rw[if_neg c4] at H
   exact absurd H (by simp)
 ·replace c3:=Bool.eq_false_iff.mpr c3
  subst c3
  have H1:(some (0,1))=some (r1,r2):=by rw[if_neg (show ¬ (false=true) by decide)] at H;exact H
  clear H
  have H:=H1
  clear H1
  simp only[Option.some.injEq,Prod.mk.injEq] at H
  obtain⟨rfl,rfl⟩:=H
  go_enter Tryz.func81,Tryz.ntmps81
  go_wp2_with (first|((with_reducible refine au (f:=89) rfl ?_);refine bD (some 9) rfl rfl Tryz.func89 (by kernel_rfl) rfl #[.string a0] rfl (by (try simp only[List.map_toArray,List.map_cons,List.map_nil]);first|done|rfl|(simp only[List.length_drop,List.length_take];rfl)) ?_;(with_reducible refine(pylonref01_IsText.calls k a0 false _ A2.o).mono ?_);rintro e w' ⟨rfl,⟨nd,rfl⟩⟩;refine⟨_,rfl,?_⟩))
  go_ret2
  exact⟨by first|rfl|(simp;done)|(simp[*];done),by repeat(first|exact ah.refl _|apply ah.step)⟩
def pylonref06_Number.f (k:Nat) (a0:ByteArray) (a1:Int) (a2:Int):Option (Int × Int):=(pylonref01_Read.f k a0).bind fun bt141=>(if bt141.2=0 then (if bt141.1 < a1 then (some (0,5)) else (if bt141.1 > a2 then (some (0,5)) else (some (bt141.1,bt141.2)))) else (some (bt141.1,bt141.2)))
set_option maxHeartbeats 8000000 in
set_option maxRecDepth 100000 in
theorem pylonref06_Number.calls (k:Nat) (a0:ByteArray) (a1:Int) (a2:Int) (r1:Int) (r2:Int) (w:World) (h:pylonref06_Number.f k a0 a1 a2=some (r1,r2)) :
  Calls Tryz.prog 70 #[.string a0,.int .i64 a1,.int .i64 a2] w fun e w'=>e = .returned (.tuple #[.int .i64 r1,.int .i64 r2])∧ah w w':=by
 have H:((pylonref01_Read.f k a0).bind fun bt141=>(if bt141.2=0 then (if bt141.1 < a1 then (some (0,5)) else (if bt141.1 > a2 then (some (0,5)) else (some (bt141.1,bt141.2)))) else (some (bt141.1,bt141.2))))=some (r1,r2):=h
 clear h
 replace H:=Option.bind_eq_some_iff.mp H
 obtain⟨⟨t141,t142⟩,A40,H⟩:=H
 replace H:(if t142=0 then (if t141 < a1 then (some (0,5)) else (if t141 > a2 then (some (0,5)) else (some (t141,t142)))) else (some (t141,t142)))=some (r1,r2):=H
 have A4:=ae.mk A40
 clear A40
 by_cases c5:t142=0
 ·rw[if_pos c5] at H
  have c5b0:(t142 == 0)=true:=beq_iff_eq.mpr c5
  have c5b1:(t142 != 0)=false:=bne_eq_false_iff_eq.mpr c5
  clear c5
  by_cases c6:t141 < a1
  ·rw[if_pos c6] at H
   have c6b0:decide (t141 < a1)=true:=decide_eq_true c6
   clear c6
   simp only[Option.some.injEq,Prod.mk.injEq] at H
   obtain⟨rfl,rfl⟩:=H
   go_enter Tryz.func70,Tryz.ntmps70
   go_wp2_with (first|((with_reducible refine au (f:=81) rfl ?_);refine bD (some 12) rfl rfl Tryz.func81 (by kernel_rfl) rfl #[.string a0] rfl (by (try simp only[List.map_toArray,List.map_cons,List.map_nil]);first|done|rfl|(simp only[List.length_drop,List.length_take];rfl)) ?_;(with_reducible refine(pylonref01_Read.calls k a0 t141 t142 _ A4.o).mono ?_);rintro e w' ⟨rfl,⟨nd,rfl⟩⟩;refine⟨_,rfl,?_⟩))
   go_ret2
   exact⟨by first|rfl|(simp;done)|(simp[*];done),by repeat(first|exact ah.refl _|apply ah.step)⟩
  ·rw[if_neg c6] at H
   have c6b0:decide (t141 < a1)=false:=decide_eq_false c6
   clear c6
   by_cases c7:t141 > a2
   ·rw[if_pos c7] at H
    have c7b0:decide (a2 < t141)=true:=decide_eq_true c7
    clear c7
    simp only[Option.some.injEq,Prod.mk.injEq] at H
    obtain⟨rfl,rfl⟩:=H
    go_enter Tryz.func70,Tryz.ntmps70
    go_wp2_with (first|((with_reducible refine au (f:=81) rfl ?_);refine bD (some 12) rfl rfl Tryz.func81 (by kernel_rfl) rfl #[.string a0] rfl (by (try simp only[List.map_toArray,List.map_cons,List.map_nil]);first|done|rfl|(simp only[List.length_drop,List.length_take];rfl)) ?_;(with_reducible refine(pylonref01_Read.calls k a0 t141 t142 _ A4.o).mono ?_);rintro e w' ⟨rfl,⟨nd,rfl⟩⟩;refine⟨_,rfl,?_⟩))
    go_ret2
    exact⟨by first|rfl|(simp;done)|(simp[*];done),by repeat(first|exact ah.refl _|apply ah.step)⟩
   ·rw[if_neg c7] at H
    have c7b0:decide (a2 < t141)=false:=decide_eq_false c7
    clear c7
    simp only[Option.some.injEq,Prod.mk.injEq] at H
    obtain⟨rfl,rfl⟩:=H
    go_enter Tryz.func70,Tryz.ntmps70
    go_wp2_with (first|((with_reducible refine au (f:=81) rfl ?_);refine bD (some 12) rfl rfl Tryz.func81 (by kernel_rfl) rfl #[.string a0] rfl (by (try simp only[List.map_toArray,List.map_cons,List.map_nil]);first|done|rfl|(simp only[List.length_drop,List.length_take];rfl)) ?_;(with_reducible refine(pylonref01_Read.calls k a0 t141 t142 _ A4.o).mono ?_);rintro e w' ⟨rfl,⟨nd,rfl⟩⟩;refine⟨_,rfl,?_⟩))
    go_ret2
    exact⟨by first|rfl|(simp;done)|(simp[*];done),by repeat(first|exact ah.refl _|apply ah.step)⟩
 ·rw[if_neg c5] at H
  have c5b0:(t142 == 0)=false:=beq_eq_false_iff_ne.mpr c5
  have c5b1:(t142 != 0)=true:=bne_iff_ne.mpr c5
  simp only[Option.some.injEq,Prod.mk.injEq] at H
  obtain⟨rfl,rfl⟩:=H
  go_enter Tryz.func70,Tryz.ntmps70
  go_wp2_with (first|((with_reducible refine au (f:=81) rfl ?_);refine bD (some 12) rfl rfl Tryz.func81 (by kernel_rfl) rfl #[.string a0] rfl (by (try simp only[List.map_toArray,List.map_cons,List.map_nil]);first|done|rfl|(simp only[List.length_drop,List.length_take];rfl)) ?_;(with_reducible refine(pylonref01_Read.calls k a0 t141 t142 _ A4.o).mono ?_);rintro e w' ⟨rfl,⟨nd,rfl⟩⟩;refine⟨_,rfl,?_⟩))
  go_ret2
  exact⟨by first|rfl|(simp;done)|(simp[*];done),by repeat(first|exact ah.refl _|apply ah.step)⟩
def pylonref01_mag.f (a0:Int):Option (Int):=if a0 < 0 then (some (IntKind.u64.wrap ((IntKind.u64.wrap (wrap64 (-(wrap64 (a0+1)))))+1))) else (some (IntKind.u64.wrap (a0)))
set_option maxHeartbeats 8000000 in
set_option maxRecDepth 100000 in
theorem pylonref01_mag.calls (a0:Int) (r:Int) (w:World) (h:pylonref01_mag.f a0=some r) :
  Calls Tryz.prog 71 #[.int .i64 a0] w fun e w'=>e = .returned (.int .u64 r)∧ah w w':=by
 have H:(if a0 < 0 then (some (IntKind.u64.wrap ((IntKind.u64.wrap (wrap64 (-(wrap64 (a0+1)))))+1))) else (some (IntKind.u64.wrap (a0))))=some r:=h
 clear h
 by_cases c2:a0 < 0
 ·rw[if_pos c2] at H
  have c2b0:decide (a0 < 0)=true:=decide_eq_true c2
  clear c2
  obtain rfl:=Option.some.inj H
  go_enter Tryz.func71,Tryz.ntmps71
  go_wp2
  go_ret
  exact⟨by first|rfl|(simp;done)|(simp[*];done),by repeat(first|exact ah.refl _|apply ah.step)⟩
 ·rw[if_neg c2] at H
  have c2b0:decide (a0 < 0)=false:=decide_eq_false c2
  clear c2
  obtain rfl:=Option.some.inj H
  go_enter Tryz.func71,Tryz.ntmps71
  go_wp2
  go_ret
  exact⟨by first|rfl|(simp;done)|(simp[*];done),by repeat(first|exact ah.refl _|apply ah.step)⟩
def pylonref07_Step.f (a0:Int):Option (Bool):=if a0=15 then (some true) else (if a0=30 then (some true) else (some (a0 == 60)))
set_option maxHeartbeats 8000000 in
set_option maxRecDepth 100000 in
theorem pylonref07_Step.calls (a0:Int) (r:Bool) (w:World) (h:pylonref07_Step.f a0=some r) :
  Calls Tryz.prog 52 #[.int .i64 a0] w fun e w'=>e = .returned (.bool r)∧ah w w':=by
 have H:(if a0=15 then (some true) else (if a0=30 then (some true) else (some (a0 == 60))))=some r:=h
 clear h
 by_cases c2:a0=15
 ·rw[if_pos c2] at H
  have c2b0:(a0 == 15)=true:=beq_iff_eq.mpr c2
  have c2b1:(a0 != 15)=false:=bne_eq_false_iff_eq.mpr c2
  clear c2
  obtain rfl:=Option.some.inj H
  go_enter Tryz.func52,Tryz.ntmps52
  go_wp2
  go_ret
  exact⟨by first|rfl|(simp;done)|(simp[*];done),by repeat(first|exact ah.refl _|apply ah.step)⟩
 ·rw[if_neg c2] at H
  have c2b0:(a0 == 15)=false:=beq_eq_false_iff_ne.mpr c2
  have c2b1:(a0 != 15)=true:=bne_iff_ne.mpr c2
  by_cases c3:a0=30
  ·rw[if_pos c3] at H
   have c3b0:(a0 == 30)=true:=beq_iff_eq.mpr c3
   have c3b1:(a0 != 30)=false:=bne_eq_false_iff_eq.mpr c3
   clear c3
   obtain rfl:=Option.some.inj H
   go_enter Tryz.func52,Tryz.ntmps52
   go_wp2
   go_ret
   exact⟨by first|rfl|(simp;done)|(simp[*];done),by repeat(first|exact ah.refl _|apply ah.step)⟩
  ·rw[if_neg c3] at H
   have c3b0:(a0 == 30)=false:=beq_eq_false_iff_ne.mpr c3
   have c3b1:(a0 != 30)=true:=bne_iff_ne.mpr c3
   obtain rfl:=Option.some.inj H
   go_enter Tryz.func52,Tryz.ntmps52
   go_wp2
   go_ret
   exact⟨by first|rfl|(simp;done)|(simp[*];done),by repeat(first|exact ah.refl _|apply ah.step)⟩
def pylonref07_distance.f (a0:Int):Option (Int):=if a0 < 0 then (some (wrap64 (-a0))) else (some a0)
set_option maxHeartbeats 8000000 in
set_option maxRecDepth 100000 in
theorem pylonref07_distance.calls (a0:Int) (r:Int) (w:World) (h:pylonref07_distance.f a0=some r) :
  Calls Tryz.prog 64 #[.int .i64 a0] w fun e w'=>e = .returned (.int .i64 r)∧ah w w':=by
 have H:(if a0 < 0 then (some (wrap64 (-a0))) else (some a0))=some r:=h
 clear h
 by_cases c2:a0 < 0
 ·rw[if_pos c2] at H
  have c2b0:decide (a0 < 0)=true:=decide_eq_true c2
  clear c2
  obtain rfl:=Option.some.inj H
  go_enter Tryz.func64,Tryz.ntmps64
  go_wp2
  go_ret
  exact⟨by first|rfl|(simp;done)|(simp[*];done),by repeat(first|exact ah.refl _|apply ah.step)⟩
 ·rw[if_neg c2] at H
  have c2b0:decide (a0 < 0)=false:=decide_eq_false c2
  clear c2
  obtain rfl:=Option.some.inj H
  go_enter Tryz.func64,Tryz.ntmps64
  go_wp2
  go_ret
  exact⟨by first|rfl|(simp;done)|(simp[*];done),by repeat(first|exact ah.refl _|apply ah.step)⟩
def readfile_isFlag.f (a0:ByteArray):Option (Bool):=if a0.toList=([65] : List UInt8) then (some true) else (if a0.toList=([69] : List UInt8) then (some true) else (some (a0.toList == ([83] : List UInt8))))
set_option maxHeartbeats 8000000 in
set_option maxRecDepth 100000 in
theorem readfile_isFlag.calls (a0:ByteArray) (r:Bool) (w:World) (h:readfile_isFlag.f a0=some r) :
  Calls Tryz.prog 41 #[.string a0] w fun e w'=>e = .returned (.bool r)∧ah w w':=by
 have H:(if a0.toList=([65] : List UInt8) then (some true) else (if a0.toList=([69] : List UInt8) then (some true) else (some (a0.toList == ([83] : List UInt8)))))=some r:=h
 clear h
 by_cases c2:a0.toList=([65] : List UInt8)
 ·rw[if_pos c2] at H
  have c2b0:(a0.toList == ([65] : List UInt8))=true:=beq_iff_eq.mpr c2
  have c2b1:(a0.toList != ([65] : List UInt8))=false:=bne_eq_false_iff_eq.mpr c2
  clear c2
  obtain rfl:=Option.some.inj H
  go_enter Tryz.func41,Tryz.ntmps41
  go_wp2
  go_ret
  exact⟨by first|rfl|(simp;done)|(simp[*];done),by repeat(first|exact ah.refl _|apply ah.step)⟩
 ·rw[if_neg c2] at H
  have c2b0:(a0.toList == ([65] : List UInt8))=false:=beq_eq_false_iff_ne.mpr c2
  have c2b1:(a0.toList != ([65] : List UInt8))=true:=bne_iff_ne.mpr c2
  by_cases c3:a0.toList=([69] : List UInt8)
  ·rw[if_pos c3] at H
   have c3b0:(a0.toList == ([69] : List UInt8))=true:=beq_iff_eq.mpr c3
   have c3b1:(a0.toList != ([69] : List UInt8))=false:=bne_eq_false_iff_eq.mpr c3
   clear c3
   obtain rfl:=Option.some.inj H
   go_enter Tryz.func41,Tryz.ntmps41
   go_wp2
   go_ret
   exact⟨by first|rfl|(simp;done)|(simp[*];done),by repeat(first|exact ah.refl _|apply ah.step)⟩
  ·rw[if_neg c3] at H
   have c3b0:(a0.toList == ([69] : List UInt8))=false:=beq_eq_false_iff_ne.mpr c3
   have c3b1:(a0.toList != ([69] : List UInt8))=true:=bne_iff_ne.mpr c3
   obtain rfl:=Option.some.inj H
   go_enter Tryz.func41,Tryz.ntmps41
   go_wp2
   go_ret
   exact⟨by first|rfl|(simp;done)|(simp[*];done),by repeat(first|exact ah.refl _|apply ah.step)⟩
def readfile_isStep.f (a0:Int):Option (Bool):=if a0=15 then (some true) else (if a0=30 then (some true) else (some (a0 == 60)))
set_option maxHeartbeats 8000000 in
set_option maxRecDepth 100000 in
theorem readfile_isStep.calls (a0:Int) (r:Bool) (w:World) (h:readfile_isStep.f a0=some r) :
  Calls Tryz.prog 59 #[.int .i64 a0] w fun e w'=>e = .returned (.bool r)∧ah w w':=by
 have H:(if a0=15 then (some true) else (if a0=30 then (some true) else (some (a0 == 60))))=some r:=h
 clear h
 by_cases c2:a0=15
 ·rw[if_pos c2] at H
  have c2b0:(a0 == 15)=true:=beq_iff_eq.mpr c2
  have c2b1:(a0 != 15)=false:=bne_eq_false_iff_eq.mpr c2
  clear c2
  obtain rfl:=Option.some.inj H
  go_enter Tryz.func59,Tryz.ntmps59
  go_wp2
  go_ret
  exact⟨by first|rfl|(simp;done)|(simp[*];done),by repeat(first|exact ah.refl _|apply ah.step)⟩
 ·rw[if_neg c2] at H
  have c2b0:(a0 == 15)=false:=beq_eq_false_iff_ne.mpr c2
  have c2b1:(a0 != 15)=true:=bne_iff_ne.mpr c2
  by_cases c3:a0=30
  ·rw[if_pos c3] at H
   have c3b0:(a0 == 30)=true:=beq_iff_eq.mpr c3
   have c3b1:(a0 != 30)=false:=bne_eq_false_iff_eq.mpr c3
   clear c3
   obtain rfl:=Option.some.inj H
   go_enter Tryz.func59,Tryz.ntmps59
   go_wp2
   go_ret
   exact⟨by first|rfl|(simp;done)|(simp[*];done),by repeat(first|exact ah.refl _|apply ah.step)⟩
  ·rw[if_neg c3] at H
   have c3b0:(a0 == 30)=false:=beq_eq_false_iff_ne.mpr c3
   have c3b1:(a0 != 30)=true:=bne_iff_ne.mpr c3
   obtain rfl:=Option.some.inj H
   go_enter Tryz.func59,Tryz.ntmps59
   go_wp2
   go_ret
   exact⟨by first|rfl|(simp;done)|(simp[*];done),by repeat(first|exact ah.refl _|apply ah.step)⟩
def pylonlaw07_example.f:Option (ByteArray):=some (⟨#[109,101,116,101,114,32,109,45,49,32,49,55,54,55,50,50,53,54,48,48,32,49,53,32,52,32,49,32,48,10,114,101,97,100,32,48,32,49,48,48,32,48,32,45,53,32,65,10,114,101,97,100,32,49,32,49,50,48,32,48,32,48,32,65,10,114,101,97,100,32,51,32,57,48,32,49,48,32,50,32,69,10,101,110,100,32,51,32,51,51,49,10]⟩ : ByteArray)
set_option maxHeartbeats 8000000 in
set_option maxRecDepth 100000 in
theorem pylonlaw07_example.calls (r:ByteArray) (w:World) (h:pylonlaw07_example.f=some r) :
  Calls Tryz.prog 18 #[] w fun e w'=>e = .returned (.string r)∧ah w w':=by
 have H:(some (⟨#[109,101,116,101,114,32,109,45,49,32,49,55,54,55,50,50,53,54,48,48,32,49,53,32,52,32,49,32,48,10,114,101,97,100,32,48,32,49,48,48,32,48,32,45,53,32,65,10,114,101,97,100,32,49,32,49,50,48,32,48,32,48,32,65,10,114,101,97,100,32,51,32,57,48,32,49,48,32,50,32,69,10,101,110,100,32,51,32,51,51,49,10]⟩ : ByteArray))=some r:=h
 clear h
 obtain rfl:=Option.some.inj H
 go_enter Tryz.func18,Tryz.ntmps18
 go_wp2
 go_ret
 exact⟨by first|rfl|(simp;done)|(simp[*];done),by repeat(first|exact ah.refl _|apply ah.step)⟩
end Go.Proofs.YtjokedpaidmjoaaGreatDoor.Pa
