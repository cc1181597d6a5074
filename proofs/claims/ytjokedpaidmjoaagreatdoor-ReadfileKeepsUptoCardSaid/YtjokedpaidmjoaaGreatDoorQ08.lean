/- A part of the proof. -/
import Derived.Test.YtjokedpaidmjoaaGreatDoorQ07
set_option linter.all false
namespace Go.Proofs.YtjokedpaidmjoaaGreatDoor.Pa
open Go.RowKit Go.Proofs.YtjokedpaidmjoaaGreatDoorW.PrintWords Go.Proofs.YtjokedpaidmjoaaGreatDoorW.PrintLast Go.Proofs.YtjokedpaidmjoaaGreatDoorW.PrintMore
attribute [local go_sem] dK dL eO eP dw dx dM dN
mutual
def pylonref06_Words.l0:Nat → ByteArray → Int → Option (List ByteArray × Int × Int)
 |0,_,_=>none
 |k+1,x0,x5=>if x5 < (x0.size:Int) then ((pylonref06_wrong.f x0 x5).bind fun t122=>(if t122=true then (some (([] : List ByteArray),wrap64 (x5+1),1)) else (pylonref06_Words.l0 k x0 (wrap64 (x5+1))))) else (pylonref06_Words.l1 k x0 ([] : List ByteArray) (⟨#[]⟩ : ByteArray) 0)
def pylonref06_Words.l1:Nat → ByteArray → List ByteArray → ByteArray → Int → Option (List ByteArray × Int × Int)
 |0,_,_,_,_=>none
 |k+1,x0,x6,x7,x8=>if x8 < (x0.size:Int) then (if 0≤x8 then (if (bt x0 x8)=32 then (if x6.length < 8796093022208 then (pylonref06_Words.l1 k x0 (x6 ++ [x7]) (⟨#[]⟩ : ByteArray) (wrap64 (x8+1))) else (none)) else (if 0≤(wrap64 (x8 - (x7.size:Int))) then (if (wrap64 (x8 - (x7.size:Int)))≤(wrap64 (x8+1)) then (if (wrap64 (x8+1))≤(x0.size:Int) then (pylonref06_Words.l1 k x0 x6 (x0.extract ((wrap64 (x8 - (x7.size:Int))):Int).toNat ((wrap64 (x8+1)):Int).toNat) (wrap64 (x8+1))) else (none)) else (none)) else (none))) else (none)) else (if x6.length < 8796093022208 then (some ((x6 ++ [x7]),0,0)) else (none))
end
def pylonref06_Words.f (k:Nat) (a0:ByteArray):Option (List ByteArray × Int × Int):=if a0.toList=([] : List UInt8) then (some (([] : List ByteArray),1,1)) else (pylonref06_Words.l0 k a0 0)
set_option maxHeartbeats 8000000 in
set_option maxRecDepth 100000 in
theorem pylonref06_Words.calls (k:Nat) (a0:ByteArray) (r1:List ByteArray) (r2:Int) (r3:Int) (w:World) (h:pylonref06_Words.f k a0=some (r1,r2,r3)) :
  Calls Tryz.prog 20 #[.string a0] w fun e w'=>∃ v0_:Value,e = .returned (.tuple #[v0_,.int .i64 r2,.int .i64 r3])∧Kd.R Kd.string 9 w' w.heap.size (fun _=>True) v0_ r1∧Below w.heap.size w w':=by
 have HB:=ae.mk (Below.refl w.heap.size w)
 have H:(if a0.toList=([] : List UInt8) then (some (([] : List ByteArray),1,1)) else (pylonref06_Words.l0 k a0 0))=some (r1,r2,r3):=h
 clear h
 by_cases c2:a0.toList=([] : List UInt8)
 ·rw[if_pos c2] at H
  have c2b0:(a0.toList == ([] : List UInt8))=true:=beq_iff_eq.mpr c2
  have c2b1:(a0.toList != ([] : List UInt8))=false:=bne_eq_false_iff_eq.mpr c2
  clear c2
  simp only[Option.some.injEq,Prod.mk.injEq] at H
  obtain⟨rfl,rfl,rfl⟩:=H
  go_enter Tryz.func20,Tryz.ntmps20
  go_wp2
  go_ret3
  exact⟨_,by first|rfl|(simp[aj,ak] <;> rfl)|(simp[*,aj,ak] <;> rfl),by first|exact Kd.R_nil _ _ _ _ _|exact Kd.N_nil _ _ _ _ _|exact Kd.V_nil _ _ _ _ _|exact Kd.Q_nil _ _ _ _ _|exact Kd.S_nil _ _ _ _ _,by repeat(first|(with_reducible first|exact HB.o|apply af|apply aa|apply ag)|exact HB.o)⟩
 ·rw[if_neg c2] at H
  have c2b0:(a0.toList == ([] : List UInt8))=false:=beq_eq_false_iff_ne.mpr c2
  have c2b1:(a0.toList != ([] : List UInt8))=true:=bne_iff_ne.mpr c2
  have H':=ae.mk H
  clear H
  go_enter Tryz.func20,Tryz.ntmps20
  go_wp2
  go_loopg [5] k (fun kq v5 w'=>∃ (x5_1:Int),v5 = .int .i64 x5_1∧ae (pylonref06_Words.l0 kq a0 x5_1=some (r1,r2,r3))∧ae (kq≤k)∧ae (Below w.heap.size w w'))
  case atStart=>exact⟨(0),(by first|rfl|(simp;done)|(simp[*];done)|(simp[isEmpty_bne];done)|(simp[isEmpty_beq];done)),H',⟨Nat.le_refl _⟩,⟨by repeat(first|(with_reducible first|exact HB.o|apply af|apply aa|apply ag)|exact HB.o)⟩⟩
  case round=>
   clear H'
   try clear c2
   try clear c2b0
   try clear c2b1
   try clear p2
   obtain⟨x5_1,rfl,HA,HK1,HB⟩:=hrel
   cases gk with
   |zero=>exact absurd HA.o (by simp[pylonref06_Words.l0])
   |succ k1=>
    have H:=HA.o
    clear HA
    simp only[pylonref06_Words.l0] at H
    by_cases c3:x5_1 < (a0.size:Int)
    ·rw[if_pos c3] at H
     have c3b0:decide (x5_1 < (a0.size:Int))=true:=decide_eq_true c3
     clear c3
     replace H:=Option.bind_eq_some_iff.mp H
     obtain⟨t122,A40,H⟩:=H
     replace H:(if t122=true then (some (([] : List ByteArray),wrap64 (x5_1+1),1)) else (pylonref06_Words.l0 k1 a0 (wrap64 (x5_1+1))))=some (r1,r2,r3):=H
     have A4:=ae.mk A40
     clear A40
     by_cases c5:t122=true
     ·subst c5
      have H1:(some (([] : List ByteArray),wrap64 (x5_1+1),1))=some (r1,r2,r3):=by rw[if_pos rfl] at H;exact H
      clear H
      have H:=H1
      clear H1
      simp only[Option.some.injEq,Prod.mk.injEq] at H
      obtain⟨rfl,rfl,rfl⟩:=H
      go_wp2_with (first|((with_reducible refine au (f:=48) rfl ?_);refine bD (some 19) rfl rfl Tryz.func48 (by kernel_rfl) rfl #[.string a0,.int .i64 x5_1] rfl (by (try simp only[List.map_toArray,List.map_cons,List.map_nil]);first|done|rfl|(simp only[List.length_drop,List.length_take];rfl)) ?_;(with_reducible refine(pylonref06_wrong.calls a0 x5_1 true _ A4.o).mono ?_);rintro e w' ⟨rfl,⟨nd,rfl⟩⟩;refine⟨_,rfl,?_⟩))
      go_ret3
      exact⟨_,by first|rfl|(simp[aj,ak] <;> rfl)|(simp[*,aj,ak] <;> rfl),by first|exact Kd.R_nil _ _ _ _ _|exact Kd.N_nil _ _ _ _ _|exact Kd.V_nil _ _ _ _ _|exact Kd.Q_nil _ _ _ _ _|exact Kd.S_nil _ _ _ _ _,by repeat(first|(with_reducible first|exact HB.o|apply af|apply aa|apply ag)|exact HB.o)⟩
     ·replace c5:=Bool.eq_false_iff.mpr c5
      subst c5
      have H1:(pylonref06_Words.l0 k1 a0 (wrap64 (x5_1+1)))=some (r1,r2,r3):=by rw[if_neg (show ¬ (false=true) by decide)] at H;exact H
      clear H
      have H:=H1
      clear H1
      have H':=ae.mk H
      clear H
      go_wp2_with (first|((with_reducible refine au (f:=48) rfl ?_);refine bD (some 19) rfl rfl Tryz.func48 (by kernel_rfl) rfl #[.string a0,.int .i64 x5_1] rfl (by (try simp only[List.map_toArray,List.map_cons,List.map_nil]);first|done|rfl|(simp only[List.length_drop,List.length_take];rfl)) ?_;(with_reducible refine(pylonref06_wrong.calls a0 x5_1 false _ A4.o).mono ?_);rintro e w' ⟨rfl,⟨nd,rfl⟩⟩;refine⟨_,rfl,?_⟩))
      go_roundg k1
      case measure=>have:=HK1.o;omega
      case rel=>exact⟨(wrap64 (x5_1+1)),(by first|rfl|(simp;done)|(simp[*];done)|(simp[isEmpty_bne];done)|(simp[isEmpty_beq];done)),H',⟨by have:=HK1.o;omega⟩,⟨by repeat(first|(with_reducible first|exact HB.o|apply af|apply aa|apply ag)|exact HB.o)⟩⟩
    ·rw[if_neg c3] at H
     have c3b0:decide (x5_1 < (a0.size:Int))=false:=decide_eq_false c3
     clear c3
     have H':=ae.mk H
     clear H
     go_wp2
     go_loopg [6,7,8] k1 (fun kq v6 v7 v8 w'=>∃ (x6_2:List ByteArray) (x7_2:ByteArray) (x8_2:Int),v7 = .string x7_2∧v8 = .int .i64 x8_2∧ae (pylonref06_Words.l1 kq a0 x6_2 x7_2 x8_2=some (r1,r2,r3))∧ae (kq≤k1)∧ae (Kd.R Kd.string 9 w' w.heap.size (fun _=>True) v6 x6_2)∧ae (Below w.heap.size w w'))
     case atStart=>exact⟨(([] : List ByteArray)),((⟨#[]⟩ : ByteArray)),(0),(by first|rfl|(simp;done)|(simp[*];done)|(simp[isEmpty_bne];done)|(simp[isEmpty_beq];done)),(by first|rfl|(simp;done)|(simp[*];done)|(simp[isEmpty_bne];done)|(simp[isEmpty_beq];done)),H',⟨Nat.le_refl _⟩,⟨by first|exact Kd.R_nil _ _ _ _ _|exact Kd.N_nil _ _ _ _ _|exact Kd.V_nil _ _ _ _ _|exact Kd.Q_nil _ _ _ _ _|exact Kd.S_nil _ _ _ _ _⟩,⟨by repeat(first|(with_reducible first|exact HB.o|apply af|apply aa|apply ag)|exact HB.o)⟩⟩
     case round=>
      clear H'
      try clear c2
      try clear c2b0
      try clear c2b1
      try clear p2
      try clear c3
      try clear c3b0
      try clear c4
      try clear c5
      try clear p2
      (try clear HO_6)
      obtain⟨x6_2,x7_2,x8_2,rfl,rfl,HA,HK2,HO_6,HB⟩:=hrel
      cases gk with
      |zero=>exact absurd HA.o (by simp[pylonref06_Words.l1])
      |succ k2=>
       have H:=HA.o
       clear HA
       simp only[pylonref06_Words.l1] at H
       by_cases c6:x8_2 < (a0.size:Int)
       ·rw[if_pos c6] at H
        have c6b0:decide (x8_2 < (a0.size:Int))=true:=decide_eq_true c6
        clear c6
        by_cases c7:0≤x8_2
        ·rw[if_pos c7] at H
         have c7b0:decide (0≤x8_2)=true:=decide_eq_true c7
         clear c7
         by_cases c9:(bt a0 x8_2)=32
         ·rw[if_pos c9] at H
          have c9b0:((bt a0 x8_2) == 32)=true:=beq_iff_eq.mpr c9
          have c9b1:((bt a0 x8_2) != 32)=false:=bne_eq_false_iff_eq.mpr c9
          clear c9
          by_cases c10:x6_2.length < 8796093022208
          ·rw[if_pos c10] at H
           have LMc10:=ae.mk c10
           clear c10
           obtain⟨y123,hy123⟩ : ∃ y_:List ByteArray,y_=(x6_2 ++ [x7_2]):=⟨_,rfl⟩
           replace H:(pylonref06_Words.l1 k2 a0 y123 (⟨#[]⟩ : ByteArray) (wrap64 (x8_2+1)))=some (r1,r2,r3):=by first|(rw[hy123];with_reducible exact H)|(have H2_:=(Option.bind_some _ _).symm.trans H;rw[hy123];with_reducible exact H2_)|(have H2_:=(Option.bind_some _ _).symm.trans H;with_reducible exact H2_)|with_reducible exact H|(rw[hy123];exact H)|exact H
           have Ny123:=ae.mk hy123
           clear hy123
           have H':=ae.mk H
           clear H
           have p8:0≤(x8_2:Int):=of_decide_eq_true (by first|(with_reducible assumption)|assumption)
           have q8:x8_2 < (a0.size:Int):=of_decide_eq_true (by first|(with_reducible assumption)|assumption)
           have hx8:=bt_at a0 x8_2
           replace p8:=eq_true p8
           replace q8:=eq_true q8
           go_wp2_with (first|((with_reducible refine aV (b:=.append) (xs:=#[.tmp 32,.tmp 34]) rfl ?_);at_builtin;refine Kd.bX Kd.string (w0:=w) w.heap.size rfl (.tmp 32) (.tmp 34) 46 9 (.string ⟨#[]⟩) 16 rfl Tryz.underlying46 info9 rfl (by decide) (by omega) u6 x6_2 x7_2 [.string x7_2] (fun _=>True) (fun _=>False) rfl rfl ?aP (fun _ hk=>hk.elim) ?aF ?aO ?aB ?aS ?aL ?_;(case aP=>exact rfl);(case aB=>exact(by repeat(first|(with_reducible first|exact HB.o|apply af|apply aa|apply ag)|exact HB.o)));(case aF=>exact(fun _ _=>trivial));(case aO=>exact(by (with_reducible repeat(first|apply Kd.az|apply Kd.aA|apply Kd.aZ));exact HO_6.o));(case aS=>exact(bf (by repeat(first|(with_reducible first|exact HB.o|apply af|apply aa|apply ag)|exact HB.o))));(case aL=>have:=LMc10.o;omega);intro v124 w11 ho hb hg hat;rw[← Ny123.o] at ho;have n0_:=ae.mk (hb);have n1_:=ae.mk (ho);clear HB;clear HO_6;have HB:=n0_;have HO125:=n1_;clear n0_ n1_;clear ho hb hg hat))
           go_roundg k2
           case measure=>have:=HK1.o;have:=HK2.o;omega
           case rel=>exact⟨(y123),((⟨#[]⟩ : ByteArray)),(wrap64 (x8_2+1)),(by first|rfl|(simp;done)|(simp[*];done)|(simp[isEmpty_bne];done)|(simp[isEmpty_beq];done)),(by first|rfl|(simp;done)|(simp[*];done)|(simp[isEmpty_bne];done)|(simp[isEmpty_beq];done)),H',⟨by have:=HK1.o;have:=HK2.o;omega⟩,⟨by (with_reducible repeat(first|apply Kd.az|apply Kd.aA|apply Kd.aZ));exact HO125.o⟩,⟨by repeat(first|(with_reducible first|exact HB.o|apply af|apply aa|apply ag)|exact HB.o)⟩⟩
          ·rw[if_neg c10] at H
           exact absurd H (by simp)
         ·rw[if_neg c9] at H
          have c9b0:((bt a0 x8_2) == 32)=false:=beq_eq_false_iff_ne.mpr c9
          have c9b1:((bt a0 x8_2) != 32)=true:=bne_iff_ne.mpr c9
          obtain⟨ji12,hji12⟩ : ∃ j_:Int,(wrap64 (x8_2 - (x7_2.size:Int)))=j_:=⟨_,rfl⟩
          replace H:(if 0≤(ji12) then (if (ji12)≤(wrap64 (x8_2+1)) then (if (wrap64 (x8_2+1))≤(a0.size:Int) then (pylonref06_Words.l1 k2 a0 x6_2 (a0.extract ((ji12):Int).toNat ((wrap64 (x8_2+1)):Int).toNat) (wrap64 (x8_2+1))) else (none)) else (none)) else (none))=some (r1,r2,r3):=by first|(rw[hji12] at H;exact H)|(simp only[hji12] at H ⊢;exact H)
          have hji12w:(IntKind.i64.wrap (x8_2 - (x7_2.size:Int)))=ji12:=(i64_w _).trans hji12
          by_cases c13:0≤(ji12)
          ·rw[if_pos c13] at H
           have c13b0:=eq_true c13
           have c13b1:decide (0≤(ji12))=true:=decide_eq_true c13
           clear c13
           by_cases c14:(ji12)≤(wrap64 (x8_2+1))
           ·rw[if_pos c14] at H
            have c14b0:=eq_true c14
            have c14b1:decide ((ji12)≤(wrap64 (x8_2+1)))=true:=decide_eq_true c14
            by_cases c15:(wrap64 (x8_2+1))≤(a0.size:Int)
            ·rw[if_pos c15] at H
             have c15b0:=eq_true c15
             have c15b1:decide ((wrap64 (x8_2+1))≤(a0.size:Int))=true:=decide_eq_true c15
             have H':=ae.mk H
             clear H
             have p8:0≤(x8_2:Int):=of_decide_eq_true (by first|(with_reducible assumption)|assumption)
             have q8:x8_2 < (a0.size:Int):=of_decide_eq_true (by first|(with_reducible assumption)|assumption)
             have hx8:=bt_at a0 x8_2
             replace p8:=eq_true p8
             replace q8:=eq_true q8
             go_wp2
             go_roundg k2
             case measure=>have:=HK1.o;have:=HK2.o;omega
             case rel=>exact⟨(x6_2),(a0.extract ((ji12):Int).toNat ((wrap64 (x8_2+1)):Int).toNat),(wrap64 (x8_2+1)),(by first|rfl|(simp;done)|(simp only[← hji12] <;> (first|rfl|simp))|(simp[*];done)),(by first|rfl|(simp;done)|(simp[*];done)|(simp[isEmpty_bne];done)|(simp[isEmpty_beq];done)),H',⟨by have:=HK1.o;have:=HK2.o;omega⟩,⟨by (with_reducible repeat(first|apply Kd.az|apply Kd.aA|apply Kd.aZ));exact HO_6.o⟩,⟨by repeat(first|(with_reducible first|exact HB.o|apply af|apply aa|apply ag)|exact HB.o)⟩⟩
            ·rw[if_neg c15] at H
             exact absurd H (by simp)
           ·rw[if_neg c14] at H
            exact absurd H (by simp)
          ·rw[if_neg c13] at H
           exact absurd H (by simp)
        ·rw[if_neg c7] at H
         exact absurd H (by simp)
       ·rw[if_neg c6] at H
        have c6b0:decide (x8_2 < (a0.size:Int))=false:=decide_eq_false c6
        clear c6
        by_cases c16:x6_2.length < 8796093022208
        ·rw[if_pos c16] at H
         have LMc16:=ae.mk c16
         clear c16
         obtain⟨y126,hy126⟩ : ∃ y_:List ByteArray,y_=(x6_2 ++ [x7_2]):=⟨_,rfl⟩
         replace H:(some (y126,0,0))=some (r1,r2,r3):=by first|(rw[hy126];with_reducible exact H)|(have H2_:=(Option.bind_some _ _).symm.trans H;rw[hy126];with_reducible exact H2_)|(have H2_:=(Option.bind_some _ _).symm.trans H;with_reducible exact H2_)|with_reducible exact H|(rw[hy126];exact H)|exact H
         have Ny126:=ae.mk hy126
         clear hy126
         simp only[Option.some.injEq,Prod.mk.injEq] at H
         obtain⟨rfl,rfl,rfl⟩:=H
         go_wp2_with (first|((with_reducible refine aV (b:=.append) (xs:=#[.tmp 44,.tmp 46]) rfl ?_);at_builtin;refine Kd.bX Kd.string (w0:=w) w.heap.size rfl (.tmp 44) (.tmp 46) 46 9 (.string ⟨#[]⟩) 16 rfl Tryz.underlying46 info9 rfl (by decide) (by omega) u6 x6_2 x7_2 [.string x7_2] (fun _=>True) (fun _=>False) rfl rfl ?aP (fun _ hk=>hk.elim) ?aF ?aO ?aB ?aS ?aL ?_;(case aP=>exact rfl);(case aB=>exact(by repeat(first|(with_reducible first|exact HB.o|apply af|apply aa|apply ag)|exact HB.o)));(case aF=>exact(fun _ _=>trivial));(case aO=>exact(by (with_reducible repeat(first|apply Kd.az|apply Kd.aA|apply Kd.aZ));exact HO_6.o));(case aS=>exact(bf (by repeat(first|(with_reducible first|exact HB.o|apply af|apply aa|apply ag)|exact HB.o))));(case aL=>have:=LMc16.o;omega);intro v127 w17 ho hb hg hat;rw[← Ny126.o] at ho;have n0_:=ae.mk (hb);have n1_:=ae.mk (ho);clear HB;clear HO_6;have HB:=n0_;have HO128:=n1_;clear n0_ n1_;clear ho hb hg hat))
         go_ret3
         exact⟨_,by first|rfl|(simp[aj,ak] <;> rfl)|(simp[*,aj,ak] <;> rfl),by (with_reducible repeat(first|apply Kd.az|apply Kd.aA|apply Kd.aZ));exact HO128.o,by repeat(first|(with_reducible first|exact HB.o|apply af|apply aa|apply ag)|exact HB.o)⟩
        ·rw[if_neg c16] at H
         exact absurd H (by simp)
def pylonref06_Lines.l0:Nat → ByteArray → List ByteArray → Int → Int → Option (List ByteArray × Int × Int)
 |0,_,_,_,_=>none
 |k+1,x0,x5,x6,x7=>if x7 < (x0.size:Int) then (if 0≤x7 then (if (bt x0 x7)=10 then (if 0≤x6 then (if x6≤x7 then (if x7≤(x0.size:Int) then (if x5.length < 8796093022208 then (pylonref06_Lines.l0 k x0 (x5 ++ [x0.extract (x6:Int).toNat (x7:Int).toNat]) (wrap64 (x7+1)) (wrap64 (x7+1))) else (none)) else (none)) else (none)) else (none)) else (pylonref06_Lines.l0 k x0 x5 x6 (wrap64 (x7+1)))) else (none)) else (if x6 < (x0.size:Int) then (some (([] : List ByteArray),wrap64 ((x5.length:Int)+1),1)) else (some (x5,0,0)))
def pylonref06_Lines.f (k:Nat) (a0:ByteArray):Option (List ByteArray × Int × Int):=if (a0.size:Int) > 1048576 then (some (([] : List ByteArray),0,9)) else (pylonref06_Lines.l0 k a0 ([] : List ByteArray) 0 0)
set_option maxHeartbeats 8000000 in
set_option maxRecDepth 100000 in
theorem pylonref06_Lines.calls (k:Nat) (a0:ByteArray) (r1:List ByteArray) (r2:Int) (r3:Int) (w:World) (h:pylonref06_Lines.f k a0=some (r1,r2,r3)) :
  Calls Tryz.prog 47 #[.string a0] w fun e w'=>∃ v0_:Value,e = .returned (.tuple #[v0_,.int .i64 r2,.int .i64 r3])∧Kd.R Kd.string 9 w' w.heap.size (fun _=>True) v0_ r1∧Below w.heap.size w w':=by
 have HB:=ae.mk (Below.refl w.heap.size w)
 have H:(if (a0.size:Int) > 1048576 then (some (([] : List ByteArray),0,9)) else (pylonref06_Lines.l0 k a0 ([] : List ByteArray) 0 0))=some (r1,r2,r3):=h
 clear h
 by_cases c2:(a0.size:Int) > 1048576
 ·rw[if_pos c2] at H
  have c2b0:decide (1048576 < (a0.size:Int))=true:=decide_eq_true c2
  have c2b1:decide (1048576 < a0.size)=true:=decide_eq_true (by omega)
  clear c2
  simp only[Option.some.injEq,Prod.mk.injEq] at H
  obtain⟨rfl,rfl,rfl⟩:=H
  go_enter Tryz.func47,Tryz.ntmps47
  go_wp2
  go_ret3
  exact⟨_,by first|rfl|(simp[aj,ak] <;> rfl)|(simp[*,aj,ak] <;> rfl),by first|exact Kd.R_nil _ _ _ _ _|exact Kd.N_nil _ _ _ _ _|exact Kd.V_nil _ _ _ _ _|exact Kd.Q_nil _ _ _ _ _|exact Kd.S_nil _ _ _ _ _,by repeat(first|(with_reducible first|exact HB.o|apply af|apply aa|apply ag)|exact HB.o)⟩
 ·rw[if_neg c2] at H
  have c2b0:decide (1048576 < (a0.size:Int))=false:=decide_eq_false c2
  have c2b1:decide (1048576 < a0.size)=false:=decide_eq_false (by omega)
  clear c2
  have H':=ae.mk H
  clear H
  go_enter Tryz.func47,Tryz.ntmps47
  go_wp2
  go_loopg [5,6,7] k (fun kq v5 v6 v7 w'=>∃ (x5_1:List ByteArray) (x6_1:Int) (x7_1:Int),v6 = .int .i64 x6_1∧v7 = .int .i64 x7_1∧ae (pylonref06_Lines.l0 kq a0 x5_1 x6_1 x7_1=some (r1,r2,r3))∧ae (kq≤k)∧ae (Kd.R Kd.string 9 w' w.heap.size (fun _=>True) v5 x5_1)∧ae (Below w.heap.size w w'))
  case atStart=>exact⟨(([] : List ByteArray)),(0),(0),(by first|rfl|(simp;done)|(simp[*];done)|(simp[isEmpty_bne];done)|(simp[isEmpty_beq];done)),(by first|rfl|(simp;done)|(simp[*];done)|(simp[isEmpty_bne];done)|(simp[isEmpty_beq];done)),H',⟨Nat.le_refl _⟩,⟨by first|exact Kd.R_nil _ _ _ _ _|exact Kd.N_nil _ _ _ _ _|exact Kd.V_nil _ _ _ _ _|exact Kd.Q_nil _ _ _ _ _|exact Kd.S_nil _ _ _ _ _⟩,⟨by repeat(first|(with_reducible first|exact HB.o|apply af|apply aa|apply ag)|exact HB.o)⟩⟩
  case round=>
   clear H'
   try clear c2
   try clear c2b0
   try clear c2b1
   try clear p2
   (try clear HO_5)
   obtain⟨x5_1,x6_1,x7_1,rfl,rfl,HA,HK1,HO_5,HB⟩:=hrel
   cases gk with
   |zero=>exact absurd HA.o (by simp[pylonref06_Lines.l0])
   |succ k1=>
    have H:=HA.o
    clear HA
    simp only[pylonref06_Lines.l0] at H
    by_cases c3:x7_1 < (a0.size:Int)
    ·rw[if_pos c3] at H
     have c3b0:decide (x7_1 < (a0.size:Int))=true:=decide_eq_true c3
     clear c3
     by_cases c4:0≤x7_1
     ·rw[if_pos c4] at H
      have c4b0:decide (0≤x7_1)=true:=decide_eq_true c4
      clear c4
      by_cases c6:(bt a0 x7_1)=10
      ·rw[if_pos c6] at H
       have c6b0:((bt a0 x7_1) == 10)=true:=beq_iff_eq.mpr c6
       have c6b1:((bt a0 x7_1) != 10)=false:=bne_eq_false_iff_eq.mpr c6
       clear c6
       by_cases c7:0≤x6_1
       ·rw[if_pos c7] at H
        have c7b0:=eq_true c7
        have c7b1:decide (0≤x6_1)=true:=decide_eq_true c7
        clear c7
        by_cases c8:x6_1≤x7_1
        ·rw[if_pos c8] at H
         have c8b0:=eq_true c8
         have c8b1:decide (x6_1≤x7_1)=true:=decide_eq_true c8
         clear c8
         by_cases c9:x7_1≤(a0.size:Int)
         ·rw[if_pos c9] at H
          have c9b0:=eq_true c9
          have c9b1:decide (x7_1≤(a0.size:Int))=true:=decide_eq_true c9
          clear c9
          by_cases c10:x5_1.length < 8796093022208
          ·rw[if_pos c10] at H
           have LMc10:=ae.mk c10
           clear c10
           obtain⟨y129,hy129⟩ : ∃ y_:List ByteArray,y_=(x5_1 ++ [a0.extract (x6_1:Int).toNat (x7_1:Int).toNat]):=⟨_,rfl⟩
           replace H:(pylonref06_Lines.l0 k1 a0 y129 (wrap64 (x7_1+1)) (wrap64 (x7_1+1)))=some (r1,r2,r3):=by first|(rw[hy129];with_reducible exact H)|(have H2_:=(Option.bind_some _ _).symm.trans H;rw[hy129];with_reducible exact H2_)|(have H2_:=(Option.bind_some _ _).symm.trans H;with_reducible exact H2_)|with_reducible exact H|(rw[hy129];exact H)|exact H
           have Ny129:=ae.mk hy129
           clear hy129
           have H':=ae.mk H
           clear H
           have p5:0≤(x7_1:Int):=of_decide_eq_true (by first|(with_reducible assumption)|assumption)
           have q5:x7_1 < (a0.size:Int):=of_decide_eq_true (by first|(with_reducible assumption)|assumption)
           have hx5:=bt_at a0 x7_1
           replace p5:=eq_true p5
           replace q5:=eq_true q5
           go_wp2_with (first|((with_reducible refine aV (b:=.append) (xs:=#[.tmp 21,.tmp 26]) rfl ?_);at_builtin;refine Kd.bX Kd.string (w0:=w) w.heap.size rfl (.tmp 21) (.tmp 26) 46 9 (.string ⟨#[]⟩) 16 rfl Tryz.underlying46 info9 rfl (by decide) (by omega) u5 x5_1 (a0.extract (x6_1:Int).toNat (x7_1:Int).toNat) [.string (a0.extract (x6_1:Int).toNat (x7_1:Int).toNat)] (fun _=>True) (fun _=>False) rfl rfl ?aP (fun _ hk=>hk.elim) ?aF ?aO ?aB ?aS ?aL ?_;(case aP=>exact rfl);(case aB=>exact(by repeat(first|(with_reducible first|exact HB.o|apply af|apply aa|apply ag)|exact HB.o)));(case aF=>exact(fun _ _=>trivial));(case aO=>exact(by (with_reducible repeat(first|apply Kd.az|apply Kd.aA|apply Kd.aZ));exact HO_5.o));(case aS=>exact(bf (by repeat(first|(with_reducible first|exact HB.o|apply af|apply aa|apply ag)|exact HB.o))));(case aL=>have:=LMc10.o;omega);intro v130 w11 ho hb hg hat;rw[← Ny129.o] at ho;have n0_:=ae.mk (hb);have n1_:=ae.mk (ho);clear HB;clear HO_5;have HB:=n0_;have HO131:=n1_;clear n0_ n1_;clear ho hb hg hat))
           go_roundg k1
           case measure=>have:=HK1.o;omega
           case rel=>exact⟨(y129),(wrap64 (x7_1+1)),(wrap64 (x7_1+1)),(by first|rfl|(simp;done)|(simp[*];done)|(simp[isEmpty_bne];done)|(simp[isEmpty_beq];done)),(by first|rfl|(simp;done)|(simp[*];done)|(simp[isEmpty_bne];done)|(simp[isEmpty_beq];done)),H',⟨by have:=HK1.o;omega⟩,⟨by (with_reducible repeat(first|apply Kd.az|apply Kd.aA|apply Kd.aZ));exact HO131.o⟩,⟨by repeat(first|(with_reducible first|exact HB.o|apply af|apply aa|apply ag)|exact HB.o)⟩⟩
          ·rw[if_neg c10] at H
           exact absurd H (by simp)
         ·rw[if_neg c9] at H
          exact absurd H (by simp)
        ·rw[if_neg c8] at H
         exact absurd H (by simp)
       ·rw[if_neg c7] at H
        exact absurd H (by simp)
      ·rw[if_neg c6] at H
       have c6b0:((bt a0 x7_1) == 10)=false:=beq_eq_false_iff_ne.mpr c6
       have c6b1:((bt a0 x7_1) != 10)=true:=bne_iff_ne.mpr c6
       have H':=ae.mk H
       clear H
       have p5:0≤(x7_1:Int):=of_decide_eq_true (by first|(with_reducible assumption)|assumption)
       have q5:x7_1 < (a0.size:Int):=of_decide_eq_true (by first|(with_reducible assumption)|assumption)
       have hx5:=bt_at a0 x7_1
       replace p5:=eq_true p5
       replace q5:=eq_true q5
       go_wp2
       go_roundg k1
       case measure=>have:=HK1.o;omega
       case rel=>exact⟨(x5_1),(x6_1),(wrap64 (x7_1+1)),(by first|rfl|(simp;done)|(simp[*];done)|(simp[isEmpty_bne];done)|(simp[isEmpty_beq];done)),(by first|rfl|(simp;done)|(simp[*];done)|(simp[isEmpty_bne];done)|(simp[isEmpty_beq];done)),H',⟨by have:=HK1.o;omega⟩,⟨by (with_reducible repeat(first|apply Kd.az|apply Kd.aA|apply Kd.aZ));exact HO_5.o⟩,⟨by repeat(first|(with_reducible first|exact HB.o|apply af|apply aa|apply ag)|exact HB.o)⟩⟩
     ·rw[if_neg c4] at H
      exact absurd H (by simp)
    ·rw[if_neg c3] at H
     have c3b0:decide (x7_1 < (a0.size:Int))=false:=decide_eq_false c3
     clear c3
     by_cases c12:x6_1 < (a0.size:Int)
     ·rw[if_pos c12] at H
      have c12b0:decide (x6_1 < (a0.size:Int))=true:=decide_eq_true c12
      clear c12
      simp only[Option.some.injEq,Prod.mk.injEq] at H
      obtain⟨rfl,rfl,rfl⟩:=H
      obtain⟨Ao13,co13,eo13⟩:=Kd.R_slice HO_5.o
      subst eo13
      go_wp2
      go_ret3
      exact⟨_,by first|rfl|(simp[aj,ak] <;> rfl)|(simp[*,aj,ak] <;> rfl),by first|exact Kd.R_nil _ _ _ _ _|exact Kd.N_nil _ _ _ _ _|exact Kd.V_nil _ _ _ _ _|exact Kd.Q_nil _ _ _ _ _|exact Kd.S_nil _ _ _ _ _,by repeat(first|(with_reducible first|exact HB.o|apply af|apply aa|apply ag)|exact HB.o)⟩
     ·rw[if_neg c12] at H
      have c12b0:decide (x6_1 < (a0.size:Int))=false:=decide_eq_false c12
      clear c12
      simp only[Option.some.injEq,Prod.mk.injEq] at H
      obtain⟨rfl,rfl,rfl⟩:=H
      go_wp2
      go_ret3
      exact⟨_,by first|rfl|(simp[aj,ak] <;> rfl)|(simp[*,aj,ak] <;> rfl),by (with_reducible repeat(first|apply Kd.az|apply Kd.aA|apply Kd.aZ));exact HO_5.o,by repeat(first|(with_reducible first|exact HB.o|apply af|apply aa|apply ag)|exact HB.o)⟩
def pylonref06_Of.l0:Nat → ByteArray → Int → Int → Option (Bool)
 |0,_,_,_=>none
 |k+1,x0,x1,x5=>if x5 < (x0.size:Int) then (if 0≤x5 then (if (bt x0 x5)≥97 then (if (bt x0 x5)≤122 then (pylonref06_Of.l0 k x0 x1 (wrap64 (x5+1))) else (if (bt x0 x5)≥48 then (if (bt x0 x5)≤57 then (pylonref06_Of.l0 k x0 x1 (wrap64 (x5+1))) else (if (bt x0 x5)=95 then (pylonref06_Of.l0 k x0 x1 (wrap64 (x5+1))) else (if ((bt x0 x5)=45) then (pylonref06_Of.l0 k x0 x1 (wrap64 (x5+1))) else (some false)))) else (if (bt x0 x5)=95 then (pylonref06_Of.l0 k x0 x1 (wrap64 (x5+1))) else (if ((bt x0 x5)=45) then (pylonref06_Of.l0 k x0 x1 (wrap64 (x5+1))) else (some false))))) else (if (bt x0 x5)≥48 then (if (bt x0 x5)≤57 then (pylonref06_Of.l0 k x0 x1 (wrap64 (x5+1))) else (if (bt x0 x5)=95 then (pylonref06_Of.l0 k x0 x1 (wrap64 (x5+1))) else (if ((bt x0 x5)=45) then (pylonref06_Of.l0 k x0 x1 (wrap64 (x5+1))) else (some false)))) else (if (bt x0 x5)=95 then (pylonref06_Of.l0 k x0 x1 (wrap64 (x5+1))) else (if ((bt x0 x5)=45) then (pylonref06_Of.l0 k x0 x1 (wrap64 (x5+1))) else (some false))))) else (none)) else (if (x0.size:Int)≥1 then (some (decide ((x0.size:Int)≤x1))) else (some false))
def pylonref06_Of.f (k:Nat) (a0:ByteArray) (a1:Int):Option (Bool):=pylonref06_Of.l0 k a0 a1 0
set_option maxHeartbeats 8000000 in
set_option maxRecDepth 100000 in
theorem pylonref06_Of.calls (k:Nat) (a0:ByteArray) (a1:Int) (r:Bool) (w:World) (h:pylonref06_Of.f k a0 a1=some r) :
  Calls Tryz.prog 68 #[.string a0,.int .i64 a1] w fun e w'=>e = .returned (.bool r)∧ah w w':=by
 have H:(pylonref06_Of.l0 k a0 a1 0)=some r:=h
 clear h
 have H':=ae.mk H
 clear H
 go_enter Tryz.func68,Tryz.ntmps68
 go_wp2
 go_loopg [5] k (fun kq v5 w'=>∃ (x5_1:Int),v5 = .int .i64 x5_1∧ae (pylonref06_Of.l0 kq a0 a1 x5_1=some r)∧ae (kq≤k)∧ah w w')
 case atStart=>exact⟨(0),(by first|rfl|(simp;done)|(simp[*];done)|(simp[isEmpty_bne];done)|(simp[isEmpty_beq];done)),H',⟨Nat.le_refl _⟩,by repeat(first|exact ah.refl _|apply ah.step)⟩
 case round=>
  clear H'
  try clear p2
  obtain⟨x5_1,rfl,HA,HK1,⟨m1,rfl⟩⟩:=hrel
  cases gk with
  |zero=>exact absurd HA.o (by simp[pylonref06_Of.l0])
  |succ k1=>
   have H:=HA.o
   clear HA
   simp only[pylonref06_Of.l0] at H
   by_cases c3:x5_1 < (a0.size:Int)
   ·rw[if_pos c3] at H
    have c3b0:decide (x5_1 < (a0.size:Int))=true:=decide_eq_true c3
    clear c3
    by_cases c4:0≤x5_1
    ·rw[if_pos c4] at H
     have c4b0:decide (0≤x5_1)=true:=decide_eq_true c4
     clear c4
     by_cases c6:(bt a0 x5_1)≥97
     ·rw[if_pos c6] at H
      have c6b0:decide (97≤(bt a0 x5_1))=true:=decide_eq_true c6
      clear c6
      by_cases c7:(bt a0 x5_1)≤122
      ·rw[if_pos c7] at H
       have c7b0:decide ((bt a0 x5_1)≤122)=true:=decide_eq_true c7
       clear c7
       have H':=ae.mk H
       clear H
       have p5:0≤(x5_1:Int):=of_decide_eq_true (by first|(with_reducible assumption)|assumption)
       have q5:x5_1 < (a0.size:Int):=of_decide_eq_true (by first|(with_reducible assumption)|assumption)
       have hx5:=bt_at a0 x5_1
       replace p5:=eq_true p5
       replace q5:=eq_true q5
       go_wp2
       go_roundg k1
       case measure=>have:=HK1.o;omega
       case rel=>exact⟨(wrap64 (x5_1+1)),(by first|rfl|(simp;done)|(simp[*];done)|(simp[isEmpty_bne];done)|(simp[isEmpty_beq];done)),H',⟨by have:=HK1.o;omega⟩,by repeat(first|exact ah.refl _|apply ah.step)⟩
      ·rw[if_neg c7] at H
       have c7b0:decide ((bt a0 x5_1)≤122)=false:=decide_eq_false c7
       clear c7
       by_cases c8:(bt a0 x5_1)≥48
       ·rw[if_pos c8] at H
        have c8b0:decide (48≤(bt a0 x5_1))=true:=decide_eq_true c8
        clear c8
        by_cases c9:(bt a0 x5_1)≤57
        ·rw[if_pos c9] at H
         have c9b0:decide ((bt a0 x5_1)≤57)=true:=decide_eq_true c9
         clear c9
         have H':=ae.mk H
         clear H
         have p5:0≤(x5_1:Int):=of_decide_eq_true (by first|(with_reducible assumption)|assumption)
         have q5:x5_1 < (a0.size:Int):=of_decide_eq_true (by first|(with_reducible assumption)|assumption)
         have hx5:=bt_at a0 x5_1
         replace p5:=eq_true p5
         replace q5:=eq_true q5
         go_wp2
         go_roundg k1
         case measure=>have:=HK1.o;omega
         case rel=>exact⟨(wrap64 (x5_1+1)),(by first|rfl|(simp;done)|(simp[*];done)|(simp[isEmpty_bne];done)|(simp[isEmpty_beq];done)),H',⟨by have:=HK1.o;omega⟩,by repeat(first|exact ah.refl _|apply ah.step)⟩
        ·rw[if_neg c9] at H
         have c9b0:decide ((bt a0 x5_1)≤57)=false:=decide_eq_false c9
         clear c9
         by_cases c10:(bt a0 x5_1)=95
         ·rw[if_pos c10] at H
          have c10b0:((bt a0 x5_1) == 95)=true:=beq_iff_eq.mpr c10
          have c10b1:((bt a0 x5_1) != 95)=false:=bne_eq_false_iff_eq.mpr c10
          clear c10
          have H':=ae.mk H
          clear H
          have p5:0≤(x5_1:Int):=of_decide_eq_true (by first|(with_reducible assumption)|assumption)
          have q5:x5_1 < (a0.size:Int):=of_decide_eq_true (by first|(with_reducible assumption)|assumption)
          have hx5:=bt_at a0 x5_1
          replace p5:=eq_true p5
          replace q5:=eq_true q5
          go_wp2
          go_roundg k1
          case measure=>have:=HK1.o;omega
          case rel=>exact⟨(wrap64 (x5_1+1)),(by first|rfl|(simp;done)|(simp[*];done)|(simp[isEmpty_bne];done)|(simp[isEmpty_beq];done)),H',⟨by have:=HK1.o;omega⟩,by repeat(first|exact ah.refl _|apply ah.step)⟩
         ·rw[if_neg c10] at H
          have c10b0:((bt a0 x5_1) == 95)=false:=beq_eq_false_iff_ne.mpr c10
          have c10b1:((bt a0 x5_1) != 95)=true:=bne_iff_ne.mpr c10
          by_cases c11:((bt a0 x5_1)=45)
          ·rw[if_pos c11] at H
           have c11b0:((bt a0 x5_1) == 45)=true:=beq_iff_eq.mpr c11
           have c11b1:((bt a0 x5_1) != 45)=false:=bne_eq_false_iff_eq.mpr c11
           clear c11
           have H':=ae.mk H
           clear H
           have p5:0≤(x5_1:Int):=of_decide_eq_true (by first|(with_reducible assumption)|assumption)
           have q5:x5_1 < (a0.size:Int):=of_decide_eq_true (by first|(with_reducible assumption)|assumption)
           have hx5:=bt_at a0 x5_1
           replace p5:=eq_true p5
           replace q5:=eq_true q5
           go_wp2
           go_roundg k1
           case measure=>have:=HK1.o;omega
           case rel=>exact⟨(wrap64 (x5_1+1)),(by first|rfl|(simp;done)|(simp[*];done)|(simp[isEmpty_bne];done)|(simp[isEmpty_beq];done)),H',⟨by have:=HK1.o;omega⟩,by repeat(first|exact ah.refl _|apply ah.step)⟩
          ·rw[if_neg c11] at H
           have c11b0:((bt a0 x5_1) == 45)=false:=beq_eq_false_iff_ne.mpr c11
           have c11b1:((bt a0 x5_1) != 45)=true:=bne_iff_ne.mpr c11
           obtain rfl:=Option.some.inj H
           have p5:0≤(x5_1:Int):=of_decide_eq_true (by first|(with_reducible assumption)|assumption)
           have q5:x5_1 < (a0.size:Int):=of_decide_eq_true (by first|(with_reducible assumption)|assumption)
           have hx5:=bt_at a0 x5_1
           replace p5:=eq_true p5
           replace q5:=eq_true q5
           go_wp2
           go_ret
           exact⟨by first|rfl|(simp;done)|(simp[*];done),by repeat(first|exact ah.refl _|apply ah.step)⟩
       ·rw[if_neg c8] at H
        have c8b0:decide (48≤(bt a0 x5_1))=false:=decide_eq_false c8
        clear c8
        by_cases c12:(bt a0 x5_1)=95
        ·rw[if_pos c12] at H
         have c12b0:((bt a0 x5_1) == 95)=true:=beq_iff_eq.mpr c12
         have c12b1:((bt a0 x5_1) != 95)=false:=bne_eq_false_iff_eq.mpr c12
         clear c12
         have H':=ae.mk H
         clear H
         have p5:0≤(x5_1:Int):=of_decide_eq_true (by first|(with_reducible assumption)|assumption)
         have q5:x5_1 < (a0.size:Int):=of_decide_eq_true (by first|(with_reducible assumption)|assumption)
         have hx5:=bt_at a0 x5_1
         replace p5:=eq_true p5
         replace q5:=eq_true q5
         go_wp2
         go_roundg k1
         case measure=>have:=HK1.o;omega
         case rel=>exact⟨(wrap64 (x5_1+1)),(by first|rfl|(simp;done)|(simp[*];done)|(simp[isEmpty_bne];done)|(simp[isEmpty_beq];done)),H',⟨by have:=HK1.o;omega⟩,by repeat(first|exact ah.refl _|apply ah.step)⟩
        ·rw[if_neg c12] at H
         have c12b0:((bt a0 x5_1) == 95)=false:=beq_eq_false_iff_ne.mpr c12
         have c12b1:((bt a0 x5_1) != 95)=true:=bne_iff_ne.mpr c12
         by_cases c13:((bt a0 x5_1)=45)
         ·rw[if_pos c13] at H
          have c13b0:((bt a0 x5_1) == 45)=true:=beq_iff_eq.mpr c13
          have c13b1:((bt a0 x5_1) != 45)=false:=bne_eq_false_iff_eq.mpr c13
          clear c13
          have H':=ae.mk H
          clear H
          have p5:0≤(x5_1:Int):=of_decide_eq_true (by first|(with_reducible assumption)|assumption)
          have q5:x5_1 < (a0.size:Int):=of_decide_eq_true (by first|(with_reducible assumption)|assumption)
          have hx5:=bt_at a0 x5_1
          replace p5:=eq_true p5
          replace q5:=eq_true q5
          go_wp2
          go_roundg k1
          case measure=>have:=HK1.o;omega
          case rel=>exact⟨(wrap64 (x5_1+1)),(by first|rfl|(simp;done)|(simp[*];done)|(simp[isEmpty_bne];done)|(simp[isEmpty_beq];done)),H',⟨by have:=HK1.o;omega⟩,by repeat(first|exact ah.refl _|apply ah.step)⟩
         ·rw[if_neg c13] at H
          have c13b0:((bt a0 x5_1) == 45)=false:=beq_eq_false_iff_ne.mpr c13
          have c13b1:((bt a0 x5_1) != 45)=true:=bne_iff_ne.mpr c13
          obtain rfl:=Option.some.inj H
          have p5:0≤(x5_1:Int):=of_decide_eq_true (by first|(with_reducible assumption)|assumption)
          have q5:x5_1 < (a0.size:Int):=of_decide_eq_true (by first|(with_reducible assumption)|assumption)
          have hx5:=bt_at a0 x5_1
          replace p5:=eq_true p5
          replace q5:=eq_true q5
          go_wp2
          go_ret
          exact⟨by first|rfl|(simp;done)|(simp[*];done),by repeat(first|exact ah.refl _|apply ah.step)⟩
     ·rw[if_neg c6] at H
      have c6b0:decide (97≤(bt a0 x5_1))=false:=decide_eq_false c6
      clear c6
      by_cases c14:(bt a0 x5_1)≥48
      ·rw[if_pos c14] at H
       have c14b0:decide (48≤(bt a0 x5_1))=true:=decide_eq_true c14
       clear c14
       by_cases c15:(bt a0 x5_1)≤57
       ·rw[if_pos c15] at H
        have c15b0:decide ((bt a0 x5_1)≤57)=true:=decide_eq_true c15
        clear c15
        have H':=ae.mk H
        clear H
        have p5:0≤(x5_1:Int):=of_decide_eq_true (by first|(with_reducible assumption)|assumption)
        have q5:x5_1 < (a0.size:Int):=of_decide_eq_true (by first|(with_reducible assumption)|assumption)
        have hx5:=bt_at a0 x5_1
        replace p5:=eq_true p5
        replace q5:=eq_true q5
        go_wp2
        go_roundg k1
        case measure=>have:=HK1.o;omega
        case rel=>exact⟨(wrap64 (x5_1+1)),(by first|rfl|(simp;done)|(simp[*];done)|(simp[isEmpty_bne];done)|(simp[isEmpty_beq];done)),H',⟨by have:=HK1.o;omega⟩,by repeat(first|exact ah.refl _|apply ah.step)⟩
       ·rw[if_neg c15] at H
        have c15b0:decide ((bt a0 x5_1)≤57)=false:=decide_eq_false c15
        clear c15
        by_cases c16:(bt a0 x5_1)=95
        ·rw[if_pos c16] at H
         have c16b0:((bt a0 x5_1) == 95)=true:=beq_iff_eq.mpr c16
         have c16b1:((bt a0 x5_1) != 95)=false:=bne_eq_false_iff_eq.mpr c16
         clear c16
         have H':=ae.mk H
         clear H
         have p5:0≤(x5_1:Int):=of_decide_eq_true (by first|(with_reducible assumption)|assumption)
         have q5:x5_1 < (a0.size:Int):=of_decide_eq_true (by first|(with_reducible assumption)|assumption)
         have hx5:=bt_at a0 x5_1
         replace p5:=eq_true p5
         replace q5:=eq_true q5
         go_wp2
         go_roundg k1
         case measure=>have:=HK1.o;omega
         case rel=>exact⟨(wrap64 (x5_1+1)),(by first|rfl|(simp;done)|(simp[*];done)|(simp[isEmpty_bne];done)|(simp[isEmpty_beq];done)),H',⟨by have:=HK1.o;omega⟩,by repeat(first|exact ah.refl _|apply ah.step)⟩
        ·rw[if_neg c16] at H
         have c16b0:((bt a0 x5_1) == 95)=false:=beq_eq_false_iff_ne.mpr c16
         have c16b1:((bt a0 x5_1) != 95)=true:=bne_iff_ne.mpr c16
         by_cases c17:((bt a0 x5_1)=45)
         ·rw[if_pos c17] at H
          have c17b0:((bt a0 x5_1) == 45)=true:=beq_iff_eq.mpr c17
          have c17b1:((bt a0 x5_1) != 45)=false:=bne_eq_false_iff_eq.mpr c17
          clear c17
          have H':=ae.mk H
          clear H
          have p5:0≤(x5_1:Int):=of_decide_eq_true (by first|(with_reducible assumption)|assumption)
          have q5:x5_1 < (a0.size:Int):=of_decide_eq_true (by first|(with_reducible assumption)|assumption)
          have hx5:=bt_at a0 x5_1
          replace p5:=eq_true p5
          replace q5:=eq_true q5
          go_wp2
          go_roundg k1
          case measure=>have:=HK1.o;omega
          case rel=>exact⟨(wrap64 (x5_1+1)),(by first|rfl|(simp;done)|(simp[*];done)|(simp[isEmpty_bne];done)|(simp[isEmpty_beq];done)),H',⟨by have:=HK1.o;omega⟩,by repeat(first|exact ah.refl _|apply ah.step)⟩
         ·rw[if_neg c17] at H
          have c17b0:((bt a0 x5_1) == 45)=false:=beq_eq_false_iff_ne.mpr c17
          have c17b1:((bt a0 x5_1) != 45)=true:=bne_iff_ne.mpr c17
          obtain rfl:=Option.some.inj H
          have p5:0≤(x5_1:Int):=of_decide_eq_true (by first|(with_reducible assumption)|assumption)
          have q5:x5_1 < (a0.size:Int):=of_decide_eq_true (by first|(with_reducible assumption)|assumption)
          have hx5:=bt_at a0 x5_1
          replace p5:=eq_true p5
          replace q5:=eq_true q5
          go_wp2
          go_ret
          exact⟨by first|rfl|(simp;done)|(simp[*];done),by repeat(first|exact ah.refl _|apply ah.step)⟩
      ·rw[if_neg c14] at H
       have c14b0:decide (48≤(bt a0 x5_1))=false:=decide_eq_false c14
       clear c14
       by_cases c18:(bt a0 x5_1)=95
       ·rw[if_pos c18] at H
        have c18b0:((bt a0 x5_1) == 95)=true:=beq_iff_eq.mpr c18
        have c18b1:((bt a0 x5_1) != 95)=false:=bne_eq_false_iff_eq.mpr c18
        clear c18
        have H':=ae.mk H
        clear H
        have p5:0≤(x5_1:Int):=of_decide_eq_true (by first|(with_reducible assumption)|assumption)
        have q5:x5_1 < (a0.size:Int):=of_decide_eq_true (by first|(with_reducible assumption)|assumption)
        have hx5:=bt_at a0 x5_1
        replace p5:=eq_true p5
        replace q5:=eq_true q5
        go_wp2
        go_roundg k1
        case measure=>have:=HK1.o;omega
        case rel=>exact⟨(wrap64 (x5_1+1)),(by first|rfl|(simp;done)|(simp[*];done)|(simp[isEmpty_bne];done)|(simp[isEmpty_beq];done)),H',⟨by have:=HK1.o;omega⟩,by repeat(first|exact ah.refl _|apply ah.step)⟩
       ·rw[if_neg c18] at H
        have c18b0:((bt a0 x5_1) == 95)=false:=beq_eq_false_iff_ne.mpr c18
        have c18b1:((bt a0 x5_1) != 95)=true:=bne_iff_ne.mpr c18
        by_cases c19:((bt a0 x5_1)=45)
        ·rw[if_pos c19] at H
         have c19b0:((bt a0 x5_1) == 45)=true:=beq_iff_eq.mpr c19
         have c19b1:((bt a0 x5_1) != 45)=false:=bne_eq_false_iff_eq.mpr c19
         clear c19
         have H':=ae.mk H
         clear H
         have p5:0≤(x5_1:Int):=of_decide_eq_true (by first|(with_reducible assumption)|assumption)
         have q5:x5_1 < (a0.size:Int):=of_decide_eq_true (by first|(with_reducible assumption)|assumption)
         have hx5:=bt_at a0 x5_1
         replace p5:=eq_true p5
         replace q5:=eq_true q5
         go_wp2
         go_roundg k1
         case measure=>have:=HK1.o;omega
         case rel=>exact⟨(wrap64 (x5_1+1)),(by first|rfl|(simp;done)|(simp[*];done)|(simp[isEmpty_bne];done)|(simp[isEmpty_beq];done)),H',⟨by have:=HK1.o;omega⟩,by repeat(first|exact ah.refl _|apply ah.step)⟩
        ·rw[if_neg c19] at H
         have c19b0:((bt a0 x5_1) == 45)=false:=beq_eq_false_iff_ne.mpr c19
         have c19b1:((bt a0 x5_1) != 45)=true:=bne_iff_ne.mpr c19
         obtain rfl:=Option.some.inj H
         have p5:0≤(x5_1:Int):=of_decide_eq_true (by first|(with_reducible assumption)|assumption)
         have q5:x5_1 < (a0.size:Int):=of_decide_eq_true (by first|(with_reducible assumption)|assumption)
         have hx5:=bt_at a0 x5_1
         replace p5:=eq_true p5
         replace q5:=eq_true q5
         go_wp2
         go_ret
         exact⟨by first|rfl|(simp;done)|(simp[*];done),by repeat(first|exact ah.refl _|apply ah.step)⟩
    ·rw[if_neg c4] at H
     exact absurd H (by simp)
   ·rw[if_neg c3] at H
    have c3b0:decide (x5_1 < (a0.size:Int))=false:=decide_eq_false c3
    clear c3
    by_cases c20:(a0.size:Int)≥1
    ·rw[if_pos c20] at H
     have c20b0:decide (1≤(a0.size:Int))=true:=decide_eq_true c20
     have c20b1:decide (1≤a0.size)=true:=decide_eq_true (by omega)
     clear c20
     obtain rfl:=Option.some.inj H
     go_wp2
     go_ret
     exact⟨by first|rfl|(simp;done)|(simp[*];done),by repeat(first|exact ah.refl _|apply ah.step)⟩
    ·rw[if_neg c20] at H
     have c20b0:decide (1≤(a0.size:Int))=false:=decide_eq_false c20
     have c20b1:decide (1≤a0.size)=false:=decide_eq_false (by omega)
     clear c20
     obtain rfl:=Option.some.inj H
     go_wp2
     go_ret
     exact⟨by first|rfl|(simp;done)|(simp[*];done),by repeat(first|exact ah.refl _|apply ah.step)⟩
def pylonref06_Name.f (k:Nat) (a0:ByteArray):Option (Bool):=(pylonref06_Of.f k a0 24).bind fun t132=>(if t132=true then (if 0 < (a0.size:Int) then (if (bt a0 0)≥97 then (some (decide ((bt a0 0)≤122))) else (some false)) else (none)) else (some false))
set_option maxHeartbeats 8000000 in
set_option maxRecDepth 100000 in
theorem pylonref06_Name.calls (k:Nat) (a0:ByteArray) (r:Bool) (w:World) (h:pylonref06_Name.f k a0=some r) :
  Calls Tryz.prog 49 #[.string a0] w fun e w'=>e = .returned (.bool r)∧ah w w':=by
 have H:((pylonref06_Of.f k a0 24).bind fun t132=>(if t132=true then (if 0 < (a0.size:Int) then (if (bt a0 0)≥97 then (some (decide ((bt a0 0)≤122))) else (some false)) else (none)) else (some false)))=some r:=h
 clear h
 replace H:=Option.bind_eq_some_iff.mp H
 obtain⟨t132,A20,H⟩:=H
 replace H:(if t132=true then (if 0 < (a0.size:Int) then (if (bt a0 0)≥97 then (some (decide ((bt a0 0)≤122))) else (some false)) else (none)) else (some false))=some r:=H
 have A2:=ae.mk A20
 clear A20
 by_cases c3:t132=true
 ·subst c3
  have H1:(if 0 < (a0.size:Int) then (if (bt a0 0)≥97 then (some (decide ((bt a0 0)≤122))) else (some false)) else (none))=some r:=by rw[if_pos rfl] at H;exact H
  clear H
  have H:=H1
  clear H1
  by_cases c4:0 < (a0.size:Int)
  ·rw[if_pos c4] at H
   have c4b0:decide (0 < (a0.size:Int))=true:=decide_eq_true c4
   have c4b1:decide (0 < a0.size)=true:=decide_eq_true (by omega)
   clear c4
   by_cases c6:(bt a0 0)≥97
   ·rw[if_pos c6] at H
    have c6b0:decide (97≤(bt a0 0))=true:=decide_eq_true c6
    clear c6
    obtain rfl:=Option.some.inj H
    go_enter Tryz.func49,Tryz.ntmps49
    go_wp2_with (first|((with_reducible refine au (f:=68) rfl ?_);refine bD (some 4) rfl rfl Tryz.func68 (by kernel_rfl) rfl #[.string a0,.int .i64 24] rfl (by (try simp only[List.map_toArray,List.map_cons,List.map_nil]);first|done|rfl|(simp only[List.length_drop,List.length_take];rfl)) ?_;(with_reducible refine(pylonref06_Of.calls k a0 24 true _ A2.o).mono ?_);rintro e w' ⟨rfl,⟨nd,rfl⟩⟩;refine⟨_,rfl,?_⟩;have p5:0≤(0:Int):=(by omega);have q5:0 < a0.size:=(by have:(0:Int) < (a0.size:Int):=of_decide_eq_true (by first|(with_reducible assumption)|assumption);omega);have hx5 : ∀ h:0 < a0.size,((a0[0]'h).toNat:Int)=bt a0 0:=bt_at a0 0;clear p5;have qi5:(0 < (a0.size:Int))=True:=eq_true (of_decide_eq_true (by first|(with_reducible assumption)|assumption));replace q5:=eq_true q5;have p7:0≤(0:Int):=(by omega);have q7:0 < a0.size:=(by have:(0:Int) < (a0.size:Int):=of_decide_eq_true (by first|(with_reducible assumption)|assumption);omega);have hx7 : ∀ h:0 < a0.size,((a0[0]'h).toNat:Int)=bt a0 0:=bt_at a0 0;clear p7;have qi7:(0 < (a0.size:Int))=True:=eq_true (of_decide_eq_true (by first|(with_reducible assumption)|assumption));replace q7:=eq_true q7))
    go_ret
    exact⟨by first|rfl|(simp;done)|(simp[*];done),by repeat(first|exact ah.refl _|apply ah.step)⟩
   ·rw[if_neg c6] at H
    have c6b0:decide (97≤(bt a0 0))=false:=decide_eq_false c6
    clear c6
    obtain rfl:=Option.some.inj H
    go_enter Tryz.func49,Tryz.ntmps49
    go_wp2_with (first|((with_reducible refine au (f:=68) rfl ?_);refine bD (some 4) rfl rfl Tryz.func68 (by kernel_rfl) rfl #[.string a0,.int .i64 24] rfl (by (try simp only[List.map_toArray,List.map_cons,List.map_nil]);first|done|rfl|(simp only[List.length_drop,List.length_take];rfl)) ?_;(with_reducible refine(pylonref06_Of.calls k a0 24 true _ A2.o).mono ?_);rintro e w' ⟨rfl,⟨nd,rfl⟩⟩;refine⟨_,rfl,?_⟩;have p5:0≤(0:Int):=(by omega);have q5:0 < a0.size:=(by have:(0:Int) < (a0.size:Int):=of_decide_eq_true (by first|(with_reducible assumption)|assumption);omega);have hx5 : ∀ h:0 < a0.size,((a0[0]'h).toNat:Int)=bt a0 0:=bt_at a0 0;clear p5;have qi5:(0 < (a0.size:Int))=True:=eq_true (of_decide_eq_true (by first|(with_reducible assumption)|assumption));replace q5:=eq_true q5))
    go_ret
    exact⟨by first|rfl|(simp;done)|(simp[*];done),by repeat(first|exact ah.refl _|apply ah.step)⟩
  ·rw[if_neg c4] at H
   exact absurd H (by simp)
 ·replace c3:=Bool.eq_false_iff.mpr c3
  subst c3
  have H1:(some false)=some r:=by rw[if_neg (show ¬ (false=true) by decide)] at H;exact H
  clear H
  have H:=H1
  clear H1
  obtain rfl:=Option.some.inj H
  go_enter Tryz.func49,Tryz.ntmps49
  go_wp2_with (first|((with_reducible refine au (f:=68) rfl ?_);refine bD (some 4) rfl rfl Tryz.func68 (by kernel_rfl) rfl #[.string a0,.int .i64 24] rfl (by (try simp only[List.map_toArray,List.map_cons,List.map_nil]);first|done|rfl|(simp only[List.length_drop,List.length_take];rfl)) ?_;(with_reducible refine(pylonref06_Of.calls k a0 24 false _ A2.o).mono ?_);rintro e w' ⟨rfl,⟨nd,rfl⟩⟩;refine⟨_,rfl,?_⟩))
  go_ret
  exact⟨by first|rfl|(simp;done)|(simp[*];done),by repeat(first|exact ah.refl _|apply ah.step)⟩
end Go.Proofs.YtjokedpaidmjoaaGreatDoor.Pa
