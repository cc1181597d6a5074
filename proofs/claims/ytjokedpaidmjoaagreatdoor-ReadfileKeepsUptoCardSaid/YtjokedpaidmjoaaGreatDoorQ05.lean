/- A part of the proof. -/
import Derived.Test.YtjokedpaidmjoaaGreatDoorQ00
import Derived.Test.YtjokedpaidmjoaaGreatDoorQ04
set_option linter.all false
namespace Go.Proofs.YtjokedpaidmjoaaGreatDoor.Pa
open Go.RowKit Go.Proofs.YtjokedpaidmjoaaGreatDoorW.PrintWords Go.Proofs.YtjokedpaidmjoaaGreatDoorW.PrintLast Go.Proofs.YtjokedpaidmjoaaGreatDoorW.PrintMore
attribute [local go_sem] dK dL eO eP dw dx dM dN
def stringslite_IndexByte.f (a0:ByteArray) (a1:Int):Option Int:=some (Lib.indexByte a0.data.toList a1.toNat.toUInt8)
set_option maxHeartbeats 1000000 in
set_option maxRecDepth 100000 in
theorem stringslite_IndexByte.calls (a0:ByteArray) (a1:Int) (r:Int) (w:World) (h:stringslite_IndexByte.f a0 a1=some r) :
  Calls Tryz.prog 104 #[.string a0,.int .u8 a1] w fun e w'=>e = .returned (.int .i64 r)∧ah w w':=by
 obtain rfl:=Option.some.inj h
 clear h
 go_enter Tryz.func104,Tryz.ntmps104
 go_wp2
 rw[run_callFunc_extern Tryz.func116 (by kernel_rfl) (by kernel_rfl) (by kernel_rfl) (e:=Extern.BytealgIndexByte.indexByte) (by kernel_rfl),Lib.run_indexByteString]
 simp only[Result.andThen]
 rw[Oper.upon_value]
 go_wp2
 go_ret
 exact⟨rfl,ah.refl _⟩
def stringslite_Index.f (a0:ByteArray) (a1:ByteArray):Option Int:=if a1.size=1 then some (Lib.indexByte a0.data.toList (bt a1 0).toNat.toUInt8) else none
set_option maxHeartbeats 1000000 in
set_option maxRecDepth 100000 in
theorem stringslite_Index.calls (a0:ByteArray) (a1:ByteArray) (r:Int) (w:World) (h:stringslite_Index.f a0 a1=some r) :
  Calls Tryz.prog 90 #[.string a0,.string a1] w fun e w'=>e = .returned (.int .i64 r)∧ah w w':=by
 unfold stringslite_Index.f at h
 by_cases hs:a1.size=1
 ·rw[if_pos hs] at h
  have hx0:=bt_at a1 0
  obtain⟨c,rfl⟩ : ∃ c,a1=⟨#[c]⟩:=by
   obtain⟨⟨l⟩⟩:=a1
   cases l with
   |nil=>simp[ByteArray.size] at hs
   |cons c l=>
    cases l with
    |nil=>exact⟨c,rfl⟩
    |cons d l=>simp[ByteArray.size] at hs
  have hb:bt (⟨#[c]⟩ : ByteArray) 0=(c.toNat:Int):=(bt_at (⟨#[c]⟩ : ByteArray) 0 (Nat.zero_lt_one)).symm
  rw[hb] at h
  have H:=ae.mk (Option.some.inj h)
  clear h hx0 hb hs
  go_enter Tryz.func90,Tryz.ntmps90
  go_wp2_with (go_at_call 104;refine(stringslite_IndexByte.calls a0 (c.toNat:Int) (Lib.indexByte a0.data.toList ((c.toNat:Int)).toNat.toUInt8) _ rfl).mono ?_;rintro e w' ⟨rfl,⟨nd,rfl⟩⟩)
  ·have h:([c] == a0.toList)=true:=by assumption
   go_ret
   refine⟨?_,by repeat(first|exact ah.refl _|apply ah.step)⟩
   have e:a0.data.toList = [c]:=by rw[← ByteArray.toList_eq];exact(beq_iff_eq.1 h).symm
   rw[← H.o,e]
   simp[Lib.indexByte]
  ·go_ret
   exact⟨by rw[← H.o];first|rfl|(simp;done),by repeat(first|exact ah.refl _|apply ah.step)⟩
 ·rw[if_neg hs] at h
  cases h
def stringslite_Cut.f (a0:ByteArray) (a1:ByteArray):Option (ByteArray × ByteArray × Bool):=(stringslite_Index.f a0 a1).bind fun t101=>(if t101≥0 then (if 0≤t101 then (if t101≤(a0.size:Int) then (if 0≤(wrap64 (t101+(a1.size:Int))) then (if (wrap64 (t101+(a1.size:Int)))≤(a0.size:Int) then (some (a0.extract 0 (t101:Int).toNat,a0.extract ((wrap64 (t101+(a1.size:Int))):Int).toNat a0.size,true)) else (none)) else (none)) else (none)) else (none)) else (some (a0,(⟨#[]⟩ : ByteArray),false)))
set_option maxHeartbeats 8000000 in
set_option maxRecDepth 100000 in
theorem stringslite_Cut.calls (a0:ByteArray) (a1:ByteArray) (r1:ByteArray) (r2:ByteArray) (r3:Bool) (w:World) (h:stringslite_Cut.f a0 a1=some (r1,r2,r3)) :
  Calls Tryz.prog 82 #[.string a0,.string a1] w fun e w'=>e = .returned (.tuple #[.string r1,.string r2,.bool r3])∧ah w w':=by
 have H:((stringslite_Index.f a0 a1).bind fun t101=>(if t101≥0 then (if 0≤t101 then (if t101≤(a0.size:Int) then (if 0≤(wrap64 (t101+(a1.size:Int))) then (if (wrap64 (t101+(a1.size:Int)))≤(a0.size:Int) then (some (a0.extract 0 (t101:Int).toNat,a0.extract ((wrap64 (t101+(a1.size:Int))):Int).toNat a0.size,true)) else (none)) else (none)) else (none)) else (none)) else (some (a0,(⟨#[]⟩ : ByteArray),false))))=some (r1,r2,r3):=h
 clear h
 replace H:=Option.bind_eq_some_iff.mp H
 obtain⟨t101,A30,H⟩:=H
 replace H:(if t101≥0 then (if 0≤t101 then (if t101≤(a0.size:Int) then (if 0≤(wrap64 (t101+(a1.size:Int))) then (if (wrap64 (t101+(a1.size:Int)))≤(a0.size:Int) then (some (a0.extract 0 (t101:Int).toNat,a0.extract ((wrap64 (t101+(a1.size:Int))):Int).toNat a0.size,true)) else (none)) else (none)) else (none)) else (none)) else (some (a0,(⟨#[]⟩ : ByteArray),false)))=some (r1,r2,r3):=H
 have A3:=ae.mk A30
 clear A30
 by_cases c4:t101≥0
 ·rw[if_pos c4] at H
  have c4b0:decide (0≤t101)=true:=decide_eq_true c4
  clear c4
  by_cases c5:0≤t101
  ·rw[if_pos c5] at H
   have c5b0:=eq_true c5
   have c5b1:decide (0≤t101)=true:=decide_eq_true c5
   clear c5
   by_cases c6:t101≤(a0.size:Int)
   ·rw[if_pos c6] at H
    have c6b0:=eq_true c6
    have c6b1:decide (t101≤(a0.size:Int))=true:=decide_eq_true c6
    clear c6
    obtain⟨ji7,hji7⟩ : ∃ j_:Int,(wrap64 (t101+(a1.size:Int)))=j_:=⟨_,rfl⟩
    replace H:(if 0≤(ji7) then (if (ji7)≤(a0.size:Int) then (some (a0.extract 0 (t101:Int).toNat,a0.extract ((ji7):Int).toNat a0.size,true)) else (none)) else (none))=some (r1,r2,r3):=by first|(rw[hji7] at H;exact H)|(simp only[hji7] at H ⊢;exact H)
    (try rw[hji7] at A3)
    have hji7w:(IntKind.i64.wrap (t101+(a1.size:Int)))=ji7:=(i64_w _).trans hji7
    by_cases c8:0≤(ji7)
    ·rw[if_pos c8] at H
     have c8b0:=eq_true c8
     have c8b1:decide (0≤(ji7))=true:=decide_eq_true c8
     clear c8
     by_cases c9:(ji7)≤(a0.size:Int)
     ·rw[if_pos c9] at H
      have c9b0:=eq_true c9
      have c9b1:decide ((ji7)≤(a0.size:Int))=true:=decide_eq_true c9
      clear c9
      simp only[Option.some.injEq,Prod.mk.injEq] at H
      obtain⟨rfl,rfl,rfl⟩:=H
      go_enter Tryz.func82,Tryz.ntmps82
      go_wp2_with (first|(go_at_call 90;(with_reducible refine(stringslite_Index.calls a0 a1 t101 _ A3.o).mono ?_);rintro e w' ⟨rfl,⟨nd,rfl⟩⟩;(try first|exact⟨rfl,_,World.drewN_drewN _ _ _⟩|exact⟨rfl,_,Eq.trans (World.drewN_drewN _ _ _) (congrArg (World.drewN _) (Nat.add_assoc _ _ _))⟩)))
      repeat(go_quiet (first|(go_at_call 90;(with_reducible refine(stringslite_Index.calls a0 a1 t101 _ A3.o).mono ?_);rintro e w' ⟨rfl,⟨nd,rfl⟩⟩;(try first|exact⟨rfl,_,World.drewN_drewN _ _ _⟩|exact⟨rfl,_,Eq.trans (World.drewN_drewN _ _ _) (congrArg (World.drewN _) (Nat.add_assoc _ _ _))⟩)));try go_wp2_with (first|(go_at_call 90;(with_reducible refine(stringslite_Index.calls a0 a1 t101 _ A3.o).mono ?_);rintro e w' ⟨rfl,⟨nd,rfl⟩⟩;(try first|exact⟨rfl,_,World.drewN_drewN _ _ _⟩|exact⟨rfl,_,Eq.trans (World.drewN_drewN _ _ _) (congrArg (World.drewN _) (Nat.add_assoc _ _ _))⟩))))
      go_ret3
      exact⟨by first|rfl|(simp;done)|(simp only[← hji7] <;> (first|rfl|simp))|(simp[*];done),by repeat(first|exact ah.refl _|apply ah.step)⟩
     ·rw[if_neg c9] at H
      exact absurd H (by simp)
    ·rw[if_neg c8] at H
     exact absurd H (by simp)
   ·rw[if_neg c6] at H
    exact absurd H (by simp)
  ·rw[if_neg c5] at H
   exact absurd H (by simp)
 ·rw[if_neg c4] at H
  have c4b0:decide (0≤t101)=false:=decide_eq_false c4
  clear c4
  simp only[Option.some.injEq,Prod.mk.injEq] at H
  obtain⟨rfl,rfl,rfl⟩:=H
  go_enter Tryz.func82,Tryz.ntmps82
  go_wp2_with (first|(go_at_call 90;(with_reducible refine(stringslite_Index.calls a0 a1 t101 _ A3.o).mono ?_);rintro e w' ⟨rfl,⟨nd,rfl⟩⟩;(try first|exact⟨rfl,_,World.drewN_drewN _ _ _⟩|exact⟨rfl,_,Eq.trans (World.drewN_drewN _ _ _) (congrArg (World.drewN _) (Nat.add_assoc _ _ _))⟩)))
  repeat(go_quiet (first|(go_at_call 90;(with_reducible refine(stringslite_Index.calls a0 a1 t101 _ A3.o).mono ?_);rintro e w' ⟨rfl,⟨nd,rfl⟩⟩;(try first|exact⟨rfl,_,World.drewN_drewN _ _ _⟩|exact⟨rfl,_,Eq.trans (World.drewN_drewN _ _ _) (congrArg (World.drewN _) (Nat.add_assoc _ _ _))⟩)));try go_wp2_with (first|(go_at_call 90;(with_reducible refine(stringslite_Index.calls a0 a1 t101 _ A3.o).mono ?_);rintro e w' ⟨rfl,⟨nd,rfl⟩⟩;(try first|exact⟨rfl,_,World.drewN_drewN _ _ _⟩|exact⟨rfl,_,Eq.trans (World.drewN_drewN _ _ _) (congrArg (World.drewN _) (Nat.add_assoc _ _ _))⟩))))
  go_ret3
  exact⟨by first|rfl|(simp;done)|(simp[*];done),by repeat(first|exact ah.refl _|apply ah.step)⟩
def strings_Cut.f (a0:ByteArray) (a1:ByteArray):Option (ByteArray × ByteArray × Bool):=(stringslite_Cut.f a0 a1).bind fun bt102=>(some (bt102.1,bt102.2.1,bt102.2.2))
set_option maxHeartbeats 8000000 in
set_option maxRecDepth 100000 in
theorem strings_Cut.calls (a0:ByteArray) (a1:ByteArray) (r1:ByteArray) (r2:ByteArray) (r3:Bool) (w:World) (h:strings_Cut.f a0 a1=some (r1,r2,r3)) :
  Calls Tryz.prog 73 #[.string a0,.string a1] w fun e w'=>e = .returned (.tuple #[.string r1,.string r2,.bool r3])∧ah w w':=by
 have H:((stringslite_Cut.f a0 a1).bind fun bt102=>(some (bt102.1,bt102.2.1,bt102.2.2)))=some (r1,r2,r3):=h
 clear h
 replace H:=Option.bind_eq_some_iff.mp H
 obtain⟨⟨t102,t103,t104⟩,A30,H⟩:=H
 replace H:(some (t102,t103,t104))=some (r1,r2,r3):=H
 have A3:=ae.mk A30
 clear A30
 simp only[Option.some.injEq,Prod.mk.injEq] at H
 obtain⟨rfl,rfl,rfl⟩:=H
 go_enter Tryz.func73,Tryz.ntmps73
 go_wp2_with (first|((with_reducible refine au (f:=82) rfl ?_);refine bD (some 9) rfl rfl Tryz.func82 (by kernel_rfl) rfl #[.string a0,.string a1] rfl (by (try simp only[List.map_toArray,List.map_cons,List.map_nil]);first|done|rfl|(simp only[List.length_drop,List.length_take];rfl)) ?_;(with_reducible refine(stringslite_Cut.calls a0 a1 t102 t103 t104 _ A3.o).mono ?_);rintro e w' ⟨rfl,⟨nd,rfl⟩⟩;refine⟨_,rfl,?_⟩))
 go_ret3
 exact⟨by first|rfl|(simp;done)|(simp[*];done),by repeat(first|exact ah.refl _|apply ah.step)⟩
def scan_Lines.l0:Nat → ByteArray → List ByteArray → Option (List ByteArray × Int × Int)
 |0,_,_=>none
 |k+1,x0,x2=>if x0.toList=([] : List UInt8) then (some (x2,0,0)) else ((strings_Cut.f x0 (⟨#[10]⟩ : ByteArray)).bind fun bt105=>(if bt105.2.2=true then (if x2.length < 8796093022208 then (scan_Lines.l0 k bt105.2.1 (x2 ++ [bt105.1])) else (none)) else (some (([] : List ByteArray),wrap64 ((x2.length:Int)+1),1))))
def scan_Lines.f (k:Nat) (a0:ByteArray):Option (List ByteArray × Int × Int):=if (a0.size:Int) > 1048576 then (some (([] : List ByteArray),0,9)) else (scan_Lines.l0 k a0 ([] : List ByteArray))
set_option maxHeartbeats 8000000 in
set_option maxRecDepth 100000 in
theorem scan_Lines.calls (k:Nat) (a0:ByteArray) (r1:List ByteArray) (r2:Int) (r3:Int) (w:World) (h:scan_Lines.f k a0=some (r1,r2,r3)) :
  Calls Tryz.prog 55 #[.string a0] w fun e w'=>∃ v0_:Value,e = .returned (.tuple #[v0_,.int .i64 r2,.int .i64 r3])∧Kd.R Kd.string 9 w' w.heap.size (fun _=>True) v0_ r1∧Below w.heap.size w w':=by
 have HB:=ae.mk (Below.refl w.heap.size w)
 have H:(if (a0.size:Int) > 1048576 then (some (([] : List ByteArray),0,9)) else (scan_Lines.l0 k a0 ([] : List ByteArray)))=some (r1,r2,r3):=h
 clear h
 by_cases c2:(a0.size:Int) > 1048576
 ·rw[if_pos c2] at H
  have c2b0:decide (1048576 < (a0.size:Int))=true:=decide_eq_true c2
  have c2b1:decide (1048576 < a0.size)=true:=decide_eq_true (by omega)
  clear c2
  simp only[Option.some.injEq,Prod.mk.injEq] at H
  obtain⟨rfl,rfl,rfl⟩:=H
  go_enter Tryz.func55,Tryz.ntmps55
  go_wp2
  go_ret3
  exact⟨_,by first|rfl|(simp[aj,ak] <;> rfl)|(simp[*,aj,ak] <;> rfl),by first|exact Kd.R_nil _ _ _ _ _|exact Kd.N_nil _ _ _ _ _|exact Kd.V_nil _ _ _ _ _|exact Kd.Q_nil _ _ _ _ _|exact Kd.S_nil _ _ _ _ _,by repeat(first|(with_reducible first|exact HB.o|apply af|apply aa|apply ag)|exact HB.o)⟩
 ·rw[if_neg c2] at H
  have c2b0:decide (1048576 < (a0.size:Int))=false:=decide_eq_false c2
  have c2b1:decide (1048576 < a0.size)=false:=decide_eq_false (by omega)
  clear c2
  have H':=ae.mk H
  clear H
  go_enter Tryz.func55,Tryz.ntmps55
  go_wp2
  go_loopg [0,2] k (fun kq v0 v2 w'=>∃ (x0_1:ByteArray) (x2_1:List ByteArray),v0 = .string x0_1∧ae (scan_Lines.l0 kq x0_1 x2_1=some (r1,r2,r3))∧ae (kq≤k)∧ae (Kd.R Kd.string 9 w' w.heap.size (fun _=>True) v2 x2_1)∧ae (Below w.heap.size w w'))
  case atStart=>exact⟨(a0),(([] : List ByteArray)),(by first|rfl|(simp;done)|(simp[*];done)|(simp[isEmpty_bne];done)|(simp[isEmpty_beq];done)),H',⟨Nat.le_refl _⟩,⟨by first|exact Kd.R_nil _ _ _ _ _|exact Kd.N_nil _ _ _ _ _|exact Kd.V_nil _ _ _ _ _|exact Kd.Q_nil _ _ _ _ _|exact Kd.S_nil _ _ _ _ _⟩,⟨by repeat(first|(with_reducible first|exact HB.o|apply af|apply aa|apply ag)|exact HB.o)⟩⟩
  case round=>
   clear H'
   try clear c2
   try clear c2b0
   try clear c2b1
   try clear p2
   (try clear HO_2)
   obtain⟨x0_1,x2_1,rfl,HA,HK1,HO_2,HB⟩:=hrel
   cases gk with
   |zero=>exact absurd HA.o (by simp[scan_Lines.l0])
   |succ k1=>
    have H:=HA.o
    clear HA
    simp only[scan_Lines.l0] at H
    by_cases c3:x0_1.toList=([] : List UInt8)
    ·rw[if_pos c3] at H
     have c3b0:(x0_1.toList == ([] : List UInt8))=true:=beq_iff_eq.mpr c3
     have c3b1:(x0_1.toList != ([] : List UInt8))=false:=bne_eq_false_iff_eq.mpr c3
     clear c3
     simp only[Option.some.injEq,Prod.mk.injEq] at H
     obtain⟨rfl,rfl,rfl⟩:=H
     go_wp2
     go_ret3
     exact⟨_,by first|rfl|(simp[aj,ak] <;> rfl)|(simp[*,aj,ak] <;> rfl),by (with_reducible repeat(first|apply Kd.az|apply Kd.aA|apply Kd.aZ));exact HO_2.o,by repeat(first|(with_reducible first|exact HB.o|apply af|apply aa|apply ag)|exact HB.o)⟩
    ·rw[if_neg c3] at H
     have c3b0:(x0_1.toList == ([] : List UInt8))=false:=beq_eq_false_iff_ne.mpr c3
     have c3b1:(x0_1.toList != ([] : List UInt8))=true:=bne_iff_ne.mpr c3
     replace H:=Option.bind_eq_some_iff.mp H
     obtain⟨⟨t105,t106,t107⟩,A40,H⟩:=H
     replace H:(if t107=true then (if x2_1.length < 8796093022208 then (scan_Lines.l0 k1 t106 (x2_1 ++ [t105])) else (none)) else (some (([] : List ByteArray),wrap64 ((x2_1.length:Int)+1),1)))=some (r1,r2,r3):=H
     have A4:=ae.mk A40
     clear A40
     by_cases c5:t107=true
     ·subst c5
      have H1:(if x2_1.length < 8796093022208 then (scan_Lines.l0 k1 t106 (x2_1 ++ [t105])) else (none))=some (r1,r2,r3):=by rw[if_pos rfl] at H;exact H
      clear H
      have H:=H1
      clear H1
      by_cases c6:x2_1.length < 8796093022208
      ·rw[if_pos c6] at H
       have LMc6:=ae.mk c6
       clear c6
       obtain⟨y108,hy108⟩ : ∃ y_:List ByteArray,y_=(x2_1 ++ [t105]):=⟨_,rfl⟩
       replace H:(scan_Lines.l0 k1 t106 y108)=some (r1,r2,r3):=by first|(rw[hy108];with_reducible exact H)|(have H2_:=(Option.bind_some _ _).symm.trans H;rw[hy108];with_reducible exact H2_)|(have H2_:=(Option.bind_some _ _).symm.trans H;with_reducible exact H2_)|with_reducible exact H|(rw[hy108];exact H)|exact H
       have Ny108:=ae.mk hy108
       clear hy108
       have H':=ae.mk H
       clear H
       go_wp2_with (first|((with_reducible refine au (f:=73) rfl ?_);refine bD (some 15) rfl rfl Tryz.func73 (by kernel_rfl) rfl #[.string x0_1,.string (⟨#[10]⟩ : ByteArray)] rfl (by (try simp only[List.map_toArray,List.map_cons,List.map_nil]);first|done|rfl|(simp only[List.length_drop,List.length_take];rfl)) ?_;(with_reducible refine(strings_Cut.calls x0_1 (⟨#[10]⟩ : ByteArray) t105 t106 true _ A4.o).mono ?_);rintro e w' ⟨rfl,⟨nd,rfl⟩⟩;refine⟨_,rfl,?_⟩)|((with_reducible refine aV (b:=.append) (xs:=#[.tmp 24,.tmp 26]) rfl ?_);at_builtin;refine Kd.bX Kd.string (w0:=w) w.heap.size rfl (.tmp 24) (.tmp 26) 46 9 (.string ⟨#[]⟩) 16 rfl Tryz.underlying46 info9 rfl (by decide) (by omega) u2 x2_1 t105 [.string t105] (fun _=>True) (fun _=>False) rfl rfl ?aP (fun _ hk=>hk.elim) ?aF ?aO ?aB ?aS ?aL ?_;(case aP=>exact rfl);(case aB=>exact(by repeat(first|(with_reducible first|exact HB.o|apply af|apply aa|apply ag)|exact HB.o)));(case aF=>exact(fun _ _=>trivial));(case aO=>exact(by (with_reducible repeat(first|apply Kd.az|apply Kd.aA|apply Kd.aZ));exact HO_2.o));(case aS=>exact(bf (by repeat(first|(with_reducible first|exact HB.o|apply af|apply aa|apply ag)|exact HB.o))));(case aL=>have:=LMc6.o;omega);intro v109 w7 ho hb hg hat;rw[← Ny108.o] at ho;have n0_:=ae.mk (hb);have n1_:=ae.mk (ho);clear HB;clear HO_2;have HB:=n0_;have HO110:=n1_;clear n0_ n1_;clear ho hb hg hat))
       go_roundg k1
       case measure=>have:=HK1.o;omega
       case rel=>exact⟨(t106),(y108),(by first|rfl|(simp;done)|(simp[*];done)|(simp[isEmpty_bne];done)|(simp[isEmpty_beq];done)),H',⟨by have:=HK1.o;omega⟩,⟨by (with_reducible repeat(first|apply Kd.az|apply Kd.aA|apply Kd.aZ));exact HO110.o⟩,⟨by repeat(first|(with_reducible first|exact HB.o|apply af|apply aa|apply ag)|exact HB.o)⟩⟩
      ·rw[if_neg c6] at H
       exact absurd H (by simp)
     ·replace c5:=Bool.eq_false_iff.mpr c5
      subst c5
      have H1:(some (([] : List ByteArray),wrap64 ((x2_1.length:Int)+1),1))=some (r1,r2,r3):=by rw[if_neg (show ¬ (false=true) by decide)] at H;exact H
      clear H
      have H:=H1
      clear H1
      simp only[Option.some.injEq,Prod.mk.injEq] at H
      obtain⟨rfl,rfl,rfl⟩:=H
      go_wp2_with (first|((with_reducible refine au (f:=73) rfl ?_);refine bD (some 15) rfl rfl Tryz.func73 (by kernel_rfl) rfl #[.string x0_1,.string (⟨#[10]⟩ : ByteArray)] rfl (by (try simp only[List.map_toArray,List.map_cons,List.map_nil]);first|done|rfl|(simp only[List.length_drop,List.length_take];rfl)) ?_;(with_reducible refine(strings_Cut.calls x0_1 (⟨#[10]⟩ : ByteArray) t105 t106 false _ A4.o).mono ?_);rintro e w' ⟨rfl,⟨nd,rfl⟩⟩;refine⟨_,rfl,?_⟩;obtain⟨Ao8,co8,eo8⟩:=Kd.R_slice HO_2.o;subst eo8))
      go_ret3
      exact⟨_,by first|rfl|(simp[aj,ak] <;> rfl)|(simp[*,aj,ak] <;> rfl),by first|exact Kd.R_nil _ _ _ _ _|exact Kd.N_nil _ _ _ _ _|exact Kd.V_nil _ _ _ _ _|exact Kd.Q_nil _ _ _ _ _|exact Kd.S_nil _ _ _ _ _,by repeat(first|(with_reducible first|exact HB.o|apply af|apply aa|apply ag)|exact HB.o)⟩
def scan_printed.f (a0:Int):Option (Bool):=if a0 > 32 then (some (decide (a0 < 127))) else (some false)
set_option maxHeartbeats 8000000 in
set_option maxRecDepth 100000 in
theorem scan_printed.calls (a0:Int) (r:Bool) (w:World) (h:scan_printed.f a0=some r) :
  Calls Tryz.prog 74 #[.int .u8 a0] w fun e w'=>e = .returned (.bool r)∧ah w w':=by
 have H:(if a0 > 32 then (some (decide (a0 < 127))) else (some false))=some r:=h
 clear h
 by_cases c2:a0 > 32
 ·rw[if_pos c2] at H
  have c2b0:decide (32 < a0)=true:=decide_eq_true c2
  clear c2
  obtain rfl:=Option.some.inj H
  go_enter Tryz.func74,Tryz.ntmps74
  go_wp2
  go_ret
  exact⟨by first|rfl|(simp;done)|(simp[*];done),by repeat(first|exact ah.refl _|apply ah.step)⟩
 ·rw[if_neg c2] at H
  have c2b0:decide (32 < a0)=false:=decide_eq_false c2
  clear c2
  obtain rfl:=Option.some.inj H
  go_enter Tryz.func74,Tryz.ntmps74
  go_wp2
  go_ret
  exact⟨by first|rfl|(simp;done)|(simp[*];done),by repeat(first|exact ah.refl _|apply ah.step)⟩
mutual
def scan_Words.l0:Nat → ByteArray → List ByteArray → Int → Option (List ByteArray × Int × Int)
 |0,_,_,_=>none
 |k+1,x0,x2,x5=>if x5=(x0.size:Int) then (if x5 > 0 then some ([],x5,1) else some ([],x5+1,1)) else if 0≤x5∧x5 < (x0.size:Int) then (scan_printed.f (bt x0 x5)).bind fun t=>if t=true then scan_Words.l1 k x0 x2 x5 x5 else some ([],x5+1,1) else none
def scan_Words.l1:Nat → ByteArray → List ByteArray → Int → Int → Option (List ByteArray × Int × Int)
 |0,_,_,_,_=>none
 |k+1,x0,x2,x6,x5=>if x5+1 < (x0.size:Int) then (scan_printed.f (bt x0 (x5+1))).bind fun t=>if t=true then scan_Words.l1 k x0 x2 x6 (x5+1) else if x2.length < 8796093022208 then (if (bt x0 (x5+1))=32 then scan_Words.l0 k x0 (x2 ++ [x0.extract x6.toNat (x5+1).toNat]) (x5+1+1) else some ([],x5+1+1,1)) else none
   else if x2.length < 8796093022208 then some (x2 ++ [x0.extract x6.toNat (x5+1).toNat],0,0) else none
end
def scan_Words.f (k:Nat) (a0:ByteArray):Option (List ByteArray × Int × Int):=if a0.size≤140737488355328 then scan_Words.l0 k a0 [] 0 else none
def scan_Words.Fr (a0:ByteArray) (v2:Value) (x5:Int) (v6:Value) (a:Act):Prop:=∃ u7 u8 u9 u10 u11 u12 u13 u14 u15 u16 u17 u18 u19 u20 u21 u22 u23 u24 u25 u26 u27 u28 u29 u30 u31 u32 u33 u34 u35 u36 u37 u38 u39 u40 u41 u42 u43 u44 u45 u46 u47 u48 u49 u50 u51 u52 u53 u54 u55 u56 u57 u58 u59 u60 u61 u62:Value,a = { tmps:=#[.string a0,undef,v2,.int .i64 0,.int .i64 0,.int .i64 x5,v6,u7,u8,u9,u10,u11,u12,u13,u14,u15,u16,u17,u18,u19,u20,u21,u22,u23,u24,u25,u26,u27,u28,u29,u30,u31,u32,u33,u34,u35,u36,u37,u38,u39,u40,u41,u42,u43,u44,u45,u46,u47,u48,u49,u50,u51,u52,u53,u54,u55,u56,u57,u58,u59,u60,u61,u62],defers:=[] }
def scan_Words.J (a0:ByteArray) (r:List ByteArray × Int × Int) (w:World) (l n:Nat) (a:Act) (w' : World):Prop:=
 (l=0∧∃ x2 v2 v6 x5,scan_Words.Fr a0 v2 x5 v6 a∧0≤x5∧x5≤(a0.size:Int)∧ae (scan_Words.l0 n a0 x2 x5=some r)∧ae (Kd.R Kd.string 9 w' w.heap.size (fun _=>True) v2 x2)∧ae (Below w.heap.size w w'))∨
 (l=1∧∃ x2 v2 x6 x5,scan_Words.Fr a0 v2 x5 (.int .i64 x6) a∧0≤x6∧x6≤x5∧x5 < (a0.size:Int)∧ae (scan_Words.l1 n a0 x2 x6 x5=some r)∧ae (Kd.R Kd.string 9 w' w.heap.size (fun _=>True) v2 x2)∧ae (Below w.heap.size w w'))
set_option maxHeartbeats 4000000 in
set_option maxRecDepth 100000 in
theorem scan_Words.calls (k:Nat) (a0:ByteArray) (r1:List ByteArray) (r2:Int) (r3:Int) (w:World) (h:scan_Words.f k a0=some (r1,r2,r3)) :
  Calls Tryz.prog 56 #[.string a0] w fun e w'=>∃ v0_:Value,e = .returned (.tuple #[v0_,.int .i64 r2,.int .i64 r3])∧Kd.R Kd.string 9 w' w.heap.size (fun _=>True) v0_ r1∧Below w.heap.size w w':=by
 unfold scan_Words.f at h
 by_cases hsz:a0.size≤140737488355328
 ·rw[if_pos hsz] at h
  have h':=ae.mk h
  clear h
  go_enter Tryz.func56,Tryz.ntmps56
  go_wp2
  refine wp_scope_at (l0:=0) (scan_Words.J a0 (r1,r2,r3) w) rfl ?_ ?_
  ·go_wp2
   exact⟨k,.inl ⟨rfl,[],_,_,0,⟨_,_,_,_,_,_,_,_,_,_,_,_,_,_,_,_,_,_,_,_,_,_,_,_,_,_,_,_,_,_,_,_,_,_,_,_,_,_,_,_,_,_,_,_,_,_,_,_,_,_,_,_,_,_,_,_,rfl⟩,by omega,by omega,⟨h'.o⟩,⟨Kd.R_nil _ _ _ _ _⟩,⟨Below.refl _ _⟩⟩⟩
  ·intro n l a w' hJ
   rcases hJ with ⟨rfl,x2,v2,v6,x5,hfr,h0,h1,HA,HO,HB⟩|⟨rfl,x2,v2,x6,x5,hfr,h0,h1,h2,HA,HO,HB⟩
   ·refine⟨_,rfl,?_⟩
    obtain⟨u7,u8,u9,u10,u11,u12,u13,u14,u15,u16,u17,u18,u19,u20,u21,u22,u23,u24,u25,u26,u27,u28,u29,u30,u31,u32,u33,u34,u35,u36,u37,u38,u39,u40,u41,u42,u43,u44,u45,u46,u47,u48,u49,u50,u51,u52,u53,u54,u55,u56,u57,u58,u59,u60,u61,u62,rfl⟩:=hfr
    cases n with
    |zero=>exact absurd HA.o (by simp[scan_Words.l0])
    |succ k1=>
     have H:=HA.o
     clear HA
     simp only[scan_Words.l0] at H
     by_cases hend:x5=(a0.size:Int)
     ·rw[if_pos hend] at H
      have ceq:((x5:Int) == (a0.size:Int))=true:=beq_iff_eq.mpr hend
      have clt2:=Int.le_of_eq hend.symm
      have clt3:=Int.le_of_eq hend
      clear hend
      by_cases hpos:x5 > 0
      ·rw[if_pos hpos] at H
       simp only[Option.some.injEq,Prod.mk.injEq] at H
       obtain⟨rfl,rfl,rfl⟩:=H
       have cgt:decide (0 < x5)=true:=decide_eq_true hpos
       go_wp2
       simp only[ExitJumps_ret]
       go_ret3
       exact⟨_,by first|rfl|(simp;done)|(simp;omega),Kd.R_nil _ _ _ _ _,(by repeat(first|(with_reducible first|exact HB.o|apply af|apply aa|apply ag)|exact HB.o))⟩
      ·rw[if_neg hpos] at H
       simp only[Option.some.injEq,Prod.mk.injEq] at H
       obtain⟨rfl,rfl,rfl⟩:=H
       have cgt:decide (0 < x5)=false:=decide_eq_false hpos
       clear hpos
       go_wp2
       simp only[ExitJumps_ret]
       go_ret3
       exact⟨_,by first|rfl|(simp;done)|(simp;omega),Kd.R_nil _ _ _ _ _,(by repeat(first|(with_reducible first|exact HB.o|apply af|apply aa|apply ag)|exact HB.o))⟩
     ·rw[if_neg hend] at H
      have hlt0:x5 < (a0.size:Int):=by omega
      rw[if_pos ⟨h0,hlt0⟩] at H
      replace H:=Option.bind_eq_some_iff.mp H
      obtain⟨t0,A00,H⟩:=H
      have A0:=ae.mk A00
      clear A00
      have ceq0:((x5:Int) == (a0.size:Int))=false:=beq_eq_false_iff_ne.mpr hend
      clear hend
      have p0:0≤x5:=h0
      have q0:=hlt0
      have hx0:=bt_at a0 x5
      replace p0:=eq_true p0
      replace q0:=eq_true q0
      cases t0 with
      |false=>
       simp only[Bool.false_eq_true,if_false,Option.some.injEq,Prod.mk.injEq] at H
       obtain⟨rfl,rfl,rfl⟩:=H
       go_wp2_with (first|(go_at_call 74;(with_reducible refine(scan_printed.calls (bt a0 x5) false _ A0.o).mono ?_);rintro e w'' ⟨rfl,⟨nd,rfl⟩⟩))
       all_goals simp only[ExitJumps_ret]
       all_goals go_ret3
       all_goals exact⟨_,by first|rfl|(simp;done)|(simp;omega),Kd.R_nil _ _ _ _ _,(by repeat(first|(with_reducible first|exact HB.o|apply af|apply aa|apply ag)|exact HB.o))⟩
      |true=>
       simp only[if_true] at H
       have H':=ae.mk H
       clear H
       go_wp2_with (first|(go_at_call 74;(with_reducible refine(scan_printed.calls (bt a0 x5) true _ A0.o).mono ?_);rintro e w'' ⟨rfl,⟨nd,rfl⟩⟩))
       go_step3
       have H:=H'.o
       clear H'
       cases k1 with
       |zero=>exact absurd H (by simp[scan_Words.l1])
       |succ k2=>
        simp only[scan_Words.l1] at H
        have hw1:x5+1 < (a0.size:Int)∨x5+1=(a0.size:Int):=by omega
        rcases hw1 with hlt|heq
        ·rw[if_pos hlt] at H
         replace H:=Option.bind_eq_some_iff.mp H
         obtain⟨t,A40,H⟩:=H
         have A4:=ae.mk A40
         clear A40
         have clt:decide (x5+1 < (a0.size:Int))=true:=decide_eq_true hlt
         have ceq:((x5+1:Int) == (a0.size:Int))=false:=beq_eq_false_iff_ne.mpr (by omega)
         have p8:0≤(x5+1:Int):=by omega
         have q8:x5+1 < (a0.size:Int):=hlt
         have hx8:=bt_at a0 (x5+1)
         have s2:x5≤x5+1:=by omega
         have s3:x5+1≤(a0.size:Int):=by omega
         have s1:=h0
         replace s1:=eq_true s1
         replace s2:=eq_true s2
         replace s3:=eq_true s3
         replace p8:=eq_true p8
         replace q8:=eq_true q8
         cases t with
         |true=>
          have H':=ae.mk H
          clear H
          go_wp2_with (first|(go_at_call 74;(with_reducible refine(scan_printed.calls (bt a0 (x5+1)) true _ A4.o).mono ?_);rintro e w'' ⟨rfl,⟨nd,rfl⟩⟩))
          go_step3
          exact⟨_,by omega,.inr ⟨rfl,x2,v2,x5,x5+1,⟨_,_,_,_,_,_,_,_,_,_,_,_,_,_,_,_,_,_,_,_,_,_,_,_,_,_,_,_,_,_,_,_,_,_,_,_,_,_,_,_,_,_,_,_,_,_,_,_,_,_,_,_,_,_,_,_,rfl⟩,by omega,by omega,by omega,⟨H'.o⟩,⟨(by (with_reducible repeat(first|apply Kd.az|apply Kd.aA|apply Kd.aZ));exact HO.o)⟩,⟨(by repeat(first|(with_reducible first|exact HB.o|apply af|apply aa|apply ag)|exact HB.o))⟩⟩⟩
         |false=>
          by_cases hl:x2.length < 8796093022208
          ·simp only[Bool.false_eq_true,if_false] at H
           rw[if_pos hl] at H
           have LMc:=ae.mk hl
           clear hl
           by_cases h32:bt a0 (x5+1)=32
           ·rw[if_pos h32] at H
            have H':=ae.mk H
            clear H
            have c32:(bt a0 (x5+1) == 32)=true:=beq_iff_eq.mpr h32
            clear h32
            go_wp2_with (first|(go_at_call 74;(with_reducible refine(scan_printed.calls (bt a0 (x5+1)) false _ A4.o).mono ?_);rintro e w'' ⟨rfl,⟨nd,rfl⟩⟩)|((with_reducible refine aV (b:=.append) (xs:=#[.tmp 43,.tmp 48]) rfl ?_);at_builtin;refine Kd.bX Kd.string (w0:=w) w.heap.size rfl (.tmp 43) (.tmp 48) 46 9 (.string ⟨#[]⟩) 16 rfl Tryz.underlying46 info9 rfl (by decide) (by omega) v2 x2 (a0.extract (x5:Int).toNat (x5+1:Int).toNat) [.string (a0.extract (x5:Int).toNat (x5+1:Int).toNat)] (fun _=>True) (fun _=>False) rfl rfl ?aP (fun _ hk=>hk.elim) ?aF ?aO ?aB ?aS ?aL ?_;(case aP=>exact rfl);(case aB=>exact(by repeat(first|(with_reducible first|exact HB.o|apply af|apply aa|apply ag)|exact HB.o)));(case aF=>exact(fun _ _=>trivial));(case aO=>exact(by (with_reducible repeat(first|apply Kd.az|apply Kd.aA|apply Kd.aZ));exact HO.o));(case aS=>exact(bf (by repeat(first|(with_reducible first|exact HB.o|apply af|apply aa|apply ag)|exact HB.o))));(case aL=>have:=LMc.o;omega);intro v115 w11 ho hb hg hat;have n0_:=ae.mk hb;have n1_:=ae.mk ho;clear HB;clear HO;have HB:=n0_;have HO:=n1_;clear n0_ n1_;clear ho hb hg hat))
            go_step3
            exact⟨_,by omega,.inl ⟨rfl,_,v115,_,x5+1+1,⟨_,_,_,_,_,_,_,_,_,_,_,_,_,_,_,_,_,_,_,_,_,_,_,_,_,_,_,_,_,_,_,_,_,_,_,_,_,_,_,_,_,_,_,_,_,_,_,_,_,_,_,_,_,_,_,_,by rfl⟩,by omega,by omega,⟨H'.o⟩,⟨(by (with_reducible repeat(first|apply Kd.az|apply Kd.aA|apply Kd.aZ));exact HO.o)⟩,⟨(by repeat(first|(with_reducible first|exact HB.o|apply af|apply aa|apply ag)|exact HB.o))⟩⟩⟩
           ·rw[if_neg h32] at H
            simp only[Option.some.injEq,Prod.mk.injEq] at H
            obtain⟨rfl,rfl,rfl⟩:=H
            have c32:(bt a0 (x5+1) == 32)=false:=beq_eq_false_iff_ne.mpr h32
            clear h32
            go_wp2_with (first|(go_at_call 74;(with_reducible refine(scan_printed.calls (bt a0 (x5+1)) false _ A4.o).mono ?_);rintro e w'' ⟨rfl,⟨nd,rfl⟩⟩)|((with_reducible refine aV (b:=.append) (xs:=#[.tmp 43,.tmp 48]) rfl ?_);at_builtin;refine Kd.bX Kd.string (w0:=w) w.heap.size rfl (.tmp 43) (.tmp 48) 46 9 (.string ⟨#[]⟩) 16 rfl Tryz.underlying46 info9 rfl (by decide) (by omega) v2 x2 (a0.extract (x5:Int).toNat (x5+1:Int).toNat) [.string (a0.extract (x5:Int).toNat (x5+1:Int).toNat)] (fun _=>True) (fun _=>False) rfl rfl ?aP (fun _ hk=>hk.elim) ?aF ?aO ?aB ?aS ?aL ?_;(case aP=>exact rfl);(case aB=>exact(by repeat(first|(with_reducible first|exact HB.o|apply af|apply aa|apply ag)|exact HB.o)));(case aF=>exact(fun _ _=>trivial));(case aO=>exact(by (with_reducible repeat(first|apply Kd.az|apply Kd.aA|apply Kd.aZ));exact HO.o));(case aS=>exact(bf (by repeat(first|(with_reducible first|exact HB.o|apply af|apply aa|apply ag)|exact HB.o))));(case aL=>have:=LMc.o;omega);intro v115 w11 ho hb hg hat;have n0_:=ae.mk hb;have n1_:=ae.mk ho;clear HB;clear HO;have HB:=n0_;have HO:=n1_;clear n0_ n1_;clear ho hb hg hat))
            simp only[ExitJumps_ret]
            go_ret3
            exact⟨_,by first|rfl|(simp;done)|(simp;omega),Kd.R_nil _ _ _ _ _,(by repeat(first|(with_reducible first|exact HB.o|apply af|apply aa|apply ag)|exact HB.o))⟩
          ·rw[if_neg hl] at H
           exact absurd H (by simp)
        ·rw[if_neg (by omega)] at H
         by_cases hl:x2.length < 8796093022208
         ·rw[if_pos hl] at H
          have LMc:=ae.mk hl
          clear hl
          simp only[Option.some.injEq,Prod.mk.injEq] at H
          obtain⟨rfl,rfl,rfl⟩:=H
          have clt:decide (x5+1 < (a0.size:Int))=false:=decide_eq_false (by omega)
          have ceq:((x5+1:Int) == (a0.size:Int))=true:=beq_iff_eq.mpr heq
          have clt2:=Int.le_of_eq heq.symm
          have s3:=Int.le_of_eq heq
          have s2:x5≤x5+1:=by omega
          have s1:=h0
          replace s1:=eq_true s1
          replace s2:=eq_true s2
          replace s3:=eq_true s3
          clear heq
          go_wp2_with (first|((with_reducible refine aV (b:=.append) (xs:=#[.tmp 43,.tmp 48]) rfl ?_);at_builtin;refine Kd.bX Kd.string (w0:=w) w.heap.size rfl (.tmp 43) (.tmp 48) 46 9 (.string ⟨#[]⟩) 16 rfl Tryz.underlying46 info9 rfl (by decide) (by omega) v2 x2 (a0.extract (x5:Int).toNat (x5+1:Int).toNat) [.string (a0.extract (x5:Int).toNat (x5+1:Int).toNat)] (fun _=>True) (fun _=>False) rfl rfl ?aP (fun _ hk=>hk.elim) ?aF ?aO ?aB ?aS ?aL ?_;(case aP=>exact rfl);(case aB=>exact(by repeat(first|(with_reducible first|exact HB.o|apply af|apply aa|apply ag)|exact HB.o)));(case aF=>exact(fun _ _=>trivial));(case aO=>exact(by (with_reducible repeat(first|apply Kd.az|apply Kd.aA|apply Kd.aZ));exact HO.o));(case aS=>exact(bf (by repeat(first|(with_reducible first|exact HB.o|apply af|apply aa|apply ag)|exact HB.o))));(case aL=>have:=LMc.o;omega);intro v115 w11 ho hb hg hat;have n0_:=ae.mk hb;have n1_:=ae.mk ho;clear HB;clear HO;have HB:=n0_;have HO:=n1_;clear n0_ n1_;clear ho hb hg hat))
          simp only[ExitJumps_ret]
          go_ret3
          exact⟨_,by rfl,(by (with_reducible repeat(first|apply Kd.az|apply Kd.aA|apply Kd.aZ));exact HO.o),(by repeat(first|(with_reducible first|exact HB.o|apply af|apply aa|apply ag)|exact HB.o))⟩
         ·rw[if_neg hl] at H
          exact absurd H (by simp)
   ·refine⟨_,rfl,?_⟩
    obtain⟨u7,u8,u9,u10,u11,u12,u13,u14,u15,u16,u17,u18,u19,u20,u21,u22,u23,u24,u25,u26,u27,u28,u29,u30,u31,u32,u33,u34,u35,u36,u37,u38,u39,u40,u41,u42,u43,u44,u45,u46,u47,u48,u49,u50,u51,u52,u53,u54,u55,u56,u57,u58,u59,u60,u61,u62,rfl⟩:=hfr
    cases n with
    |zero=>exact absurd HA.o (by simp[scan_Words.l1])
    |succ k1=>
     have H:=HA.o
     clear HA
     simp only[scan_Words.l1] at H
     have hw1:x5+1 < (a0.size:Int)∨x5+1=(a0.size:Int):=by omega
     rcases hw1 with hlt|heq
     ·rw[if_pos hlt] at H
      replace H:=Option.bind_eq_some_iff.mp H
      obtain⟨t,A40,H⟩:=H
      have A4:=ae.mk A40
      clear A40
      have clt:decide (x5+1 < (a0.size:Int))=true:=decide_eq_true hlt
      have ceq:((x5+1:Int) == (a0.size:Int))=false:=beq_eq_false_iff_ne.mpr (by omega)
      have p8:0≤(x5+1:Int):=by omega
      have q8:x5+1 < (a0.size:Int):=hlt
      have hx8:=bt_at a0 (x5+1)
      have s2:x6≤x5+1:=by omega
      have s3:x5+1≤(a0.size:Int):=by omega
      have s1:=h0
      replace s1:=eq_true s1
      replace s2:=eq_true s2
      replace s3:=eq_true s3
      replace p8:=eq_true p8
      replace q8:=eq_true q8
      cases t with
      |true=>
       have H':=ae.mk H
       clear H
       go_wp2_with (first|(go_at_call 74;(with_reducible refine(scan_printed.calls (bt a0 (x5+1)) true _ A4.o).mono ?_);rintro e w'' ⟨rfl,⟨nd,rfl⟩⟩))
       go_step3
       exact⟨_,by omega,.inr ⟨rfl,x2,v2,x6,x5+1,⟨_,_,_,_,_,_,_,_,_,_,_,_,_,_,_,_,_,_,_,_,_,_,_,_,_,_,_,_,_,_,_,_,_,_,_,_,_,_,_,_,_,_,_,_,_,_,_,_,_,_,_,_,_,_,_,_,rfl⟩,by omega,by omega,by omega,⟨H'.o⟩,⟨(by (with_reducible repeat(first|apply Kd.az|apply Kd.aA|apply Kd.aZ));exact HO.o)⟩,⟨(by repeat(first|(with_reducible first|exact HB.o|apply af|apply aa|apply ag)|exact HB.o))⟩⟩⟩
      |false=>
       by_cases hl:x2.length < 8796093022208
       ·simp only[Bool.false_eq_true,if_false] at H
        rw[if_pos hl] at H
        have LMc:=ae.mk hl
        clear hl
        by_cases h32:bt a0 (x5+1)=32
        ·rw[if_pos h32] at H
         have H':=ae.mk H
         clear H
         have c32:(bt a0 (x5+1) == 32)=true:=beq_iff_eq.mpr h32
         clear h32
         go_wp2_with (first|(go_at_call 74;(with_reducible refine(scan_printed.calls (bt a0 (x5+1)) false _ A4.o).mono ?_);rintro e w'' ⟨rfl,⟨nd,rfl⟩⟩)|((with_reducible refine aV (b:=.append) (xs:=#[.tmp 43,.tmp 48]) rfl ?_);at_builtin;refine Kd.bX Kd.string (w0:=w) w.heap.size rfl (.tmp 43) (.tmp 48) 46 9 (.string ⟨#[]⟩) 16 rfl Tryz.underlying46 info9 rfl (by decide) (by omega) v2 x2 (a0.extract (x6:Int).toNat (x5+1:Int).toNat) [.string (a0.extract (x6:Int).toNat (x5+1:Int).toNat)] (fun _=>True) (fun _=>False) rfl rfl ?aP (fun _ hk=>hk.elim) ?aF ?aO ?aB ?aS ?aL ?_;(case aP=>exact rfl);(case aB=>exact(by repeat(first|(with_reducible first|exact HB.o|apply af|apply aa|apply ag)|exact HB.o)));(case aF=>exact(fun _ _=>trivial));(case aO=>exact(by (with_reducible repeat(first|apply Kd.az|apply Kd.aA|apply Kd.aZ));exact HO.o));(case aS=>exact(bf (by repeat(first|(with_reducible first|exact HB.o|apply af|apply aa|apply ag)|exact HB.o))));(case aL=>have:=LMc.o;omega);intro v115 w11 ho hb hg hat;have n0_:=ae.mk hb;have n1_:=ae.mk ho;clear HB;clear HO;have HB:=n0_;have HO:=n1_;clear n0_ n1_;clear ho hb hg hat))
         go_step3
         exact⟨_,by omega,.inl ⟨rfl,_,v115,_,x5+1+1,⟨_,_,_,_,_,_,_,_,_,_,_,_,_,_,_,_,_,_,_,_,_,_,_,_,_,_,_,_,_,_,_,_,_,_,_,_,_,_,_,_,_,_,_,_,_,_,_,_,_,_,_,_,_,_,_,_,by rfl⟩,by omega,by omega,⟨H'.o⟩,⟨(by (with_reducible repeat(first|apply Kd.az|apply Kd.aA|apply Kd.aZ));exact HO.o)⟩,⟨(by repeat(first|(with_reducible first|exact HB.o|apply af|apply aa|apply ag)|exact HB.o))⟩⟩⟩
        ·rw[if_neg h32] at H
         simp only[Option.some.injEq,Prod.mk.injEq] at H
         obtain⟨rfl,rfl,rfl⟩:=H
         have c32:(bt a0 (x5+1) == 32)=false:=beq_eq_false_iff_ne.mpr h32
         clear h32
         go_wp2_with (first|(go_at_call 74;(with_reducible refine(scan_printed.calls (bt a0 (x5+1)) false _ A4.o).mono ?_);rintro e w'' ⟨rfl,⟨nd,rfl⟩⟩)|((with_reducible refine aV (b:=.append) (xs:=#[.tmp 43,.tmp 48]) rfl ?_);at_builtin;refine Kd.bX Kd.string (w0:=w) w.heap.size rfl (.tmp 43) (.tmp 48) 46 9 (.string ⟨#[]⟩) 16 rfl Tryz.underlying46 info9 rfl (by decide) (by omega) v2 x2 (a0.extract (x6:Int).toNat (x5+1:Int).toNat) [.string (a0.extract (x6:Int).toNat (x5+1:Int).toNat)] (fun _=>True) (fun _=>False) rfl rfl ?aP (fun _ hk=>hk.elim) ?aF ?aO ?aB ?aS ?aL ?_;(case aP=>exact rfl);(case aB=>exact(by repeat(first|(with_reducible first|exact HB.o|apply af|apply aa|apply ag)|exact HB.o)));(case aF=>exact(fun _ _=>trivial));(case aO=>exact(by (with_reducible repeat(first|apply Kd.az|apply Kd.aA|apply Kd.aZ));exact HO.o));(case aS=>exact(bf (by repeat(first|(with_reducible first|exact HB.o|apply af|apply aa|apply ag)|exact HB.o))));(case aL=>have:=LMc.o;omega);intro v115 w11 ho hb hg hat;have n0_:=ae.mk hb;have n1_:=ae.mk ho;clear HB;clear HO;have HB:=n0_;have HO:=n1_;clear n0_ n1_;clear ho hb hg hat))
         simp only[ExitJumps_ret]
         go_ret3
         exact⟨_,by first|rfl|(simp;done)|(simp;omega),Kd.R_nil _ _ _ _ _,(by repeat(first|(with_reducible first|exact HB.o|apply af|apply aa|apply ag)|exact HB.o))⟩
       ·rw[if_neg hl] at H
        exact absurd H (by simp)
     ·rw[if_neg (by omega)] at H
      by_cases hl:x2.length < 8796093022208
      ·rw[if_pos hl] at H
       have LMc:=ae.mk hl
       clear hl
       simp only[Option.some.injEq,Prod.mk.injEq] at H
       obtain⟨rfl,rfl,rfl⟩:=H
       have clt:decide (x5+1 < (a0.size:Int))=false:=decide_eq_false (by omega)
       have ceq:((x5+1:Int) == (a0.size:Int))=true:=beq_iff_eq.mpr heq
       have clt2:=Int.le_of_eq heq.symm
       have s3:=Int.le_of_eq heq
       have s2:x6≤x5+1:=by omega
       have s1:=h0
       replace s1:=eq_true s1
       replace s2:=eq_true s2
       replace s3:=eq_true s3
       clear heq
       go_wp2_with (first|((with_reducible refine aV (b:=.append) (xs:=#[.tmp 43,.tmp 48]) rfl ?_);at_builtin;refine Kd.bX Kd.string (w0:=w) w.heap.size rfl (.tmp 43) (.tmp 48) 46 9 (.string ⟨#[]⟩) 16 rfl Tryz.underlying46 info9 rfl (by decide) (by omega) v2 x2 (a0.extract (x6:Int).toNat (x5+1:Int).toNat) [.string (a0.extract (x6:Int).toNat (x5+1:Int).toNat)] (fun _=>True) (fun _=>False) rfl rfl ?aP (fun _ hk=>hk.elim) ?aF ?aO ?aB ?aS ?aL ?_;(case aP=>exact rfl);(case aB=>exact(by repeat(first|(with_reducible first|exact HB.o|apply af|apply aa|apply ag)|exact HB.o)));(case aF=>exact(fun _ _=>trivial));(case aO=>exact(by (with_reducible repeat(first|apply Kd.az|apply Kd.aA|apply Kd.aZ));exact HO.o));(case aS=>exact(bf (by repeat(first|(with_reducible first|exact HB.o|apply af|apply aa|apply ag)|exact HB.o))));(case aL=>have:=LMc.o;omega);intro v115 w11 ho hb hg hat;have n0_:=ae.mk hb;have n1_:=ae.mk ho;clear HB;clear HO;have HB:=n0_;have HO:=n1_;clear n0_ n1_;clear ho hb hg hat))
       simp only[ExitJumps_ret]
       go_ret3
       exact⟨_,by rfl,(by (with_reducible repeat(first|apply Kd.az|apply Kd.aA|apply Kd.aZ));exact HO.o),(by repeat(first|(with_reducible first|exact HB.o|apply af|apply aa|apply ag)|exact HB.o))⟩
      ·rw[if_neg hl] at H
       exact absurd H (by simp)
 ·rw[if_neg hsz] at h
  cases h
def scan_Columns.l0:Nat → List Int → Int → List ByteArray → Int → Int → Option (List Int)
 |0,_,_,_,_,_=>none
 |k+1,x3,x4,x10,x11,x12=>if x12 < x11 then (if 0≤x12 then (if x12 < (x10.length:Int) then (if x12 < (x3.length:Int) then (scan_Columns.l0 k (x3.set (x12:Int).toNat x4) (wrap64 (x4+(wrap64 (((rdOf ByteArray.empty x10 x12).size:Int)+1)))) x10 x11 (wrap64 (x12+1))) else (none)) else (none)) else (none)) else (some x3)
def scan_Columns.f (k:Nat) (l0:List ByteArray):Option (List Int):=if 0≤(l0.length:Int) then (if ((l0.length:Int):Int).toNat≤35184372088832 then (scan_Columns.l0 k (List.replicate ((l0.length:Int):Int).toNat 0) 1 l0 (l0.length:Int) 0) else (none)) else (none)
set_option maxHeartbeats 8000000 in
set_option maxRecDepth 100000 in
theorem scan_Columns.calls (k:Nat) (A0:Option Addr) (c0:Nat) (l0:List ByteArray) (r:List Int) (w:World) (hr0:Kd.C Kd.string w A0 l0.length l0) (hc0:l0.length≤c0) (h:scan_Columns.f k l0=some r) :
  Calls Tryz.prog 60 #[.slice A0 l0.length c0] w fun e w'=>∃ v0_:Value,e = .returned (v0_)∧Kd.R (Kd.int .i64) 3 w' w.heap.size (fun _=>True) v0_ r∧Below w.heap.size w w':=by
 have HR0:=ae.mk hr0
 have HC0:=ae.mk hc0
 clear hr0 hc0
 have HB:=ae.mk (Below.refl w.heap.size w)
 have H:(if 0≤(l0.length:Int) then (if ((l0.length:Int):Int).toNat≤35184372088832 then (scan_Columns.l0 k (List.replicate ((l0.length:Int):Int).toNat 0) 1 l0 (l0.length:Int) 0) else (none)) else (none))=some r:=h
 clear h
 by_cases c2:0≤(l0.length:Int)
 ·rw[if_pos c2] at H
  have c2b0:=eq_true c2
  have c2b1:decide (0≤(l0.length:Int))=true:=decide_eq_true c2
  clear c2
  by_cases c3:((l0.length:Int):Int).toNat≤35184372088832
  ·rw[if_pos c3] at H
   have c3b0:=eq_true c3
   have c3b1:decide (((l0.length:Int):Int).toNat≤35184372088832)=true:=decide_eq_true c3
   clear c3
   obtain⟨y111,hy111⟩ : ∃ y_:List Int,y_=(List.replicate ((l0.length:Int):Int).toNat 0):=⟨_,rfl⟩
   replace H:(scan_Columns.l0 k y111 1 l0 (l0.length:Int) 0)=some r:=by first|(rw[hy111];with_reducible exact H)|(have H2_:=(Option.bind_some _ _).symm.trans H;rw[hy111];with_reducible exact H2_)|(have H2_:=(Option.bind_some _ _).symm.trans H;with_reducible exact H2_)|with_reducible exact H|(rw[hy111];exact H)|exact H
   have Ny111:=ae.mk hy111
   clear hy111
   have H':=ae.mk H
   clear H
   go_enter Tryz.func60,Tryz.ntmps60
   go_wp2_with (first|((with_reducible refine gate_dst (N:=9) rfl ?_);refine Kd.R_make (Kd.int .i64) _ 3 rfl (N:=9) rfl 83 _ _ rfl (l0.length:Int) rfl rfl Tryz.underlying83 (.int .i64 0) 8 info3 rfl (by decide) (by omega) 0 (ok:=fun _=>True) (okp:=fun _=>True) rfl (fun _ hk=>hk) trivial (of_decide_eq_true (by first|(with_reducible assumption)|assumption)) (Nat.le_trans (Nat.mul_le_mul_right _ (of_decide_eq_true (by first|(with_reducible assumption)|assumption):(l0.length:Int).toNat≤35184372088832)) (by omega)) (Below.refl _ _) (Nat.le_refl _) ?_;intro v112 w4 ho5 hb hg_ hnew_;clear hg_ hnew_;(first|rw[← Ny111.o] at ho5|(simp only[Int.reduceToNat] at ho5;rw[← Ny111.o] at ho5));have n0_:=ae.mk (Kd.R_lower ho5 (bf (by repeat(first|(with_reducible first|exact HB.o|apply af|apply aa|apply ag)|exact HB.o))));have n1_:=ae.mk (bC (by repeat(first|(with_reducible first|exact HB.o|apply af|apply aa|apply ag)|exact HB.o)) hb);clear HB;have HO113:=n0_;have HB:=n1_;clear n0_ n1_;clear hb ho5))
   go_loopg [4,12] k (fun kq v4 v12 w'=>∃ (x3_1:List Int) (x4_1:Int) (x12_1:Int),v4 = .int .i64 x4_1∧v12 = .int .i64 x12_1∧ae (scan_Columns.l0 kq x3_1 x4_1 l0 (l0.length:Int) x12_1=some r)∧ae (kq≤k)∧ae (Kd.R (Kd.int .i64) 3 w' w.heap.size (fun _=>True) v112 x3_1)∧ae (Below w.heap.size w w'))
   case atStart=>exact⟨(y111),(1),(0),(by first|rfl|(simp;done)|(simp[*];done)|(simp[isEmpty_bne];done)|(simp[isEmpty_beq];done)),(by first|rfl|(simp;done)|(simp[*];done)|(simp[isEmpty_bne];done)|(simp[isEmpty_beq];done)),H',⟨Nat.le_refl _⟩,⟨by (with_reducible repeat(first|apply Kd.az|apply Kd.aA|apply Kd.aZ));exact HO113.o⟩,⟨by repeat(first|(with_reducible first|exact HB.o|apply af|apply aa|apply ag)|exact HB.o)⟩⟩
   case round=>
    clear H'
    try clear c2
    try clear c2b0
    try clear c2b1
    try clear p2
    try clear c3
    try clear c3b0
    try clear c3b1
    (try clear HO_3)
    obtain⟨x3_1,x4_1,x12_1,rfl,rfl,HA,HK1,HO_3,HB⟩:=hrel
    cases gk with
    |zero=>exact absurd HA.o (by simp[scan_Columns.l0])
    |succ k1=>
     have H:=HA.o
     clear HA
     simp only[scan_Columns.l0] at H
     by_cases c6:x12_1 < (l0.length:Int)
     ·rw[if_pos c6] at H
      have c6b0:decide (x12_1 < (l0.length:Int))=true:=decide_eq_true c6
      clear c6
      by_cases c7:0≤x12_1
      ·rw[if_pos c7] at H
       have c7b0:decide (0≤x12_1)=true:=decide_eq_true c7
       clear c7
       by_cases c8:x12_1 < (l0.length:Int)
       ·rw[if_pos c8] at H
        have c8b0:decide (x12_1 < (l0.length:Int))=true:=decide_eq_true c8
        clear c8
        by_cases c9:x12_1 < (x3_1.length:Int)
        ·rw[if_pos c9] at H
         have c9b0:decide (x12_1 < (x3_1.length:Int))=true:=decide_eq_true c9
         clear c9
         obtain⟨y115,hy115⟩ : ∃ y_:List Int,y_=(x3_1.set (x12_1:Int).toNat x4_1):=⟨_,rfl⟩
         replace H:(scan_Columns.l0 k1 y115 (wrap64 (x4_1+(wrap64 (((rdOf ByteArray.empty l0 x12_1).size:Int)+1)))) l0 (l0.length:Int) (wrap64 (x12_1+1)))=some r:=by first|(rw[hy115];with_reducible exact H)|(have H2_:=(Option.bind_some _ _).symm.trans H;rw[hy115];with_reducible exact H2_)|(have H2_:=(Option.bind_some _ _).symm.trans H;with_reducible exact H2_)|with_reducible exact H|(rw[hy115];exact H)|exact H
         have Ny115:=ae.mk hy115
         clear hy115
         have H':=ae.mk H
         clear H
         have p114:0≤(x12_1:Int):=of_decide_eq_true (by first|(with_reducible assumption)|assumption)
         have q114:x12_1 < (l0.length:Int):=of_decide_eq_true (by first|(with_reducible assumption)|assumption)
         obtain⟨ad114,e114,hx114_0⟩:=Kd.at_string HR0.o x12_1 p114 q114
         cases e114
         replace hx114_0:=cqq HB.o hx114_0
         replace p114:=eq_true p114
         replace q114:=eq_true q114
         have p10:0≤(x12_1:Int):=of_decide_eq_true (by first|(with_reducible assumption)|assumption)
         have q10:(x12_1:Int) < ((x3_1.length:Int):Int):=of_decide_eq_true (by first|(with_reducible assumption)|assumption)
         obtain⟨go10,co10,eo10,gb10,gl10,cl10,HG10⟩:=Kd.R_form HO_3.o (by omega)
         (first|cases eo10|(injection eo10 with ea_ en_ ec_;(first|subst ea_|(injection ea_ with ea_;subst ea_));subst ec_;clear en_))
         have GB10:=ae.mk gb10
         have GG10:=ae.mk HG10
         clear gb10 gl10 HG10
         obtain⟨hx10_0,hf10_0⟩:=Kd.R_celln 0 HO_3.o (x12_1:Int) p10 q10
         replace p10:=eq_true p10
         replace q10:=eq_true q10
         have HP11:=Kd.R_putg HO_3.o (x12_1:Int) x4_1
         go_wp2_with (first|((with_reducible refine gate_store (t:=3) (p:=20) rfl ?_);refine store_event (t:=3) (p:=20) (v:=?vo_w12) (w1:=(wr.setCell ⟨go10,(x12_1:Int).toNat,none⟩ (.int .i64 x4_1))) ?hg ?ho ?hn ?hr ?_;(case ho=>rfl);(case hg=>rfl);(case hn=>rfl);(case hr=>first|(go_simp;done)|(go_simp;rfl));intro w12 hw;have hg:wr.grownBy w12 (some go10):=(by rw[hw];exact HP11.2);have hp_:Kd.R (Kd.int .i64) 3 w12 w.heap.size (fun _=>True) (.slice (some ⟨go10,0,none⟩) x3_1.length co10) y115:=(by rw[hw,Ny115.o];exact HP11.1);clear HP11;have n0_:=ae.mk (hp_);have n1_:=ae.mk ((by rw[hw];exact below_set (HB.o) GB10.o:Below w.heap.size w w12));clear HO_3;clear HB;have HO_3:=n0_;have HB:=n1_;clear n0_ n1_;clear hg hw hp_))
         go_roundg k1
         case measure=>have:=HK1.o;omega
         case rel=>exact⟨(y115),(wrap64 (x4_1+(wrap64 (((rdOf ByteArray.empty l0 x12_1).size:Int)+1)))),(wrap64 (x12_1+1)),(by first|rfl|(simp;done)|(simp[*];done)|(simp[isEmpty_bne];done)|(simp[isEmpty_beq];done)),(by first|rfl|(simp;done)|(simp[*];done)|(simp[isEmpty_bne];done)|(simp[isEmpty_beq];done)),H',⟨by have:=HK1.o;omega⟩,⟨by (with_reducible repeat(first|apply Kd.az|apply Kd.aA|apply Kd.aZ));exact HO_3.o⟩,⟨by repeat(first|(with_reducible first|exact HB.o|apply af|apply aa|apply ag)|exact HB.o)⟩⟩
        ·rw[if_neg c9] at H
         exact absurd H (by simp)
       ·rw[if_neg c8] at H
        exact absurd H (by simp)
      ·rw[if_neg c7] at H
       exact absurd H (by simp)
     ·rw[if_neg c6] at H
      have c6b0:decide (x12_1 < (l0.length:Int))=false:=decide_eq_false c6
      clear c6
      obtain rfl:=Option.some.inj H
      go_wp2
      go_ret
      exact⟨_,by first|rfl|(simp[aj,ak] <;> rfl)|(simp[*,aj,ak] <;> rfl),by (with_reducible repeat(first|apply Kd.az|apply Kd.aA|apply Kd.aZ));exact HO_3.o,by repeat(first|(with_reducible first|exact HB.o|apply af|apply aa|apply ag)|exact HB.o)⟩
  ·rw[if_neg c3] at H
   exact absurd H (by simp)
 ·rw[if_neg c2] at H
  exact absurd H (by simp)
end Go.Proofs.YtjokedpaidmjoaaGreatDoor.Pa
