/- A part of the proof. -/
import Derived.Test.YtcmhfcciapenfaaDoorQ23
set_option linter.all false
namespace Go.Proofs.YtcmhfcciapenfaaDoor.Pa
open Go.RowKit Go.Proofs.YtcmhfcciapenfaaDoorW.PrintWords Go.Proofs.YtcmhfcciapenfaaDoorW.PrintLast Go.Proofs.YtcmhfcciapenfaaDoorW.PrintMore
attribute [local go_sem] bL bM bV bW bF bG bN bO
def pylonref09_Holds.j0:Nat → Int → Int → Int → Bool → Option (Bool)
 |0,_,_,_,_=>none
 |k+1,x5,x7,x9,x37=>if x37=true then (some false) else (if x7≤x9 then (if x5≥x7 then (some (decide (x5≤x9))) else (some false)) else (if x5≥x7 then (some true) else (some (decide (x5≤x9)))))
def pylonref09_Holds.f (k:Nat) (a0_0:ByteArray) (a0_1:Int) (a0_2:Int) (a1:Int):Option (Bool):=(pylonref09_Day.f k a1).bind fun bt166=>((pylonref09_Day.f k a0_1).bind fun bt168=>((pylonref09_Day.f k a0_2).bind fun bt170=>(if bt166.2=0 then (if bt168.2=0 then (pylonref09_Holds.j0 k bt166.1 bt168.1 bt170.1 (bt170.2 != 0)) else (pylonref09_Holds.j0 k bt166.1 bt168.1 bt170.1 true)) else (pylonref09_Holds.j0 k bt166.1 bt168.1 bt170.1 true))))
theorem pylonref09_Holds.mono_l : ∀ k,(∀ y0 y1 y2 y3,LeO (pylonref09_Holds.j0 k y0 y1 y2 y3) (pylonref09_Holds.j0 (k+1) y0 y1 y2 y3))
 |0=>fun _ _ _ _ r h=>by simp[pylonref09_Holds.j0] at h
 |k+1=>by
  have ih0:=pylonref09_Holds.mono_l k
  ·intro y0 y1 y2 y3
   unfold pylonref09_Holds.j0
   repeat' first
   |(with_reducible exact ih0 _ _ _ _)
   |(with_reducible exact pylonref09_Day.mono _ _)
   |(with_reducible exact LeO.refl _)
   |(with_reducible exact LeO.none _)
   |(with_reducible refine LeO.ite ?_ ?_)
   |(with_reducible refine LeO.bind ?_ (fun _=>?_))
   |exact ih0 _ _ _ _
   |exact pylonref09_Day.mono _ _
   |exact LeO.none _
   |refine LeO.ite ?_ ?_
   |refine LeO.bind ?_ (fun _=>?_)
theorem pylonref09_Holds.mono : ∀ a0 a1 a2 a3 k,LeO (pylonref09_Holds.f k a0 a1 a2 a3) (pylonref09_Holds.f (k+1) a0 a1 a2 a3):=by
 intro a0 a1 a2 a3 k
 have ih0:=pylonref09_Holds.mono_l k
 unfold pylonref09_Holds.f
 repeat' first
   |(with_reducible exact ih0 _ _ _ _)
   |(with_reducible exact pylonref09_Day.mono _ _)
   |(with_reducible exact LeO.refl _)
   |(with_reducible exact LeO.none _)
   |(with_reducible refine LeO.ite ?_ ?_)
   |(with_reducible refine LeO.bind ?_ (fun _=>?_))
   |exact ih0 _ _ _ _
   |exact pylonref09_Day.mono _ _
   |exact LeO.none _
   |refine LeO.ite ?_ ?_
   |refine LeO.bind ?_ (fun _=>?_)
set_option maxHeartbeats 8000000 in
set_option maxRecDepth 100000 in
theorem pylonref09_Holds.calls (k:Nat) (a0_0:ByteArray) (a0_1:Int) (a0_2:Int) (a1:Int) (r:Bool) (w:World) (h:pylonref09_Holds.f k a0_0 a0_1 a0_2 a1=some r) :
  Calls Tryd.prog 18 #[.agg #[.string a0_0,.int .i64 a0_1,.int .i64 a0_2],.int .i64 a1] w fun e w'=>e = .returned (.bool r)∧Below w.heap.size w w':=by
 have hu41:=Tryd.underlying41
 have HB:=ag.mk (Below.refl w.heap.size w)
 have H:((pylonref09_Day.f k a1).bind fun bt166=>((pylonref09_Day.f k a0_1).bind fun bt168=>((pylonref09_Day.f k a0_2).bind fun bt170=>(if bt166.2=0 then (if bt168.2=0 then (pylonref09_Holds.j0 k bt166.1 bt168.1 bt170.1 (bt170.2 != 0)) else (pylonref09_Holds.j0 k bt166.1 bt168.1 bt170.1 true)) else (pylonref09_Holds.j0 k bt166.1 bt168.1 bt170.1 true)))))=some r:=h
 clear h
 replace H:=Option.bind_eq_some_iff.mp H
 obtain⟨⟨t166,t167⟩,A30,H⟩:=H
 replace H:((pylonref09_Day.f k a0_1).bind fun bt168=>((pylonref09_Day.f k a0_2).bind fun bt170=>(if t167=0 then (if bt168.2=0 then (pylonref09_Holds.j0 k t166 bt168.1 bt170.1 (bt170.2 != 0)) else (pylonref09_Holds.j0 k t166 bt168.1 bt170.1 true)) else (pylonref09_Holds.j0 k t166 bt168.1 bt170.1 true))))=some r:=H
 have A3:=ag.mk A30
 clear A30
 replace H:=Option.bind_eq_some_iff.mp H
 obtain⟨⟨t168,t169⟩,A40,H⟩:=H
 replace H:((pylonref09_Day.f k a0_2).bind fun bt170=>(if t167=0 then (if t169=0 then (pylonref09_Holds.j0 k t166 t168 bt170.1 (bt170.2 != 0)) else (pylonref09_Holds.j0 k t166 t168 bt170.1 true)) else (pylonref09_Holds.j0 k t166 t168 bt170.1 true)))=some r:=H
 have A4:=ag.mk A40
 clear A40
 replace H:=Option.bind_eq_some_iff.mp H
 obtain⟨⟨t170,t171⟩,A50,H⟩:=H
 replace H:(if t167=0 then (if t169=0 then (pylonref09_Holds.j0 k t166 t168 t170 (t171 != 0)) else (pylonref09_Holds.j0 k t166 t168 t170 true)) else (pylonref09_Holds.j0 k t166 t168 t170 true))=some r:=H
 have A5:=ag.mk A50
 clear A50
 have HC6:=ag.mk H
 clear H
 go_enter Tryd.func18,Tryd.ntmps18
 go_upto_region 4 with (first|((with_reducible refine aM (N:=2) rfl ?_);refine aJ ?hg (N:=2) ?hd (cs:=#[.string a0_0,.int .i64 a0_1,.int .i64 a0_2]) (t:=41) ?hr ?_;(case hd=>rfl);(case hg=>rfl);(case hr=>first|(go_simp;done)|(go_simp;rfl));intro gb165 hg w7 hbox hb;have n0_:=ag.mk (aj (by repeat(first|(with_reducible first|exact HB.o|apply ae|apply aa|apply af)|exact HB.o)) hb);have n1_:=ag.mk (hbox);have n2_:=ag.mk ((by rw[hg];exact(ak (by repeat(first|(with_reducible first|exact HB.o|apply ae|apply aa|apply af)|exact HB.o))):w.heap.size≤gb165));have n3_:=ag.mk ((by rw[hg];exact(ak (by repeat(first|(with_reducible first|exact HB.o|apply ae|apply aa|apply af)|exact HB.o))):w.heap.size≤gb165));clear HB;have HB:=n0_;have BK165:=n1_;have GW165:=n2_;have GE165:=n3_;clear n0_ n1_ n2_ n3_;clear hb hbox hg)|((with_reducible refine aG (f:=15) rfl ?_);refine aU (some 13) rfl rfl Tryd.func15 (by kernel_rfl) rfl #[.int .i64 a1] rfl (by (try simp only[List.map_toArray,List.map_cons,List.map_nil]);first|done|rfl|(simp only[List.length_drop,List.length_take];rfl)) ?_;(with_reducible refine(pylonref09_Day.calls k a1 t166 t167 _ A3.o).mono ?_);rintro e w8 ⟨rfl,hb⟩;refine⟨_,rfl,?_⟩;have n0_:=ag.mk (aD (g:=gb165) (o:=.cells #[.string a0_0,.int .i64 a0_1,.int .i64 a0_2] 41 (0,0)) (by (with_reducible repeat(first|refine av ?_ _|refine ay ?_|refine au ?_ _));exact BK165.o) hb);have n1_:=ag.mk (aj (by repeat(first|(with_reducible first|exact HB.o|apply ae|apply aa|apply af|refine ax ?_ GE165.o)|exact HB.o)) hb);clear BK165;clear HB;have BK165:=n0_;have HB:=n1_;clear n0_ n1_;(try clear hb);(try clear hb2);(try clear hk);(try clear hi);have hcz9_0:w8.cell? ⟨gb165,0,none⟩=some (.string a0_0):=(ah BK165.o 0).trans rfl;have hcz9_1:w8.cell? ⟨gb165,1,none⟩=some (.int .i64 a0_1):=(ah BK165.o 1).trans rfl;have hcz9_2:w8.cell? ⟨gb165,2,none⟩=some (.int .i64 a0_2):=(ah BK165.o 2).trans rfl;have hfz9_0:=ai BK165.o 0;have hfz9_1:=ai BK165.o 1;have hfz9_2:=ai BK165.o 2)|((with_reducible refine aG (f:=15) rfl ?_);refine aU (some 19) rfl rfl Tryd.func15 (by kernel_rfl) rfl #[.int .i64 a0_1] rfl (by (try simp only[List.map_toArray,List.map_cons,List.map_nil]);first|done|rfl|(simp only[List.length_drop,List.length_take];rfl)) ?_;(with_reducible refine(pylonref09_Day.calls k a0_1 t168 t169 _ A4.o).mono ?_);rintro e w10 ⟨rfl,hb⟩;refine⟨_,rfl,?_⟩;have n0_:=ag.mk (aD (g:=gb165) (o:=.cells #[.string a0_0,.int .i64 a0_1,.int .i64 a0_2] 41 (0,0)) (by (with_reducible repeat(first|refine av ?_ _|refine ay ?_|refine au ?_ _));exact BK165.o) hb);have n1_:=ag.mk (aj (by repeat(first|(with_reducible first|exact HB.o|apply ae|apply aa|apply af|refine ax ?_ GE165.o)|exact HB.o)) hb);clear BK165;clear HB;have BK165:=n0_;have HB:=n1_;clear n0_ n1_;(try clear hb);(try clear hb2);(try clear hk);(try clear hi);have hcz11_0:w10.cell? ⟨gb165,0,none⟩=some (.string a0_0):=(ah BK165.o 0).trans rfl;have hcz11_1:w10.cell? ⟨gb165,1,none⟩=some (.int .i64 a0_1):=(ah BK165.o 1).trans rfl;have hcz11_2:w10.cell? ⟨gb165,2,none⟩=some (.int .i64 a0_2):=(ah BK165.o 2).trans rfl;have hfz11_0:=ai BK165.o 0;have hfz11_1:=ai BK165.o 1;have hfz11_2:=ai BK165.o 2)|((with_reducible refine aG (f:=15) rfl ?_);refine aU (some 25) rfl rfl Tryd.func15 (by kernel_rfl) rfl #[.int .i64 a0_2] rfl (by (try simp only[List.map_toArray,List.map_cons,List.map_nil]);first|done|rfl|(simp only[List.length_drop,List.length_take];rfl)) ?_;(with_reducible refine(pylonref09_Day.calls k a0_2 t170 t171 _ A5.o).mono ?_);rintro e w12 ⟨rfl,hb⟩;refine⟨_,rfl,?_⟩;have n0_:=ag.mk (aD (g:=gb165) (o:=.cells #[.string a0_0,.int .i64 a0_1,.int .i64 a0_2] 41 (0,0)) (by (with_reducible repeat(first|refine av ?_ _|refine ay ?_|refine au ?_ _));exact BK165.o) hb);have n1_:=ag.mk (aj (by repeat(first|(with_reducible first|exact HB.o|apply ae|apply aa|apply af|refine ax ?_ GE165.o)|exact HB.o)) hb);clear BK165;clear HB;have BK165:=n0_;have HB:=n1_;clear n0_ n1_;(try clear hb);(try clear hb2);(try clear hk);(try clear hi)))
 (try simp only[Act.put,List.setIfInBounds_toArray,List.set_cons_zero,List.set_cons_succ])
 go_cut [37] (fun v37 wc=>∃ (kq:Nat) (x37_5:Bool),v37 = .bool x37_5∧ag (pylonref09_Holds.j0 kq t166 t168 t170 x37_5=some r)∧ag (kq≤k)∧ag (wc.heap[gb165]? = some (.cells #[.string a0_0,.int .i64 a0_1,.int .i64 a0_2] 41 (0,0)))∧ag (Below w.heap.size w wc))
 case first=>
  have H:=HC6.o
  clear HC6
  by_cases c13:t167=0
  ·rw[if_pos c13] at H
   have c13b0:(t167 == 0)=true:=beq_iff_eq.mpr c13
   have c13b1:(t167 != 0)=false:=bne_eq_false_iff_eq.mpr c13
   clear c13
   (first|rw[c13b0]|(simp only[i64_w,i32_w];rw[c13b0])|skip)
   by_cases c14:t169=0
   ·rw[if_pos c14] at H
    have c14b0:(t169 == 0)=true:=beq_iff_eq.mpr c14
    have c14b1:(t169 != 0)=false:=bne_eq_false_iff_eq.mpr c14
    clear c14
    have H':=ag.mk H
    clear H
    go_wp2
    go_meet
    case rel=>exact⟨_,((t171 != 0)),(by first|rfl|(simp;done)|(simp[*];done)|(simp[aN];done)|(simp[aQ];done)),H',⟨by first|omega|exact Nat.le_refl _⟩,⟨by (with_reducible repeat(first|refine av ?_ _|refine ay ?_|refine au ?_ _));exact BK165.o⟩,⟨by repeat(first|(with_reducible first|exact HB.o|apply ae|apply aa|apply af|refine ax ?_ GE165.o)|exact HB.o)⟩⟩
   ·rw[if_neg c14] at H
    have c14b0:(t169 == 0)=false:=beq_eq_false_iff_ne.mpr c14
    have c14b1:(t169 != 0)=true:=bne_iff_ne.mpr c14
    have H':=ag.mk H
    clear H
    go_wp2
    go_meet
    case rel=>exact⟨_,(true),(by first|rfl|(simp;done)|(simp[*];done)|(simp[aN];done)|(simp[aQ];done)),H',⟨by first|omega|exact Nat.le_refl _⟩,⟨by (with_reducible repeat(first|refine av ?_ _|refine ay ?_|refine au ?_ _));exact BK165.o⟩,⟨by repeat(first|(with_reducible first|exact HB.o|apply ae|apply aa|apply af|refine ax ?_ GE165.o)|exact HB.o)⟩⟩
  ·rw[if_neg c13] at H
   have c13b0:(t167 == 0)=false:=beq_eq_false_iff_ne.mpr c13
   have c13b1:(t167 != 0)=true:=bne_iff_ne.mpr c13
   (first|rw[c13b0]|(simp only[i64_w,i32_w];rw[c13b0])|skip)
   have H':=ag.mk H
   clear H
   go_wp2
   go_meet
   case rel=>exact⟨_,(true),(by first|rfl|(simp;done)|(simp[*];done)|(simp[aN];done)|(simp[aQ];done)),H',⟨by first|omega|exact Nat.le_refl _⟩,⟨by (with_reducible repeat(first|refine av ?_ _|refine ay ?_|refine au ?_ _));exact BK165.o⟩,⟨by repeat(first|(with_reducible first|exact HB.o|apply ae|apply aa|apply af|refine ax ?_ GE165.o)|exact HB.o)⟩⟩
 case rest=>
  clear HC6
  try clear c1
  try clear p2
  try clear c13
  try clear c13b0
  try clear c13b1
  try clear c14
  try clear c14b0
  try clear c14b1
  try clear hcz11_0
  try clear hcz11_1
  try clear hcz11_2
  try clear hcz9_0
  try clear hcz9_1
  try clear hcz9_2
  try clear hfz11_0
  try clear hfz11_1
  try clear hfz11_2
  try clear hfz9_0
  try clear hfz9_1
  try clear hfz9_2
  obtain⟨kq,x37_5,rfl,HA,HJ5,BK165,HB⟩:=hcut
  cases kq with
  |zero=>exact absurd HA.o (by simp[pylonref09_Holds.j0])
  |succ kj5=>
   have H:=HA.o
   clear HA
   simp only[pylonref09_Holds.j0] at H
   by_cases c15:x37_5=true
   ·subst c15
    have H1:(some false)=some r:=by rw[if_pos rfl] at H;exact H
    clear H
    have H:=H1
    clear H1
    obtain rfl:=Option.some.inj H
    go_wp2
    go_ret
    exact⟨by first|rfl|(simp[az,aA] <;> rfl)|(simp[*,az,aA] <;> rfl),by repeat(first|(with_reducible first|exact HB.o|apply ae|apply aa|apply af|refine ax ?_ GE165.o)|exact HB.o)⟩
   ·replace c15:=Bool.eq_false_iff.mpr c15
    subst c15
    have H1:(if t168≤t170 then (if t166≥t168 then (some (decide (t166≤t170))) else (some false)) else (if t166≥t168 then (some true) else (some (decide (t166≤t170)))))=some r:=by rw[if_neg (show ¬ (false=true) by decide)] at H;exact H
    clear H
    have H:=H1
    clear H1
    by_cases c16:t168≤t170
    ·rw[if_pos c16] at H
     have c16b0:decide (t168≤t170)=true:=decide_eq_true c16
     clear c16
     by_cases c17:t166≥t168
     ·rw[if_pos c17] at H
      have c17b0:decide (t168≤t166)=true:=decide_eq_true c17
      clear c17
      obtain rfl:=Option.some.inj H
      go_wp2
      go_ret
      exact⟨by first|rfl|(simp[az,aA] <;> rfl)|(simp[*,az,aA] <;> rfl),by repeat(first|(with_reducible first|exact HB.o|apply ae|apply aa|apply af|refine ax ?_ GE165.o)|exact HB.o)⟩
     ·rw[if_neg c17] at H
      have c17b0:decide (t168≤t166)=false:=decide_eq_false c17
      clear c17
      obtain rfl:=Option.some.inj H
      go_wp2
      go_ret
      exact⟨by first|rfl|(simp[az,aA] <;> rfl)|(simp[*,az,aA] <;> rfl),by repeat(first|(with_reducible first|exact HB.o|apply ae|apply aa|apply af|refine ax ?_ GE165.o)|exact HB.o)⟩
    ·rw[if_neg c16] at H
     have c16b0:decide (t168≤t170)=false:=decide_eq_false c16
     clear c16
     by_cases c18:t166≥t168
     ·rw[if_pos c18] at H
      have c18b0:decide (t168≤t166)=true:=decide_eq_true c18
      clear c18
      obtain rfl:=Option.some.inj H
      go_wp2
      go_ret
      exact⟨by first|rfl|(simp[az,aA] <;> rfl)|(simp[*,az,aA] <;> rfl),by repeat(first|(with_reducible first|exact HB.o|apply ae|apply aa|apply af|refine ax ?_ GE165.o)|exact HB.o)⟩
     ·rw[if_neg c18] at H
      have c18b0:decide (t168≤t166)=false:=decide_eq_false c18
      clear c18
      obtain rfl:=Option.some.inj H
      go_wp2
      go_ret
      exact⟨by first|rfl|(simp[az,aA] <;> rfl)|(simp[*,az,aA] <;> rfl),by repeat(first|(with_reducible first|exact HB.o|apply ae|apply aa|apply af|refine ax ?_ GE165.o)|exact HB.o)⟩
def pylonref06_Of.l0:Nat → ByteArray → Int → Int → Option (Bool)
 |0,_,_,_=>none
 |k+1,x0,x1,x5=>if x5 < (x0.size:Int) then (if 0≤x5 then (if (bt x0 x5)≥97 then (if (bt x0 x5)≤122 then (pylonref06_Of.l0 k x0 x1 (wrap64 (x5+1))) else (if (bt x0 x5)≥48 then (if (bt x0 x5)≤57 then (pylonref06_Of.l0 k x0 x1 (wrap64 (x5+1))) else (if (bt x0 x5)=95 then (pylonref06_Of.l0 k x0 x1 (wrap64 (x5+1))) else (if ((bt x0 x5)=45) then (pylonref06_Of.l0 k x0 x1 (wrap64 (x5+1))) else (some false)))) else (if (bt x0 x5)=95 then (pylonref06_Of.l0 k x0 x1 (wrap64 (x5+1))) else (if ((bt x0 x5)=45) then (pylonref06_Of.l0 k x0 x1 (wrap64 (x5+1))) else (some false))))) else (if (bt x0 x5)≥48 then (if (bt x0 x5)≤57 then (pylonref06_Of.l0 k x0 x1 (wrap64 (x5+1))) else (if (bt x0 x5)=95 then (pylonref06_Of.l0 k x0 x1 (wrap64 (x5+1))) else (if ((bt x0 x5)=45) then (pylonref06_Of.l0 k x0 x1 (wrap64 (x5+1))) else (some false)))) else (if (bt x0 x5)=95 then (pylonref06_Of.l0 k x0 x1 (wrap64 (x5+1))) else (if ((bt x0 x5)=45) then (pylonref06_Of.l0 k x0 x1 (wrap64 (x5+1))) else (some false))))) else (none)) else (if (x0.size:Int)≥1 then (some (decide ((x0.size:Int)≤x1))) else (some false))
def pylonref06_Of.f (k:Nat) (a0:ByteArray) (a1:Int):Option (Bool):=pylonref06_Of.l0 k a0 a1 0
theorem pylonref06_Of.mono_l : ∀ k,(∀ y0 y1 y2,LeO (pylonref06_Of.l0 k y0 y1 y2) (pylonref06_Of.l0 (k+1) y0 y1 y2))
 |0=>fun _ _ _ r h=>by simp[pylonref06_Of.l0] at h
 |k+1=>by
  have ih0:=pylonref06_Of.mono_l k
  ·intro y0 y1 y2
   unfold pylonref06_Of.l0
   repeat' first
   |(with_reducible exact ih0 _ _ _)
   |(with_reducible exact LeO.refl _)
   |(with_reducible exact LeO.none _)
   |(with_reducible refine LeO.ite ?_ ?_)
   |(with_reducible refine LeO.bind ?_ (fun _=>?_))
   |exact ih0 _ _ _
   |exact LeO.none _
   |refine LeO.ite ?_ ?_
   |refine LeO.bind ?_ (fun _=>?_)
theorem pylonref06_Of.mono : ∀ a0 a1 k,LeO (pylonref06_Of.f k a0 a1) (pylonref06_Of.f (k+1) a0 a1):=by
 intro a0 a1 k
 have ih0:=pylonref06_Of.mono_l k
 unfold pylonref06_Of.f
 repeat' first
   |(with_reducible exact ih0 _ _ _)
   |(with_reducible exact LeO.refl _)
   |(with_reducible exact LeO.none _)
   |(with_reducible refine LeO.ite ?_ ?_)
   |(with_reducible refine LeO.bind ?_ (fun _=>?_))
   |exact ih0 _ _ _
   |exact LeO.none _
   |refine LeO.ite ?_ ?_
   |refine LeO.bind ?_ (fun _=>?_)
set_option maxHeartbeats 8000000 in
set_option maxRecDepth 100000 in
theorem pylonref06_Of.calls (k:Nat) (a0:ByteArray) (a1:Int) (r:Bool) (w:World) (h:pylonref06_Of.f k a0 a1=some r) :
  Calls Tryd.prog 38 #[.string a0,.int .i64 a1] w fun e w'=>e = .returned (.bool r)∧aT w w':=by
 have H:(pylonref06_Of.l0 k a0 a1 0)=some r:=h
 clear h
 have H':=ag.mk H
 clear H
 go_enter Tryd.func38,Tryd.ntmps38
 go_wp2
 go_loopg [5] k (fun kq v5 w'=>∃ (x5_1:Int),v5 = .int .i64 x5_1∧ag (pylonref06_Of.l0 kq a0 a1 x5_1=some r)∧ag (kq≤k)∧aT w w')
 case atStart=>exact⟨(0),(by first|rfl|(simp;done)|(simp[*];done)|(simp[aN];done)|(simp[aQ];done)),H',⟨Nat.le_refl _⟩,by repeat(first|exact aT.refl _|apply aT.step)⟩
 case round=>
  clear H'
  try clear p2
  obtain⟨x5_1,rfl,HA,HK1,⟨m1,rfl⟩⟩:=hrel
  cases gk with
  |zero=>exact absurd HA.o (by simp[pylonref06_Of.l0])
  |succ k1=>
   have H:=HA.o
   clear HA
   simp only[pylonref06_Of.l0] at H
   by_cases c3:x5_1 < (a0.size:Int)
   ·rw[if_pos c3] at H
    have c3b0:decide (x5_1 < (a0.size:Int))=true:=decide_eq_true c3
    clear c3
    by_cases c4:0≤x5_1
    ·rw[if_pos c4] at H
     have c4b0:decide (0≤x5_1)=true:=decide_eq_true c4
     clear c4
     by_cases c6:(bt a0 x5_1)≥97
     ·rw[if_pos c6] at H
      have c6b0:decide (97≤(bt a0 x5_1))=true:=decide_eq_true c6
      clear c6
      by_cases c7:(bt a0 x5_1)≤122
      ·rw[if_pos c7] at H
       have c7b0:decide ((bt a0 x5_1)≤122)=true:=decide_eq_true c7
       clear c7
       have H':=ag.mk H
       clear H
       have p5:0≤(x5_1:Int):=of_decide_eq_true (by first|(with_reducible assumption)|assumption)
       have q5:x5_1 < (a0.size:Int):=of_decide_eq_true (by first|(with_reducible assumption)|assumption)
       have hx5:=bt_at a0 x5_1
       replace p5:=eq_true p5
       replace q5:=eq_true q5
       go_wp2
       go_roundg k1
       case measure=>have:=HK1.o;omega
       case rel=>exact⟨(wrap64 (x5_1+1)),(by first|rfl|(simp;done)|(simp[*];done)|(simp[aN];done)|(simp[aQ];done)),H',⟨by have:=HK1.o;omega⟩,by repeat(first|exact aT.refl _|apply aT.step)⟩
      ·rw[if_neg c7] at H
       have c7b0:decide ((bt a0 x5_1)≤122)=false:=decide_eq_false c7
       clear c7
       by_cases c8:(bt a0 x5_1)≥48
       ·rw[if_pos c8] at H
        have c8b0:decide (48≤(bt a0 x5_1))=true:=decide_eq_true c8
        clear c8
        by_cases c9:(bt a0 x5_1)≤57
        ·rw[if_pos c9] at H
         have c9b0:decide ((bt a0 x5_1)≤57)=true:=decide_eq_true c9
         clear c9
         have H':=ag.mk H
         clear H
         have p5:0≤(x5_1:Int):=of_decide_eq_true (by first|(with_reducible assumption)|assumption)
         have q5:x5_1 < (a0.size:Int):=of_decide_eq_true (by first|(with_reducible assumption)|assumption)
         have hx5:=bt_at a0 x5_1
         replace p5:=eq_true p5
         replace q5:=eq_true q5
         go_wp2
         go_roundg k1
         case measure=>have:=HK1.o;omega
         case rel=>exact⟨(wrap64 (x5_1+1)),(by first|rfl|(simp;done)|(simp[*];done)|(simp[aN];done)|(simp[aQ];done)),H',⟨by have:=HK1.o;omega⟩,by repeat(first|exact aT.refl _|apply aT.step)⟩
        ·rw[if_neg c9] at H
         have c9b0:decide ((bt a0 x5_1)≤57)=false:=decide_eq_false c9
         clear c9
         by_cases c10:(bt a0 x5_1)=95
         ·rw[if_pos c10] at H
          have c10b0:((bt a0 x5_1) == 95)=true:=beq_iff_eq.mpr c10
          have c10b1:((bt a0 x5_1) != 95)=false:=bne_eq_false_iff_eq.mpr c10
          clear c10
          have H':=ag.mk H
          clear H
          have p5:0≤(x5_1:Int):=of_decide_eq_true (by first|(with_reducible assumption)|assumption)
          have q5:x5_1 < (a0.size:Int):=of_decide_eq_true (by first|(with_reducible assumption)|assumption)
          have hx5:=bt_at a0 x5_1
          replace p5:=eq_true p5
          replace q5:=eq_true q5
          go_wp2
          go_roundg k1
          case measure=>have:=HK1.o;omega
          case rel=>exact⟨(wrap64 (x5_1+1)),(by first|rfl|(simp;done)|(simp[*];done)|(simp[aN];done)|(simp[aQ];done)),H',⟨by have:=HK1.o;omega⟩,by repeat(first|exact aT.refl _|apply aT.step)⟩
         ·rw[if_neg c10] at H
          have c10b0:((bt a0 x5_1) == 95)=false:=beq_eq_false_iff_ne.mpr c10
          have c10b1:((bt a0 x5_1) != 95)=true:=bne_iff_ne.mpr c10
          by_cases c11:((bt a0 x5_1)=45)
          ·rw[if_pos c11] at H
           have c11b0:((bt a0 x5_1) == 45)=true:=beq_iff_eq.mpr c11
           have c11b1:((bt a0 x5_1) != 45)=false:=bne_eq_false_iff_eq.mpr c11
           clear c11
           have H':=ag.mk H
           clear H
           have p5:0≤(x5_1:Int):=of_decide_eq_true (by first|(with_reducible assumption)|assumption)
           have q5:x5_1 < (a0.size:Int):=of_decide_eq_true (by first|(with_reducible assumption)|assumption)
           have hx5:=bt_at a0 x5_1
           replace p5:=eq_true p5
           replace q5:=eq_true q5
           go_wp2
           go_roundg k1
           case measure=>have:=HK1.o;omega
           case rel=>exact⟨(wrap64 (x5_1+1)),(by first|rfl|(simp;done)|(simp[*];done)|(simp[aN];done)|(simp[aQ];done)),H',⟨by have:=HK1.o;omega⟩,by repeat(first|exact aT.refl _|apply aT.step)⟩
          ·rw[if_neg c11] at H
           have c11b0:((bt a0 x5_1) == 45)=false:=beq_eq_false_iff_ne.mpr c11
           have c11b1:((bt a0 x5_1) != 45)=true:=bne_iff_ne.mpr c11
           obtain rfl:=Option.some.inj H
           have p5:0≤(x5_1:Int):=of_decide_eq_true (by first|(with_reducible assumption)|assumption)
           have q5:x5_1 < (a0.size:Int):=of_decide_eq_true (by first|(with_reducible assumption)|assumption)
           have hx5:=bt_at a0 x5_1
           replace p5:=eq_true p5
           replace q5:=eq_true q5
           go_wp2
           go_ret
           exact⟨by first|rfl|(simp;done)|(simp[*];done),by repeat(first|exact aT.refl _|apply aT.step)⟩
       ·rw[if_neg c8] at H
        have c8b0:decide (48≤(bt a0 x5_1))=false:=decide_eq_false c8
        clear c8
        by_cases c12:(bt a0 x5_1)=95
        ·rw[if_pos c12] at H
         have c12b0:((bt a0 x5_1) == 95)=true:=beq_iff_eq.mpr c12
         have c12b1:((bt a0 x5_1) != 95)=false:=bne_eq_false_iff_eq.mpr c12
         clear c12
         have H':=ag.mk H
         clear H
         have p5:0≤(x5_1:Int):=of_decide_eq_true (by first|(with_reducible assumption)|assumption)
         have q5:x5_1 < (a0.size:Int):=of_decide_eq_true (by first|(with_reducible assumption)|assumption)
         have hx5:=bt_at a0 x5_1
         replace p5:=eq_true p5
         replace q5:=eq_true q5
         go_wp2
         go_roundg k1
         case measure=>have:=HK1.o;omega
         case rel=>exact⟨(wrap64 (x5_1+1)),(by first|rfl|(simp;done)|(simp[*];done)|(simp[aN];done)|(simp[aQ];done)),H',⟨by have:=HK1.o;omega⟩,by repeat(first|exact aT.refl _|apply aT.step)⟩
        ·rw[if_neg c12] at H
         have c12b0:((bt a0 x5_1) == 95)=false:=beq_eq_false_iff_ne.mpr c12
         have c12b1:((bt a0 x5_1) != 95)=true:=bne_iff_ne.mpr c12
         by_cases c13:((bt a0 x5_1)=45)
         ·rw[if_pos c13] at H
          have c13b0:((bt a0 x5_1) == 45)=true:=beq_iff_eq.mpr c13
          have c13b1:((bt a0 x5_1) != 45)=false:=bne_eq_false_iff_eq.mpr c13
          clear c13
          have H':=ag.mk H
          clear H
          have p5:0≤(x5_1:Int):=of_decide_eq_true (by first|(with_reducible assumption)|assumption)
          have q5:x5_1 < (a0.size:Int):=of_decide_eq_true (by first|(with_reducible assumption)|assumption)
          have hx5:=bt_at a0 x5_1
          replace p5:=eq_true p5
          replace q5:=eq_true q5
          go_wp2
          go_roundg k1
          case measure=>have:=HK1.o;omega
          case rel=>exact⟨(wrap64 (x5_1+1)),(by first|rfl|(simp;done)|(simp[*];done)|(simp[aN];done)|(simp[aQ];done)),H',⟨by have:=HK1.o;omega⟩,by repeat(first|exact aT.refl _|apply aT.step)⟩
         ·rw[if_neg c13] at H
          have c13b0:((bt a0 x5_1) == 45)=false:=beq_eq_false_iff_ne.mpr c13
          have c13b1:((bt a0 x5_1) != 45)=true:=bne_iff_ne.mpr c13
          obtain rfl:=Option.some.inj H
          have p5:0≤(x5_1:Int):=of_decide_eq_true (by first|(with_reducible assumption)|assumption)
          have q5:x5_1 < (a0.size:Int):=of_decide_eq_true (by first|(with_reducible assumption)|assumption)
          have hx5:=bt_at a0 x5_1
          replace p5:=eq_true p5
          replace q5:=eq_true q5
          go_wp2
          go_ret
          exact⟨by first|rfl|(simp;done)|(simp[*];done),by repeat(first|exact aT.refl _|apply aT.step)⟩
     ·rw[if_neg c6] at H
      have c6b0:decide (97≤(bt a0 x5_1))=false:=decide_eq_false c6
      clear c6
      by_cases c14:(bt a0 x5_1)≥48
      ·rw[if_pos c14] at H
       have c14b0:decide (48≤(bt a0 x5_1))=true:=decide_eq_true c14
       clear c14
       by_cases c15:(bt a0 x5_1)≤57
       ·rw[if_pos c15] at H
        have c15b0:decide ((bt a0 x5_1)≤57)=true:=decide_eq_true c15
        clear c15
        have H':=ag.mk H
        clear H
        have p5:0≤(x5_1:Int):=of_decide_eq_true (by first|(with_reducible assumption)|assumption)
        have q5:x5_1 < (a0.size:Int):=of_decide_eq_true (by first|(with_reducible assumption)|assumption)
        have hx5:=bt_at a0 x5_1
        replace p5:=eq_true p5
        replace q5:=eq_true q5
        go_wp2
        go_roundg k1
        case measure=>have:=HK1.o;omega
        case rel=>exact⟨(wrap64 (x5_1+1)),(by first|rfl|(simp;done)|(simp[*];done)|(simp[aN];done)|(simp[aQ];done)),H',⟨by have:=HK1.o;omega⟩,by repeat(first|exact aT.refl _|apply aT.step)⟩
       ·rw[if_neg c15] at H
        have c15b0:decide ((bt a0 x5_1)≤57)=false:=decide_eq_false c15
        clear c15
        by_cases c16:(bt a0 x5_1)=95
        ·rw[if_pos c16] at H
         have c16b0:((bt a0 x5_1) == 95)=true:=beq_iff_eq.mpr c16
         have c16b1:((bt a0 x5_1) != 95)=false:=bne_eq_false_iff_eq.mpr c16
         clear c16
         have H':=ag.mk H
         clear H
         have p5:0≤(x5_1:Int):=of_decide_eq_true (by first|(with_reducible assumption)|assumption)
         have q5:x5_1 < (a0.size:Int):=of_decide_eq_true (by first|(with_reducible assumption)|assumption)
         have hx5:=bt_at a0 x5_1
         replace p5:=eq_true p5
         replace q5:=eq_true q5
         go_wp2
         go_roundg k1
         case measure=>have:=HK1.o;omega
         case rel=>exact⟨(wrap64 (x5_1+1)),(by first|rfl|(simp;done)|(simp[*];done)|(simp[aN];done)|(simp[aQ];done)),H',⟨by have:=HK1.o;omega⟩,by repeat(first|exact aT.refl _|apply aT.step)⟩
        ·rw[if_neg c16] at H
         have c16b0:((bt a0 x5_1) == 95)=false:=beq_eq_false_iff_ne.mpr c16
         have c16b1:((bt a0 x5_1) != 95)=true:=bne_iff_ne.mpr c16
         by_cases c17:((bt a0 x5_1)=45)
         ·rw[if_pos c17] at H
          have c17b0:((bt a0 x5_1) == 45)=true:=beq_iff_eq.mpr c17
          have c17b1:((bt a0 x5_1) != 45)=false:=bne_eq_false_iff_eq.mpr c17
          clear c17
          have H':=ag.mk H
          clear H
          have p5:0≤(x5_1:Int):=of_decide_eq_true (by first|(with_reducible assumption)|assumption)
          have q5:x5_1 < (a0.size:Int):=of_decide_eq_true (by first|(with_reducible assumption)|assumption)
          have hx5:=bt_at a0 x5_1
          replace p5:=eq_true p5
          replace q5:=eq_true q5
          go_wp2
          go_roundg k1
          case measure=>have:=HK1.o;omega
          case rel=>exact⟨(wrap64 (x5_1+1)),(by first|rfl|(simp;done)|(simp[*];done)|(simp[aN];done)|(simp[aQ];done)),H',⟨by have:=HK1.o;omega⟩,by repeat(first|exact aT.refl _|apply aT.step)⟩
         ·rw[if_neg c17] at H
          have c17b0:((bt a0 x5_1) == 45)=false:=beq_eq_false_iff_ne.mpr c17
          have c17b1:((bt a0 x5_1) != 45)=true:=bne_iff_ne.mpr c17
          obtain rfl:=Option.some.inj H
          have p5:0≤(x5_1:Int):=of_decide_eq_true (by first|(with_reducible assumption)|assumption)
          have q5:x5_1 < (a0.size:Int):=of_decide_eq_true (by first|(with_reducible assumption)|assumption)
          have hx5:=bt_at a0 x5_1
          replace p5:=eq_true p5
          replace q5:=eq_true q5
          go_wp2
          go_ret
          exact⟨by first|rfl|(simp;done)|(simp[*];done),by repeat(first|exact aT.refl _|apply aT.step)⟩
      ·rw[if_neg c14] at H
       have c14b0:decide (48≤(bt a0 x5_1))=false:=decide_eq_false c14
       clear c14
       by_cases c18:(bt a0 x5_1)=95
       ·rw[if_pos c18] at H
        have c18b0:((bt a0 x5_1) == 95)=true:=beq_iff_eq.mpr c18
        have c18b1:((bt a0 x5_1) != 95)=false:=bne_eq_false_iff_eq.mpr c18
        clear c18
        have H':=ag.mk H
        clear H
        have p5:0≤(x5_1:Int):=of_decide_eq_true (by first|(with_reducible assumption)|assumption)
        have q5:x5_1 < (a0.size:Int):=of_decide_eq_true (by first|(with_reducible assumption)|assumption)
        have hx5:=bt_at a0 x5_1
        replace p5:=eq_true p5
        replace q5:=eq_true q5
        go_wp2
        go_roundg k1
        case measure=>have:=HK1.o;omega
        case rel=>exact⟨(wrap64 (x5_1+1)),(by first|rfl|(simp;done)|(simp[*];done)|(simp[aN];done)|(simp[aQ];done)),H',⟨by have:=HK1.o;omega⟩,by repeat(first|exact aT.refl _|apply aT.step)⟩
       ·rw[if_neg c18] at H
        have c18b0:((bt a0 x5_1) == 95)=false:=beq_eq_false_iff_ne.mpr c18
        have c18b1:((bt a0 x5_1) != 95)=true:=bne_iff_ne.mpr c18
        by_cases c19:((bt a0 x5_1)=45)
        ·rw[if_pos c19] at H
         have c19b0:((bt a0 x5_1) == 45)=true:=beq_iff_eq.mpr c19
         have c19b1:((bt a0 x5_1) != 45)=false:=bne_eq_false_iff_eq.mpr c19
         clear c19
         have H':=ag.mk H
         clear H
         have p5:0≤(x5_1:Int):=of_decide_eq_true (by first|(with_reducible assumption)|assumption)
         have q5:x5_1 < (a0.size:Int):=of_decide_eq_true (by first|(with_reducible assumption)|assumption)
         have hx5:=bt_at a0 x5_1
         replace p5:=eq_true p5
         replace q5:=eq_true q5
         go_wp2
         go_roundg k1
         case measure=>have:=HK1.o;omega
         case rel=>exact⟨(wrap64 (x5_1+1)),(by first|rfl|(simp;done)|(simp[*];done)|(simp[aN];done)|(simp[aQ];done)),H',⟨by have:=HK1.o;omega⟩,by repeat(first|exact aT.refl _|apply aT.step)⟩
        ·rw[if_neg c19] at H
         have c19b0:((bt a0 x5_1) == 45)=false:=beq_eq_false_iff_ne.mpr c19
         have c19b1:((bt a0 x5_1) != 45)=true:=bne_iff_ne.mpr c19
         obtain rfl:=Option.some.inj H
         have p5:0≤(x5_1:Int):=of_decide_eq_true (by first|(with_reducible assumption)|assumption)
         have q5:x5_1 < (a0.size:Int):=of_decide_eq_true (by first|(with_reducible assumption)|assumption)
         have hx5:=bt_at a0 x5_1
         replace p5:=eq_true p5
         replace q5:=eq_true q5
         go_wp2
         go_ret
         exact⟨by first|rfl|(simp;done)|(simp[*];done),by repeat(first|exact aT.refl _|apply aT.step)⟩
    ·rw[if_neg c4] at H
     exact absurd H (by simp)
   ·rw[if_neg c3] at H
    have c3b0:decide (x5_1 < (a0.size:Int))=false:=decide_eq_false c3
    clear c3
    by_cases c20:(a0.size:Int)≥1
    ·rw[if_pos c20] at H
     have c20b0:decide (1≤(a0.size:Int))=true:=decide_eq_true c20
     have c20b1:decide (1≤a0.size)=true:=decide_eq_true (by omega)
     clear c20
     obtain rfl:=Option.some.inj H
     go_wp2
     go_ret
     exact⟨by first|rfl|(simp;done)|(simp[*];done),by repeat(first|exact aT.refl _|apply aT.step)⟩
    ·rw[if_neg c20] at H
     have c20b0:decide (1≤(a0.size:Int))=false:=decide_eq_false c20
     have c20b1:decide (1≤a0.size)=false:=decide_eq_false (by omega)
     clear c20
     obtain rfl:=Option.some.inj H
     go_wp2
     go_ret
     exact⟨by first|rfl|(simp;done)|(simp[*];done),by repeat(first|exact aT.refl _|apply aT.step)⟩
def pylonref06_Name.f (k:Nat) (a0:ByteArray):Option (Bool):=(pylonref06_Of.f k a0 24).bind fun t172=>(if t172=true then (if 0 < (a0.size:Int) then (if (bt a0 0)≥97 then (some (decide ((bt a0 0)≤122))) else (some false)) else (none)) else (some false))
theorem pylonref06_Name.mono : ∀ a0 k,LeO (pylonref06_Name.f k a0) (pylonref06_Name.f (k+1) a0):=by
 intro a0 k
 unfold pylonref06_Name.f
 repeat' first
   |(with_reducible exact pylonref06_Of.mono _ _ _)
   |(with_reducible exact LeO.refl _)
   |(with_reducible exact LeO.none _)
   |(with_reducible refine LeO.ite ?_ ?_)
   |(with_reducible refine LeO.bind ?_ (fun _=>?_))
   |exact pylonref06_Of.mono _ _ _
   |exact LeO.none _
   |refine LeO.ite ?_ ?_
   |refine LeO.bind ?_ (fun _=>?_)
set_option maxHeartbeats 8000000 in
set_option maxRecDepth 100000 in
theorem pylonref06_Name.calls (k:Nat) (a0:ByteArray) (r:Bool) (w:World) (h:pylonref06_Name.f k a0=some r) :
  Calls Tryd.prog 21 #[.string a0] w fun e w'=>e = .returned (.bool r)∧aT w w':=by
 have H:((pylonref06_Of.f k a0 24).bind fun t172=>(if t172=true then (if 0 < (a0.size:Int) then (if (bt a0 0)≥97 then (some (decide ((bt a0 0)≤122))) else (some false)) else (none)) else (some false)))=some r:=h
 clear h
 replace H:=Option.bind_eq_some_iff.mp H
 obtain⟨t172,A20,H⟩:=H
 replace H:(if t172=true then (if 0 < (a0.size:Int) then (if (bt a0 0)≥97 then (some (decide ((bt a0 0)≤122))) else (some false)) else (none)) else (some false))=some r:=H
 have A2:=ag.mk A20
 clear A20
 by_cases c3:t172=true
 ·subst c3
  have H1:(if 0 < (a0.size:Int) then (if (bt a0 0)≥97 then (some (decide ((bt a0 0)≤122))) else (some false)) else (none))=some r:=by rw[if_pos rfl] at H;exact H
  clear H
  have H:=H1
  clear H1
  by_cases c4:0 < (a0.size:Int)
  ·rw[if_pos c4] at H
   have c4b0:decide (0 < (a0.size:Int))=true:=decide_eq_true c4
   have c4b1:decide (0 < a0.size)=true:=decide_eq_true (by omega)
   clear c4
   by_cases c6:(bt a0 0)≥97
   ·rw[if_pos c6] at H
    have c6b0:decide (97≤(bt a0 0))=true:=decide_eq_true c6
    clear c6
    obtain rfl:=Option.some.inj H
    go_enter Tryd.func21,Tryd.ntmps21
    go_wp2_with (first|((with_reducible refine aG (f:=38) rfl ?_);refine aU (some 4) rfl rfl Tryd.func38 (by kernel_rfl) rfl #[.string a0,.int .i64 24] rfl (by (try simp only[List.map_toArray,List.map_cons,List.map_nil]);first|done|rfl|(simp only[List.length_drop,List.length_take];rfl)) ?_;(with_reducible refine(pylonref06_Of.calls k a0 24 true _ A2.o).mono ?_);rintro e w' ⟨rfl,⟨nd,rfl⟩⟩;refine⟨_,rfl,?_⟩;have p5:0≤(0:Int):=(by omega);have q5:0 < a0.size:=(by have:(0:Int) < (a0.size:Int):=of_decide_eq_true (by first|(with_reducible assumption)|assumption);omega);have hx5 : ∀ h:0 < a0.size,((a0[0]'h).toNat:Int)=bt a0 0:=bt_at a0 0;clear p5;have qi5:(0 < (a0.size:Int))=True:=eq_true (of_decide_eq_true (by first|(with_reducible assumption)|assumption));replace q5:=eq_true q5;have p7:0≤(0:Int):=(by omega);have q7:0 < a0.size:=(by have:(0:Int) < (a0.size:Int):=of_decide_eq_true (by first|(with_reducible assumption)|assumption);omega);have hx7 : ∀ h:0 < a0.size,((a0[0]'h).toNat:Int)=bt a0 0:=bt_at a0 0;clear p7;have qi7:(0 < (a0.size:Int))=True:=eq_true (of_decide_eq_true (by first|(with_reducible assumption)|assumption));replace q7:=eq_true q7))
    go_ret
    exact⟨by first|rfl|(simp;done)|(simp[*];done),by repeat(first|exact aT.refl _|apply aT.step)⟩
   ·rw[if_neg c6] at H
    have c6b0:decide (97≤(bt a0 0))=false:=decide_eq_false c6
    clear c6
    obtain rfl:=Option.some.inj H
    go_enter Tryd.func21,Tryd.ntmps21
    go_wp2_with (first|((with_reducible refine aG (f:=38) rfl ?_);refine aU (some 4) rfl rfl Tryd.func38 (by kernel_rfl) rfl #[.string a0,.int .i64 24] rfl (by (try simp only[List.map_toArray,List.map_cons,List.map_nil]);first|done|rfl|(simp only[List.length_drop,List.length_take];rfl)) ?_;(with_reducible refine(pylonref06_Of.calls k a0 24 true _ A2.o).mono ?_);rintro e w' ⟨rfl,⟨nd,rfl⟩⟩;refine⟨_,rfl,?_⟩;have p5:0≤(0:Int):=(by omega);have q5:0 < a0.size:=(by have:(0:Int) < (a0.size:Int):=of_decide_eq_true (by first|(with_reducible assumption)|assumption);omega);have hx5 : ∀ h:0 < a0.size,((a0[0]'h).toNat:Int)=bt a0 0:=bt_at a0 0;clear p5;have qi5:(0 < (a0.size:Int))=True:=eq_true (of_decide_eq_true (by first|(with_reducible assumption)|assumption));replace q5:=eq_true q5))
    go_ret
    exact⟨by first|rfl|(simp;done)|(simp[*];done),by repeat(first|exact aT.refl _|apply aT.step)⟩
  ·rw[if_neg c4] at H
   exact absurd H (by simp)
 ·replace c3:=Bool.eq_false_iff.mpr c3
  subst c3
  have H1:(some false)=some r:=by rw[if_neg (show ¬ (false=true) by decide)] at H;exact H
  clear H
  have H:=H1
  clear H1
  obtain rfl:=Option.some.inj H
  go_enter Tryd.func21,Tryd.ntmps21
  go_wp2_with (first|((with_reducible refine aG (f:=38) rfl ?_);refine aU (some 4) rfl rfl Tryd.func38 (by kernel_rfl) rfl #[.string a0,.int .i64 24] rfl (by (try simp only[List.map_toArray,List.map_cons,List.map_nil]);first|done|rfl|(simp only[List.length_drop,List.length_take];rfl)) ?_;(with_reducible refine(pylonref06_Of.calls k a0 24 false _ A2.o).mono ?_);rintro e w' ⟨rfl,⟨nd,rfl⟩⟩;refine⟨_,rfl,?_⟩))
  go_ret
  exact⟨by first|rfl|(simp;done)|(simp[*];done),by repeat(first|exact aT.refl _|apply aT.step)⟩
end Go.Proofs.YtcmhfcciapenfaaDoor.Pa
