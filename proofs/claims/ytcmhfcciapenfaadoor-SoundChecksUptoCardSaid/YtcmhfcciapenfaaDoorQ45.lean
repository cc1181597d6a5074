/- A part of the proof. -/
import Derived.Test.YtcmhfcciapenfaaDoorQ44
set_option linter.all false
namespace Go.Proofs.YtcmhfcciapenfaaDoor.Pa
open Go.RowKit Go.Proofs.YtcmhfcciapenfaaDoorW.PrintWords Go.Proofs.YtcmhfcciapenfaaDoorW.PrintLast Go.Proofs.YtcmhfcciapenfaaDoorW.PrintMore
attribute [local go_sem] bL bM bV bW bF bG bN bO
def pylonlaw09_SoundDays.f (k:Nat) (a0_0:ByteArray) (a0_1:Int) (a0_2:Int) (a1:Int):Option (Bool):=(pylonlaw09_awake.f).bind fun t193=>(if t193=true then ((pylonref09_Day.f k a1).bind fun bt194=>((sound_Day.f a1).bind fun bt196=>(if bt196.1=bt194.1 then (if bt196.2=bt194.2 then ((sound_Holds.f k a0_0 a0_1 a0_2 a1).bind fun t198=>((pylonref09_Holds.f k a0_0 a0_1 a0_2 a1).bind fun t199=>(some (t198 == t199)))) else (some false)) else (some false)))) else (some false))
theorem pylonlaw09_SoundDays.mono : ∀ a0 a1 a2 a3 k,LeO (pylonlaw09_SoundDays.f k a0 a1 a2 a3) (pylonlaw09_SoundDays.f (k+1) a0 a1 a2 a3):=by
 intro a0 a1 a2 a3 k
 unfold pylonlaw09_SoundDays.f
 repeat' first
   |(with_reducible exact pylonref09_Day.mono _ _)
   |(with_reducible exact pylonref09_Holds.mono _ _ _ _ _)
   |(with_reducible exact sound_Holds.mono _ _ _ _ _)
   |(with_reducible exact LeO.refl _)
   |(with_reducible exact LeO.none _)
   |(with_reducible refine LeO.ite ?_ ?_)
   |(with_reducible refine LeO.bind ?_ (fun _=>?_))
   |exact pylonref09_Day.mono _ _
   |exact pylonref09_Holds.mono _ _ _ _ _
   |exact sound_Holds.mono _ _ _ _ _
   |exact LeO.none _
   |refine LeO.ite ?_ ?_
   |refine LeO.bind ?_ (fun _=>?_)
def pylonlaw09_SoundDays.T5:Bool × List (List Nat × List Nat):=(true,[([],[]),([],[]),([0,1],[0,1]),([2],[2]),([3],[3]),([3],[3]),([4,5,3],[3,4,5]),([3,6],[3,6]),([7,3],[7]),([8],[8]),([8],[8]),([9,10,8,8],[8,9,10]),([8],[8]),([8],[8]),([12,13,11,8],[8,12,13]),([11,14,8],[8,11,14]),([8,15],[8,15]),([16,14,0,1,2,3,4,5,6,7,8,9,10,11,12,13,14,15,16],[16])])
def pylonlaw09_SoundDays.B5:List Nat:=[0,0,3,7,15,15,63,127,255,511,511,2047,511,511,16383,32767,65535,131071]
theorem pylonlaw09_SoundDays.tab5:rtab .any (opsOf Tryd.f7 5)=pylonlaw09_SoundDays.T5:=by kernel_rfl
theorem pylonlaw09_SoundDays.bits5:waitsOk pylonlaw09_SoundDays.T5.2 pylonlaw09_SoundDays.B5=true:=by kernel_rfl
set_option maxHeartbeats 8000000 in
set_option maxRecDepth 100000 in
theorem pylonlaw09_SoundDays.calls (k:Nat) (a0_0:ByteArray) (a0_1:Int) (a0_2:Int) (a1:Int) (r:Bool) (w:World) (h:pylonlaw09_SoundDays.f k a0_0 a0_1 a0_2 a1=some r) :
  Calls Tryd.prog 7 #[.agg #[.string a0_0,.int .i64 a0_1,.int .i64 a0_2],.int .i64 a1] w fun e w'=>e = .returned (.bool r)∧Below w.heap.size w w':=by
 have hu41:=Tryd.underlying41
 have HB:=ag.mk (Below.refl w.heap.size w)
 have H:((pylonlaw09_awake.f).bind fun t193=>(if t193=true then ((pylonref09_Day.f k a1).bind fun bt194=>((sound_Day.f a1).bind fun bt196=>(if bt196.1=bt194.1 then (if bt196.2=bt194.2 then ((sound_Holds.f k a0_0 a0_1 a0_2 a1).bind fun t198=>((pylonref09_Holds.f k a0_0 a0_1 a0_2 a1).bind fun t199=>(some (t198 == t199)))) else (some false)) else (some false)))) else (some false)))=some r:=h
 clear h
 replace H:=Option.bind_eq_some_iff.mp H
 obtain⟨t193,A30,H⟩:=H
 replace H:(if t193=true then ((pylonref09_Day.f k a1).bind fun bt194=>((sound_Day.f a1).bind fun bt196=>(if bt196.1=bt194.1 then (if bt196.2=bt194.2 then ((sound_Holds.f k a0_0 a0_1 a0_2 a1).bind fun t198=>((pylonref09_Holds.f k a0_0 a0_1 a0_2 a1).bind fun t199=>(some (t198 == t199)))) else (some false)) else (some false)))) else (some false))=some r:=H
 have A3:=ag.mk A30
 clear A30
 by_cases c4:t193=true
 ·subst c4
  have H1:((pylonref09_Day.f k a1).bind fun bt194=>((sound_Day.f a1).bind fun bt196=>(if bt196.1=bt194.1 then (if bt196.2=bt194.2 then ((sound_Holds.f k a0_0 a0_1 a0_2 a1).bind fun t198=>((pylonref09_Holds.f k a0_0 a0_1 a0_2 a1).bind fun t199=>(some (t198 == t199)))) else (some false)) else (some false))))=some r:=by rw[if_pos rfl] at H;exact H
  clear H
  have H:=H1
  clear H1
  replace H:=Option.bind_eq_some_iff.mp H
  obtain⟨⟨t194,t195⟩,A50,H⟩:=H
  replace H:((sound_Day.f a1).bind fun bt196=>(if bt196.1=t194 then (if bt196.2=t195 then ((sound_Holds.f k a0_0 a0_1 a0_2 a1).bind fun t198=>((pylonref09_Holds.f k a0_0 a0_1 a0_2 a1).bind fun t199=>(some (t198 == t199)))) else (some false)) else (some false)))=some r:=H
  have A5:=ag.mk A50
  clear A50
  replace H:=Option.bind_eq_some_iff.mp H
  obtain⟨⟨t196,t197⟩,A60,H⟩:=H
  replace H:(if t196=t194 then (if t197=t195 then ((sound_Holds.f k a0_0 a0_1 a0_2 a1).bind fun t198=>((pylonref09_Holds.f k a0_0 a0_1 a0_2 a1).bind fun t199=>(some (t198 == t199)))) else (some false)) else (some false))=some r:=H
  have A6:=ag.mk A60
  clear A60
  by_cases c7:t196=t194
  ·rw[if_pos c7] at H
   have c7b0:(t196 == t194)=true:=beq_iff_eq.mpr c7
   have c7b1:(t196 != t194)=false:=bne_eq_false_iff_eq.mpr c7
   clear c7
   by_cases c8:t197=t195
   ·rw[if_pos c8] at H
    have c8b0:(t197 == t195)=true:=beq_iff_eq.mpr c8
    have c8b1:(t197 != t195)=false:=bne_eq_false_iff_eq.mpr c8
    clear c8
    replace H:=Option.bind_eq_some_iff.mp H
    obtain⟨t198,A90,H⟩:=H
    replace H:((pylonref09_Holds.f k a0_0 a0_1 a0_2 a1).bind fun t199=>(some (t198 == t199)))=some r:=H
    have A9:=ag.mk A90
    clear A90
    replace H:=Option.bind_eq_some_iff.mp H
    obtain⟨t199,A100,H⟩:=H
    replace H:(some (t198 == t199))=some r:=H
    have A10:=ag.mk A100
    clear A100
    obtain rfl:=Option.some.inj H
    go_enter Tryd.func7,Tryd.ntmps7
    try go_wp2_with (first|((with_reducible refine aM (N:=2) rfl ?_);refine aJ ?hg (N:=2) ?hd (cs:=#[.string a0_0,.int .i64 a0_1,.int .i64 a0_2]) (t:=41) ?hr ?_;(case hd=>rfl);(case hg=>rfl);(case hr=>first|(go_simp;done)|(go_simp;rfl));intro gb192 hg w11 hbox hb;have n0_:=ag.mk (aj (by repeat(first|(with_reducible first|exact HB.o|apply ae|apply aa|apply af)|exact HB.o)) hb);have n1_:=ag.mk (hbox);have n2_:=ag.mk ((by rw[hg];exact(ak (by repeat(first|(with_reducible first|exact HB.o|apply ae|apply aa|apply af)|exact HB.o))):w.heap.size≤gb192));have n3_:=ag.mk ((by rw[hg];exact(ak (by repeat(first|(with_reducible first|exact HB.o|apply ae|apply aa|apply af)|exact HB.o))):w.heap.size≤gb192));clear HB;have HB:=n0_;have BK192:=n1_;have GW192:=n2_;have GE192:=n3_;clear n0_ n1_ n2_ n3_;clear hb hbox hg)|((with_reducible refine aG (f:=10) rfl ?_);refine aU (some 9) rfl rfl Tryd.func10 (by kernel_rfl) rfl #[] rfl (by (try simp only[List.map_toArray,List.map_cons,List.map_nil]);first|done|rfl|(simp only[List.length_drop,List.length_take];rfl)) ?_;(with_reducible refine(pylonlaw09_awake.calls true _ A3.o).mono ?_);rintro e w12 ⟨rfl,hb⟩;refine⟨_,rfl,?_⟩;have n0_:=ag.mk (aD (g:=gb192) (o:=.cells #[.string a0_0,.int .i64 a0_1,.int .i64 a0_2] 41 (0,0)) (by (with_reducible repeat(first|refine av ?_ _|refine ay ?_|refine au ?_ _));exact BK192.o) hb);have n1_:=ag.mk (aj (by repeat(first|(with_reducible first|exact HB.o|apply ae|apply aa|apply af|refine ax ?_ GE192.o)|exact HB.o)) hb);clear BK192;clear HB;have BK192:=n0_;have HB:=n1_;clear n0_ n1_;(try clear hb);(try clear hb2);(try clear hk);(try clear hi))|((with_reducible refine aG (f:=15) rfl ?_);refine aU (some 13) rfl rfl Tryd.func15 (by kernel_rfl) rfl #[.int .i64 a1] rfl (by (try simp only[List.map_toArray,List.map_cons,List.map_nil]);first|done|rfl|(simp only[List.length_drop,List.length_take];rfl)) ?_;(with_reducible refine(pylonref09_Day.calls k a1 t194 t195 _ A5.o).mono ?_);rintro e w13 ⟨rfl,hb⟩;refine⟨_,rfl,?_⟩;have n0_:=ag.mk (aD (g:=gb192) (o:=.cells #[.string a0_0,.int .i64 a0_1,.int .i64 a0_2] 41 (0,0)) (by (with_reducible repeat(first|refine av ?_ _|refine ay ?_|refine au ?_ _));exact BK192.o) hb);have n1_:=ag.mk (aj (by repeat(first|(with_reducible first|exact HB.o|apply ae|apply aa|apply af|refine ax ?_ GE192.o)|exact HB.o)) hb);clear BK192;clear HB;have BK192:=n0_;have HB:=n1_;clear n0_ n1_;(try clear hb);(try clear hb2);(try clear hk);(try clear hi))|((with_reducible refine aG (f:=16) rfl ?_);refine aU (some 18) rfl rfl Tryd.func16 (by kernel_rfl) rfl #[.int .i64 a1] rfl (by (try simp only[List.map_toArray,List.map_cons,List.map_nil]);first|done|rfl|(simp only[List.length_drop,List.length_take];rfl)) ?_;(with_reducible refine(sound_Day.calls a1 t196 t197 _ A6.o).mono ?_);rintro e w14 ⟨rfl,hb⟩;refine⟨_,rfl,?_⟩;have n0_:=ag.mk (aD (g:=gb192) (o:=.cells #[.string a0_0,.int .i64 a0_1,.int .i64 a0_2] 41 (0,0)) (by (with_reducible repeat(first|refine av ?_ _|refine ay ?_|refine au ?_ _));exact BK192.o) hb);have n1_:=ag.mk (aj (by repeat(first|(with_reducible first|exact HB.o|apply ae|apply aa|apply af|refine ax ?_ GE192.o)|exact HB.o)) hb);clear BK192;clear HB;have BK192:=n0_;have HB:=n1_;clear n0_ n1_;(try clear hb);(try clear hb2);(try clear hk);(try clear hi)))
    have n0_:=ag.mk (ay BK192.o)
    have n1_:=ag.mk (af HB.o)
    clear BK192
    clear HB
    have BK192:=n0_
    have HB:=n1_
    clear n0_ n1_
    refine start_ (n:=18) (S:=fun w'=>w'.cell? ⟨gb192,0,none⟩=some (.string a0_0)∧w'.cell? ⟨gb192,1,none⟩=some (.int .i64 a0_1)∧w'.cell? ⟨gb192,2,none⟩=some (.int .i64 a0_2)) (ds:=[]) #[false,false,false,false,false,false,false,false,false,false,false,false,false,false,false,false,false,false] (by kernel_rfl) rfl rfl ⟨(ah BK192.o 0).trans rfl,(ah BK192.o 1).trans rfl,(ah BK192.o 2).trans rfl⟩ (fun hHeld=>?_);refine with_tabW pylonlaw09_SoundDays.tab5 pylonlaw09_SoundDays.bits5 (fun HT_ HW_=>?_)
    generalize w14.drew=w15 at BK192 HB hHeld ⊢
    refine pure_ (i:=0) (N:=some 21) (v:=?_) (a':=?_) #[true,false,false,false,false,false,false,false,false,false,false,false,false,false,false,false,false,false] rfl rfl (bD HT_.o (by kernel_rfl)) (fun _ _ _ h=>h) (Or.inl ⟨by rfl,?_⟩) ?_ ?_
    rotate_left
    ·intro w'
     go_simp
     with_reducible rfl
    rotate_left
    ·simp only[Act.put,List.setIfInBounds_toArray,List.set_cons_zero,List.set_cons_succ,i64_w,i32_w]
     rfl
    refine pure_ (i:=1) (N:=some 22) (v:=?_) (a':=?_) #[true,true,false,false,false,false,false,false,false,false,false,false,false,false,false,false,false,false] rfl rfl (bD HT_.o (by kernel_rfl)) (fun _ _ _ h=>h) (Or.inl ⟨by rfl,?_⟩) ?_ ?_
    rotate_left
    ·intro w'
     go_simp
     with_reducible rfl
    rotate_left
    ·simp only[Act.put,List.setIfInBounds_toArray,List.set_cons_zero,List.set_cons_succ,i64_w,i32_w]
     rfl
    refine pure_ (i:=2) (N:=some 23) (v:=?_) (a':=?_) #[true,true,true,false,false,false,false,false,false,false,false,false,false,false,false,false,false,false] rfl rfl (bD HT_.o (by kernel_rfl)) (fun _ _ _ h=>h) (Or.inl ⟨by rfl,?_⟩) ?_ ?_
    rotate_left
    ·intro w'
     go_simp
     with_reducible rfl
    rotate_left
    ·simp only[Act.put,List.setIfInBounds_toArray,List.set_cons_zero,List.set_cons_succ,i64_w,i32_w]
     rfl
    refine pure_ (i:=3) (N:=some 24) (v:=?_) (a':=?_) #[true,true,true,true,false,false,false,false,false,false,false,false,false,false,false,false,false,false] rfl rfl (bD HT_.o (by kernel_rfl)) (fun _ _ _ h=>h) (Or.inl ⟨by rfl,?_⟩) ?_ ?_
    rotate_left
    ·intro w'
     go_simp
     with_reducible rfl
    rotate_left
    ·simp only[Act.put,List.setIfInBounds_toArray,List.set_cons_zero,List.set_cons_succ,i64_w,i32_w]
     rfl
    refine pure_ (i:=4) (N:=some 25) (v:=?_) (a':=?_) #[true,true,true,true,true,false,false,false,false,false,false,false,false,false,false,false,false,false] rfl rfl (bD HT_.o (by kernel_rfl)) (fun _ _ _ h=>h) (Or.inl ⟨by rfl,?_⟩) ?_ ?_
    rotate_left
    ·intro w'
     go_simp
     with_reducible rfl
    rotate_left
    ·simp only[Act.put,List.setIfInBounds_toArray,List.set_cons_zero,List.set_cons_succ,i64_w,i32_w]
     rfl
    refine pure_ (i:=5) (N:=some 26) (v:=?_) (a':=?_) #[true,true,true,true,true,true,false,false,false,false,false,false,false,false,false,false,false,false] rfl rfl (bD HT_.o (by kernel_rfl)) (fun _ _ _ h=>h) (Or.inl ⟨by rfl,?_⟩) ?_ ?_
    rotate_left
    ·intro w'
     go_simp
     with_reducible rfl
    rotate_left
    ·simp only[Act.put,List.setIfInBounds_toArray,List.set_cons_zero,List.set_cons_succ,i64_w,i32_w]
     rfl
    refine pure_ (i:=6) (N:=some 27) (v:=?_) (a':=?_) #[true,true,true,true,true,true,true,false,false,false,false,false,false,false,false,false,false,false] rfl rfl (bD HT_.o (by kernel_rfl)) (fun _ _ _ h=>h) (Or.inl ⟨by rfl,?_⟩) ?_ ?_
    rotate_left
    ·intro w'
     go_simp
     with_reducible rfl
    rotate_left
    ·simp only[Act.put,List.setIfInBounds_toArray,List.set_cons_zero,List.set_cons_succ,i64_w,i32_w]
     rfl
    refine pure_ (i:=7) (N:=some 28) (v:=?_) (a':=?_) #[true,true,true,true,true,true,true,true,false,false,false,false,false,false,false,false,false,false] rfl rfl (bD HT_.o (by kernel_rfl)) (fun _ _ _ h=>h) (Or.inl ⟨by rfl,?_⟩) ?_ ?_
    rotate_left
    ·intro w'
     go_simp
     with_reducible rfl
    rotate_left
    ·simp only[Act.put,List.setIfInBounds_toArray,List.set_cons_zero,List.set_cons_succ,i64_w,i32_w]
     rfl
    refine pure_ (i:=8) (N:=some 29) (v:=?_) (a':=?_) #[true,true,true,true,true,true,true,true,true,false,false,false,false,false,false,false,false,false] rfl rfl (bD HT_.o (by kernel_rfl)) (fun _ _ _ h=>h) (Or.inl ⟨by rfl,?_⟩) ?_ ?_
    rotate_left
    ·intro w'
     go_simp
     with_reducible rfl
    rotate_left
    ·simp only[Act.put,List.setIfInBounds_toArray,List.set_cons_zero,List.set_cons_succ,i64_w,i32_w]
     rfl
    refine pure_ (i:=10) (N:=some 31) (v:=?_) (a':=?_) #[true,true,true,true,true,true,true,true,true,false,true,false,false,false,false,false,false,false] rfl rfl (bD HT_.o (by kernel_rfl)) (fun _ _ _ h=>h) (Or.inl ⟨by rfl,?_⟩) ?_ ?_
    rotate_left
    ·intro w'
     go_simp
     with_reducible rfl
    rotate_left
    ·simp only[Act.put,List.setIfInBounds_toArray,List.set_cons_zero,List.set_cons_succ,i64_w,i32_w]
     rfl
    refine pure_ (i:=13) (N:=some 34) (v:=?_) (a':=?_) #[true,true,true,true,true,true,true,true,true,false,true,false,false,true,false,false,false,false] rfl rfl (bD HT_.o (by kernel_rfl)) (fun _ _ _ h=>h) (Or.inl ⟨by rfl,?_⟩) ?_ ?_
    rotate_left
    ·intro w'
     go_simp
     with_reducible rfl
    rotate_left
    ·simp only[Act.put,List.setIfInBounds_toArray,List.set_cons_zero,List.set_cons_succ,i64_w,i32_w]
     rfl
    refine take_ (i:=9) (N:=some 30) (v:=?_) (a':=?_) #[true,true,true,true,true,true,true,true,true,true,true,false,false,true,false,false,false,false] rfl rfl (take_ofW HT_.o HW_.o (by kernel_rfl)) (fun _ _ _ h=>h) (Or.inl ⟨by rfl,?_⟩) hHeld ?_ ?_
    rotate_left
    ·rintro w' ⟨s0,s1,s2⟩
     go_simp
     with_reducible rfl
    rotate_left
    ·simp only[Act.put,List.setIfInBounds_toArray,List.set_cons_zero,List.set_cons_succ,i64_w,i32_w]
     rfl
    refine take_ (i:=12) (N:=some 33) (v:=?_) (a':=?_) #[true,true,true,true,true,true,true,true,true,true,true,false,true,true,false,false,false,false] rfl rfl (take_ofW HT_.o HW_.o (by kernel_rfl)) (fun _ _ _ h=>h) (Or.inl ⟨by rfl,?_⟩) hHeld ?_ ?_
    rotate_left
    ·rintro w' ⟨s0,s1,s2⟩
     go_simp
     with_reducible rfl
    rotate_left
    ·simp only[Act.put,List.setIfInBounds_toArray,List.set_cons_zero,List.set_cons_succ,i64_w,i32_w]
     rfl
    refine one_ (i:=11) (N:=some 32) #[true,true,true,true,true,true,true,true,true,true,true,true,true,true,false,false,false,false] rfl rfl (one_of HT_.o (by kernel_rfl)) (by decide) (fun K hK=>?_)
    refine goes_ Tryd.func17 (by kernel_rfl) rfl #[.agg #[.string a0_0,.int .i64 a0_1,.int .i64 a0_2],.int .i64 a1] (by rfl) rfl rfl (by (try simp only[List.map_toArray,List.map_cons,List.map_nil]);first|done|rfl|(simp only[List.length_drop,List.length_take];rfl)) ?_
    with_reducible refine(sound_Holds.calls k a0_0 a0_1 a0_2 a1 t198 _ A9.o).mono ?_
    rintro e w16 ⟨rfl,hb⟩
    refine⟨_,rfl,?_⟩
    have n0_:=ag.mk (aD (g:=gb192) (o:=.cells #[.string a0_0,.int .i64 a0_1,.int .i64 a0_2] 41 (0,0)) (by (with_reducible repeat(first|refine av ?_ _|refine ay ?_|refine au ?_ _));exact BK192.o) hb)
    have n1_:=ag.mk (aj (by repeat(first|(with_reducible first|exact HB.o|apply ae|apply aa|apply af|refine ax ?_ GE192.o)|exact HB.o)) hb)
    clear BK192
    clear HB
    have BK192:=n0_
    have HB:=n1_
    clear n0_ n1_
    (try clear hb)
    (try clear hb2)
    (try clear hk)
    (try clear hi)
    refine hK.out _ _ ⟨(ah BK192.o 0).trans rfl,(ah BK192.o 1).trans rfl,(ah BK192.o 2).trans rfl⟩ (fun hHeld=>?_)
    clear hK K
    refine norm_ (a':=?_) ?_ ?_
    rotate_left
    ·show Act.put _ (some 32) _=_
     simp only[Act.put,List.setIfInBounds_toArray,List.set_cons_zero,List.set_cons_succ,i64_w,i32_w]
     rfl
    refine one_ (i:=14) (N:=some 35) #[true,true,true,true,true,true,true,true,true,true,true,true,true,true,true,false,false,false] rfl rfl (one_of HT_.o (by kernel_rfl)) (by decide) (fun K hK=>?_)
    refine goes_ Tryd.func18 (by kernel_rfl) rfl #[.agg #[.string a0_0,.int .i64 a0_1,.int .i64 a0_2],.int .i64 a1] (by rfl) rfl rfl (by (try simp only[List.map_toArray,List.map_cons,List.map_nil]);first|done|rfl|(simp only[List.length_drop,List.length_take];rfl)) ?_
    with_reducible refine(pylonref09_Holds.calls k a0_0 a0_1 a0_2 a1 t199 _ A10.o).mono ?_
    rintro e w17 ⟨rfl,hb⟩
    refine⟨_,rfl,?_⟩
    have n0_:=ag.mk (aD (g:=gb192) (o:=.cells #[.string a0_0,.int .i64 a0_1,.int .i64 a0_2] 41 (0,0)) (by (with_reducible repeat(first|refine av ?_ _|refine ay ?_|refine au ?_ _));exact BK192.o) hb)
    have n1_:=ag.mk (aj (by repeat(first|(with_reducible first|exact HB.o|apply ae|apply aa|apply af|refine ax ?_ GE192.o)|exact HB.o)) hb)
    clear BK192
    clear HB
    have BK192:=n0_
    have HB:=n1_
    clear n0_ n1_
    (try clear hb)
    (try clear hb2)
    (try clear hk)
    (try clear hi)
    refine hK.out _ _ ⟨(ah BK192.o 0).trans rfl,(ah BK192.o 1).trans rfl,(ah BK192.o 2).trans rfl⟩ (fun hHeld=>?_)
    clear hK K
    refine norm_ (a':=?_) ?_ ?_
    rotate_left
    ·show Act.put _ (some 35) _=_
     simp only[Act.put,List.setIfInBounds_toArray,List.set_cons_zero,List.set_cons_succ,i64_w,i32_w]
     rfl
    refine pure_ (i:=15) (N:=some 36) (v:=?_) (a':=?_) #[true,true,true,true,true,true,true,true,true,true,true,true,true,true,true,true,false,false] rfl rfl (bD HT_.o (by kernel_rfl)) (fun _ _ _ h=>h) (Or.inl ⟨by rfl,?_⟩) ?_ ?_
    rotate_left
    ·intro w'
     go_simp
     with_reducible rfl
    rotate_left
    ·simp only[Act.put,List.setIfInBounds_toArray,List.set_cons_zero,List.set_cons_succ,i64_w,i32_w]
     rfl
    refine pure_ (i:=16) (N:=some 37) (v:=?_) (a':=?_) #[true,true,true,true,true,true,true,true,true,true,true,true,true,true,true,true,true,false] rfl rfl (bD HT_.o (by kernel_rfl)) (fun _ _ _ h=>h) (Or.inl ⟨by rfl,?_⟩) ?_ ?_
    rotate_left
    ·intro w'
     go_simp
     with_reducible rfl
    rotate_left
    ·simp only[Act.put,List.setIfInBounds_toArray,List.set_cons_zero,List.set_cons_succ,i64_w,i32_w]
     rfl
    refine pure_ (i:=17) (N:=some 4) (v:=?_) (a':=?_) #[true,true,true,true,true,true,true,true,true,true,true,true,true,true,true,true,true,true] rfl rfl (bD HT_.o (by kernel_rfl)) (fun _ _ _ h=>h) (Or.inl ⟨by rfl,?_⟩) ?_ ?_
    rotate_left
    ·intro w'
     go_simp
     with_reducible rfl
    rotate_left
    ·simp only[Act.put,List.setIfInBounds_toArray,List.set_cons_zero,List.set_cons_succ,i64_w,i32_w]
     rfl
    refine done_ (done_of HT_.o (by kernel_rfl)) ?_
    try go_wp2
    go_ret
    exact⟨by first|rfl|(simp[az,aA] <;> rfl)|(simp[*,az,aA] <;> rfl),by repeat(first|(with_reducible first|exact HB.o|apply ae|apply aa|apply af|refine ax ?_ GE192.o)|exact HB.o)⟩
   ·rw[if_neg c8] at H
    have c8b0:(t197 == t195)=false:=beq_eq_false_iff_ne.mpr c8
    have c8b1:(t197 != t195)=true:=bne_iff_ne.mpr c8
    obtain rfl:=Option.some.inj H
    go_enter Tryd.func7,Tryd.ntmps7
    try go_wp2_with (first|((with_reducible refine aM (N:=2) rfl ?_);refine aJ ?hg (N:=2) ?hd (cs:=#[.string a0_0,.int .i64 a0_1,.int .i64 a0_2]) (t:=41) ?hr ?_;(case hd=>rfl);(case hg=>rfl);(case hr=>first|(go_simp;done)|(go_simp;rfl));intro gb192 hg w18 hbox hb;have n0_:=ag.mk (aj (by repeat(first|(with_reducible first|exact HB.o|apply ae|apply aa|apply af)|exact HB.o)) hb);have n1_:=ag.mk (hbox);have n2_:=ag.mk ((by rw[hg];exact(ak (by repeat(first|(with_reducible first|exact HB.o|apply ae|apply aa|apply af)|exact HB.o))):w.heap.size≤gb192));have n3_:=ag.mk ((by rw[hg];exact(ak (by repeat(first|(with_reducible first|exact HB.o|apply ae|apply aa|apply af)|exact HB.o))):w.heap.size≤gb192));clear HB;have HB:=n0_;have BK192:=n1_;have GW192:=n2_;have GE192:=n3_;clear n0_ n1_ n2_ n3_;clear hb hbox hg)|((with_reducible refine aG (f:=10) rfl ?_);refine aU (some 9) rfl rfl Tryd.func10 (by kernel_rfl) rfl #[] rfl (by (try simp only[List.map_toArray,List.map_cons,List.map_nil]);first|done|rfl|(simp only[List.length_drop,List.length_take];rfl)) ?_;(with_reducible refine(pylonlaw09_awake.calls true _ A3.o).mono ?_);rintro e w19 ⟨rfl,hb⟩;refine⟨_,rfl,?_⟩;have n0_:=ag.mk (aD (g:=gb192) (o:=.cells #[.string a0_0,.int .i64 a0_1,.int .i64 a0_2] 41 (0,0)) (by (with_reducible repeat(first|refine av ?_ _|refine ay ?_|refine au ?_ _));exact BK192.o) hb);have n1_:=ag.mk (aj (by repeat(first|(with_reducible first|exact HB.o|apply ae|apply aa|apply af|refine ax ?_ GE192.o)|exact HB.o)) hb);clear BK192;clear HB;have BK192:=n0_;have HB:=n1_;clear n0_ n1_;(try clear hb);(try clear hb2);(try clear hk);(try clear hi))|((with_reducible refine aG (f:=15) rfl ?_);refine aU (some 13) rfl rfl Tryd.func15 (by kernel_rfl) rfl #[.int .i64 a1] rfl (by (try simp only[List.map_toArray,List.map_cons,List.map_nil]);first|done|rfl|(simp only[List.length_drop,List.length_take];rfl)) ?_;(with_reducible refine(pylonref09_Day.calls k a1 t194 t195 _ A5.o).mono ?_);rintro e w20 ⟨rfl,hb⟩;refine⟨_,rfl,?_⟩;have n0_:=ag.mk (aD (g:=gb192) (o:=.cells #[.string a0_0,.int .i64 a0_1,.int .i64 a0_2] 41 (0,0)) (by (with_reducible repeat(first|refine av ?_ _|refine ay ?_|refine au ?_ _));exact BK192.o) hb);have n1_:=ag.mk (aj (by repeat(first|(with_reducible first|exact HB.o|apply ae|apply aa|apply af|refine ax ?_ GE192.o)|exact HB.o)) hb);clear BK192;clear HB;have BK192:=n0_;have HB:=n1_;clear n0_ n1_;(try clear hb);(try clear hb2);(try clear hk);(try clear hi))|((with_reducible refine aG (f:=16) rfl ?_);refine aU (some 18) rfl rfl Tryd.func16 (by kernel_rfl) rfl #[.int .i64 a1] rfl (by (try simp only[List.map_toArray,List.map_cons,List.map_nil]);first|done|rfl|(simp only[List.length_drop,List.length_take];rfl)) ?_;(with_reducible refine(sound_Day.calls a1 t196 t197 _ A6.o).mono ?_);rintro e w21 ⟨rfl,hb⟩;refine⟨_,rfl,?_⟩;have n0_:=ag.mk (aD (g:=gb192) (o:=.cells #[.string a0_0,.int .i64 a0_1,.int .i64 a0_2] 41 (0,0)) (by (with_reducible repeat(first|refine av ?_ _|refine ay ?_|refine au ?_ _));exact BK192.o) hb);have n1_:=ag.mk (aj (by repeat(first|(with_reducible first|exact HB.o|apply ae|apply aa|apply af|refine ax ?_ GE192.o)|exact HB.o)) hb);clear BK192;clear HB;have BK192:=n0_;have HB:=n1_;clear n0_ n1_;(try clear hb);(try clear hb2);(try clear hk);(try clear hi)))
    have n0_:=ag.mk (ay BK192.o)
    have n1_:=ag.mk (af HB.o)
    clear BK192
    clear HB
    have BK192:=n0_
    have HB:=n1_
    clear n0_ n1_
    refine start_ (n:=18) (S:=fun w'=>True) (ds:=[]) #[false,false,false,false,false,false,false,false,false,false,false,false,false,false,false,false,false,false] (by kernel_rfl) rfl rfl trivial (fun hHeld=>?_);refine with_tabW pylonlaw09_SoundDays.tab5 pylonlaw09_SoundDays.bits5 (fun HT_ HW_=>?_)
    generalize w21.drew=w22 at BK192 HB hHeld ⊢
    refine pure_ (i:=0) (N:=some 21) (v:=?_) (a':=?_) #[true,false,false,false,false,false,false,false,false,false,false,false,false,false,false,false,false,false] rfl rfl (bD HT_.o (by kernel_rfl)) (fun _ _ _ h=>h) (Or.inl ⟨by rfl,?_⟩) ?_ ?_
    rotate_left
    ·intro w'
     go_simp
     with_reducible rfl
    rotate_left
    ·simp only[Act.put,List.setIfInBounds_toArray,List.set_cons_zero,List.set_cons_succ,i64_w,i32_w]
     rfl
    refine pure_ (i:=1) (N:=some 22) (v:=?_) (a':=?_) #[true,true,false,false,false,false,false,false,false,false,false,false,false,false,false,false,false,false] rfl rfl (bD HT_.o (by kernel_rfl)) (fun _ _ _ h=>h) (Or.inl ⟨by rfl,?_⟩) ?_ ?_
    rotate_left
    ·intro w'
     go_simp
     with_reducible rfl
    rotate_left
    ·simp only[Act.put,List.setIfInBounds_toArray,List.set_cons_zero,List.set_cons_succ,i64_w,i32_w]
     rfl
    refine pure_ (i:=2) (N:=some 23) (v:=?_) (a':=?_) #[true,true,true,false,false,false,false,false,false,false,false,false,false,false,false,false,false,false] rfl rfl (bD HT_.o (by kernel_rfl)) (fun _ _ _ h=>h) (Or.inl ⟨by rfl,?_⟩) ?_ ?_
    rotate_left
    ·intro w'
     go_simp
     with_reducible rfl
    rotate_left
    ·simp only[Act.put,List.setIfInBounds_toArray,List.set_cons_zero,List.set_cons_succ,i64_w,i32_w]
     rfl
    refine pure_ (i:=3) (N:=some 24) (v:=?_) (a':=?_) #[true,true,true,true,false,false,false,false,false,false,false,false,false,false,false,false,false,false] rfl rfl (bD HT_.o (by kernel_rfl)) (fun _ _ _ h=>h) (Or.inl ⟨by rfl,?_⟩) ?_ ?_
    rotate_left
    ·intro w'
     go_simp
     with_reducible rfl
    rotate_left
    ·simp only[Act.put,List.setIfInBounds_toArray,List.set_cons_zero,List.set_cons_succ,i64_w,i32_w]
     rfl
    refine pure_ (i:=4) (N:=some 25) (v:=?_) (a':=?_) #[true,true,true,true,true,false,false,false,false,false,false,false,false,false,false,false,false,false] rfl rfl (bD HT_.o (by kernel_rfl)) (fun _ _ _ h=>h) (Or.inl ⟨by rfl,?_⟩) ?_ ?_
    rotate_left
    ·intro w'
     go_simp
     with_reducible rfl
    rotate_left
    ·simp only[Act.put,List.setIfInBounds_toArray,List.set_cons_zero,List.set_cons_succ,i64_w,i32_w]
     rfl
    refine pure_ (i:=5) (N:=some 26) (v:=?_) (a':=?_) #[true,true,true,true,true,true,false,false,false,false,false,false,false,false,false,false,false,false] rfl rfl (bD HT_.o (by kernel_rfl)) (fun _ _ _ h=>h) (Or.inl ⟨by rfl,?_⟩) ?_ ?_
    rotate_left
    ·intro w'
     go_simp
     with_reducible rfl
    rotate_left
    ·simp only[Act.put,List.setIfInBounds_toArray,List.set_cons_zero,List.set_cons_succ,i64_w,i32_w]
     rfl
    refine pure_ (i:=6) (N:=some 27) (v:=?_) (a':=?_) #[true,true,true,true,true,true,true,false,false,false,false,false,false,false,false,false,false,false] rfl rfl (bD HT_.o (by kernel_rfl)) (fun _ _ _ h=>h) (Or.inl ⟨by rfl,?_⟩) ?_ ?_
    rotate_left
    ·intro w'
     go_simp
     with_reducible rfl
    rotate_left
    ·simp only[Act.put,List.setIfInBounds_toArray,List.set_cons_zero,List.set_cons_succ,i64_w,i32_w]
     rfl
    refine pure_ (i:=7) (N:=some 28) (v:=?_) (a':=?_) #[true,true,true,true,true,true,true,true,false,false,false,false,false,false,false,false,false,false] rfl rfl (bD HT_.o (by kernel_rfl)) (fun _ _ _ h=>h) (Or.inl ⟨by rfl,?_⟩) ?_ ?_
    rotate_left
    ·intro w'
     go_simp
     with_reducible rfl
    rotate_left
    ·simp only[Act.put,List.setIfInBounds_toArray,List.set_cons_zero,List.set_cons_succ,i64_w,i32_w]
     rfl
    refine pure_ (i:=8) (N:=some 29) (v:=?_) (a':=?_) #[true,true,true,true,true,true,true,true,true,false,false,false,false,false,false,false,false,false] rfl rfl (bD HT_.o (by kernel_rfl)) (fun _ _ _ h=>h) (Or.inl ⟨by rfl,?_⟩) ?_ ?_
    rotate_left
    ·intro w'
     go_simp
     with_reducible rfl
    rotate_left
    ·simp only[Act.put,List.setIfInBounds_toArray,List.set_cons_zero,List.set_cons_succ,i64_w,i32_w]
     rfl
    refine pure_ (i:=9) (N:=some 30) (v:=undef) (a':=?_) #[true,true,true,true,true,true,true,true,true,true,false,false,false,false,false,false,false,false] rfl rfl (bD HT_.o (by kernel_rfl)) (fun _ _ _ h=>h) (Or.inr ⟨by rfl,rfl⟩) ?_ ?_
    rotate_left
    ·simp only[Act.put,List.setIfInBounds_toArray,List.set_cons_zero,List.set_cons_succ,i64_w,i32_w]
     rfl
    refine pure_ (i:=10) (N:=some 31) (v:=undef) (a':=?_) #[true,true,true,true,true,true,true,true,true,true,true,false,false,false,false,false,false,false] rfl rfl (bD HT_.o (by kernel_rfl)) (fun _ _ _ h=>h) (Or.inr ⟨by rfl,rfl⟩) ?_ ?_
    rotate_left
    ·simp only[Act.put,List.setIfInBounds_toArray,List.set_cons_zero,List.set_cons_succ,i64_w,i32_w]
     rfl
    refine pure_ (i:=11) (N:=some 32) (v:=undef) (a':=?_) #[true,true,true,true,true,true,true,true,true,true,true,true,false,false,false,false,false,false] rfl rfl (bD HT_.o (by kernel_rfl)) (fun _ _ _ h=>h) (Or.inr ⟨by rfl,rfl⟩) ?_ ?_
    rotate_left
    ·simp only[Act.put,List.setIfInBounds_toArray,List.set_cons_zero,List.set_cons_succ,i64_w,i32_w]
     rfl
    refine pure_ (i:=12) (N:=some 33) (v:=undef) (a':=?_) #[true,true,true,true,true,true,true,true,true,true,true,true,true,false,false,false,false,false] rfl rfl (bD HT_.o (by kernel_rfl)) (fun _ _ _ h=>h) (Or.inr ⟨by rfl,rfl⟩) ?_ ?_
    rotate_left
    ·simp only[Act.put,List.setIfInBounds_toArray,List.set_cons_zero,List.set_cons_succ,i64_w,i32_w]
     rfl
    refine pure_ (i:=13) (N:=some 34) (v:=undef) (a':=?_) #[true,true,true,true,true,true,true,true,true,true,true,true,true,true,false,false,false,false] rfl rfl (bD HT_.o (by kernel_rfl)) (fun _ _ _ h=>h) (Or.inr ⟨by rfl,rfl⟩) ?_ ?_
    rotate_left
    ·simp only[Act.put,List.setIfInBounds_toArray,List.set_cons_zero,List.set_cons_succ,i64_w,i32_w]
     rfl
    refine pure_ (i:=14) (N:=some 35) (v:=undef) (a':=?_) #[true,true,true,true,true,true,true,true,true,true,true,true,true,true,true,false,false,false] rfl rfl (bD HT_.o (by kernel_rfl)) (fun _ _ _ h=>h) (Or.inr ⟨by rfl,rfl⟩) ?_ ?_
    rotate_left
    ·simp only[Act.put,List.setIfInBounds_toArray,List.set_cons_zero,List.set_cons_succ,i64_w,i32_w]
     rfl
    refine pure_ (i:=15) (N:=some 36) (v:=undef) (a':=?_) #[true,true,true,true,true,true,true,true,true,true,true,true,true,true,true,true,false,false] rfl rfl (bD HT_.o (by kernel_rfl)) (fun _ _ _ h=>h) (Or.inr ⟨by rfl,rfl⟩) ?_ ?_
    rotate_left
    ·simp only[Act.put,List.setIfInBounds_toArray,List.set_cons_zero,List.set_cons_succ,i64_w,i32_w]
     rfl
    refine pure_ (i:=16) (N:=some 37) (v:=?_) (a':=?_) #[true,true,true,true,true,true,true,true,true,true,true,true,true,true,true,true,true,false] rfl rfl (bD HT_.o (by kernel_rfl)) (fun _ _ _ h=>h) (Or.inl ⟨by rfl,?_⟩) ?_ ?_
    rotate_left
    ·intro w'
     go_simp
     with_reducible rfl
    rotate_left
    ·simp only[Act.put,List.setIfInBounds_toArray,List.set_cons_zero,List.set_cons_succ,i64_w,i32_w]
     rfl
    refine pure_ (i:=17) (N:=some 4) (v:=?_) (a':=?_) #[true,true,true,true,true,true,true,true,true,true,true,true,true,true,true,true,true,true] rfl rfl (bD HT_.o (by kernel_rfl)) (fun _ _ _ h=>h) (Or.inl ⟨by rfl,?_⟩) ?_ ?_
    rotate_left
    ·intro w'
     go_simp
     with_reducible rfl
    rotate_left
    ·simp only[Act.put,List.setIfInBounds_toArray,List.set_cons_zero,List.set_cons_succ,i64_w,i32_w]
     rfl
    refine done_ (done_of HT_.o (by kernel_rfl)) ?_
    try go_wp2
    go_ret
    exact⟨by first|rfl|(simp[az,aA] <;> rfl)|(simp[*,az,aA] <;> rfl),by repeat(first|(with_reducible first|exact HB.o|apply ae|apply aa|apply af|refine ax ?_ GE192.o)|exact HB.o)⟩
  ·rw[if_neg c7] at H
   have c7b0:(t196 == t194)=false:=beq_eq_false_iff_ne.mpr c7
   have c7b1:(t196 != t194)=true:=bne_iff_ne.mpr c7
   obtain rfl:=Option.some.inj H
   go_enter Tryd.func7,Tryd.ntmps7
   try go_wp2_with (first|((with_reducible refine aM (N:=2) rfl ?_);refine aJ ?hg (N:=2) ?hd (cs:=#[.string a0_0,.int .i64 a0_1,.int .i64 a0_2]) (t:=41) ?hr ?_;(case hd=>rfl);(case hg=>rfl);(case hr=>first|(go_simp;done)|(go_simp;rfl));intro gb192 hg w23 hbox hb;have n0_:=ag.mk (aj (by repeat(first|(with_reducible first|exact HB.o|apply ae|apply aa|apply af)|exact HB.o)) hb);have n1_:=ag.mk (hbox);have n2_:=ag.mk ((by rw[hg];exact(ak (by repeat(first|(with_reducible first|exact HB.o|apply ae|apply aa|apply af)|exact HB.o))):w.heap.size≤gb192));have n3_:=ag.mk ((by rw[hg];exact(ak (by repeat(first|(with_reducible first|exact HB.o|apply ae|apply aa|apply af)|exact HB.o))):w.heap.size≤gb192));clear HB;have HB:=n0_;have BK192:=n1_;have GW192:=n2_;have GE192:=n3_;clear n0_ n1_ n2_ n3_;clear hb hbox hg)|((with_reducible refine aG (f:=10) rfl ?_);refine aU (some 9) rfl rfl Tryd.func10 (by kernel_rfl) rfl #[] rfl (by (try simp only[List.map_toArray,List.map_cons,List.map_nil]);first|done|rfl|(simp only[List.length_drop,List.length_take];rfl)) ?_;(with_reducible refine(pylonlaw09_awake.calls true _ A3.o).mono ?_);rintro e w24 ⟨rfl,hb⟩;refine⟨_,rfl,?_⟩;have n0_:=ag.mk (aD (g:=gb192) (o:=.cells #[.string a0_0,.int .i64 a0_1,.int .i64 a0_2] 41 (0,0)) (by (with_reducible repeat(first|refine av ?_ _|refine ay ?_|refine au ?_ _));exact BK192.o) hb);have n1_:=ag.mk (aj (by repeat(first|(with_reducible first|exact HB.o|apply ae|apply aa|apply af|refine ax ?_ GE192.o)|exact HB.o)) hb);clear BK192;clear HB;have BK192:=n0_;have HB:=n1_;clear n0_ n1_;(try clear hb);(try clear hb2);(try clear hk);(try clear hi))|((with_reducible refine aG (f:=15) rfl ?_);refine aU (some 13) rfl rfl Tryd.func15 (by kernel_rfl) rfl #[.int .i64 a1] rfl (by (try simp only[List.map_toArray,List.map_cons,List.map_nil]);first|done|rfl|(simp only[List.length_drop,List.length_take];rfl)) ?_;(with_reducible refine(pylonref09_Day.calls k a1 t194 t195 _ A5.o).mono ?_);rintro e w25 ⟨rfl,hb⟩;refine⟨_,rfl,?_⟩;have n0_:=ag.mk (aD (g:=gb192) (o:=.cells #[.string a0_0,.int .i64 a0_1,.int .i64 a0_2] 41 (0,0)) (by (with_reducible repeat(first|refine av ?_ _|refine ay ?_|refine au ?_ _));exact BK192.o) hb);have n1_:=ag.mk (aj (by repeat(first|(with_reducible first|exact HB.o|apply ae|apply aa|apply af|refine ax ?_ GE192.o)|exact HB.o)) hb);clear BK192;clear HB;have BK192:=n0_;have HB:=n1_;clear n0_ n1_;(try clear hb);(try clear hb2);(try clear hk);(try clear hi))|((with_reducible refine aG (f:=16) rfl ?_);refine aU (some 18) rfl rfl Tryd.func16 (by kernel_rfl) rfl #[.int .i64 a1] rfl (by (try simp only[List.map_toArray,List.map_cons,List.map_nil]);first|done|rfl|(simp only[List.length_drop,List.length_take];rfl)) ?_;(with_reducible refine(sound_Day.calls a1 t196 t197 _ A6.o).mono ?_);rintro e w26 ⟨rfl,hb⟩;refine⟨_,rfl,?_⟩;have n0_:=ag.mk (aD (g:=gb192) (o:=.cells #[.string a0_0,.int .i64 a0_1,.int .i64 a0_2] 41 (0,0)) (by (with_reducible repeat(first|refine av ?_ _|refine ay ?_|refine au ?_ _));exact BK192.o) hb);have n1_:=ag.mk (aj (by repeat(first|(with_reducible first|exact HB.o|apply ae|apply aa|apply af|refine ax ?_ GE192.o)|exact HB.o)) hb);clear BK192;clear HB;have BK192:=n0_;have HB:=n1_;clear n0_ n1_;(try clear hb);(try clear hb2);(try clear hk);(try clear hi)))
   have n0_:=ag.mk (ay BK192.o)
   have n1_:=ag.mk (af HB.o)
   clear BK192
   clear HB
   have BK192:=n0_
   have HB:=n1_
   clear n0_ n1_
   refine start_ (n:=18) (S:=fun w'=>True) (ds:=[]) #[false,false,false,false,false,false,false,false,false,false,false,false,false,false,false,false,false,false] (by kernel_rfl) rfl rfl trivial (fun hHeld=>?_);refine with_tabW pylonlaw09_SoundDays.tab5 pylonlaw09_SoundDays.bits5 (fun HT_ HW_=>?_)
   generalize w26.drew=w27 at BK192 HB hHeld ⊢
   refine pure_ (i:=0) (N:=some 21) (v:=?_) (a':=?_) #[true,false,false,false,false,false,false,false,false,false,false,false,false,false,false,false,false,false] rfl rfl (bD HT_.o (by kernel_rfl)) (fun _ _ _ h=>h) (Or.inl ⟨by rfl,?_⟩) ?_ ?_
   rotate_left
   ·intro w'
    go_simp
    with_reducible rfl
   rotate_left
   ·simp only[Act.put,List.setIfInBounds_toArray,List.set_cons_zero,List.set_cons_succ,i64_w,i32_w]
    rfl
   refine pure_ (i:=1) (N:=some 22) (v:=?_) (a':=?_) #[true,true,false,false,false,false,false,false,false,false,false,false,false,false,false,false,false,false] rfl rfl (bD HT_.o (by kernel_rfl)) (fun _ _ _ h=>h) (Or.inl ⟨by rfl,?_⟩) ?_ ?_
   rotate_left
   ·intro w'
    go_simp
    with_reducible rfl
   rotate_left
   ·simp only[Act.put,List.setIfInBounds_toArray,List.set_cons_zero,List.set_cons_succ,i64_w,i32_w]
    rfl
   refine pure_ (i:=2) (N:=some 23) (v:=?_) (a':=?_) #[true,true,true,false,false,false,false,false,false,false,false,false,false,false,false,false,false,false] rfl rfl (bD HT_.o (by kernel_rfl)) (fun _ _ _ h=>h) (Or.inl ⟨by rfl,?_⟩) ?_ ?_
   rotate_left
   ·intro w'
    go_simp
    with_reducible rfl
   rotate_left
   ·simp only[Act.put,List.setIfInBounds_toArray,List.set_cons_zero,List.set_cons_succ,i64_w,i32_w]
    rfl
   refine pure_ (i:=3) (N:=some 24) (v:=?_) (a':=?_) #[true,true,true,true,false,false,false,false,false,false,false,false,false,false,false,false,false,false] rfl rfl (bD HT_.o (by kernel_rfl)) (fun _ _ _ h=>h) (Or.inl ⟨by rfl,?_⟩) ?_ ?_
   rotate_left
   ·intro w'
    go_simp
    with_reducible rfl
   rotate_left
   ·simp only[Act.put,List.setIfInBounds_toArray,List.set_cons_zero,List.set_cons_succ,i64_w,i32_w]
    rfl
   refine pure_ (i:=4) (N:=some 25) (v:=undef) (a':=?_) #[true,true,true,true,true,false,false,false,false,false,false,false,false,false,false,false,false,false] rfl rfl (bD HT_.o (by kernel_rfl)) (fun _ _ _ h=>h) (Or.inr ⟨by rfl,rfl⟩) ?_ ?_
   rotate_left
   ·simp only[Act.put,List.setIfInBounds_toArray,List.set_cons_zero,List.set_cons_succ,i64_w,i32_w]
    rfl
   refine pure_ (i:=5) (N:=some 26) (v:=undef) (a':=?_) #[true,true,true,true,true,true,false,false,false,false,false,false,false,false,false,false,false,false] rfl rfl (bD HT_.o (by kernel_rfl)) (fun _ _ _ h=>h) (Or.inr ⟨by rfl,rfl⟩) ?_ ?_
   rotate_left
   ·simp only[Act.put,List.setIfInBounds_toArray,List.set_cons_zero,List.set_cons_succ,i64_w,i32_w]
    rfl
   refine pure_ (i:=6) (N:=some 27) (v:=undef) (a':=?_) #[true,true,true,true,true,true,true,false,false,false,false,false,false,false,false,false,false,false] rfl rfl (bD HT_.o (by kernel_rfl)) (fun _ _ _ h=>h) (Or.inr ⟨by rfl,rfl⟩) ?_ ?_
   rotate_left
   ·simp only[Act.put,List.setIfInBounds_toArray,List.set_cons_zero,List.set_cons_succ,i64_w,i32_w]
    rfl
   refine pure_ (i:=7) (N:=some 28) (v:=?_) (a':=?_) #[true,true,true,true,true,true,true,true,false,false,false,false,false,false,false,false,false,false] rfl rfl (bD HT_.o (by kernel_rfl)) (fun _ _ _ h=>h) (Or.inl ⟨by rfl,?_⟩) ?_ ?_
   rotate_left
   ·intro w'
    go_simp
    with_reducible rfl
   rotate_left
   ·simp only[Act.put,List.setIfInBounds_toArray,List.set_cons_zero,List.set_cons_succ,i64_w,i32_w]
    rfl
   refine pure_ (i:=8) (N:=some 29) (v:=?_) (a':=?_) #[true,true,true,true,true,true,true,true,true,false,false,false,false,false,false,false,false,false] rfl rfl (bD HT_.o (by kernel_rfl)) (fun _ _ _ h=>h) (Or.inl ⟨by rfl,?_⟩) ?_ ?_
   rotate_left
   ·intro w'
    go_simp
    with_reducible rfl
   rotate_left
   ·simp only[Act.put,List.setIfInBounds_toArray,List.set_cons_zero,List.set_cons_succ,i64_w,i32_w]
    rfl
   refine pure_ (i:=9) (N:=some 30) (v:=undef) (a':=?_) #[true,true,true,true,true,true,true,true,true,true,false,false,false,false,false,false,false,false] rfl rfl (bD HT_.o (by kernel_rfl)) (fun _ _ _ h=>h) (Or.inr ⟨by rfl,rfl⟩) ?_ ?_
   rotate_left
   ·simp only[Act.put,List.setIfInBounds_toArray,List.set_cons_zero,List.set_cons_succ,i64_w,i32_w]
    rfl
   refine pure_ (i:=10) (N:=some 31) (v:=undef) (a':=?_) #[true,true,true,true,true,true,true,true,true,true,true,false,false,false,false,false,false,false] rfl rfl (bD HT_.o (by kernel_rfl)) (fun _ _ _ h=>h) (Or.inr ⟨by rfl,rfl⟩) ?_ ?_
   rotate_left
   ·simp only[Act.put,List.setIfInBounds_toArray,List.set_cons_zero,List.set_cons_succ,i64_w,i32_w]
    rfl
   refine pure_ (i:=11) (N:=some 32) (v:=undef) (a':=?_) #[true,true,true,true,true,true,true,true,true,true,true,true,false,false,false,false,false,false] rfl rfl (bD HT_.o (by kernel_rfl)) (fun _ _ _ h=>h) (Or.inr ⟨by rfl,rfl⟩) ?_ ?_
   rotate_left
   ·simp only[Act.put,List.setIfInBounds_toArray,List.set_cons_zero,List.set_cons_succ,i64_w,i32_w]
    rfl
   refine pure_ (i:=12) (N:=some 33) (v:=undef) (a':=?_) #[true,true,true,true,true,true,true,true,true,true,true,true,true,false,false,false,false,false] rfl rfl (bD HT_.o (by kernel_rfl)) (fun _ _ _ h=>h) (Or.inr ⟨by rfl,rfl⟩) ?_ ?_
   rotate_left
   ·simp only[Act.put,List.setIfInBounds_toArray,List.set_cons_zero,List.set_cons_succ,i64_w,i32_w]
    rfl
   refine pure_ (i:=13) (N:=some 34) (v:=undef) (a':=?_) #[true,true,true,true,true,true,true,true,true,true,true,true,true,true,false,false,false,false] rfl rfl (bD HT_.o (by kernel_rfl)) (fun _ _ _ h=>h) (Or.inr ⟨by rfl,rfl⟩) ?_ ?_
   rotate_left
   ·simp only[Act.put,List.setIfInBounds_toArray,List.set_cons_zero,List.set_cons_succ,i64_w,i32_w]
    rfl
   refine pure_ (i:=14) (N:=some 35) (v:=undef) (a':=?_) #[true,true,true,true,true,true,true,true,true,true,true,true,true,true,true,false,false,false] rfl rfl (bD HT_.o (by kernel_rfl)) (fun _ _ _ h=>h) (Or.inr ⟨by rfl,rfl⟩) ?_ ?_
   rotate_left
   ·simp only[Act.put,List.setIfInBounds_toArray,List.set_cons_zero,List.set_cons_succ,i64_w,i32_w]
    rfl
   refine pure_ (i:=15) (N:=some 36) (v:=undef) (a':=?_) #[true,true,true,true,true,true,true,true,true,true,true,true,true,true,true,true,false,false] rfl rfl (bD HT_.o (by kernel_rfl)) (fun _ _ _ h=>h) (Or.inr ⟨by rfl,rfl⟩) ?_ ?_
   rotate_left
   ·simp only[Act.put,List.setIfInBounds_toArray,List.set_cons_zero,List.set_cons_succ,i64_w,i32_w]
    rfl
   refine pure_ (i:=16) (N:=some 37) (v:=?_) (a':=?_) #[true,true,true,true,true,true,true,true,true,true,true,true,true,true,true,true,true,false] rfl rfl (bD HT_.o (by kernel_rfl)) (fun _ _ _ h=>h) (Or.inl ⟨by rfl,?_⟩) ?_ ?_
   rotate_left
   ·intro w'
    go_simp
    with_reducible rfl
   rotate_left
   ·simp only[Act.put,List.setIfInBounds_toArray,List.set_cons_zero,List.set_cons_succ,i64_w,i32_w]
    rfl
   refine pure_ (i:=17) (N:=some 4) (v:=?_) (a':=?_) #[true,true,true,true,true,true,true,true,true,true,true,true,true,true,true,true,true,true] rfl rfl (bD HT_.o (by kernel_rfl)) (fun _ _ _ h=>h) (Or.inl ⟨by rfl,?_⟩) ?_ ?_
   rotate_left
   ·intro w'
    go_simp
    with_reducible rfl
   rotate_left
   ·simp only[Act.put,List.setIfInBounds_toArray,List.set_cons_zero,List.set_cons_succ,i64_w,i32_w]
    rfl
   refine done_ (done_of HT_.o (by kernel_rfl)) ?_
   try go_wp2
   go_ret
   exact⟨by first|rfl|(simp[az,aA] <;> rfl)|(simp[*,az,aA] <;> rfl),by repeat(first|(with_reducible first|exact HB.o|apply ae|apply aa|apply af|refine ax ?_ GE192.o)|exact HB.o)⟩
 ·replace c4:=Bool.eq_false_iff.mpr c4
  subst c4
  have H1:(some false)=some r:=by rw[if_neg (show ¬ (false=true) by decide)] at H;exact H
  clear H
  have H:=H1
  clear H1
  obtain rfl:=Option.some.inj H
  go_enter Tryd.func7,Tryd.ntmps7
  go_wp2_with (first|((with_reducible refine aM (N:=2) rfl ?_);refine aJ ?hg (N:=2) ?hd (cs:=#[.string a0_0,.int .i64 a0_1,.int .i64 a0_2]) (t:=41) ?hr ?_;(case hd=>rfl);(case hg=>rfl);(case hr=>first|(go_simp;done)|(go_simp;rfl));intro gb192 hg w28 hbox hb;have n0_:=ag.mk (aj (by repeat(first|(with_reducible first|exact HB.o|apply ae|apply aa|apply af)|exact HB.o)) hb);have n1_:=ag.mk (hbox);have n2_:=ag.mk ((by rw[hg];exact(ak (by repeat(first|(with_reducible first|exact HB.o|apply ae|apply aa|apply af)|exact HB.o))):w.heap.size≤gb192));have n3_:=ag.mk ((by rw[hg];exact(ak (by repeat(first|(with_reducible first|exact HB.o|apply ae|apply aa|apply af)|exact HB.o))):w.heap.size≤gb192));clear HB;have HB:=n0_;have BK192:=n1_;have GW192:=n2_;have GE192:=n3_;clear n0_ n1_ n2_ n3_;clear hb hbox hg)|((with_reducible refine aG (f:=10) rfl ?_);refine aU (some 9) rfl rfl Tryd.func10 (by kernel_rfl) rfl #[] rfl (by (try simp only[List.map_toArray,List.map_cons,List.map_nil]);first|done|rfl|(simp only[List.length_drop,List.length_take];rfl)) ?_;(with_reducible refine(pylonlaw09_awake.calls false _ A3.o).mono ?_);rintro e w29 ⟨rfl,hb⟩;refine⟨_,rfl,?_⟩;have n0_:=ag.mk (aD (g:=gb192) (o:=.cells #[.string a0_0,.int .i64 a0_1,.int .i64 a0_2] 41 (0,0)) (by (with_reducible repeat(first|refine av ?_ _|refine ay ?_|refine au ?_ _));exact BK192.o) hb);have n1_:=ag.mk (aj (by repeat(first|(with_reducible first|exact HB.o|apply ae|apply aa|apply af|refine ax ?_ GE192.o)|exact HB.o)) hb);clear BK192;clear HB;have BK192:=n0_;have HB:=n1_;clear n0_ n1_;(try clear hb);(try clear hb2);(try clear hk);(try clear hi)))
  go_ret
  exact⟨by first|rfl|(simp[az,aA] <;> rfl)|(simp[*,az,aA] <;> rfl),by repeat(first|(with_reducible first|exact HB.o|apply ae|apply aa|apply af|refine ax ?_ GE192.o)|exact HB.o)⟩
end Go.Proofs.YtcmhfcciapenfaaDoor.Pa
