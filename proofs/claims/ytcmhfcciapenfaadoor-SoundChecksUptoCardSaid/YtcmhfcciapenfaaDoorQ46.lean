/- A part of the proof. -/
import Derived.Test.YtcmhfcciapenfaaDoorQ44
set_option linter.all false
namespace Go.Proofs.YtcmhfcciapenfaaDoor.Pa
open Go.RowKit Go.Proofs.YtcmhfcciapenfaaDoorW.PrintWords Go.Proofs.YtcmhfcciapenfaaDoorW.PrintLast Go.Proofs.YtcmhfcciapenfaaDoorW.PrintMore
attribute [local go_sem] bL bM bV bW bF bG bN bO
def pylonlaw09_SoundHolds.j0:Nat → Int → Int → Int → Bool → ByteArray → Int → Int → Option (Bool)
 |0,_,_,_,_,_,_,_=>none
 |k+1,x7,x8,x9,x46,x205000,x205001,x205002=>if x46=true then (some false) else ((sound_Day.f x7).bind fun bt209=>((sound_Day.f x8).bind fun bt211=>((sound_Day.f x9).bind fun bt213=>(if bt209.2=0 then (if bt211.2=0 then (if bt213.2=0 then (if bt209.1 < 1 then (some false) else (if bt209.1 > 366 then (some false) else (if bt211.1 < 1 then (some false) else (if bt211.1 > 366 then (some false) else (if bt213.1 < 1 then (some false) else (if bt213.1 > 366 then (some false) else ((sound_Holds.f k x205000 x205001 x205002 x9).bind fun t215=>(some (t215 == (decide ((Int.tmod (wrap64 ((wrap64 (bt213.1 - bt209.1))+366)) 366) < (wrap64 ((Int.tmod (wrap64 ((wrap64 (bt211.1 - bt209.1))+366)) 366)+1))))))))))))) else (some false)) else (some false)) else (some false)))))
def pylonlaw09_SoundHolds.f (k:Nat) (a0:Int) (a1:Int) (a2:Int):Option (Bool):=(pylonlaw09_awake.f).bind fun t200=>(if t200=true then ((pylonlaw09_md.f k a0).bind fun t201=>((pylonlaw09_md.f k a1).bind fun t202=>((pylonlaw09_md.f k a2).bind fun t203=>((sound_Holds.f k (⟨#[115]⟩ : ByteArray) t201 t202 t201).bind fun t205=>(if t205=true then ((sound_Holds.f k (⟨#[115]⟩ : ByteArray) t201 t202 t202).bind fun t206=>(if t206=true then ((sound_Holds.f k (⟨#[115]⟩ : ByteArray) t201 t202 230).bind fun t207=>(if t207=true then (pylonlaw09_SoundHolds.j0 k t201 t202 t203 true (⟨#[115]⟩ : ByteArray) t201 t202) else ((sound_Holds.f k (⟨#[115]⟩ : ByteArray) t201 t202 0).bind fun t208=>(pylonlaw09_SoundHolds.j0 k t201 t202 t203 t208 (⟨#[115]⟩ : ByteArray) t201 t202)))) else (pylonlaw09_SoundHolds.j0 k t201 t202 t203 true (⟨#[115]⟩ : ByteArray) t201 t202))) else (pylonlaw09_SoundHolds.j0 k t201 t202 t203 true (⟨#[115]⟩ : ByteArray) t201 t202)))))) else (some false))
theorem pylonlaw09_SoundHolds.mono_l : ∀ k,(∀ y0 y1 y2 y3 y4 y5 y6,LeO (pylonlaw09_SoundHolds.j0 k y0 y1 y2 y3 y4 y5 y6) (pylonlaw09_SoundHolds.j0 (k+1) y0 y1 y2 y3 y4 y5 y6))
 |0=>fun _ _ _ _ _ _ _ r h=>by simp[pylonlaw09_SoundHolds.j0] at h
 |k+1=>by
  have ih0:=pylonlaw09_SoundHolds.mono_l k
  ·intro y0 y1 y2 y3 y4 y5 y6
   unfold pylonlaw09_SoundHolds.j0
   repeat' first
   |(with_reducible exact ih0 _ _ _ _ _ _ _)
   |(with_reducible exact pylonlaw09_md.mono _ _)
   |(with_reducible exact sound_Holds.mono _ _ _ _ _)
   |(with_reducible exact LeO.refl _)
   |(with_reducible exact LeO.none _)
   |(with_reducible refine LeO.ite ?_ ?_)
   |(with_reducible refine LeO.bind ?_ (fun _=>?_))
   |exact ih0 _ _ _ _ _ _ _
   |exact pylonlaw09_md.mono _ _
   |exact sound_Holds.mono _ _ _ _ _
   |exact LeO.none _
   |refine LeO.ite ?_ ?_
   |refine LeO.bind ?_ (fun _=>?_)
theorem pylonlaw09_SoundHolds.mono : ∀ a0 a1 a2 k,LeO (pylonlaw09_SoundHolds.f k a0 a1 a2) (pylonlaw09_SoundHolds.f (k+1) a0 a1 a2):=by
 intro a0 a1 a2 k
 have ih0:=pylonlaw09_SoundHolds.mono_l k
 unfold pylonlaw09_SoundHolds.f
 repeat' first
   |(with_reducible exact ih0 _ _ _ _ _ _ _)
   |(with_reducible exact pylonlaw09_md.mono _ _)
   |(with_reducible exact sound_Holds.mono _ _ _ _ _)
   |(with_reducible exact LeO.refl _)
   |(with_reducible exact LeO.none _)
   |(with_reducible refine LeO.ite ?_ ?_)
   |(with_reducible refine LeO.bind ?_ (fun _=>?_))
   |exact ih0 _ _ _ _ _ _ _
   |exact pylonlaw09_md.mono _ _
   |exact sound_Holds.mono _ _ _ _ _
   |exact LeO.none _
   |refine LeO.ite ?_ ?_
   |refine LeO.bind ?_ (fun _=>?_)
set_option maxHeartbeats 8000000 in
set_option maxRecDepth 100000 in
theorem pylonlaw09_SoundHolds.calls (k:Nat) (a0:Int) (a1:Int) (a2:Int) (r:Bool) (w:World) (h:pylonlaw09_SoundHolds.f k a0 a1 a2=some r) :
  Calls Tryd.prog 8 #[.int .i64 a0,.int .i64 a1,.int .i64 a2] w fun e w'=>e = .returned (.bool r)∧Below w.heap.size w w':=by
 have hu41:=Tryd.underlying41
 have HB:=ag.mk (Below.refl w.heap.size w)
 have H:((pylonlaw09_awake.f).bind fun t200=>(if t200=true then ((pylonlaw09_md.f k a0).bind fun t201=>((pylonlaw09_md.f k a1).bind fun t202=>((pylonlaw09_md.f k a2).bind fun t203=>((sound_Holds.f k (⟨#[115]⟩ : ByteArray) t201 t202 t201).bind fun t205=>(if t205=true then ((sound_Holds.f k (⟨#[115]⟩ : ByteArray) t201 t202 t202).bind fun t206=>(if t206=true then ((sound_Holds.f k (⟨#[115]⟩ : ByteArray) t201 t202 230).bind fun t207=>(if t207=true then (pylonlaw09_SoundHolds.j0 k t201 t202 t203 true (⟨#[115]⟩ : ByteArray) t201 t202) else ((sound_Holds.f k (⟨#[115]⟩ : ByteArray) t201 t202 0).bind fun t208=>(pylonlaw09_SoundHolds.j0 k t201 t202 t203 t208 (⟨#[115]⟩ : ByteArray) t201 t202)))) else (pylonlaw09_SoundHolds.j0 k t201 t202 t203 true (⟨#[115]⟩ : ByteArray) t201 t202))) else (pylonlaw09_SoundHolds.j0 k t201 t202 t203 true (⟨#[115]⟩ : ByteArray) t201 t202)))))) else (some false)))=some r:=h
 clear h
 replace H:=Option.bind_eq_some_iff.mp H
 obtain⟨t200,A40,H⟩:=H
 replace H:(if t200=true then ((pylonlaw09_md.f k a0).bind fun t201=>((pylonlaw09_md.f k a1).bind fun t202=>((pylonlaw09_md.f k a2).bind fun t203=>((sound_Holds.f k (⟨#[115]⟩ : ByteArray) t201 t202 t201).bind fun t205=>(if t205=true then ((sound_Holds.f k (⟨#[115]⟩ : ByteArray) t201 t202 t202).bind fun t206=>(if t206=true then ((sound_Holds.f k (⟨#[115]⟩ : ByteArray) t201 t202 230).bind fun t207=>(if t207=true then (pylonlaw09_SoundHolds.j0 k t201 t202 t203 true (⟨#[115]⟩ : ByteArray) t201 t202) else ((sound_Holds.f k (⟨#[115]⟩ : ByteArray) t201 t202 0).bind fun t208=>(pylonlaw09_SoundHolds.j0 k t201 t202 t203 t208 (⟨#[115]⟩ : ByteArray) t201 t202)))) else (pylonlaw09_SoundHolds.j0 k t201 t202 t203 true (⟨#[115]⟩ : ByteArray) t201 t202))) else (pylonlaw09_SoundHolds.j0 k t201 t202 t203 true (⟨#[115]⟩ : ByteArray) t201 t202)))))) else (some false))=some r:=H
 have A4:=ag.mk A40
 clear A40
 by_cases c5:t200=true
 ·subst c5
  have H1:((pylonlaw09_md.f k a0).bind fun t201=>((pylonlaw09_md.f k a1).bind fun t202=>((pylonlaw09_md.f k a2).bind fun t203=>((sound_Holds.f k (⟨#[115]⟩ : ByteArray) t201 t202 t201).bind fun t205=>(if t205=true then ((sound_Holds.f k (⟨#[115]⟩ : ByteArray) t201 t202 t202).bind fun t206=>(if t206=true then ((sound_Holds.f k (⟨#[115]⟩ : ByteArray) t201 t202 230).bind fun t207=>(if t207=true then (pylonlaw09_SoundHolds.j0 k t201 t202 t203 true (⟨#[115]⟩ : ByteArray) t201 t202) else ((sound_Holds.f k (⟨#[115]⟩ : ByteArray) t201 t202 0).bind fun t208=>(pylonlaw09_SoundHolds.j0 k t201 t202 t203 t208 (⟨#[115]⟩ : ByteArray) t201 t202)))) else (pylonlaw09_SoundHolds.j0 k t201 t202 t203 true (⟨#[115]⟩ : ByteArray) t201 t202))) else (pylonlaw09_SoundHolds.j0 k t201 t202 t203 true (⟨#[115]⟩ : ByteArray) t201 t202))))))=some r:=by rw[if_pos rfl] at H;exact H
  clear H
  have H:=H1
  clear H1
  replace H:=Option.bind_eq_some_iff.mp H
  obtain⟨t201,A60,H⟩:=H
  replace H:((pylonlaw09_md.f k a1).bind fun t202=>((pylonlaw09_md.f k a2).bind fun t203=>((sound_Holds.f k (⟨#[115]⟩ : ByteArray) t201 t202 t201).bind fun t205=>(if t205=true then ((sound_Holds.f k (⟨#[115]⟩ : ByteArray) t201 t202 t202).bind fun t206=>(if t206=true then ((sound_Holds.f k (⟨#[115]⟩ : ByteArray) t201 t202 230).bind fun t207=>(if t207=true then (pylonlaw09_SoundHolds.j0 k t201 t202 t203 true (⟨#[115]⟩ : ByteArray) t201 t202) else ((sound_Holds.f k (⟨#[115]⟩ : ByteArray) t201 t202 0).bind fun t208=>(pylonlaw09_SoundHolds.j0 k t201 t202 t203 t208 (⟨#[115]⟩ : ByteArray) t201 t202)))) else (pylonlaw09_SoundHolds.j0 k t201 t202 t203 true (⟨#[115]⟩ : ByteArray) t201 t202))) else (pylonlaw09_SoundHolds.j0 k t201 t202 t203 true (⟨#[115]⟩ : ByteArray) t201 t202)))))=some r:=H
  have A6:=ag.mk A60
  clear A60
  replace H:=Option.bind_eq_some_iff.mp H
  obtain⟨t202,A70,H⟩:=H
  replace H:((pylonlaw09_md.f k a2).bind fun t203=>((sound_Holds.f k (⟨#[115]⟩ : ByteArray) t201 t202 t201).bind fun t205=>(if t205=true then ((sound_Holds.f k (⟨#[115]⟩ : ByteArray) t201 t202 t202).bind fun t206=>(if t206=true then ((sound_Holds.f k (⟨#[115]⟩ : ByteArray) t201 t202 230).bind fun t207=>(if t207=true then (pylonlaw09_SoundHolds.j0 k t201 t202 t203 true (⟨#[115]⟩ : ByteArray) t201 t202) else ((sound_Holds.f k (⟨#[115]⟩ : ByteArray) t201 t202 0).bind fun t208=>(pylonlaw09_SoundHolds.j0 k t201 t202 t203 t208 (⟨#[115]⟩ : ByteArray) t201 t202)))) else (pylonlaw09_SoundHolds.j0 k t201 t202 t203 true (⟨#[115]⟩ : ByteArray) t201 t202))) else (pylonlaw09_SoundHolds.j0 k t201 t202 t203 true (⟨#[115]⟩ : ByteArray) t201 t202))))=some r:=H
  have A7:=ag.mk A70
  clear A70
  replace H:=Option.bind_eq_some_iff.mp H
  obtain⟨t203,A80,H⟩:=H
  replace H:((sound_Holds.f k (⟨#[115]⟩ : ByteArray) t201 t202 t201).bind fun t205=>(if t205=true then ((sound_Holds.f k (⟨#[115]⟩ : ByteArray) t201 t202 t202).bind fun t206=>(if t206=true then ((sound_Holds.f k (⟨#[115]⟩ : ByteArray) t201 t202 230).bind fun t207=>(if t207=true then (pylonlaw09_SoundHolds.j0 k t201 t202 t203 true (⟨#[115]⟩ : ByteArray) t201 t202) else ((sound_Holds.f k (⟨#[115]⟩ : ByteArray) t201 t202 0).bind fun t208=>(pylonlaw09_SoundHolds.j0 k t201 t202 t203 t208 (⟨#[115]⟩ : ByteArray) t201 t202)))) else (pylonlaw09_SoundHolds.j0 k t201 t202 t203 true (⟨#[115]⟩ : ByteArray) t201 t202))) else (pylonlaw09_SoundHolds.j0 k t201 t202 t203 true (⟨#[115]⟩ : ByteArray) t201 t202)))=some r:=H
  have A8:=ag.mk A80
  clear A80
  have HC9:=ag.mk H
  clear H
  go_enter Tryd.func8,Tryd.ntmps8
  go_upto_region 5 with (first|((with_reducible refine aG (f:=10) rfl ?_);refine aU (some 18) rfl rfl Tryd.func10 (by kernel_rfl) rfl #[] rfl (by (try simp only[List.map_toArray,List.map_cons,List.map_nil]);first|done|rfl|(simp only[List.length_drop,List.length_take];rfl)) ?_;(with_reducible refine(pylonlaw09_awake.calls true _ A4.o).mono ?_);rintro e w10 ⟨rfl,hb⟩;refine⟨_,rfl,?_⟩;have n0_:=ag.mk (aj (by repeat(first|(with_reducible first|exact HB.o|apply ae|apply aa|apply af)|exact HB.o)) hb);clear HB;have HB:=n0_;clear n0_;(try clear hb);(try clear hb2);(try clear hk);(try clear hi))|((with_reducible refine aG (f:=19) rfl ?_);refine aU (some 21) rfl rfl Tryd.func19 (by kernel_rfl) rfl #[.int .i64 a0] rfl (by (try simp only[List.map_toArray,List.map_cons,List.map_nil]);first|done|rfl|(simp only[List.length_drop,List.length_take];rfl)) ?_;(with_reducible refine(pylonlaw09_md.calls k a0 t201 _ A6.o).mono ?_);rintro e w' ⟨rfl,⟨nd,rfl⟩⟩;refine⟨_,rfl,?_⟩;(try (rw[fB w10];generalize hq_:World.drewN w10 _=w10;have n0_:ag (Below w.heap.size w w10):=⟨by rw[← hq_];exact(by repeat(first|(with_reducible first|exact HB.o|apply ae|apply aa|apply af)|exact HB.o))⟩;clear HB hq_;have HB:=n0_;clear n0_)))|((with_reducible refine aG (f:=19) rfl ?_);refine aU (some 23) rfl rfl Tryd.func19 (by kernel_rfl) rfl #[.int .i64 a1] rfl (by (try simp only[List.map_toArray,List.map_cons,List.map_nil]);first|done|rfl|(simp only[List.length_drop,List.length_take];rfl)) ?_;(with_reducible refine(pylonlaw09_md.calls k a1 t202 _ A7.o).mono ?_);rintro e w' ⟨rfl,⟨nd,rfl⟩⟩;refine⟨_,rfl,?_⟩;(try (rw[fB w10];generalize hq_:World.drewN w10 _=w10;have n0_:ag (Below w.heap.size w w10):=⟨by rw[← hq_];exact(by repeat(first|(with_reducible first|exact HB.o|apply ae|apply aa|apply af)|exact HB.o))⟩;clear HB hq_;have HB:=n0_;clear n0_)))|((with_reducible refine aG (f:=19) rfl ?_);refine aU (some 25) rfl rfl Tryd.func19 (by kernel_rfl) rfl #[.int .i64 a2] rfl (by (try simp only[List.map_toArray,List.map_cons,List.map_nil]);first|done|rfl|(simp only[List.length_drop,List.length_take];rfl)) ?_;(with_reducible refine(pylonlaw09_md.calls k a2 t203 _ A8.o).mono ?_);rintro e w' ⟨rfl,⟨nd,rfl⟩⟩;refine⟨_,rfl,?_⟩;(try (rw[fB w10];generalize hq_:World.drewN w10 _=w10;have n0_:ag (Below w.heap.size w w10):=⟨by rw[← hq_];exact(by repeat(first|(with_reducible first|exact HB.o|apply ae|apply aa|apply af)|exact HB.o))⟩;clear HB hq_;have HB:=n0_;clear n0_)))|((with_reducible refine aM (N:=10) rfl ?_);refine aJ ?hg (N:=10) ?hd (cs:=#[.string (⟨#[]⟩ : ByteArray),.int .i64 0,.int .i64 0]) (t:=41) ?hr ?_;(case hd=>rfl);(case hg=>rfl);(case hr=>first|(go_simp;done)|(go_simp;rfl));intro gb204 hg w11 hbox hb;have n0_:=ag.mk (aj (by repeat(first|(with_reducible first|exact HB.o|apply ae|apply aa|apply af)|exact HB.o)) hb);have n1_:=ag.mk (hbox);have n2_:=ag.mk ((by rw[hg];exact(ak (by repeat(first|(with_reducible first|exact HB.o|apply ae|apply aa|apply af)|exact HB.o))):w.heap.size≤gb204));have n3_:=ag.mk ((by rw[hg];exact(ak (by repeat(first|(with_reducible first|exact HB.o|apply ae|apply aa|apply af)|exact HB.o))):w.heap.size≤gb204));clear HB;have HB:=n0_;have BK204:=n1_;have GW204:=n2_;have GE204:=n3_;clear n0_ n1_ n2_ n3_;clear hb hbox hg;have hcz12_0:w11.cell? ⟨gb204,0,none⟩=some (.string (⟨#[]⟩ : ByteArray)):=(ah BK204.o 0).trans rfl;have hcz12_1:w11.cell? ⟨gb204,1,none⟩=some (.int .i64 0):=(ah BK204.o 1).trans rfl;have hcz12_2:w11.cell? ⟨gb204,2,none⟩=some (.int .i64 0):=(ah BK204.o 2).trans rfl;have hfz12_0:=ai BK204.o 0;have hfz12_1:=ai BK204.o 1;have hfz12_2:=ai BK204.o 2))
  (try simp only[Act.put,List.setIfInBounds_toArray,List.set_cons_zero,List.set_cons_succ])
  go_cut [46] (fun v46 wc=>∃ (kq:Nat) (x46_8:Bool),v46 = .bool x46_8∧ag (pylonlaw09_SoundHolds.j0 kq t201 t202 t203 x46_8 (⟨#[115]⟩ : ByteArray) t201 t202=some r)∧ag (kq≤k)∧ag (wc.heap[gb204]? = some (.cells #[.string (⟨#[115]⟩ : ByteArray),.int .i64 t201,.int .i64 t202] 41 (0,0)))∧ag (Below w.heap.size w wc))
  case first=>
   have H:=HC9.o
   clear HC9
   replace H:=Option.bind_eq_some_iff.mp H
   obtain⟨t205,A130,H⟩:=H
   replace H:(if t205=true then ((sound_Holds.f k (⟨#[115]⟩ : ByteArray) t201 t202 t202).bind fun t206=>(if t206=true then ((sound_Holds.f k (⟨#[115]⟩ : ByteArray) t201 t202 230).bind fun t207=>(if t207=true then (pylonlaw09_SoundHolds.j0 k t201 t202 t203 true (⟨#[115]⟩ : ByteArray) t201 t202) else ((sound_Holds.f k (⟨#[115]⟩ : ByteArray) t201 t202 0).bind fun t208=>(pylonlaw09_SoundHolds.j0 k t201 t202 t203 t208 (⟨#[115]⟩ : ByteArray) t201 t202)))) else (pylonlaw09_SoundHolds.j0 k t201 t202 t203 true (⟨#[115]⟩ : ByteArray) t201 t202))) else (pylonlaw09_SoundHolds.j0 k t201 t202 t203 true (⟨#[115]⟩ : ByteArray) t201 t202))=some r:=H
   have A13:=ag.mk A130
   clear A130
   by_cases c14:t205=true
   ·subst c14
    have H1:((sound_Holds.f k (⟨#[115]⟩ : ByteArray) t201 t202 t202).bind fun t206=>(if t206=true then ((sound_Holds.f k (⟨#[115]⟩ : ByteArray) t201 t202 230).bind fun t207=>(if t207=true then (pylonlaw09_SoundHolds.j0 k t201 t202 t203 true (⟨#[115]⟩ : ByteArray) t201 t202) else ((sound_Holds.f k (⟨#[115]⟩ : ByteArray) t201 t202 0).bind fun t208=>(pylonlaw09_SoundHolds.j0 k t201 t202 t203 t208 (⟨#[115]⟩ : ByteArray) t201 t202)))) else (pylonlaw09_SoundHolds.j0 k t201 t202 t203 true (⟨#[115]⟩ : ByteArray) t201 t202)))=some r:=by rw[if_pos rfl] at H;exact H
    clear H
    have H:=H1
    clear H1
    replace H:=Option.bind_eq_some_iff.mp H
    obtain⟨t206,A150,H⟩:=H
    replace H:(if t206=true then ((sound_Holds.f k (⟨#[115]⟩ : ByteArray) t201 t202 230).bind fun t207=>(if t207=true then (pylonlaw09_SoundHolds.j0 k t201 t202 t203 true (⟨#[115]⟩ : ByteArray) t201 t202) else ((sound_Holds.f k (⟨#[115]⟩ : ByteArray) t201 t202 0).bind fun t208=>(pylonlaw09_SoundHolds.j0 k t201 t202 t203 t208 (⟨#[115]⟩ : ByteArray) t201 t202)))) else (pylonlaw09_SoundHolds.j0 k t201 t202 t203 true (⟨#[115]⟩ : ByteArray) t201 t202))=some r:=H
    have A15:=ag.mk A150
    clear A150
    by_cases c16:t206=true
    ·subst c16
     have H1:((sound_Holds.f k (⟨#[115]⟩ : ByteArray) t201 t202 230).bind fun t207=>(if t207=true then (pylonlaw09_SoundHolds.j0 k t201 t202 t203 true (⟨#[115]⟩ : ByteArray) t201 t202) else ((sound_Holds.f k (⟨#[115]⟩ : ByteArray) t201 t202 0).bind fun t208=>(pylonlaw09_SoundHolds.j0 k t201 t202 t203 t208 (⟨#[115]⟩ : ByteArray) t201 t202))))=some r:=by rw[if_pos rfl] at H;exact H
     clear H
     have H:=H1
     clear H1
     replace H:=Option.bind_eq_some_iff.mp H
     obtain⟨t207,A170,H⟩:=H
     replace H:(if t207=true then (pylonlaw09_SoundHolds.j0 k t201 t202 t203 true (⟨#[115]⟩ : ByteArray) t201 t202) else ((sound_Holds.f k (⟨#[115]⟩ : ByteArray) t201 t202 0).bind fun t208=>(pylonlaw09_SoundHolds.j0 k t201 t202 t203 t208 (⟨#[115]⟩ : ByteArray) t201 t202)))=some r:=H
     have A17:=ag.mk A170
     clear A170
     by_cases c18:t207=true
     ·subst c18
      have H1:(pylonlaw09_SoundHolds.j0 k t201 t202 t203 true (⟨#[115]⟩ : ByteArray) t201 t202)=some r:=by rw[if_pos rfl] at H;exact H
      clear H
      have H:=H1
      clear H1
      have H':=ag.mk H
      clear H
      have hcz19_0:w11.cell? ⟨gb204,0,none⟩=some (.string (⟨#[]⟩ : ByteArray)):=(ah BK204.o 0).trans rfl
      have hcz19_1:w11.cell? ⟨gb204,1,none⟩=some (.int .i64 0):=(ah BK204.o 1).trans rfl
      have hcz19_2:w11.cell? ⟨gb204,2,none⟩=some (.int .i64 0):=(ah BK204.o 2).trans rfl
      have hfz19_0:=ai BK204.o 0
      have hfz19_1:=ai BK204.o 1
      have hfz19_2:=ai BK204.o 2
      go_wp2_with (first|((with_reducible refine aG (f:=17) rfl ?_);refine aU (some 31) rfl rfl Tryd.func17 (by kernel_rfl) rfl #[.agg #[.string (⟨#[115]⟩ : ByteArray),.int .i64 t201,.int .i64 t202],.int .i64 t201] rfl (by (try simp only[List.map_toArray,List.map_cons,List.map_nil]);first|done|rfl|(simp only[List.length_drop,List.length_take];rfl)) ?_;(with_reducible refine(sound_Holds.calls k (⟨#[115]⟩ : ByteArray) t201 t202 t201 true _ A13.o).mono ?_);rintro e w20 ⟨rfl,hb⟩;refine⟨_,rfl,?_⟩;have n0_:=ag.mk (aD (g:=gb204) (o:=.cells #[.string (⟨#[115]⟩ : ByteArray),.int .i64 t201,.int .i64 t202] 41 (0,0)) (by (with_reducible repeat(first|refine av ?_ _|refine ay ?_|refine au ?_ _));refine bg (cs:=#[.string (⟨#[115]⟩ : ByteArray),.int .i64 t201,.int .i64 0]) ?_ 2 _ rfl;(with_reducible repeat(first|refine av ?_ _|refine ay ?_|refine au ?_ _));refine bg (cs:=#[.string (⟨#[115]⟩ : ByteArray),.int .i64 0,.int .i64 0]) ?_ 1 _ rfl;(with_reducible repeat(first|refine av ?_ _|refine ay ?_|refine au ?_ _));refine bg (cs:=#[.string (⟨#[]⟩ : ByteArray),.int .i64 0,.int .i64 0]) ?_ 0 _ rfl;(with_reducible repeat(first|refine av ?_ _|refine ay ?_|refine au ?_ _));exact BK204.o) hb);have n1_:=ag.mk (aj (by repeat(first|(with_reducible first|exact HB.o|apply ae|apply aa|apply af|refine ax ?_ GE204.o)|exact HB.o)) hb);clear BK204;clear HB;have BK204:=n0_;have HB:=n1_;clear n0_ n1_;(try clear hb);(try clear hb2);(try clear hk);(try clear hi);have hcz21_0:w20.cell? ⟨gb204,0,none⟩=some (.string (⟨#[115]⟩ : ByteArray)):=(ah BK204.o 0).trans rfl;have hcz21_1:w20.cell? ⟨gb204,1,none⟩=some (.int .i64 t201):=(ah BK204.o 1).trans rfl;have hcz21_2:w20.cell? ⟨gb204,2,none⟩=some (.int .i64 t202):=(ah BK204.o 2).trans rfl;have hfz21_0:=ai BK204.o 0;have hfz21_1:=ai BK204.o 1;have hfz21_2:=ai BK204.o 2)|(go_at_call 17;(with_reducible refine(sound_Holds.calls k (⟨#[115]⟩ : ByteArray) t201 t202 t202 true _ A15.o).mono ?_);rintro e w22 ⟨rfl,hb⟩;have n0_:=ag.mk (aD (g:=gb204) (o:=.cells #[.string (⟨#[115]⟩ : ByteArray),.int .i64 t201,.int .i64 t202] 41 (0,0)) (by (with_reducible repeat(first|refine av ?_ _|refine ay ?_|refine au ?_ _));exact BK204.o) hb);have n1_:=ag.mk (aj (by repeat(first|(with_reducible first|exact HB.o|apply ae|apply aa|apply af|refine ax ?_ GE204.o)|exact HB.o)) hb);clear BK204;clear HB;have BK204:=n0_;have HB:=n1_;clear n0_ n1_;(try clear hb);(try clear hb2);(try clear hk);(try clear hi);have hcz23_0:w22.cell? ⟨gb204,0,none⟩=some (.string (⟨#[115]⟩ : ByteArray)):=(ah BK204.o 0).trans rfl;have hcz23_1:w22.cell? ⟨gb204,1,none⟩=some (.int .i64 t201):=(ah BK204.o 1).trans rfl;have hcz23_2:w22.cell? ⟨gb204,2,none⟩=some (.int .i64 t202):=(ah BK204.o 2).trans rfl;have hfz23_0:=ai BK204.o 0;have hfz23_1:=ai BK204.o 1;have hfz23_2:=ai BK204.o 2)|(go_at_call 17;(with_reducible refine(sound_Holds.calls k (⟨#[115]⟩ : ByteArray) t201 t202 230 true _ A17.o).mono ?_);rintro e w24 ⟨rfl,hb⟩;have n0_:=ag.mk (aD (g:=gb204) (o:=.cells #[.string (⟨#[115]⟩ : ByteArray),.int .i64 t201,.int .i64 t202] 41 (0,0)) (by (with_reducible repeat(first|refine av ?_ _|refine ay ?_|refine au ?_ _));exact BK204.o) hb);have n1_:=ag.mk (aj (by repeat(first|(with_reducible first|exact HB.o|apply ae|apply aa|apply af|refine ax ?_ GE204.o)|exact HB.o)) hb);clear BK204;clear HB;have BK204:=n0_;have HB:=n1_;clear n0_ n1_;(try clear hb);(try clear hb2);(try clear hk);(try clear hi)))
      go_meet
      case rel=>exact⟨_,(true),(by first|rfl|(simp;done)|(simp[*];done)|(simp[aN];done)|(simp[aQ];done)),H',⟨by first|omega|exact Nat.le_refl _⟩,⟨by (with_reducible repeat(first|refine av ?_ _|refine ay ?_|refine au ?_ _));exact BK204.o⟩,⟨by repeat(first|(with_reducible first|exact HB.o|apply ae|apply aa|apply af|refine ax ?_ GE204.o)|exact HB.o)⟩⟩
     ·replace c18:=Bool.eq_false_iff.mpr c18
      subst c18
      have H1:((sound_Holds.f k (⟨#[115]⟩ : ByteArray) t201 t202 0).bind fun t208=>(pylonlaw09_SoundHolds.j0 k t201 t202 t203 t208 (⟨#[115]⟩ : ByteArray) t201 t202))=some r:=by rw[if_neg (show ¬ (false=true) by decide)] at H;exact H
      clear H
      have H:=H1
      clear H1
      replace H:=Option.bind_eq_some_iff.mp H
      obtain⟨t208,A250,H⟩:=H
      replace H:(pylonlaw09_SoundHolds.j0 k t201 t202 t203 t208 (⟨#[115]⟩ : ByteArray) t201 t202)=some r:=H
      have A25:=ag.mk A250
      clear A250
      have H':=ag.mk H
      clear H
      have hcz26_0:w11.cell? ⟨gb204,0,none⟩=some (.string (⟨#[]⟩ : ByteArray)):=(ah BK204.o 0).trans rfl
      have hcz26_1:w11.cell? ⟨gb204,1,none⟩=some (.int .i64 0):=(ah BK204.o 1).trans rfl
      have hcz26_2:w11.cell? ⟨gb204,2,none⟩=some (.int .i64 0):=(ah BK204.o 2).trans rfl
      have hfz26_0:=ai BK204.o 0
      have hfz26_1:=ai BK204.o 1
      have hfz26_2:=ai BK204.o 2
      go_wp2_with (first|((with_reducible refine aG (f:=17) rfl ?_);refine aU (some 31) rfl rfl Tryd.func17 (by kernel_rfl) rfl #[.agg #[.string (⟨#[115]⟩ : ByteArray),.int .i64 t201,.int .i64 t202],.int .i64 t201] rfl (by (try simp only[List.map_toArray,List.map_cons,List.map_nil]);first|done|rfl|(simp only[List.length_drop,List.length_take];rfl)) ?_;(with_reducible refine(sound_Holds.calls k (⟨#[115]⟩ : ByteArray) t201 t202 t201 true _ A13.o).mono ?_);rintro e w27 ⟨rfl,hb⟩;refine⟨_,rfl,?_⟩;have n0_:=ag.mk (aD (g:=gb204) (o:=.cells #[.string (⟨#[115]⟩ : ByteArray),.int .i64 t201,.int .i64 t202] 41 (0,0)) (by (with_reducible repeat(first|refine av ?_ _|refine ay ?_|refine au ?_ _));refine bg (cs:=#[.string (⟨#[115]⟩ : ByteArray),.int .i64 t201,.int .i64 0]) ?_ 2 _ rfl;(with_reducible repeat(first|refine av ?_ _|refine ay ?_|refine au ?_ _));refine bg (cs:=#[.string (⟨#[115]⟩ : ByteArray),.int .i64 0,.int .i64 0]) ?_ 1 _ rfl;(with_reducible repeat(first|refine av ?_ _|refine ay ?_|refine au ?_ _));refine bg (cs:=#[.string (⟨#[]⟩ : ByteArray),.int .i64 0,.int .i64 0]) ?_ 0 _ rfl;(with_reducible repeat(first|refine av ?_ _|refine ay ?_|refine au ?_ _));exact BK204.o) hb);have n1_:=ag.mk (aj (by repeat(first|(with_reducible first|exact HB.o|apply ae|apply aa|apply af|refine ax ?_ GE204.o)|exact HB.o)) hb);clear BK204;clear HB;have BK204:=n0_;have HB:=n1_;clear n0_ n1_;(try clear hb);(try clear hb2);(try clear hk);(try clear hi);have hcz28_0:w27.cell? ⟨gb204,0,none⟩=some (.string (⟨#[115]⟩ : ByteArray)):=(ah BK204.o 0).trans rfl;have hcz28_1:w27.cell? ⟨gb204,1,none⟩=some (.int .i64 t201):=(ah BK204.o 1).trans rfl;have hcz28_2:w27.cell? ⟨gb204,2,none⟩=some (.int .i64 t202):=(ah BK204.o 2).trans rfl;have hfz28_0:=ai BK204.o 0;have hfz28_1:=ai BK204.o 1;have hfz28_2:=ai BK204.o 2)|(go_at_call 17;(with_reducible refine(sound_Holds.calls k (⟨#[115]⟩ : ByteArray) t201 t202 t202 true _ A15.o).mono ?_);rintro e w29 ⟨rfl,hb⟩;have n0_:=ag.mk (aD (g:=gb204) (o:=.cells #[.string (⟨#[115]⟩ : ByteArray),.int .i64 t201,.int .i64 t202] 41 (0,0)) (by (with_reducible repeat(first|refine av ?_ _|refine ay ?_|refine au ?_ _));exact BK204.o) hb);have n1_:=ag.mk (aj (by repeat(first|(with_reducible first|exact HB.o|apply ae|apply aa|apply af|refine ax ?_ GE204.o)|exact HB.o)) hb);clear BK204;clear HB;have BK204:=n0_;have HB:=n1_;clear n0_ n1_;(try clear hb);(try clear hb2);(try clear hk);(try clear hi);have hcz30_0:w29.cell? ⟨gb204,0,none⟩=some (.string (⟨#[115]⟩ : ByteArray)):=(ah BK204.o 0).trans rfl;have hcz30_1:w29.cell? ⟨gb204,1,none⟩=some (.int .i64 t201):=(ah BK204.o 1).trans rfl;have hcz30_2:w29.cell? ⟨gb204,2,none⟩=some (.int .i64 t202):=(ah BK204.o 2).trans rfl;have hfz30_0:=ai BK204.o 0;have hfz30_1:=ai BK204.o 1;have hfz30_2:=ai BK204.o 2)|(go_at_call 17;(with_reducible refine(sound_Holds.calls k (⟨#[115]⟩ : ByteArray) t201 t202 230 false _ A17.o).mono ?_);rintro e w31 ⟨rfl,hb⟩;have n0_:=ag.mk (aD (g:=gb204) (o:=.cells #[.string (⟨#[115]⟩ : ByteArray),.int .i64 t201,.int .i64 t202] 41 (0,0)) (by (with_reducible repeat(first|refine av ?_ _|refine ay ?_|refine au ?_ _));exact BK204.o) hb);have n1_:=ag.mk (aj (by repeat(first|(with_reducible first|exact HB.o|apply ae|apply aa|apply af|refine ax ?_ GE204.o)|exact HB.o)) hb);clear BK204;clear HB;have BK204:=n0_;have HB:=n1_;clear n0_ n1_;(try clear hb);(try clear hb2);(try clear hk);(try clear hi);have hcz32_0:w31.cell? ⟨gb204,0,none⟩=some (.string (⟨#[115]⟩ : ByteArray)):=(ah BK204.o 0).trans rfl;have hcz32_1:w31.cell? ⟨gb204,1,none⟩=some (.int .i64 t201):=(ah BK204.o 1).trans rfl;have hcz32_2:w31.cell? ⟨gb204,2,none⟩=some (.int .i64 t202):=(ah BK204.o 2).trans rfl;have hfz32_0:=ai BK204.o 0;have hfz32_1:=ai BK204.o 1;have hfz32_2:=ai BK204.o 2)|(go_at_call 17;(with_reducible refine(sound_Holds.calls k (⟨#[115]⟩ : ByteArray) t201 t202 0 t208 _ A25.o).mono ?_);rintro e w33 ⟨rfl,hb⟩;have n0_:=ag.mk (aD (g:=gb204) (o:=.cells #[.string (⟨#[115]⟩ : ByteArray),.int .i64 t201,.int .i64 t202] 41 (0,0)) (by (with_reducible repeat(first|refine av ?_ _|refine ay ?_|refine au ?_ _));exact BK204.o) hb);have n1_:=ag.mk (aj (by repeat(first|(with_reducible first|exact HB.o|apply ae|apply aa|apply af|refine ax ?_ GE204.o)|exact HB.o)) hb);clear BK204;clear HB;have BK204:=n0_;have HB:=n1_;clear n0_ n1_;(try clear hb);(try clear hb2);(try clear hk);(try clear hi)))
      go_meet
      case rel=>exact⟨_,(t208),(by first|rfl|(simp;done)|(simp[*];done)|(simp[aN];done)|(simp[aQ];done)),H',⟨by first|omega|exact Nat.le_refl _⟩,⟨by (with_reducible repeat(first|refine av ?_ _|refine ay ?_|refine au ?_ _));exact BK204.o⟩,⟨by repeat(first|(with_reducible first|exact HB.o|apply ae|apply aa|apply af|refine ax ?_ GE204.o)|exact HB.o)⟩⟩
    ·replace c16:=Bool.eq_false_iff.mpr c16
     subst c16
     have H1:(pylonlaw09_SoundHolds.j0 k t201 t202 t203 true (⟨#[115]⟩ : ByteArray) t201 t202)=some r:=by rw[if_neg (show ¬ (false=true) by decide)] at H;exact H
     clear H
     have H:=H1
     clear H1
     have H':=ag.mk H
     clear H
     have hcz34_0:w11.cell? ⟨gb204,0,none⟩=some (.string (⟨#[]⟩ : ByteArray)):=(ah BK204.o 0).trans rfl
     have hcz34_1:w11.cell? ⟨gb204,1,none⟩=some (.int .i64 0):=(ah BK204.o 1).trans rfl
     have hcz34_2:w11.cell? ⟨gb204,2,none⟩=some (.int .i64 0):=(ah BK204.o 2).trans rfl
     have hfz34_0:=ai BK204.o 0
     have hfz34_1:=ai BK204.o 1
     have hfz34_2:=ai BK204.o 2
     go_wp2_with (first|((with_reducible refine aG (f:=17) rfl ?_);refine aU (some 31) rfl rfl Tryd.func17 (by kernel_rfl) rfl #[.agg #[.string (⟨#[115]⟩ : ByteArray),.int .i64 t201,.int .i64 t202],.int .i64 t201] rfl (by (try simp only[List.map_toArray,List.map_cons,List.map_nil]);first|done|rfl|(simp only[List.length_drop,List.length_take];rfl)) ?_;(with_reducible refine(sound_Holds.calls k (⟨#[115]⟩ : ByteArray) t201 t202 t201 true _ A13.o).mono ?_);rintro e w35 ⟨rfl,hb⟩;refine⟨_,rfl,?_⟩;have n0_:=ag.mk (aD (g:=gb204) (o:=.cells #[.string (⟨#[115]⟩ : ByteArray),.int .i64 t201,.int .i64 t202] 41 (0,0)) (by (with_reducible repeat(first|refine av ?_ _|refine ay ?_|refine au ?_ _));refine bg (cs:=#[.string (⟨#[115]⟩ : ByteArray),.int .i64 t201,.int .i64 0]) ?_ 2 _ rfl;(with_reducible repeat(first|refine av ?_ _|refine ay ?_|refine au ?_ _));refine bg (cs:=#[.string (⟨#[115]⟩ : ByteArray),.int .i64 0,.int .i64 0]) ?_ 1 _ rfl;(with_reducible repeat(first|refine av ?_ _|refine ay ?_|refine au ?_ _));refine bg (cs:=#[.string (⟨#[]⟩ : ByteArray),.int .i64 0,.int .i64 0]) ?_ 0 _ rfl;(with_reducible repeat(first|refine av ?_ _|refine ay ?_|refine au ?_ _));exact BK204.o) hb);have n1_:=ag.mk (aj (by repeat(first|(with_reducible first|exact HB.o|apply ae|apply aa|apply af|refine ax ?_ GE204.o)|exact HB.o)) hb);clear BK204;clear HB;have BK204:=n0_;have HB:=n1_;clear n0_ n1_;(try clear hb);(try clear hb2);(try clear hk);(try clear hi);have hcz36_0:w35.cell? ⟨gb204,0,none⟩=some (.string (⟨#[115]⟩ : ByteArray)):=(ah BK204.o 0).trans rfl;have hcz36_1:w35.cell? ⟨gb204,1,none⟩=some (.int .i64 t201):=(ah BK204.o 1).trans rfl;have hcz36_2:w35.cell? ⟨gb204,2,none⟩=some (.int .i64 t202):=(ah BK204.o 2).trans rfl;have hfz36_0:=ai BK204.o 0;have hfz36_1:=ai BK204.o 1;have hfz36_2:=ai BK204.o 2)|(go_at_call 17;(with_reducible refine(sound_Holds.calls k (⟨#[115]⟩ : ByteArray) t201 t202 t202 false _ A15.o).mono ?_);rintro e w37 ⟨rfl,hb⟩;have n0_:=ag.mk (aD (g:=gb204) (o:=.cells #[.string (⟨#[115]⟩ : ByteArray),.int .i64 t201,.int .i64 t202] 41 (0,0)) (by (with_reducible repeat(first|refine av ?_ _|refine ay ?_|refine au ?_ _));exact BK204.o) hb);have n1_:=ag.mk (aj (by repeat(first|(with_reducible first|exact HB.o|apply ae|apply aa|apply af|refine ax ?_ GE204.o)|exact HB.o)) hb);clear BK204;clear HB;have BK204:=n0_;have HB:=n1_;clear n0_ n1_;(try clear hb);(try clear hb2);(try clear hk);(try clear hi)))
     go_meet
     case rel=>exact⟨_,(true),(by first|rfl|(simp;done)|(simp[*];done)|(simp[aN];done)|(simp[aQ];done)),H',⟨by first|omega|exact Nat.le_refl _⟩,⟨by (with_reducible repeat(first|refine av ?_ _|refine ay ?_|refine au ?_ _));exact BK204.o⟩,⟨by repeat(first|(with_reducible first|exact HB.o|apply ae|apply aa|apply af|refine ax ?_ GE204.o)|exact HB.o)⟩⟩
   ·replace c14:=Bool.eq_false_iff.mpr c14
    subst c14
    have H1:(pylonlaw09_SoundHolds.j0 k t201 t202 t203 true (⟨#[115]⟩ : ByteArray) t201 t202)=some r:=by rw[if_neg (show ¬ (false=true) by decide)] at H;exact H
    clear H
    have H:=H1
    clear H1
    have H':=ag.mk H
    clear H
    have hcz38_0:w11.cell? ⟨gb204,0,none⟩=some (.string (⟨#[]⟩ : ByteArray)):=(ah BK204.o 0).trans rfl
    have hcz38_1:w11.cell? ⟨gb204,1,none⟩=some (.int .i64 0):=(ah BK204.o 1).trans rfl
    have hcz38_2:w11.cell? ⟨gb204,2,none⟩=some (.int .i64 0):=(ah BK204.o 2).trans rfl
    have hfz38_0:=ai BK204.o 0
    have hfz38_1:=ai BK204.o 1
    have hfz38_2:=ai BK204.o 2
    go_wp2_with (first|((with_reducible refine aG (f:=17) rfl ?_);refine aU (some 31) rfl rfl Tryd.func17 (by kernel_rfl) rfl #[.agg #[.string (⟨#[115]⟩ : ByteArray),.int .i64 t201,.int .i64 t202],.int .i64 t201] rfl (by (try simp only[List.map_toArray,List.map_cons,List.map_nil]);first|done|rfl|(simp only[List.length_drop,List.length_take];rfl)) ?_;(with_reducible refine(sound_Holds.calls k (⟨#[115]⟩ : ByteArray) t201 t202 t201 false _ A13.o).mono ?_);rintro e w39 ⟨rfl,hb⟩;refine⟨_,rfl,?_⟩;have n0_:=ag.mk (aD (g:=gb204) (o:=.cells #[.string (⟨#[115]⟩ : ByteArray),.int .i64 t201,.int .i64 t202] 41 (0,0)) (by (with_reducible repeat(first|refine av ?_ _|refine ay ?_|refine au ?_ _));refine bg (cs:=#[.string (⟨#[115]⟩ : ByteArray),.int .i64 t201,.int .i64 0]) ?_ 2 _ rfl;(with_reducible repeat(first|refine av ?_ _|refine ay ?_|refine au ?_ _));refine bg (cs:=#[.string (⟨#[115]⟩ : ByteArray),.int .i64 0,.int .i64 0]) ?_ 1 _ rfl;(with_reducible repeat(first|refine av ?_ _|refine ay ?_|refine au ?_ _));refine bg (cs:=#[.string (⟨#[]⟩ : ByteArray),.int .i64 0,.int .i64 0]) ?_ 0 _ rfl;(with_reducible repeat(first|refine av ?_ _|refine ay ?_|refine au ?_ _));exact BK204.o) hb);have n1_:=ag.mk (aj (by repeat(first|(with_reducible first|exact HB.o|apply ae|apply aa|apply af|refine ax ?_ GE204.o)|exact HB.o)) hb);clear BK204;clear HB;have BK204:=n0_;have HB:=n1_;clear n0_ n1_;(try clear hb);(try clear hb2);(try clear hk);(try clear hi)))
    go_meet
    case rel=>exact⟨_,(true),(by first|rfl|(simp;done)|(simp[*];done)|(simp[aN];done)|(simp[aQ];done)),H',⟨by first|omega|exact Nat.le_refl _⟩,⟨by (with_reducible repeat(first|refine av ?_ _|refine ay ?_|refine au ?_ _));exact BK204.o⟩,⟨by repeat(first|(with_reducible first|exact HB.o|apply ae|apply aa|apply af|refine ax ?_ GE204.o)|exact HB.o)⟩⟩
  case rest=>
   clear HC9
   try clear c1
   try clear p2
   try clear c5
   try clear c8
   try clear c10
   try clear c14
   try clear c16
   try clear c17
   try clear c18
   try clear c19
   try clear hcz12_0
   try clear hcz12_1
   try clear hcz12_2
   try clear hcz19_0
   try clear hcz19_1
   try clear hcz19_2
   try clear hcz21_0
   try clear hcz21_1
   try clear hcz21_2
   try clear hcz23_0
   try clear hcz23_1
   try clear hcz23_2
   try clear hcz26_0
   try clear hcz26_1
   try clear hcz26_2
   try clear hcz28_0
   try clear hcz28_1
   try clear hcz28_2
   try clear hcz30_0
   try clear hcz30_1
   try clear hcz30_2
   try clear hcz32_0
   try clear hcz32_1
   try clear hcz32_2
   try clear hcz34_0
   try clear hcz34_1
   try clear hcz34_2
   try clear hcz36_0
   try clear hcz36_1
   try clear hcz36_2
   try clear hcz38_0
   try clear hcz38_1
   try clear hcz38_2
   try clear hfz12_0
   try clear hfz12_1
   try clear hfz12_2
   try clear hfz19_0
   try clear hfz19_1
   try clear hfz19_2
   try clear hfz21_0
   try clear hfz21_1
   try clear hfz21_2
   try clear hfz23_0
   try clear hfz23_1
   try clear hfz23_2
   try clear hfz26_0
   try clear hfz26_1
   try clear hfz26_2
   try clear hfz28_0
   try clear hfz28_1
   try clear hfz28_2
   try clear hfz30_0
   try clear hfz30_1
   try clear hfz30_2
   try clear hfz32_0
   try clear hfz32_1
   try clear hfz32_2
   try clear hfz34_0
   try clear hfz34_1
   try clear hfz34_2
   try clear hfz36_0
   try clear hfz36_1
   try clear hfz36_2
   try clear hfz38_0
   try clear hfz38_1
   try clear hfz38_2
   obtain⟨kq,x46_8,rfl,HA,HJ8,BK204,HB⟩:=hcut
   cases kq with
   |zero=>exact absurd HA.o (by simp[pylonlaw09_SoundHolds.j0])
   |succ kj8=>
    have H:=HA.o
    clear HA
    simp only[pylonlaw09_SoundHolds.j0] at H
    by_cases c40:x46_8=true
    ·subst c40
     have H1:(some false)=some r:=by rw[if_pos rfl] at H;exact H
     clear H
     have H:=H1
     clear H1
     obtain rfl:=Option.some.inj H
     go_wp2
     go_ret
     exact⟨by first|rfl|(simp[az,aA] <;> rfl)|(simp[*,az,aA] <;> rfl),by repeat(first|(with_reducible first|exact HB.o|apply ae|apply aa|apply af|refine ax ?_ GE204.o)|exact HB.o)⟩
    ·replace c40:=Bool.eq_false_iff.mpr c40
     subst c40
     have H1:((sound_Day.f t201).bind fun bt209=>((sound_Day.f t202).bind fun bt211=>((sound_Day.f t203).bind fun bt213=>(if bt209.2=0 then (if bt211.2=0 then (if bt213.2=0 then (if bt209.1 < 1 then (some false) else (if bt209.1 > 366 then (some false) else (if bt211.1 < 1 then (some false) else (if bt211.1 > 366 then (some false) else (if bt213.1 < 1 then (some false) else (if bt213.1 > 366 then (some false) else ((sound_Holds.f kj8 (⟨#[115]⟩ : ByteArray) t201 t202 t203).bind fun t215=>(some (t215 == (decide ((Int.tmod (wrap64 ((wrap64 (bt213.1 - bt209.1))+366)) 366) < (wrap64 ((Int.tmod (wrap64 ((wrap64 (bt211.1 - bt209.1))+366)) 366)+1))))))))))))) else (some false)) else (some false)) else (some false)))))=some r:=by rw[if_neg (show ¬ (false=true) by decide)] at H;exact H
     clear H
     have H:=H1
     clear H1
     replace H:=Option.bind_eq_some_iff.mp H
     obtain⟨⟨t209,t210⟩,A410,H⟩:=H
     replace H:((sound_Day.f t202).bind fun bt211=>((sound_Day.f t203).bind fun bt213=>(if t210=0 then (if bt211.2=0 then (if bt213.2=0 then (if t209 < 1 then (some false) else (if t209 > 366 then (some false) else (if bt211.1 < 1 then (some false) else (if bt211.1 > 366 then (some false) else (if bt213.1 < 1 then (some false) else (if bt213.1 > 366 then (some false) else ((sound_Holds.f kj8 (⟨#[115]⟩ : ByteArray) t201 t202 t203).bind fun t215=>(some (t215 == (decide ((Int.tmod (wrap64 ((wrap64 (bt213.1 - t209))+366)) 366) < (wrap64 ((Int.tmod (wrap64 ((wrap64 (bt211.1 - t209))+366)) 366)+1))))))))))))) else (some false)) else (some false)) else (some false))))=some r:=H
     have A41:=ag.mk A410
     clear A410
     replace H:=Option.bind_eq_some_iff.mp H
     obtain⟨⟨t211,t212⟩,A420,H⟩:=H
     replace H:((sound_Day.f t203).bind fun bt213=>(if t210=0 then (if t212=0 then (if bt213.2=0 then (if t209 < 1 then (some false) else (if t209 > 366 then (some false) else (if t211 < 1 then (some false) else (if t211 > 366 then (some false) else (if bt213.1 < 1 then (some false) else (if bt213.1 > 366 then (some false) else ((sound_Holds.f kj8 (⟨#[115]⟩ : ByteArray) t201 t202 t203).bind fun t215=>(some (t215 == (decide ((Int.tmod (wrap64 ((wrap64 (bt213.1 - t209))+366)) 366) < (wrap64 ((Int.tmod (wrap64 ((wrap64 (t211 - t209))+366)) 366)+1))))))))))))) else (some false)) else (some false)) else (some false)))=some r:=H
     have A42:=ag.mk A420
     clear A420
     replace H:=Option.bind_eq_some_iff.mp H
     obtain⟨⟨t213,t214⟩,A430,H⟩:=H
     replace H:(if t210=0 then (if t212=0 then (if t214=0 then (if t209 < 1 then (some false) else (if t209 > 366 then (some false) else (if t211 < 1 then (some false) else (if t211 > 366 then (some false) else (if t213 < 1 then (some false) else (if t213 > 366 then (some false) else ((sound_Holds.f kj8 (⟨#[115]⟩ : ByteArray) t201 t202 t203).bind fun t215=>(some (t215 == (decide ((Int.tmod (wrap64 ((wrap64 (t213 - t209))+366)) 366) < (wrap64 ((Int.tmod (wrap64 ((wrap64 (t211 - t209))+366)) 366)+1))))))))))))) else (some false)) else (some false)) else (some false))=some r:=H
     have A43:=ag.mk A430
     clear A430
     by_cases c44:t210=0
     ·rw[if_pos c44] at H
      have c44b0:(t210 == 0)=true:=beq_iff_eq.mpr c44
      have c44b1:(t210 != 0)=false:=bne_eq_false_iff_eq.mpr c44
      clear c44
      by_cases c45:t212=0
      ·rw[if_pos c45] at H
       have c45b0:(t212 == 0)=true:=beq_iff_eq.mpr c45
       have c45b1:(t212 != 0)=false:=bne_eq_false_iff_eq.mpr c45
       clear c45
       by_cases c46:t214=0
       ·rw[if_pos c46] at H
        have c46b0:(t214 == 0)=true:=beq_iff_eq.mpr c46
        have c46b1:(t214 != 0)=false:=bne_eq_false_iff_eq.mpr c46
        clear c46
        by_cases c47:t209 < 1
        ·rw[if_pos c47] at H
         have c47b0:decide (t209 < 1)=true:=decide_eq_true c47
         clear c47
         obtain rfl:=Option.some.inj H
         go_wp2_with (first|((with_reducible refine aG (f:=16) rfl ?_);refine aU (some 49) rfl rfl Tryd.func16 (by kernel_rfl) rfl #[.int .i64 t201] rfl (by (try simp only[List.map_toArray,List.map_cons,List.map_nil]);first|done|rfl|(simp only[List.length_drop,List.length_take];rfl)) ?_;(with_reducible refine(sound_Day.calls t201 t209 t210 _ A41.o).mono ?_);rintro e w48 ⟨rfl,hb⟩;refine⟨_,rfl,?_⟩;have n0_:=ag.mk (aD (g:=gb204) (o:=.cells #[.string (⟨#[115]⟩ : ByteArray),.int .i64 t201,.int .i64 t202] 41 (0,0)) (by (with_reducible repeat(first|refine av ?_ _|refine ay ?_|refine au ?_ _));exact BK204.o) hb);have n1_:=ag.mk (aj (by repeat(first|(with_reducible first|exact HB.o|apply ae|apply aa|apply af|refine ax ?_ GE204.o)|exact HB.o)) hb);clear BK204;clear HB;have BK204:=n0_;have HB:=n1_;clear n0_ n1_;(try clear hb);(try clear hb2);(try clear hk);(try clear hi))|((with_reducible refine aG (f:=16) rfl ?_);refine aU (some 54) rfl rfl Tryd.func16 (by kernel_rfl) rfl #[.int .i64 t202] rfl (by (try simp only[List.map_toArray,List.map_cons,List.map_nil]);first|done|rfl|(simp only[List.length_drop,List.length_take];rfl)) ?_;(with_reducible refine(sound_Day.calls t202 t211 t212 _ A42.o).mono ?_);rintro e w49 ⟨rfl,hb⟩;refine⟨_,rfl,?_⟩;have n0_:=ag.mk (aD (g:=gb204) (o:=.cells #[.string (⟨#[115]⟩ : ByteArray),.int .i64 t201,.int .i64 t202] 41 (0,0)) (by (with_reducible repeat(first|refine av ?_ _|refine ay ?_|refine au ?_ _));exact BK204.o) hb);have n1_:=ag.mk (aj (by repeat(first|(with_reducible first|exact HB.o|apply ae|apply aa|apply af|refine ax ?_ GE204.o)|exact HB.o)) hb);clear BK204;clear HB;have BK204:=n0_;have HB:=n1_;clear n0_ n1_;(try clear hb);(try clear hb2);(try clear hk);(try clear hi))|((with_reducible refine aG (f:=16) rfl ?_);refine aU (some 59) rfl rfl Tryd.func16 (by kernel_rfl) rfl #[.int .i64 t203] rfl (by (try simp only[List.map_toArray,List.map_cons,List.map_nil]);first|done|rfl|(simp only[List.length_drop,List.length_take];rfl)) ?_;(with_reducible refine(sound_Day.calls t203 t213 t214 _ A43.o).mono ?_);rintro e w50 ⟨rfl,hb⟩;refine⟨_,rfl,?_⟩;have n0_:=ag.mk (aD (g:=gb204) (o:=.cells #[.string (⟨#[115]⟩ : ByteArray),.int .i64 t201,.int .i64 t202] 41 (0,0)) (by (with_reducible repeat(first|refine av ?_ _|refine ay ?_|refine au ?_ _));exact BK204.o) hb);have n1_:=ag.mk (aj (by repeat(first|(with_reducible first|exact HB.o|apply ae|apply aa|apply af|refine ax ?_ GE204.o)|exact HB.o)) hb);clear BK204;clear HB;have BK204:=n0_;have HB:=n1_;clear n0_ n1_;(try clear hb);(try clear hb2);(try clear hk);(try clear hi)))
         go_ret
         exact⟨by first|rfl|(simp[az,aA] <;> rfl)|(simp[*,az,aA] <;> rfl),by repeat(first|(with_reducible first|exact HB.o|apply ae|apply aa|apply af|refine ax ?_ GE204.o)|exact HB.o)⟩
        ·rw[if_neg c47] at H
         have c47b0:decide (t209 < 1)=false:=decide_eq_false c47
         clear c47
         by_cases c51:t209 > 366
         ·rw[if_pos c51] at H
          have c51b0:decide (366 < t209)=true:=decide_eq_true c51
          clear c51
          obtain rfl:=Option.some.inj H
          go_wp2_with (first|((with_reducible refine aG (f:=16) rfl ?_);refine aU (some 49) rfl rfl Tryd.func16 (by kernel_rfl) rfl #[.int .i64 t201] rfl (by (try simp only[List.map_toArray,List.map_cons,List.map_nil]);first|done|rfl|(simp only[List.length_drop,List.length_take];rfl)) ?_;(with_reducible refine(sound_Day.calls t201 t209 t210 _ A41.o).mono ?_);rintro e w52 ⟨rfl,hb⟩;refine⟨_,rfl,?_⟩;have n0_:=ag.mk (aD (g:=gb204) (o:=.cells #[.string (⟨#[115]⟩ : ByteArray),.int .i64 t201,.int .i64 t202] 41 (0,0)) (by (with_reducible repeat(first|refine av ?_ _|refine ay ?_|refine au ?_ _));exact BK204.o) hb);have n1_:=ag.mk (aj (by repeat(first|(with_reducible first|exact HB.o|apply ae|apply aa|apply af|refine ax ?_ GE204.o)|exact HB.o)) hb);clear BK204;clear HB;have BK204:=n0_;have HB:=n1_;clear n0_ n1_;(try clear hb);(try clear hb2);(try clear hk);(try clear hi))|((with_reducible refine aG (f:=16) rfl ?_);refine aU (some 54) rfl rfl Tryd.func16 (by kernel_rfl) rfl #[.int .i64 t202] rfl (by (try simp only[List.map_toArray,List.map_cons,List.map_nil]);first|done|rfl|(simp only[List.length_drop,List.length_take];rfl)) ?_;(with_reducible refine(sound_Day.calls t202 t211 t212 _ A42.o).mono ?_);rintro e w53 ⟨rfl,hb⟩;refine⟨_,rfl,?_⟩;have n0_:=ag.mk (aD (g:=gb204) (o:=.cells #[.string (⟨#[115]⟩ : ByteArray),.int .i64 t201,.int .i64 t202] 41 (0,0)) (by (with_reducible repeat(first|refine av ?_ _|refine ay ?_|refine au ?_ _));exact BK204.o) hb);have n1_:=ag.mk (aj (by repeat(first|(with_reducible first|exact HB.o|apply ae|apply aa|apply af|refine ax ?_ GE204.o)|exact HB.o)) hb);clear BK204;clear HB;have BK204:=n0_;have HB:=n1_;clear n0_ n1_;(try clear hb);(try clear hb2);(try clear hk);(try clear hi))|((with_reducible refine aG (f:=16) rfl ?_);refine aU (some 59) rfl rfl Tryd.func16 (by kernel_rfl) rfl #[.int .i64 t203] rfl (by (try simp only[List.map_toArray,List.map_cons,List.map_nil]);first|done|rfl|(simp only[List.length_drop,List.length_take];rfl)) ?_;(with_reducible refine(sound_Day.calls t203 t213 t214 _ A43.o).mono ?_);rintro e w54 ⟨rfl,hb⟩;refine⟨_,rfl,?_⟩;have n0_:=ag.mk (aD (g:=gb204) (o:=.cells #[.string (⟨#[115]⟩ : ByteArray),.int .i64 t201,.int .i64 t202] 41 (0,0)) (by (with_reducible repeat(first|refine av ?_ _|refine ay ?_|refine au ?_ _));exact BK204.o) hb);have n1_:=ag.mk (aj (by repeat(first|(with_reducible first|exact HB.o|apply ae|apply aa|apply af|refine ax ?_ GE204.o)|exact HB.o)) hb);clear BK204;clear HB;have BK204:=n0_;have HB:=n1_;clear n0_ n1_;(try clear hb);(try clear hb2);(try clear hk);(try clear hi)))
          go_ret
          exact⟨by first|rfl|(simp[az,aA] <;> rfl)|(simp[*,az,aA] <;> rfl),by repeat(first|(with_reducible first|exact HB.o|apply ae|apply aa|apply af|refine ax ?_ GE204.o)|exact HB.o)⟩
         ·rw[if_neg c51] at H
          have c51b0:decide (366 < t209)=false:=decide_eq_false c51
          clear c51
          by_cases c55:t211 < 1
          ·rw[if_pos c55] at H
           have c55b0:decide (t211 < 1)=true:=decide_eq_true c55
           clear c55
           obtain rfl:=Option.some.inj H
           go_wp2_with (first|((with_reducible refine aG (f:=16) rfl ?_);refine aU (some 49) rfl rfl Tryd.func16 (by kernel_rfl) rfl #[.int .i64 t201] rfl (by (try simp only[List.map_toArray,List.map_cons,List.map_nil]);first|done|rfl|(simp only[List.length_drop,List.length_take];rfl)) ?_;(with_reducible refine(sound_Day.calls t201 t209 t210 _ A41.o).mono ?_);rintro e w56 ⟨rfl,hb⟩;refine⟨_,rfl,?_⟩;have n0_:=ag.mk (aD (g:=gb204) (o:=.cells #[.string (⟨#[115]⟩ : ByteArray),.int .i64 t201,.int .i64 t202] 41 (0,0)) (by (with_reducible repeat(first|refine av ?_ _|refine ay ?_|refine au ?_ _));exact BK204.o) hb);have n1_:=ag.mk (aj (by repeat(first|(with_reducible first|exact HB.o|apply ae|apply aa|apply af|refine ax ?_ GE204.o)|exact HB.o)) hb);clear BK204;clear HB;have BK204:=n0_;have HB:=n1_;clear n0_ n1_;(try clear hb);(try clear hb2);(try clear hk);(try clear hi))|((with_reducible refine aG (f:=16) rfl ?_);refine aU (some 54) rfl rfl Tryd.func16 (by kernel_rfl) rfl #[.int .i64 t202] rfl (by (try simp only[List.map_toArray,List.map_cons,List.map_nil]);first|done|rfl|(simp only[List.length_drop,List.length_take];rfl)) ?_;(with_reducible refine(sound_Day.calls t202 t211 t212 _ A42.o).mono ?_);rintro e w57 ⟨rfl,hb⟩;refine⟨_,rfl,?_⟩;have n0_:=ag.mk (aD (g:=gb204) (o:=.cells #[.string (⟨#[115]⟩ : ByteArray),.int .i64 t201,.int .i64 t202] 41 (0,0)) (by (with_reducible repeat(first|refine av ?_ _|refine ay ?_|refine au ?_ _));exact BK204.o) hb);have n1_:=ag.mk (aj (by repeat(first|(with_reducible first|exact HB.o|apply ae|apply aa|apply af|refine ax ?_ GE204.o)|exact HB.o)) hb);clear BK204;clear HB;have BK204:=n0_;have HB:=n1_;clear n0_ n1_;(try clear hb);(try clear hb2);(try clear hk);(try clear hi))|((with_reducible refine aG (f:=16) rfl ?_);refine aU (some 59) rfl rfl Tryd.func16 (by kernel_rfl) rfl #[.int .i64 t203] rfl (by (try simp only[List.map_toArray,List.map_cons,List.map_nil]);first|done|rfl|(simp only[List.length_drop,List.length_take];rfl)) ?_;(with_reducible refine(sound_Day.calls t203 t213 t214 _ A43.o).mono ?_);rintro e w58 ⟨rfl,hb⟩;refine⟨_,rfl,?_⟩;have n0_:=ag.mk (aD (g:=gb204) (o:=.cells #[.string (⟨#[115]⟩ : ByteArray),.int .i64 t201,.int .i64 t202] 41 (0,0)) (by (with_reducible repeat(first|refine av ?_ _|refine ay ?_|refine au ?_ _));exact BK204.o) hb);have n1_:=ag.mk (aj (by repeat(first|(with_reducible first|exact HB.o|apply ae|apply aa|apply af|refine ax ?_ GE204.o)|exact HB.o)) hb);clear BK204;clear HB;have BK204:=n0_;have HB:=n1_;clear n0_ n1_;(try clear hb);(try clear hb2);(try clear hk);(try clear hi)))
           go_ret
           exact⟨by first|rfl|(simp[az,aA] <;> rfl)|(simp[*,az,aA] <;> rfl),by repeat(first|(with_reducible first|exact HB.o|apply ae|apply aa|apply af|refine ax ?_ GE204.o)|exact HB.o)⟩
          ·rw[if_neg c55] at H
           have c55b0:decide (t211 < 1)=false:=decide_eq_false c55
           clear c55
           by_cases c59:t211 > 366
           ·rw[if_pos c59] at H
            have c59b0:decide (366 < t211)=true:=decide_eq_true c59
            clear c59
            obtain rfl:=Option.some.inj H
            go_wp2_with (first|((with_reducible refine aG (f:=16) rfl ?_);refine aU (some 49) rfl rfl Tryd.func16 (by kernel_rfl) rfl #[.int .i64 t201] rfl (by (try simp only[List.map_toArray,List.map_cons,List.map_nil]);first|done|rfl|(simp only[List.length_drop,List.length_take];rfl)) ?_;(with_reducible refine(sound_Day.calls t201 t209 t210 _ A41.o).mono ?_);rintro e w60 ⟨rfl,hb⟩;refine⟨_,rfl,?_⟩;have n0_:=ag.mk (aD (g:=gb204) (o:=.cells #[.string (⟨#[115]⟩ : ByteArray),.int .i64 t201,.int .i64 t202] 41 (0,0)) (by (with_reducible repeat(first|refine av ?_ _|refine ay ?_|refine au ?_ _));exact BK204.o) hb);have n1_:=ag.mk (aj (by repeat(first|(with_reducible first|exact HB.o|apply ae|apply aa|apply af|refine ax ?_ GE204.o)|exact HB.o)) hb);clear BK204;clear HB;have BK204:=n0_;have HB:=n1_;clear n0_ n1_;(try clear hb);(try clear hb2);(try clear hk);(try clear hi))|((with_reducible refine aG (f:=16) rfl ?_);refine aU (some 54) rfl rfl Tryd.func16 (by kernel_rfl) rfl #[.int .i64 t202] rfl (by (try simp only[List.map_toArray,List.map_cons,List.map_nil]);first|done|rfl|(simp only[List.length_drop,List.length_take];rfl)) ?_;(with_reducible refine(sound_Day.calls t202 t211 t212 _ A42.o).mono ?_);rintro e w61 ⟨rfl,hb⟩;refine⟨_,rfl,?_⟩;have n0_:=ag.mk (aD (g:=gb204) (o:=.cells #[.string (⟨#[115]⟩ : ByteArray),.int .i64 t201,.int .i64 t202] 41 (0,0)) (by (with_reducible repeat(first|refine av ?_ _|refine ay ?_|refine au ?_ _));exact BK204.o) hb);have n1_:=ag.mk (aj (by repeat(first|(with_reducible first|exact HB.o|apply ae|apply aa|apply af|refine ax ?_ GE204.o)|exact HB.o)) hb);clear BK204;clear HB;have BK204:=n0_;have HB:=n1_;clear n0_ n1_;(try clear hb);(try clear hb2);(try clear hk);(try clear hi))|((with_reducible refine aG (f:=16) rfl ?_);refine aU (some 59) rfl rfl Tryd.func16 (by kernel_rfl) rfl #[.int .i64 t203] rfl (by (try simp only[List.map_toArray,List.map_cons,List.map_nil]);first|done|rfl|(simp only[List.length_drop,List.length_take];rfl)) ?_;(with_reducible refine(sound_Day.calls t203 t213 t214 _ A43.o).mono ?_);rintro e w62 ⟨rfl,hb⟩;refine⟨_,rfl,?_⟩;have n0_:=ag.mk (aD (g:=gb204) (o:=.cells #[.string (⟨#[115]⟩ : ByteArray),.int .i64 t201,.int .i64 t202] 41 (0,0)) (by (with_reducible repeat(first|refine av ?_ _|refine ay ?_|refine au ?_ _));exact BK204.o) hb);have n1_:=ag.mk (aj (by repeat(first|(with_reducible first|exact HB.o|apply ae|apply aa|apply af|refine ax ?_ GE204.o)|exact HB.o)) hb);clear BK204;clear HB;have BK204:=n0_;have HB:=n1_;clear n0_ n1_;(try clear hb);(try clear hb2);(try clear hk);(try clear hi)))
            go_ret
            exact⟨by first|rfl|(simp[az,aA] <;> rfl)|(simp[*,az,aA] <;> rfl),by repeat(first|(with_reducible first|exact HB.o|apply ae|apply aa|apply af|refine ax ?_ GE204.o)|exact HB.o)⟩
           ·rw[if_neg c59] at H
            have c59b0:decide (366 < t211)=false:=decide_eq_false c59
            clear c59
            by_cases c63:t213 < 1
            ·rw[if_pos c63] at H
             have c63b0:decide (t213 < 1)=true:=decide_eq_true c63
             clear c63
             obtain rfl:=Option.some.inj H
             go_wp2_with (first|((with_reducible refine aG (f:=16) rfl ?_);refine aU (some 49) rfl rfl Tryd.func16 (by kernel_rfl) rfl #[.int .i64 t201] rfl (by (try simp only[List.map_toArray,List.map_cons,List.map_nil]);first|done|rfl|(simp only[List.length_drop,List.length_take];rfl)) ?_;(with_reducible refine(sound_Day.calls t201 t209 t210 _ A41.o).mono ?_);rintro e w64 ⟨rfl,hb⟩;refine⟨_,rfl,?_⟩;have n0_:=ag.mk (aD (g:=gb204) (o:=.cells #[.string (⟨#[115]⟩ : ByteArray),.int .i64 t201,.int .i64 t202] 41 (0,0)) (by (with_reducible repeat(first|refine av ?_ _|refine ay ?_|refine au ?_ _));exact BK204.o) hb);have n1_:=ag.mk (aj (by repeat(first|(with_reducible first|exact HB.o|apply ae|apply aa|apply af|refine ax ?_ GE204.o)|exact HB.o)) hb);clear BK204;clear HB;have BK204:=n0_;have HB:=n1_;clear n0_ n1_;(try clear hb);(try clear hb2);(try clear hk);(try clear hi))|((with_reducible refine aG (f:=16) rfl ?_);refine aU (some 54) rfl rfl Tryd.func16 (by kernel_rfl) rfl #[.int .i64 t202] rfl (by (try simp only[List.map_toArray,List.map_cons,List.map_nil]);first|done|rfl|(simp only[List.length_drop,List.length_take];rfl)) ?_;(with_reducible refine(sound_Day.calls t202 t211 t212 _ A42.o).mono ?_);rintro e w65 ⟨rfl,hb⟩;refine⟨_,rfl,?_⟩;have n0_:=ag.mk (aD (g:=gb204) (o:=.cells #[.string (⟨#[115]⟩ : ByteArray),.int .i64 t201,.int .i64 t202] 41 (0,0)) (by (with_reducible repeat(first|refine av ?_ _|refine ay ?_|refine au ?_ _));exact BK204.o) hb);have n1_:=ag.mk (aj (by repeat(first|(with_reducible first|exact HB.o|apply ae|apply aa|apply af|refine ax ?_ GE204.o)|exact HB.o)) hb);clear BK204;clear HB;have BK204:=n0_;have HB:=n1_;clear n0_ n1_;(try clear hb);(try clear hb2);(try clear hk);(try clear hi))|((with_reducible refine aG (f:=16) rfl ?_);refine aU (some 59) rfl rfl Tryd.func16 (by kernel_rfl) rfl #[.int .i64 t203] rfl (by (try simp only[List.map_toArray,List.map_cons,List.map_nil]);first|done|rfl|(simp only[List.length_drop,List.length_take];rfl)) ?_;(with_reducible refine(sound_Day.calls t203 t213 t214 _ A43.o).mono ?_);rintro e w66 ⟨rfl,hb⟩;refine⟨_,rfl,?_⟩;have n0_:=ag.mk (aD (g:=gb204) (o:=.cells #[.string (⟨#[115]⟩ : ByteArray),.int .i64 t201,.int .i64 t202] 41 (0,0)) (by (with_reducible repeat(first|refine av ?_ _|refine ay ?_|refine au ?_ _));exact BK204.o) hb);have n1_:=ag.mk (aj (by repeat(first|(with_reducible first|exact HB.o|apply ae|apply aa|apply af|refine ax ?_ GE204.o)|exact HB.o)) hb);clear BK204;clear HB;have BK204:=n0_;have HB:=n1_;clear n0_ n1_;(try clear hb);(try clear hb2);(try clear hk);(try clear hi)))
             go_ret
             exact⟨by first|rfl|(simp[az,aA] <;> rfl)|(simp[*,az,aA] <;> rfl),by repeat(first|(with_reducible first|exact HB.o|apply ae|apply aa|apply af|refine ax ?_ GE204.o)|exact HB.o)⟩
            ·rw[if_neg c63] at H
             have c63b0:decide (t213 < 1)=false:=decide_eq_false c63
             clear c63
             by_cases c67:t213 > 366
             ·rw[if_pos c67] at H
              have c67b0:decide (366 < t213)=true:=decide_eq_true c67
              clear c67
              obtain rfl:=Option.some.inj H
              go_wp2_with (first|((with_reducible refine aG (f:=16) rfl ?_);refine aU (some 49) rfl rfl Tryd.func16 (by kernel_rfl) rfl #[.int .i64 t201] rfl (by (try simp only[List.map_toArray,List.map_cons,List.map_nil]);first|done|rfl|(simp only[List.length_drop,List.length_take];rfl)) ?_;(with_reducible refine(sound_Day.calls t201 t209 t210 _ A41.o).mono ?_);rintro e w68 ⟨rfl,hb⟩;refine⟨_,rfl,?_⟩;have n0_:=ag.mk (aD (g:=gb204) (o:=.cells #[.string (⟨#[115]⟩ : ByteArray),.int .i64 t201,.int .i64 t202] 41 (0,0)) (by (with_reducible repeat(first|refine av ?_ _|refine ay ?_|refine au ?_ _));exact BK204.o) hb);have n1_:=ag.mk (aj (by repeat(first|(with_reducible first|exact HB.o|apply ae|apply aa|apply af|refine ax ?_ GE204.o)|exact HB.o)) hb);clear BK204;clear HB;have BK204:=n0_;have HB:=n1_;clear n0_ n1_;(try clear hb);(try clear hb2);(try clear hk);(try clear hi))|((with_reducible refine aG (f:=16) rfl ?_);refine aU (some 54) rfl rfl Tryd.func16 (by kernel_rfl) rfl #[.int .i64 t202] rfl (by (try simp only[List.map_toArray,List.map_cons,List.map_nil]);first|done|rfl|(simp only[List.length_drop,List.length_take];rfl)) ?_;(with_reducible refine(sound_Day.calls t202 t211 t212 _ A42.o).mono ?_);rintro e w69 ⟨rfl,hb⟩;refine⟨_,rfl,?_⟩;have n0_:=ag.mk (aD (g:=gb204) (o:=.cells #[.string (⟨#[115]⟩ : ByteArray),.int .i64 t201,.int .i64 t202] 41 (0,0)) (by (with_reducible repeat(first|refine av ?_ _|refine ay ?_|refine au ?_ _));exact BK204.o) hb);have n1_:=ag.mk (aj (by repeat(first|(with_reducible first|exact HB.o|apply ae|apply aa|apply af|refine ax ?_ GE204.o)|exact HB.o)) hb);clear BK204;clear HB;have BK204:=n0_;have HB:=n1_;clear n0_ n1_;(try clear hb);(try clear hb2);(try clear hk);(try clear hi))|((with_reducible refine aG (f:=16) rfl ?_);refine aU (some 59) rfl rfl Tryd.func16 (by kernel_rfl) rfl #[.int .i64 t203] rfl (by (try simp only[List.map_toArray,List.map_cons,List.map_nil]);first|done|rfl|(simp only[List.length_drop,List.length_take];rfl)) ?_;(with_reducible refine(sound_Day.calls t203 t213 t214 _ A43.o).mono ?_);rintro e w70 ⟨rfl,hb⟩;refine⟨_,rfl,?_⟩;have n0_:=ag.mk (aD (g:=gb204) (o:=.cells #[.string (⟨#[115]⟩ : ByteArray),.int .i64 t201,.int .i64 t202] 41 (0,0)) (by (with_reducible repeat(first|refine av ?_ _|refine ay ?_|refine au ?_ _));exact BK204.o) hb);have n1_:=ag.mk (aj (by repeat(first|(with_reducible first|exact HB.o|apply ae|apply aa|apply af|refine ax ?_ GE204.o)|exact HB.o)) hb);clear BK204;clear HB;have BK204:=n0_;have HB:=n1_;clear n0_ n1_;(try clear hb);(try clear hb2);(try clear hk);(try clear hi)))
              go_ret
              exact⟨by first|rfl|(simp[az,aA] <;> rfl)|(simp[*,az,aA] <;> rfl),by repeat(first|(with_reducible first|exact HB.o|apply ae|apply aa|apply af|refine ax ?_ GE204.o)|exact HB.o)⟩
             ·rw[if_neg c67] at H
              have c67b0:decide (366 < t213)=false:=decide_eq_false c67
              clear c67
              replace H:=Option.bind_eq_some_iff.mp H
              obtain⟨t215,A710,H⟩:=H
              replace H:(some (t215 == (decide ((Int.tmod (wrap64 ((wrap64 (t213 - t209))+366)) 366) < (wrap64 ((Int.tmod (wrap64 ((wrap64 (t211 - t209))+366)) 366)+1))))))=some r:=H
              have A71:=ag.mk A710
              clear A710
              obtain rfl:=Option.some.inj H
              go_wp2_with (first|((with_reducible refine aG (f:=16) rfl ?_);refine aU (some 49) rfl rfl Tryd.func16 (by kernel_rfl) rfl #[.int .i64 t201] rfl (by (try simp only[List.map_toArray,List.map_cons,List.map_nil]);first|done|rfl|(simp only[List.length_drop,List.length_take];rfl)) ?_;(with_reducible refine(sound_Day.calls t201 t209 t210 _ A41.o).mono ?_);rintro e w72 ⟨rfl,hb⟩;refine⟨_,rfl,?_⟩;have n0_:=ag.mk (aD (g:=gb204) (o:=.cells #[.string (⟨#[115]⟩ : ByteArray),.int .i64 t201,.int .i64 t202] 41 (0,0)) (by (with_reducible repeat(first|refine av ?_ _|refine ay ?_|refine au ?_ _));exact BK204.o) hb);have n1_:=ag.mk (aj (by repeat(first|(with_reducible first|exact HB.o|apply ae|apply aa|apply af|refine ax ?_ GE204.o)|exact HB.o)) hb);clear BK204;clear HB;have BK204:=n0_;have HB:=n1_;clear n0_ n1_;(try clear hb);(try clear hb2);(try clear hk);(try clear hi))|((with_reducible refine aG (f:=16) rfl ?_);refine aU (some 54) rfl rfl Tryd.func16 (by kernel_rfl) rfl #[.int .i64 t202] rfl (by (try simp only[List.map_toArray,List.map_cons,List.map_nil]);first|done|rfl|(simp only[List.length_drop,List.length_take];rfl)) ?_;(with_reducible refine(sound_Day.calls t202 t211 t212 _ A42.o).mono ?_);rintro e w73 ⟨rfl,hb⟩;refine⟨_,rfl,?_⟩;have n0_:=ag.mk (aD (g:=gb204) (o:=.cells #[.string (⟨#[115]⟩ : ByteArray),.int .i64 t201,.int .i64 t202] 41 (0,0)) (by (with_reducible repeat(first|refine av ?_ _|refine ay ?_|refine au ?_ _));exact BK204.o) hb);have n1_:=ag.mk (aj (by repeat(first|(with_reducible first|exact HB.o|apply ae|apply aa|apply af|refine ax ?_ GE204.o)|exact HB.o)) hb);clear BK204;clear HB;have BK204:=n0_;have HB:=n1_;clear n0_ n1_;(try clear hb);(try clear hb2);(try clear hk);(try clear hi))|((with_reducible refine aG (f:=16) rfl ?_);refine aU (some 59) rfl rfl Tryd.func16 (by kernel_rfl) rfl #[.int .i64 t203] rfl (by (try simp only[List.map_toArray,List.map_cons,List.map_nil]);first|done|rfl|(simp only[List.length_drop,List.length_take];rfl)) ?_;(with_reducible refine(sound_Day.calls t203 t213 t214 _ A43.o).mono ?_);rintro e w74 ⟨rfl,hb⟩;refine⟨_,rfl,?_⟩;have n0_:=ag.mk (aD (g:=gb204) (o:=.cells #[.string (⟨#[115]⟩ : ByteArray),.int .i64 t201,.int .i64 t202] 41 (0,0)) (by (with_reducible repeat(first|refine av ?_ _|refine ay ?_|refine au ?_ _));exact BK204.o) hb);have n1_:=ag.mk (aj (by repeat(first|(with_reducible first|exact HB.o|apply ae|apply aa|apply af|refine ax ?_ GE204.o)|exact HB.o)) hb);clear BK204;clear HB;have BK204:=n0_;have HB:=n1_;clear n0_ n1_;(try clear hb);(try clear hb2);(try clear hk);(try clear hi);have hcz75_0:w74.cell? ⟨gb204,0,none⟩=some (.string (⟨#[115]⟩ : ByteArray)):=(ah BK204.o 0).trans rfl;have hcz75_1:w74.cell? ⟨gb204,1,none⟩=some (.int .i64 t201):=(ah BK204.o 1).trans rfl;have hcz75_2:w74.cell? ⟨gb204,2,none⟩=some (.int .i64 t202):=(ah BK204.o 2).trans rfl;have hfz75_0:=ai BK204.o 0;have hfz75_1:=ai BK204.o 1;have hfz75_2:=ai BK204.o 2)|((with_reducible refine aG (f:=17) rfl ?_);refine aU (some 104) rfl rfl Tryd.func17 (by kernel_rfl) rfl #[.agg #[.string (⟨#[115]⟩ : ByteArray),.int .i64 t201,.int .i64 t202],.int .i64 t203] rfl (by (try simp only[List.map_toArray,List.map_cons,List.map_nil]);first|done|rfl|(simp only[List.length_drop,List.length_take];rfl)) ?_;(with_reducible refine(sound_Holds.calls kj8 (⟨#[115]⟩ : ByteArray) t201 t202 t203 t215 _ A71.o).mono ?_);rintro e w76 ⟨rfl,hb⟩;refine⟨_,rfl,?_⟩;have n0_:=ag.mk (aD (g:=gb204) (o:=.cells #[.string (⟨#[115]⟩ : ByteArray),.int .i64 t201,.int .i64 t202] 41 (0,0)) (by (with_reducible repeat(first|refine av ?_ _|refine ay ?_|refine au ?_ _));exact BK204.o) hb);have n1_:=ag.mk (aj (by repeat(first|(with_reducible first|exact HB.o|apply ae|apply aa|apply af|refine ax ?_ GE204.o)|exact HB.o)) hb);clear BK204;clear HB;have BK204:=n0_;have HB:=n1_;clear n0_ n1_;(try clear hb);(try clear hb2);(try clear hk);(try clear hi)))
              go_ret
              exact⟨by first|rfl|(simp[az,aA] <;> rfl)|(simp[*,az,aA] <;> rfl),by repeat(first|(with_reducible first|exact HB.o|apply ae|apply aa|apply af|refine ax ?_ GE204.o)|exact HB.o)⟩
       ·rw[if_neg c46] at H
        have c46b0:(t214 == 0)=false:=beq_eq_false_iff_ne.mpr c46
        have c46b1:(t214 != 0)=true:=bne_iff_ne.mpr c46
        obtain rfl:=Option.some.inj H
        go_wp2_with (first|((with_reducible refine aG (f:=16) rfl ?_);refine aU (some 49) rfl rfl Tryd.func16 (by kernel_rfl) rfl #[.int .i64 t201] rfl (by (try simp only[List.map_toArray,List.map_cons,List.map_nil]);first|done|rfl|(simp only[List.length_drop,List.length_take];rfl)) ?_;(with_reducible refine(sound_Day.calls t201 t209 t210 _ A41.o).mono ?_);rintro e w77 ⟨rfl,hb⟩;refine⟨_,rfl,?_⟩;have n0_:=ag.mk (aD (g:=gb204) (o:=.cells #[.string (⟨#[115]⟩ : ByteArray),.int .i64 t201,.int .i64 t202] 41 (0,0)) (by (with_reducible repeat(first|refine av ?_ _|refine ay ?_|refine au ?_ _));exact BK204.o) hb);have n1_:=ag.mk (aj (by repeat(first|(with_reducible first|exact HB.o|apply ae|apply aa|apply af|refine ax ?_ GE204.o)|exact HB.o)) hb);clear BK204;clear HB;have BK204:=n0_;have HB:=n1_;clear n0_ n1_;(try clear hb);(try clear hb2);(try clear hk);(try clear hi))|((with_reducible refine aG (f:=16) rfl ?_);refine aU (some 54) rfl rfl Tryd.func16 (by kernel_rfl) rfl #[.int .i64 t202] rfl (by (try simp only[List.map_toArray,List.map_cons,List.map_nil]);first|done|rfl|(simp only[List.length_drop,List.length_take];rfl)) ?_;(with_reducible refine(sound_Day.calls t202 t211 t212 _ A42.o).mono ?_);rintro e w78 ⟨rfl,hb⟩;refine⟨_,rfl,?_⟩;have n0_:=ag.mk (aD (g:=gb204) (o:=.cells #[.string (⟨#[115]⟩ : ByteArray),.int .i64 t201,.int .i64 t202] 41 (0,0)) (by (with_reducible repeat(first|refine av ?_ _|refine ay ?_|refine au ?_ _));exact BK204.o) hb);have n1_:=ag.mk (aj (by repeat(first|(with_reducible first|exact HB.o|apply ae|apply aa|apply af|refine ax ?_ GE204.o)|exact HB.o)) hb);clear BK204;clear HB;have BK204:=n0_;have HB:=n1_;clear n0_ n1_;(try clear hb);(try clear hb2);(try clear hk);(try clear hi))|((with_reducible refine aG (f:=16) rfl ?_);refine aU (some 59) rfl rfl Tryd.func16 (by kernel_rfl) rfl #[.int .i64 t203] rfl (by (try simp only[List.map_toArray,List.map_cons,List.map_nil]);first|done|rfl|(simp only[List.length_drop,List.length_take];rfl)) ?_;(with_reducible refine(sound_Day.calls t203 t213 t214 _ A43.o).mono ?_);rintro e w79 ⟨rfl,hb⟩;refine⟨_,rfl,?_⟩;have n0_:=ag.mk (aD (g:=gb204) (o:=.cells #[.string (⟨#[115]⟩ : ByteArray),.int .i64 t201,.int .i64 t202] 41 (0,0)) (by (with_reducible repeat(first|refine av ?_ _|refine ay ?_|refine au ?_ _));exact BK204.o) hb);have n1_:=ag.mk (aj (by repeat(first|(with_reducible first|exact HB.o|apply ae|apply aa|apply af|refine ax ?_ GE204.o)|exact HB.o)) hb);clear BK204;clear HB;have BK204:=n0_;have HB:=n1_;clear n0_ n1_;(try clear hb);(try clear hb2);(try clear hk);(try clear hi)))
        go_ret
        exact⟨by first|rfl|(simp[az,aA] <;> rfl)|(simp[*,az,aA] <;> rfl),by repeat(first|(with_reducible first|exact HB.o|apply ae|apply aa|apply af|refine ax ?_ GE204.o)|exact HB.o)⟩
      ·rw[if_neg c45] at H
       have c45b0:(t212 == 0)=false:=beq_eq_false_iff_ne.mpr c45
       have c45b1:(t212 != 0)=true:=bne_iff_ne.mpr c45
       obtain rfl:=Option.some.inj H
       go_wp2_with (first|((with_reducible refine aG (f:=16) rfl ?_);refine aU (some 49) rfl rfl Tryd.func16 (by kernel_rfl) rfl #[.int .i64 t201] rfl (by (try simp only[List.map_toArray,List.map_cons,List.map_nil]);first|done|rfl|(simp only[List.length_drop,List.length_take];rfl)) ?_;(with_reducible refine(sound_Day.calls t201 t209 t210 _ A41.o).mono ?_);rintro e w80 ⟨rfl,hb⟩;refine⟨_,rfl,?_⟩;have n0_:=ag.mk (aD (g:=gb204) (o:=.cells #[.string (⟨#[115]⟩ : ByteArray),.int .i64 t201,.int .i64 t202] 41 (0,0)) (by (with_reducible repeat(first|refine av ?_ _|refine ay ?_|refine au ?_ _));exact BK204.o) hb);have n1_:=ag.mk (aj (by repeat(first|(with_reducible first|exact HB.o|apply ae|apply aa|apply af|refine ax ?_ GE204.o)|exact HB.o)) hb);clear BK204;clear HB;have BK204:=n0_;have HB:=n1_;clear n0_ n1_;(try clear hb);(try clear hb2);(try clear hk);(try clear hi))|((with_reducible refine aG (f:=16) rfl ?_);refine aU (some 54) rfl rfl Tryd.func16 (by kernel_rfl) rfl #[.int .i64 t202] rfl (by (try simp only[List.map_toArray,List.map_cons,List.map_nil]);first|done|rfl|(simp only[List.length_drop,List.length_take];rfl)) ?_;(with_reducible refine(sound_Day.calls t202 t211 t212 _ A42.o).mono ?_);rintro e w81 ⟨rfl,hb⟩;refine⟨_,rfl,?_⟩;have n0_:=ag.mk (aD (g:=gb204) (o:=.cells #[.string (⟨#[115]⟩ : ByteArray),.int .i64 t201,.int .i64 t202] 41 (0,0)) (by (with_reducible repeat(first|refine av ?_ _|refine ay ?_|refine au ?_ _));exact BK204.o) hb);have n1_:=ag.mk (aj (by repeat(first|(with_reducible first|exact HB.o|apply ae|apply aa|apply af|refine ax ?_ GE204.o)|exact HB.o)) hb);clear BK204;clear HB;have BK204:=n0_;have HB:=n1_;clear n0_ n1_;(try clear hb);(try clear hb2);(try clear hk);(try clear hi))|((with_reducible refine aG (f:=16) rfl ?_);refine aU (some 59) rfl rfl Tryd.func16 (by kernel_rfl) rfl #[.int .i64 t203] rfl (by (try simp only[List.map_toArray,List.map_cons,List.map_nil]);first|done|rfl|(simp only[List.length_drop,List.length_take];rfl)) ?_;(with_reducible refine(sound_Day.calls t203 t213 t214 _ A43.o).mono ?_);rintro e w82 ⟨rfl,hb⟩;refine⟨_,rfl,?_⟩;have n0_:=ag.mk (aD (g:=gb204) (o:=.cells #[.string (⟨#[115]⟩ : ByteArray),.int .i64 t201,.int .i64 t202] 41 (0,0)) (by (with_reducible repeat(first|refine av ?_ _|refine ay ?_|refine au ?_ _));exact BK204.o) hb);have n1_:=ag.mk (aj (by repeat(first|(with_reducible first|exact HB.o|apply ae|apply aa|apply af|refine ax ?_ GE204.o)|exact HB.o)) hb);clear BK204;clear HB;have BK204:=n0_;have HB:=n1_;clear n0_ n1_;(try clear hb);(try clear hb2);(try clear hk);(try clear hi)))
       go_ret
       exact⟨by first|rfl|(simp[az,aA] <;> rfl)|(simp[*,az,aA] <;> rfl),by repeat(first|(with_reducible first|exact HB.o|apply ae|apply aa|apply af|refine ax ?_ GE204.o)|exact HB.o)⟩
     ·rw[if_neg c44] at H
      have c44b0:(t210 == 0)=false:=beq_eq_false_iff_ne.mpr c44
      have c44b1:(t210 != 0)=true:=bne_iff_ne.mpr c44
      obtain rfl:=Option.some.inj H
      go_wp2_with (first|((with_reducible refine aG (f:=16) rfl ?_);refine aU (some 49) rfl rfl Tryd.func16 (by kernel_rfl) rfl #[.int .i64 t201] rfl (by (try simp only[List.map_toArray,List.map_cons,List.map_nil]);first|done|rfl|(simp only[List.length_drop,List.length_take];rfl)) ?_;(with_reducible refine(sound_Day.calls t201 t209 t210 _ A41.o).mono ?_);rintro e w83 ⟨rfl,hb⟩;refine⟨_,rfl,?_⟩;have n0_:=ag.mk (aD (g:=gb204) (o:=.cells #[.string (⟨#[115]⟩ : ByteArray),.int .i64 t201,.int .i64 t202] 41 (0,0)) (by (with_reducible repeat(first|refine av ?_ _|refine ay ?_|refine au ?_ _));exact BK204.o) hb);have n1_:=ag.mk (aj (by repeat(first|(with_reducible first|exact HB.o|apply ae|apply aa|apply af|refine ax ?_ GE204.o)|exact HB.o)) hb);clear BK204;clear HB;have BK204:=n0_;have HB:=n1_;clear n0_ n1_;(try clear hb);(try clear hb2);(try clear hk);(try clear hi))|((with_reducible refine aG (f:=16) rfl ?_);refine aU (some 54) rfl rfl Tryd.func16 (by kernel_rfl) rfl #[.int .i64 t202] rfl (by (try simp only[List.map_toArray,List.map_cons,List.map_nil]);first|done|rfl|(simp only[List.length_drop,List.length_take];rfl)) ?_;(with_reducible refine(sound_Day.calls t202 t211 t212 _ A42.o).mono ?_);rintro e w84 ⟨rfl,hb⟩;refine⟨_,rfl,?_⟩;have n0_:=ag.mk (aD (g:=gb204) (o:=.cells #[.string (⟨#[115]⟩ : ByteArray),.int .i64 t201,.int .i64 t202] 41 (0,0)) (by (with_reducible repeat(first|refine av ?_ _|refine ay ?_|refine au ?_ _));exact BK204.o) hb);have n1_:=ag.mk (aj (by repeat(first|(with_reducible first|exact HB.o|apply ae|apply aa|apply af|refine ax ?_ GE204.o)|exact HB.o)) hb);clear BK204;clear HB;have BK204:=n0_;have HB:=n1_;clear n0_ n1_;(try clear hb);(try clear hb2);(try clear hk);(try clear hi))|((with_reducible refine aG (f:=16) rfl ?_);refine aU (some 59) rfl rfl Tryd.func16 (by kernel_rfl) rfl #[.int .i64 t203] rfl (by (try simp only[List.map_toArray,List.map_cons,List.map_nil]);first|done|rfl|(simp only[List.length_drop,List.length_take];rfl)) ?_;(with_reducible refine(sound_Day.calls t203 t213 t214 _ A43.o).mono ?_);rintro e w85 ⟨rfl,hb⟩;refine⟨_,rfl,?_⟩;have n0_:=ag.mk (aD (g:=gb204) (o:=.cells #[.string (⟨#[115]⟩ : ByteArray),.int .i64 t201,.int .i64 t202] 41 (0,0)) (by (with_reducible repeat(first|refine av ?_ _|refine ay ?_|refine au ?_ _));exact BK204.o) hb);have n1_:=ag.mk (aj (by repeat(first|(with_reducible first|exact HB.o|apply ae|apply aa|apply af|refine ax ?_ GE204.o)|exact HB.o)) hb);clear BK204;clear HB;have BK204:=n0_;have HB:=n1_;clear n0_ n1_;(try clear hb);(try clear hb2);(try clear hk);(try clear hi)))
      go_ret
      exact⟨by first|rfl|(simp[az,aA] <;> rfl)|(simp[*,az,aA] <;> rfl),by repeat(first|(with_reducible first|exact HB.o|apply ae|apply aa|apply af|refine ax ?_ GE204.o)|exact HB.o)⟩
 ·replace c5:=Bool.eq_false_iff.mpr c5
  subst c5
  have H1:(some false)=some r:=by rw[if_neg (show ¬ (false=true) by decide)] at H;exact H
  clear H
  have H:=H1
  clear H1
  obtain rfl:=Option.some.inj H
  go_enter Tryd.func8,Tryd.ntmps8
  go_wp2_with (first|((with_reducible refine aG (f:=10) rfl ?_);refine aU (some 18) rfl rfl Tryd.func10 (by kernel_rfl) rfl #[] rfl (by (try simp only[List.map_toArray,List.map_cons,List.map_nil]);first|done|rfl|(simp only[List.length_drop,List.length_take];rfl)) ?_;(with_reducible refine(pylonlaw09_awake.calls false _ A4.o).mono ?_);rintro e w86 ⟨rfl,hb⟩;refine⟨_,rfl,?_⟩;have n0_:=ag.mk (aj (by repeat(first|(with_reducible first|exact HB.o|apply ae|apply aa|apply af)|exact HB.o)) hb);clear HB;have HB:=n0_;clear n0_;(try clear hb);(try clear hb2);(try clear hk);(try clear hi)))
  go_ret
  exact⟨by first|rfl|(simp[az,aA] <;> rfl)|(simp[*,az,aA] <;> rfl),by repeat(first|(with_reducible first|exact HB.o|apply ae|apply aa|apply af)|exact HB.o)⟩
end Go.Proofs.YtcmhfcciapenfaaDoor.Pa
