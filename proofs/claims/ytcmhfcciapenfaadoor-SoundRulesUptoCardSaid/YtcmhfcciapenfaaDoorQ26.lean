/- A part of the proof. -/
import Derived.Test.YtcmhfcciapenfaaDoorQ00
import Derived.Test.YtcmhfcciapenfaaDoorQ06
import Derived.Test.YtcmhfcciapenfaaDoorQ08
import Derived.Test.YtcmhfcciapenfaaDoorQ07
set_option linter.all false
namespace Go.Proofs.YtcmhfcciapenfaaDoor.Pa
open Go.RowKit Go.Proofs.YtcmhfcciapenfaaDoorW.PrintWords Go.Proofs.YtcmhfcciapenfaaDoorW.PrintLast Go.Proofs.YtcmhfcciapenfaaDoorW.PrintMore
attribute [local go_sem] bJ bL bU bV bA bB bM bN
def pylonref09_windows.known (lb:List S48) (x:S45) (j:Nat):Bool:=(lb.take j).any fun b=>b.f0.toList == x.f4.toList
def pylonref09_windows.named (ls:List S41) (x:S45) (j:Nat):Bool:=(ls.take j).any fun s=>s.f0.toList == x.f0.toList
def pylonref09_windows.bad (x:S45):Bool:=decide (x.f1 < 0) || decide (3 < x.f1) || decide (x.f2 < 0) || decide (x.f3≤x.f2) || decide (1440 < x.f3) || (Int.tmod x.f2 15 != 0) || (Int.tmod x.f3 15 != 0)
def pylonref09_windows.good (ls:List S41) (lb:List S48) (x:S45):Bool:=pylonref09_windows.known lb x lb.length && pylonref09_windows.named ls x ls.length && !pylonref09_windows.bad x
def pylonref09_windows.hit (s:ByteArray) (k q:Nat) (x:S45):Bool:=(x.f0.toList == s.toList) && (x.f1 == (k:Int)) && decide (x.f2≤15 * (q:Int)) && decide (15 * (q:Int) < x.f3)
def pylonref09_windows.cnt (lw:List S45) (s:ByteArray) (k q j:Nat):Nat:=((lw.take j).filter (pylonref09_windows.hit s k q)).length
def pylonref09_windows.pq (lw:List S45) (s:ByteArray) (k q:Nat):Bool:=pylonref09_windows.cnt lw s k q lw.length == 1
def pylonref09_windows.pk (lw:List S45) (s:ByteArray) (k:Nat):Bool:=bC (pylonref09_windows.pq lw s k) 0 96
def pylonref09_windows.ps (ls:List S41) (lw:List S45) (i:Nat):Bool:=bC (pylonref09_windows.pk lw (ls.getD i z41).f0) 0 4
def pylonref09_windows.pg (ls:List S41) (lb:List S48) (lw:List S45) (i:Nat):Bool:=pylonref09_windows.good ls lb (lw.getD i z45)
def pylonref09_windows.f (t:Tar):Option Bool:=if (t.f17.length:Int) < 1 then some false else if (t.f17.length:Int) > 64 then some false else
 if bC (pylonref09_windows.pg t.f15 t.f18 t.f17) 0 t.f17.length=true then some (bC (pylonref09_windows.ps t.f15 t.f17) 0 t.f15.length) else some false
theorem dm (p:Nat → Bool) {i n:Nat} (h:i < n):bC p i (n - i)=(p i && bC p (i+1) (n - (i+1))):=by
 obtain⟨m,rfl⟩ : ∃ m,n=i+m+1:=⟨n - i - 1,by omega⟩
 rw[show i+m+1 - i=m+1 by omega,show i+m+1 - (i+1)=m by omega]
 rfl
theorem dY (p:Nat → Bool) (i:Nat):bC p i (i - i)=true:=by rw[Nat.sub_self];rfl
theorem pylonref09_windows.known_step {lb:List S48} {x:S45} {j:Nat} (h:j < lb.length):pylonref09_windows.known lb x (j+1)=(pylonref09_windows.known lb x j || ((lb.getD j z48).f0.toList == x.f4.toList)):=by
 unfold pylonref09_windows.known
 rw[List.take_add_one,List.getElem?_eq_getElem h,List.any_append,List.getD_eq_getElem?_getD,List.getElem?_eq_getElem h]
 simp
theorem pylonref09_windows.named_step {ls:List S41} {x:S45} {j:Nat} (h:j < ls.length):pylonref09_windows.named ls x (j+1)=(pylonref09_windows.named ls x j || ((ls.getD j z41).f0.toList == x.f0.toList)):=by
 unfold pylonref09_windows.named
 rw[List.take_add_one,List.getElem?_eq_getElem h,List.any_append,List.getD_eq_getElem?_getD,List.getElem?_eq_getElem h]
 simp
theorem pylonref09_windows.cnt_step {lw:List S45} {s:ByteArray} {k q j:Nat} (h:j < lw.length):pylonref09_windows.cnt lw s k q (j+1)=if pylonref09_windows.hit s k q (lw.getD j z45)=true then pylonref09_windows.cnt lw s k q j+1 else pylonref09_windows.cnt lw s k q j:=by
 unfold pylonref09_windows.cnt
 rw[List.take_add_one,List.getElem?_eq_getElem h,List.filter_append,List.length_append,List.getD_eq_getElem?_getD,List.getElem?_eq_getElem h]
 simp only[Option.toList_some,Option.getD_some,List.filter_cons,List.filter_nil]
 split <;> simp
theorem pylonref09_windows.cnt_le (lw:List S45) (s:ByteArray) (k q j:Nat):pylonref09_windows.cnt lw s k q j≤j:=by
 unfold pylonref09_windows.cnt
 exact Nat.le_trans (List.length_filter_le _ _) (by rw[List.length_take];omega)
theorem pylonref09_windows.fails {ls:List S41} {lb:List S48} {lw:List S45} {i:Nat} {G:Bool} (hlt:i < lw.length) (hx:pylonref09_windows.good ls lb (lw.getD i z45)=false) (HA:bC (pylonref09_windows.pg ls lb lw) i (lw.length - i)=G):G=false:=by
 rw[← HA,dm _ hlt]
 unfold pylonref09_windows.pg
 rw[hx,Bool.false_and]
theorem pylonref09_windows.holds {ls:List S41} {lb:List S48} {lw:List S45} {i:Nat} {G:Bool} (hlt:i < lw.length) (hx:pylonref09_windows.good ls lb (lw.getD i z45)=true) (HA:bC (pylonref09_windows.pg ls lb lw) i (lw.length - i)=G):bC (pylonref09_windows.pg ls lb lw) (i+1) (lw.length - (i+1))=G:=by
 rw[← HA,dm _ hlt]
 unfold pylonref09_windows.pg
 rw[hx,Bool.true_and]
set_option maxHeartbeats 16000000 in
set_option maxRecDepth 100000 in
theorem pylonref09_windows.calls (t:Tar) (cs:List Value) (r:Bool) (w:World) (hT:kTar.K w t cs) (h:pylonref09_windows.f t=some r) :
  Calls Tryd.prog 27 #[.agg cs.toArray] w fun e w'=>e = .returned (.bool r)∧Below w.heap.size w w':=by
 have hu33:=Tryd.underlying33
 have hu41:=Tryd.underlying41
 have hu45:=Tryd.underlying45
 have hu48:=Tryd.underlying48
 have hlen:=kTar_len hT
 obtain⟨A15,c15,A16,c16,A17,c17,A18,c18,ecs,l15,g15,l16,g16,l17,g17,l18,g18⟩:=eF hT
 have e15:cs.toArray[15]? = some (.slice A15 t.f15.length c15):=by rw[ecs];rfl
 have e17:cs.toArray[17]? = some (.slice A17 t.f17.length c17):=by rw[ecs];rfl
 have e18:cs.toArray[18]? = some (.slice A18 t.f18.length c18):=by rw[ecs];rfl
 have L15:=Kd.C_max g15
 have L17:=Kd.C_max g17
 have L18:=Kd.C_max g18
 clear ecs g16 l16 hT hlen
 have HB:=ag.mk (Below.refl w.heap.size w)
 generalize cs.toArray=V at e15 e17 e18
 unfold pylonref09_windows.f at h
 by_cases h1:(t.f17.length:Int) < 1
 ·rw[if_pos h1] at h
  have hr:=Option.some.inj h
  subst hr
  have h1b:decide ((t.f17.length:Int) < 1)=true:=decide_eq_true h1
  clear h1
  go_enter Tryd.func27,Tryd.ntmps27
  go_wp2_with (first|((with_reducible refine aI (N:=1) rfl ?_);refine aH ?hg (N:=1) ?hd (cs:=V) (t:=33) ?hr ?_;(case hd=>rfl);(case hg=>rfl);(case hr=>first|(go_simp;done)|(go_simp;rfl));intro g1 hg_ w1 hbox hb_;have HBW:=ag.mk (aj (by repeat(first|(with_reducible first|exact HB.o|apply ae|apply aa|apply af)|exact HB.o)) hb_);have HK15:=ag.mk ((ah hbox 15).trans e15);have HK17:=ag.mk ((ah hbox 17).trans e17);have HK18:=ag.mk ((ah hbox 18).trans e18);have hc15:=HK15.o;have hc17:=HK17.o;have hc18:=HK18.o;have G15:=ag.mk (Kd.bg g15 HBW.o);have G17:=ag.mk (Kd.bg g17 HBW.o);have G18:=ag.mk (Kd.bg g18 HBW.o);clear hb_ hbox hg_ HB e15 e17 e18;have HB:=ag.mk (Below.refl w1.heap.size w1)))
  go_ret
  exact⟨rfl,aj HBW.o (by repeat(first|(with_reducible first|exact HB.o|apply ae|apply aa|apply af)|exact HB.o))⟩
 ·rw[if_neg h1] at h
  have h1b:decide ((t.f17.length:Int) < 1)=false:=decide_eq_false h1
  clear h1
  by_cases h2:(t.f17.length:Int) > 64
  ·rw[if_pos h2] at h
   have hr:=Option.some.inj h
   subst hr
   have h2b:decide (64 < (t.f17.length:Int))=true:=decide_eq_true h2
   clear h2
   go_enter Tryd.func27,Tryd.ntmps27
   go_wp2_with (first|((with_reducible refine aI (N:=1) rfl ?_);refine aH ?hg (N:=1) ?hd (cs:=V) (t:=33) ?hr ?_;(case hd=>rfl);(case hg=>rfl);(case hr=>first|(go_simp;done)|(go_simp;rfl));intro g1 hg_ w1 hbox hb_;have HBW:=ag.mk (aj (by repeat(first|(with_reducible first|exact HB.o|apply ae|apply aa|apply af)|exact HB.o)) hb_);have HK15:=ag.mk ((ah hbox 15).trans e15);have HK17:=ag.mk ((ah hbox 17).trans e17);have HK18:=ag.mk ((ah hbox 18).trans e18);have hc15:=HK15.o;have hc17:=HK17.o;have hc18:=HK18.o;have G15:=ag.mk (Kd.bg g15 HBW.o);have G17:=ag.mk (Kd.bg g17 HBW.o);have G18:=ag.mk (Kd.bg g18 HBW.o);clear hb_ hbox hg_ HB e15 e17 e18;have HB:=ag.mk (Below.refl w1.heap.size w1)))
   go_ret
   exact⟨rfl,aj HBW.o (by repeat(first|(with_reducible first|exact HB.o|apply ae|apply aa|apply af)|exact HB.o))⟩
  ·rw[if_neg h2] at h
   have h2b:decide (64 < (t.f17.length:Int))=false:=decide_eq_false h2
   have hn64:t.f17.length≤64:=by omega
   clear h2
   obtain⟨G,HG⟩ : ∃ G,bC (pylonref09_windows.pg t.f15 t.f18 t.f17) 0 (t.f17.length - 0)=G:=⟨_,rfl⟩
   rw[show bC (pylonref09_windows.pg t.f15 t.f18 t.f17) 0 t.f17.length=G from HG] at h
   replace HG:=ag.mk HG
   have h':=ag.mk h
   clear h
   go_enter Tryd.func27,Tryd.ntmps27
   go_wp2_with (first|((with_reducible refine aI (N:=1) rfl ?_);refine aH ?hg (N:=1) ?hd (cs:=V) (t:=33) ?hr ?_;(case hd=>rfl);(case hg=>rfl);(case hr=>first|(go_simp;done)|(go_simp;rfl));intro g1 hg_ w1 hbox hb_;have HBW:=ag.mk (aj (by repeat(first|(with_reducible first|exact HB.o|apply ae|apply aa|apply af)|exact HB.o)) hb_);have HK15:=ag.mk ((ah hbox 15).trans e15);have HK17:=ag.mk ((ah hbox 17).trans e17);have HK18:=ag.mk ((ah hbox 18).trans e18);have hc15:=HK15.o;have hc17:=HK17.o;have hc18:=HK18.o;have G15:=ag.mk (Kd.bg g15 HBW.o);have G17:=ag.mk (Kd.bg g17 HBW.o);have G18:=ag.mk (Kd.bg g18 HBW.o);clear hb_ hbox hg_ HB e15 e17 e18;have HB:=ag.mk (Below.refl w1.heap.size w1)))
   go_loopg [28] t.f17.length (fun kq v28 wr=>∃ (i:Nat),v28 = .int .i64 (i:Int)∧i≤t.f17.length∧ag (kq=t.f17.length - i)∧ag (bC (pylonref09_windows.pg t.f15 t.f18 t.f17) i (t.f17.length - i)=G)∧ag (Below w1.heap.size w1 wr))
   case atStart=>exact⟨0,by first|rfl|simp,Nat.zero_le _,⟨rfl⟩,HG,⟨(by repeat(first|(with_reducible first|exact HB.o|apply ae|apply aa|apply af)|exact HB.o))⟩⟩
   case round=>
    clear HB
    obtain⟨i,rfl,hi,HK,HA,HB⟩:=hrel
    have hc15:=cqq HB.o HK15.o
    have hc17:=cqq HB.o HK17.o
    have hc18:=cqq HB.o HK18.o
    by_cases hlt:i < t.f17.length
    ·have b0:decide ((i:Int) < (t.f17.length:Int))=true:=decide_eq_true (by omega)
     obtain⟨adx,ex,hx0,hx1,hx2,hx3,hx4⟩:=at_T45 G17.o (i:Int) (by omega) (by omega)
     have erx:eD t.f17 (i:Int)=t.f17.getD i z45:=by unfold eD;rw[Int.toNat_natCast]
     rw[erx] at hx0 hx1 hx2 hx3 hx4
     cases ex
     rw[Int.toNat_natCast] at hx0 hx1 hx2 hx3 hx4
     obtain⟨x,ex⟩ : ∃ x,t.f17.getD i z45=x:=⟨_,rfl⟩
     rw[ex] at hx0 hx1 hx2 hx3 hx4
     have EX:=ag.mk ex
     clear ex
     have Hhx0:=ag.mk hx0
     have Hhx1:=ag.mk hx1
     have Hhx2:=ag.mk hx2
     have Hhx3:=ag.mk hx3
     have Hhx4:=ag.mk hx4
     replace hx0:=cqq HB.o Hhx0.o
     replace hx1:=cqq HB.o Hhx1.o
     replace hx2:=cqq HB.o Hhx2.o
     replace hx3:=cqq HB.o Hhx3.o
     replace hx4:=cqq HB.o Hhx4.o
     have px:0≤(i:Int):=by omega
     have qx:(i:Int) < (t.f17.length:Int):=by omega
     replace px:=eq_true px
     replace qx:=eq_true qx
     clear erx
     go_wp2_with (first|((with_reducible refine aI (N:=4) rfl ?_);refine aH ?hg (N:=4) ?hd (cs:=#[.string ⟨#[]⟩,.int .i64 0,.int .i64 0,.int .i64 0,.string ⟨#[]⟩]) (t:=45) ?hr ?_;(case hd=>rfl);(case hg=>rfl);(case hr=>first|(go_simp;done)|(go_simp;rfl));intro gb hg_ w7 hbox hb_;have n0_:=ag.mk (aj (by repeat(first|(with_reducible first|exact HB.o|apply ae|apply aa|apply af)|exact HB.o)) hb_);have GEb:=ag.mk ((by rw[hg_];exact(ak (by repeat(first|(with_reducible first|exact HB.o|apply ae|apply aa|apply af)|exact HB.o)))):w1.heap.size≤gb);clear HB;have HB:=n0_;have BKb:=ag.mk hbox;clear n0_ hb_ hbox hg_;(try clear hc15);have hc15:=cqq HB.o HK15.o;(try clear hc17);have hc17:=cqq HB.o HK17.o;(try clear hc18);have hc18:=cqq HB.o HK18.o;(try clear hx0);have hx0:=cqq HB.o Hhx0.o;(try clear hx1);have hx1:=cqq HB.o Hhx1.o;(try clear hx2);have hx2:=cqq HB.o Hhx2.o;(try clear hx3);have hx3:=cqq HB.o Hhx3.o;(try clear hx4);have hx4:=cqq HB.o Hhx4.o;skip)|((with_reducible refine gate_store 45 rfl ?_);refine store_event rfl _ _ _ rfl (by (with_reducible repeat(first|refine av ?_ _|refine aA ?_|refine au ?_ _));exact BKb.o) rfl rfl ?os ?oi ?o1 ?_;(case os=>rfl);(case oi=>kernel_rfl);(case o1=>rfl);intro w7b hbox hg_;have n0_:=ag.mk (Below.grown (by repeat(first|(with_reducible first|exact HB.o|apply ae|apply aa|apply af)|exact HB.o)) hg_ (ak (by repeat(first|(with_reducible first|exact HB.o|apply ae|apply aa|apply af)|exact HB.o))) (fun k hk=>by cases hk;exact GEb.o));clear HB BKb;have HB:=n0_;have BKb:=ag.mk hbox;clear n0_ hg_ hbox;(try clear hc15);have hc15:=cqq HB.o HK15.o;(try clear hc17);have hc17:=cqq HB.o HK17.o;(try clear hc18);have hc18:=cqq HB.o HK18.o;(try clear hx0);have hx0:=cqq HB.o Hhx0.o;(try clear hx1);have hx1:=cqq HB.o Hhx1.o;(try clear hx2);have hx2:=cqq HB.o Hhx2.o;(try clear hx3);have hx3:=cqq HB.o Hhx3.o;(try clear hx4);have hx4:=cqq HB.o Hhx4.o;(try clear hvb_0);have hvb_0:=(ah BKb.o 0).trans rfl;(try clear hvb_1);have hvb_1:=(ah BKb.o 1).trans rfl;(try clear hvb_2);have hvb_2:=(ah BKb.o 2).trans rfl;(try clear hvb_3);have hvb_3:=(ah BKb.o 3).trans rfl;(try clear hvb_4);have hvb_4:=(ah BKb.o 4).trans rfl;skip))
     go_loopg [5,39] t.f18.length (fun kq v5 v39 wj=>∃ (j:Nat) (bK:Bool),v39 = .int .i64 (j:Int)∧v5 = .bool bK∧j≤t.f18.length∧ag (bK=pylonref09_windows.known t.f18 x j)∧ag (kq=t.f18.length - j)∧ag (wj.heap[gb]? = some (.cells #[.string x.f0,.int .i64 x.f1,.int .i64 x.f2,.int .i64 x.f3,.string x.f4] 45 (0,0)))∧ag (Below w1.heap.size w1 wj))
     case atStart=>exact⟨0,false,by first|rfl|simp,rfl,Nat.zero_le _,⟨by simp[pylonref09_windows.known]⟩,⟨rfl⟩,⟨by (with_reducible repeat(first|refine av ?_ _|refine aA ?_|refine au ?_ _));exact BKb.o⟩,⟨(by repeat(first|(with_reducible first|exact HB.o|apply ae|apply aa|apply af)|exact HB.o))⟩⟩
     case round=>
      clear HB BKb
      obtain⟨j,bK,rfl,rfl,hj,HV,HKj,BKb,HB⟩:=hrel
      have hc15:=cqq HB.o HK15.o
      have hc17:=cqq HB.o HK17.o
      have hc18:=cqq HB.o HK18.o
      have hgb0:=(ah BKb.o 0).trans rfl
      have hgb1:=(ah BKb.o 1).trans rfl
      have hgb2:=(ah BKb.o 2).trans rfl
      have hgb3:=(ah BKb.o 3).trans rfl
      have hgb4:=(ah BKb.o 4).trans rfl
      by_cases hjlt:j < t.f18.length
      ·have bj:decide ((j:Int) < (t.f18.length:Int))=true:=decide_eq_true (by omega)
       obtain⟨ady,Ay_,cy_,ey,hy0,hy1,ly_,gy_⟩:=ek G18.o (j:Int) (by omega) (by omega)
       have ery:bu t.f18 (j:Int)=t.f18.getD j z48:=by unfold bu;rw[Int.toNat_natCast]
       rw[ery] at hy0 hy1
       cases ey
       rw[Int.toNat_natCast] at hy0 hy1
       obtain⟨y,ey⟩ : ∃ y,t.f18.getD j z48=y:=⟨_,rfl⟩
       rw[ey] at hy0 hy1
       have EY:=ag.mk ey
       clear ey
       have Hhy0:=ag.mk hy0
       have Hhy1:=ag.mk hy1
       replace hy0:=cqq HB.o Hhy0.o
       replace hy1:=cqq HB.o Hhy1.o
       have py:0≤(j:Int):=by omega
       have qy:(j:Int) < (t.f18.length:Int):=by omega
       replace py:=eq_true py
       replace qy:=eq_true qy
       clear ery
       cases bK with
       |true=>
        go_wp2
        repeat(go_quiet (fail);try go_wp2)
        go_roundg (t.f18.length - (j+1))
        case measure=>have:=HKj.o;omega
        case rel=>exact⟨j+1,true,(by first|rfl|go_num),rfl,hjlt,⟨by rw[pylonref09_windows.known_step hjlt,← HV.o];rfl⟩,⟨rfl⟩,⟨aN BKb.o (by repeat(first|exact Below.refl _ _|apply ae|apply aa|apply af))⟩,⟨(by repeat(first|(with_reducible first|exact HB.o|apply ae|apply aa|apply af)|exact HB.o))⟩⟩
       |false=>
        by_cases hnm:y.f0.toList=x.f4.toList
        ·have hnb:(y.f0.toList == x.f4.toList)=true:=beq_iff_eq.mpr hnm
         clear hnm
         go_wp2
         repeat(go_quiet (fail);try go_wp2)
         go_roundg (t.f18.length - (j+1))
         case measure=>have:=HKj.o;omega
         case rel=>exact⟨j+1,true,(by first|rfl|go_num),rfl,hjlt,⟨by rw[pylonref09_windows.known_step hjlt,← HV.o,EY.o,hnb];rfl⟩,⟨rfl⟩,⟨aN BKb.o (by repeat(first|exact Below.refl _ _|apply ae|apply aa|apply af))⟩,⟨(by repeat(first|(with_reducible first|exact HB.o|apply ae|apply aa|apply af)|exact HB.o))⟩⟩
        ·have hnb:(y.f0.toList == x.f4.toList)=false:=beq_eq_false_iff_ne.mpr hnm
         clear hnm
         go_wp2
         repeat(go_quiet (fail);try go_wp2)
         go_roundg (t.f18.length - (j+1))
         case measure=>have:=HKj.o;omega
         case rel=>exact⟨j+1,false,(by first|rfl|go_num),rfl,hjlt,⟨by rw[pylonref09_windows.known_step hjlt,← HV.o,EY.o,hnb];rfl⟩,⟨rfl⟩,⟨aN BKb.o (by repeat(first|exact Below.refl _ _|apply ae|apply aa|apply af))⟩,⟨(by repeat(first|(with_reducible first|exact HB.o|apply ae|apply aa|apply af)|exact HB.o))⟩⟩
      ·have bj:decide ((j:Int) < (t.f18.length:Int))=false:=decide_eq_false (by omega)
       obtain rfl:j=t.f18.length:=by omega
       have HV_known:=HV
       clear HV HKj hj hjlt
       go_wp2
       go_loopg [7,58] t.f15.length (fun kq v7 v58 wj=>∃ (j:Nat) (bb:Bool),v58 = .int .i64 (j:Int)∧v7 = .bool bb∧j≤t.f15.length∧ag (bb=pylonref09_windows.named t.f15 x j)∧ag (kq=t.f15.length - j)∧ag (wj.heap[gb]? = some (.cells #[.string x.f0,.int .i64 x.f1,.int .i64 x.f2,.int .i64 x.f3,.string x.f4] 45 (0,0)))∧ag (Below w1.heap.size w1 wj))
       case atStart=>exact⟨0,false,by first|rfl|simp,rfl,Nat.zero_le _,⟨by simp[pylonref09_windows.named]⟩,⟨rfl⟩,⟨aN BKb.o (by repeat(first|exact Below.refl _ _|apply ae|apply aa|apply af))⟩,⟨(by repeat(first|(with_reducible first|exact HB.o|apply ae|apply aa|apply af)|exact HB.o))⟩⟩
       case round=>
        clear HB BKb
        obtain⟨j,bb,rfl,rfl,hj,HV,HKj,BKb,HB⟩:=hrel
        have hc15:=cqq HB.o HK15.o
        have hc17:=cqq HB.o HK17.o
        have hc18:=cqq HB.o HK18.o
        have hgb0:=(ah BKb.o 0).trans rfl
        have hgb1:=(ah BKb.o 1).trans rfl
        have hgb2:=(ah BKb.o 2).trans rfl
        have hgb3:=(ah BKb.o 3).trans rfl
        have hgb4:=(ah BKb.o 4).trans rfl
        by_cases hjlt:j < t.f15.length
        ·have bj:decide ((j:Int) < (t.f15.length:Int))=true:=decide_eq_true (by omega)
         obtain⟨ady,ey,hy0,hy1,hy2⟩:=at_T41 G15.o (j:Int) (by omega) (by omega)
         have ery:dw t.f15 (j:Int)=t.f15.getD j z41:=by unfold dw;rw[Int.toNat_natCast]
         rw[ery] at hy0 hy1 hy2
         cases ey
         rw[Int.toNat_natCast] at hy0 hy1 hy2
         obtain⟨y,ey⟩ : ∃ y,t.f15.getD j z41=y:=⟨_,rfl⟩
         rw[ey] at hy0 hy1 hy2
         have EY:=ag.mk ey
         clear ey
         have Hhy0:=ag.mk hy0
         have Hhy1:=ag.mk hy1
         have Hhy2:=ag.mk hy2
         replace hy0:=cqq HB.o Hhy0.o
         replace hy1:=cqq HB.o Hhy1.o
         replace hy2:=cqq HB.o Hhy2.o
         have py:0≤(j:Int):=by omega
         have qy:(j:Int) < (t.f15.length:Int):=by omega
         replace py:=eq_true py
         replace qy:=eq_true qy
         clear ery
         cases bb with
         |true=>
          go_wp2
          repeat(go_quiet (fail);try go_wp2)
          go_roundg (t.f15.length - (j+1))
          case measure=>have:=HKj.o;omega
          case rel=>exact⟨j+1,true,(by first|rfl|go_num),rfl,hjlt,⟨by rw[pylonref09_windows.named_step hjlt,← HV.o];rfl⟩,⟨rfl⟩,⟨aN BKb.o (by repeat(first|exact Below.refl _ _|apply ae|apply aa|apply af))⟩,⟨(by repeat(first|(with_reducible first|exact HB.o|apply ae|apply aa|apply af)|exact HB.o))⟩⟩
         |false=>
          by_cases hnm:y.f0.toList=x.f0.toList
          ·have hnb:(y.f0.toList == x.f0.toList)=true:=beq_iff_eq.mpr hnm
           clear hnm
           go_wp2
           repeat(go_quiet (fail);try go_wp2)
           go_roundg (t.f15.length - (j+1))
           case measure=>have:=HKj.o;omega
           case rel=>exact⟨j+1,true,(by first|rfl|go_num),rfl,hjlt,⟨by rw[pylonref09_windows.named_step hjlt,← HV.o,EY.o,hnb];rfl⟩,⟨rfl⟩,⟨aN BKb.o (by repeat(first|exact Below.refl _ _|apply ae|apply aa|apply af))⟩,⟨(by repeat(first|(with_reducible first|exact HB.o|apply ae|apply aa|apply af)|exact HB.o))⟩⟩
          ·have hnb:(y.f0.toList == x.f0.toList)=false:=beq_eq_false_iff_ne.mpr hnm
           clear hnm
           go_wp2
           repeat(go_quiet (fail);try go_wp2)
           go_roundg (t.f15.length - (j+1))
           case measure=>have:=HKj.o;omega
           case rel=>exact⟨j+1,false,(by first|rfl|go_num),rfl,hjlt,⟨by rw[pylonref09_windows.named_step hjlt,← HV.o,EY.o,hnb];rfl⟩,⟨rfl⟩,⟨aN BKb.o (by repeat(first|exact Below.refl _ _|apply ae|apply aa|apply af))⟩,⟨(by repeat(first|(with_reducible first|exact HB.o|apply ae|apply aa|apply af)|exact HB.o))⟩⟩
        ·have bj:decide ((j:Int) < (t.f15.length:Int))=false:=decide_eq_false (by omega)
         obtain rfl:j=t.f15.length:=by omega
         have HV_named:=HV
         clear HV HKj hj hjlt
         cases bK with
         |false=>
          have hG:=pylonref09_windows.fails hlt (show pylonref09_windows.good t.f15 t.f18 (t.f17.getD i z45)=false from by rw[EX.o];unfold pylonref09_windows.good;rw[← HV_known.o];simp) HA.o
          subst hG
          have hr:=Option.some.inj (show some false=some r from h'.o)
          subst hr
          go_wp2
          go_ret
          exact⟨rfl,aj HBW.o (by repeat(first|(with_reducible first|exact HB.o|apply ae|apply aa|apply af)|exact HB.o))⟩
         |true=>
          cases bb with
          |false=>
           have hG:=pylonref09_windows.fails hlt (show pylonref09_windows.good t.f15 t.f18 (t.f17.getD i z45)=false from by rw[EX.o];unfold pylonref09_windows.good;rw[← HV_named.o];simp) HA.o
           subst hG
           have hr:=Option.some.inj (show some false=some r from h'.o)
           subst hr
           go_wp2
           go_ret
           exact⟨rfl,aj HBW.o (by repeat(first|(with_reducible first|exact HB.o|apply ae|apply aa|apply af)|exact HB.o))⟩
          |true=>
           by_cases hd3:x.f1 < 0
           ·have bd3:decide (x.f1 < 0)=true:=decide_eq_true hd3
            have hG:=pylonref09_windows.fails hlt (show pylonref09_windows.good t.f15 t.f18 (t.f17.getD i z45)=false from by rw[EX.o];unfold pylonref09_windows.good pylonref09_windows.bad;rw[bd3];simp) HA.o
            subst hG
            have hr:=Option.some.inj (show some false=some r from h'.o)
            subst hr
            clear hd3
            go_wp2
            go_ret
            exact⟨rfl,aj HBW.o (by repeat(first|(with_reducible first|exact HB.o|apply ae|apply aa|apply af)|exact HB.o))⟩
           ·have bd3:decide (x.f1 < 0)=false:=decide_eq_false hd3
            clear hd3
            by_cases hd4:3 < x.f1
            ·have bd4:decide (3 < x.f1)=true:=decide_eq_true hd4
             have hG:=pylonref09_windows.fails hlt (show pylonref09_windows.good t.f15 t.f18 (t.f17.getD i z45)=false from by rw[EX.o];unfold pylonref09_windows.good pylonref09_windows.bad;rw[bd4];simp) HA.o
             subst hG
             have hr:=Option.some.inj (show some false=some r from h'.o)
             subst hr
             clear hd4
             go_wp2
             go_ret
             exact⟨rfl,aj HBW.o (by repeat(first|(with_reducible first|exact HB.o|apply ae|apply aa|apply af)|exact HB.o))⟩
            ·have bd4:decide (3 < x.f1)=false:=decide_eq_false hd4
             clear hd4
             by_cases hd5:x.f2 < 0
             ·have bd5:decide (x.f2 < 0)=true:=decide_eq_true hd5
              have hG:=pylonref09_windows.fails hlt (show pylonref09_windows.good t.f15 t.f18 (t.f17.getD i z45)=false from by rw[EX.o];unfold pylonref09_windows.good pylonref09_windows.bad;rw[bd5];simp) HA.o
              subst hG
              have hr:=Option.some.inj (show some false=some r from h'.o)
              subst hr
              clear hd5
              go_wp2
              go_ret
              exact⟨rfl,aj HBW.o (by repeat(first|(with_reducible first|exact HB.o|apply ae|apply aa|apply af)|exact HB.o))⟩
             ·have bd5:decide (x.f2 < 0)=false:=decide_eq_false hd5
              clear hd5
              by_cases hd6:x.f3≤x.f2
              ·have bd6:decide (x.f3≤x.f2)=true:=decide_eq_true hd6
               have hG:=pylonref09_windows.fails hlt (show pylonref09_windows.good t.f15 t.f18 (t.f17.getD i z45)=false from by rw[EX.o];unfold pylonref09_windows.good pylonref09_windows.bad;rw[bd6];simp) HA.o
               subst hG
               have hr:=Option.some.inj (show some false=some r from h'.o)
               subst hr
               clear hd6
               go_wp2
               go_ret
               exact⟨rfl,aj HBW.o (by repeat(first|(with_reducible first|exact HB.o|apply ae|apply aa|apply af)|exact HB.o))⟩
              ·have bd6:decide (x.f3≤x.f2)=false:=decide_eq_false hd6
               clear hd6
               by_cases hd7:1440 < x.f3
               ·have bd7:decide (1440 < x.f3)=true:=decide_eq_true hd7
                have hG:=pylonref09_windows.fails hlt (show pylonref09_windows.good t.f15 t.f18 (t.f17.getD i z45)=false from by rw[EX.o];unfold pylonref09_windows.good pylonref09_windows.bad;rw[bd7];simp) HA.o
                subst hG
                have hr:=Option.some.inj (show some false=some r from h'.o)
                subst hr
                clear hd7
                go_wp2
                go_ret
                exact⟨rfl,aj HBW.o (by repeat(first|(with_reducible first|exact HB.o|apply ae|apply aa|apply af)|exact HB.o))⟩
               ·have bd7:decide (1440 < x.f3)=false:=decide_eq_false hd7
                clear hd7
                by_cases hd8:Int.tmod x.f2 15≠0
                ·have bd8:(Int.tmod x.f2 15 != 0)=true:=bne_iff_ne.mpr hd8
                 have hG:=pylonref09_windows.fails hlt (show pylonref09_windows.good t.f15 t.f18 (t.f17.getD i z45)=false from by rw[EX.o];unfold pylonref09_windows.good pylonref09_windows.bad;rw[bd8];simp) HA.o
                 subst hG
                 have hr:=Option.some.inj (show some false=some r from h'.o)
                 subst hr
                 clear hd8
                 go_wp2
                 go_ret
                 exact⟨rfl,aj HBW.o (by repeat(first|(with_reducible first|exact HB.o|apply ae|apply aa|apply af)|exact HB.o))⟩
                ·have bd8:(Int.tmod x.f2 15 != 0)=false:=bne_eq_false_iff_eq.mpr (Decidable.not_not.mp hd8)
                 clear hd8
                 by_cases hd9:Int.tmod x.f3 15≠0
                 ·have bd9:(Int.tmod x.f3 15 != 0)=true:=bne_iff_ne.mpr hd9
                  have hG:=pylonref09_windows.fails hlt (show pylonref09_windows.good t.f15 t.f18 (t.f17.getD i z45)=false from by rw[EX.o];unfold pylonref09_windows.good pylonref09_windows.bad;rw[bd9];simp) HA.o
                  subst hG
                  have hr:=Option.some.inj (show some false=some r from h'.o)
                  subst hr
                  clear hd9
                  go_wp2
                  go_ret
                  exact⟨rfl,aj HBW.o (by repeat(first|(with_reducible first|exact HB.o|apply ae|apply aa|apply af)|exact HB.o))⟩
                 ·have bd9:(Int.tmod x.f3 15 != 0)=false:=bne_eq_false_iff_eq.mpr (Decidable.not_not.mp hd9)
                  clear hd9
                  have hgood:=ag.mk (pylonref09_windows.holds hlt (show pylonref09_windows.good t.f15 t.f18 (t.f17.getD i z45)=true from by rw[EX.o];unfold pylonref09_windows.good;rw[← HV_known.o,← HV_named.o];simp[pylonref09_windows.bad, *]) HA.o)
                  go_wp2
                  go_roundg (t.f17.length - (i+1))
                  case measure=>have:=HK.o;omega
                  case rel=>exact⟨i+1,(by first|rfl|go_num),hlt,⟨rfl⟩,hgood,⟨(by repeat(first|(with_reducible first|exact HB.o|apply ae|apply aa|apply af)|exact HB.o))⟩⟩
    ·have b0:decide ((i:Int) < (t.f17.length:Int))=false:=decide_eq_false (by omega)
     obtain rfl:i=t.f17.length:=by omega
     have HA2:=HA.o
     rw[dY] at HA2
     subst HA2
     have HR3:=ag.mk (Option.some.inj (show some (bC (pylonref09_windows.ps t.f15 t.f17) 0 (t.f15.length - 0))=some r from h'.o))
     go_wp2
     go_loopg [123] t.f15.length (fun kq v123 ws=>∃ (s:Nat),v123 = .int .i64 (s:Int)∧s≤t.f15.length∧ag (kq=t.f15.length - s)∧ag (bC (pylonref09_windows.ps t.f15 t.f17) s (t.f15.length - s)=r)∧ag (Below w1.heap.size w1 ws))
     case atStart=>exact⟨0,by first|rfl|simp,Nat.zero_le _,⟨rfl⟩,HR3,⟨(by repeat(first|(with_reducible first|exact HB.o|apply ae|apply aa|apply af)|exact HB.o))⟩⟩
     case round=>
      clear HB
      obtain⟨s,rfl,hs0,HKs,HD,HB⟩:=hrel
      have hc15:=cqq HB.o HK15.o
      have hc17:=cqq HB.o HK17.o
      have hc18:=cqq HB.o HK18.o
      by_cases hs:s < t.f15.length
      ·have bs:decide ((s:Int) < (t.f15.length:Int))=true:=decide_eq_true (by omega)
       have HD2:=HD.o
       rw[dm _ hs] at HD2
       obtain⟨sn,esn⟩ : ∃ sn,(t.f15.getD s z41).f0=sn:=⟨_,rfl⟩
       replace HD2:(bC (pylonref09_windows.pk t.f17 sn) 0 (4 - 0) && bC (pylonref09_windows.ps t.f15 t.f17) (s+1) (t.f15.length - (s+1)))=r:=by rw[← esn];exact HD2
       have ESN:=ag.mk esn
       clear esn
       have HD3:=ag.mk HD2
       clear HD2
       go_wp2
       go_loopg [126] 4 (fun kq v126 wk=>∃ (k:Nat),v126 = .int .i64 (k:Int)∧k≤4∧ag (kq=4 - k)∧ag ((bC (pylonref09_windows.pk t.f17 sn) k (4 - k) && bC (pylonref09_windows.ps t.f15 t.f17) (s+1) (t.f15.length - (s+1)))=r)∧ag (Below w1.heap.size w1 wk))
       case atStart=>exact⟨0,by first|rfl|simp,by omega,⟨rfl⟩,HD3,⟨(by repeat(first|(with_reducible first|exact HB.o|apply ae|apply aa|apply af)|exact HB.o))⟩⟩
       case round=>
        clear HB
        obtain⟨k,rfl,hk0,HKk,HE,HB⟩:=hrel
        have hc15:=cqq HB.o HK15.o
        have hc17:=cqq HB.o HK17.o
        have hc18:=cqq HB.o HK18.o
        by_cases hk:k < 4
        ·have bk:decide ((k:Int) < 4)=true:=decide_eq_true (by omega)
         have HE2:=HE.o
         rw[dm _ hk,Bool.and_assoc] at HE2
         have HE3:=ag.mk HE2
         clear HE2
         go_wp2
         go_loopg [129] 96 (fun kq v129 wq=>∃ (q:Nat),v129 = .int .i64 (q:Int)∧q≤96∧ag (kq=96 - q)∧ag ((bC (pylonref09_windows.pq t.f17 sn k) q (96 - q) && (bC (pylonref09_windows.pk t.f17 sn) (k+1) (4 - (k+1)) && bC (pylonref09_windows.ps t.f15 t.f17) (s+1) (t.f15.length - (s+1))))=r)∧ag (Below w1.heap.size w1 wq))
         case atStart=>exact⟨0,by first|rfl|simp,by omega,⟨rfl⟩,HE3,⟨(by repeat(first|(with_reducible first|exact HB.o|apply ae|apply aa|apply af)|exact HB.o))⟩⟩
         case round=>
          clear HB
          obtain⟨q,rfl,hq0,HKq,HF,HB⟩:=hrel
          have hc15:=cqq HB.o HK15.o
          have hc17:=cqq HB.o HK17.o
          have hc18:=cqq HB.o HK18.o
          by_cases hq:q < 96
          ·have bq:decide ((q:Int) < 96)=true:=decide_eq_true (by omega)
           go_wp2
           go_loopg [12,135] t.f17.length (fun kq v12 v135 wi=>∃ (i:Nat) (c:Nat),v135 = .int .i64 (i:Int)∧v12 = .int .i64 (c:Int)∧ag (c=pylonref09_windows.cnt t.f17 sn k q i)∧i≤t.f17.length∧ag (kq=t.f17.length - i)∧ag (Below w1.heap.size w1 wi))
           case atStart=>exact⟨0,0,by first|rfl|simp,by first|rfl|simp,⟨by simp[pylonref09_windows.cnt]⟩,Nat.zero_le _,⟨rfl⟩,⟨(by repeat(first|(with_reducible first|exact HB.o|apply ae|apply aa|apply af)|exact HB.o))⟩⟩
           case round=>
            clear HB
            obtain⟨i,c,rfl,rfl,HCN,hi,HK,HB⟩:=hrel
            have hc15:=cqq HB.o HK15.o
            have hc17:=cqq HB.o HK17.o
            have hc18:=cqq HB.o HK18.o
            by_cases hlt:i < t.f17.length
            ·have b0:decide ((i:Int) < (t.f17.length:Int))=true:=decide_eq_true (by omega)
             obtain⟨adx,ex,hx0,hx1,hx2,hx3,hx4⟩:=at_T45 G17.o (i:Int) (by omega) (by omega)
             have erx:eD t.f17 (i:Int)=t.f17.getD i z45:=by unfold eD;rw[Int.toNat_natCast]
             rw[erx] at hx0 hx1 hx2 hx3 hx4
             cases ex
             rw[Int.toNat_natCast] at hx0 hx1 hx2 hx3 hx4
             obtain⟨x,ex⟩ : ∃ x,t.f17.getD i z45=x:=⟨_,rfl⟩
             rw[ex] at hx0 hx1 hx2 hx3 hx4
             have EX:=ag.mk ex
             clear ex
             have Hhx0:=ag.mk hx0
             have Hhx1:=ag.mk hx1
             have Hhx2:=ag.mk hx2
             have Hhx3:=ag.mk hx3
             have Hhx4:=ag.mk hx4
             replace hx0:=cqq HB.o Hhx0.o
             replace hx1:=cqq HB.o Hhx1.o
             replace hx2:=cqq HB.o Hhx2.o
             replace hx3:=cqq HB.o Hhx3.o
             replace hx4:=cqq HB.o Hhx4.o
             have px:0≤(i:Int):=by omega
             have qx:(i:Int) < (t.f17.length:Int):=by omega
             replace px:=eq_true px
             replace qx:=eq_true qx
             clear erx
             obtain⟨ady,ey,hy0,hy1,hy2⟩:=at_T41 G15.o (s:Int) (by omega) (by omega)
             have ery:dw t.f15 (s:Int)=t.f15.getD s z41:=by unfold dw;rw[Int.toNat_natCast]
             rw[ery] at hy0 hy1 hy2
             cases ey
             rw[Int.toNat_natCast] at hy0 hy1 hy2
             obtain⟨y,ey⟩ : ∃ y,t.f15.getD s z41=y:=⟨_,rfl⟩
             rw[ey] at hy0 hy1 hy2
             have EY:=ag.mk ey
             clear ey
             have Hhy0:=ag.mk hy0
             have Hhy1:=ag.mk hy1
             have Hhy2:=ag.mk hy2
             replace hy0:=cqq HB.o Hhy0.o
             replace hy1:=cqq HB.o Hhy1.o
             replace hy2:=cqq HB.o Hhy2.o
             have py:0≤(s:Int):=by omega
             have qy:(s:Int) < (t.f15.length:Int):=by omega
             replace py:=eq_true py
             replace qy:=eq_true qy
             clear ery
             rw[show y.f0=sn from by rw[← EY.o];exact ESN.o] at hy0 Hhy0
             have hmul:IntKind.i64.wrap (15 * (q:Int))=15 * (q:Int):=by rw[i64_w];unfold wrap64;omega
             have hmul2:wrap64 (15 * (q:Int))=15 * (q:Int):=by unfold wrap64;omega
             go_wp2_with (first|((with_reducible refine aI (N:=14) rfl ?_);refine aH ?hg (N:=14) ?hd (cs:=#[.string ⟨#[]⟩,.int .i64 0,.int .i64 0,.int .i64 0,.string ⟨#[]⟩]) (t:=45) ?hr ?_;(case hd=>rfl);(case hg=>rfl);(case hr=>first|(go_simp;done)|(go_simp;rfl));intro gb hg_ w9 hbox hb_;have n0_:=ag.mk (aj (by repeat(first|(with_reducible first|exact HB.o|apply ae|apply aa|apply af)|exact HB.o)) hb_);have GEb:=ag.mk ((by rw[hg_];exact(ak (by repeat(first|(with_reducible first|exact HB.o|apply ae|apply aa|apply af)|exact HB.o)))):w1.heap.size≤gb);clear HB;have HB:=n0_;have BKb:=ag.mk hbox;clear n0_ hb_ hbox hg_;(try clear hc15);have hc15:=cqq HB.o HK15.o;(try clear hc17);have hc17:=cqq HB.o HK17.o;(try clear hc18);have hc18:=cqq HB.o HK18.o;(try clear hx0);have hx0:=cqq HB.o Hhx0.o;(try clear hx1);have hx1:=cqq HB.o Hhx1.o;(try clear hx2);have hx2:=cqq HB.o Hhx2.o;(try clear hx3);have hx3:=cqq HB.o Hhx3.o;(try clear hx4);have hx4:=cqq HB.o Hhx4.o;(try clear hy0);have hy0:=cqq HB.o Hhy0.o;(try clear hy1);have hy1:=cqq HB.o Hhy1.o;(try clear hy2);have hy2:=cqq HB.o Hhy2.o;skip)|((with_reducible refine gate_store 45 rfl ?_);refine store_event rfl _ _ _ rfl (by (with_reducible repeat(first|refine av ?_ _|refine aA ?_|refine au ?_ _));exact BKb.o) rfl rfl ?os ?oi ?o1 ?_;(case os=>rfl);(case oi=>kernel_rfl);(case o1=>rfl);intro w9b hbox hg_;have n0_:=ag.mk (Below.grown (by repeat(first|(with_reducible first|exact HB.o|apply ae|apply aa|apply af)|exact HB.o)) hg_ (ak (by repeat(first|(with_reducible first|exact HB.o|apply ae|apply aa|apply af)|exact HB.o))) (fun k hk=>by cases hk;exact GEb.o));clear HB BKb;have HB:=n0_;have BKb:=ag.mk hbox;clear n0_ hg_ hbox;(try clear hc15);have hc15:=cqq HB.o HK15.o;(try clear hc17);have hc17:=cqq HB.o HK17.o;(try clear hc18);have hc18:=cqq HB.o HK18.o;(try clear hx0);have hx0:=cqq HB.o Hhx0.o;(try clear hx1);have hx1:=cqq HB.o Hhx1.o;(try clear hx2);have hx2:=cqq HB.o Hhx2.o;(try clear hx3);have hx3:=cqq HB.o Hhx3.o;(try clear hx4);have hx4:=cqq HB.o Hhx4.o;(try clear hy0);have hy0:=cqq HB.o Hhy0.o;(try clear hy1);have hy1:=cqq HB.o Hhy1.o;(try clear hy2);have hy2:=cqq HB.o Hhy2.o;(try clear hvb_0);have hvb_0:=(ah BKb.o 0).trans rfl;(try clear hvb_1);have hvb_1:=(ah BKb.o 1).trans rfl;(try clear hvb_2);have hvb_2:=(ah BKb.o 2).trans rfl;(try clear hvb_3);have hvb_3:=(ah BKb.o 3).trans rfl;(try clear hvb_4);have hvb_4:=(ah BKb.o 4).trans rfl;skip))
             let RR:Nat → Value → World → Prop:=fun i v w=>(List.getD [fun v=>v=Value.pointer (some ⟨gb,0,none⟩),fun v=>v=Value.string x.f0,fun v=>v=Value.pointer (some ⟨g1,15,none⟩),fun v=>v=Value.slice (some ady) t.f15.length c15,fun v=>v=Value.int .i64 (s:Int),fun v=>v=Value.pointer (some (ady.add (s * 3))),fun v=>v=Value.pointer (some (ady.add (s * 3))),fun v=>v=Value.string sn,fun v=>v=Value.bool (x.f0.toList == sn.toList),fun v=>v=Value.bool (x.f0.toList == sn.toList),fun v=>v=cond (x.f0.toList == sn.toList) (Value.pointer (some ⟨gb,1,none⟩)) undef,fun v=>v=cond (x.f0.toList == sn.toList) (Value.int .i64 x.f1) undef,fun v=>v=cond (x.f0.toList == sn.toList) (Value.int .i64 (k:Int)) undef,fun v=>v=cond (x.f0.toList == sn.toList) (Value.bool (x.f1 == (k:Int))) undef,fun v=>v=Value.bool ((x.f0.toList == sn.toList) && (x.f1 == (k:Int))),fun v=>v=Value.bool ((x.f0.toList == sn.toList) && (x.f1 == (k:Int))),fun v=>v=cond ((x.f0.toList == sn.toList) && (x.f1 == (k:Int))) (Value.pointer (some ⟨gb,2,none⟩)) undef,fun v=>v=cond ((x.f0.toList == sn.toList) && (x.f1 == (k:Int))) (Value.int .i64 x.f2) undef,fun v=>v=cond ((x.f0.toList == sn.toList) && (x.f1 == (k:Int))) (Value.int .i64 (q:Int)) undef,fun v=>v=cond ((x.f0.toList == sn.toList) && (x.f1 == (k:Int))) (Value.int .i64 (15 * (q:Int))) undef,fun v=>v=cond ((x.f0.toList == sn.toList) && (x.f1 == (k:Int))) (Value.bool (decide (x.f2≤(15 * (q:Int))))) undef,fun v=>v=Value.bool (((x.f0.toList == sn.toList) && (x.f1 == (k:Int))) && (decide (x.f2≤(15 * (q:Int))))),fun v=>v=Value.bool (((x.f0.toList == sn.toList) && (x.f1 == (k:Int))) && (decide (x.f2≤(15 * (q:Int))))),fun v=>v=cond (((x.f0.toList == sn.toList) && (x.f1 == (k:Int))) && (decide (x.f2≤(15 * (q:Int))))) (Value.int .i64 (q:Int)) undef,fun v=>v=cond (((x.f0.toList == sn.toList) && (x.f1 == (k:Int))) && (decide (x.f2≤(15 * (q:Int))))) (Value.int .i64 (15 * (q:Int))) undef,fun v=>v=cond (((x.f0.toList == sn.toList) && (x.f1 == (k:Int))) && (decide (x.f2≤(15 * (q:Int))))) (Value.pointer (some ⟨gb,3,none⟩)) undef,fun v=>v=cond (((x.f0.toList == sn.toList) && (x.f1 == (k:Int))) && (decide (x.f2≤(15 * (q:Int))))) (Value.int .i64 x.f3) undef,fun v=>v=cond (((x.f0.toList == sn.toList) && (x.f1 == (k:Int))) && (decide (x.f2≤(15 * (q:Int))))) (Value.bool (decide ((15 * (q:Int)) < x.f3))) undef,fun v=>v=Value.bool ((((x.f0.toList == sn.toList) && (x.f1 == (k:Int))) && (decide (x.f2≤(15 * (q:Int))))) && (decide ((15 * (q:Int)) < x.f3)))] i (fun _=>True)) v
             refine eB RR [[(14,none)],[(143,some 0)],[(1,none)],[(145,some 2)],[(9,none)],[(146,some 3),(147,some 4)],[(148,some 5)],[(149,some 6)],[(144,some 1),(150,some 7)],[(151,some 8)],[(14,none),(152,some 9)],[(153,some 10),(152,some 9)],[(10,none),(152,some 9)],[(154,some 11),(155,some 12),(152,some 9)],[(152,some 9),(156,some 13)],[(157,some 14)],[(14,none),(158,some 15)],[(159,some 16),(158,some 15)],[(11,none),(158,some 15)],[(161,some 18),(158,some 15)],[(160,some 17),(162,some 19),(158,some 15)],[(158,some 15),(163,some 20)],[(164,some 21)],[(11,none),(165,some 22)],[(166,some 23),(165,some 22)],[(14,none),(165,some 22)],[(168,some 25),(165,some 22)],[(167,some 24),(169,some 26),(165,some 22)],[(165,some 22),(170,some 27)]] [(0,143),(1,144),(2,145),(3,146),(4,147),(5,148),(6,149),(7,150),(8,151),(9,152),(10,153),(11,154),(12,155),(13,156),(14,157),(15,158),(16,159),(17,160),(18,161),(19,162),(20,163),(21,164),(22,165),(23,166),(24,167),(25,168),(26,169),(27,170),(28,171)] rfl (by kernel_rfl) (by kernel_rfl) (fun _ _ _ _ _ h _=>h) (by kernel_rfl) ⟨?_,?_,?_,?_,?_,?_,?_,?_,?_,?_,?_,?_,?_,?_,?_,?_,?_,?_,?_,?_,?_,?_,?_,?_,?_,?_,?_,?_,?_,trivial⟩ ?_
             ·intro a w' hb henv K hK
              obtain⟨e14,-⟩:=henv
              replace e14:a.tmps[14]? = some (Value.pointer (some ⟨gb,0,none⟩)):=e14.trans rfl
              exact aG (R:=RR) (i:=0) hK (Value.pointer (some ⟨gb,0,none⟩)) (aM rfl _) (by simp only[execOp,aC e14];go_simp) rfl
             ·intro a w' hb henv K hK
              obtain⟨⟨v143,e143,r143⟩,-⟩:=henv
              replace r143:v143=Value.pointer (some ⟨gb,0,none⟩):=r143
              rw[r143] at e143
              clear r143 v143
              have hcell:=(hb.cell (World.block_lt_of_cell? _ _ hvb_0)).trans hvb_0
              exact aG (R:=RR) (i:=1) hK (Value.string x.f0) (aM rfl _) (by simp only[execOp,aC e143];go_simp) rfl
             ·intro a w' hb henv K hK
              obtain⟨e1,-⟩:=henv
              replace e1:a.tmps[1]? = some (Value.pointer (some ⟨g1,0,none⟩)):=e1.trans rfl
              exact aG (R:=RR) (i:=2) hK (Value.pointer (some ⟨g1,15,none⟩)) (aM rfl _) (by simp only[execOp,aC e1];go_simp) rfl
             ·intro a w' hb henv K hK
              obtain⟨⟨v145,e145,r145⟩,-⟩:=henv
              replace r145:v145=Value.pointer (some ⟨g1,15,none⟩):=r145
              rw[r145] at e145
              clear r145 v145
              have hcell:=(hb.cell (World.block_lt_of_cell? _ _ hc15)).trans hc15
              exact aG (R:=RR) (i:=3) hK (Value.slice (some ady) t.f15.length c15) (aM rfl _) (by simp only[execOp,aC e145];go_simp) rfl
             ·intro a w' hb henv K hK
              obtain⟨e9,-⟩:=henv
              replace e9:a.tmps[9]? = some (Value.int .i64 (s:Int)):=e9.trans rfl
              exact aG (R:=RR) (i:=4) hK (Value.int .i64 (s:Int)) (aM rfl _) (by simp only[execOp,aC e9];go_simp) rfl
             ·intro a w' hb henv K hK
              obtain⟨⟨v146,e146,r146⟩,⟨v147,e147,r147⟩,-⟩:=henv
              replace r146:v146=Value.slice (some ady) t.f15.length c15:=r146
              rw[r146] at e146
              clear r146 v146
              replace r147:v147=Value.int .i64 (s:Int):=r147
              rw[r147] at e147
              clear r147 v147
              exact aG (R:=RR) (i:=5) hK (Value.pointer (some (ady.add (s * 3)))) (aM rfl _) (by simp only[execOp,aC e146,aC e147];go_simp) rfl
             ·intro a w' hb henv K hK
              obtain⟨⟨v148,e148,r148⟩,-⟩:=henv
              replace r148:v148=Value.pointer (some (ady.add (s * 3))):=r148
              rw[r148] at e148
              clear r148 v148
              exact aG (R:=RR) (i:=6) hK (Value.pointer (some (ady.add (s * 3)))) (aM rfl _) (by simp only[execOp,aC e148];go_simp) rfl
             ·intro a w' hb henv K hK
              obtain⟨⟨v149,e149,r149⟩,-⟩:=henv
              replace r149:v149=Value.pointer (some (ady.add (s * 3))):=r149
              rw[r149] at e149
              clear r149 v149
              have hcell:=(hb.cell (World.block_lt_of_cell? _ _ hy0)).trans hy0
              exact aG (R:=RR) (i:=7) hK (Value.string sn) (aM rfl _) (by simp only[execOp,aC e149];go_simp) rfl
             ·intro a w' hb henv K hK
              obtain⟨⟨v144,e144,r144⟩,⟨v150,e150,r150⟩,-⟩:=henv
              replace r144:v144=Value.string x.f0:=r144
              rw[r144] at e144
              clear r144 v144
              replace r150:v150=Value.string sn:=r150
              rw[r150] at e150
              clear r150 v150
              exact aG (R:=RR) (i:=8) hK (Value.bool (x.f0.toList == sn.toList)) (aM rfl _) (by simp only[execOp,aC e144,aC e150];go_simp) rfl
             ·intro a w' hb henv K hK
              obtain⟨⟨v151,e151,r151⟩,-⟩:=henv
              replace r151:v151=Value.bool (x.f0.toList == sn.toList):=r151
              rw[r151] at e151
              clear r151 v151
              exact aG (R:=RR) (i:=9) hK (Value.bool (x.f0.toList == sn.toList)) (aM rfl _) (by simp only[execOp,aC e151];go_simp) rfl
             ·intro a w' hb henv K hK
              obtain⟨e14,⟨v152,e152,r152⟩,-⟩:=henv
              replace e14:a.tmps[14]? = some (Value.pointer (some ⟨gb,0,none⟩)):=e14.trans rfl
              replace r152:v152=Value.bool (x.f0.toList == sn.toList):=r152
              rw[r152] at e152
              clear r152 v152
              cases g0:((x.f0.toList == sn.toList):Bool)
              ·skip
               exact aT (R:=RR) (i:=10) hK (aD (x:=false) (g:=9) (b:=true) rfl (t:=152) rfl (a:=a) (by first|exact e152|(simp only[g0] at e152;exact e152))) (show undef=_ from by simp only[g0,cond_true,cond_false])
              ·skip
               exact aG (R:=RR) (i:=10) hK (Value.pointer (some ⟨gb,1,none⟩)) (aD (x:=true) (g:=9) (b:=true) rfl (t:=152) rfl (a:=a) (by first|exact e152|(simp only[g0] at e152;exact e152))) (by simp only[execOp,aC e14];first|(go_simp;done)|(simp only[g0];go_simp)) (show _=_ from by simp only[g0,cond_true,cond_false])
             ·intro a w' hb henv K hK
              obtain⟨⟨v153,e153,r153⟩,⟨v152,e152,r152⟩,-⟩:=henv
              replace r153:v153=cond (x.f0.toList == sn.toList) (Value.pointer (some ⟨gb,1,none⟩)) undef:=r153
              rw[r153] at e153
              clear r153 v153
              replace r152:v152=Value.bool (x.f0.toList == sn.toList):=r152
              rw[r152] at e152
              clear r152 v152
              cases g0:((x.f0.toList == sn.toList):Bool)
              ·(try simp only[g0,cond_true,cond_false] at e153)
               exact aT (R:=RR) (i:=11) hK (aD (x:=false) (g:=9) (b:=true) rfl (t:=152) rfl (a:=a) (by first|exact e152|(simp only[g0] at e152;exact e152))) (show undef=_ from by simp only[g0,cond_true,cond_false])
              ·(try simp only[g0,cond_true,cond_false] at e153)
               have hcell:=(hb.cell (World.block_lt_of_cell? _ _ hvb_1)).trans hvb_1
               exact aG (R:=RR) (i:=11) hK (Value.int .i64 x.f1) (aD (x:=true) (g:=9) (b:=true) rfl (t:=152) rfl (a:=a) (by first|exact e152|(simp only[g0] at e152;exact e152))) (by simp only[execOp,aC e153];go_simp) (show _=_ from by simp only[g0,cond_true,cond_false])
             ·intro a w' hb henv K hK
              obtain⟨e10,⟨v152,e152,r152⟩,-⟩:=henv
              replace e10:a.tmps[10]? = some (Value.int .i64 (k:Int)):=e10.trans rfl
              replace r152:v152=Value.bool (x.f0.toList == sn.toList):=r152
              rw[r152] at e152
              clear r152 v152
              cases g0:((x.f0.toList == sn.toList):Bool)
              ·skip
               exact aT (R:=RR) (i:=12) hK (aD (x:=false) (g:=9) (b:=true) rfl (t:=152) rfl (a:=a) (by first|exact e152|(simp only[g0] at e152;exact e152))) (show undef=_ from by simp only[g0,cond_true,cond_false])
              ·skip
               exact aG (R:=RR) (i:=12) hK (Value.int .i64 (k:Int)) (aD (x:=true) (g:=9) (b:=true) rfl (t:=152) rfl (a:=a) (by first|exact e152|(simp only[g0] at e152;exact e152))) (by simp only[execOp,aC e10];first|(go_simp;done)|(simp only[g0];go_simp)) (show _=_ from by simp only[g0,cond_true,cond_false])
             ·intro a w' hb henv K hK
              obtain⟨⟨v154,e154,r154⟩,⟨v155,e155,r155⟩,⟨v152,e152,r152⟩,-⟩:=henv
              replace r154:v154=cond (x.f0.toList == sn.toList) (Value.int .i64 x.f1) undef:=r154
              rw[r154] at e154
              clear r154 v154
              replace r155:v155=cond (x.f0.toList == sn.toList) (Value.int .i64 (k:Int)) undef:=r155
              rw[r155] at e155
              clear r155 v155
              replace r152:v152=Value.bool (x.f0.toList == sn.toList):=r152
              rw[r152] at e152
              clear r152 v152
              cases g0:((x.f0.toList == sn.toList):Bool)
              ·(try simp only[g0,cond_true,cond_false] at e154);(try simp only[g0,cond_true,cond_false] at e155)
               exact aT (R:=RR) (i:=13) hK (aD (x:=false) (g:=9) (b:=true) rfl (t:=152) rfl (a:=a) (by first|exact e152|(simp only[g0] at e152;exact e152))) (show undef=_ from by simp only[g0,cond_true,cond_false])
              ·(try simp only[g0,cond_true,cond_false] at e154);(try simp only[g0,cond_true,cond_false] at e155)
               exact aG (R:=RR) (i:=13) hK (Value.bool (x.f1 == (k:Int))) (aD (x:=true) (g:=9) (b:=true) rfl (t:=152) rfl (a:=a) (by first|exact e152|(simp only[g0] at e152;exact e152))) (by simp only[execOp,aC e154,aC e155];first|(go_simp;done)|(simp only[g0];go_simp)) (show _=_ from by simp only[g0,cond_true,cond_false])
             ·intro a w' hb henv K hK
              obtain⟨⟨v152,e152,r152⟩,⟨v156,e156,r156⟩,-⟩:=henv
              replace r152:v152=Value.bool (x.f0.toList == sn.toList):=r152
              rw[r152] at e152
              clear r152 v152
              replace r156:v156=cond (x.f0.toList == sn.toList) (Value.bool (x.f1 == (k:Int))) undef:=r156
              rw[r156] at e156
              clear r156 v156
              cases g0:((x.f0.toList == sn.toList):Bool)
              ·(try simp only[g0,cond_true,cond_false] at e156)
               exact aG (R:=RR) (i:=14) hK (Value.bool ((x.f0.toList == sn.toList) && (x.f1 == (k:Int)))) (aM rfl _) (by simp only[execOp,aC e152,aC e156];first|(go_simp;done)|(simp only[g0];go_simp)) (show _=_ from by first|rfl|(simp only[g0];rfl))
              ·(try simp only[g0,cond_true,cond_false] at e156)
               exact aG (R:=RR) (i:=14) hK (Value.bool ((x.f0.toList == sn.toList) && (x.f1 == (k:Int)))) (aM rfl _) (by simp only[execOp,aC e152,aC e156];first|(go_simp;done)|(simp only[g0];go_simp)) (show _=_ from by first|rfl|(simp only[g0];rfl))
             ·intro a w' hb henv K hK
              obtain⟨⟨v157,e157,r157⟩,-⟩:=henv
              replace r157:v157=Value.bool ((x.f0.toList == sn.toList) && (x.f1 == (k:Int))):=r157
              rw[r157] at e157
              clear r157 v157
              exact aG (R:=RR) (i:=15) hK (Value.bool ((x.f0.toList == sn.toList) && (x.f1 == (k:Int)))) (aM rfl _) (by simp only[execOp,aC e157];go_simp) rfl
             ·intro a w' hb henv K hK
              obtain⟨e14,⟨v158,e158,r158⟩,-⟩:=henv
              replace e14:a.tmps[14]? = some (Value.pointer (some ⟨gb,0,none⟩)):=e14.trans rfl
              replace r158:v158=Value.bool ((x.f0.toList == sn.toList) && (x.f1 == (k:Int))):=r158
              rw[r158] at e158
              clear r158 v158
              cases g0:(((x.f0.toList == sn.toList) && (x.f1 == (k:Int))):Bool)
              ·skip
               exact aT (R:=RR) (i:=16) hK (aD (x:=false) (g:=15) (b:=true) rfl (t:=158) rfl (a:=a) (by first|exact e158|(simp only[g0] at e158;exact e158))) (show undef=_ from by simp only[g0,cond_true,cond_false])
              ·skip
               exact aG (R:=RR) (i:=16) hK (Value.pointer (some ⟨gb,2,none⟩)) (aD (x:=true) (g:=15) (b:=true) rfl (t:=158) rfl (a:=a) (by first|exact e158|(simp only[g0] at e158;exact e158))) (by simp only[execOp,aC e14];first|(go_simp;done)|(simp only[g0];go_simp)) (show _=_ from by simp only[g0,cond_true,cond_false])
             ·intro a w' hb henv K hK
              obtain⟨⟨v159,e159,r159⟩,⟨v158,e158,r158⟩,-⟩:=henv
              replace r159:v159=cond ((x.f0.toList == sn.toList) && (x.f1 == (k:Int))) (Value.pointer (some ⟨gb,2,none⟩)) undef:=r159
              rw[r159] at e159
              clear r159 v159
              replace r158:v158=Value.bool ((x.f0.toList == sn.toList) && (x.f1 == (k:Int))):=r158
              rw[r158] at e158
              clear r158 v158
              cases g0:(((x.f0.toList == sn.toList) && (x.f1 == (k:Int))):Bool)
              ·(try simp only[g0,cond_true,cond_false] at e159)
               exact aT (R:=RR) (i:=17) hK (aD (x:=false) (g:=15) (b:=true) rfl (t:=158) rfl (a:=a) (by first|exact e158|(simp only[g0] at e158;exact e158))) (show undef=_ from by simp only[g0,cond_true,cond_false])
              ·(try simp only[g0,cond_true,cond_false] at e159)
               have hcell:=(hb.cell (World.block_lt_of_cell? _ _ hvb_2)).trans hvb_2
               exact aG (R:=RR) (i:=17) hK (Value.int .i64 x.f2) (aD (x:=true) (g:=15) (b:=true) rfl (t:=158) rfl (a:=a) (by first|exact e158|(simp only[g0] at e158;exact e158))) (by simp only[execOp,aC e159];go_simp) (show _=_ from by simp only[g0,cond_true,cond_false])
             ·intro a w' hb henv K hK
              obtain⟨e11,⟨v158,e158,r158⟩,-⟩:=henv
              replace e11:a.tmps[11]? = some (Value.int .i64 (q:Int)):=e11.trans rfl
              replace r158:v158=Value.bool ((x.f0.toList == sn.toList) && (x.f1 == (k:Int))):=r158
              rw[r158] at e158
              clear r158 v158
              cases g0:(((x.f0.toList == sn.toList) && (x.f1 == (k:Int))):Bool)
              ·skip
               exact aT (R:=RR) (i:=18) hK (aD (x:=false) (g:=15) (b:=true) rfl (t:=158) rfl (a:=a) (by first|exact e158|(simp only[g0] at e158;exact e158))) (show undef=_ from by simp only[g0,cond_true,cond_false])
              ·skip
               exact aG (R:=RR) (i:=18) hK (Value.int .i64 (q:Int)) (aD (x:=true) (g:=15) (b:=true) rfl (t:=158) rfl (a:=a) (by first|exact e158|(simp only[g0] at e158;exact e158))) (by simp only[execOp,aC e11];first|(go_simp;done)|(simp only[g0];go_simp)) (show _=_ from by simp only[g0,cond_true,cond_false])
             ·intro a w' hb henv K hK
              obtain⟨⟨v161,e161,r161⟩,⟨v158,e158,r158⟩,-⟩:=henv
              replace r161:v161=cond ((x.f0.toList == sn.toList) && (x.f1 == (k:Int))) (Value.int .i64 (q:Int)) undef:=r161
              rw[r161] at e161
              clear r161 v161
              replace r158:v158=Value.bool ((x.f0.toList == sn.toList) && (x.f1 == (k:Int))):=r158
              rw[r158] at e158
              clear r158 v158
              cases g0:(((x.f0.toList == sn.toList) && (x.f1 == (k:Int))):Bool)
              ·(try simp only[g0,cond_true,cond_false] at e161)
               exact aT (R:=RR) (i:=19) hK (aD (x:=false) (g:=15) (b:=true) rfl (t:=158) rfl (a:=a) (by first|exact e158|(simp only[g0] at e158;exact e158))) (show undef=_ from by simp only[g0,cond_true,cond_false])
              ·(try simp only[g0,cond_true,cond_false] at e161)
               exact aG (R:=RR) (i:=19) hK (Value.int .i64 (15 * (q:Int))) (aD (x:=true) (g:=15) (b:=true) rfl (t:=158) rfl (a:=a) (by first|exact e158|(simp only[g0] at e158;exact e158))) (by simp only[execOp,aC e161];first|(go_simp;done)|(simp only[g0];go_simp)) (show _=_ from by simp only[g0,cond_true,cond_false])
             ·intro a w' hb henv K hK
              obtain⟨⟨v160,e160,r160⟩,⟨v162,e162,r162⟩,⟨v158,e158,r158⟩,-⟩:=henv
              replace r160:v160=cond ((x.f0.toList == sn.toList) && (x.f1 == (k:Int))) (Value.int .i64 x.f2) undef:=r160
              rw[r160] at e160
              clear r160 v160
              replace r162:v162=cond ((x.f0.toList == sn.toList) && (x.f1 == (k:Int))) (Value.int .i64 (15 * (q:Int))) undef:=r162
              rw[r162] at e162
              clear r162 v162
              replace r158:v158=Value.bool ((x.f0.toList == sn.toList) && (x.f1 == (k:Int))):=r158
              rw[r158] at e158
              clear r158 v158
              cases g0:(((x.f0.toList == sn.toList) && (x.f1 == (k:Int))):Bool)
              ·(try simp only[g0,cond_true,cond_false] at e160);(try simp only[g0,cond_true,cond_false] at e162)
               exact aT (R:=RR) (i:=20) hK (aD (x:=false) (g:=15) (b:=true) rfl (t:=158) rfl (a:=a) (by first|exact e158|(simp only[g0] at e158;exact e158))) (show undef=_ from by simp only[g0,cond_true,cond_false])
              ·(try simp only[g0,cond_true,cond_false] at e160);(try simp only[g0,cond_true,cond_false] at e162)
               exact aG (R:=RR) (i:=20) hK (Value.bool (decide (x.f2≤(15 * (q:Int))))) (aD (x:=true) (g:=15) (b:=true) rfl (t:=158) rfl (a:=a) (by first|exact e158|(simp only[g0] at e158;exact e158))) (by simp only[execOp,aC e160,aC e162];first|(go_simp;done)|(simp only[g0];go_simp)) (show _=_ from by simp only[g0,cond_true,cond_false])
             ·intro a w' hb henv K hK
              obtain⟨⟨v158,e158,r158⟩,⟨v163,e163,r163⟩,-⟩:=henv
              replace r158:v158=Value.bool ((x.f0.toList == sn.toList) && (x.f1 == (k:Int))):=r158
              rw[r158] at e158
              clear r158 v158
              replace r163:v163=cond ((x.f0.toList == sn.toList) && (x.f1 == (k:Int))) (Value.bool (decide (x.f2≤(15 * (q:Int))))) undef:=r163
              rw[r163] at e163
              clear r163 v163
              cases g0:(((x.f0.toList == sn.toList) && (x.f1 == (k:Int))):Bool)
              ·(try simp only[g0,cond_true,cond_false] at e163)
               exact aG (R:=RR) (i:=21) hK (Value.bool (((x.f0.toList == sn.toList) && (x.f1 == (k:Int))) && (decide (x.f2≤(15 * (q:Int)))))) (aM rfl _) (by simp only[execOp,aC e158,aC e163];first|(go_simp;done)|(simp only[g0];go_simp)) (show _=_ from by first|rfl|(simp only[g0];rfl))
              ·(try simp only[g0,cond_true,cond_false] at e163)
               exact aG (R:=RR) (i:=21) hK (Value.bool (((x.f0.toList == sn.toList) && (x.f1 == (k:Int))) && (decide (x.f2≤(15 * (q:Int)))))) (aM rfl _) (by simp only[execOp,aC e158,aC e163];first|(go_simp;done)|(simp only[g0];go_simp)) (show _=_ from by first|rfl|(simp only[g0];rfl))
             ·intro a w' hb henv K hK
              obtain⟨⟨v164,e164,r164⟩,-⟩:=henv
              replace r164:v164=Value.bool (((x.f0.toList == sn.toList) && (x.f1 == (k:Int))) && (decide (x.f2≤(15 * (q:Int))))):=r164
              rw[r164] at e164
              clear r164 v164
              exact aG (R:=RR) (i:=22) hK (Value.bool (((x.f0.toList == sn.toList) && (x.f1 == (k:Int))) && (decide (x.f2≤(15 * (q:Int)))))) (aM rfl _) (by simp only[execOp,aC e164];go_simp) rfl
             ·intro a w' hb henv K hK
              obtain⟨e11,⟨v165,e165,r165⟩,-⟩:=henv
              replace e11:a.tmps[11]? = some (Value.int .i64 (q:Int)):=e11.trans rfl
              replace r165:v165=Value.bool (((x.f0.toList == sn.toList) && (x.f1 == (k:Int))) && (decide (x.f2≤(15 * (q:Int))))):=r165
              rw[r165] at e165
              clear r165 v165
              cases g0:((((x.f0.toList == sn.toList) && (x.f1 == (k:Int))) && (decide (x.f2≤(15 * (q:Int))))):Bool)
              ·skip
               exact aT (R:=RR) (i:=23) hK (aD (x:=false) (g:=22) (b:=true) rfl (t:=165) rfl (a:=a) (by first|exact e165|(simp only[g0] at e165;exact e165))) (show undef=_ from by simp only[g0,cond_true,cond_false])
              ·skip
               exact aG (R:=RR) (i:=23) hK (Value.int .i64 (q:Int)) (aD (x:=true) (g:=22) (b:=true) rfl (t:=165) rfl (a:=a) (by first|exact e165|(simp only[g0] at e165;exact e165))) (by simp only[execOp,aC e11];first|(go_simp;done)|(simp only[g0];go_simp)) (show _=_ from by simp only[g0,cond_true,cond_false])
             ·intro a w' hb henv K hK
              obtain⟨⟨v166,e166,r166⟩,⟨v165,e165,r165⟩,-⟩:=henv
              replace r166:v166=cond (((x.f0.toList == sn.toList) && (x.f1 == (k:Int))) && (decide (x.f2≤(15 * (q:Int))))) (Value.int .i64 (q:Int)) undef:=r166
              rw[r166] at e166
              clear r166 v166
              replace r165:v165=Value.bool (((x.f0.toList == sn.toList) && (x.f1 == (k:Int))) && (decide (x.f2≤(15 * (q:Int))))):=r165
              rw[r165] at e165
              clear r165 v165
              cases g0:((((x.f0.toList == sn.toList) && (x.f1 == (k:Int))) && (decide (x.f2≤(15 * (q:Int))))):Bool)
              ·(try simp only[g0,cond_true,cond_false] at e166)
               exact aT (R:=RR) (i:=24) hK (aD (x:=false) (g:=22) (b:=true) rfl (t:=165) rfl (a:=a) (by first|exact e165|(simp only[g0] at e165;exact e165))) (show undef=_ from by simp only[g0,cond_true,cond_false])
              ·(try simp only[g0,cond_true,cond_false] at e166)
               exact aG (R:=RR) (i:=24) hK (Value.int .i64 (15 * (q:Int))) (aD (x:=true) (g:=22) (b:=true) rfl (t:=165) rfl (a:=a) (by first|exact e165|(simp only[g0] at e165;exact e165))) (by simp only[execOp,aC e166];first|(go_simp;done)|(simp only[g0];go_simp)) (show _=_ from by simp only[g0,cond_true,cond_false])
             ·intro a w' hb henv K hK
              obtain⟨e14,⟨v165,e165,r165⟩,-⟩:=henv
              replace e14:a.tmps[14]? = some (Value.pointer (some ⟨gb,0,none⟩)):=e14.trans rfl
              replace r165:v165=Value.bool (((x.f0.toList == sn.toList) && (x.f1 == (k:Int))) && (decide (x.f2≤(15 * (q:Int))))):=r165
              rw[r165] at e165
              clear r165 v165
              cases g0:((((x.f0.toList == sn.toList) && (x.f1 == (k:Int))) && (decide (x.f2≤(15 * (q:Int))))):Bool)
              ·skip
               exact aT (R:=RR) (i:=25) hK (aD (x:=false) (g:=22) (b:=true) rfl (t:=165) rfl (a:=a) (by first|exact e165|(simp only[g0] at e165;exact e165))) (show undef=_ from by simp only[g0,cond_true,cond_false])
              ·skip
               exact aG (R:=RR) (i:=25) hK (Value.pointer (some ⟨gb,3,none⟩)) (aD (x:=true) (g:=22) (b:=true) rfl (t:=165) rfl (a:=a) (by first|exact e165|(simp only[g0] at e165;exact e165))) (by simp only[execOp,aC e14];first|(go_simp;done)|(simp only[g0];go_simp)) (show _=_ from by simp only[g0,cond_true,cond_false])
             ·intro a w' hb henv K hK
              obtain⟨⟨v168,e168,r168⟩,⟨v165,e165,r165⟩,-⟩:=henv
              replace r168:v168=cond (((x.f0.toList == sn.toList) && (x.f1 == (k:Int))) && (decide (x.f2≤(15 * (q:Int))))) (Value.pointer (some ⟨gb,3,none⟩)) undef:=r168
              rw[r168] at e168
              clear r168 v168
              replace r165:v165=Value.bool (((x.f0.toList == sn.toList) && (x.f1 == (k:Int))) && (decide (x.f2≤(15 * (q:Int))))):=r165
              rw[r165] at e165
              clear r165 v165
              cases g0:((((x.f0.toList == sn.toList) && (x.f1 == (k:Int))) && (decide (x.f2≤(15 * (q:Int))))):Bool)
              ·(try simp only[g0,cond_true,cond_false] at e168)
               exact aT (R:=RR) (i:=26) hK (aD (x:=false) (g:=22) (b:=true) rfl (t:=165) rfl (a:=a) (by first|exact e165|(simp only[g0] at e165;exact e165))) (show undef=_ from by simp only[g0,cond_true,cond_false])
              ·(try simp only[g0,cond_true,cond_false] at e168)
               have hcell:=(hb.cell (World.block_lt_of_cell? _ _ hvb_3)).trans hvb_3
               exact aG (R:=RR) (i:=26) hK (Value.int .i64 x.f3) (aD (x:=true) (g:=22) (b:=true) rfl (t:=165) rfl (a:=a) (by first|exact e165|(simp only[g0] at e165;exact e165))) (by simp only[execOp,aC e168];go_simp) (show _=_ from by simp only[g0,cond_true,cond_false])
             ·intro a w' hb henv K hK
              obtain⟨⟨v167,e167,r167⟩,⟨v169,e169,r169⟩,⟨v165,e165,r165⟩,-⟩:=henv
              replace r167:v167=cond (((x.f0.toList == sn.toList) && (x.f1 == (k:Int))) && (decide (x.f2≤(15 * (q:Int))))) (Value.int .i64 (15 * (q:Int))) undef:=r167
              rw[r167] at e167
              clear r167 v167
              replace r169:v169=cond (((x.f0.toList == sn.toList) && (x.f1 == (k:Int))) && (decide (x.f2≤(15 * (q:Int))))) (Value.int .i64 x.f3) undef:=r169
              rw[r169] at e169
              clear r169 v169
              replace r165:v165=Value.bool (((x.f0.toList == sn.toList) && (x.f1 == (k:Int))) && (decide (x.f2≤(15 * (q:Int))))):=r165
              rw[r165] at e165
              clear r165 v165
              cases g0:((((x.f0.toList == sn.toList) && (x.f1 == (k:Int))) && (decide (x.f2≤(15 * (q:Int))))):Bool)
              ·(try simp only[g0,cond_true,cond_false] at e167);(try simp only[g0,cond_true,cond_false] at e169)
               exact aT (R:=RR) (i:=27) hK (aD (x:=false) (g:=22) (b:=true) rfl (t:=165) rfl (a:=a) (by first|exact e165|(simp only[g0] at e165;exact e165))) (show undef=_ from by simp only[g0,cond_true,cond_false])
              ·(try simp only[g0,cond_true,cond_false] at e167);(try simp only[g0,cond_true,cond_false] at e169)
               exact aG (R:=RR) (i:=27) hK (Value.bool (decide ((15 * (q:Int)) < x.f3))) (aD (x:=true) (g:=22) (b:=true) rfl (t:=165) rfl (a:=a) (by first|exact e165|(simp only[g0] at e165;exact e165))) (by simp only[execOp,aC e167,aC e169];first|(go_simp;done)|(simp only[g0];go_simp)) (show _=_ from by simp only[g0,cond_true,cond_false])
             ·intro a w' hb henv K hK
              obtain⟨⟨v165,e165,r165⟩,⟨v170,e170,r170⟩,-⟩:=henv
              replace r165:v165=Value.bool (((x.f0.toList == sn.toList) && (x.f1 == (k:Int))) && (decide (x.f2≤(15 * (q:Int))))):=r165
              rw[r165] at e165
              clear r165 v165
              replace r170:v170=cond (((x.f0.toList == sn.toList) && (x.f1 == (k:Int))) && (decide (x.f2≤(15 * (q:Int))))) (Value.bool (decide ((15 * (q:Int)) < x.f3))) undef:=r170
              rw[r170] at e170
              clear r170 v170
              cases g0:((((x.f0.toList == sn.toList) && (x.f1 == (k:Int))) && (decide (x.f2≤(15 * (q:Int))))):Bool)
              ·(try simp only[g0,cond_true,cond_false] at e170)
               exact aG (R:=RR) (i:=28) hK (Value.bool ((((x.f0.toList == sn.toList) && (x.f1 == (k:Int))) && (decide (x.f2≤(15 * (q:Int))))) && (decide ((15 * (q:Int)) < x.f3)))) (aM rfl _) (by simp only[execOp,aC e165,aC e170];first|(go_simp;done)|(simp only[g0];go_simp)) (show _=_ from by first|rfl|(simp only[g0];rfl))
              ·(try simp only[g0,cond_true,cond_false] at e170)
               exact aG (R:=RR) (i:=28) hK (Value.bool ((((x.f0.toList == sn.toList) && (x.f1 == (k:Int))) && (decide (x.f2≤(15 * (q:Int))))) && (decide ((15 * (q:Int)) < x.f3)))) (aM rfl _) (by simp only[execOp,aC e165,aC e170];first|(go_simp;done)|(simp only[g0];go_simp)) (show _=_ from by first|rfl|(simp only[g0];rfl))
             intro wz hb_
             intro u143_ q143_;clear q143_
             intro u144_ q144_;clear q144_
             intro u145_ q145_;clear q145_
             intro u146_ q146_;clear q146_
             intro u147_ q147_;clear q147_
             intro u148_ q148_;clear q148_
             intro u149_ q149_;clear q149_
             intro u150_ q150_;clear q150_
             intro u151_ q151_;clear q151_
             intro u152_ q152_;clear q152_
             intro u153_ q153_;clear q153_
             intro u154_ q154_;clear q154_
             intro u155_ q155_;clear q155_
             intro u156_ q156_;clear q156_
             intro u157_ q157_;clear q157_
             intro u158_ q158_;clear q158_
             intro u159_ q159_;clear q159_
             intro u160_ q160_;clear q160_
             intro u161_ q161_;clear q161_
             intro u162_ q162_;clear q162_
             intro u163_ q163_;clear q163_
             intro u164_ q164_;clear q164_
             intro u165_ q165_;clear q165_
             intro u166_ q166_;clear q166_
             intro u167_ q167_;clear q167_
             intro u168_ q168_;clear q168_
             intro u169_ q169_;clear q169_
             intro u170_ q170_;clear q170_
             intro u171_ q171_
             replace q171_:u171_ = .bool (pylonref09_windows.hit sn k q x):=q171_
             generalize ehit:pylonref09_windows.hit sn k q x=bh at q171_
             have EHIT:=ag.mk ehit
             clear ehit
             subst q171_
             have hcle:c≤i:=by rw[HCN.o];exact pylonref09_windows.cnt_le _ _ _ _ _
             have n0_:=ag.mk (aj HB.o hb_)
             clear HB
             have HB:=n0_
             clear n0_ hb_
             dsimp only[fM]
             clear RR
             simp only[Act.put,List.setIfInBounds_toArray,List.set_cons_zero,List.set_cons_succ]
             cases bh with
             |false=>
              go_wp2
              go_roundg (t.f17.length - (i+1))
              case measure=>have:=HK.o;omega
              case rel=>exact⟨i+1,c,(by first|rfl|go_num),(by first|rfl|go_num),⟨by rw[pylonref09_windows.cnt_step hlt,EX.o,EHIT.o,HCN.o];rfl⟩,hlt,⟨rfl⟩,⟨(by repeat(first|(with_reducible first|exact HB.o|apply ae|apply aa|apply af)|exact HB.o))⟩⟩
             |true=>
              go_wp2
              go_roundg (t.f17.length - (i+1))
              case measure=>have:=HK.o;omega
              case rel=>exact⟨i+1,c+1,(by first|rfl|go_num),(by first|rfl|go_num),⟨by rw[pylonref09_windows.cnt_step hlt,EX.o,EHIT.o,HCN.o];rfl⟩,hlt,⟨rfl⟩,⟨(by repeat(first|(with_reducible first|exact HB.o|apply ae|apply aa|apply af)|exact HB.o))⟩⟩
            ·have b0:decide ((i:Int) < (t.f17.length:Int))=false:=decide_eq_false (by omega)
             obtain rfl:i=t.f17.length:=by omega
             by_cases h1:c=1
             ·have hc1:((c:Int) != 1)=false:=by simp[h1]
              have HF2:=HF.o
              rw[dm _ hq,show pylonref09_windows.pq t.f17 sn k q=true from by unfold pylonref09_windows.pq;rw[← HCN.o];simp[h1],Bool.true_and] at HF2
              have HF3:=ag.mk HF2
              clear HF2 h1
              go_wp2
              go_roundg (96 - (q+1))
              case measure=>have:=HKq.o;omega
              case rel=>exact⟨q+1,(by first|rfl|go_num),hq,⟨rfl⟩,HF3,⟨(by repeat(first|(with_reducible first|exact HB.o|apply ae|apply aa|apply af)|exact HB.o))⟩⟩
             ·have hc1:((c:Int) != 1)=true:=bne_iff_ne.mpr (fun e=>h1 (by omega))
              have HF2:=HF.o
              rw[dm _ hq,show pylonref09_windows.pq t.f17 sn k q=false from by unfold pylonref09_windows.pq;rw[← HCN.o];simp[h1],Bool.false_and,Bool.false_and] at HF2
              subst HF2
              clear h1
              go_wp2
              go_ret
              exact⟨rfl,aj HBW.o (by repeat(first|(with_reducible first|exact HB.o|apply ae|apply aa|apply af)|exact HB.o))⟩
          ·have bq:decide ((q:Int) < 96)=false:=decide_eq_false (by omega)
           obtain rfl:q=96:=by omega
           have HF2:=HF.o
           rw[dY,Bool.true_and] at HF2
           have HF3:=ag.mk HF2
           clear HF2
           go_wp2
           go_roundg (4 - (k+1))
           case measure=>have:=HKk.o;omega
           case rel=>exact⟨k+1,(by first|rfl|go_num),hk,⟨rfl⟩,HF3,⟨(by repeat(first|(with_reducible first|exact HB.o|apply ae|apply aa|apply af)|exact HB.o))⟩⟩
        ·have bk:decide ((k:Int) < 4)=false:=decide_eq_false (by omega)
         obtain rfl:k=4:=by omega
         have HE2:=HE.o
         rw[dY,Bool.true_and] at HE2
         have HE3:=ag.mk HE2
         clear HE2
         go_wp2
         go_roundg (t.f15.length - (s+1))
         case measure=>have:=HKs.o;omega
         case rel=>exact⟨s+1,(by first|rfl|go_num),hs,⟨rfl⟩,HE3,⟨(by repeat(first|(with_reducible first|exact HB.o|apply ae|apply aa|apply af)|exact HB.o))⟩⟩
      ·have bs:decide ((s:Int) < (t.f15.length:Int))=false:=decide_eq_false (by omega)
       obtain rfl:s=t.f15.length:=by omega
       have HD2:=HD.o
       rw[dY] at HD2
       subst HD2
       go_wp2
       go_ret
       exact⟨rfl,aj HBW.o (by repeat(first|(with_reducible first|exact HB.o|apply ae|apply aa|apply af)|exact HB.o))⟩
end Go.Proofs.YtcmhfcciapenfaaDoor.Pa
