/- A part of the proof. -/
import Derived.Test.YtcmhfcciapenfaaDoorQ00
import Derived.Test.YtcmhfcciapenfaaDoorQ21
set_option linter.all false
namespace Go.Proofs.YtcmhfcciapenfaaDoor.Pa
open Go.RowKit Go.Proofs.YtcmhfcciapenfaaDoorW.PrintWords Go.Proofs.YtcmhfcciapenfaaDoorW.PrintLast Go.Proofs.YtcmhfcciapenfaaDoorW.PrintMore
attribute [local go_sem] bJ bL bU bV bA bB bM bN
def pylonref09_seasons.inside (a b d:Int):Bool:=(decide (a≤b) && decide (a≤d) && decide (d≤b)) || (decide (b < a) && (decide (a≤d) || decide (d≤b)))
def pylonref09_seasons.held (a b:Int) (held:List Int):List Int:=held.mapIdx fun d x=>if d≠0∧pylonref09_seasons.inside a b (d:Int)=true then wrap64 (x+1) else x
def pylonref09_seasons.go:Nat → List S41 → List (List UInt8) → List Int → Option (Option (List Int))
 |_,[],_,held=>some (some held)
 |k,s :: t,ns,held=>(pylonref09_Day.f k s.f1).bind fun a=>(pylonref09_Day.f k s.f2).bind fun b=>(pylonref06_Name.f k s.f0).bind fun g=>if g=false then some none else if a.2≠0 then some none else if b.2≠0 then some none else if s.f0.toList∈ns then some none else pylonref09_seasons.go k t (ns ++ [s.f0.toList]) (pylonref09_seasons.held a.1 b.1 held)
def pylonref09_seasons.f (k:Nat) (l0:List S41):Option Bool:=if (l0.length:Int) < 1 then some false else if (l0.length:Int) > 64 then some false else (pylonref09_seasons.go k l0 [] (List.replicate 367 0)).bind fun o=>match o with
 |none=>some false
 |some held=>some ((held.drop 1).all fun x=>decide (x=1))
def pylonref09_seasons.heldTo (n:Nat) (a b:Int) (hs:List Int):List Int:=hs.mapIdx fun d x=>if d < n∧d≠0∧pylonref09_seasons.inside a b (d:Int)=true then wrap64 (x+1) else x
theorem pylonref09_seasons.heldTo_length (n:Nat) (a b:Int) (hs:List Int):(pylonref09_seasons.heldTo n a b hs).length=hs.length:=by unfold pylonref09_seasons.heldTo;simp
theorem pylonref09_seasons.heldTo_one (a b:Int) (hs:List Int):pylonref09_seasons.heldTo 1 a b hs=hs:=by
 unfold pylonref09_seasons.heldTo
 apply List.ext_getElem?
 intro i
 rw[List.getElem?_mapIdx]
 cases hs[i]? with
 |none=>rfl
 |some x=>simp only[Option.map_some];rw[if_neg (by omega)]
theorem pylonref09_seasons.heldTo_all (a b:Int) (hs:List Int) (hl:hs.length=367):pylonref09_seasons.heldTo 367 a b hs=pylonref09_seasons.held a b hs:=by
 unfold pylonref09_seasons.heldTo pylonref09_seasons.held
 apply List.ext_getElem?
 intro i
 rw[List.getElem?_mapIdx,List.getElem?_mapIdx]
 rcases Nat.lt_or_ge i hs.length with hi|hi
 ·rw[List.getElem?_eq_getElem hi]
  simp only[Option.map_some,show i < 367 by omega,true_and]
 ·rw[List.getElem?_eq_none hi]
  rfl
theorem pylonref09_seasons.heldTo_out {d:Nat} {a b:Int} {hs:List Int} (h:pylonref09_seasons.inside a b (d:Int)=false):pylonref09_seasons.heldTo (d+1) a b hs=pylonref09_seasons.heldTo d a b hs:=by
 unfold pylonref09_seasons.heldTo
 apply List.ext_getElem?
 intro i
 rw[List.getElem?_mapIdx,List.getElem?_mapIdx]
 cases hs[i]? with
 |none=>rfl
 |some x=>
  simp only[Option.map_some]
  by_cases e:i=d
  ·subst e
   rw[if_neg (by simp[h]),if_neg (by simp[h])]
  ·simp only[show(i < d+1)↔(i < d) by omega]
theorem pylonref09_seasons.heldTo_in {d:Nat} {a b:Int} {hs:List Int} (hd:d≠0) (h:pylonref09_seasons.inside a b (d:Int)=true):pylonref09_seasons.heldTo (d+1) a b hs=(pylonref09_seasons.heldTo d a b hs).set d (wrap64 ((pylonref09_seasons.heldTo d a b hs).getD d 0+1)):=by
 apply List.ext_getElem?
 intro i
 rw[List.getElem?_set,List.getD_eq_getElem?_getD]
 unfold pylonref09_seasons.heldTo
 rw[List.getElem?_mapIdx,List.getElem?_mapIdx,List.getElem?_mapIdx,List.length_mapIdx]
 by_cases e:d=i
 ·subst e
  rw[if_pos rfl]
  rcases Nat.lt_or_ge d hs.length with hi|hi
  ·rw[if_pos hi,List.getElem?_eq_getElem hi]
   simp[h,hd]
  ·rw[if_neg (by omega),List.getElem?_eq_none hi]
   rfl
 ·rw[if_neg e]
  simp only[show(i < d+1)↔(i < d) by omega]
theorem pylonref09_seasons.cell {w:World} {g:Nat} {hs:List Int} (hb:w.heap[g]? = some (.cells (hs.map (Value.int .i64)).toArray 73 (0,0))) {d:Nat} (hd:d < hs.length):w.cell? ⟨g,d,none⟩=some (.int .i64 (hs.getD d 0)):=by
 rw[ah hb d]
 simp[List.getD_eq_getElem?_getD,hd]
theorem pylonref09_seasons.stored {w:World} {g d:Nat} {hs hs' : List Int} {x:Int} (hb:w.heap[g]? = some (.cells (hs.map (Value.int .i64)).toArray 73 (0,0))) (h:hs' = hs.set d x):(w.setCell ⟨g,d,none⟩ (.int .i64 x)).heap[g]? = some (.cells (hs'.map (Value.int .i64)).toArray 73 (0,0)):=by
 rw[blk_set hb d (.int .i64 x),h]
 simp[List.map_set]
theorem pylonref09_seasons.zeros (w:World):Sem.run Tryd.prog (Instr.alloc 73 true (.tuple #[])) w=Result.ok (Value.pointer (some ⟨w.heap.size,0,none⟩)) (w.alloc (.cells ((List.replicate 367 (0:Int)).map (Value.int .i64)).toArray 73 (0,0))):=by kernel_rfl
theorem pylonref09_seasons.notMem {l:List S41} {j:Nat} {x:List UInt8} (h:x ∉ (l.take j).map fun s=>s.f0.toList) (hj:j < l.length) (hne:l[j].f0.toList≠x):x ∉ (l.take (j+1)).map fun s=>s.f0.toList:=by
 rw[List.take_add_one,List.getElem?_eq_getElem hj,List.map_append]
 intro hm
 rcases List.mem_append.1 hm with hm|hm
 ·exact h hm
 ·simp at hm
  exact hne hm.symm
set_option maxHeartbeats 8000000 in
set_option maxRecDepth 100000 in
theorem pylonref09_seasons.calls (k:Nat) (A0:Option Addr) (c0:Nat) (l0:List S41) (r:Bool) (w:World) (hr0:Kd.C k41 w A0 l0.length l0) (hc0:l0.length≤c0) (h:pylonref09_seasons.f k l0=some r) :
  Calls Tryd.prog 24 #[.slice A0 l0.length c0] w fun e w'=>e = .returned (.bool r)∧Below w.heap.size w w':=by
 have hu41:=Tryd.underlying41
 have hua:=Tryd.underlying73
 have HR0:=ag.mk hr0
 have HC0:=ag.mk hc0
 clear hr0 hc0
 have HB:=ag.mk (Below.refl w.heap.size w)
 unfold pylonref09_seasons.f at h
 by_cases h1:(l0.length:Int) < 1
 ·rw[if_pos h1] at h
  have hr:=Option.some.inj h
  subst hr
  have h1b:decide ((l0.length:Int) < 1)=true:=decide_eq_true h1
  clear h1
  go_enter Tryd.func24,Tryd.ntmps24
  go_wp2
  go_ret
  exact⟨rfl,(by repeat(first|(with_reducible first|exact HB.o|apply ae|apply aa|apply af)|exact HB.o))⟩
 ·rw[if_neg h1] at h
  have h1b:decide ((l0.length:Int) < 1)=false:=decide_eq_false h1
  clear h1
  by_cases h2:(l0.length:Int) > 64
  ·rw[if_pos h2] at h
   have hr:=Option.some.inj h
   subst hr
   have h2b:decide (64 < (l0.length:Int))=true:=decide_eq_true h2
   clear h2
   go_enter Tryd.func24,Tryd.ntmps24
   go_wp2
   go_ret
   exact⟨rfl,(by repeat(first|(with_reducible first|exact HB.o|apply ae|apply aa|apply af)|exact HB.o))⟩
  ·rw[if_neg h2] at h
   have h2b:decide (64 < (l0.length:Int))=false:=decide_eq_false h2
   have hlen:l0.length≤64:=by omega
   clear h2
   obtain⟨g,H,h⟩:=Option.bind_eq_some_iff.mp h
   have H':=ag.mk H
   clear H
   have h':=ag.mk h
   clear h
   have hz:=pylonref09_seasons.zeros
   go_enter Tryd.func24,Tryd.ntmps24
   go_wp2_with (first|((with_reducible refine aI (N:=3) rfl ?_);refine aH ?hg (N:=3) ?hd (cs:=((List.replicate 367 (0:Int)).map (Value.int .i64)).toArray) (t:=73) ?hr ?_;(case hd=>rfl);(case hg=>rfl);(case hr=>(simp only[execOp,Sem.run_bind,hz,Result.andThen_ok];rfl));intro gh hg_ w1 hbox hb_;have n0_:=ag.mk (aj (by repeat(first|(with_reducible first|exact HB.o|apply ae|apply aa|apply af)|exact HB.o)) hb_);have n2_:=ag.mk ((by rw[hg_];exact(ak (by repeat(first|(with_reducible first|exact HB.o|apply ae|apply aa|apply af)|exact HB.o)))):w.heap.size≤gh);clear HB;have HB:=n0_;have BKH:=ag.mk hbox;have GEh:=n2_;clear n0_ n2_ hb_ hbox hg_))
   go_loopg [22] l0.length (fun kq v22 wr=>∃ (i:Nat) (hs:List Int),v22 = .int .i64 (i:Int)∧i≤l0.length∧ag (kq=l0.length - i)∧ag (hs.length=367)∧ag (pylonref09_seasons.go k (l0.drop i) ((l0.take i).map fun s=>s.f0.toList) hs=some g)∧ag (wr.heap[gh]? = some (.cells (hs.map (Value.int .i64)).toArray 73 (0,0)))∧ag (Below w.heap.size w wr))
   case atStart=>exact⟨0,_,by first|rfl|simp,Nat.zero_le _,⟨rfl⟩,⟨by simp⟩,⟨by simpa using H'.o⟩,BKH,HB⟩
   case round=>
    clear H' HB BKH
    obtain⟨i,hs,rfl,hi,HK,HL,HA,BKH,HB0⟩:=hrel
    by_cases hlt:i < l0.length
    ·have b0:decide ((i:Int) < (l0.length:Int))=true:=decide_eq_true (by omega)
     have HA2:=HA.o
     clear HA
     rw[List.drop_eq_getElem_cons hlt] at HA2
     obtain⟨ad,e,hx0,hx1,hx2⟩:=at_T41 HR0.o (i:Int) (by omega) (by omega)
     have erd:dw l0 (i:Int)=l0[i]:=by unfold dw;rw[Int.toNat_natCast,List.getD_eq_getElem?_getD,List.getElem?_eq_getElem hlt];rfl
     rw[erd] at hx0 hx1 hx2
     obtain rfl:=e
     rw[Int.toNat_natCast] at hx0 hx1 hx2
     replace hx0:=(HB0.o.cell (World.block_lt_of_cell? w _ hx0)).trans hx0
     replace hx1:=(HB0.o.cell (World.block_lt_of_cell? w _ hx1)).trans hx1
     replace hx2:=(HB0.o.cell (World.block_lt_of_cell? w _ hx2)).trans hx2
     have p0:0≤(i:Int):=by omega
     have q0:(i:Int) < (l0.length:Int):=by omega
     replace p0:=eq_true p0
     replace q0:=eq_true q0
     clear erd
     have ebn : ∃ bn,l0[i]=bn:=⟨_,rfl⟩
     obtain⟨bn,ebn⟩:=ebn
     rw[ebn] at hx0 hx1 hx2 HA2
     have EBN:=ag.mk ebn
     clear ebn
     have HB:=ag.mk (Below.refl wr.heap.size wr)
     unfold pylonref09_seasons.go at HA2
     obtain⟨⟨a1,a2⟩,A1,HA2⟩:=Option.bind_eq_some_iff.mp HA2
     obtain⟨⟨b1,b2⟩,A2,HA2⟩:=Option.bind_eq_some_iff.mp HA2
     obtain⟨t1,A3,HA2⟩:=Option.bind_eq_some_iff.mp HA2
     replace A1:=ag.mk A1
     replace A2:=ag.mk A2
     replace A3:=ag.mk A3
     replace HA2:(if t1=false then some none else if a2≠0 then some none else if b2≠0 then some none else if bn.f0.toList∈((l0.take i).map fun s=>s.f0.toList) then some none else pylonref09_seasons.go k (l0.drop (i+1)) (((l0.take i).map fun s=>s.f0.toList) ++ [bn.f0.toList]) (pylonref09_seasons.held a1 b1 hs))=some g:=HA2
     cases t1 with
     |false=>
      rw[if_pos rfl] at HA2
      cases HA2
      have hr:=Option.some.inj (show some false=some r from h'.o)
      subst hr
      go_wp2_with (first|(go_at_call 15;(with_reducible refine(pylonref09_Day.calls k bn.f1 _ _ _ A1.o).mono ?_);rintro e w8 ⟨rfl,hb⟩;have n0_:=ag.mk (aj (by repeat(first|(with_reducible first|exact HB.o|apply ae|apply aa|apply af)|exact HB.o)) hb);replace hx0:=(hb.cell (World.block_lt_of_cell? _ _ hx0)).trans hx0;replace hx1:=(hb.cell (World.block_lt_of_cell? _ _ hx1)).trans hx1;replace hx2:=(hb.cell (World.block_lt_of_cell? _ _ hx2)).trans hx2;clear HB;have HB:=n0_;clear n0_ hb)|(go_at_call 15;(with_reducible refine(pylonref09_Day.calls k bn.f2 _ _ _ A2.o).mono ?_);rintro e w9 ⟨rfl,hb⟩;have n0_:=ag.mk (aj (by repeat(first|(with_reducible first|exact HB.o|apply ae|apply aa|apply af)|exact HB.o)) hb);replace hx0:=(hb.cell (World.block_lt_of_cell? _ _ hx0)).trans hx0;replace hx1:=(hb.cell (World.block_lt_of_cell? _ _ hx1)).trans hx1;replace hx2:=(hb.cell (World.block_lt_of_cell? _ _ hx2)).trans hx2;clear HB;have HB:=n0_;clear n0_ hb)|(go_at_call 21;(with_reducible refine(pylonref06_Name.calls k bn.f0 _ _ A3.o).mono ?_);rintro e w10 ⟨rfl,⟨nd,rfl⟩⟩))
      go_ret
      exact⟨rfl,aj HB0.o (by repeat(first|(with_reducible first|exact HB.o|apply ae|apply aa|apply af)|exact HB.o))⟩
     |true=>
      rw[if_neg (by simp)] at HA2
      by_cases ha:a2=0
      ·subst ha
       rw[if_neg (by simp)] at HA2
       by_cases hb:b2=0
       ·subst hb
        rw[if_neg (by simp)] at HA2
        have HA3:=ag.mk HA2
        clear HA2
        go_wp2_with (first|(go_at_call 15;(with_reducible refine(pylonref09_Day.calls k bn.f1 _ _ _ A1.o).mono ?_);rintro e w8 ⟨rfl,hb⟩;have n0_:=ag.mk (aj (by repeat(first|(with_reducible first|exact HB.o|apply ae|apply aa|apply af)|exact HB.o)) hb);replace hx0:=(hb.cell (World.block_lt_of_cell? _ _ hx0)).trans hx0;replace hx1:=(hb.cell (World.block_lt_of_cell? _ _ hx1)).trans hx1;replace hx2:=(hb.cell (World.block_lt_of_cell? _ _ hx2)).trans hx2;clear HB;have HB:=n0_;clear n0_ hb)|(go_at_call 15;(with_reducible refine(pylonref09_Day.calls k bn.f2 _ _ _ A2.o).mono ?_);rintro e w9 ⟨rfl,hb⟩;have n0_:=ag.mk (aj (by repeat(first|(with_reducible first|exact HB.o|apply ae|apply aa|apply af)|exact HB.o)) hb);replace hx0:=(hb.cell (World.block_lt_of_cell? _ _ hx0)).trans hx0;replace hx1:=(hb.cell (World.block_lt_of_cell? _ _ hx1)).trans hx1;replace hx2:=(hb.cell (World.block_lt_of_cell? _ _ hx2)).trans hx2;clear HB;have HB:=n0_;clear n0_ hb)|(go_at_call 21;(with_reducible refine(pylonref06_Name.calls k bn.f0 _ _ A3.o).mono ?_);rintro e w10 ⟨rfl,⟨nd,rfl⟩⟩))
        go_loopg [9] i (fun kq v9 wj=>∃ (j:Nat),v9 = .int .i64 (j:Int)∧j≤i∧ag (kq=i - j)∧ag (bn.f0.toList ∉ ((l0.take j).map fun s=>s.f0.toList))∧ag (Below wr.heap.size wr wj))
        case atStart=>exact⟨0,by first|rfl|simp,Nat.zero_le _,⟨rfl⟩,⟨by simp⟩,⟨(by repeat(first|(with_reducible first|exact HB.o|apply ae|apply aa|apply af)|exact HB.o))⟩⟩
        case round=>
         obtain⟨j,rfl,hj,HKj,HNj,HBj⟩:=hrel
         clear HB
         have HB:=HBj
         clear HBj
         by_cases hjlt:j < i
         ·have bj:decide ((j:Int) < (i:Int))=true:=decide_eq_true (by omega)
          obtain⟨ad',e',hy0,_,_⟩:=at_T41 HR0.o (j:Int) (by omega) (by omega)
          have erd:dw l0 (j:Int)=l0[j]:=by unfold dw;rw[Int.toNat_natCast,List.getD_eq_getElem?_getD,List.getElem?_eq_getElem (by omega)];rfl
          rw[erd] at hy0
          cases e'
          rw[Int.toNat_natCast] at hy0
          replace hy0:=((aj HB0.o HB.o).cell (World.block_lt_of_cell? w _ hy0)).trans hy0
          clear hx0
          obtain⟨ad2,e2,hx0,_,_⟩:=at_T41 HR0.o (i:Int) (by omega) (by omega)
          have erd2:dw l0 (i:Int)=bn:=by rw[← EBN.o];unfold dw;rw[Int.toNat_natCast,List.getD_eq_getElem?_getD,List.getElem?_eq_getElem hlt];rfl
          rw[erd2] at hx0
          cases e2
          rw[Int.toNat_natCast] at hx0
          replace hx0:=((aj HB0.o HB.o).cell (World.block_lt_of_cell? w _ hx0)).trans hx0
          have pj:0≤(j:Int):=by omega
          have qj:(j:Int) < (l0.length:Int):=by omega
          replace pj:=eq_true pj
          replace qj:=eq_true qj
          by_cases hnm:l0[j].f0.toList=bn.f0.toList
          ·have hnb:(l0[j].f0.toList == bn.f0.toList)=true:=beq_iff_eq.mpr hnm
           have HA4:=HA3.o
           rw[if_pos (List.mem_map.2 ⟨l0[j],List.mem_take_iff_getElem.2 ⟨j,by omega,rfl⟩,hnm⟩)] at HA4
           cases HA4
           have hr:=Option.some.inj (show some false=some r from h'.o)
           subst hr
           clear hnm
           go_wp2
           repeat(go_quiet (fail);try go_wp2)
           go_ret
           exact⟨rfl,aj HB0.o (by repeat(first|(with_reducible first|exact HB.o|apply ae|apply aa|apply af)|exact HB.o))⟩
          ·have hnb:(l0[j].f0.toList == bn.f0.toList)=false:=beq_eq_false_iff_ne.mpr hnm
           have HN2:=ag.mk (pylonref09_seasons.notMem HNj.o (by omega) hnm)
           clear hnm
           go_wp2
           repeat(go_quiet (fail);try go_wp2)
           go_roundg (i - (j+1))
           case measure=>have:=HKj.o;omega
           case rel=>exact⟨j+1,(by first|rfl|go_num),hjlt,⟨rfl⟩,HN2,⟨(by repeat(first|(with_reducible first|exact HB.o|apply ae|apply aa|apply af)|exact HB.o))⟩⟩
         ·have bj:decide ((j:Int) < (i:Int))=false:=decide_eq_false (by omega)
          have ej:j=i:=by omega
          subst ej
          have HA4:=HA3.o
          rw[if_neg HNj.o] at HA4
          have HA5:=ag.mk HA4
          clear HA4 HA3
          go_wp2
          go_loopg [10] 366 (fun kq v10 wd=>∃ (d:Nat),v10 = .int .i64 (d:Int)∧1≤d∧d≤367∧ag (kq=367 - d)∧ag (wd.heap[gh]? = some (.cells ((pylonref09_seasons.heldTo d a1 b1 hs).map (Value.int .i64)).toArray 73 (0,0)))∧ag (Below w.heap.size w wd))
          case atStart=>exact⟨1,by first|rfl|simp,by omega,by omega,⟨rfl⟩,⟨by rw[pylonref09_seasons.heldTo_one];exact aN BKH.o (by repeat(first|(with_reducible first|exact HB.o|apply ae|apply aa|apply af)|exact HB.o))⟩,⟨aj HB0.o (by repeat(first|(with_reducible first|exact HB.o|apply ae|apply aa|apply af)|exact HB.o))⟩⟩
          case round=>
           obtain⟨d,rfl,hd1,hd2,HKd,BKD,HBd⟩:=hrel
           by_cases hdlt:d≤366
           ·have bd:decide ((d:Int)≤366)=true:=decide_eq_true (by omega)
            have pd:0≤(d:Int):=by omega
            have qd:(d:Int) < 367:=by omega
            replace pd:=eq_true pd
            replace qd:=eq_true qd
            by_cases q1:a1≤b1
            ·have q1b:decide (a1≤b1)=true:=decide_eq_true q1
             have q1c:=Int.not_lt.2 q1
             have q1d:decide (b1 < a1)=false:=decide_eq_false (by omega)
             by_cases q2:a1≤(d:Int)
             ·have q2b:decide (a1≤(d:Int))=true:=decide_eq_true q2
              by_cases q3:(d:Int)≤b1
              ·have q3b:decide ((d:Int)≤b1)=true:=decide_eq_true q3
               have hv:pylonref09_seasons.inside a1 b1 (d:Int)=true:=by unfold pylonref09_seasons.inside;simp[*]
               have hst:=ag.mk (pylonref09_seasons.heldTo_in (d:=d) (a:=a1) (b:=b1) (hs:=hs) (by omega) hv)
               have hcell:=pylonref09_seasons.cell (d:=d) BKD.o (by rw[pylonref09_seasons.heldTo_length];have:=HL.o;omega)
               have hfr:=ai BKD.o d
               go_wp2
               go_roundg (367 - (d+1))
               case measure=>have:=HKd.o;omega
               case rel=>exact⟨d+1,(by first|rfl|go_num),by omega,by omega,⟨rfl⟩,⟨pylonref09_seasons.stored BKD.o hst.o⟩,⟨(by repeat(first|(with_reducible first|exact HBd.o|apply ae|apply aa|apply af|refine ax ?_ GEh.o)|exact HBd.o))⟩⟩
              ·have q3b:decide ((d:Int)≤b1)=false:=decide_eq_false q3
               have hv:pylonref09_seasons.inside a1 b1 (d:Int)=false:=by unfold pylonref09_seasons.inside;simp[*]
               have hst:=ag.mk (pylonref09_seasons.heldTo_out (d:=d) (a:=a1) (b:=b1) (hs:=hs) hv)
               go_wp2
               go_roundg (367 - (d+1))
               case measure=>have:=HKd.o;omega
               case rel=>exact⟨d+1,(by first|rfl|go_num),by omega,by omega,⟨rfl⟩,⟨by rw[hst.o];exact BKD.o⟩,HBd⟩
             ·have q2b:decide (a1≤(d:Int))=false:=decide_eq_false q2
              have hv:pylonref09_seasons.inside a1 b1 (d:Int)=false:=by unfold pylonref09_seasons.inside;simp[*]
              have hst:=ag.mk (pylonref09_seasons.heldTo_out (d:=d) (a:=a1) (b:=b1) (hs:=hs) hv)
              go_wp2
              go_roundg (367 - (d+1))
              case measure=>have:=HKd.o;omega
              case rel=>exact⟨d+1,(by first|rfl|go_num),by omega,by omega,⟨rfl⟩,⟨by rw[hst.o];exact BKD.o⟩,HBd⟩
            ·have q1b:decide (a1≤b1)=false:=decide_eq_false q1
             have q1d:decide (b1 < a1)=true:=decide_eq_true (by omega)
             by_cases q2:a1≤(d:Int)
             ·have q2b:decide (a1≤(d:Int))=true:=decide_eq_true q2
              have hv:pylonref09_seasons.inside a1 b1 (d:Int)=true:=by unfold pylonref09_seasons.inside;simp[*]
              have hst:=ag.mk (pylonref09_seasons.heldTo_in (d:=d) (a:=a1) (b:=b1) (hs:=hs) (by omega) hv)
              have hcell:=pylonref09_seasons.cell (d:=d) BKD.o (by rw[pylonref09_seasons.heldTo_length];have:=HL.o;omega)
              have hfr:=ai BKD.o d
              go_wp2
              go_roundg (367 - (d+1))
              case measure=>have:=HKd.o;omega
              case rel=>exact⟨d+1,(by first|rfl|go_num),by omega,by omega,⟨rfl⟩,⟨pylonref09_seasons.stored BKD.o hst.o⟩,⟨(by repeat(first|(with_reducible first|exact HBd.o|apply ae|apply aa|apply af|refine ax ?_ GEh.o)|exact HBd.o))⟩⟩
             ·have q2b:decide (a1≤(d:Int))=false:=decide_eq_false q2
              by_cases q3:(d:Int)≤b1
              ·have q3b:decide ((d:Int)≤b1)=true:=decide_eq_true q3
               have hv:pylonref09_seasons.inside a1 b1 (d:Int)=true:=by unfold pylonref09_seasons.inside;simp[*]
               have hst:=ag.mk (pylonref09_seasons.heldTo_in (d:=d) (a:=a1) (b:=b1) (hs:=hs) (by omega) hv)
               have hcell:=pylonref09_seasons.cell (d:=d) BKD.o (by rw[pylonref09_seasons.heldTo_length];have:=HL.o;omega)
               have hfr:=ai BKD.o d
               go_wp2
               go_roundg (367 - (d+1))
               case measure=>have:=HKd.o;omega
               case rel=>exact⟨d+1,(by first|rfl|go_num),by omega,by omega,⟨rfl⟩,⟨pylonref09_seasons.stored BKD.o hst.o⟩,⟨(by repeat(first|(with_reducible first|exact HBd.o|apply ae|apply aa|apply af|refine ax ?_ GEh.o)|exact HBd.o))⟩⟩
              ·have q3b:decide ((d:Int)≤b1)=false:=decide_eq_false q3
               have hv:pylonref09_seasons.inside a1 b1 (d:Int)=false:=by unfold pylonref09_seasons.inside;simp[*]
               have hst:=ag.mk (pylonref09_seasons.heldTo_out (d:=d) (a:=a1) (b:=b1) (hs:=hs) hv)
               go_wp2
               go_roundg (367 - (d+1))
               case measure=>have:=HKd.o;omega
               case rel=>exact⟨d+1,(by first|rfl|go_num),by omega,by omega,⟨rfl⟩,⟨by rw[hst.o];exact BKD.o⟩,HBd⟩
           ·have bd:decide ((d:Int)≤366)=false:=decide_eq_false (by omega)
            have ed:d=367:=by omega
            subst ed
            have BK2:=ag.mk (pylonref09_seasons.heldTo_all a1 b1 hs HL.o ▸ BKD.o)
            go_wp2
            go_roundg (l0.length - (j+1))
            case measure=>have:=HK.o;omega
            case rel=>exact⟨j+1,_,(by first|rfl|go_num),hlt,⟨rfl⟩,⟨by unfold pylonref09_seasons.held;rw[List.length_mapIdx];exact HL.o⟩,⟨by rw[List.take_add_one,List.getElem?_eq_getElem hlt,EBN.o,List.map_append];exact HA5.o⟩,BK2,HBd⟩
       ·rw[if_pos hb] at HA2
        have hbb:(b2 != 0)=true:=bne_iff_ne.mpr hb
        cases HA2
        have hr:=Option.some.inj (show some false=some r from h'.o)
        subst hr
        clear hb
        go_wp2_with (first|(go_at_call 15;(with_reducible refine(pylonref09_Day.calls k bn.f1 _ _ _ A1.o).mono ?_);rintro e w8 ⟨rfl,hb⟩;have n0_:=ag.mk (aj (by repeat(first|(with_reducible first|exact HB.o|apply ae|apply aa|apply af)|exact HB.o)) hb);replace hx0:=(hb.cell (World.block_lt_of_cell? _ _ hx0)).trans hx0;replace hx1:=(hb.cell (World.block_lt_of_cell? _ _ hx1)).trans hx1;replace hx2:=(hb.cell (World.block_lt_of_cell? _ _ hx2)).trans hx2;clear HB;have HB:=n0_;clear n0_ hb)|(go_at_call 15;(with_reducible refine(pylonref09_Day.calls k bn.f2 _ _ _ A2.o).mono ?_);rintro e w9 ⟨rfl,hb⟩;have n0_:=ag.mk (aj (by repeat(first|(with_reducible first|exact HB.o|apply ae|apply aa|apply af)|exact HB.o)) hb);replace hx0:=(hb.cell (World.block_lt_of_cell? _ _ hx0)).trans hx0;replace hx1:=(hb.cell (World.block_lt_of_cell? _ _ hx1)).trans hx1;replace hx2:=(hb.cell (World.block_lt_of_cell? _ _ hx2)).trans hx2;clear HB;have HB:=n0_;clear n0_ hb)|(go_at_call 21;(with_reducible refine(pylonref06_Name.calls k bn.f0 _ _ A3.o).mono ?_);rintro e w10 ⟨rfl,⟨nd,rfl⟩⟩))
        go_ret
        exact⟨rfl,aj HB0.o (by repeat(first|(with_reducible first|exact HB.o|apply ae|apply aa|apply af)|exact HB.o))⟩
      ·rw[if_pos ha] at HA2
       have hab:(a2 != 0)=true:=bne_iff_ne.mpr ha
       cases HA2
       have hr:=Option.some.inj (show some false=some r from h'.o)
       subst hr
       clear ha
       go_wp2_with (first|(go_at_call 15;(with_reducible refine(pylonref09_Day.calls k bn.f1 _ _ _ A1.o).mono ?_);rintro e w8 ⟨rfl,hb⟩;have n0_:=ag.mk (aj (by repeat(first|(with_reducible first|exact HB.o|apply ae|apply aa|apply af)|exact HB.o)) hb);replace hx0:=(hb.cell (World.block_lt_of_cell? _ _ hx0)).trans hx0;replace hx1:=(hb.cell (World.block_lt_of_cell? _ _ hx1)).trans hx1;replace hx2:=(hb.cell (World.block_lt_of_cell? _ _ hx2)).trans hx2;clear HB;have HB:=n0_;clear n0_ hb)|(go_at_call 15;(with_reducible refine(pylonref09_Day.calls k bn.f2 _ _ _ A2.o).mono ?_);rintro e w9 ⟨rfl,hb⟩;have n0_:=ag.mk (aj (by repeat(first|(with_reducible first|exact HB.o|apply ae|apply aa|apply af)|exact HB.o)) hb);replace hx0:=(hb.cell (World.block_lt_of_cell? _ _ hx0)).trans hx0;replace hx1:=(hb.cell (World.block_lt_of_cell? _ _ hx1)).trans hx1;replace hx2:=(hb.cell (World.block_lt_of_cell? _ _ hx2)).trans hx2;clear HB;have HB:=n0_;clear n0_ hb)|(go_at_call 21;(with_reducible refine(pylonref06_Name.calls k bn.f0 _ _ A3.o).mono ?_);rintro e w10 ⟨rfl,⟨nd,rfl⟩⟩))
       go_ret
       exact⟨rfl,aj HB0.o (by repeat(first|(with_reducible first|exact HB.o|apply ae|apply aa|apply af)|exact HB.o))⟩
    ·have b0:decide ((i:Int) < (l0.length:Int))=false:=decide_eq_false (by omega)
     have HA2:=HA.o
     rw[List.drop_of_length_le (by omega)] at HA2
     have hg:some hs=g:=Option.some.inj HA2
     subst hg
     have h3:=ag.mk (Option.some.inj (show some ((hs.drop 1).all fun x=>decide (x=1))=some r from h'.o))
     have HB:=HB0
     go_wp2
     go_loopg [11] 366 (fun kq v11 wd=>∃ (d:Nat),v11 = .int .i64 (d:Int)∧1≤d∧d≤367∧ag (kq=367 - d)∧ag (((hs.drop d).all fun x=>decide (x=1))=r)∧wd=wr)
     case atStart=>exact⟨1,by first|rfl|simp,by omega,by omega,⟨rfl⟩,h3,rfl⟩
     case round=>
      obtain⟨d,rfl,hd1,hd2,HKd,HAd,rfl⟩:=hrel
      by_cases hdlt:d≤366
      ·have bd:decide ((d:Int)≤366)=true:=decide_eq_true (by omega)
       have pd:0≤(d:Int):=by omega
       have qd:(d:Int) < 367:=by omega
       replace pd:=eq_true pd
       replace qd:=eq_true qd
       have hdl:d < hs.length:=by have:=HL.o;omega
       have hcell:=pylonref09_seasons.cell BKH.o hdl
       have HA3:=HAd.o
       rw[List.drop_eq_getElem_cons hdl,List.all_cons] at HA3
       rw[List.getD_eq_getElem?_getD,List.getElem?_eq_getElem hdl,Option.getD_some] at hcell
       generalize hs[d]=xd at hcell HA3
       by_cases h1:xd=1
       ·have hxb:(xd != 1)=false:=by simp[h1]
        rw[decide_eq_true h1,Bool.true_and] at HA3
        have HA4:=ag.mk HA3
        clear HA3 h1
        go_wp2
        go_roundg (367 - (d+1))
        case measure=>have:=HKd.o;omega
        case rel=>exact⟨d+1,(by first|rfl|go_num),by omega,by omega,⟨rfl⟩,HA4,rfl⟩
       ·have hxb:(xd != 1)=true:=bne_iff_ne.mpr h1
        rw[decide_eq_false h1,Bool.false_and] at HA3
        subst HA3
        clear h1
        go_wp2
        go_ret
        exact⟨rfl,HB0.o⟩
      ·have bd:decide ((d:Int)≤366)=false:=decide_eq_false (by omega)
       have HA3:=HAd.o
       rw[List.drop_of_length_le (by have:=HL.o;omega)] at HA3
       subst HA3
       go_wp2
       go_ret
       exact⟨rfl,HB0.o⟩
def pylonref05_Check.f (k:Nat) (a0_0:Int) (a0_1:Int) (a0_2:Int) (a0_3:Int):Option (Int):=if a0_0=1 then ((pylonref03_Length.f k 2000 a0_1).bind fun bt174=>(if bt174.2=0 then (if a0_2≥1 then (if a0_2≤bt174.1 then (if a0_3=0 then (some 0) else (some 8)) else (some 8)) else (some 8)) else (some 8))) else (if a0_0=2 then (if a0_1≥1 then (if a0_1≤12 then (if a0_2≥1 then (if a0_2≤5 then (if a0_3≥0 then (if a0_3≤6 then (some 0) else (some 8)) else (some 8)) else (some 8)) else (some 8)) else (some 8)) else (some 8)) else (if a0_0=3 then (if a0_1≥(-100) then (if a0_1≤100 then (if a0_2=0 then (if a0_3=0 then (some 0) else (some 8)) else (some 8)) else (some 8)) else (some 8)) else (some 8)))
theorem pylonref05_Check.mono : ∀ a0 a1 a2 a3 k,LeO (pylonref05_Check.f k a0 a1 a2 a3) (pylonref05_Check.f (k+1) a0 a1 a2 a3):=by
 intro a0 a1 a2 a3 k
 unfold pylonref05_Check.f
 repeat' first
   |(with_reducible exact pylonref03_Length.mono _ _ _)
   |(with_reducible exact LeO.refl _)
   |(with_reducible exact LeO.none _)
   |(with_reducible refine LeO.ite ?_ ?_)
   |(with_reducible refine LeO.bind ?_ (fun _=>?_))
   |exact pylonref03_Length.mono _ _ _
   |exact LeO.none _
   |refine LeO.ite ?_ ?_
   |refine LeO.bind ?_ (fun _=>?_)
set_option maxHeartbeats 8000000 in
set_option maxRecDepth 100000 in
theorem pylonref05_Check.calls (k:Nat) (a0_0:Int) (a0_1:Int) (a0_2:Int) (a0_3:Int) (r:Int) (w:World) (h:pylonref05_Check.f k a0_0 a0_1 a0_2 a0_3=some r) :
  Calls Tryd.prog 40 #[.agg #[.int .i64 a0_0,.int .i64 a0_1,.int .i64 a0_2,.int .i64 a0_3]] w fun e w'=>e = .returned (.int .i64 r)∧Below w.heap.size w w':=by
 have hu43:=Tryd.underlying43
 have HB:=ag.mk (Below.refl w.heap.size w)
 have H:(if a0_0=1 then ((pylonref03_Length.f k 2000 a0_1).bind fun bt174=>(if bt174.2=0 then (if a0_2≥1 then (if a0_2≤bt174.1 then (if a0_3=0 then (some 0) else (some 8)) else (some 8)) else (some 8)) else (some 8))) else (if a0_0=2 then (if a0_1≥1 then (if a0_1≤12 then (if a0_2≥1 then (if a0_2≤5 then (if a0_3≥0 then (if a0_3≤6 then (some 0) else (some 8)) else (some 8)) else (some 8)) else (some 8)) else (some 8)) else (some 8)) else (if a0_0=3 then (if a0_1≥(-100) then (if a0_1≤100 then (if a0_2=0 then (if a0_3=0 then (some 0) else (some 8)) else (some 8)) else (some 8)) else (some 8)) else (some 8))))=some r:=h
 clear h
 by_cases c2:a0_0=1
 ·rw[if_pos c2] at H
  have c2b0:(a0_0 == 1)=true:=beq_iff_eq.mpr c2
  have c2b1:(a0_0 != 1)=false:=bne_eq_false_iff_eq.mpr c2
  clear c2
  replace H:=Option.bind_eq_some_iff.mp H
  obtain⟨⟨t174,t175⟩,A30,H⟩:=H
  replace H:(if t175=0 then (if a0_2≥1 then (if a0_2≤t174 then (if a0_3=0 then (some 0) else (some 8)) else (some 8)) else (some 8)) else (some 8))=some r:=H
  have A3:=ag.mk A30
  clear A30
  by_cases c4:t175=0
  ·rw[if_pos c4] at H
   have c4b0:(t175 == 0)=true:=beq_iff_eq.mpr c4
   have c4b1:(t175 != 0)=false:=bne_eq_false_iff_eq.mpr c4
   clear c4
   by_cases c5:a0_2≥1
   ·rw[if_pos c5] at H
    have c5b0:decide (1≤a0_2)=true:=decide_eq_true c5
    clear c5
    by_cases c6:a0_2≤t174
    ·rw[if_pos c6] at H
     have c6b0:decide (a0_2≤t174)=true:=decide_eq_true c6
     clear c6
     by_cases c7:a0_3=0
     ·rw[if_pos c7] at H
      have c7b0:(a0_3 == 0)=true:=beq_iff_eq.mpr c7
      have c7b1:(a0_3 != 0)=false:=bne_eq_false_iff_eq.mpr c7
      clear c7
      obtain rfl:=Option.some.inj H
      go_enter Tryd.func40,Tryd.ntmps40
      go_wp2_with (first|((with_reducible refine aI (N:=1) rfl ?_);refine aH ?hg (N:=1) ?hd (cs:=#[.int .i64 a0_0,.int .i64 a0_1,.int .i64 a0_2,.int .i64 a0_3]) (t:=43) ?hr ?_;(case hd=>rfl);(case hg=>rfl);(case hr=>first|(go_simp;done)|(go_simp;rfl));intro gb173 hg w8 hbox hb;have n0_:=ag.mk (aj (by repeat(first|(with_reducible first|exact HB.o|apply ae|apply aa|apply af)|exact HB.o)) hb);have n1_:=ag.mk (hbox);have n2_:=ag.mk ((by rw[hg];exact(ak (by repeat(first|(with_reducible first|exact HB.o|apply ae|apply aa|apply af)|exact HB.o))):w.heap.size≤gb173));have n3_:=ag.mk ((by rw[hg];exact(ak (by repeat(first|(with_reducible first|exact HB.o|apply ae|apply aa|apply af)|exact HB.o))):w.heap.size≤gb173));clear HB;have HB:=n0_;have BK173:=n1_;have GW173:=n2_;have GE173:=n3_;clear n0_ n1_ n2_ n3_;clear hb hbox hg;have hcz9_0:w8.cell? ⟨gb173,0,none⟩=some (.int .i64 a0_0):=(ah BK173.o 0).trans rfl;have hcz9_1:w8.cell? ⟨gb173,1,none⟩=some (.int .i64 a0_1):=(ah BK173.o 1).trans rfl;have hcz9_2:w8.cell? ⟨gb173,2,none⟩=some (.int .i64 a0_2):=(ah BK173.o 2).trans rfl;have hcz9_3:w8.cell? ⟨gb173,3,none⟩=some (.int .i64 a0_3):=(ah BK173.o 3).trans rfl;have hfz9_0:=ai BK173.o 0;have hfz9_1:=ai BK173.o 1;have hfz9_2:=ai BK173.o 2;have hfz9_3:=ai BK173.o 3)|((with_reducible refine aR (f:=48) rfl ?_);refine aZ (some 13) rfl rfl Tryd.func48 (by kernel_rfl) rfl #[.int .i64 2000,.int .i64 a0_1] rfl (by (try simp only[List.map_toArray,List.map_cons,List.map_nil]);first|done|rfl|(simp only[List.length_drop,List.length_take];rfl)) ?_;(with_reducible refine(pylonref03_Length.calls k 2000 a0_1 t174 t175 _ A3.o).mono ?_);rintro e w' ⟨rfl,⟨nd,rfl⟩⟩;refine⟨_,rfl,?_⟩))
      go_ret
      exact⟨by first|rfl|(simp[ay,az] <;> rfl)|(simp[*,ay,az] <;> rfl),by repeat(first|(with_reducible first|exact HB.o|apply ae|apply aa|apply af|refine ax ?_ GE173.o)|exact HB.o)⟩
     ·rw[if_neg c7] at H
      have c7b0:(a0_3 == 0)=false:=beq_eq_false_iff_ne.mpr c7
      have c7b1:(a0_3 != 0)=true:=bne_iff_ne.mpr c7
      obtain rfl:=Option.some.inj H
      go_enter Tryd.func40,Tryd.ntmps40
      go_wp2_with (first|((with_reducible refine aI (N:=1) rfl ?_);refine aH ?hg (N:=1) ?hd (cs:=#[.int .i64 a0_0,.int .i64 a0_1,.int .i64 a0_2,.int .i64 a0_3]) (t:=43) ?hr ?_;(case hd=>rfl);(case hg=>rfl);(case hr=>first|(go_simp;done)|(go_simp;rfl));intro gb173 hg w10 hbox hb;have n0_:=ag.mk (aj (by repeat(first|(with_reducible first|exact HB.o|apply ae|apply aa|apply af)|exact HB.o)) hb);have n1_:=ag.mk (hbox);have n2_:=ag.mk ((by rw[hg];exact(ak (by repeat(first|(with_reducible first|exact HB.o|apply ae|apply aa|apply af)|exact HB.o))):w.heap.size≤gb173));have n3_:=ag.mk ((by rw[hg];exact(ak (by repeat(first|(with_reducible first|exact HB.o|apply ae|apply aa|apply af)|exact HB.o))):w.heap.size≤gb173));clear HB;have HB:=n0_;have BK173:=n1_;have GW173:=n2_;have GE173:=n3_;clear n0_ n1_ n2_ n3_;clear hb hbox hg;have hcz11_0:w10.cell? ⟨gb173,0,none⟩=some (.int .i64 a0_0):=(ah BK173.o 0).trans rfl;have hcz11_1:w10.cell? ⟨gb173,1,none⟩=some (.int .i64 a0_1):=(ah BK173.o 1).trans rfl;have hcz11_2:w10.cell? ⟨gb173,2,none⟩=some (.int .i64 a0_2):=(ah BK173.o 2).trans rfl;have hcz11_3:w10.cell? ⟨gb173,3,none⟩=some (.int .i64 a0_3):=(ah BK173.o 3).trans rfl;have hfz11_0:=ai BK173.o 0;have hfz11_1:=ai BK173.o 1;have hfz11_2:=ai BK173.o 2;have hfz11_3:=ai BK173.o 3)|((with_reducible refine aR (f:=48) rfl ?_);refine aZ (some 13) rfl rfl Tryd.func48 (by kernel_rfl) rfl #[.int .i64 2000,.int .i64 a0_1] rfl (by (try simp only[List.map_toArray,List.map_cons,List.map_nil]);first|done|rfl|(simp only[List.length_drop,List.length_take];rfl)) ?_;(with_reducible refine(pylonref03_Length.calls k 2000 a0_1 t174 t175 _ A3.o).mono ?_);rintro e w' ⟨rfl,⟨nd,rfl⟩⟩;refine⟨_,rfl,?_⟩))
      go_ret
      exact⟨by first|rfl|(simp[ay,az] <;> rfl)|(simp[*,ay,az] <;> rfl),by repeat(first|(with_reducible first|exact HB.o|apply ae|apply aa|apply af|refine ax ?_ GE173.o)|exact HB.o)⟩
    ·rw[if_neg c6] at H
     have c6b0:decide (a0_2≤t174)=false:=decide_eq_false c6
     clear c6
     obtain rfl:=Option.some.inj H
     go_enter Tryd.func40,Tryd.ntmps40
     go_wp2_with (first|((with_reducible refine aI (N:=1) rfl ?_);refine aH ?hg (N:=1) ?hd (cs:=#[.int .i64 a0_0,.int .i64 a0_1,.int .i64 a0_2,.int .i64 a0_3]) (t:=43) ?hr ?_;(case hd=>rfl);(case hg=>rfl);(case hr=>first|(go_simp;done)|(go_simp;rfl));intro gb173 hg w12 hbox hb;have n0_:=ag.mk (aj (by repeat(first|(with_reducible first|exact HB.o|apply ae|apply aa|apply af)|exact HB.o)) hb);have n1_:=ag.mk (hbox);have n2_:=ag.mk ((by rw[hg];exact(ak (by repeat(first|(with_reducible first|exact HB.o|apply ae|apply aa|apply af)|exact HB.o))):w.heap.size≤gb173));have n3_:=ag.mk ((by rw[hg];exact(ak (by repeat(first|(with_reducible first|exact HB.o|apply ae|apply aa|apply af)|exact HB.o))):w.heap.size≤gb173));clear HB;have HB:=n0_;have BK173:=n1_;have GW173:=n2_;have GE173:=n3_;clear n0_ n1_ n2_ n3_;clear hb hbox hg;have hcz13_0:w12.cell? ⟨gb173,0,none⟩=some (.int .i64 a0_0):=(ah BK173.o 0).trans rfl;have hcz13_1:w12.cell? ⟨gb173,1,none⟩=some (.int .i64 a0_1):=(ah BK173.o 1).trans rfl;have hcz13_2:w12.cell? ⟨gb173,2,none⟩=some (.int .i64 a0_2):=(ah BK173.o 2).trans rfl;have hcz13_3:w12.cell? ⟨gb173,3,none⟩=some (.int .i64 a0_3):=(ah BK173.o 3).trans rfl;have hfz13_0:=ai BK173.o 0;have hfz13_1:=ai BK173.o 1;have hfz13_2:=ai BK173.o 2;have hfz13_3:=ai BK173.o 3)|((with_reducible refine aR (f:=48) rfl ?_);refine aZ (some 13) rfl rfl Tryd.func48 (by kernel_rfl) rfl #[.int .i64 2000,.int .i64 a0_1] rfl (by (try simp only[List.map_toArray,List.map_cons,List.map_nil]);first|done|rfl|(simp only[List.length_drop,List.length_take];rfl)) ?_;(with_reducible refine(pylonref03_Length.calls k 2000 a0_1 t174 t175 _ A3.o).mono ?_);rintro e w' ⟨rfl,⟨nd,rfl⟩⟩;refine⟨_,rfl,?_⟩))
     go_ret
     exact⟨by first|rfl|(simp[ay,az] <;> rfl)|(simp[*,ay,az] <;> rfl),by repeat(first|(with_reducible first|exact HB.o|apply ae|apply aa|apply af|refine ax ?_ GE173.o)|exact HB.o)⟩
   ·rw[if_neg c5] at H
    have c5b0:decide (1≤a0_2)=false:=decide_eq_false c5
    clear c5
    obtain rfl:=Option.some.inj H
    go_enter Tryd.func40,Tryd.ntmps40
    go_wp2_with (first|((with_reducible refine aI (N:=1) rfl ?_);refine aH ?hg (N:=1) ?hd (cs:=#[.int .i64 a0_0,.int .i64 a0_1,.int .i64 a0_2,.int .i64 a0_3]) (t:=43) ?hr ?_;(case hd=>rfl);(case hg=>rfl);(case hr=>first|(go_simp;done)|(go_simp;rfl));intro gb173 hg w14 hbox hb;have n0_:=ag.mk (aj (by repeat(first|(with_reducible first|exact HB.o|apply ae|apply aa|apply af)|exact HB.o)) hb);have n1_:=ag.mk (hbox);have n2_:=ag.mk ((by rw[hg];exact(ak (by repeat(first|(with_reducible first|exact HB.o|apply ae|apply aa|apply af)|exact HB.o))):w.heap.size≤gb173));have n3_:=ag.mk ((by rw[hg];exact(ak (by repeat(first|(with_reducible first|exact HB.o|apply ae|apply aa|apply af)|exact HB.o))):w.heap.size≤gb173));clear HB;have HB:=n0_;have BK173:=n1_;have GW173:=n2_;have GE173:=n3_;clear n0_ n1_ n2_ n3_;clear hb hbox hg;have hcz15_0:w14.cell? ⟨gb173,0,none⟩=some (.int .i64 a0_0):=(ah BK173.o 0).trans rfl;have hcz15_1:w14.cell? ⟨gb173,1,none⟩=some (.int .i64 a0_1):=(ah BK173.o 1).trans rfl;have hcz15_2:w14.cell? ⟨gb173,2,none⟩=some (.int .i64 a0_2):=(ah BK173.o 2).trans rfl;have hcz15_3:w14.cell? ⟨gb173,3,none⟩=some (.int .i64 a0_3):=(ah BK173.o 3).trans rfl;have hfz15_0:=ai BK173.o 0;have hfz15_1:=ai BK173.o 1;have hfz15_2:=ai BK173.o 2;have hfz15_3:=ai BK173.o 3)|((with_reducible refine aR (f:=48) rfl ?_);refine aZ (some 13) rfl rfl Tryd.func48 (by kernel_rfl) rfl #[.int .i64 2000,.int .i64 a0_1] rfl (by (try simp only[List.map_toArray,List.map_cons,List.map_nil]);first|done|rfl|(simp only[List.length_drop,List.length_take];rfl)) ?_;(with_reducible refine(pylonref03_Length.calls k 2000 a0_1 t174 t175 _ A3.o).mono ?_);rintro e w' ⟨rfl,⟨nd,rfl⟩⟩;refine⟨_,rfl,?_⟩))
    go_ret
    exact⟨by first|rfl|(simp[ay,az] <;> rfl)|(simp[*,ay,az] <;> rfl),by repeat(first|(with_reducible first|exact HB.o|apply ae|apply aa|apply af|refine ax ?_ GE173.o)|exact HB.o)⟩
  ·rw[if_neg c4] at H
   have c4b0:(t175 == 0)=false:=beq_eq_false_iff_ne.mpr c4
   have c4b1:(t175 != 0)=true:=bne_iff_ne.mpr c4
   obtain rfl:=Option.some.inj H
   go_enter Tryd.func40,Tryd.ntmps40
   go_wp2_with (first|((with_reducible refine aI (N:=1) rfl ?_);refine aH ?hg (N:=1) ?hd (cs:=#[.int .i64 a0_0,.int .i64 a0_1,.int .i64 a0_2,.int .i64 a0_3]) (t:=43) ?hr ?_;(case hd=>rfl);(case hg=>rfl);(case hr=>first|(go_simp;done)|(go_simp;rfl));intro gb173 hg w16 hbox hb;have n0_:=ag.mk (aj (by repeat(first|(with_reducible first|exact HB.o|apply ae|apply aa|apply af)|exact HB.o)) hb);have n1_:=ag.mk (hbox);have n2_:=ag.mk ((by rw[hg];exact(ak (by repeat(first|(with_reducible first|exact HB.o|apply ae|apply aa|apply af)|exact HB.o))):w.heap.size≤gb173));have n3_:=ag.mk ((by rw[hg];exact(ak (by repeat(first|(with_reducible first|exact HB.o|apply ae|apply aa|apply af)|exact HB.o))):w.heap.size≤gb173));clear HB;have HB:=n0_;have BK173:=n1_;have GW173:=n2_;have GE173:=n3_;clear n0_ n1_ n2_ n3_;clear hb hbox hg;have hcz17_0:w16.cell? ⟨gb173,0,none⟩=some (.int .i64 a0_0):=(ah BK173.o 0).trans rfl;have hcz17_1:w16.cell? ⟨gb173,1,none⟩=some (.int .i64 a0_1):=(ah BK173.o 1).trans rfl;have hcz17_2:w16.cell? ⟨gb173,2,none⟩=some (.int .i64 a0_2):=(ah BK173.o 2).trans rfl;have hcz17_3:w16.cell? ⟨gb173,3,none⟩=some (.int .i64 a0_3):=(ah BK173.o 3).trans rfl;have hfz17_0:=ai BK173.o 0;have hfz17_1:=ai BK173.o 1;have hfz17_2:=ai BK173.o 2;have hfz17_3:=ai BK173.o 3)|((with_reducible refine aR (f:=48) rfl ?_);refine aZ (some 13) rfl rfl Tryd.func48 (by kernel_rfl) rfl #[.int .i64 2000,.int .i64 a0_1] rfl (by (try simp only[List.map_toArray,List.map_cons,List.map_nil]);first|done|rfl|(simp only[List.length_drop,List.length_take];rfl)) ?_;(with_reducible refine(pylonref03_Length.calls k 2000 a0_1 t174 t175 _ A3.o).mono ?_);rintro e w' ⟨rfl,⟨nd,rfl⟩⟩;refine⟨_,rfl,?_⟩))
   go_ret
   exact⟨by first|rfl|(simp[ay,az] <;> rfl)|(simp[*,ay,az] <;> rfl),by repeat(first|(with_reducible first|exact HB.o|apply ae|apply aa|apply af|refine ax ?_ GE173.o)|exact HB.o)⟩
 ·rw[if_neg c2] at H
  have c2b0:(a0_0 == 1)=false:=beq_eq_false_iff_ne.mpr c2
  have c2b1:(a0_0 != 1)=true:=bne_iff_ne.mpr c2
  by_cases c18:a0_0=2
  ·rw[if_pos c18] at H
   have c18b0:(a0_0 == 2)=true:=beq_iff_eq.mpr c18
   have c18b1:(a0_0 != 2)=false:=bne_eq_false_iff_eq.mpr c18
   clear c18
   by_cases c19:a0_1≥1
   ·rw[if_pos c19] at H
    have c19b0:decide (1≤a0_1)=true:=decide_eq_true c19
    clear c19
    by_cases c20:a0_1≤12
    ·rw[if_pos c20] at H
     have c20b0:decide (a0_1≤12)=true:=decide_eq_true c20
     clear c20
     by_cases c21:a0_2≥1
     ·rw[if_pos c21] at H
      have c21b0:decide (1≤a0_2)=true:=decide_eq_true c21
      clear c21
      by_cases c22:a0_2≤5
      ·rw[if_pos c22] at H
       have c22b0:decide (a0_2≤5)=true:=decide_eq_true c22
       clear c22
       by_cases c23:a0_3≥0
       ·rw[if_pos c23] at H
        have c23b0:decide (0≤a0_3)=true:=decide_eq_true c23
        clear c23
        by_cases c24:a0_3≤6
        ·rw[if_pos c24] at H
         have c24b0:decide (a0_3≤6)=true:=decide_eq_true c24
         clear c24
         obtain rfl:=Option.some.inj H
         go_enter Tryd.func40,Tryd.ntmps40
         go_wp2_with (first|((with_reducible refine aI (N:=1) rfl ?_);refine aH ?hg (N:=1) ?hd (cs:=#[.int .i64 a0_0,.int .i64 a0_1,.int .i64 a0_2,.int .i64 a0_3]) (t:=43) ?hr ?_;(case hd=>rfl);(case hg=>rfl);(case hr=>first|(go_simp;done)|(go_simp;rfl));intro gb173 hg w25 hbox hb;have n0_:=ag.mk (aj (by repeat(first|(with_reducible first|exact HB.o|apply ae|apply aa|apply af)|exact HB.o)) hb);have n1_:=ag.mk (hbox);have n2_:=ag.mk ((by rw[hg];exact(ak (by repeat(first|(with_reducible first|exact HB.o|apply ae|apply aa|apply af)|exact HB.o))):w.heap.size≤gb173));have n3_:=ag.mk ((by rw[hg];exact(ak (by repeat(first|(with_reducible first|exact HB.o|apply ae|apply aa|apply af)|exact HB.o))):w.heap.size≤gb173));clear HB;have HB:=n0_;have BK173:=n1_;have GW173:=n2_;have GE173:=n3_;clear n0_ n1_ n2_ n3_;clear hb hbox hg;have hcz26_0:w25.cell? ⟨gb173,0,none⟩=some (.int .i64 a0_0):=(ah BK173.o 0).trans rfl;have hcz26_1:w25.cell? ⟨gb173,1,none⟩=some (.int .i64 a0_1):=(ah BK173.o 1).trans rfl;have hcz26_2:w25.cell? ⟨gb173,2,none⟩=some (.int .i64 a0_2):=(ah BK173.o 2).trans rfl;have hcz26_3:w25.cell? ⟨gb173,3,none⟩=some (.int .i64 a0_3):=(ah BK173.o 3).trans rfl;have hfz26_0:=ai BK173.o 0;have hfz26_1:=ai BK173.o 1;have hfz26_2:=ai BK173.o 2;have hfz26_3:=ai BK173.o 3))
         go_ret
         exact⟨by first|rfl|(simp[ay,az] <;> rfl)|(simp[*,ay,az] <;> rfl),by repeat(first|(with_reducible first|exact HB.o|apply ae|apply aa|apply af|refine ax ?_ GE173.o)|exact HB.o)⟩
        ·rw[if_neg c24] at H
         have c24b0:decide (a0_3≤6)=false:=decide_eq_false c24
         clear c24
         obtain rfl:=Option.some.inj H
         go_enter Tryd.func40,Tryd.ntmps40
         go_wp2_with (first|((with_reducible refine aI (N:=1) rfl ?_);refine aH ?hg (N:=1) ?hd (cs:=#[.int .i64 a0_0,.int .i64 a0_1,.int .i64 a0_2,.int .i64 a0_3]) (t:=43) ?hr ?_;(case hd=>rfl);(case hg=>rfl);(case hr=>first|(go_simp;done)|(go_simp;rfl));intro gb173 hg w27 hbox hb;have n0_:=ag.mk (aj (by repeat(first|(with_reducible first|exact HB.o|apply ae|apply aa|apply af)|exact HB.o)) hb);have n1_:=ag.mk (hbox);have n2_:=ag.mk ((by rw[hg];exact(ak (by repeat(first|(with_reducible first|exact HB.o|apply ae|apply aa|apply af)|exact HB.o))):w.heap.size≤gb173));have n3_:=ag.mk ((by rw[hg];exact(ak (by repeat(first|(with_reducible first|exact HB.o|apply ae|apply aa|apply af)|exact HB.o))):w.heap.size≤gb173));clear HB;have HB:=n0_;have BK173:=n1_;have GW173:=n2_;have GE173:=n3_;clear n0_ n1_ n2_ n3_;clear hb hbox hg;have hcz28_0:w27.cell? ⟨gb173,0,none⟩=some (.int .i64 a0_0):=(ah BK173.o 0).trans rfl;have hcz28_1:w27.cell? ⟨gb173,1,none⟩=some (.int .i64 a0_1):=(ah BK173.o 1).trans rfl;have hcz28_2:w27.cell? ⟨gb173,2,none⟩=some (.int .i64 a0_2):=(ah BK173.o 2).trans rfl;have hcz28_3:w27.cell? ⟨gb173,3,none⟩=some (.int .i64 a0_3):=(ah BK173.o 3).trans rfl;have hfz28_0:=ai BK173.o 0;have hfz28_1:=ai BK173.o 1;have hfz28_2:=ai BK173.o 2;have hfz28_3:=ai BK173.o 3))
         go_ret
         exact⟨by first|rfl|(simp[ay,az] <;> rfl)|(simp[*,ay,az] <;> rfl),by repeat(first|(with_reducible first|exact HB.o|apply ae|apply aa|apply af|refine ax ?_ GE173.o)|exact HB.o)⟩
       ·rw[if_neg c23] at H
        have c23b0:decide (0≤a0_3)=false:=decide_eq_false c23
        clear c23
        obtain rfl:=Option.some.inj H
        go_enter Tryd.func40,Tryd.ntmps40
        go_wp2_with (first|((with_reducible refine aI (N:=1) rfl ?_);refine aH ?hg (N:=1) ?hd (cs:=#[.int .i64 a0_0,.int .i64 a0_1,.int .i64 a0_2,.int .i64 a0_3]) (t:=43) ?hr ?_;(case hd=>rfl);(case hg=>rfl);(case hr=>first|(go_simp;done)|(go_simp;rfl));intro gb173 hg w29 hbox hb;have n0_:=ag.mk (aj (by repeat(first|(with_reducible first|exact HB.o|apply ae|apply aa|apply af)|exact HB.o)) hb);have n1_:=ag.mk (hbox);have n2_:=ag.mk ((by rw[hg];exact(ak (by repeat(first|(with_reducible first|exact HB.o|apply ae|apply aa|apply af)|exact HB.o))):w.heap.size≤gb173));have n3_:=ag.mk ((by rw[hg];exact(ak (by repeat(first|(with_reducible first|exact HB.o|apply ae|apply aa|apply af)|exact HB.o))):w.heap.size≤gb173));clear HB;have HB:=n0_;have BK173:=n1_;have GW173:=n2_;have GE173:=n3_;clear n0_ n1_ n2_ n3_;clear hb hbox hg;have hcz30_0:w29.cell? ⟨gb173,0,none⟩=some (.int .i64 a0_0):=(ah BK173.o 0).trans rfl;have hcz30_1:w29.cell? ⟨gb173,1,none⟩=some (.int .i64 a0_1):=(ah BK173.o 1).trans rfl;have hcz30_2:w29.cell? ⟨gb173,2,none⟩=some (.int .i64 a0_2):=(ah BK173.o 2).trans rfl;have hcz30_3:w29.cell? ⟨gb173,3,none⟩=some (.int .i64 a0_3):=(ah BK173.o 3).trans rfl;have hfz30_0:=ai BK173.o 0;have hfz30_1:=ai BK173.o 1;have hfz30_2:=ai BK173.o 2;have hfz30_3:=ai BK173.o 3))
        go_ret
        exact⟨by first|rfl|(simp[ay,az] <;> rfl)|(simp[*,ay,az] <;> rfl),by repeat(first|(with_reducible first|exact HB.o|apply ae|apply aa|apply af|refine ax ?_ GE173.o)|exact HB.o)⟩
      ·rw[if_neg c22] at H
       have c22b0:decide (a0_2≤5)=false:=decide_eq_false c22
       clear c22
       obtain rfl:=Option.some.inj H
       go_enter Tryd.func40,Tryd.ntmps40
       go_wp2_with (first|((with_reducible refine aI (N:=1) rfl ?_);refine aH ?hg (N:=1) ?hd (cs:=#[.int .i64 a0_0,.int .i64 a0_1,.int .i64 a0_2,.int .i64 a0_3]) (t:=43) ?hr ?_;(case hd=>rfl);(case hg=>rfl);(case hr=>first|(go_simp;done)|(go_simp;rfl));intro gb173 hg w31 hbox hb;have n0_:=ag.mk (aj (by repeat(first|(with_reducible first|exact HB.o|apply ae|apply aa|apply af)|exact HB.o)) hb);have n1_:=ag.mk (hbox);have n2_:=ag.mk ((by rw[hg];exact(ak (by repeat(first|(with_reducible first|exact HB.o|apply ae|apply aa|apply af)|exact HB.o))):w.heap.size≤gb173));have n3_:=ag.mk ((by rw[hg];exact(ak (by repeat(first|(with_reducible first|exact HB.o|apply ae|apply aa|apply af)|exact HB.o))):w.heap.size≤gb173));clear HB;have HB:=n0_;have BK173:=n1_;have GW173:=n2_;have GE173:=n3_;clear n0_ n1_ n2_ n3_;clear hb hbox hg;have hcz32_0:w31.cell? ⟨gb173,0,none⟩=some (.int .i64 a0_0):=(ah BK173.o 0).trans rfl;have hcz32_1:w31.cell? ⟨gb173,1,none⟩=some (.int .i64 a0_1):=(ah BK173.o 1).trans rfl;have hcz32_2:w31.cell? ⟨gb173,2,none⟩=some (.int .i64 a0_2):=(ah BK173.o 2).trans rfl;have hcz32_3:w31.cell? ⟨gb173,3,none⟩=some (.int .i64 a0_3):=(ah BK173.o 3).trans rfl;have hfz32_0:=ai BK173.o 0;have hfz32_1:=ai BK173.o 1;have hfz32_2:=ai BK173.o 2;have hfz32_3:=ai BK173.o 3))
       go_ret
       exact⟨by first|rfl|(simp[ay,az] <;> rfl)|(simp[*,ay,az] <;> rfl),by repeat(first|(with_reducible first|exact HB.o|apply ae|apply aa|apply af|refine ax ?_ GE173.o)|exact HB.o)⟩
     ·rw[if_neg c21] at H
      have c21b0:decide (1≤a0_2)=false:=decide_eq_false c21
      clear c21
      obtain rfl:=Option.some.inj H
      go_enter Tryd.func40,Tryd.ntmps40
      go_wp2_with (first|((with_reducible refine aI (N:=1) rfl ?_);refine aH ?hg (N:=1) ?hd (cs:=#[.int .i64 a0_0,.int .i64 a0_1,.int .i64 a0_2,.int .i64 a0_3]) (t:=43) ?hr ?_;(case hd=>rfl);(case hg=>rfl);(case hr=>first|(go_simp;done)|(go_simp;rfl));intro gb173 hg w33 hbox hb;have n0_:=ag.mk (aj (by repeat(first|(with_reducible first|exact HB.o|apply ae|apply aa|apply af)|exact HB.o)) hb);have n1_:=ag.mk (hbox);have n2_:=ag.mk ((by rw[hg];exact(ak (by repeat(first|(with_reducible first|exact HB.o|apply ae|apply aa|apply af)|exact HB.o))):w.heap.size≤gb173));have n3_:=ag.mk ((by rw[hg];exact(ak (by repeat(first|(with_reducible first|exact HB.o|apply ae|apply aa|apply af)|exact HB.o))):w.heap.size≤gb173));clear HB;have HB:=n0_;have BK173:=n1_;have GW173:=n2_;have GE173:=n3_;clear n0_ n1_ n2_ n3_;clear hb hbox hg;have hcz34_0:w33.cell? ⟨gb173,0,none⟩=some (.int .i64 a0_0):=(ah BK173.o 0).trans rfl;have hcz34_1:w33.cell? ⟨gb173,1,none⟩=some (.int .i64 a0_1):=(ah BK173.o 1).trans rfl;have hcz34_2:w33.cell? ⟨gb173,2,none⟩=some (.int .i64 a0_2):=(ah BK173.o 2).trans rfl;have hcz34_3:w33.cell? ⟨gb173,3,none⟩=some (.int .i64 a0_3):=(ah BK173.o 3).trans rfl;have hfz34_0:=ai BK173.o 0;have hfz34_1:=ai BK173.o 1;have hfz34_2:=ai BK173.o 2;have hfz34_3:=ai BK173.o 3))
      go_ret
      exact⟨by first|rfl|(simp[ay,az] <;> rfl)|(simp[*,ay,az] <;> rfl),by repeat(first|(with_reducible first|exact HB.o|apply ae|apply aa|apply af|refine ax ?_ GE173.o)|exact HB.o)⟩
    ·rw[if_neg c20] at H
     have c20b0:decide (a0_1≤12)=false:=decide_eq_false c20
     clear c20
     obtain rfl:=Option.some.inj H
     go_enter Tryd.func40,Tryd.ntmps40
     go_wp2_with (first|((with_reducible refine aI (N:=1) rfl ?_);refine aH ?hg (N:=1) ?hd (cs:=#[.int .i64 a0_0,.int .i64 a0_1,.int .i64 a0_2,.int .i64 a0_3]) (t:=43) ?hr ?_;(case hd=>rfl);(case hg=>rfl);(case hr=>first|(go_simp;done)|(go_simp;rfl));intro gb173 hg w35 hbox hb;have n0_:=ag.mk (aj (by repeat(first|(with_reducible first|exact HB.o|apply ae|apply aa|apply af)|exact HB.o)) hb);have n1_:=ag.mk (hbox);have n2_:=ag.mk ((by rw[hg];exact(ak (by repeat(first|(with_reducible first|exact HB.o|apply ae|apply aa|apply af)|exact HB.o))):w.heap.size≤gb173));have n3_:=ag.mk ((by rw[hg];exact(ak (by repeat(first|(with_reducible first|exact HB.o|apply ae|apply aa|apply af)|exact HB.o))):w.heap.size≤gb173));clear HB;have HB:=n0_;have BK173:=n1_;have GW173:=n2_;have GE173:=n3_;clear n0_ n1_ n2_ n3_;clear hb hbox hg;have hcz36_0:w35.cell? ⟨gb173,0,none⟩=some (.int .i64 a0_0):=(ah BK173.o 0).trans rfl;have hcz36_1:w35.cell? ⟨gb173,1,none⟩=some (.int .i64 a0_1):=(ah BK173.o 1).trans rfl;have hcz36_2:w35.cell? ⟨gb173,2,none⟩=some (.int .i64 a0_2):=(ah BK173.o 2).trans rfl;have hcz36_3:w35.cell? ⟨gb173,3,none⟩=some (.int .i64 a0_3):=(ah BK173.o 3).trans rfl;have hfz36_0:=ai BK173.o 0;have hfz36_1:=ai BK173.o 1;have hfz36_2:=ai BK173.o 2;have hfz36_3:=ai BK173.o 3))
     go_ret
     exact⟨by first|rfl|(simp[ay,az] <;> rfl)|(simp[*,ay,az] <;> rfl),by repeat(first|(with_reducible first|exact HB.o|apply ae|apply aa|apply af|refine ax ?_ GE173.o)|exact HB.o)⟩
   ·rw[if_neg c19] at H
    have c19b0:decide (1≤a0_1)=false:=decide_eq_false c19
    clear c19
    obtain rfl:=Option.some.inj H
    go_enter Tryd.func40,Tryd.ntmps40
    go_wp2_with (first|((with_reducible refine aI (N:=1) rfl ?_);refine aH ?hg (N:=1) ?hd (cs:=#[.int .i64 a0_0,.int .i64 a0_1,.int .i64 a0_2,.int .i64 a0_3]) (t:=43) ?hr ?_;(case hd=>rfl);(case hg=>rfl);(case hr=>first|(go_simp;done)|(go_simp;rfl));intro gb173 hg w37 hbox hb;have n0_:=ag.mk (aj (by repeat(first|(with_reducible first|exact HB.o|apply ae|apply aa|apply af)|exact HB.o)) hb);have n1_:=ag.mk (hbox);have n2_:=ag.mk ((by rw[hg];exact(ak (by repeat(first|(with_reducible first|exact HB.o|apply ae|apply aa|apply af)|exact HB.o))):w.heap.size≤gb173));have n3_:=ag.mk ((by rw[hg];exact(ak (by repeat(first|(with_reducible first|exact HB.o|apply ae|apply aa|apply af)|exact HB.o))):w.heap.size≤gb173));clear HB;have HB:=n0_;have BK173:=n1_;have GW173:=n2_;have GE173:=n3_;clear n0_ n1_ n2_ n3_;clear hb hbox hg;have hcz38_0:w37.cell? ⟨gb173,0,none⟩=some (.int .i64 a0_0):=(ah BK173.o 0).trans rfl;have hcz38_1:w37.cell? ⟨gb173,1,none⟩=some (.int .i64 a0_1):=(ah BK173.o 1).trans rfl;have hcz38_2:w37.cell? ⟨gb173,2,none⟩=some (.int .i64 a0_2):=(ah BK173.o 2).trans rfl;have hcz38_3:w37.cell? ⟨gb173,3,none⟩=some (.int .i64 a0_3):=(ah BK173.o 3).trans rfl;have hfz38_0:=ai BK173.o 0;have hfz38_1:=ai BK173.o 1;have hfz38_2:=ai BK173.o 2;have hfz38_3:=ai BK173.o 3))
    go_ret
    exact⟨by first|rfl|(simp[ay,az] <;> rfl)|(simp[*,ay,az] <;> rfl),by repeat(first|(with_reducible first|exact HB.o|apply ae|apply aa|apply af|refine ax ?_ GE173.o)|exact HB.o)⟩
  ·rw[if_neg c18] at H
   have c18b0:(a0_0 == 2)=false:=beq_eq_false_iff_ne.mpr c18
   have c18b1:(a0_0 != 2)=true:=bne_iff_ne.mpr c18
   by_cases c39:a0_0=3
   ·rw[if_pos c39] at H
    have c39b0:(a0_0 == 3)=true:=beq_iff_eq.mpr c39
    have c39b1:(a0_0 != 3)=false:=bne_eq_false_iff_eq.mpr c39
    clear c39
    by_cases c40:a0_1≥(-100)
    ·rw[if_pos c40] at H
     have c40b0:decide ((-100)≤a0_1)=true:=decide_eq_true c40
     clear c40
     by_cases c41:a0_1≤100
     ·rw[if_pos c41] at H
      have c41b0:decide (a0_1≤100)=true:=decide_eq_true c41
      clear c41
      by_cases c42:a0_2=0
      ·rw[if_pos c42] at H
       have c42b0:(a0_2 == 0)=true:=beq_iff_eq.mpr c42
       have c42b1:(a0_2 != 0)=false:=bne_eq_false_iff_eq.mpr c42
       clear c42
       by_cases c43:a0_3=0
       ·rw[if_pos c43] at H
        have c43b0:(a0_3 == 0)=true:=beq_iff_eq.mpr c43
        have c43b1:(a0_3 != 0)=false:=bne_eq_false_iff_eq.mpr c43
        clear c43
        obtain rfl:=Option.some.inj H
        go_enter Tryd.func40,Tryd.ntmps40
        go_wp2_with (first|((with_reducible refine aI (N:=1) rfl ?_);refine aH ?hg (N:=1) ?hd (cs:=#[.int .i64 a0_0,.int .i64 a0_1,.int .i64 a0_2,.int .i64 a0_3]) (t:=43) ?hr ?_;(case hd=>rfl);(case hg=>rfl);(case hr=>first|(go_simp;done)|(go_simp;rfl));intro gb173 hg w44 hbox hb;have n0_:=ag.mk (aj (by repeat(first|(with_reducible first|exact HB.o|apply ae|apply aa|apply af)|exact HB.o)) hb);have n1_:=ag.mk (hbox);have n2_:=ag.mk ((by rw[hg];exact(ak (by repeat(first|(with_reducible first|exact HB.o|apply ae|apply aa|apply af)|exact HB.o))):w.heap.size≤gb173));have n3_:=ag.mk ((by rw[hg];exact(ak (by repeat(first|(with_reducible first|exact HB.o|apply ae|apply aa|apply af)|exact HB.o))):w.heap.size≤gb173));clear HB;have HB:=n0_;have BK173:=n1_;have GW173:=n2_;have GE173:=n3_;clear n0_ n1_ n2_ n3_;clear hb hbox hg;have hcz45_0:w44.cell? ⟨gb173,0,none⟩=some (.int .i64 a0_0):=(ah BK173.o 0).trans rfl;have hcz45_1:w44.cell? ⟨gb173,1,none⟩=some (.int .i64 a0_1):=(ah BK173.o 1).trans rfl;have hcz45_2:w44.cell? ⟨gb173,2,none⟩=some (.int .i64 a0_2):=(ah BK173.o 2).trans rfl;have hcz45_3:w44.cell? ⟨gb173,3,none⟩=some (.int .i64 a0_3):=(ah BK173.o 3).trans rfl;have hfz45_0:=ai BK173.o 0;have hfz45_1:=ai BK173.o 1;have hfz45_2:=ai BK173.o 2;have hfz45_3:=ai BK173.o 3))
        go_ret
        exact⟨by first|rfl|(simp[ay,az] <;> rfl)|(simp[*,ay,az] <;> rfl),by repeat(first|(with_reducible first|exact HB.o|apply ae|apply aa|apply af|refine ax ?_ GE173.o)|exact HB.o)⟩
       ·rw[if_neg c43] at H
        have c43b0:(a0_3 == 0)=false:=beq_eq_false_iff_ne.mpr c43
        have c43b1:(a0_3 != 0)=true:=bne_iff_ne.mpr c43
        obtain rfl:=Option.some.inj H
        go_enter Tryd.func40,Tryd.ntmps40
        go_wp2_with (first|((with_reducible refine aI (N:=1) rfl ?_);refine aH ?hg (N:=1) ?hd (cs:=#[.int .i64 a0_0,.int .i64 a0_1,.int .i64 a0_2,.int .i64 a0_3]) (t:=43) ?hr ?_;(case hd=>rfl);(case hg=>rfl);(case hr=>first|(go_simp;done)|(go_simp;rfl));intro gb173 hg w46 hbox hb;have n0_:=ag.mk (aj (by repeat(first|(with_reducible first|exact HB.o|apply ae|apply aa|apply af)|exact HB.o)) hb);have n1_:=ag.mk (hbox);have n2_:=ag.mk ((by rw[hg];exact(ak (by repeat(first|(with_reducible first|exact HB.o|apply ae|apply aa|apply af)|exact HB.o))):w.heap.size≤gb173));have n3_:=ag.mk ((by rw[hg];exact(ak (by repeat(first|(with_reducible first|exact HB.o|apply ae|apply aa|apply af)|exact HB.o))):w.heap.size≤gb173));clear HB;have HB:=n0_;have BK173:=n1_;have GW173:=n2_;have GE173:=n3_;clear n0_ n1_ n2_ n3_;clear hb hbox hg;have hcz47_0:w46.cell? ⟨gb173,0,none⟩=some (.int .i64 a0_0):=(ah BK173.o 0).trans rfl;have hcz47_1:w46.cell? ⟨gb173,1,none⟩=some (.int .i64 a0_1):=(ah BK173.o 1).trans rfl;have hcz47_2:w46.cell? ⟨gb173,2,none⟩=some (.int .i64 a0_2):=(ah BK173.o 2).trans rfl;have hcz47_3:w46.cell? ⟨gb173,3,none⟩=some (.int .i64 a0_3):=(ah BK173.o 3).trans rfl;have hfz47_0:=ai BK173.o 0;have hfz47_1:=ai BK173.o 1;have hfz47_2:=ai BK173.o 2;have hfz47_3:=ai BK173.o 3))
        go_ret
        exact⟨by first|rfl|(simp[ay,az] <;> rfl)|(simp[*,ay,az] <;> rfl),by repeat(first|(with_reducible first|exact HB.o|apply ae|apply aa|apply af|refine ax ?_ GE173.o)|exact HB.o)⟩
      ·rw[if_neg c42] at H
       have c42b0:(a0_2 == 0)=false:=beq_eq_false_iff_ne.mpr c42
       have c42b1:(a0_2 != 0)=true:=bne_iff_ne.mpr c42
       obtain rfl:=Option.some.inj H
       go_enter Tryd.func40,Tryd.ntmps40
       go_wp2_with (first|((with_reducible refine aI (N:=1) rfl ?_);refine aH ?hg (N:=1) ?hd (cs:=#[.int .i64 a0_0,.int .i64 a0_1,.int .i64 a0_2,.int .i64 a0_3]) (t:=43) ?hr ?_;(case hd=>rfl);(case hg=>rfl);(case hr=>first|(go_simp;done)|(go_simp;rfl));intro gb173 hg w48 hbox hb;have n0_:=ag.mk (aj (by repeat(first|(with_reducible first|exact HB.o|apply ae|apply aa|apply af)|exact HB.o)) hb);have n1_:=ag.mk (hbox);have n2_:=ag.mk ((by rw[hg];exact(ak (by repeat(first|(with_reducible first|exact HB.o|apply ae|apply aa|apply af)|exact HB.o))):w.heap.size≤gb173));have n3_:=ag.mk ((by rw[hg];exact(ak (by repeat(first|(with_reducible first|exact HB.o|apply ae|apply aa|apply af)|exact HB.o))):w.heap.size≤gb173));clear HB;have HB:=n0_;have BK173:=n1_;have GW173:=n2_;have GE173:=n3_;clear n0_ n1_ n2_ n3_;clear hb hbox hg;have hcz49_0:w48.cell? ⟨gb173,0,none⟩=some (.int .i64 a0_0):=(ah BK173.o 0).trans rfl;have hcz49_1:w48.cell? ⟨gb173,1,none⟩=some (.int .i64 a0_1):=(ah BK173.o 1).trans rfl;have hcz49_2:w48.cell? ⟨gb173,2,none⟩=some (.int .i64 a0_2):=(ah BK173.o 2).trans rfl;have hcz49_3:w48.cell? ⟨gb173,3,none⟩=some (.int .i64 a0_3):=(ah BK173.o 3).trans rfl;have hfz49_0:=ai BK173.o 0;have hfz49_1:=ai BK173.o 1;have hfz49_2:=ai BK173.o 2;have hfz49_3:=ai BK173.o 3))
       go_ret
       exact⟨by first|rfl|(simp[ay,az] <;> rfl)|(simp[*,ay,az] <;> rfl),by repeat(first|(with_reducible first|exact HB.o|apply ae|apply aa|apply af|refine ax ?_ GE173.o)|exact HB.o)⟩
     ·rw[if_neg c41] at H
      have c41b0:decide (a0_1≤100)=false:=decide_eq_false c41
      clear c41
      obtain rfl:=Option.some.inj H
      go_enter Tryd.func40,Tryd.ntmps40
      go_wp2_with (first|((with_reducible refine aI (N:=1) rfl ?_);refine aH ?hg (N:=1) ?hd (cs:=#[.int .i64 a0_0,.int .i64 a0_1,.int .i64 a0_2,.int .i64 a0_3]) (t:=43) ?hr ?_;(case hd=>rfl);(case hg=>rfl);(case hr=>first|(go_simp;done)|(go_simp;rfl));intro gb173 hg w50 hbox hb;have n0_:=ag.mk (aj (by repeat(first|(with_reducible first|exact HB.o|apply ae|apply aa|apply af)|exact HB.o)) hb);have n1_:=ag.mk (hbox);have n2_:=ag.mk ((by rw[hg];exact(ak (by repeat(first|(with_reducible first|exact HB.o|apply ae|apply aa|apply af)|exact HB.o))):w.heap.size≤gb173));have n3_:=ag.mk ((by rw[hg];exact(ak (by repeat(first|(with_reducible first|exact HB.o|apply ae|apply aa|apply af)|exact HB.o))):w.heap.size≤gb173));clear HB;have HB:=n0_;have BK173:=n1_;have GW173:=n2_;have GE173:=n3_;clear n0_ n1_ n2_ n3_;clear hb hbox hg;have hcz51_0:w50.cell? ⟨gb173,0,none⟩=some (.int .i64 a0_0):=(ah BK173.o 0).trans rfl;have hcz51_1:w50.cell? ⟨gb173,1,none⟩=some (.int .i64 a0_1):=(ah BK173.o 1).trans rfl;have hcz51_2:w50.cell? ⟨gb173,2,none⟩=some (.int .i64 a0_2):=(ah BK173.o 2).trans rfl;have hcz51_3:w50.cell? ⟨gb173,3,none⟩=some (.int .i64 a0_3):=(ah BK173.o 3).trans rfl;have hfz51_0:=ai BK173.o 0;have hfz51_1:=ai BK173.o 1;have hfz51_2:=ai BK173.o 2;have hfz51_3:=ai BK173.o 3))
      go_ret
      exact⟨by first|rfl|(simp[ay,az] <;> rfl)|(simp[*,ay,az] <;> rfl),by repeat(first|(with_reducible first|exact HB.o|apply ae|apply aa|apply af|refine ax ?_ GE173.o)|exact HB.o)⟩
    ·rw[if_neg c40] at H
     have c40b0:decide ((-100)≤a0_1)=false:=decide_eq_false c40
     clear c40
     obtain rfl:=Option.some.inj H
     go_enter Tryd.func40,Tryd.ntmps40
     go_wp2_with (first|((with_reducible refine aI (N:=1) rfl ?_);refine aH ?hg (N:=1) ?hd (cs:=#[.int .i64 a0_0,.int .i64 a0_1,.int .i64 a0_2,.int .i64 a0_3]) (t:=43) ?hr ?_;(case hd=>rfl);(case hg=>rfl);(case hr=>first|(go_simp;done)|(go_simp;rfl));intro gb173 hg w52 hbox hb;have n0_:=ag.mk (aj (by repeat(first|(with_reducible first|exact HB.o|apply ae|apply aa|apply af)|exact HB.o)) hb);have n1_:=ag.mk (hbox);have n2_:=ag.mk ((by rw[hg];exact(ak (by repeat(first|(with_reducible first|exact HB.o|apply ae|apply aa|apply af)|exact HB.o))):w.heap.size≤gb173));have n3_:=ag.mk ((by rw[hg];exact(ak (by repeat(first|(with_reducible first|exact HB.o|apply ae|apply aa|apply af)|exact HB.o))):w.heap.size≤gb173));clear HB;have HB:=n0_;have BK173:=n1_;have GW173:=n2_;have GE173:=n3_;clear n0_ n1_ n2_ n3_;clear hb hbox hg;have hcz53_0:w52.cell? ⟨gb173,0,none⟩=some (.int .i64 a0_0):=(ah BK173.o 0).trans rfl;have hcz53_1:w52.cell? ⟨gb173,1,none⟩=some (.int .i64 a0_1):=(ah BK173.o 1).trans rfl;have hcz53_2:w52.cell? ⟨gb173,2,none⟩=some (.int .i64 a0_2):=(ah BK173.o 2).trans rfl;have hcz53_3:w52.cell? ⟨gb173,3,none⟩=some (.int .i64 a0_3):=(ah BK173.o 3).trans rfl;have hfz53_0:=ai BK173.o 0;have hfz53_1:=ai BK173.o 1;have hfz53_2:=ai BK173.o 2;have hfz53_3:=ai BK173.o 3))
     go_ret
     exact⟨by first|rfl|(simp[ay,az] <;> rfl)|(simp[*,ay,az] <;> rfl),by repeat(first|(with_reducible first|exact HB.o|apply ae|apply aa|apply af|refine ax ?_ GE173.o)|exact HB.o)⟩
   ·rw[if_neg c39] at H
    have c39b0:(a0_0 == 3)=false:=beq_eq_false_iff_ne.mpr c39
    have c39b1:(a0_0 != 3)=true:=bne_iff_ne.mpr c39
    obtain rfl:=Option.some.inj H
    go_enter Tryd.func40,Tryd.ntmps40
    go_wp2_with (first|((with_reducible refine aI (N:=1) rfl ?_);refine aH ?hg (N:=1) ?hd (cs:=#[.int .i64 a0_0,.int .i64 a0_1,.int .i64 a0_2,.int .i64 a0_3]) (t:=43) ?hr ?_;(case hd=>rfl);(case hg=>rfl);(case hr=>first|(go_simp;done)|(go_simp;rfl));intro gb173 hg w54 hbox hb;have n0_:=ag.mk (aj (by repeat(first|(with_reducible first|exact HB.o|apply ae|apply aa|apply af)|exact HB.o)) hb);have n1_:=ag.mk (hbox);have n2_:=ag.mk ((by rw[hg];exact(ak (by repeat(first|(with_reducible first|exact HB.o|apply ae|apply aa|apply af)|exact HB.o))):w.heap.size≤gb173));have n3_:=ag.mk ((by rw[hg];exact(ak (by repeat(first|(with_reducible first|exact HB.o|apply ae|apply aa|apply af)|exact HB.o))):w.heap.size≤gb173));clear HB;have HB:=n0_;have BK173:=n1_;have GW173:=n2_;have GE173:=n3_;clear n0_ n1_ n2_ n3_;clear hb hbox hg;have hcz55_0:w54.cell? ⟨gb173,0,none⟩=some (.int .i64 a0_0):=(ah BK173.o 0).trans rfl;have hcz55_1:w54.cell? ⟨gb173,1,none⟩=some (.int .i64 a0_1):=(ah BK173.o 1).trans rfl;have hcz55_2:w54.cell? ⟨gb173,2,none⟩=some (.int .i64 a0_2):=(ah BK173.o 2).trans rfl;have hcz55_3:w54.cell? ⟨gb173,3,none⟩=some (.int .i64 a0_3):=(ah BK173.o 3).trans rfl;have hfz55_0:=ai BK173.o 0;have hfz55_1:=ai BK173.o 1;have hfz55_2:=ai BK173.o 2;have hfz55_3:=ai BK173.o 3))
    go_ret
    exact⟨by first|rfl|(simp[ay,az] <;> rfl)|(simp[*,ay,az] <;> rfl),by repeat(first|(with_reducible first|exact HB.o|apply ae|apply aa|apply af|refine ax ?_ GE173.o)|exact HB.o)⟩
def pylonref09_holidays.l0:Nat → List (S43) → Int → Int → Option (Bool)
 |0,_,_,_=>none
 |k+1,x0,x5,x6=>if x6 < x5 then (if 0≤x6 then (if x6 < (x0.length:Int) then ((pylonref05_Check.f k ((aW x0 x6).f0) ((aW x0 x6).f1) ((aW x0 x6).f2) ((aW x0 x6).f3)).bind fun t177=>(if t177=0 then (pylonref09_holidays.l0 k x0 x5 (wrap64 (x6+1))) else (some false))) else (none)) else (none)) else (some (decide ((x0.length:Int)≤64)))
def pylonref09_holidays.f (k:Nat) (l0:List (S43)):Option (Bool):=pylonref09_holidays.l0 k l0 (l0.length:Int) 0
theorem pylonref09_holidays.mono_l : ∀ k,(∀ y0 y1 y2,LeO (pylonref09_holidays.l0 k y0 y1 y2) (pylonref09_holidays.l0 (k+1) y0 y1 y2))
 |0=>fun _ _ _ r h=>by simp[pylonref09_holidays.l0] at h
 |k+1=>by
  have ih0:=pylonref09_holidays.mono_l k
  ·intro y0 y1 y2
   unfold pylonref09_holidays.l0
   repeat' first
   |(with_reducible exact ih0 _ _ _)
   |(with_reducible exact pylonref05_Check.mono _ _ _ _ _)
   |(with_reducible exact LeO.refl _)
   |(with_reducible exact LeO.none _)
   |(with_reducible refine LeO.ite ?_ ?_)
   |(with_reducible refine LeO.bind ?_ (fun _=>?_))
   |exact ih0 _ _ _
   |exact pylonref05_Check.mono _ _ _ _ _
   |exact LeO.none _
   |refine LeO.ite ?_ ?_
   |refine LeO.bind ?_ (fun _=>?_)
theorem pylonref09_holidays.mono : ∀ a0 k,LeO (pylonref09_holidays.f k a0) (pylonref09_holidays.f (k+1) a0):=by
 intro a0 k
 have ih0:=pylonref09_holidays.mono_l k
 unfold pylonref09_holidays.f
 repeat' first
   |(with_reducible exact ih0 _ _ _)
   |(with_reducible exact pylonref05_Check.mono _ _ _ _ _)
   |(with_reducible exact LeO.refl _)
   |(with_reducible exact LeO.none _)
   |(with_reducible refine LeO.ite ?_ ?_)
   |(with_reducible refine LeO.bind ?_ (fun _=>?_))
   |exact ih0 _ _ _
   |exact pylonref05_Check.mono _ _ _ _ _
   |exact LeO.none _
   |refine LeO.ite ?_ ?_
   |refine LeO.bind ?_ (fun _=>?_)
set_option maxHeartbeats 8000000 in
set_option maxRecDepth 100000 in
theorem pylonref09_holidays.calls (k:Nat) (A0:Option Addr) (c0:Nat) (l0:List (S43)) (r:Bool) (w:World) (hr0:Kd.C k43 w A0 l0.length l0) (hc0:l0.length≤c0) (h:pylonref09_holidays.f k l0=some r) :
  Calls Tryd.prog 25 #[.slice A0 l0.length c0] w fun e w'=>e = .returned (.bool r)∧Below w.heap.size w w':=by
 have hu43:=Tryd.underlying43
 have HR0:=ag.mk hr0
 have HC0:=ag.mk hc0
 clear hr0 hc0
 have HB:=ag.mk (Below.refl w.heap.size w)
 have H:(pylonref09_holidays.l0 k l0 (l0.length:Int) 0)=some r:=h
 clear h
 have H':=ag.mk H
 clear H
 go_enter Tryd.func25,Tryd.ntmps25
 go_wp2
 go_loopg [6] k (fun kq v6 w'=>∃ (x6_1:Int),v6 = .int .i64 x6_1∧ag (pylonref09_holidays.l0 kq l0 (l0.length:Int) x6_1=some r)∧ag (kq≤k)∧ag (Below w.heap.size w w'))
 case atStart=>exact⟨(0),(by first|rfl|(simp;done)|(simp[*];done)|(simp[aJ];done)|(simp[aK];done)),H',⟨Nat.le_refl _⟩,⟨by repeat(first|(with_reducible first|exact HB.o|apply ae|apply aa|apply af)|exact HB.o)⟩⟩
 case round=>
  clear H'
  obtain⟨x6_1,rfl,HA,HK1,HB⟩:=hrel
  cases gk with
  |zero=>exact absurd HA.o (by simp[pylonref09_holidays.l0])
  |succ k1=>
   have H:=HA.o
   clear HA
   simp only[pylonref09_holidays.l0] at H
   by_cases c2:x6_1 < (l0.length:Int)
   ·rw[if_pos c2] at H
    have c2b0:decide (x6_1 < (l0.length:Int))=true:=decide_eq_true c2
    clear c2
    by_cases c3:0≤x6_1
    ·rw[if_pos c3] at H
     have c3b0:decide (0≤x6_1)=true:=decide_eq_true c3
     clear c3
     by_cases c4:x6_1 < (l0.length:Int)
     ·rw[if_pos c4] at H
      have c4b0:decide (x6_1 < (l0.length:Int))=true:=decide_eq_true c4
      clear c4
      replace H:=Option.bind_eq_some_iff.mp H
      obtain⟨t177,A50,H⟩:=H
      replace H:(if t177=0 then (pylonref09_holidays.l0 k1 l0 (l0.length:Int) (wrap64 (x6_1+1))) else (some false))=some r:=H
      have A5:=ag.mk A50
      clear A50
      by_cases c6:t177=0
      ·rw[if_pos c6] at H
       have c6b0:(t177 == 0)=true:=beq_iff_eq.mpr c6
       have c6b1:(t177 != 0)=false:=bne_eq_false_iff_eq.mpr c6
       clear c6
       have H':=ag.mk H
       clear H
       have p176:0≤(x6_1:Int):=of_decide_eq_true (by first|(with_reducible assumption)|assumption)
       have q176:x6_1 < (l0.length:Int):=of_decide_eq_true (by first|(with_reducible assumption)|assumption)
       obtain⟨ad176,e176,hx176_0,hx176_1,hx176_2,hx176_3⟩:=at_T43 HR0.o x6_1 p176 q176
       cases e176
       replace hx176_0:=cqq HB.o hx176_0
       replace hx176_1:=cqq HB.o hx176_1
       replace hx176_2:=cqq HB.o hx176_2
       replace hx176_3:=cqq HB.o hx176_3
       replace p176:=eq_true p176
       replace q176:=eq_true q176
       go_wp2_with (first|((with_reducible refine aR (f:=40) rfl ?_);refine aZ (some 13) rfl rfl Tryd.func40 (by kernel_rfl) rfl #[.agg #[.int .i64 ((aW l0 x6_1).f0),.int .i64 ((aW l0 x6_1).f1),.int .i64 ((aW l0 x6_1).f2),.int .i64 ((aW l0 x6_1).f3)]] rfl (by (try simp only[List.map_toArray,List.map_cons,List.map_nil]);first|done|rfl|(simp only[List.length_drop,List.length_take];rfl)) ?_;(with_reducible refine(pylonref05_Check.calls k1 ((aW l0 x6_1).f0) ((aW l0 x6_1).f1) ((aW l0 x6_1).f2) ((aW l0 x6_1).f3) t177 _ A5.o).mono ?_);rintro e w7 ⟨rfl,hb⟩;refine⟨_,rfl,?_⟩;have n0_:=ag.mk (aj (by repeat(first|(with_reducible first|exact HB.o|apply ae|apply aa|apply af)|exact HB.o)) hb);clear HB;have HB:=n0_;clear n0_;(try clear hb);(try clear hb2);(try clear hk);(try clear hi)))
       go_roundg k1
       case measure=>have:=HK1.o;omega
       case rel=>exact⟨(wrap64 (x6_1+1)),(by first|rfl|(simp;done)|(simp[*];done)|(simp[aJ];done)|(simp[aK];done)),H',⟨by have:=HK1.o;omega⟩,⟨by repeat(first|(with_reducible first|exact HB.o|apply ae|apply aa|apply af)|exact HB.o)⟩⟩
      ·rw[if_neg c6] at H
       have c6b0:(t177 == 0)=false:=beq_eq_false_iff_ne.mpr c6
       have c6b1:(t177 != 0)=true:=bne_iff_ne.mpr c6
       obtain rfl:=Option.some.inj H
       have p176:0≤(x6_1:Int):=of_decide_eq_true (by first|(with_reducible assumption)|assumption)
       have q176:x6_1 < (l0.length:Int):=of_decide_eq_true (by first|(with_reducible assumption)|assumption)
       obtain⟨ad176,e176,hx176_0,hx176_1,hx176_2,hx176_3⟩:=at_T43 HR0.o x6_1 p176 q176
       cases e176
       replace hx176_0:=cqq HB.o hx176_0
       replace hx176_1:=cqq HB.o hx176_1
       replace hx176_2:=cqq HB.o hx176_2
       replace hx176_3:=cqq HB.o hx176_3
       replace p176:=eq_true p176
       replace q176:=eq_true q176
       go_wp2_with (first|((with_reducible refine aR (f:=40) rfl ?_);refine aZ (some 13) rfl rfl Tryd.func40 (by kernel_rfl) rfl #[.agg #[.int .i64 ((aW l0 x6_1).f0),.int .i64 ((aW l0 x6_1).f1),.int .i64 ((aW l0 x6_1).f2),.int .i64 ((aW l0 x6_1).f3)]] rfl (by (try simp only[List.map_toArray,List.map_cons,List.map_nil]);first|done|rfl|(simp only[List.length_drop,List.length_take];rfl)) ?_;(with_reducible refine(pylonref05_Check.calls k1 ((aW l0 x6_1).f0) ((aW l0 x6_1).f1) ((aW l0 x6_1).f2) ((aW l0 x6_1).f3) t177 _ A5.o).mono ?_);rintro e w8 ⟨rfl,hb⟩;refine⟨_,rfl,?_⟩;have n0_:=ag.mk (aj (by repeat(first|(with_reducible first|exact HB.o|apply ae|apply aa|apply af)|exact HB.o)) hb);clear HB;have HB:=n0_;clear n0_;(try clear hb);(try clear hb2);(try clear hk);(try clear hi)))
       go_ret
       exact⟨by first|rfl|(simp[ay,az] <;> rfl)|(simp[*,ay,az] <;> rfl),by repeat(first|(with_reducible first|exact HB.o|apply ae|apply aa|apply af)|exact HB.o)⟩
     ·rw[if_neg c4] at H
      exact absurd H (by simp)
    ·rw[if_neg c3] at H
     exact absurd H (by simp)
   ·rw[if_neg c2] at H
    have c2b0:decide (x6_1 < (l0.length:Int))=false:=decide_eq_false c2
    clear c2
    obtain rfl:=Option.some.inj H
    go_wp2
    go_ret
    exact⟨by first|rfl|(simp[ay,az] <;> rfl)|(simp[*,ay,az] <;> rfl),by repeat(first|(with_reducible first|exact HB.o|apply ae|apply aa|apply af)|exact HB.o)⟩
end Go.Proofs.YtcmhfcciapenfaaDoor.Pa
