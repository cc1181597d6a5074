/- A part of the proof. -/
import Derived.Test.YtjokedpaidmjoaaGreatDoorQ04
set_option linter.all false
namespace Go.Proofs.YtjokedpaidmjoaaGreatDoor.Pa
open Go.RowKit Go.Proofs.YtjokedpaidmjoaaGreatDoorW.PrintWords Go.Proofs.YtjokedpaidmjoaaGreatDoorW.PrintLast Go.Proofs.YtjokedpaidmjoaaGreatDoorW.PrintMore
attribute [local go_sem] dK dL eO eP dw dx dM dN
def fix_Read.tail (a0:ByteArray):ByteArray:=if 0 < a0.size∧bt a0 0=45 then a0.extract 1 a0.size else a0
def fix_Read.isNum (a0:ByteArray):Bool:=decide ((fix_Read.tail a0).size≠0) && !(decide (bt (fix_Read.tail a0) 0=48) && decide (a0.toList≠[48])) && (fix_Read.tail a0).data.toList.all (fun c=>decide (48≤c.toNat) && decide (c.toNat≤57))
def fix_Read.f (a0:ByteArray):Option (Int × Int):=if a0.size≤281474976710656 then (if fix_Read.isNum a0=true then (match Lib.parseIntB 64 a0.data.toList with|.ok v=>some (v,0)|.range=>some (0,5)|_=>none) else some (0,1)) else none
theorem fix_Read.bad (a0:ByteArray) (hsz:a0.size≤281474976710656) (h:fix_Read.isNum a0=false):fix_Read.f a0=some (0,1):=by
 unfold fix_Read.f
 rw[if_pos hsz,h]
 rfl
theorem fix_Read.is_ok (a0:ByteArray) (hsz:a0.size≤281474976710656) (h:fix_Read.isNum a0=true) {v:Int} (hp:Lib.parseIntB 64 a0.data.toList = .ok v):fix_Read.f a0=some (v,0):=by
 unfold fix_Read.f
 rw[if_pos hsz,if_pos h,hp]
theorem fix_Read.is_range (a0:ByteArray) (hsz:a0.size≤281474976710656) (h:fix_Read.isNum a0=true) (hp:Lib.parseIntB 64 a0.data.toList = .range):fix_Read.f a0=some (0,5):=by
 unfold fix_Read.f
 rw[if_pos hsz,if_pos h,hp]
theorem fix_Read.is_syntax (a0:ByteArray) (hsz:a0.size≤281474976710656) (h:fix_Read.isNum a0=true) (hp:Lib.parseIntB 64 a0.data.toList=Lib.NumEnd.syntax):fix_Read.f a0=none:=by
 unfold fix_Read.f
 rw[if_pos hsz,if_pos h,hp]
theorem fix_Read.bad_digit (a0 d:ByteArray) (hd:fix_Read.tail a0=d) {i:Nat} {c:UInt8} (hc:d.data.toList[i]? = some c) (h:(c.toNat:Int) < 48∨(57:Int) < c.toNat):fix_Read.isNum a0=false:=by
 unfold fix_Read.isNum
 rw[hd]
 have:d.data.toList.all (fun c=>decide (48≤c.toNat) && decide (c.toNat≤57))=false:=by
  rw[List.all_eq_false]
  refine⟨c,List.mem_of_getElem? hc,?_⟩
  simp only[Bool.and_eq_true,decide_eq_true_eq]
  omega
 rw[this,Bool.and_false]
theorem fix_Read.at_ (d:ByteArray) (i:Nat) (h:i < d.size) : ∃ c,d.data.toList[i]? = some c∧bt d (i:Int)=(c.toNat:Int):=by
 have hl:i < d.data.toList.length:=by rw[Array.length_toList];exact h
 refine⟨d.data.toList[i],List.getElem?_eq_getElem hl,?_⟩
 have:=bt_at d (i:Int) (by omega)
 rw[← this]
 rfl
theorem fix_Read.more (d:ByteArray) (i:Nat) (c:UInt8) (h : ∀ c∈d.data.toList.take i,48≤c.toNat∧c.toNat≤57) (hc:d.data.toList[i]? = some c) (hr:48≤c.toNat∧c.toNat≤57) : ∀ c∈d.data.toList.take (i+1),48≤c.toNat∧c.toNat≤57:=by
 intro x hx
 rw[List.take_add_one,hc] at hx
 rcases List.mem_append.1 hx with hx|hx
 ·exact h x hx
 ·simp at hx
  rw[hx]
  exact hr
theorem fix_Read.good (a0 d:ByteArray) (hd:fix_Read.tail a0=d) (hz:d.size≠0) (h0:bt d 0=48 → a0.toList = [48]) (h : ∀ c∈d.data.toList,48≤c.toNat∧c.toNat≤57):fix_Read.isNum a0=true:=by
 unfold fix_Read.isNum
 rw[hd]
 simp only[Bool.and_eq_true,decide_eq_true_eq,Bool.not_eq_true',Bool.and_eq_false_iff,decide_eq_false_iff_not,List.all_eq_true]
 refine⟨⟨hz,?_⟩,fun c hc=>h c hc⟩
 by_cases e:bt d 0=48
 ·exact .inr (fun hn=>hn (h0 e))
 ·exact .inl e
theorem fix_Read.ok_world {w w' : World} {t0:TypeId} (h:w' = w∨∃ t,w' = Lib.bytesWorld w t0 t):Below w.heap.size w w':=by
 rcases h with rfl|⟨t,rfl⟩
 ·exact Below.refl _ _
 ·exact Lib.bytesWorld_below _ _ _
theorem fix_Read.bad_empty (a0:ByteArray) (hd:(fix_Read.tail a0).size=0):fix_Read.isNum a0=false:=by
 unfold fix_Read.isNum
 simp[hd]
theorem fix_Read.bad_zero (a0:ByteArray) (hd:bt (fix_Read.tail a0) 0=48) (h:a0.toList≠[48]):fix_Read.isNum a0=false:=by
 unfold fix_Read.isNum
 simp[hd,h]
set_option maxHeartbeats 4000000 in
set_option maxRecDepth 100000 in
theorem fix_Read.calls (a0:ByteArray) (r1:Int) (r2:Int) (w:World) (hV:GInv w) (h:fix_Read.f a0=some (r1,r2)) :
  Calls Tryz.prog 84 #[.string a0] w fun e w'=>e = .returned (.tuple #[.int .i64 r1,.int .i64 r2])∧Below w.heap.size w w':=by
 by_cases hsz0 : ¬ a0.size≤281474976710656
 ·unfold fix_Read.f at h
  rw[if_neg hsz0] at h
  cases h
 have hsz:=Decidable.not_not.1 hsz0
 clear hsz0
 have H:=ae.mk h
 clear h
 by_cases he:a0.size=0
 ·have H2:(r1,r2)=(0,1):=by
   refine(Option.some.inj (H.o.symm.trans ?_))
   exact fix_Read.bad a0 hsz (fix_Read.bad_empty a0 (by unfold fix_Read.tail;rw[if_neg (by omega)];exact he))
  obtain⟨rfl,rfl⟩:=Prod.mk.inj H2
  clear H2
  obtain rfl:a0=⟨#[]⟩:=by
   obtain⟨⟨l⟩⟩:=a0
   cases l with
   |nil=>rfl
   |cons c l=>simp[ByteArray.size] at he
  clear he
  go_enter Tryz.func84,Tryz.ntmps84
  go_wp2
  go_ret2
  exact⟨rfl,Below.refl _ _⟩
 have hx0 : ∀ h:0 < a0.size,((a0[0]'h).toNat:Int)=bt a0 0:=fun h=>bt_at a0 0 h
 have g0:decide (0 < (a0.size:Int))=true:=decide_eq_true (by omega)
 have p00:(0:Int) < (a0.size:Int):=by omega
 have n00:(0:Nat) < a0.size:=by omega
 have hne:a0.toList≠[]:=by
  rw[ByteArray.toList_eq]
  intro e
  have:a0.data.toList.length=0:=by rw[e];rfl
  rw[Array.length_toList] at this
  exact he this
 by_cases h45:bt a0 0=45
 ·have c45:(bt a0 0 == 45)=true:=beq_iff_eq.mpr h45
  have ht:fix_Read.tail a0=a0.extract 1 a0.size:=by unfold fix_Read.tail;rw[if_pos ⟨n00,h45⟩]
  have hts:(a0.extract 1 a0.size).size=a0.size - 1:=by rw[ByteArray.size_extract];omega
  have h48:a0.toList≠[48]:=by
   intro e
   rw[ByteArray.toList_eq] at e
   have:a0=⟨#[48]⟩:=ByteArray.ext (Array.toList_inj.1 e)
   rw[this] at h45
   exact absurd h45 (by decide)
  obtain⟨d,hd⟩ : ∃ d,d=a0.extract 1 a0.size:=⟨_,rfl⟩
  have cz:(a0.toList != [48])=true:=by simpa using h48
  have cz2:(a0.toList == [48])=false:=by simpa using h48
  by_cases h1:a0.size=1
  ·have H2:(r1,r2)=(0,1):=by
    refine(Option.some.inj (H.o.symm.trans ?_))
    exact fix_Read.bad a0 hsz (fix_Read.bad_empty a0 (by rw[ht];omega))
   obtain⟨rfl,rfl⟩:=Prod.mk.inj H2
   have e0:(a0.extract 1 a0.size).toList = []:=by
    rw[ByteArray.toList_eq]
    exact List.eq_nil_of_length_eq_zero (by rw[Array.length_toList];show(a0.extract 1 a0.size).size=0;omega)
   have ce:((a0.extract 1 a0.size).toList == ([] : List UInt8))=true:=by rw[e0];rfl
   have ce2:(a0.extract 1 a0.size).toList.isEmpty=true:=by rw[e0];rfl
   have p1:(1:Int)≤(a0.size:Int):=by omega
   replace p1:=eq_true p1
   clear H2 ht hts he hne h45 h48 hd h1 e0
   go_enter Tryz.func84,Tryz.ntmps84
   go_wp2
   go_ret2
   exact⟨rfl,Below.refl _ _⟩
  ·have hn0:(a0.extract 1 a0.size).toList≠[]:=by
    rw[ByteArray.toList_eq]
    intro e
    have:(a0.extract 1 a0.size).data.toList.length=0:=by rw[e];rfl
    rw[Array.length_toList] at this
    have:(a0.extract 1 a0.size).size=0:=this
    omega
   have ce:((a0.extract 1 a0.size).toList == ([] : List UInt8))=false:=beq_eq_false_iff_ne.mpr hn0
   have ce2:(a0.extract 1 a0.size).toList.isEmpty=false:=by rw[isEmpty_beq];exact ce
   have hx1 : ∀ h:0 < (a0.extract 1 a0.size).size,(((a0.extract 1 a0.size)[0]'h).toNat:Int)=bt (a0.extract 1 a0.size) 0:=fun h=>bt_at (a0.extract 1 a0.size) 0 h
   have p1:(1:Int)≤(a0.size:Int):=by omega
   have n1:0 < (a0.extract 1 a0.size).size:=by omega
   have n2:(0:Int) < ((a0.size - 1:Nat):Int):=by omega
   have n3:0 < a0.size - 1:=by omega
   have n4:1 < a0.size:=by omega
   replace p1:=eq_true p1
   by_cases hz:bt (a0.extract 1 a0.size) 0=48
   ·have H2:(r1,r2)=(0,1):=by
     refine(Option.some.inj (H.o.symm.trans ?_))
     exact fix_Read.bad a0 hsz (fix_Read.bad_zero a0 (by rw[ht];exact hz) h48)
    obtain⟨rfl,rfl⟩:=Prod.mk.inj H2
    have cb:(bt (a0.extract 1 a0.size) 0 == 48)=true:=beq_iff_eq.mpr hz
    clear H2 ht hts he hne h45 h48 hd h1 hn0 hz
    go_enter Tryz.func84,Tryz.ntmps84
    go_wp2
    go_ret2
    exact⟨rfl,Below.refl _ _⟩
   ·have cb:(bt (a0.extract 1 a0.size) 0 == 48)=false:=beq_eq_false_iff_ne.mpr hz
    have DT:=ae.mk ht
    have HZ:=ae.mk hts
    have NZ:ae ((a0.extract 1 a0.size).size≠0):=⟨by omega⟩
    have N0:ae (bt (a0.extract 1 a0.size) 0=48 → a0.toList = [48]):=⟨fun e=>absurd e hz⟩
    clear ht hts he hne h45 h48 hd h1 hn0 hz
    go_enter Tryz.func84,Tryz.ntmps84
    go_wp2
    go_loopg [32] (a0.size - 1) (fun kq v32 w'=>∃ i:Nat,v32 = .int .i64 i∧i≤(a0.size - 1)∧ae (kq=(a0.size - 1) - i)∧ae (∀ c∈(a0.extract 1 a0.size).data.toList.take i,48≤c.toNat∧c.toNat≤57)∧w' = w)
    case atStart=>exact⟨0,(by first|rfl|(simp;done)),Nat.zero_le _,⟨rfl⟩,⟨fun c hc=>by simp at hc⟩,rfl⟩
    case round=>
     obtain⟨i,rfl,hi,HK,HD,rfl⟩:=hrel
     by_cases hlt:i < (a0.size - 1)
     ·have hx : ∀ h:i < (a0.extract 1 a0.size).size,((((a0.extract 1 a0.size))[i]'h).toNat:Int)=bt (a0.extract 1 a0.size) (i:Int):=fun h=>bt_at (a0.extract 1 a0.size) (i:Int) h
      have c0:decide ((i:Int) < (((a0.size - 1):Nat):Int))=true:=decide_eq_true (by omega)
      have p0:0≤(i:Int):=by omega
      have q0:(i:Int) < (((a0.size - 1):Nat):Int):=by omega
      have q1:i < (a0.extract 1 a0.size).size:=by have:=HZ.o;omega
      replace p0:=eq_true p0
      replace q0:=eq_true q0
      obtain⟨c,hc,hb⟩ : ∃ c,(a0.extract 1 a0.size).data.toList[i]? = some c∧bt (a0.extract 1 a0.size) (i:Int)=(c.toNat:Int):=fix_Read.at_ (a0.extract 1 a0.size) i (by have:=HZ.o;omega)
      have Hc:=ae.mk hc
      clear hc
      have Hb:=ae.mk hb
      clear hb
      by_cases h1:bt (a0.extract 1 a0.size) (i:Int) < 48
      ·have c1:decide (bt (a0.extract 1 a0.size) (i:Int) < 48)=true:=decide_eq_true h1
       have H2:(r1,r2)=(0,1):=by
        refine(Option.some.inj (H.o.symm.trans ?_))
        refine fix_Read.bad a0 hsz ?_
        refine fix_Read.bad_digit a0 (a0.extract 1 a0.size) DT.o Hc.o ?_
        have:=Hb.o
        omega
       obtain⟨rfl,rfl⟩:=Prod.mk.inj H2
       clear H2 h1
       go_wp2
       go_ret2
       exact⟨rfl,Below.refl _ _⟩
      ·have c1:decide (bt (a0.extract 1 a0.size) (i:Int) < 48)=false:=decide_eq_false h1
       by_cases h2:57 < bt (a0.extract 1 a0.size) (i:Int)
       ·have c2:decide (57 < bt (a0.extract 1 a0.size) (i:Int))=true:=decide_eq_true h2
        have H2:(r1,r2)=(0,1):=by
         refine(Option.some.inj (H.o.symm.trans ?_))
         refine fix_Read.bad a0 hsz ?_
         refine fix_Read.bad_digit a0 (a0.extract 1 a0.size) DT.o Hc.o ?_
         have:=Hb.o
         omega
        obtain⟨rfl,rfl⟩:=Prod.mk.inj H2
        clear H2 h1 h2
        go_wp2
        go_ret2
        exact⟨rfl,Below.refl _ _⟩
       ·have c2:decide (57 < bt (a0.extract 1 a0.size) (i:Int))=false:=decide_eq_false h2
        have HD2:=ae.mk (fix_Read.more (a0.extract 1 a0.size) i c HD.o Hc.o (by have:=Hb.o;omega))
        clear h1 h2
        go_wp2
        go_roundg ((a0.size - 1) - (i+1))
        case measure=>have:=HK.o;omega
        case rel=>exact⟨i+1,(by first|rfl|go_num),hlt,⟨rfl⟩,HD2,rfl⟩
     ·have c0:decide ((i:Int) < (((a0.size - 1):Nat):Int))=false:=decide_eq_false (by omega)
      have hnum:fix_Read.isNum a0=true:=fix_Read.good a0 (a0.extract 1 a0.size) DT.o NZ.o N0.o (by
       have:=HD.o
       rwa [List.take_of_length_le (by rw[Array.length_toList];show(a0.extract 1 a0.size).size≤i;have:=HZ.o;omega)] at this)
      have HN:=ae.mk hnum
      clear hnum
      cases hp:Lib.parseIntB 64 a0.data.toList with
      |ok v=>
       have HP:=ae.mk hp
       clear hp
       have H2:(r1,r2)=(v,0):=Option.some.inj (H.o.symm.trans (fix_Read.is_ok a0 hsz HN.o HP.o))
       obtain⟨rfl,rfl⟩:=Prod.mk.inj H2
       clear H2
       have HC:=fun (W:World)=>Any.strconv_ParseInt_10_at64_ok Tryz.laysC174 a0 (by omega) _ HP.o W
       go_wp2_with (go_at_call 98;refine(HC _).mono ?_;rintro e w1 ⟨rfl,hw1⟩;replace hw1:=ae.mk (fix_Read.ok_world hw1))
       go_ret2
       exact⟨rfl,hw1.o⟩
      |range=>
       have HP:=ae.mk hp
       clear hp
       have H2:(r1,r2)=(0,5):=Option.some.inj (H.o.symm.trans (fix_Read.is_range a0 hsz HN.o HP.o))
       obtain⟨rfl,rfl⟩:=Prod.mk.inj H2
       clear H2
       obtain⟨tp,pv,hv⟩:=hV.rng
       have HV:=ae.mk hv
       clear hv
       have HC:=Any.strconv_ParseInt_10_at64_range_var Tryz.laysC174 a0 hsz HP.o tp pv _ HV.o
       go_wp2_with (go_at_call 98;refine HC.mono ?_;rintro e w1 ⟨N,rfl,_,_,hb1⟩;replace hb1:=ae.mk hb1)
       go_ret2
       exact⟨rfl,hb1.o⟩
      |_=>
       rw[fix_Read.is_syntax a0 hsz HN.o hp] at H
       exact absurd H.o (by simp)
 ·have c45:(bt a0 0 == 45)=false:=beq_eq_false_iff_ne.mpr h45
  have ht:fix_Read.tail a0=a0:=by unfold fix_Read.tail;rw[if_neg (fun e=>h45 e.2)]
  have cne:(a0.toList == ([] : List UInt8))=false:=beq_eq_false_iff_ne.mpr hne
  have cne2:a0.toList.isEmpty=false:=by rw[isEmpty_beq];exact cne
  by_cases h48:bt a0 0=48
  ·have c48:(bt a0 0 == 48)=true:=beq_iff_eq.mpr h48
   by_cases hz:a0.toList = [48]
   ·have cz:(a0.toList != [48])=false:=by simp[hz]
    have cz2:(a0.toList == [48])=true:=by simp[hz]
    have DT:=ae.mk ht
    have HZ:ae (a0.size=a0.size):=⟨rfl⟩
    have NZ:=ae.mk he
    have N0:ae (bt a0 0=48 → a0.toList = [48]):=⟨fun _=>hz⟩
    clear ht he hne h45 h48 hz
    go_enter Tryz.func84,Tryz.ntmps84
    go_wp2
    go_loopg [32] a0.size (fun kq v32 w'=>∃ i:Nat,v32 = .int .i64 i∧i≤a0.size∧ae (kq=a0.size - i)∧ae (∀ c∈a0.data.toList.take i,48≤c.toNat∧c.toNat≤57)∧w' = w)
    case atStart=>exact⟨0,(by first|rfl|(simp;done)),Nat.zero_le _,⟨rfl⟩,⟨fun c hc=>by simp at hc⟩,rfl⟩
    case round=>
     obtain⟨i,rfl,hi,HK,HD,rfl⟩:=hrel
     by_cases hlt:i < a0.size
     ·have hx : ∀ h:i < a0.size,(((a0)[i]'h).toNat:Int)=bt a0 (i:Int):=fun h=>bt_at a0 (i:Int) h
      have c0:decide ((i:Int) < ((a0.size:Nat):Int))=true:=decide_eq_true (by omega)
      have p0:0≤(i:Int):=by omega
      have q0:(i:Int) < ((a0.size:Nat):Int):=by omega
      have q1:i < a0.size:=by have:=HZ.o;omega
      replace p0:=eq_true p0
      replace q0:=eq_true q0
      obtain⟨c,hc,hb⟩ : ∃ c,a0.data.toList[i]? = some c∧bt a0 (i:Int)=(c.toNat:Int):=fix_Read.at_ a0 i (by have:=HZ.o;omega)
      have Hc:=ae.mk hc
      clear hc
      have Hb:=ae.mk hb
      clear hb
      by_cases h1:bt a0 (i:Int) < 48
      ·have c1:decide (bt a0 (i:Int) < 48)=true:=decide_eq_true h1
       have H2:(r1,r2)=(0,1):=by
        refine(Option.some.inj (H.o.symm.trans ?_))
        refine fix_Read.bad a0 hsz ?_
        refine fix_Read.bad_digit a0 a0 DT.o Hc.o ?_
        have:=Hb.o
        omega
       obtain⟨rfl,rfl⟩:=Prod.mk.inj H2
       clear H2 h1
       go_wp2
       go_ret2
       exact⟨rfl,Below.refl _ _⟩
      ·have c1:decide (bt a0 (i:Int) < 48)=false:=decide_eq_false h1
       by_cases h2:57 < bt a0 (i:Int)
       ·have c2:decide (57 < bt a0 (i:Int))=true:=decide_eq_true h2
        have H2:(r1,r2)=(0,1):=by
         refine(Option.some.inj (H.o.symm.trans ?_))
         refine fix_Read.bad a0 hsz ?_
         refine fix_Read.bad_digit a0 a0 DT.o Hc.o ?_
         have:=Hb.o
         omega
        obtain⟨rfl,rfl⟩:=Prod.mk.inj H2
        clear H2 h1 h2
        go_wp2
        go_ret2
        exact⟨rfl,Below.refl _ _⟩
       ·have c2:decide (57 < bt a0 (i:Int))=false:=decide_eq_false h2
        have HD2:=ae.mk (fix_Read.more a0 i c HD.o Hc.o (by have:=Hb.o;omega))
        clear h1 h2
        go_wp2
        go_roundg (a0.size - (i+1))
        case measure=>have:=HK.o;omega
        case rel=>exact⟨i+1,(by first|rfl|go_num),hlt,⟨rfl⟩,HD2,rfl⟩
     ·have c0:decide ((i:Int) < ((a0.size:Nat):Int))=false:=decide_eq_false (by omega)
      have hnum:fix_Read.isNum a0=true:=fix_Read.good a0 a0 DT.o NZ.o N0.o (by
       have:=HD.o
       rwa [List.take_of_length_le (by rw[Array.length_toList];show a0.size≤i;have:=HZ.o;omega)] at this)
      have HN:=ae.mk hnum
      clear hnum
      cases hp:Lib.parseIntB 64 a0.data.toList with
      |ok v=>
       have HP:=ae.mk hp
       clear hp
       have H2:(r1,r2)=(v,0):=Option.some.inj (H.o.symm.trans (fix_Read.is_ok a0 hsz HN.o HP.o))
       obtain⟨rfl,rfl⟩:=Prod.mk.inj H2
       clear H2
       have HC:=fun (W:World)=>Any.strconv_ParseInt_10_at64_ok Tryz.laysC174 a0 (by omega) _ HP.o W
       go_wp2_with (go_at_call 98;refine(HC _).mono ?_;rintro e w1 ⟨rfl,hw1⟩;replace hw1:=ae.mk (fix_Read.ok_world hw1))
       go_ret2
       exact⟨rfl,hw1.o⟩
      |range=>
       have HP:=ae.mk hp
       clear hp
       have H2:(r1,r2)=(0,5):=Option.some.inj (H.o.symm.trans (fix_Read.is_range a0 hsz HN.o HP.o))
       obtain⟨rfl,rfl⟩:=Prod.mk.inj H2
       clear H2
       obtain⟨tp,pv,hv⟩:=hV.rng
       have HV:=ae.mk hv
       clear hv
       have HC:=Any.strconv_ParseInt_10_at64_range_var Tryz.laysC174 a0 hsz HP.o tp pv _ HV.o
       go_wp2_with (go_at_call 98;refine HC.mono ?_;rintro e w1 ⟨N,rfl,_,_,hb1⟩;replace hb1:=ae.mk hb1)
       go_ret2
       exact⟨rfl,hb1.o⟩
      |_=>
       rw[fix_Read.is_syntax a0 hsz HN.o hp] at H
       exact absurd H.o (by simp)
   ·have cz:(a0.toList != [48])=true:=by simpa using hz
    have cz2:(a0.toList == [48])=false:=by simpa using hz
    have H2:(r1,r2)=(0,1):=by
     refine(Option.some.inj (H.o.symm.trans ?_))
     exact fix_Read.bad a0 hsz (fix_Read.bad_zero a0 (by rw[ht];exact h48) hz)
    obtain⟨rfl,rfl⟩:=Prod.mk.inj H2
    clear H2 ht he hne h45 h48 hz
    go_enter Tryz.func84,Tryz.ntmps84
    go_wp2
    go_ret2
    exact⟨rfl,Below.refl _ _⟩
  ·have c48:(bt a0 0 == 48)=false:=beq_eq_false_iff_ne.mpr h48
   have DT:=ae.mk ht
   have HZ:ae (a0.size=a0.size):=⟨rfl⟩
   have NZ:=ae.mk he
   have N0:ae (bt a0 0=48 → a0.toList = [48]):=⟨fun e=>absurd e h48⟩
   clear ht he hne h45 h48
   go_enter Tryz.func84,Tryz.ntmps84
   go_wp2
   go_loopg [32] a0.size (fun kq v32 w'=>∃ i:Nat,v32 = .int .i64 i∧i≤a0.size∧ae (kq=a0.size - i)∧ae (∀ c∈a0.data.toList.take i,48≤c.toNat∧c.toNat≤57)∧w' = w)
   case atStart=>exact⟨0,(by first|rfl|(simp;done)),Nat.zero_le _,⟨rfl⟩,⟨fun c hc=>by simp at hc⟩,rfl⟩
   case round=>
    obtain⟨i,rfl,hi,HK,HD,rfl⟩:=hrel
    by_cases hlt:i < a0.size
    ·have hx : ∀ h:i < a0.size,(((a0)[i]'h).toNat:Int)=bt a0 (i:Int):=fun h=>bt_at a0 (i:Int) h
     have c0:decide ((i:Int) < ((a0.size:Nat):Int))=true:=decide_eq_true (by omega)
     have p0:0≤(i:Int):=by omega
     have q0:(i:Int) < ((a0.size:Nat):Int):=by omega
     have q1:i < a0.size:=by have:=HZ.o;omega
     replace p0:=eq_true p0
     replace q0:=eq_true q0
     obtain⟨c,hc,hb⟩ : ∃ c,a0.data.toList[i]? = some c∧bt a0 (i:Int)=(c.toNat:Int):=fix_Read.at_ a0 i (by have:=HZ.o;omega)
     have Hc:=ae.mk hc
     clear hc
     have Hb:=ae.mk hb
     clear hb
     by_cases h1:bt a0 (i:Int) < 48
     ·have c1:decide (bt a0 (i:Int) < 48)=true:=decide_eq_true h1
      have H2:(r1,r2)=(0,1):=by
       refine(Option.some.inj (H.o.symm.trans ?_))
       refine fix_Read.bad a0 hsz ?_
       refine fix_Read.bad_digit a0 a0 DT.o Hc.o ?_
       have:=Hb.o
       omega
      obtain⟨rfl,rfl⟩:=Prod.mk.inj H2
      clear H2 h1
      go_wp2
      go_ret2
      exact⟨rfl,Below.refl _ _⟩
     ·have c1:decide (bt a0 (i:Int) < 48)=false:=decide_eq_false h1
      by_cases h2:57 < bt a0 (i:Int)
      ·have c2:decide (57 < bt a0 (i:Int))=true:=decide_eq_true h2
       have H2:(r1,r2)=(0,1):=by
        refine(Option.some.inj (H.o.symm.trans ?_))
        refine fix_Read.bad a0 hsz ?_
        refine fix_Read.bad_digit a0 a0 DT.o Hc.o ?_
        have:=Hb.o
        omega
       obtain⟨rfl,rfl⟩:=Prod.mk.inj H2
       clear H2 h1 h2
       go_wp2
       go_ret2
       exact⟨rfl,Below.refl _ _⟩
      ·have c2:decide (57 < bt a0 (i:Int))=false:=decide_eq_false h2
       have HD2:=ae.mk (fix_Read.more a0 i c HD.o Hc.o (by have:=Hb.o;omega))
       clear h1 h2
       go_wp2
       go_roundg (a0.size - (i+1))
       case measure=>have:=HK.o;omega
       case rel=>exact⟨i+1,(by first|rfl|go_num),hlt,⟨rfl⟩,HD2,rfl⟩
    ·have c0:decide ((i:Int) < ((a0.size:Nat):Int))=false:=decide_eq_false (by omega)
     have hnum:fix_Read.isNum a0=true:=fix_Read.good a0 a0 DT.o NZ.o N0.o (by
      have:=HD.o
      rwa [List.take_of_length_le (by rw[Array.length_toList];show a0.size≤i;have:=HZ.o;omega)] at this)
     have HN:=ae.mk hnum
     clear hnum
     cases hp:Lib.parseIntB 64 a0.data.toList with
     |ok v=>
      have HP:=ae.mk hp
      clear hp
      have H2:(r1,r2)=(v,0):=Option.some.inj (H.o.symm.trans (fix_Read.is_ok a0 hsz HN.o HP.o))
      obtain⟨rfl,rfl⟩:=Prod.mk.inj H2
      clear H2
      have HC:=fun (W:World)=>Any.strconv_ParseInt_10_at64_ok Tryz.laysC174 a0 (by omega) _ HP.o W
      go_wp2_with (go_at_call 98;refine(HC _).mono ?_;rintro e w1 ⟨rfl,hw1⟩;replace hw1:=ae.mk (fix_Read.ok_world hw1))
      go_ret2
      exact⟨rfl,hw1.o⟩
     |range=>
      have HP:=ae.mk hp
      clear hp
      have H2:(r1,r2)=(0,5):=Option.some.inj (H.o.symm.trans (fix_Read.is_range a0 hsz HN.o HP.o))
      obtain⟨rfl,rfl⟩:=Prod.mk.inj H2
      clear H2
      obtain⟨tp,pv,hv⟩:=hV.rng
      have HV:=ae.mk hv
      clear hv
      have HC:=Any.strconv_ParseInt_10_at64_range_var Tryz.laysC174 a0 hsz HP.o tp pv _ HV.o
      go_wp2_with (go_at_call 98;refine HC.mono ?_;rintro e w1 ⟨N,rfl,_,_,hb1⟩;replace hb1:=ae.mk hb1)
      go_ret2
      exact⟨rfl,hb1.o⟩
     |_=>
      rw[fix_Read.is_syntax a0 hsz HN.o hp] at H
      exact absurd H.o (by simp)
def scan_Number.f (a0:ByteArray) (a1:Int) (a2:Int):Option (Int × Int):=(fix_Read.f a0).bind fun bt116=>(if bt116.2=0 then (if bt116.1 < a1 then (some (0,5)) else (if bt116.1 > a2 then (some (0,5)) else (some (bt116.1,bt116.2)))) else (some (bt116.1,bt116.2)))
set_option maxHeartbeats 8000000 in
set_option maxRecDepth 100000 in
theorem scan_Number.calls (a0:ByteArray) (a1:Int) (a2:Int) (r1:Int) (r2:Int) (w:World) (hV:GInv w) (h:scan_Number.f a0 a1 a2=some (r1,r2)) :
  Calls Tryz.prog 77 #[.string a0,.int .i64 a1,.int .i64 a2] w fun e w'=>e = .returned (.tuple #[.int .i64 r1,.int .i64 r2])∧Below w.heap.size w w':=by
 have HB:=ae.mk (Below.refl w.heap.size w)
 have H:((fix_Read.f a0).bind fun bt116=>(if bt116.2=0 then (if bt116.1 < a1 then (some (0,5)) else (if bt116.1 > a2 then (some (0,5)) else (some (bt116.1,bt116.2)))) else (some (bt116.1,bt116.2))))=some (r1,r2):=h
 clear h
 replace H:=Option.bind_eq_some_iff.mp H
 obtain⟨⟨t116,t117⟩,A40,H⟩:=H
 replace H:(if t117=0 then (if t116 < a1 then (some (0,5)) else (if t116 > a2 then (some (0,5)) else (some (t116,t117)))) else (some (t116,t117)))=some (r1,r2):=H
 have A4:=ae.mk A40
 clear A40
 by_cases c5:t117=0
 ·rw[if_pos c5] at H
  have c5b0:(t117 == 0)=true:=beq_iff_eq.mpr c5
  have c5b1:(t117 != 0)=false:=bne_eq_false_iff_eq.mpr c5
  clear c5
  by_cases c6:t116 < a1
  ·rw[if_pos c6] at H
   have c6b0:decide (t116 < a1)=true:=decide_eq_true c6
   clear c6
   simp only[Option.some.injEq,Prod.mk.injEq] at H
   obtain⟨rfl,rfl⟩:=H
   go_enter Tryz.func77,Tryz.ntmps77
   go_wp2_with (first|((with_reducible refine au (f:=84) rfl ?_);refine bD (some 12) rfl rfl Tryz.func84 (by kernel_rfl) rfl #[.string a0] rfl (by (try simp only[List.map_toArray,List.map_cons,List.map_nil]);first|done|rfl|(simp only[List.length_drop,List.length_take];rfl)) ?_;(with_reducible refine(fix_Read.calls a0 t116 t117 _ ?side1 A4.o).mono ?_);(case side1=>exact GInv.below hV (by repeat(first|(with_reducible first|exact HB.o|apply af|apply aa|apply ag)|exact HB.o)));rintro e w7 ⟨rfl,hb⟩;refine⟨_,rfl,?_⟩;have n0_:=ae.mk (bC (by repeat(first|(with_reducible first|exact HB.o|apply af|apply aa|apply ag)|exact HB.o)) hb);clear HB;have HB:=n0_;clear n0_;(try clear hb);(try clear hb2);(try clear hk);(try clear hi)))
   go_ret2
   exact⟨by first|rfl|(simp[aj,ak] <;> rfl)|(simp[*,aj,ak] <;> rfl),by repeat(first|(with_reducible first|exact HB.o|apply af|apply aa|apply ag)|exact HB.o)⟩
  ·rw[if_neg c6] at H
   have c6b0:decide (t116 < a1)=false:=decide_eq_false c6
   clear c6
   by_cases c8:t116 > a2
   ·rw[if_pos c8] at H
    have c8b0:decide (a2 < t116)=true:=decide_eq_true c8
    clear c8
    simp only[Option.some.injEq,Prod.mk.injEq] at H
    obtain⟨rfl,rfl⟩:=H
    go_enter Tryz.func77,Tryz.ntmps77
    go_wp2_with (first|((with_reducible refine au (f:=84) rfl ?_);refine bD (some 12) rfl rfl Tryz.func84 (by kernel_rfl) rfl #[.string a0] rfl (by (try simp only[List.map_toArray,List.map_cons,List.map_nil]);first|done|rfl|(simp only[List.length_drop,List.length_take];rfl)) ?_;(with_reducible refine(fix_Read.calls a0 t116 t117 _ ?side1 A4.o).mono ?_);(case side1=>exact GInv.below hV (by repeat(first|(with_reducible first|exact HB.o|apply af|apply aa|apply ag)|exact HB.o)));rintro e w9 ⟨rfl,hb⟩;refine⟨_,rfl,?_⟩;have n0_:=ae.mk (bC (by repeat(first|(with_reducible first|exact HB.o|apply af|apply aa|apply ag)|exact HB.o)) hb);clear HB;have HB:=n0_;clear n0_;(try clear hb);(try clear hb2);(try clear hk);(try clear hi)))
    go_ret2
    exact⟨by first|rfl|(simp[aj,ak] <;> rfl)|(simp[*,aj,ak] <;> rfl),by repeat(first|(with_reducible first|exact HB.o|apply af|apply aa|apply ag)|exact HB.o)⟩
   ·rw[if_neg c8] at H
    have c8b0:decide (a2 < t116)=false:=decide_eq_false c8
    clear c8
    simp only[Option.some.injEq,Prod.mk.injEq] at H
    obtain⟨rfl,rfl⟩:=H
    go_enter Tryz.func77,Tryz.ntmps77
    go_wp2_with (first|((with_reducible refine au (f:=84) rfl ?_);refine bD (some 12) rfl rfl Tryz.func84 (by kernel_rfl) rfl #[.string a0] rfl (by (try simp only[List.map_toArray,List.map_cons,List.map_nil]);first|done|rfl|(simp only[List.length_drop,List.length_take];rfl)) ?_;(with_reducible refine(fix_Read.calls a0 t116 t117 _ ?side1 A4.o).mono ?_);(case side1=>exact GInv.below hV (by repeat(first|(with_reducible first|exact HB.o|apply af|apply aa|apply ag)|exact HB.o)));rintro e w10 ⟨rfl,hb⟩;refine⟨_,rfl,?_⟩;have n0_:=ae.mk (bC (by repeat(first|(with_reducible first|exact HB.o|apply af|apply aa|apply ag)|exact HB.o)) hb);clear HB;have HB:=n0_;clear n0_;(try clear hb);(try clear hb2);(try clear hk);(try clear hi)))
    go_ret2
    exact⟨by first|rfl|(simp[aj,ak] <;> rfl)|(simp[*,aj,ak] <;> rfl),by repeat(first|(with_reducible first|exact HB.o|apply af|apply aa|apply ag)|exact HB.o)⟩
 ·rw[if_neg c5] at H
  have c5b0:(t117 == 0)=false:=beq_eq_false_iff_ne.mpr c5
  have c5b1:(t117 != 0)=true:=bne_iff_ne.mpr c5
  simp only[Option.some.injEq,Prod.mk.injEq] at H
  obtain⟨rfl,rfl⟩:=H
  go_enter Tryz.func77,Tryz.ntmps77
  go_wp2_with (first|((with_reducible refine au (f:=84) rfl ?_);refine bD (some 12) rfl rfl Tryz.func84 (by kernel_rfl) rfl #[.string a0] rfl (by (try simp only[List.map_toArray,List.map_cons,List.map_nil]);first|done|rfl|(simp only[List.length_drop,List.length_take];rfl)) ?_;(with_reducible refine(fix_Read.calls a0 t116 t117 _ ?side1 A4.o).mono ?_);(case side1=>exact GInv.below hV (by repeat(first|(with_reducible first|exact HB.o|apply af|apply aa|apply ag)|exact HB.o)));rintro e w11 ⟨rfl,hb⟩;refine⟨_,rfl,?_⟩;have n0_:=ae.mk (bC (by repeat(first|(with_reducible first|exact HB.o|apply af|apply aa|apply ag)|exact HB.o)) hb);clear HB;have HB:=n0_;clear n0_;(try clear hb);(try clear hb2);(try clear hk);(try clear hi)))
  go_ret2
  exact⟨by first|rfl|(simp[aj,ak] <;> rfl)|(simp[*,aj,ak] <;> rfl),by repeat(first|(with_reducible first|exact HB.o|apply af|apply aa|apply ag)|exact HB.o)⟩
def strings_Trim.f (a0:ByteArray) (a1:ByteArray):Option ByteArray:=if a0.size≤9223372036854775807∧a1.size < 4294967281∧a1.data.toList.all (fun b=>decide (b.toNat < 128))=true then some ⟨(Lib.trimS a0.data.toList a1.data.toList).toArray⟩ else none
set_option maxRecDepth 100000 in
theorem strings_Trim.calls (a0:ByteArray) (a1:ByteArray) (r:ByteArray) (w:World) (h:strings_Trim.f a0 a1=some r) :
  Calls Tryz.prog 83 #[.string a0,.string a1] w fun e w'=>e = .returned (.string r)∧Below w.heap.size w w':=by
 unfold strings_Trim.f at h
 by_cases hc:a0.size≤9223372036854775807∧a1.size < 4294967281∧a1.data.toList.all (fun b=>decide (b.toNat < 128))=true
 ·rw[if_pos hc] at h
  obtain rfl:=Option.some.inj h
  exact Any.strings_Trim_laid Tryz.lays160 (by kernel_rfl) a0 a1 w hc.1 hc.2.1 (ascii_of_all hc.2.2)
 ·rw[if_neg hc] at h
  cases h
def scan_Marks.f (a0:ByteArray):Option (Bool):=(strings_Trim.f a0 (⟨#[97,98,99,100,101,102,103,104,105,106,107,108,109,110,111,112,113,114,115,116,117,118,119,120,121,122,48,49,50,51,52,53,54,55,56,57,95,45]⟩ : ByteArray)).bind fun t118=>(some (t118.toList == ([] : List UInt8)))
set_option maxHeartbeats 8000000 in
set_option maxRecDepth 100000 in
theorem scan_Marks.calls (a0:ByteArray) (r:Bool) (w:World) (h:scan_Marks.f a0=some r) :
  Calls Tryz.prog 75 #[.string a0] w fun e w'=>e = .returned (.bool r)∧Below w.heap.size w w':=by
 have HB:=ae.mk (Below.refl w.heap.size w)
 have H:((strings_Trim.f a0 (⟨#[97,98,99,100,101,102,103,104,105,106,107,108,109,110,111,112,113,114,115,116,117,118,119,120,121,122,48,49,50,51,52,53,54,55,56,57,95,45]⟩ : ByteArray)).bind fun t118=>(some (t118.toList == ([] : List UInt8))))=some r:=h
 clear h
 replace H:=Option.bind_eq_some_iff.mp H
 obtain⟨t118,A20,H⟩:=H
 replace H:(some (t118.toList == ([] : List UInt8)))=some r:=H
 have A2:=ae.mk A20
 clear A20
 obtain rfl:=Option.some.inj H
 go_enter Tryz.func75,Tryz.ntmps75
 go_wp2_with (first|((with_reducible refine au (f:=83) rfl ?_);refine bD (some 4) rfl rfl Tryz.func83 (by kernel_rfl) rfl #[.string a0,.string (⟨#[97,98,99,100,101,102,103,104,105,106,107,108,109,110,111,112,113,114,115,116,117,118,119,120,121,122,48,49,50,51,52,53,54,55,56,57,95,45]⟩ : ByteArray)] rfl (by (try simp only[List.map_toArray,List.map_cons,List.map_nil]);first|done|rfl|(simp only[List.length_drop,List.length_take];rfl)) ?_;(with_reducible refine(strings_Trim.calls a0 (⟨#[97,98,99,100,101,102,103,104,105,106,107,108,109,110,111,112,113,114,115,116,117,118,119,120,121,122,48,49,50,51,52,53,54,55,56,57,95,45]⟩ : ByteArray) t118 _ A2.o).mono ?_);rintro e w3 ⟨rfl,hb⟩;refine⟨_,rfl,?_⟩;have n0_:=ae.mk (bC (by repeat(first|(with_reducible first|exact HB.o|apply af|apply aa|apply ag)|exact HB.o)) hb);clear HB;have HB:=n0_;clear n0_;(try clear hb);(try clear hb2);(try clear hk);(try clear hi)))
 go_ret
 exact⟨by first|rfl|(simp[aj,ak] <;> rfl)|(simp[*,aj,ak] <;> rfl),by repeat(first|(with_reducible first|exact HB.o|apply af|apply aa|apply ag)|exact HB.o)⟩
def scan_Name.f (a0:ByteArray):Option (Bool):=if a0.toList=([] : List UInt8) then (some false) else (if (a0.size:Int)≤24 then (if 0 < (a0.size:Int) then (if (bt a0 0)≥97 then (if (bt a0 0)≤122 then ((scan_Marks.f a0).bind fun t119=>(some t119)) else (some false)) else (some false)) else (none)) else (some false))
set_option maxHeartbeats 8000000 in
set_option maxRecDepth 100000 in
theorem scan_Name.calls (a0:ByteArray) (r:Bool) (w:World) (h:scan_Name.f a0=some r) :
  Calls Tryz.prog 57 #[.string a0] w fun e w'=>e = .returned (.bool r)∧Below w.heap.size w w':=by
 have HB:=ae.mk (Below.refl w.heap.size w)
 have H:(if a0.toList=([] : List UInt8) then (some false) else (if (a0.size:Int)≤24 then (if 0 < (a0.size:Int) then (if (bt a0 0)≥97 then (if (bt a0 0)≤122 then ((scan_Marks.f a0).bind fun t119=>(some t119)) else (some false)) else (some false)) else (none)) else (some false)))=some r:=h
 clear h
 by_cases c2:a0.toList=([] : List UInt8)
 ·rw[if_pos c2] at H
  have c2b0:(a0.toList == ([] : List UInt8))=true:=beq_iff_eq.mpr c2
  have c2b1:(a0.toList != ([] : List UInt8))=false:=bne_eq_false_iff_eq.mpr c2
  clear c2
  obtain rfl:=Option.some.inj H
  go_enter Tryz.func57,Tryz.ntmps57
  go_wp2
  go_ret
  exact⟨by first|rfl|(simp[aj,ak] <;> rfl)|(simp[*,aj,ak] <;> rfl),by repeat(first|(with_reducible first|exact HB.o|apply af|apply aa|apply ag)|exact HB.o)⟩
 ·rw[if_neg c2] at H
  have c2b0:(a0.toList == ([] : List UInt8))=false:=beq_eq_false_iff_ne.mpr c2
  have c2b1:(a0.toList != ([] : List UInt8))=true:=bne_iff_ne.mpr c2
  by_cases c3:(a0.size:Int)≤24
  ·rw[if_pos c3] at H
   have c3b0:decide ((a0.size:Int)≤24)=true:=decide_eq_true c3
   have c3b1:decide (a0.size≤24)=true:=decide_eq_true (by omega)
   clear c3
   by_cases c4:0 < (a0.size:Int)
   ·rw[if_pos c4] at H
    have c4b0:decide (0 < (a0.size:Int))=true:=decide_eq_true c4
    have c4b1:decide (0 < a0.size)=true:=decide_eq_true (by omega)
    clear c4
    by_cases c6:(bt a0 0)≥97
    ·rw[if_pos c6] at H
     have c6b0:decide (97≤(bt a0 0))=true:=decide_eq_true c6
     clear c6
     by_cases c8:(bt a0 0)≤122
     ·rw[if_pos c8] at H
      have c8b0:decide ((bt a0 0)≤122)=true:=decide_eq_true c8
      clear c8
      replace H:=Option.bind_eq_some_iff.mp H
      obtain⟨t119,A90,H⟩:=H
      replace H:(some t119)=some r:=H
      have A9:=ae.mk A90
      clear A90
      obtain rfl:=Option.some.inj H
      have p5:0≤(0:Int):=(by omega)
      have q5:0 < a0.size:=(by have:(0:Int) < (a0.size:Int):=of_decide_eq_true (by first|(with_reducible assumption)|assumption);omega)
      have hx5 : ∀ h:0 < a0.size,((a0[0]'h).toNat:Int)=bt a0 0:=bt_at a0 0
      clear p5
      have qi5:(0 < (a0.size:Int))=True:=eq_true (of_decide_eq_true (by first|(with_reducible assumption)|assumption))
      replace q5:=eq_true q5
      have p7:0≤(0:Int):=(by omega)
      have q7:0 < a0.size:=(by have:(0:Int) < (a0.size:Int):=of_decide_eq_true (by first|(with_reducible assumption)|assumption);omega)
      have hx7 : ∀ h:0 < a0.size,((a0[0]'h).toNat:Int)=bt a0 0:=bt_at a0 0
      clear p7
      have qi7:(0 < (a0.size:Int))=True:=eq_true (of_decide_eq_true (by first|(with_reducible assumption)|assumption))
      replace q7:=eq_true q7
      go_enter Tryz.func57,Tryz.ntmps57
      go_wp2_with (first|(go_at_call 75;(with_reducible refine(scan_Marks.calls a0 t119 _ A9.o).mono ?_);rintro e w10 ⟨rfl,hb⟩;have n0_:=ae.mk (bC (by repeat(first|(with_reducible first|exact HB.o|apply af|apply aa|apply ag)|exact HB.o)) hb);clear HB;have HB:=n0_;clear n0_;(try clear hb);(try clear hb2);(try clear hk);(try clear hi)))
      go_ret
      exact⟨by first|rfl|(simp[aj,ak] <;> rfl)|(simp[*,aj,ak] <;> rfl),by repeat(first|(with_reducible first|exact HB.o|apply af|apply aa|apply ag)|exact HB.o)⟩
     ·rw[if_neg c8] at H
      have c8b0:decide ((bt a0 0)≤122)=false:=decide_eq_false c8
      clear c8
      obtain rfl:=Option.some.inj H
      have p5:0≤(0:Int):=(by omega)
      have q5:0 < a0.size:=(by have:(0:Int) < (a0.size:Int):=of_decide_eq_true (by first|(with_reducible assumption)|assumption);omega)
      have hx5 : ∀ h:0 < a0.size,((a0[0]'h).toNat:Int)=bt a0 0:=bt_at a0 0
      clear p5
      have qi5:(0 < (a0.size:Int))=True:=eq_true (of_decide_eq_true (by first|(with_reducible assumption)|assumption))
      replace q5:=eq_true q5
      have p7:0≤(0:Int):=(by omega)
      have q7:0 < a0.size:=(by have:(0:Int) < (a0.size:Int):=of_decide_eq_true (by first|(with_reducible assumption)|assumption);omega)
      have hx7 : ∀ h:0 < a0.size,((a0[0]'h).toNat:Int)=bt a0 0:=bt_at a0 0
      clear p7
      have qi7:(0 < (a0.size:Int))=True:=eq_true (of_decide_eq_true (by first|(with_reducible assumption)|assumption))
      replace q7:=eq_true q7
      go_enter Tryz.func57,Tryz.ntmps57
      go_wp2
      go_ret
      exact⟨by first|rfl|(simp[aj,ak] <;> rfl)|(simp[*,aj,ak] <;> rfl),by repeat(first|(with_reducible first|exact HB.o|apply af|apply aa|apply ag)|exact HB.o)⟩
    ·rw[if_neg c6] at H
     have c6b0:decide (97≤(bt a0 0))=false:=decide_eq_false c6
     clear c6
     obtain rfl:=Option.some.inj H
     have p5:0≤(0:Int):=(by omega)
     have q5:0 < a0.size:=(by have:(0:Int) < (a0.size:Int):=of_decide_eq_true (by first|(with_reducible assumption)|assumption);omega)
     have hx5 : ∀ h:0 < a0.size,((a0[0]'h).toNat:Int)=bt a0 0:=bt_at a0 0
     clear p5
     have qi5:(0 < (a0.size:Int))=True:=eq_true (of_decide_eq_true (by first|(with_reducible assumption)|assumption))
     replace q5:=eq_true q5
     go_enter Tryz.func57,Tryz.ntmps57
     go_wp2
     go_ret
     exact⟨by first|rfl|(simp[aj,ak] <;> rfl)|(simp[*,aj,ak] <;> rfl),by repeat(first|(with_reducible first|exact HB.o|apply af|apply aa|apply ag)|exact HB.o)⟩
   ·rw[if_neg c4] at H
    exact absurd H (by simp)
  ·rw[if_neg c3] at H
   have c3b0:decide ((a0.size:Int)≤24)=false:=decide_eq_false c3
   have c3b1:decide (a0.size≤24)=false:=decide_eq_false (by omega)
   clear c3
   obtain rfl:=Option.some.inj H
   go_enter Tryz.func57,Tryz.ntmps57
   go_wp2
   go_ret
   exact⟨by first|rfl|(simp[aj,ak] <;> rfl)|(simp[*,aj,ak] <;> rfl),by repeat(first|(with_reducible first|exact HB.o|apply af|apply aa|apply ag)|exact HB.o)⟩
def strconv_FormatInt.f (a0:Int) (a1:Int):Option ByteArray:=if (-9223372036854775808≤a0∧a0≤9223372036854775807)∧a1=10 then some ⟨(Lib.itoa a0).toArray⟩ else none
theorem strconv_FormatInt.below (w:World) (k:Nat) (os:Array Obj):Below w.heap.size w (Go.Sort.grow (w.drewN k) os):=
 ⟨rfl,rfl,rfl,by show w.heap.size≤(w.heap ++ os).size;simp,fun j hj=>by
  show(w.heap ++ os)[j]? = w.heap[j]?
  rw[Array.getElem?_append_left hj]⟩
set_option maxRecDepth 100000 in
theorem strconv_FormatInt.calls (a0:Int) (a1:Int) (r:ByteArray) (w:World) (hV:GInv w) (h:strconv_FormatInt.f a0 a1=some r) :
  Calls Tryz.prog 63 #[.int .i64 a0,.int .i64 a1] w fun e w'=>e = .returned (.string r)∧Below w.heap.size w w':=by
 unfold strconv_FormatInt.f at h
 by_cases hc:(-9223372036854775808≤a0∧a0≤9223372036854775807)∧a1=10
 ·rw[if_pos hc] at h
  obtain rfl:=Option.some.inj h
  obtain⟨⟨h0,h1⟩,rfl⟩:=hc
  refine(Any.strconv_FormatInt_10 Tryz.laysM173 a0 h0 h1 w hV.pow).mono ?_
  rintro e w' ⟨rfl,k,os,rfl⟩
  exact⟨rfl,strconv_FormatInt.below w k os⟩
 ·rw[if_neg hc] at h
  cases h
def fix_Text.f (a0:Int):Option (ByteArray):=(strconv_FormatInt.f a0 10).bind fun t120=>(some t120)
set_option maxHeartbeats 8000000 in
set_option maxRecDepth 100000 in
theorem fix_Text.calls (a0:Int) (r:ByteArray) (w:World) (hV:GInv w) (h:fix_Text.f a0=some r) :
  Calls Tryz.prog 33 #[.int .i64 a0] w fun e w'=>e = .returned (.string r)∧Below w.heap.size w w':=by
 have HB:=ae.mk (Below.refl w.heap.size w)
 have H:((strconv_FormatInt.f a0 10).bind fun t120=>(some t120))=some r:=h
 clear h
 replace H:=Option.bind_eq_some_iff.mp H
 obtain⟨t120,A20,H⟩:=H
 replace H:(some t120)=some r:=H
 have A2:=ae.mk A20
 clear A20
 obtain rfl:=Option.some.inj H
 go_enter Tryz.func33,Tryz.ntmps33
 go_wp2_with (first|((with_reducible refine au (f:=63) rfl ?_);refine bD (some 4) rfl rfl Tryz.func63 (by kernel_rfl) rfl #[.int .i64 a0,.int .i64 10] rfl (by (try simp only[List.map_toArray,List.map_cons,List.map_nil]);first|done|rfl|(simp only[List.length_drop,List.length_take];rfl)) ?_;(with_reducible refine(strconv_FormatInt.calls a0 10 t120 _ ?side1 A2.o).mono ?_);(case side1=>exact GInv.below hV (by repeat(first|(with_reducible first|exact HB.o|apply af|apply aa|apply ag)|exact HB.o)));rintro e w3 ⟨rfl,hb⟩;refine⟨_,rfl,?_⟩;have n0_:=ae.mk (bC (by repeat(first|(with_reducible first|exact HB.o|apply af|apply aa|apply ag)|exact HB.o)) hb);clear HB;have HB:=n0_;clear n0_;(try clear hb);(try clear hb2);(try clear hk);(try clear hi)))
 go_ret
 exact⟨by first|rfl|(simp[aj,ak] <;> rfl)|(simp[*,aj,ak] <;> rfl),by repeat(first|(with_reducible first|exact HB.o|apply af|apply aa|apply ag)|exact HB.o)⟩
def strings_LastIndexByte.f (a0:ByteArray) (a1:Int):Option Int:=if a0.size < 4611686018427387904 then some (Lib.lastIndexByte a0 a1) else none
set_option maxRecDepth 100000 in
theorem strings_LastIndexByte.calls (a0:ByteArray) (a1:Int) (r:Int) (w:World) (h:strings_LastIndexByte.f a0 a1=some r) :
  Calls Tryz.prog 54 #[.string a0,.int .u8 a1] w fun e w'=>e = .returned (.int .i64 r)∧ah w w':=by
 unfold strings_LastIndexByte.f at h
 by_cases hc:a0.size < 4611686018427387904
 ·rw[if_pos hc] at h
  obtain rfl:=Option.some.inj h
  refine(Any.strings_LastIndexByte Tryz.lays149 a0 a1 hc w).mono ?_
  rintro e w' ⟨rfl,rfl⟩
  exact⟨rfl,ah.refl _⟩
 ·rw[if_neg hc] at h
  cases h
def pylonref06_wrong.f (a0:ByteArray) (a1:Int):Option (Bool):=if 0≤a1 then (if a1 < (a0.size:Int) then (if (bt a0 a1)=32 then (if a1=0 then (some true) else (if a1=(wrap64 ((a0.size:Int) - 1)) then (some true) else (if 0≤(wrap64 (a1 - 1)) then (if (wrap64 (a1 - 1)) < (a0.size:Int) then (some ((bt a0 (wrap64 (a1 - 1))) == 32)) else (none)) else (none)))) else (if (bt a0 a1) < 33 then (some true) else (some (decide ((bt a0 a1) > 126))))) else (none)) else (none)
set_option maxHeartbeats 8000000 in
set_option maxRecDepth 100000 in
theorem pylonref06_wrong.calls (a0:ByteArray) (a1:Int) (r:Bool) (w:World) (h:pylonref06_wrong.f a0 a1=some r) :
  Calls Tryz.prog 48 #[.string a0,.int .i64 a1] w fun e w'=>e = .returned (.bool r)∧ah w w':=by
 have H:(if 0≤a1 then (if a1 < (a0.size:Int) then (if (bt a0 a1)=32 then (if a1=0 then (some true) else (if a1=(wrap64 ((a0.size:Int) - 1)) then (some true) else (if 0≤(wrap64 (a1 - 1)) then (if (wrap64 (a1 - 1)) < (a0.size:Int) then (some ((bt a0 (wrap64 (a1 - 1))) == 32)) else (none)) else (none)))) else (if (bt a0 a1) < 33 then (some true) else (some (decide ((bt a0 a1) > 126))))) else (none)) else (none))=some r:=h
 clear h
 by_cases c3:0≤a1
 ·rw[if_pos c3] at H
  have c3b0:decide (0≤a1)=true:=decide_eq_true c3
  clear c3
  by_cases c4:a1 < (a0.size:Int)
  ·rw[if_pos c4] at H
   have c4b0:decide (a1 < (a0.size:Int))=true:=decide_eq_true c4
   clear c4
   by_cases c6:(bt a0 a1)=32
   ·rw[if_pos c6] at H
    have c6b0:((bt a0 a1) == 32)=true:=beq_iff_eq.mpr c6
    have c6b1:((bt a0 a1) != 32)=false:=bne_eq_false_iff_eq.mpr c6
    clear c6
    by_cases c7:a1=0
    ·rw[if_pos c7] at H
     have c7b0:(a1 == 0)=true:=beq_iff_eq.mpr c7
     have c7b1:(a1 != 0)=false:=bne_eq_false_iff_eq.mpr c7
     clear c7
     obtain rfl:=Option.some.inj H
     have p5:0≤(a1:Int):=of_decide_eq_true (by first|(with_reducible assumption)|assumption)
     have q5:a1 < (a0.size:Int):=of_decide_eq_true (by first|(with_reducible assumption)|assumption)
     have hx5:=bt_at a0 a1
     replace p5:=eq_true p5
     replace q5:=eq_true q5
     go_enter Tryz.func48,Tryz.ntmps48
     go_wp2
     go_ret
     exact⟨by first|rfl|(simp;done)|(simp[*];done),by repeat(first|exact ah.refl _|apply ah.step)⟩
    ·rw[if_neg c7] at H
     have c7b0:(a1 == 0)=false:=beq_eq_false_iff_ne.mpr c7
     have c7b1:(a1 != 0)=true:=bne_iff_ne.mpr c7
     by_cases c8:a1=(wrap64 ((a0.size:Int) - 1))
     ·rw[if_pos c8] at H
      have c8b0:(a1 == (wrap64 ((a0.size:Int) - 1)))=true:=beq_iff_eq.mpr c8
      have c8b1:(a1 != (wrap64 ((a0.size:Int) - 1)))=false:=bne_eq_false_iff_eq.mpr c8
      clear c8
      obtain rfl:=Option.some.inj H
      have p5:0≤(a1:Int):=of_decide_eq_true (by first|(with_reducible assumption)|assumption)
      have q5:a1 < (a0.size:Int):=of_decide_eq_true (by first|(with_reducible assumption)|assumption)
      have hx5:=bt_at a0 a1
      replace p5:=eq_true p5
      replace q5:=eq_true q5
      go_enter Tryz.func48,Tryz.ntmps48
      go_wp2
      go_ret
      exact⟨by first|rfl|(simp;done)|(simp[*];done),by repeat(first|exact ah.refl _|apply ah.step)⟩
     ·rw[if_neg c8] at H
      have c8b0:(a1 == (wrap64 ((a0.size:Int) - 1)))=false:=beq_eq_false_iff_ne.mpr c8
      have c8b1:(a1 != (wrap64 ((a0.size:Int) - 1)))=true:=bne_iff_ne.mpr c8
      obtain⟨ji9,hji9⟩ : ∃ j_:Int,(wrap64 (a1 - 1))=j_:=⟨_,rfl⟩
      replace H:(if 0≤(ji9) then (if (ji9) < (a0.size:Int) then (some ((bt a0 (ji9)) == 32)) else (none)) else (none))=some r:=by first|(rw[hji9] at H;exact H)|(simp only[hji9] at H ⊢;exact H)
      have hji9w:(IntKind.i64.wrap (a1 - 1))=ji9:=(i64_w _).trans hji9
      by_cases c10:0≤(ji9)
      ·rw[if_pos c10] at H
       have c10b0:decide (0≤(ji9))=true:=decide_eq_true c10
       clear c10
       by_cases c11:(ji9) < (a0.size:Int)
       ·rw[if_pos c11] at H
        have c11b0:decide ((ji9) < (a0.size:Int))=true:=decide_eq_true c11
        clear c11
        obtain rfl:=Option.some.inj H
        have p5:0≤(a1:Int):=of_decide_eq_true (by first|(with_reducible assumption)|assumption)
        have q5:a1 < (a0.size:Int):=of_decide_eq_true (by first|(with_reducible assumption)|assumption)
        have hx5:=bt_at a0 a1
        replace p5:=eq_true p5
        replace q5:=eq_true q5
        have p12:0≤((ji9):Int):=of_decide_eq_true (by first|(with_reducible assumption)|assumption)
        have q12:(ji9) < (a0.size:Int):=of_decide_eq_true (by first|(with_reducible assumption)|assumption)
        have hx12:=bt_at a0 (ji9)
        replace p12:=eq_true p12
        replace q12:=eq_true q12
        go_enter Tryz.func48,Tryz.ntmps48
        go_wp2
        go_ret
        exact⟨by first|rfl|(simp;done)|(simp only[← hji9] <;> (first|rfl|simp))|(simp[*];done),by repeat(first|exact ah.refl _|apply ah.step)⟩
       ·rw[if_neg c11] at H
        exact absurd H (by simp)
      ·rw[if_neg c10] at H
       exact absurd H (by simp)
   ·rw[if_neg c6] at H
    have c6b0:((bt a0 a1) == 32)=false:=beq_eq_false_iff_ne.mpr c6
    have c6b1:((bt a0 a1) != 32)=true:=bne_iff_ne.mpr c6
    by_cases c13:(bt a0 a1) < 33
    ·rw[if_pos c13] at H
     have c13b0:decide ((bt a0 a1) < 33)=true:=decide_eq_true c13
     clear c13
     obtain rfl:=Option.some.inj H
     have p5:0≤(a1:Int):=of_decide_eq_true (by first|(with_reducible assumption)|assumption)
     have q5:a1 < (a0.size:Int):=of_decide_eq_true (by first|(with_reducible assumption)|assumption)
     have hx5:=bt_at a0 a1
     replace p5:=eq_true p5
     replace q5:=eq_true q5
     go_enter Tryz.func48,Tryz.ntmps48
     go_wp2
     go_ret
     exact⟨by first|rfl|(simp;done)|(simp[*];done),by repeat(first|exact ah.refl _|apply ah.step)⟩
    ·rw[if_neg c13] at H
     have c13b0:decide ((bt a0 a1) < 33)=false:=decide_eq_false c13
     clear c13
     obtain rfl:=Option.some.inj H
     have p5:0≤(a1:Int):=of_decide_eq_true (by first|(with_reducible assumption)|assumption)
     have q5:a1 < (a0.size:Int):=of_decide_eq_true (by first|(with_reducible assumption)|assumption)
     have hx5:=bt_at a0 a1
     replace p5:=eq_true p5
     replace q5:=eq_true q5
     go_enter Tryz.func48,Tryz.ntmps48
     go_wp2
     go_ret
     exact⟨by first|rfl|(simp;done)|(simp[*];done),by repeat(first|exact ah.refl _|apply ah.step)⟩
  ·rw[if_neg c4] at H
   exact absurd H (by simp)
 ·rw[if_neg c3] at H
  exact absurd H (by simp)
end Go.Proofs.YtjokedpaidmjoaaGreatDoor.Pa
