/- A part of the proof. -/
import Derived.Test.YtcmhfcciapenfaaDoorQ22
import Derived.Test.YtcmhfcciapenfaaDoorQ23
import Derived.Test.YtcmhfcciapenfaaDoorQ16
import Derived.Test.YtcmhfcciapenfaaDoorQ26
import Derived.Test.YtcmhfcciapenfaaDoorQ27
namespace Go.Proofs.YtcmhfcciapenfaaDoor.Pu
open Go.RowKit Go.Proofs.YtcmhfcciapenfaaDoorW.PrintWords Go.Proofs.YtcmhfcciapenfaaDoor.Pa
theorem by12 {p:Int → Prop} (h : ∀ n:Fin 12,p (((n.val+1:Nat)):Int)) {m:Int} (h1:1≤m) (h2:m≤12):p m:=by
 have:=h ⟨(m - 1).toNat,by omega⟩
 have e:(((m - 1).toNat+1:Nat):Int)=m:=by omega
 rwa [e] at this
theorem length_good {m:Int} (h1:1≤m) (h2:m≤12):civil_Length.f 2000 m=some (dlen m,0):=
 by12 (p:=fun m=>civil_Length.f 2000 m=some (dlen m,0)) (by decide +kernel) h1 h2
theorem weekday_good {m:Int} (h1:1≤m) (h2:m≤12) : ∃ x,civil_Weekday.f 2000 m 1=some (x,0):=by
 have : ∀ n:Fin 12,(match civil_Weekday.f 2000 ((n.val+1:Nat):Int) 1 with|some (_,0)=>true|_=>false)=true:=by decide +kernel
 have h:=by12 (p:=fun m=>(match civil_Weekday.f 2000 m 1 with|some (_,0)=>true|_=>false)=true) this h1 h2
 split at h
 ·rename_i x e;exact⟨x,e⟩
 ·cases h
def nthOk (m w d:Int):Bool:=decide (1≤m∧m≤12∧1≤w∧w≤5∧0≤d∧d≤6)
theorem nth_ev (m w d:Int) : ∃ r,Ev (fun k=>civil_Nth.f k 2000 m w d) r∧(r.2.2.2=0↔nthOk m w d=true):=by
 unfold nthOk
 simp only[decide_eq_true_eq]
 have key : ∃ r,civil_Nth.f 1 2000 m w d=some r∧(r.2.2.2=0↔1≤m∧m≤12∧1≤w∧w≤5∧0≤d∧d≤6):=by
  unfold civil_Nth.f
  by_cases hm:1≤m∧m≤12
  ·obtain⟨x,hx⟩:=weekday_good hm.1 hm.2
   rw[length_good hm.1 hm.2]
   simp only[Option.bind_some,if_true]
   by_cases c1:w < 1
   ·rw[if_pos c1];exact⟨_,rfl,by simp;omega⟩
   ·rw[if_neg c1]
    by_cases c2:w > 5
    ·rw[if_pos c2];exact⟨_,rfl,by simp;omega⟩
    ·rw[if_neg c2]
     by_cases c3:d < 0
     ·rw[if_pos c3];exact⟨_,rfl,by simp;omega⟩
     ·rw[if_neg c3]
      by_cases c4:d > 6
      ·rw[decide_eq_true c4];exact⟨_,rfl,by simp;omega⟩
      ·rw[decide_eq_false c4]
       simp only[civil_Nth.j0,Bool.false_eq_true,if_false]
       rw[hx]
       simp only[Option.bind_some]
       split
       ·exact⟨_,rfl,by simp;omega⟩
       ·exact⟨_,rfl,by simp;omega⟩
  ·rw[eH (by omega)]
   simp only[Option.bind_some]
   rw[if_neg (by decide)]
   exact⟨_,rfl,by simp;omega⟩
 obtain⟨r,h1,h2⟩:=key
 exact⟨r,Ev.of (fun k=>civil_Nth.mono _ _ _ _ _) h1,h2⟩
def eT (m w d n:Int):Bool:=nthOk m w d && decide (60≤n) && decide (n≤1380)
theorem good_ev (m w d n:Int):Ev (fun k=>zone_good.f k m w d n) (eT m w d n):=by
 obtain⟨r,⟨K,hK⟩,hr⟩:=nth_ev m w d
 refine⟨K,fun k hk=>?_⟩
 have h:=hK k hk
 dsimp only at h ⊢
 unfold zone_good.f eT
 rw[h]
 simp only[Option.bind_some]
 by_cases c:r.2.2.2=0
 ·rw[if_pos c,hr.1 c]
  by_cases c2:n≥60
  ·rw[if_pos c2,decide_eq_true c2];simp
  ·rw[if_neg c2,decide_eq_false (by omega)];simp
 ·rw[if_neg c]
  have:nthOk m w d=false:=by
   cases e:nthOk m w d with
   |false=>rfl
   |true=>exact absurd (hr.2 e) c
  rw[this];simp
def zoneOk (o s m1 w1 d1 n1 m2 w2 d2 n2:Int):Bool:=decide (-720≤o) && decide (o≤840) && decide (Int.tmod o 15=0) && (decide (s=0) || ((decide (s=30) || decide (s=60)) && eT m1 w1 d1 n1 && eT m2 w2 d2 n2 && decide (m1≠m2)))
theorem zone_ev (o s m1 w1 d1 n1 m2 w2 d2 n2:Int):Ev (fun k=>zone_Check.f k o s m1 w1 d1 n1 m2 w2 d2 n2) (if zoneOk o s m1 w1 d1 n1 m2 w2 d2 n2=true then 0 else 8):=by
 obtain⟨K1,h1⟩:=good_ev m1 w1 d1 n1
 obtain⟨K2,h2⟩:=good_ev m2 w2 d2 n2
 refine⟨K1+K2+2,fun k hk=>?_⟩
 obtain⟨k,rfl⟩ : ∃ j,k=j+2:=⟨k - 2,by omega⟩
 have h1:=h1 k (by omega)
 have h2:=h2 k (by omega)
 dsimp only at h1 h2 ⊢
 unfold zone_Check.f zoneOk
 by_cases c1:o < -720
 ·rw[if_pos c1,decide_eq_false (by omega)];rfl
 rw[if_neg c1,decide_eq_true (show -720≤o by omega)]
 by_cases c2:o > 840
 ·rw[if_pos c2,decide_eq_false (by omega)];rfl
 rw[if_neg c2,decide_eq_true (show o≤840 by omega)]
 by_cases c3:Int.tmod o 15=0
 ·have e:(Int.tmod o 15 != 0)=false:=by simp[c3]
  rw[e,decide_eq_true c3]
  simp only[zone_Check.j0,Bool.false_eq_true,if_false,Bool.true_and]
  by_cases c4:s=0
  ·rw[if_pos c4,decide_eq_true c4];rfl
  ·rw[if_neg c4,decide_eq_false c4,Bool.false_or]
   by_cases c5:s=30
   ·rw[if_pos c5,decide_eq_true c5]
    simp only[zone_Check.j1,Bool.false_eq_true,if_false,Bool.true_or,Bool.true_and,h1,h2,Option.bind_some]
    cases eT m1 w1 d1 n1 <;> cases eT m2 w2 d2 n2 <;> simp
    by_cases c6:m1=m2 <;> simp[c6]
   ·rw[if_neg c5,decide_eq_false c5]
    by_cases c7:s=60
    ·have e2:(s != 60)=false:=by simp[c7]
     rw[e2,decide_eq_true c7]
     simp only[zone_Check.j1,Bool.false_eq_true,if_false,Bool.false_or,Bool.true_and,h1,h2,Option.bind_some]
     cases eT m1 w1 d1 n1 <;> cases eT m2 w2 d2 n2 <;> simp
     by_cases c6:m1=m2 <;> simp[c6]
    ·have e2:(s != 60)=true:=by simp[c7]
     rw[e2,decide_eq_false c7]
     simp[zone_Check.j1]
 ·have e:(Int.tmod o 15 != 0)=true:=by simp[c3]
  rw[e,decide_eq_false c3]
  simp[zone_Check.j0]
def holOk (k a b c:Int):Bool:=if k=1 then decide (1≤a∧a≤12∧1≤b∧b≤dlen a∧c=0) else if k=2 then nthOk a b c else if k=3 then decide (-100≤a∧a≤100∧b=0∧c=0) else false
theorem hol_ev (x a b c:Int):Ev (fun k=>holiday_Check.f k x a b c) (if holOk x a b c=true then 0 else 8):=by
 obtain⟨r,⟨K,hK⟩,hr⟩:=nth_ev a b c
 refine⟨K,fun k hk=>?_⟩
 have h:=hK k hk
 dsimp only at h ⊢
 unfold holiday_Check.f holOk
 by_cases c1:x=1
 ·rw[if_pos c1,if_pos c1]
  by_cases hm:1≤a∧a≤12
  ·rw[length_good hm.1 hm.2]
   simp only[Option.bind_some,if_true]
   by_cases d1:b≥1
   ·rw[if_pos d1]
    by_cases d2:b≤dlen a
    ·rw[if_pos d2]
     by_cases d3:c=0
     ·rw[if_pos d3,decide_eq_true ⟨hm.1,hm.2,d1,d2,d3⟩];rfl
     ·rw[if_neg d3,decide_eq_false (fun z=>d3 z.2.2.2.2)];rfl
    ·rw[if_neg d2,decide_eq_false (fun z=>d2 z.2.2.2.1)];rfl
   ·rw[if_neg d1,decide_eq_false (fun z=>d1 z.2.2.1)];rfl
  ·rw[eH (by omega)]
   simp only[Option.bind_some]
   rw[if_neg (by decide),decide_eq_false (fun z=>hm ⟨z.1,z.2.1⟩)];rfl
 ·rw[if_neg c1,if_neg c1]
  by_cases c2:x=2
  ·rw[if_pos c2,if_pos c2,h]
   simp only[Option.bind_some]
   by_cases e:r.2.2.2=0
   ·rw[if_pos e,if_pos (hr.1 e)]
   ·rw[if_neg e,if_neg (fun z=>e (hr.2 z))]
  ·rw[if_neg c2,if_neg c2]
   by_cases c3:x=3
   ·rw[if_pos c3,if_pos c3]
    repeat' split
    all_goals simp only[decide_eq_true_eq] at *
    all_goals first|rfl|omega
   ·rw[if_neg c3,if_neg c3];rfl
end Go.Proofs.YtcmhfcciapenfaaDoor.Pu
