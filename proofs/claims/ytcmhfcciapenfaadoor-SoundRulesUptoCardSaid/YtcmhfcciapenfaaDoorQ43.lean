/- A part of the proof. -/
import Derived.Test.YtcmhfcciapenfaaDoorQ42
set_option linter.all false
namespace Go.Proofs.YtcmhfcciapenfaaDoor.Pu
open Go.RowKit Go.Proofs.YtcmhfcciapenfaaDoorW.PrintWords Go.Proofs.YtcmhfcciapenfaaDoor.Pa
theorem by12 {p:Int → Prop} (h : ∀ n:Fin 12,p (((n.val+1:Nat)):Int)) {m:Int} (h1:1≤m) (h2:m≤12):p m:=by
 have:=h ⟨(m - 1).toNat,by omega⟩
 have e:(((m - 1).toNat+1:Nat):Int)=m:=by omega
 rwa [e] at this
theorem length_good {m:Int} (h1:1≤m) (h2:m≤12):civil_Length.f 2000 m=some (dlen m,0):=
 by12 (p:=fun m=>civil_Length.f 2000 m=some (dlen m,0)) (by decide +kernel) h1 h2
theorem rlength_good {m:Int} (h1:1≤m) (h2:m≤12):Ev (fun k=>pylonref03_Length.f k 2000 m) (dlen m,0):=
 Ev.of (k:=4) (fun k=>pylonref03_Length.mono _ _ _) (by12 (p:=fun m=>pylonref03_Length.f 4 2000 m=some (dlen m,0)) (by decide +kernel) h1 h2)
theorem rlength_bad {m:Int} (h:m < 1∨12 < m):Ev (fun k=>pylonref03_Length.f k 2000 m) (0,5):=by
 refine Ev.of (k:=4) (fun k=>pylonref03_Length.mono _ _ _) ?_
 unfold pylonref03_Length.f
 rw[if_neg (by decide),if_neg (by decide)]
 by_cases h1:m < 1
 ·rw[if_pos h1];rfl
 ·rw[if_neg h1,decide_eq_true (by omega)];rfl
theorem weekday_good {m:Int} (h1:1≤m) (h2:m≤12) : ∃ x,civil_Weekday.f 2000 m 1=some (x,0):=by
 have : ∀ n:Fin 12,(match civil_Weekday.f 2000 ((n.val+1:Nat):Int) 1 with|some (_,0)=>true|_=>false)=true:=by decide +kernel
 have h:=by12 (p:=fun m=>(match civil_Weekday.f 2000 m 1 with|some (_,0)=>true|_=>false)=true) this h1 h2
 split at h
 ·rename_i x e;exact⟨x,e⟩
 ·cases h
def nthOk (m w d:Int):Bool:=decide (1≤m∧m≤12∧1≤w∧w≤5∧0≤d∧d≤6)
theorem nth_ev (m w d:Int) : ∃ r,Ev (fun k=>civil_Nth.f k 2000 m w d) r∧(r.2.2.2=0↔nthOk m w d=true):=by
 unfold nthOk
 simp only[decide_eq_true_eq]
 have key : ∃ r,civil_Nth.f 1 2000 m w d=some r∧(r.2.2.2=0↔1≤m∧m≤12∧1≤w∧w≤5∧0≤d∧d≤6):=by
  unfold civil_Nth.f
  by_cases hm:1≤m∧m≤12
  ·obtain⟨x,hx⟩:=weekday_good hm.1 hm.2
   rw[length_good hm.1 hm.2]
   simp only[Option.bind_some,if_true]
   by_cases c1:w < 1
   ·rw[if_pos c1];exact⟨_,rfl,by simp;omega⟩
   ·rw[if_neg c1]
    by_cases c2:w > 5
    ·rw[if_pos c2];exact⟨_,rfl,by simp;omega⟩
    ·rw[if_neg c2]
     by_cases c3:d < 0
     ·rw[if_pos c3];exact⟨_,rfl,by simp;omega⟩
     ·rw[if_neg c3]
      by_cases c4:d > 6
      ·rw[decide_eq_true c4];exact⟨_,rfl,by simp;omega⟩
      ·rw[decide_eq_false c4]
       simp only[civil_Nth.j0,Bool.false_eq_true,if_false]
       rw[hx]
       simp only[Option.bind_some]
       split
       ·exact⟨_,rfl,by simp;omega⟩
       ·exact⟨_,rfl,by simp;omega⟩
  ·rw[fH (by omega)]
   simp only[Option.bind_some]
   rw[if_neg (by decide)]
   exact⟨_,rfl,by simp;omega⟩
 obtain⟨r,h1,h2⟩:=key
 exact⟨r,Ev.of (fun k=>civil_Nth.mono _ _ _ _ _) h1,h2⟩
def dN (m w d n:Int):Bool:=nthOk m w d && decide (60≤n) && decide (n≤1380)
theorem good_ev (m w d n:Int):Ev (fun k=>zone_good.f k m w d n) (dN m w d n):=by
 obtain⟨r,⟨K,hK⟩,hr⟩:=nth_ev m w d
 refine⟨K,fun k hk=>?_⟩
 have h:=hK k hk
 dsimp only at h ⊢
 unfold zone_good.f dN
 rw[h]
 simp only[Option.bind_some]
 by_cases c:r.2.2.2=0
 ·rw[if_pos c,hr.1 c]
  by_cases c2:n≥60
  ·rw[if_pos c2,decide_eq_true c2];simp
  ·rw[if_neg c2,decide_eq_false (by omega)];simp
 ·rw[if_neg c]
  have:nthOk m w d=false:=by
   cases e:nthOk m w d with
   |false=>rfl
   |true=>exact absurd (hr.2 e) c
  rw[this];simp
theorem rgood_at (m w d n:Int):pylonref04_good.f m w d n=some (dN m w d n):=by
 unfold pylonref04_good.f dN nthOk
 repeat' split
 all_goals simp only[Option.some.injEq]
 all_goals simp only[ge_iff_le] at *
 all_goals first|(rw[Bool.eq_iff_iff];simp only[Bool.and_eq_true,decide_eq_true_eq,Bool.false_eq_true,false_iff];omega)
def dU (o s m1 w1 d1 n1 m2 w2 d2 n2:Int):Bool:=decide (-720≤o) && decide (o≤840) && decide (Int.tmod o 15=0) && (decide (s=0) || ((decide (s=30) || decide (s=60)) && dN m1 w1 d1 n1 && dN m2 w2 d2 n2 && decide (m1≠m2)))
theorem zone_ev (o s m1 w1 d1 n1 m2 w2 d2 n2:Int):Ev (fun k=>zone_Check.f k o s m1 w1 d1 n1 m2 w2 d2 n2) (if dU o s m1 w1 d1 n1 m2 w2 d2 n2=true then 0 else 8):=by
 obtain⟨K1,h1⟩:=good_ev m1 w1 d1 n1
 obtain⟨K2,h2⟩:=good_ev m2 w2 d2 n2
 refine⟨K1+K2+2,fun k hk=>?_⟩
 obtain⟨k,rfl⟩ : ∃ j,k=j+2:=⟨k - 2,by omega⟩
 have h1:=h1 k (by omega)
 have h2:=h2 k (by omega)
 dsimp only at h1 h2 ⊢
 unfold zone_Check.f dU
 by_cases c1:o < -720
 ·rw[if_pos c1,decide_eq_false (by omega)];rfl
 rw[if_neg c1,decide_eq_true (show -720≤o by omega)]
 by_cases c2:o > 840
 ·rw[if_pos c2,decide_eq_false (by omega)];rfl
 rw[if_neg c2,decide_eq_true (show o≤840 by omega)]
 by_cases c3:Int.tmod o 15=0
 ·have e:(Int.tmod o 15 != 0)=false:=by simp[c3]
  rw[e,decide_eq_true c3]
  simp only[zone_Check.j0,Bool.false_eq_true,if_false,Bool.true_and]
  by_cases c4:s=0
  ·rw[if_pos c4,decide_eq_true c4];rfl
  ·rw[if_neg c4,decide_eq_false c4,Bool.false_or]
   by_cases c5:s=30
   ·rw[if_pos c5,decide_eq_true c5]
    simp only[zone_Check.j1,Bool.false_eq_true,if_false,Bool.true_or,Bool.true_and,h1,h2,Option.bind_some]
    cases dN m1 w1 d1 n1 <;> cases dN m2 w2 d2 n2 <;> simp
    by_cases c6:m1=m2 <;> simp[c6]
   ·rw[if_neg c5,decide_eq_false c5]
    by_cases c7:s=60
    ·have e2:(s != 60)=false:=by simp[c7]
     rw[e2,decide_eq_true c7]
     simp only[zone_Check.j1,Bool.false_eq_true,if_false,Bool.false_or,Bool.true_and,h1,h2,Option.bind_some]
     cases dN m1 w1 d1 n1 <;> cases dN m2 w2 d2 n2 <;> simp
     by_cases c6:m1=m2 <;> simp[c6]
    ·have e2:(s != 60)=true:=by simp[c7]
     rw[e2,decide_eq_false c7]
     simp[zone_Check.j1]
 ·have e:(Int.tmod o 15 != 0)=true:=by simp[c3]
  rw[e,decide_eq_false c3]
  simp[zone_Check.j0]
theorem rzone_ev (o s m1 w1 d1 n1 m2 w2 d2 n2:Int):Ev (fun k=>pylonref04_Check.f k o s m1 w1 d1 n1 m2 w2 d2 n2) (if dU o s m1 w1 d1 n1 m2 w2 d2 n2=true then 0 else 8):=by
 refine Ev.of (k:=1) (fun k=>pylonref04_Check.mono _ _ _ _ _ _ _ _ _ _ _) ?_
 unfold pylonref04_Check.f dU
 by_cases c1:o < -720
 ·rw[if_pos c1,decide_eq_false (by omega)];rfl
 rw[if_neg c1,decide_eq_true (show -720≤o by omega)]
 by_cases c2:o > 840
 ·rw[if_pos c2,decide_eq_false (by omega)];rfl
 rw[if_neg c2,decide_eq_true (show o≤840 by omega)]
 by_cases c3:Int.tmod o 15=0
 ·rw[if_pos c3,decide_eq_true c3]
  by_cases c4:s=0
  ·rw[if_pos c4,decide_eq_true c4]
   simp[pylonref04_Check.j0,c4]
  ·rw[if_neg c4,decide_eq_false c4]
   by_cases c5:s=30
   ·rw[if_pos c5,decide_eq_true c5]
    simp only[pylonref04_Check.j0,Bool.false_eq_true,if_false,Bool.true_or,Bool.true_and,Bool.false_or,rgood_at,Option.bind_some]
    rw[if_neg c4]
    cases dN m1 w1 d1 n1 <;> cases dN m2 w2 d2 n2 <;> simp
    by_cases c6:m1=m2 <;> simp[c6]
   ·rw[if_neg c5,decide_eq_false c5]
    by_cases c7:s=60
    ·have e2:(s != 60)=false:=by simp[c7]
     rw[e2,decide_eq_true c7]
     simp only[pylonref04_Check.j0,Bool.false_eq_true,if_false,Bool.false_or,Bool.true_and,rgood_at,Option.bind_some]
     rw[if_neg c4]
     cases dN m1 w1 d1 n1 <;> cases dN m2 w2 d2 n2 <;> simp
     by_cases c6:m1=m2 <;> simp[c6]
    ·have e2:(s != 60)=true:=by simp[c7]
     rw[e2,decide_eq_false c7]
     simp[pylonref04_Check.j0]
 ·rw[if_neg c3,decide_eq_false c3]
  simp[pylonref04_Check.j0]
def holOk (k a b c:Int):Bool:=if k=1 then decide (1≤a∧a≤12∧1≤b∧b≤dlen a∧c=0) else if k=2 then nthOk a b c else if k=3 then decide (-100≤a∧a≤100∧b=0∧c=0) else false
theorem hol_ev (x a b c:Int):Ev (fun k=>holiday_Check.f k x a b c) (if holOk x a b c=true then 0 else 8):=by
 obtain⟨r,⟨K,hK⟩,hr⟩:=nth_ev a b c
 refine⟨K,fun k hk=>?_⟩
 have h:=hK k hk
 dsimp only at h ⊢
 unfold holiday_Check.f holOk
 by_cases c1:x=1
 ·rw[if_pos c1,if_pos c1]
  by_cases hm:1≤a∧a≤12
  ·rw[length_good hm.1 hm.2]
   simp only[Option.bind_some,if_true]
   by_cases d1:b≥1
   ·rw[if_pos d1]
    by_cases d2:b≤dlen a
    ·rw[if_pos d2]
     by_cases d3:c=0
     ·rw[if_pos d3,decide_eq_true ⟨hm.1,hm.2,d1,d2,d3⟩];rfl
     ·rw[if_neg d3,decide_eq_false (fun z=>d3 z.2.2.2.2)];rfl
    ·rw[if_neg d2,decide_eq_false (fun z=>d2 z.2.2.2.1)];rfl
   ·rw[if_neg d1,decide_eq_false (fun z=>d1 z.2.2.1)];rfl
  ·rw[fH (by omega)]
   simp only[Option.bind_some]
   rw[if_neg (by decide),decide_eq_false (fun z=>hm ⟨z.1,z.2.1⟩)];rfl
 ·rw[if_neg c1,if_neg c1]
  by_cases c2:x=2
  ·rw[if_pos c2,if_pos c2,h]
   simp only[Option.bind_some]
   by_cases e:r.2.2.2=0
   ·rw[if_pos e,if_pos (hr.1 e)]
   ·rw[if_neg e,if_neg (fun z=>e (hr.2 z))]
  ·rw[if_neg c2,if_neg c2]
   by_cases c3:x=3
   ·rw[if_pos c3,if_pos c3]
    repeat' split
    all_goals simp only[decide_eq_true_eq] at *
    all_goals first|rfl|omega
   ·rw[if_neg c3,if_neg c3];rfl
theorem rhol_ev (x a b c:Int):Ev (fun k=>pylonref05_Check.f k x a b c) (if holOk x a b c=true then 0 else 8):=by
 have hlen : ∃ r,Ev (fun k=>pylonref03_Length.f k 2000 a) r∧((1≤a∧a≤12∧r=(dlen a,0))∨(¬ (1≤a∧a≤12)∧r=(0,5))):=by
  by_cases hm:1≤a∧a≤12
  ·exact⟨_,rlength_good hm.1 hm.2,.inl ⟨hm.1,hm.2,rfl⟩⟩
  ·exact⟨_,rlength_bad (by omega),.inr ⟨hm,rfl⟩⟩
 obtain⟨r,⟨K,hK⟩,hr⟩:=hlen
 refine⟨K,fun k hk=>?_⟩
 have h:=hK k hk
 dsimp only at h ⊢
 unfold pylonref05_Check.f holOk
 by_cases c1:x=1
 ·rw[if_pos c1,if_pos c1,h]
  simp only[Option.bind_some]
  rcases hr with ⟨m1,m2,rfl⟩|⟨hm,rfl⟩
  ·simp only[if_true]
   by_cases d1:b≥1
   ·rw[if_pos d1]
    by_cases d2:b≤dlen a
    ·rw[if_pos d2]
     by_cases d3:c=0
     ·rw[if_pos d3,decide_eq_true ⟨m1,m2,d1,d2,d3⟩];rfl
     ·rw[if_neg d3,decide_eq_false (fun z=>d3 z.2.2.2.2)];rfl
    ·rw[if_neg d2,decide_eq_false (fun z=>d2 z.2.2.2.1)];rfl
   ·rw[if_neg d1,decide_eq_false (fun z=>d1 z.2.2.1)];rfl
  ·rw[if_neg (by decide),decide_eq_false (fun z=>hm ⟨z.1,z.2.1⟩)];rfl
 ·rw[if_neg c1,if_neg c1]
  by_cases c2:x=2
  ·rw[if_pos c2,if_pos c2]
   unfold nthOk
   repeat' split
   all_goals simp only[decide_eq_true_eq,ge_iff_le] at *
   all_goals first|rfl|omega
  ·rw[if_neg c2,if_neg c2]
   by_cases c3:x=3
   ·rw[if_pos c3,if_pos c3]
    repeat' split
    all_goals simp only[decide_eq_true_eq,ge_iff_le] at *
    all_goals first|rfl|omega
   ·rw[if_neg c3,if_neg c3];rfl
end Go.Proofs.YtcmhfcciapenfaaDoor.Pu
set_option linter.all false
namespace Go.Proofs.YtcmhfcciapenfaaDoor.Pu
open Go.RowKit Go.Proofs.YtcmhfcciapenfaaDoorW.PrintWords Go.Proofs.YtcmhfcciapenfaaDoor.Pa
abbrev StepT:=S70
def fJ (n:Int):Bool:=decide (-10000000≤n) && decide (n≤10000000)
def dH:List StepT → Int → Bool
 |[],_=>true
 |[s],_=>decide (s.f0=0) && fJ s.f1
 |s :: t :: r,b=>decide (b < s.f0) && decide (s.f0≤500000000000000) && fJ s.f1 && dH (t :: r) s.f0
def lenOk (n:Nat):Bool:=decide (1≤n) && decide (n≤64)
theorem within_at (x a b:Int):sound_within.f x a b=some (decide (a≤x) && decide (x≤b)):=by
 unfold sound_within.f
 by_cases h:x≥a
 ·rw[if_pos h,decide_eq_true (show a≤x from h)];simp
 ·rw[if_neg h,decide_eq_false (show ¬ a≤x by omega)];simp
theorem rdT_drop {xs:List StepT} {i:Nat} {s:StepT} {r:List StepT} (h:xs.drop i=s :: r):aV xs (i:Int)=s:=by
 unfold aV
 have h1:(xs.drop i)[0]? = some s:=by rw[h];rfl
 rw[List.getElem?_drop,Nat.add_zero] at h1
 rw[Int.toNat_natCast,List.getD_eq_getElem?_getD,h1]
 rfl
theorem eH (n:Nat):sound_within.f (n:Int) 1 64=some (lenOk n):=by
 rw[within_at]
 unfold lenOk
 congr 2 <;> rw[decide_eq_decide] <;> omega
theorem steps_loop (xs:List StepT) (hn:xs.length≤9223372036854775806) (r:List StepT) : ∀ (k i:Nat) (b:Int),0≤b → xs.drop i=r → i≤xs.length → r.length < k → sound_steps.l0 k xs b xs (xs.length:Int) (i:Int)=some (dH r b && lenOk xs.length):=by
 induction r with
 |nil=>
  intro k i b hb hd hi hk
  obtain⟨k,rfl⟩ : ∃ m,k=m+1:=⟨k - 1,by simp at hk;omega⟩
  have hl:=dP hd hi
  simp only[List.length_nil,Nat.add_zero] at hl
  simp only[sound_steps.l0]
  rw[if_neg (by omega),eH]
  simp[dH]
 |cons s r ih=>
  intro k i b hb hd hi hk
  obtain⟨k,rfl⟩ : ∃ m,k=m+1:=⟨k - 1,by simp at hk;omega⟩
  have hlt:=fE hd
  have hlen:=dP hd hi
  simp only[List.length_cons] at hk hlen
  have e:wrap64 ((i:Int)+1)=((i+1:Nat):Int):=by rw[w64 (by omega) (by omega)];omega
  have el:wrap64 ((xs.length:Int) - 1)=(xs.length:Int) - 1:=w64 (by omega) (by omega)
  have hnext : ∀ b',0≤b' → sound_steps.l0 k xs b' xs (xs.length:Int) ((i+1:Nat):Int)=some (dH r b' && lenOk xs.length):=fun b' hb'=>ih k (i+1) b' hb' (dV hd) (by omega) (by omega)
  simp only[sound_steps.l0]
  rw[if_pos (by omega),if_pos (by omega),if_pos (by omega),rdT_drop hd,el,e,within_at]
  have hrate:(decide (-10000000≤s.f1) && decide (s.f1≤10000000))=fJ s.f1:=rfl
  rw[hrate]
  simp only[Option.bind_some]
  cases r with
  |nil=>
   have hi1:(i:Int)=(xs.length:Int) - 1:=by simp at hlen;omega
   rw[if_pos hi1]
   by_cases c1:s.f0=0
   ·rw[hi1,c1]
    simp only[beq_self_eq_true,bne_self_eq_false,Bool.false_eq_true,if_false,dH]
    rw[decide_eq_true c1,Bool.true_and]
    cases hr:fJ s.f1 with
    |true=>rw[if_pos rfl,hnext 0 (by omega)];simp[dH]
    |false=>rw[if_neg (by simp)];simp
   ·rw[hi1]
    have:(s.f0 == 0)=false:=by simpa using c1
    rw[this]
    simp[dH,c1]
  |cons t r=>
   have hi1 : ¬ ((i:Int)=(xs.length:Int) - 1):=by simp at hlen;omega
   have hi2:((i:Int) == (xs.length:Int) - 1)=false:=by simpa using hi1
   rw[if_neg hi1,hi2]
   simp only[dH]
   by_cases c1:s.f0=0
   ·rw[c1]
    simp
    intro h1;omega
   ·have c1b:(s.f0 == 0)=false:=by simpa using c1
    rw[c1b]
    simp only[bne_self_eq_false,Bool.false_eq_true,if_false]
    by_cases c2:s.f0≤b
    ·rw[if_pos c2,decide_eq_false (show ¬ b < s.f0 by omega)];simp
    ·rw[if_neg c2,decide_eq_true (show b < s.f0 by omega)]
     by_cases c3:s.f0 > 500000000000000
     ·rw[if_pos c3,decide_eq_false (show ¬ s.f0≤500000000000000 by omega)];simp
     ·rw[if_neg c3,decide_eq_true (show s.f0≤500000000000000 by omega)]
      cases hr:fJ s.f1 with
      |true=>rw[if_pos rfl,hnext s.f0 (by omega)];simp
      |false=>rw[if_neg (by simp)];simp
def cu (xs:List StepT):Bool:=dH xs 0 && lenOk xs.length
theorem steps_ev (xs:List StepT) (hn:xs.length≤9223372036854775806):Ev (fun k=>sound_steps.f k xs) (cu xs):=
 Ev.of (k:=xs.length+1) (fun k=>sound_steps.mono _ _) (by
  unfold sound_steps.f
  have:=steps_loop xs hn xs (xs.length+1) 0 0 (by omega) rfl (by omega) (by omega)
  exact this)
theorem good_loop (xs:List StepT) (hn:xs.length≤64) (r:List StepT) : ∀ (k i:Nat) (b:Int),0≤b → xs.drop i=r → i < xs.length → 2 * r.length < k → pylonref17_Good.l0 k xs b (xs.length:Int) (i:Int)=some (dH r b):=by
 induction r with
 |nil=>
  intro k i b hb hd hi hk
  have hl:=dP hd (by omega)
  simp only[List.length_nil] at hl
  omega
 |cons s r ih=>
  intro k i b hb hd hi hk
  obtain⟨k,rfl⟩ : ∃ m,k=m+2:=⟨k - 2,by simp at hk;omega⟩
  have hlt:=fE hd
  have hlen:=dP hd (by omega)
  simp only[List.length_cons] at hk hlen
  have e:wrap64 ((i:Int)+1)=((i+1:Nat):Int):=by rw[w64 (by omega) (by omega)];omega
  have el:wrap64 ((xs.length:Int) - 1)=(xs.length:Int) - 1:=w64 (by omega) (by omega)
  have hj : ∀ x,pylonref17_Good.j2 (k+1) xs b (i:Int) (xs.length:Int) (i:Int) x s.f0 s.f1=some (if x=true then false else if r = [] then decide (s.f0=0) else decide (b < s.f0) && decide (s.f0≤500000000000000) && dH r s.f0):=by
   intro x
   simp only[pylonref17_Good.j2,el,e]
   cases x with
   |true=>simp
   |false=>
    simp only[Bool.false_eq_true,if_false]
    by_cases hr:r = []
    ·subst hr
     rw[if_pos (by simp at hlen;omega),if_pos rfl]
     congr 1
    ·have hrl:0 < r.length:=List.length_pos_iff.2 hr
     rw[if_neg (by omega),if_neg hr]
     by_cases c2:s.f0≤b
     ·rw[if_pos c2,decide_eq_false (show ¬ b < s.f0 by omega)];simp
     ·rw[if_neg c2,decide_eq_true (show b < s.f0 by omega)]
      by_cases c3:s.f0 > 500000000000000
      ·rw[if_pos c3,decide_eq_false (show ¬ s.f0≤500000000000000 by omega)];simp
      ·rw[if_neg c3,decide_eq_true (show s.f0≤500000000000000 by omega),ih k (i+1) s.f0 (by omega) (dV hd) (by omega) (by omega)]
       simp
  simp only[pylonref17_Good.l0]
  rw[if_pos (by omega),if_pos (by omega),if_pos (by omega),rdT_drop hd,hj,hj]
  have hst:dH (s :: r) b=(fJ s.f1 && (if r = [] then decide (s.f0=0) else decide (b < s.f0) && decide (s.f0≤500000000000000) && dH r s.f0)):=by
   cases r with
   |nil=>simp[dH,Bool.and_comm]
   |cons t r=>
    simp only[dH]
    rw[if_neg (by simp)]
    cases fJ s.f1 <;> simp
  rw[hst]
  unfold fJ
  by_cases c1:s.f1 < -10000000
  ·rw[if_pos c1,decide_eq_false (show ¬ -10000000≤s.f1 by omega)];simp
  ·rw[if_neg c1,decide_eq_true (show -10000000≤s.f1 by omega)]
   by_cases c2:s.f1 > 10000000
   ·rw[decide_eq_true c2,decide_eq_false (show ¬ s.f1≤10000000 by omega)];simp
   ·rw[decide_eq_false c2,decide_eq_true (show s.f1≤10000000 by omega)];simp
theorem good_ev17 (xs:List StepT):Ev (fun k=>pylonref17_Good.f k xs) (cu xs):=by
 refine Ev.of (k:=2 * xs.length+3) (fun k=>pylonref17_Good.mono _ _) ?_
 unfold pylonref17_Good.f cu lenOk
 by_cases c1:(xs.length:Int) < 1
 ·rw[if_pos c1,decide_eq_false (show ¬ 1≤xs.length by omega)]
  simp[pylonref17_Good.j0]
 ·rw[if_neg c1,decide_eq_true (show 1≤xs.length by omega)]
  by_cases c2:(xs.length:Int) > 64
  ·rw[decide_eq_true c2,decide_eq_false (show ¬ xs.length≤64 by omega)]
   simp[pylonref17_Good.j0]
  ·rw[decide_eq_false c2,decide_eq_true (show xs.length≤64 by omega)]
   simp only[pylonref17_Good.j0,Bool.false_eq_true,if_false]
   have:=good_loop xs (by omega) xs (2 * xs.length+2) 0 0 (by omega) rfl (by omega) (by omega)
   have e0:((0:Nat):Int)=0:=rfl
   rw[e0] at this
   rw[this]
   simp
end Go.Proofs.YtcmhfcciapenfaaDoor.Pu
set_option linter.all false
namespace Go.Proofs.YtcmhfcciapenfaaDoor.Pu
open Go.RowKit Go.Proofs.YtcmhfcciapenfaaDoorW.PrintWords Go.Proofs.YtcmhfcciapenfaaDoor.Pa
theorem ev_all {α β:Type} {g:Nat → α → Option β} {r:α → β} (h : ∀ x,Ev (fun k=>g k x) (r x)) (l:List α) : ∃ K,∀ k,K≤k → ∀ x∈l,g k x=some (r x):=by
 induction l with
 |nil=>exact⟨0,fun _ _ x hx=>by cases hx⟩
 |cons a l ih=>
  obtain⟨K1,h1⟩:=ih
  obtain⟨K2,h2⟩:=h a
  refine⟨K1+K2,fun k hk x hx=>?_⟩
  rcases List.mem_cons.1 hx with rfl|hx
  ·exact h2 k (by omega)
  ·exact h1 k (by omega) x hx
theorem rd_drop {α:Type} (z:α) {xs:List α} {i:Nat} {s:α} {r:List α} (h:xs.drop i=s :: r):xs.getD (i:Int).toNat z=s:=by
 have h1:(xs.drop i)[0]? = some s:=by rw[h];rfl
 rw[List.getElem?_drop,Nat.add_zero] at h1
 rw[Int.toNat_natCast,List.getD_eq_getElem?_getD,h1]
 rfl
abbrev HolT:=S43
def holsOk (l:List HolT):Bool:=l.all (fun h=>holOk h.f0 h.f1 h.f2 h.f3) && decide (l.length≤64)
theorem hols_loop (xs:List HolT) (hn:xs.length≤9223372036854775806) (K:Nat) (hK : ∀ k,K≤k → ∀ x∈xs,holiday_Check.f k x.f0 x.f1 x.f2 x.f3=some (if holOk x.f0 x.f1 x.f2 x.f3=true then 0 else 8)) (r:List HolT) : ∀ (k i:Nat),xs.drop i=r → i≤xs.length → K+r.length < k → sound_holidays.l0 k xs xs (xs.length:Int) (i:Int)=some (r.all (fun h=>holOk h.f0 h.f1 h.f2 h.f3) && decide (xs.length≤64)):=by
 induction r with
 |nil=>
  intro k i hd hi hk
  obtain⟨k,rfl⟩ : ∃ m,k=m+1:=⟨k - 1,by simp at hk;omega⟩
  have hl:=dP hd hi
  simp only[List.length_nil,Nat.add_zero] at hl
  simp only[sound_holidays.l0]
  rw[if_neg (by omega)]
  simp only[List.all_nil,Bool.true_and,Option.some.injEq,decide_eq_decide]
  omega
 |cons s r ih=>
  intro k i hd hi hk
  obtain⟨k,rfl⟩ : ∃ m,k=m+1:=⟨k - 1,by simp at hk;omega⟩
  have hlt:=fE hd
  simp only[List.length_cons] at hk
  have hs:s∈xs:=List.mem_of_mem_drop (i:=i) (by rw[hd];exact List.mem_cons_self)
  have e:wrap64 ((i:Int)+1)=((i+1:Nat):Int):=by rw[w64 (by omega) (by omega)];omega
  have erd:aW xs (i:Int)=s:=rd_drop _ hd
  simp only[sound_holidays.l0]
  rw[if_pos (by omega),if_pos (by omega),if_pos (by omega),erd,e,hK k (by omega) s hs,ih k (i+1) (dV hd) (by omega) (by omega)]
  simp only[Option.bind_some,List.all_cons]
  cases holOk s.f0 s.f1 s.f2 s.f3 <;> simp
theorem hols_ev (xs:List HolT) (hn:xs.length≤9223372036854775806):Ev (fun k=>sound_holidays.f k xs) (holsOk xs):=by
 obtain⟨K,hK⟩:=ev_all (g:=fun k (x:HolT)=>holiday_Check.f k x.f0 x.f1 x.f2 x.f3) (fun x=>hol_ev x.f0 x.f1 x.f2 x.f3) xs
 refine Ev.of (k:=K+xs.length+1) (fun k=>sound_holidays.mono _ _) ?_
 unfold sound_holidays.f
 exact hols_loop xs hn K hK xs _ 0 rfl (by omega) (by omega)
theorem rhols_loop (xs:List HolT) (hn:xs.length≤9223372036854775806) (K:Nat) (hK : ∀ k,K≤k → ∀ x∈xs,pylonref05_Check.f k x.f0 x.f1 x.f2 x.f3=some (if holOk x.f0 x.f1 x.f2 x.f3=true then 0 else 8)) (r:List HolT) : ∀ (k i:Nat),xs.drop i=r → i≤xs.length → K+r.length < k → pylonref09_holidays.l0 k xs (xs.length:Int) (i:Int)=some (r.all (fun h=>holOk h.f0 h.f1 h.f2 h.f3) && decide (xs.length≤64)):=by
 induction r with
 |nil=>
  intro k i hd hi hk
  obtain⟨k,rfl⟩ : ∃ m,k=m+1:=⟨k - 1,by simp at hk;omega⟩
  have hl:=dP hd hi
  simp only[List.length_nil,Nat.add_zero] at hl
  simp only[pylonref09_holidays.l0]
  rw[if_neg (by omega)]
  simp only[List.all_nil,Bool.true_and,Option.some.injEq,decide_eq_decide]
  omega
 |cons s r ih=>
  intro k i hd hi hk
  obtain⟨k,rfl⟩ : ∃ m,k=m+1:=⟨k - 1,by simp at hk;omega⟩
  have hlt:=fE hd
  simp only[List.length_cons] at hk
  have hs:s∈xs:=List.mem_of_mem_drop (i:=i) (by rw[hd];exact List.mem_cons_self)
  have e:wrap64 ((i:Int)+1)=((i+1:Nat):Int):=by rw[w64 (by omega) (by omega)];omega
  have erd:aW xs (i:Int)=s:=rd_drop _ hd
  simp only[pylonref09_holidays.l0]
  rw[if_pos (by omega),if_pos (by omega),if_pos (by omega),erd,e,hK k (by omega) s hs,ih k (i+1) (dV hd) (by omega) (by omega)]
  simp only[Option.bind_some,List.all_cons]
  cases holOk s.f0 s.f1 s.f2 s.f3 <;> simp
theorem rhols_ev (xs:List HolT) (hn:xs.length≤9223372036854775806):Ev (fun k=>pylonref09_holidays.f k xs) (holsOk xs):=by
 obtain⟨K,hK⟩:=ev_all (g:=fun k (x:HolT)=>pylonref05_Check.f k x.f0 x.f1 x.f2 x.f3) (fun x=>rhol_ev x.f0 x.f1 x.f2 x.f3) xs
 refine Ev.of (k:=K+xs.length+1) (fun k=>pylonref09_holidays.mono _ _) ?_
 unfold pylonref09_holidays.f
 exact rhols_loop xs hn K hK xs _ 0 rfl (by omega) (by omega)
abbrev BlkT:=S48
def bnm (b:BlkT):List UInt8:=Bs b.f0
def eX (b:BlkT):Bool:=nameL (bnm b) && cu b.f1
def goOk:List BlkT → List (List UInt8) → Bool
 |[],_=>true
 |b :: t,ns=>!decide (bnm b∈ns) && eX b && goOk t (bnm b :: ns)
theorem goOk_congr (l:List BlkT) : ∀ (ns ns' : List (List UInt8)),(∀ x,x∈ns↔x∈ns') → goOk l ns=goOk l ns':=by
 induction l with
 |nil=>intro _ _ _;rfl
 |cons b t ih=>
  intro ns ns' h
  simp only[goOk]
  rw[ih (bnm b :: ns) (bnm b :: ns') (fun x=>by simp[h x])]
  have:decide (bnm b∈ns)=decide (bnm b∈ns'):=decide_eq_decide.2 (h _)
  rw[this]
theorem blk_go (l:List BlkT) (hb : ∀ b∈l,b.f0.size≤140737488355328) (K:Nat) (hK : ∀ k,K≤k → ∀ b∈l,sound_steps.f k b.f1=some (cu b.f1)) : ∀ (k:Nat) (ns:List (List UInt8)),K≤k → sound_blocks.go k l ns=some (goOk l ns):=by
 induction l with
 |nil=>intro k ns _;rfl
 |cons b t ih=>
  intro k ns hk
  have h0:=hb b List.mem_cons_self
  have hnm:bnm b=b.f0.data.toList:=rfl
  simp only[sound_blocks.go,goOk,eX]
  rw[if_pos h0,← hnm,name_at b.f0 (by omega),hK k hk b List.mem_cons_self,ih (fun x hx=>hb x (List.mem_cons_of_mem _ hx)) (fun k hk x hx=>hK k hk x (List.mem_cons_of_mem _ hx)) k _ hk]
  by_cases c:bnm b∈ns
  ·rw[if_pos c,decide_eq_true c];simp
  ·rw[if_neg c,decide_eq_false c]
   simp only[Option.bind_some]
   have:Bs b.f0=bnm b:=rfl
   rw[this]
   cases nameL (bnm b) <;> cases cu b.f1 <;> simp
def cK (l:List BlkT):Bool:=goOk l [] && lenOk l.length
theorem blocks_ev (l:List BlkT) (hl:l.length≤4398046511104) (hb : ∀ b∈l,b.f0.size≤140737488355328) (hs : ∀ b∈l,b.f1.length≤9223372036854775806):Ev (fun k=>sound_blocks.f k l) (cK l):=by
 have hall : ∃ K,∀ k,K≤k → ∀ b∈l,sound_steps.f k b.f1=some (cu b.f1):=by
  clear hl hb
  induction l with
  |nil=>exact⟨0,fun _ _ b hb=>by cases hb⟩
  |cons a l ih=>
   obtain⟨K1,h1⟩:=ih (fun b hb=>hs b (List.mem_cons_of_mem _ hb))
   obtain⟨K2,h2⟩:=steps_ev a.f1 (hs a List.mem_cons_self)
   refine⟨K1+K2,fun k hk x hx=>?_⟩
   rcases List.mem_cons.1 hx with rfl|hx
   ·exact h2 k (by omega)
   ·exact h1 k (by omega) x hx
 obtain⟨K,hK⟩:=hall
 refine⟨K,fun k hk=>?_⟩
 dsimp only
 unfold sound_blocks.f cK
 rw[if_pos hl,blk_go l hb K hK k [] hk,eH]
 simp only[Option.bind_some]
 cases goOk l [] <;> simp
theorem rblk_same (xs:List BlkT) (hn:xs.length≤1000000) (i:Nat) (hi:i < xs.length) (b:BlkT) (hbx:xs[i]? = some b) (v:Bool) : ∀ (d k j:Nat),i - j=d → j≤i → d < k → (∀ k',k≤k' + d+1 → pylonref09_blocks.l0 k' xs (xs.length:Int) ((i+1:Nat):Int)=some v) →
  pylonref09_blocks.l1 k xs (i:Int) (j:Int) (xs.length:Int) (i:Int)=some (!((((xs.take i).drop j).map bnm).contains (bnm b)) && v):=by
 intro d
 induction d with
 |zero=>
  intro k j hd hj hk h
  obtain⟨k,rfl⟩ : ∃ m,k=m+1:=⟨k - 1,by omega⟩
  have:j=i:=by omega
  subst this
  have e:wrap64 ((j:Int)+1)=((j+1:Nat):Int):=by rw[w64 (by omega) (by omega)];omega
  simp only[pylonref09_blocks.l1]
  rw[if_neg (by omega),e,h k (by omega)]
  simp
 |succ d ih=>
  intro k j hd hj hk h
  obtain⟨k,rfl⟩ : ∃ m,k=m+1:=⟨k - 1,by omega⟩
  have hlt:j < i:=by omega
  have e:wrap64 ((j:Int)+1)=((j+1:Nat):Int):=by rw[w64 (by omega) (by omega)];omega
  have erd:bu xs (i:Int)=b:=by
   unfold bu
   rw[Int.toNat_natCast,List.getD_eq_getElem?_getD,hbx];rfl
  have erj:bu xs (j:Int)=xs[j]:=by
   unfold bu
   rw[Int.toNat_natCast,List.getD_eq_getElem?_getD,List.getElem?_eq_getElem (by omega)];rfl
  have hdr:(xs.take i).drop j=xs[j] :: (xs.take i).drop (j+1):=by
   rw[List.drop_eq_getElem_cons (by simp;omega)]
   simp
  simp only[pylonref09_blocks.l1]
  rw[if_pos (by omega),if_pos (by omega),if_pos (by omega),if_pos (by omega),if_pos (by omega),erd,erj,e,ih k (j+1) (by omega) (by omega) (by omega) (fun k' hk'=>h k' (by omega)),hdr,bX,bX]
  simp only[List.map_cons,List.contains_cons]
  by_cases c:Bs xs[j].f0=Bs b.f0
  ·have c2:(bnm b == bnm xs[j])=true:=by simp[bnm,c]
   rw[if_pos c,c2];simp
  ·have c2:(bnm b == bnm xs[j])=false:=by simp[bnm];exact fun z=>c z.symm
   rw[if_neg c,c2,Bool.false_or]
theorem rblk_loop (xs:List BlkT) (hn:xs.length≤1000000) (K:Nat) (hK : ∀ k,K≤k → ∀ b∈xs,pylonref06_Name.f k b.f0=some (nameL (bnm b))∧pylonref17_Good.f k b.f1=some (cu b.f1)) (r:List BlkT) : ∀ (k i:Nat),xs.drop i=r → i≤xs.length → K+r.length * (xs.length+4) < k → pylonref09_blocks.l0 k xs (xs.length:Int) (i:Int)=some (goOk r ((xs.take i).map bnm) && lenOk xs.length):=by
 induction r with
 |nil=>
  intro k i hd hi hk
  obtain⟨k,rfl⟩ : ∃ m,k=m+1:=⟨k - 1,by simp at hk;omega⟩
  have hl:=dP hd hi
  simp only[List.length_nil,Nat.add_zero] at hl
  simp only[pylonref09_blocks.l0,goOk]
  rw[if_neg (by omega)]
  unfold lenOk
  by_cases c:(xs.length:Int)≥1
  ·rw[if_pos c,decide_eq_true (show 1≤xs.length by omega)]
   simp only[Bool.true_and,Option.some.injEq,decide_eq_decide]
   omega
  ·rw[if_neg c,decide_eq_false (show ¬ 1≤xs.length by omega)];simp
 |cons s r ih=>
  intro k i hd hi hk
  simp only[List.length_cons,Nat.add_mul,Nat.one_mul] at hk
  obtain⟨k,rfl⟩ : ∃ m,k=m+2:=⟨k - 2,by omega⟩
  have hlt:=fE hd
  have hs:s∈xs:=List.mem_of_mem_drop (i:=i) (by rw[hd];exact List.mem_cons_self)
  have hsi:xs[i]? = some s:=by
   have h1:(xs.drop i)[0]? = some s:=by rw[hd];rfl
   rwa [List.getElem?_drop,Nat.add_zero] at h1
  have erd:bu xs (i:Int)=s:=rd_drop _ hd
  obtain⟨h1,h2⟩:=hK (k+1) (by omega) s hs
  have hnx:=fun k' (hk' : K+r.length * (xs.length+4) < k')=>ih k' (i+1) (dV hd) (by omega) hk'
  have hl1:=rblk_same xs hn i hlt s hsi _ i k 0 (by omega) (by omega) (by omega) (fun k' hk'=>hnx k' (by omega))
  have htk : ∀ x,x∈(xs.take (i+1)).map bnm↔x∈bnm s :: (xs.take i).map bnm:=by
   intro x
   have:xs.take (i+1)=xs.take i ++ [s]:=by rw[List.take_add_one,hsi];rfl
   rw[this]
   simp[or_comm]
  simp only[pylonref09_blocks.l0,goOk,eX]
  rw[if_pos (by omega),if_pos (by omega),if_pos (by omega),erd,h1]
  simp only[Option.bind_some]
  have e0:((0:Nat):Int)=0:=rfl
  rw[e0,List.drop_zero,goOk_congr r _ _ htk] at hl1
  have hc:(((xs.take i).map bnm).contains (bnm s))=decide (bnm s∈(xs.take i).map bnm):=by rw[Bool.eq_iff_iff];simp
  rw[hc] at hl1
  cases hnl:nameL (bnm s) with
  |false=>simp[pylonref09_blocks.j1]
  |true=>
   rw[if_pos rfl,h2]
   simp only[Option.bind_some,pylonref09_blocks.j1]
   cases hg:cu s.f1 with
   |false=>simp
   |true=>simp only[Bool.not_true,Bool.false_eq_true,if_false];rw[hl1];simp[Bool.and_assoc]
theorem rblocks_ev (l:List BlkT) (hl:l.length≤1000000) (hb : ∀ b∈l,b.f0.size≤140737488355328):Ev (fun k=>pylonref09_blocks.f k l) (cK l):=by
 have hall : ∃ K,∀ k,K≤k → ∀ b∈l,pylonref06_Name.f k b.f0=some (nameL (bnm b))∧pylonref17_Good.f k b.f1=some (cu b.f1):=by
  clear hl
  induction l with
  |nil=>exact⟨0,fun _ _ b hb=>by cases hb⟩
  |cons a l ih=>
   obtain⟨K1,h1⟩:=ih (fun b hx=>hb b (List.mem_cons_of_mem _ hx))
   obtain⟨K2,h2⟩:=fC a.f0 (by have:=hb a List.mem_cons_self;omega)
   obtain⟨K3,h3⟩:=good_ev17 a.f1
   refine⟨K1+K2+K3,fun k hk x hx=>?_⟩
   rcases List.mem_cons.1 hx with rfl|hx
   ·exact⟨h2 k (by omega),h3 k (by omega)⟩
   ·exact h1 k (by omega) x hx
 obtain⟨K,hK⟩:=hall
 refine Ev.of (k:=K+l.length * (l.length+4)+1) (fun k=>pylonref09_blocks.mono _ _) ?_
 unfold pylonref09_blocks.f cK
 exact rblk_loop l hl K hK l _ 0 rfl (by omega) (by omega)
end Go.Proofs.YtcmhfcciapenfaaDoor.Pu
set_option linter.all false
namespace Go.Proofs.YtcmhfcciapenfaaDoor.Pu
open Go.RowKit Go.Proofs.YtcmhfcciapenfaaDoorW.PrintWords Go.Proofs.YtcmhfcciapenfaaDoor.Pa
abbrev RunT:=S79
def inRun (d:Int) (r:RunT):Bool:=decide (r.f0≤d) && decide (d < r.f1)
def held (l:List RunT) (d:Int):Nat:=l.countP (inRun d)
theorem dG (r:RunT) (l:List RunT) (d:Int):held (r :: l) d=held l d+(if inRun d r=true then 1 else 0):=by
 unfold held
 rw[List.countP_cons]
theorem held_perm {l l' : List RunT} (h:l.Perm l') (d:Int):held l d=held l' d:=h.countP_eq _
theorem held_pos {l:List RunT} {d:Int} (h:0 < held l d) : ∃ r∈l,r.f0≤d∧d < r.f1:=by
 obtain⟨r,hr,hi⟩:=List.countP_pos_iff.1 h
 refine⟨r,hr,?_⟩
 simpa [inRun] using hi
theorem held_zero {l:List RunT} {d:Int} (h : ∀ r∈l,¬ (r.f0≤d∧d < r.f1)):held l d=0:=by
 apply Nat.eq_zero_of_not_pos
 intro hp
 obtain⟨r,hr,hi⟩:=held_pos hp
 exact h r hr hi
theorem held_mem {l:List RunT} {d:Int} {r:RunT} (hr:r∈l) (h:r.f0≤d) (h2:d < r.f1):0 < held l d:=List.countP_pos_iff.2 ⟨r,hr,by simp[inRun,h,h2]⟩
theorem chain_held (l:List RunT) : ∀ (a n:Int),(∀ r∈l,r.f0 < r.f1∧r.f1≤n) → l.Pairwise (fun x y=>x.f0≤y.f0) → (∀ r∈l,a≤r.f0) → a≤n → (sound_tiles.chain l a n=true↔∀ d,a≤d → d < n → held l d=1):=by
 induction l with
 |nil=>
  intro a n _ _ _ han
  simp only[sound_tiles.chain,beq_iff_eq]
  constructor
  ·intro e d h1 h2;omega
  ·intro h
   apply Decidable.byContradiction
   intro hne
   have:=h a (by omega) (by omega)
   simp[held] at this
 |cons r t ih=>
  intro a n hr hp ha han
  have hr0:=hr r List.mem_cons_self
  have hp':=List.pairwise_cons.1 hp
  simp only[sound_tiles.chain]
  have hat : ∀ x∈t,r.f0≤x.f0:=hp'.1
  have hrt : ∀ x∈t,x.f0 < x.f1∧x.f1≤n:=fun x hx=>hr x (List.mem_cons_of_mem _ hx)
  by_cases e:r.f0=a
  ·rw[if_pos e]
   constructor
   ·intro hc d h1 h2
    have hlow : ∀ (l:List RunT) (b:Int),(∀ x∈l,x.f0 < x.f1) → sound_tiles.chain l b n=true → ∀ x∈l,b≤x.f0:=by
     intro l
     induction l with
     |nil=>intro b _ _ x hx;cases hx
     |cons y u ihu=>
      intro b hy hcu x hx
      simp only[sound_tiles.chain] at hcu
      by_cases ey:y.f0=b
      ·rw[if_pos ey] at hcu
       have hy0:=hy y List.mem_cons_self
       rcases List.mem_cons.1 hx with rfl|hx
       ·omega
       ·have:=ihu y.f1 (fun z hz=>hy z (List.mem_cons_of_mem _ hz)) hcu x hx
        omega
      ·rw[if_neg ey] at hcu;cases hcu
    have hge:=hlow t r.f1 (fun x hx=>(hrt x hx).1) hc
    have hih:=(ih r.f1 n hrt hp'.2 hge hr0.2).1 hc
    rw[dG]
    by_cases hd:d < r.f1
    ·rw[if_pos (by simp[inRun];omega),held_zero (fun x hx h=>by have:=hge x hx;omega)]
    ·rw[if_neg (by simp[inRun];omega),hih d (by omega) h2]
   ·intro h
    have hge : ∀ x∈t,r.f1≤x.f0:=by
     intro x hx
     apply Decidable.byContradiction
     intro hlt
     have hx1:=hrt x hx
     have hx2:=hat x hx
     have h1:=h x.f0 (by omega) (by omega)
     rw[dG,if_pos (by simp[inRun];omega)] at h1
     have:=held_mem hx (Int.le_refl x.f0) hx1.1
     omega
    refine(ih r.f1 n hrt hp'.2 hge hr0.2).2 fun d h1 h2=>?_
    have h3:=h d (by omega) h2
    rw[dG,if_neg (by simp[inRun];omega)] at h3
    omega
  ·rw[if_neg e]
   constructor
   ·intro h;cases h
   ·intro h
    exfalso
    have har:=ha r List.mem_cons_self
    have h1:=h a (Int.le_refl _) (by omega)
    have:held (r :: t) a=0:=held_zero fun x hx hh=>by
     rcases List.mem_cons.1 hx with rfl|hx
     ·omega
     ·have:=hat x hx;omega
    omega
theorem eG (l:List RunT) (n:Int) (hn:0≤n) (h : ∀ r∈l,0≤r.f0∧r.f0 < r.f1∧r.f1≤n):sound_tiles.chain (l.mergeSort sound_tiles.le) 0 n=true↔∀ d,0≤d → d < n → held l d=1:=by
 have hp:(l.mergeSort sound_tiles.le).Perm l:=List.mergeSort_perm _ _
 have hs:(l.mergeSort sound_tiles.le).Pairwise (fun x y=>x.f0≤y.f0):=by
  have:=List.pairwise_mergeSort (le:=sound_tiles.le) (fun a b c h1 h2=>by simp[sound_tiles.le] at *;omega) (fun a b=>by simp[sound_tiles.le];omega) l
  exact this.imp fun {a b} h=>by simpa [sound_tiles.le] using h
 have hm : ∀ r∈l.mergeSort sound_tiles.le,0≤r.f0∧r.f0 < r.f1∧r.f1≤n:=fun r hr=>h r (hp.mem_iff.1 hr)
 rw[chain_held _ 0 n (fun r hr=>(hm r hr).2) hs (fun r hr=>(hm r hr).1) hn]
 constructor
 ·intro h d h1 h2;rw[← held_perm hp];exact h d h1 h2
 ·intro h d h1 h2;rw[held_perm hp];exact h d h1 h2
theorem tiles_at (l:List RunT) (n:Int) (hl:l.length < 4398046511104) (h : ∀ r∈l,0≤r.f0∧r.f0 < r.f1∧r.f1≤n):sound_tiles.f l n=some (sound_tiles.chain (l.mergeSort sound_tiles.le) 0 n):=by
 unfold sound_tiles.f
 rw[if_pos ⟨hl,by rw[List.all_eq_true];intro r hr;exact decide_eq_true (h r hr).2.1⟩]
end Go.Proofs.YtcmhfcciapenfaaDoor.Pu
set_option linter.all false
namespace Go.Proofs.YtcmhfcciapenfaaDoor.Pu
open Go.RowKit Go.Proofs.YtcmhfcciapenfaaDoorW.PrintWords Go.Proofs.YtcmhfcciapenfaaDoor.Pa
abbrev SeaT:=S41
def snm (s:SeaT):List UInt8:=Bs s.f0
def dI (s:SeaT):Bool:=decide ((dayR s.f1).2=0) && decide ((dayR s.f2).2=0) && nameL (snm s)
def seaOk:List SeaT → List (List UInt8) → Bool
 |[],_=>true
 |s :: t,ns=>!decide (snm s∈ns) && dI s && seaOk t (snm s :: ns)
theorem seaOk_congr (l:List SeaT) : ∀ (ns ns' : List (List UInt8)),(∀ x,x∈ns↔x∈ns') → seaOk l ns=seaOk l ns':=by
 induction l with
 |nil=>intro _ _ _;rfl
 |cons b t ih=>
  intro ns ns' h
  simp only[seaOk]
  rw[ih (snm b :: ns) (snm b :: ns') (fun x=>by simp[h x])]
  have:decide (snm b∈ns)=decide (snm b∈ns'):=decide_eq_decide.2 (h _)
  rw[this]
def dM (s:SeaT):List RunT:=if (dayR s.f1).1≤(dayR s.f2).1 then [⟨(dayR s.f1).1 - 1,(dayR s.f2).1⟩] else [⟨(dayR s.f1).1 - 1,366⟩,⟨0,(dayR s.f2).1⟩]
def i64s (s:SeaT):Prop:=(-9223372036854775808≤s.f1∧s.f1≤9223372036854775807)∧(-9223372036854775808≤s.f2∧s.f2≤9223372036854775807)∧s.f0.size≤140737488355328
theorem sea_go (l:List SeaT) (hb : ∀ s∈l,i64s s) : ∀ (ns:List (List UInt8)) (rs:List RunT),sound_seasons.go l ns rs=some (cond (seaOk l ns) (some (rs ++ l.flatMap dM)) none):=by
 induction l with
 |nil=>intro ns rs;simp[sound_seasons.go,seaOk]
 |cons s t ih=>
  intro ns rs
  obtain⟨h1,h2,h3⟩:=hb s List.mem_cons_self
  have hnm:s.f0.data.toList=snm s:=rfl
  have iht:=ih (fun x hx=>hb x (List.mem_cons_of_mem _ hx))
  simp only[sound_seasons.go,seaOk,dI,day_at s.f1 h1.1 h1.2,day_at s.f2 h2.1 h2.2,Option.bind_some]
  by_cases c1:(dayR s.f1).2=0
  ·by_cases c2:(dayR s.f2).2=0
   ·rw[if_neg (by simpa using c1),if_neg (by simpa using c2),if_pos h3,hnm,decide_eq_true c1,decide_eq_true c2]
    by_cases c3:snm s∈ns
    ·rw[if_pos c3,decide_eq_true c3];simp
    ·rw[if_neg c3,decide_eq_false c3,name_at s.f0 (by omega)]
     have:Bs s.f0=snm s:=rfl
     rw[this]
     simp only[Option.bind_some]
     cases hn:nameL (snm s) with
     |false=>simp
     |true=>
      have b1:=(fe s.f1).resolve_right (fun e=>by rw[e] at c1;cases c1)
      have b2:=(fe s.f2).resolve_right (fun e=>by rw[e] at c2;cases c2)
      have hw:wrap64 ((dayR s.f1).1 - 1)=(dayR s.f1).1 - 1:=w64 (by omega) (by omega)
      rw[if_neg (by simp),hw]
      by_cases c4:(dayR s.f1).1≤(dayR s.f2).1
      ·rw[if_pos c4,iht]
       have hr:dM s = [⟨(dayR s.f1).1 - 1,(dayR s.f2).1⟩]:=by unfold dM;rw[if_pos c4]
       simp[List.flatMap_cons,hr]
      ·rw[if_neg c4,iht]
       have hr:dM s = [⟨(dayR s.f1).1 - 1,366⟩,⟨0,(dayR s.f2).1⟩]:=by unfold dM;rw[if_neg c4]
       simp[List.flatMap_cons,hr]
   ·rw[if_neg (by simpa using c1),if_pos c2,decide_eq_false c2];simp
  ·rw[if_pos c1,decide_eq_false c1];simp
def dC (l:List SeaT) (d:Int):Nat:=l.countP (fun s=>pylonref09_seasons.inside (dayR s.f1).1 (dayR s.f2).1 d)
theorem runs_in (s:SeaT) (h:dI s=true) : ∀ r∈dM s,0≤r.f0∧r.f0 < r.f1∧r.f1≤366:=by
 simp only[dI,Bool.and_eq_true,decide_eq_true_eq] at h
 have b1:=(fe s.f1).resolve_right (fun e=>by rw[e] at h;cases h.1.1)
 have b2:=(fe s.f2).resolve_right (fun e=>by rw[e] at h;cases h.1.2)
 intro r hr
 unfold dM at hr
 split at hr
 ·simp only[List.mem_cons,List.not_mem_nil,or_false] at hr
  subst hr
  dsimp only
  omega
 ·simp only[List.mem_cons,List.not_mem_nil,or_false] at hr
  rcases hr with rfl|rfl <;> dsimp only <;> omega
theorem runs_held (s:SeaT) (h:dI s=true) (d:Int) (h1:1≤d) (h2:d≤366):held (dM s) (d - 1)=if pylonref09_seasons.inside (dayR s.f1).1 (dayR s.f2).1 d=true then 1 else 0:=by
 simp only[dI,Bool.and_eq_true,decide_eq_true_eq] at h
 have b1:=(fe s.f1).resolve_right (fun e=>by rw[e] at h;cases h.1.1)
 have b2:=(fe s.f2).resolve_right (fun e=>by rw[e] at h;cases h.1.2)
 unfold dM pylonref09_seasons.inside
 generalize (dayR s.f1).1=a at b1 ⊢
 generalize (dayR s.f2).1=b at b2 ⊢
 by_cases c:a≤b
 ·rw[if_pos c,dG]
  have e0:held [] (d - 1)=0:=rfl
  rw[e0,Nat.zero_add]
  have hx:inRun (d - 1) ⟨a - 1,b⟩=(decide (a≤d) && decide (d≤b)):=by
   unfold inRun
   dsimp only
   congr 1 <;> rw[decide_eq_decide] <;> omega
  rw[hx,decide_eq_true c,decide_eq_false (show ¬ b < a by omega)]
  simp
 ·rw[if_neg c,dG,dG]
  have e0:held [] (d - 1)=0:=rfl
  rw[e0,Nat.zero_add]
  have hx:inRun (d - 1) ⟨a - 1,366⟩=decide (a≤d):=by
   unfold inRun
   dsimp only
   rw[← Bool.decide_and,decide_eq_decide]
   omega
  have hy:inRun (d - 1) ⟨0,b⟩=decide (d≤b):=by
   unfold inRun
   dsimp only
   rw[← Bool.decide_and,decide_eq_decide]
   omega
  rw[hx,hy,decide_eq_false c,decide_eq_true (show b < a by omega)]
  by_cases c1:a≤d
  ·rw[decide_eq_true c1,decide_eq_false (show ¬ d≤b by omega)];simp
  ·rw[decide_eq_false c1];simp
theorem seaOk_good (l:List SeaT) : ∀ ns,seaOk l ns=true → ∀ s∈l,dI s=true:=by
 induction l with
 |nil=>intro _ _ s hs;cases hs
 |cons b t ih=>
  intro ns h s hs
  simp only[seaOk,Bool.and_eq_true] at h
  rcases List.mem_cons.1 hs with rfl|hs
  ·exact h.1.2
  ·exact ih _ h.2 s hs
theorem all_held (l:List SeaT) (h : ∀ s∈l,dI s=true) (d:Int) (h1:1≤d) (h2:d≤366):held (l.flatMap dM) (d - 1)=dC l d:=by
 induction l with
 |nil=>rfl
 |cons s t ih=>
  unfold dC
  rw[List.flatMap_cons,List.countP_cons]
  have ht:=ih (fun x hx=>h x (List.mem_cons_of_mem _ hx))
  have hs:=runs_held s (h s List.mem_cons_self) d h1 h2
  unfold held at ht hs ⊢
  rw[List.countP_append,ht,hs]
  unfold dC
  omega
def bR (l:List SeaT):Bool:=seaOk l [] && lenOk l.length && (List.range 366).all (fun d=>dC l ((d:Int)+1) == 1)
theorem seasons_at (l:List SeaT) (hl:l.length≤4398046511104) (hb : ∀ s∈l,i64s s):sound_seasons.f l=some (bR l):=by
 unfold sound_seasons.f bR
 rw[if_pos hl,sea_go l hb]
 simp only[Option.bind_some,List.nil_append]
 cases hs:seaOk l [] with
 |false=>simp
 |true=>
  simp only[cond_true]
  rw[eH]
  simp only[Option.bind_some]
  cases hn:lenOk l.length with
  |false=>simp
  |true=>
   rw[if_pos rfl]
   have hg:=seaOk_good l [] hs
   have hr : ∀ r∈l.flatMap dM,0≤r.f0∧r.f0 < r.f1∧r.f1≤366:=by
    intro r hr
    obtain⟨s,hs,hr⟩:=List.mem_flatMap.1 hr
    exact runs_in s (hg s hs) r hr
   have hlen:(l.flatMap dM).length≤2 * l.length:=by
    clear hr hg hn hs hb hl
    induction l with
    |nil=>simp
    |cons s t ih=>
     rw[List.flatMap_cons,List.length_append,List.length_cons]
     have:(dM s).length≤2:=by unfold dM;split <;> simp
     omega
   have hn' : l.length≤64:=by simp[lenOk] at hn;exact hn.2
   rw[tiles_at _ 366 (by omega) hr]
   congr 1
   rw[Bool.eq_iff_iff,eG _ 366 (by omega) hr]
   rw[Bool.true_and,Bool.true_and,List.all_eq_true]
   constructor
   ·intro h d hd
    have hd:=List.mem_range.1 hd
    have h1:=h (d:Int) (by omega) (by omega)
    have h2:=all_held l hg ((d:Int)+1) (by omega) (by omega)
    rw[show((d:Int)+1 - 1)=(d:Int) by omega] at h2
    rw[beq_iff_eq,← h2];exact h1
   ·intro h d h1 h2
    have h3:=h d.toNat (List.mem_range.2 (by omega))
    have h4:=all_held l hg (d+1) (by omega) (by omega)
    rw[show(d+1 - 1)=d by omega] at h4
    rw[h4]
    have e:((d.toNat:Nat):Int)=d:=by omega
    rw[beq_iff_eq,e] at h3
    exact h3
def d9 (l:List SeaT) (hs:List Int):List Int:=l.foldl (fun hs s=>pylonref09_seasons.held (dayR s.f1).1 (dayR s.f2).1 hs) hs
theorem held_get (a b:Int) (hs:List Int) (d:Nat) (v:Int) (h:hs[d]? = some v):(pylonref09_seasons.held a b hs)[d]? = some (if d≠0∧pylonref09_seasons.inside a b (d:Int)=true then wrap64 (v+1) else v):=by
 unfold pylonref09_seasons.held
 rw[List.getElem?_mapIdx,h]
 rfl
theorem heldAll_length (l:List SeaT) : ∀ hs,(d9 l hs).length=hs.length:=by
 induction l with
 |nil=>intro hs;rfl
 |cons s t ih=>
  intro hs
  show(d9 t _).length=_
  rw[ih]
  unfold pylonref09_seasons.held
  simp
theorem heldAll_get (l:List SeaT) : ∀ (hs:List Int) (d:Nat) (v:Nat),d≠0 → hs[d]? = some (v:Int) → v+l.length≤1000000 → (d9 l hs)[d]? = some ((v+dC l (d:Int):Nat):Int):=by
 induction l with
 |nil=>intro hs d v _ h _;simpa [d9,dC] using h
 |cons s t ih=>
  intro hs d v hd h hv
  simp only[List.length_cons] at hv
  have h1:=held_get (dayR s.f1).1 (dayR s.f2).1 hs d v h
  show(d9 t (pylonref09_seasons.held (dayR s.f1).1 (dayR s.f2).1 hs))[d]? = _
  unfold dC
  rw[List.countP_cons]
  by_cases c:pylonref09_seasons.inside (dayR s.f1).1 (dayR s.f2).1 (d:Int)=true
  ·rw[if_pos ⟨hd,c⟩] at h1
   have e:wrap64 ((v:Int)+1)=((v+1:Nat):Int):=by rw[w64 (by omega) (by omega)];omega
   rw[e] at h1
   rw[ih _ d (v+1) hd h1 (by omega),if_pos c]
   unfold dC
   congr 2;omega
  ·rw[if_neg (fun z=>c z.2)] at h1
   rw[ih _ d v hd h1 (by omega),if_neg c]
   unfold dC
   congr 2
theorem rsea_go (k:Nat) (l:List SeaT) (hk : ∀ s∈l,pylonref09_Day.f k s.f1=some (dayR s.f1)∧pylonref09_Day.f k s.f2=some (dayR s.f2)∧pylonref06_Name.f k s.f0=some (nameL (snm s))) : ∀ (ns:List (List UInt8)) (hs:List Int),pylonref09_seasons.go k l ns hs=some (cond (seaOk l ns) (some (d9 l hs)) none):=by
 induction l with
 |nil=>intro ns hs;rfl
 |cons s t ih=>
  intro ns hs
  obtain⟨h1,h2,h3⟩:=hk s List.mem_cons_self
  have iht:=ih (fun x hx=>hk x (List.mem_cons_of_mem _ hx))
  have hnm:s.f0.toList=snm s:=bX _
  have hns:seaOk t (ns ++ [snm s])=seaOk t (snm s :: ns):=seaOk_congr t _ _ (fun x=>by simp[or_comm])
  simp only[pylonref09_seasons.go,seaOk,dI,h1,h2,h3,Option.bind_some,hnm,iht,hns]
  cases hn:nameL (snm s) with
  |false=>simp
  |true=>
   rw[if_neg (by simp)]
   by_cases c1:(dayR s.f1).2=0
   ·rw[if_neg (by simpa using c1),decide_eq_true c1]
    by_cases c2:(dayR s.f2).2=0
    ·rw[if_neg (by simpa using c2),decide_eq_true c2]
     by_cases c3:snm s∈ns
     ·rw[if_pos c3,decide_eq_true c3];simp
     ·rw[if_neg c3,decide_eq_false c3]
      simp only[Bool.not_false,Bool.true_and]
      rfl
    ·rw[if_pos c2,decide_eq_false c2];simp
   ·rw[if_pos c1,decide_eq_false c1];simp
theorem rseasons_ev (l:List SeaT) (hb : ∀ s∈l,s.f0.size≤140737488355328):Ev (fun k=>pylonref09_seasons.f k l) (bR l):=by
 have hall : ∃ K,∀ k,K≤k → ∀ s∈l,pylonref09_Day.f k s.f1=some (dayR s.f1)∧pylonref09_Day.f k s.f2=some (dayR s.f2)∧pylonref06_Name.f k s.f0=some (nameL (snm s)):=by
  induction l with
  |nil=>exact⟨0,fun _ _ b hb=>by cases hb⟩
  |cons a l ih=>
   obtain⟨K1,h1⟩:=ih (fun b hx=>hb b (List.mem_cons_of_mem _ hx))
   obtain⟨K2,h2⟩:=fC a.f0 (by have:=hb a List.mem_cons_self;omega)
   obtain⟨K3,h3⟩:=rday_ev a.f1
   obtain⟨K4,h4⟩:=rday_ev a.f2
   refine⟨K1+K2+K3+K4,fun k hk x hx=>?_⟩
   rcases List.mem_cons.1 hx with rfl|hx
   ·exact⟨h3 k (by omega),h4 k (by omega),h2 k (by omega)⟩
   ·exact h1 k (by omega) x hx
 obtain⟨K,hK⟩:=hall
 refine⟨K,fun k hk=>?_⟩
 dsimp only
 unfold pylonref09_seasons.f bR lenOk
 by_cases c1:(l.length:Int) < 1
 ·rw[if_pos c1,decide_eq_false (show ¬ 1≤l.length by omega)];simp
 ·rw[if_neg c1,decide_eq_true (show 1≤l.length by omega)]
  by_cases c2:(l.length:Int) > 64
  ·rw[if_pos c2,decide_eq_false (show ¬ l.length≤64 by omega)];simp
  ·rw[if_neg c2,decide_eq_true (show l.length≤64 by omega),rsea_go k l (hK k hk)]
   simp only[Option.bind_some]
   cases hs:seaOk l [] with
   |false=>simp only[cond_false,Bool.false_and]
   |true=>
    simp only[cond_true,Bool.true_and]
    congr 1
    rw[Bool.eq_iff_iff,List.all_eq_true,List.all_eq_true]
    have hlen:(d9 l (List.replicate 367 0)).length=367:=by rw[heldAll_length,List.length_replicate]
    have hget : ∀ d:Nat,d < 366 → (d9 l (List.replicate 367 0))[d+1]? = some ((dC l ((d:Int)+1):Nat):Int):=by
     intro d hd
     have:=heldAll_get l (List.replicate 367 0) (d+1) 0 (by omega) (by rw[List.getElem?_replicate,if_pos (by omega)];rfl) (by omega)
     rw[Nat.zero_add,show(((d+1:Nat)):Int)=(d:Int)+1 by omega] at this
     exact this
    constructor
    ·intro h d hd
     have hd:=List.mem_range.1 hd
     have h1:=hget d hd
     have hm:((dC l ((d:Int)+1):Nat):Int)∈(d9 l (List.replicate 367 0)).drop 1:=by
      refine List.mem_of_getElem? (i:=d) ?_
      rw[List.getElem?_drop,Nat.add_comm];exact h1
     have:=of_decide_eq_true (h _ hm)
     rw[beq_iff_eq];omega
    ·intro h x hx
     obtain⟨d,hd⟩:=List.getElem?_of_mem hx
     have hdl:=(List.getElem?_eq_some_iff.1 hd).1
     rw[List.length_drop,hlen] at hdl
     rw[List.getElem?_drop,Nat.add_comm,hget d (by omega)] at hd
     have h2:=h d (List.mem_range.2 (by omega))
     rw[beq_iff_eq] at h2
     refine decide_eq_true ?_
     have:=Option.some.inj hd
     omega
end Go.Proofs.YtcmhfcciapenfaaDoor.Pu
set_option linter.all false
namespace Go.Proofs.YtcmhfcciapenfaaDoor.Pu
open Go.RowKit Go.Proofs.YtcmhfcciapenfaaDoorW.PrintWords Go.Proofs.YtcmhfcciapenfaaDoor.Pa
theorem dZ (p:Nat → Bool) : ∀ (m i:Nat),bC p i m=true↔∀ j,i≤j → j < i+m → p j=true
 |0,i=>by
  simp only[bC,true_iff]
  intro j h1 h2;omega
 |m+1,i=>by
  simp only[bC,Bool.and_eq_true]
  rw[dZ p m (i+1)]
  constructor
  ·rintro⟨h1,h2⟩ j h3 h4
   by_cases e:j=i
   ·rw[e];exact h1
   ·exact h2 j (by omega) (by omega)
  ·intro h
   exact⟨h i (by omega) (by omega),fun j h1 h2=>h j (by omega) (by omega)⟩
theorem good_same (ls:List S41) (lb:List S48) (x:S45):sound_windows.good ls lb x=pylonref09_windows.good ls lb x:=by
 unfold sound_windows.good pylonref09_windows.good sound_windows.keyed pylonref09_windows.known pylonref09_windows.named sound_windows.bad pylonref09_windows.bad
 rw[List.take_length,List.take_length]
 have e1:(ls.any fun s=>decide (s.f0.data.toList=x.f0.data.toList))=(ls.any fun s=>s.f0.toList == x.f0.toList):=by
  congr 1;funext s;rw[bX,bX,Bool.eq_iff_iff];simp[Bs]
 have e2:(lb.any fun b=>decide (b.f0.data.toList=x.f4.data.toList))=(lb.any fun b=>b.f0.toList == x.f4.toList):=by
  congr 1;funext b;rw[bX,bX,Bool.eq_iff_iff];simp[Bs]
 rw[e1,e2]
 generalize (ls.any fun s=>s.f0.toList == x.f0.toList)=A
 generalize (lb.any fun b=>b.f0.toList == x.f4.toList)=B
 have e3:(decide (0≤x.f1) && decide (x.f1 < 4)) = !(decide (x.f1 < 0) || decide (3 < x.f1)):=by
  rw[Bool.eq_iff_iff];simp;omega
 generalize decide (x.f2 < 0)=b1
 generalize decide (x.f3≤x.f2)=b2
 generalize decide (1440 < x.f3)=b3
 generalize (Int.tmod x.f2 15 != 0)=b4
 generalize (Int.tmod x.f3 15 != 0)=b5
 rw[Bool.and_assoc A,e3]
 generalize decide (x.f1 < 0)=c1
 generalize decide (3 < x.f1)=c2
 cases A <;> cases B <;> cases c1 <;> cases c2 <;> cases b1 <;> cases b2 <;> cases b3 <;> cases b4 <;> cases b5 <;> rfl
theorem runs_cnt (lw:List S45) (s:ByteArray) (k q:Nat):held (sound_windows.runs lw (s.data.toList,(k:Int))) (15 * (q:Int))=pylonref09_windows.cnt lw s k q lw.length:=by
 unfold held sound_windows.runs pylonref09_windows.cnt
 rw[List.take_length,List.countP_map,List.countP_filter,List.countP_eq_length_filter]
 congr 2
 funext x
 unfold pylonref09_windows.hit inRun
 rw[bX,bX,Bool.eq_iff_iff]
 simp[Bs]
 constructor
 ·rintro⟨⟨h1,h2⟩,h3,h4⟩;exact⟨⟨⟨h3,h4⟩,h1⟩,h2⟩
 ·rintro⟨⟨⟨h3,h4⟩,h1⟩,h2⟩;exact⟨⟨h1,h2⟩,h3,h4⟩
theorem fP (ls:List S41) (lb:List S48) (lw:List S45) (hg:lw.all (sound_windows.good ls lb)=true) (s:ByteArray) (k:Nat):sound_windows.full lw (s.data.toList,(k:Int))=pylonref09_windows.pk lw s k:=by
 have hx : ∀ r∈sound_windows.runs lw (s.data.toList,(k:Int)),(0≤r.f0∧r.f0 < r.f1∧r.f1≤1440)∧Int.tmod r.f0 15=0∧Int.tmod r.f1 15=0:=by
  intro r hr
  unfold sound_windows.runs at hr
  obtain⟨x,hxm,rfl⟩:=List.mem_map.1 hr
  have hx:=List.all_eq_true.1 hg x (List.mem_filter.1 hxm).1
  unfold sound_windows.good sound_windows.bad at hx
  simp at hx
  dsimp only
  omega
 unfold sound_windows.full pylonref09_windows.pk
 rw[Bool.eq_iff_iff,eG _ 1440 (by omega) (fun r hr=>(hx r hr).1),dZ]
 have hp : ∀ q,pylonref09_windows.pq lw s k q=true↔held (sound_windows.runs lw (s.data.toList,(k:Int))) (15 * (q:Int))=1:=by
  intro q
  unfold pylonref09_windows.pq
  rw[runs_cnt,beq_iff_eq]
 constructor
 ·intro h q h1 h2
  exact(hp q).2 (h _ (by omega) (by omega))
 ·intro h d h1 h2
  have h3:=(hp (d / 15).toNat).1 (h _ (by omega) (by omega))
  have e:(((d / 15).toNat:Nat):Int)=d / 15:=by omega
  rw[e] at h3
  rw[← h3]
  unfold held
  refine List.countP_congr fun r hr=>?_
  obtain⟨⟨p1,p2,p3⟩,p4,p5⟩:=hx r hr
  rw[Int.tmod_eq_emod_of_nonneg (by omega)] at p4 p5
  unfold inRun
  simp only[Bool.and_eq_true,decide_eq_true_eq]
  omega
def bP (t:Tar):Bool:=t.f17.all (sound_windows.good t.f15 t.f18) && t.f15.all (sound_windows.fullS t.f17) && lenOk t.f17.length
theorem windows_at (t:Tar) (h:sound_windows.small t=true):sound_windows.f t=some (bP t):=by
 unfold sound_windows.f bP
 rw[if_pos h,eH]
 cases t.f17.all (sound_windows.good t.f15 t.f18) with
 |false=>simp
 |true=>
  rw[if_pos rfl]
  cases t.f15.all (sound_windows.fullS t.f17) with
  |false=>simp
  |true=>simp
theorem rwindows_at (t:Tar):pylonref09_windows.f t=some (bP t):=by
 unfold pylonref09_windows.f bP lenOk
 by_cases c1:(t.f17.length:Int) < 1
 ·rw[if_pos c1,decide_eq_false (show ¬ 1≤t.f17.length by omega)];simp
 ·rw[if_neg c1,decide_eq_true (show 1≤t.f17.length by omega)]
  by_cases c2:(t.f17.length:Int) > 64
  ·rw[if_pos c2,decide_eq_false (show ¬ t.f17.length≤64 by omega)];simp
  ·rw[if_neg c2,decide_eq_true (show t.f17.length≤64 by omega)]
   have hg:bC (pylonref09_windows.pg t.f15 t.f18 t.f17) 0 t.f17.length=t.f17.all (sound_windows.good t.f15 t.f18):=by
    rw[Bool.eq_iff_iff,dZ,List.all_eq_true]
    constructor
    ·intro h x hx
     obtain⟨j,hj,rfl⟩:=List.mem_iff_getElem.1 hx
     have:=h j (by omega) (by omega)
     unfold pylonref09_windows.pg at this
     rw[List.getD_eq_getElem?_getD,List.getElem?_eq_getElem hj] at this
     rw[good_same];exact this
    ·intro h j _ hj
     have hj' : j < t.f17.length:=by omega
     have:=h _ (List.getElem_mem hj')
     unfold pylonref09_windows.pg
     rw[List.getD_eq_getElem?_getD,List.getElem?_eq_getElem hj',← good_same];exact this
   rw[hg]
   cases hgd:t.f17.all (sound_windows.good t.f15 t.f18) with
   |false=>simp
   |true=>
    rw[if_pos rfl]
    congr 1
    rw[Bool.true_and,Bool.and_true,Bool.and_true,Bool.eq_iff_iff,dZ,List.all_eq_true]
    have hS : ∀ s:S41,sound_windows.fullS t.f17 s=true↔bC (pylonref09_windows.pk t.f17 s.f0) 0 4=true:=by
     intro s
     unfold sound_windows.fullS
     have f0:=fP t.f15 t.f18 t.f17 hgd s.f0 0
     have f1:=fP t.f15 t.f18 t.f17 hgd s.f0 1
     have f2:=fP t.f15 t.f18 t.f17 hgd s.f0 2
     have f3:=fP t.f15 t.f18 t.f17 hgd s.f0 3
     have g0:sound_windows.full t.f17 (s.f0.data.toList,0)=pylonref09_windows.pk t.f17 s.f0 0:=f0
     have g1:sound_windows.full t.f17 (s.f0.data.toList,1)=pylonref09_windows.pk t.f17 s.f0 1:=f1
     have g2:sound_windows.full t.f17 (s.f0.data.toList,2)=pylonref09_windows.pk t.f17 s.f0 2:=f2
     have g3:sound_windows.full t.f17 (s.f0.data.toList,3)=pylonref09_windows.pk t.f17 s.f0 3:=f3
     rw[g0,g1,g2,g3]
     simp only[bC,Bool.and_true,Bool.and_assoc]
    constructor
    ·intro h s hs
     obtain⟨j,hj,rfl⟩:=List.mem_iff_getElem.1 hs
     have:=h j (by omega) (by omega)
     unfold pylonref09_windows.ps at this
     rw[List.getD_eq_getElem?_getD,List.getElem?_eq_getElem hj] at this
     exact(hS _).2 this
    ·intro h j _ hj
     have hj' : j < t.f15.length:=by omega
     unfold pylonref09_windows.ps
     rw[List.getD_eq_getElem?_getD,List.getElem?_eq_getElem hj']
     exact(hS _).1 (h _ (List.getElem_mem hj'))
end Go.Proofs.YtcmhfcciapenfaaDoor.Pu
set_option linter.all false
namespace Go.Proofs.YtcmhfcciapenfaaDoor.Pu
open Go.RowKit Go.Proofs.YtcmhfcciapenfaaDoorW.PrintWords Go.Proofs.YtcmhfcciapenfaaDoor.Pa
def wi (x a b:Int):Bool:=decide (a≤x) && decide (x≤b)
theorem rwithin_at (x a b:Int):pylonref09_within.f x a b=some (wi x a b):=by
 unfold pylonref09_within.f wi
 by_cases h:x≥a
 ·rw[if_pos h,decide_eq_true (show a≤x from h)];simp
 ·rw[if_neg h,decide_eq_false (show ¬ a≤x by omega)];simp
theorem swithin_at (x a b:Int):sound_within.f x a b=some (wi x a b):=within_at x a b
def rules (t:Tar):List Bool:=[(nameL (Bs t.f0) && dU t.f1 t.f2 t.f3 t.f4 t.f5 t.f6 t.f7 t.f8 t.f9 t.f10),((wi t.f11 1 10000000 && wi t.f12 0 10000000) && wi t.f13 0 40000),wi t.f14 1 28,bR t.f15,holsOk t.f16,cK t.f18,bP t,(((wi t.f19 0 10000000 && (((t.f20 == 15) || (t.f20 == 30)) || (t.f20 == 60))) && wi t.f21 0 100) && wi t.f22 0 36),(wi t.f23 0 10000000 && wi t.f24 0 36),((wi t.f25 0 1000000000000 && wi t.f26 0 1000000000000) && wi t.f27 0 100000)]
structure Fine (t:Tar):Prop where
 name:t.f0.size≤140737488355328
 sea:t.f15.length≤1000000∧∀ s∈t.f15,i64s s
 hol:t.f16.length≤1000000
 blk:t.f18.length≤1000000∧(∀ b∈t.f18,b.f0.size≤140737488355328)∧∀ b∈t.f18,b.f1.length≤1000000
 win:sound_windows.small t=true
theorem scheck_ev (t:Tar) (h:Fine t):Ev (fun k=>sCheck.f k t) (sCheck.first (rules t) 1):=by
 obtain⟨K1,h1⟩:=zone_ev t.f1 t.f2 t.f3 t.f4 t.f5 t.f6 t.f7 t.f8 t.f9 t.f10
 obtain⟨K2,h2⟩:=hols_ev t.f16 (by have:=h.hol;omega)
 obtain⟨K3,h3⟩:=blocks_ev t.f18 (by have:=h.blk.1;omega) h.blk.2.1 (fun b hb=>by have:=h.blk.2.2 b hb;omega)
 refine⟨K1+K2+K3,fun k hk=>?_⟩
 have h1:=h1 k (by omega)
 have h2:=h2 k (by omega)
 have h3:=h3 k (by omega)
 dsimp only at h1 h2 h3 ⊢
 unfold sCheck.f rules
 simp only[name_at t.f0 (by have:=h.name;omega),h1,h2,h3,swithin_at,seasons_at t.f15 (by have:=h.sea.1;omega) h.sea.2,windows_at t h.win,Option.bind_some]
 have ez:((if dU t.f1 t.f2 t.f3 t.f4 t.f5 t.f6 t.f7 t.f8 t.f9 t.f10=true then (0:Int) else 8) == 0)=dU t.f1 t.f2 t.f3 t.f4 t.f5 t.f6 t.f7 t.f8 t.f9 t.f10:=by
  cases dU t.f1 t.f2 t.f3 t.f4 t.f5 t.f6 t.f7 t.f8 t.f9 t.f10 <;> rfl
 rw[ez]
theorem rcheck_ev (t:Tar) (h:Fine t):Ev (fun k=>rCheck.f k t) (sCheck.first (rules t) 1):=by
 obtain⟨K0,h0⟩:=fC t.f0 (by have:=h.name;omega)
 obtain⟨K1,h1⟩:=rzone_ev t.f1 t.f2 t.f3 t.f4 t.f5 t.f6 t.f7 t.f8 t.f9 t.f10
 obtain⟨K2,h2⟩:=rhols_ev t.f16 (by have:=h.hol;omega)
 obtain⟨K3,h3⟩:=rblocks_ev t.f18 h.blk.1 h.blk.2.1
 obtain⟨K4,h4⟩:=rseasons_ev t.f15 (fun s hs=>(h.sea.2 s hs).2.2)
 refine⟨K0+K1+K2+K3+K4,fun k hk=>?_⟩
 have h0:=h0 k (by omega)
 have h1:=h1 k (by omega)
 have h2:=h2 k (by omega)
 have h3:=h3 k (by omega)
 have h4:=h4 k (by omega)
 dsimp only at h0 h1 h2 h3 h4 ⊢
 unfold rCheck.f rules
 simp only[h0,h1,h2,h3,h4,rwithin_at,rwindows_at,Option.bind_some]
 have hm:(t.f20≠15∧t.f20≠30∧t.f20≠60)↔(((t.f20 == 15) || (t.f20 == 30)) || (t.f20 == 60))=false:=by
  simp only[Bool.or_eq_false_iff,beq_eq_false_iff_ne,and_assoc]
 simp only[hm]
 generalize (((t.f20 == 15) || (t.f20 == 30)) || (t.f20 == 60))=m
 generalize nameL (Bs t.f0)=a1
 generalize dU t.f1 t.f2 t.f3 t.f4 t.f5 t.f6 t.f7 t.f8 t.f9 t.f10=a2
 cases a1
 ·rfl
 cases a2
 ·rfl
 generalize wi t.f11 1 10000000=a3
 cases a3
 ·rfl
 generalize wi t.f12 0 10000000=a4
 cases a4
 ·rfl
 generalize wi t.f13 0 40000=a5
 cases a5
 ·rfl
 generalize wi t.f14 1 28=a6
 cases a6
 ·rfl
 generalize bR t.f15=a7
 cases a7
 ·rfl
 generalize holsOk t.f16=a8
 cases a8
 ·rfl
 generalize cK t.f18=a9
 cases a9
 ·rfl
 generalize bP t=a10
 cases a10
 ·rfl
 generalize wi t.f19 0 10000000=a11
 cases a11
 ·rfl
 cases m
 ·rfl
 generalize wi t.f21 0 100=a12
 cases a12
 ·rfl
 generalize wi t.f22 0 36=a13
 cases a13
 ·rfl
 generalize wi t.f23 0 10000000=a14
 cases a14
 ·rfl
 generalize wi t.f24 0 36=a15
 cases a15
 ·rfl
 generalize wi t.f25 0 1000000000000=a16
 cases a16
 ·rfl
 generalize wi t.f26 0 1000000000000=a17
 cases a17
 ·rfl
 generalize wi t.f27 0 100000=a18
 cases a18
 ·rfl
 rfl
end Go.Proofs.YtcmhfcciapenfaaDoor.Pu
set_option linter.all false
namespace Go.Proofs.YtcmhfcciapenfaaDoor.Pu
open Go.RowKit Go.Proofs.YtcmhfcciapenfaaDoorW.PrintWords Go.Proofs.YtcmhfcciapenfaaDoor.Pa
def i64 (n:Int):Prop:=(Lit.int .i64 n).wf=true
structure TarWf (t:Tar):Prop where
 w0:t.f0.size≤maxLen
 w1:i64 t.f1
 w2:i64 t.f2
 w3:i64 t.f3
 w4:i64 t.f4
 w5:i64 t.f5
 w6:i64 t.f6
 w7:i64 t.f7
 w8:i64 t.f8
 w9:i64 t.f9
 w10:i64 t.f10
 w11:i64 t.f11
 w12:i64 t.f12
 w13:i64 t.f13
 w14:i64 t.f14
 w15 : ∀ x∈t.f15,x.f0.size≤maxLen∧i64 x.f1∧i64 x.f2
 w16 : ∀ x∈t.f16,i64 x.f0∧i64 x.f1∧i64 x.f2∧i64 x.f3
 w17 : ∀ x∈t.f17,x.f0.size≤maxLen∧i64 x.f1∧i64 x.f2∧i64 x.f3∧x.f4.size≤maxLen
 w18 : ∀ x∈t.f18,x.f0.size≤maxLen∧∀ y∈x.f1,i64 y.f0∧i64 y.f1
 w19:i64 t.f19
 w20:i64 t.f20
 w21:i64 t.f21
 w22:i64 t.f22
 w23:i64 t.f23
 w24:i64 t.f24
 w25:i64 t.f25
 w26:i64 t.f26
 w27:i64 t.f27
def ruleB:Nat:=(1+(1+(1+1)))+1
def zoneB:Nat:=(1+(1+(ruleB+ruleB)))+1
def seaB (s:S41):Nat:=((s.f0.size+1)+(1+1))+1
def holB (_:S43):Nat:=(1+(1+(1+1)))+1
def winB (s:S45):Nat:=((s.f0.size+1)+(1+(1+(1+(s.f4.size+1)))))+1
def stepB (_:S70):Nat:=(1+1)+1
def blkB (s:S48):Nat:=((s.f0.size+1)+((s.f1.map stepB).sum+1))+1
def tarB (t:Tar):Nat:=((t.f0.size+1)+(zoneB+(1+(1+(1+(1+(((t.f15.map seaB).sum+1)+(((t.f16.map holB).sum+1)+(((t.f17.map winB).sum+1)+(((t.f18.map blkB).sum+1)+(((1+(1+(1+1)))+1)+(1+(1+(1+(1+1)))))))))))))))+1
theorem sum_mem {α:Type} (b:α → Nat) (l:List α) (x:α) (h:x∈l):b x≤(l.map b).sum:=by
 induction l with
 |nil=>cases h
 |cons y r ih=>
  rw[List.map_cons,List.sum_cons]
  cases h with
  |head=>omega
  |tail _ h=>have:=ih h;omega
theorem sum_len {α:Type} (b:α → Nat) (n:Nat) (hb : ∀ x,n≤b x) (l:List α):l.length * n≤(l.map b).sum:=by
 induction l with
 |nil=>simp
 |cons y r ih=>
  rw[List.map_cons,List.sum_cons,List.length_cons]
  have:=hb y
  have e:(r.length+1) * n=r.length * n+n:=by rw[Nat.add_mul,Nat.one_mul]
  omega
structure fo (t:Tar):Prop where
 s0:t.f0.size≤1048576
 s15:t.f15.length * 4≤1048576∧∀ x∈t.f15,x.f0.size≤1048576
 s16:t.f16.length * 4≤1048576
 s17:t.f17.length * 4≤1048576∧∀ x∈t.f17,x.f0.size≤1048576∧x.f4.size≤1048576
 s18:t.f18.length * 2≤1048576∧∀ x∈t.f18,x.f0.size≤1048576∧x.f1.length * 3≤1048576
theorem small_of {t:Tar} (h:tarB t≤1048576):fo t:=by
 unfold tarB at h
 have a1:=sum_len seaB 4 (fun x=>by unfold seaB;omega) t.f15
 have a2:=sum_len holB 4 (fun x=>by unfold holB;omega) t.f16
 have a3:=sum_len winB 4 (fun x=>by unfold winB;omega) t.f17
 have a4:=sum_len blkB 2 (fun x=>by unfold blkB;omega) t.f18
 refine⟨by omega,⟨by omega,fun x hx=>?_⟩,by omega,⟨by omega,fun x hx=>?_⟩,⟨by omega,fun x hx=>?_⟩⟩
 ·have:((x.f0.size+1)+(1+1))+1≤(t.f15.map seaB).sum:=sum_mem seaB _ x hx
  omega
 ·have:((x.f0.size+1)+(1+(1+(1+(x.f4.size+1)))))+1≤(t.f17.map winB).sum:=sum_mem winB _ x hx
  omega
 ·have:((x.f0.size+1)+((x.f1.map stepB).sum+1))+1≤(t.f18.map blkB).sum:=sum_mem blkB _ x hx
  have h2:=sum_len stepB 3 (fun x=>by unfold stepB;omega) x.f1
  omega
theorem fine_of {t:Tar} (w:TarWf t) (h:fo t):Fine t:=by
 have s15:=h.s15
 have s16:=h.s16
 have s17:=h.s17
 have s18:=h.s18
 have s0:=h.s0
 refine⟨by omega,⟨by omega,fun s hs=>?_⟩,by omega,⟨by omega,fun b hb=>?_,fun b hb=>?_⟩,?_⟩
 ·have h1:=w.w15 s hs
  have h2:=s15.2 s hs
  exact⟨i64_lo h1.2.1,i64_lo h1.2.2,by omega⟩
 ·have:=s18.2 b hb
  omega
 ·have:=s18.2 b hb
  omega
 ·unfold sound_windows.small sound_windows.fitsX sound_windows.fits
  simp only[Bool.and_eq_true,List.all_eq_true,decide_eq_true_eq]
  refine⟨⟨⟨⟨⟨by omega,by omega⟩,by omega⟩,fun s hs=>?_⟩,fun b hb=>?_⟩,fun x hx=>?_⟩
  ·have:=s15.2 s hs
   omega
  ·have:=s18.2 b hb
   omega
  ·have:=s17.2 x hx
   have h1:=i64_lo (w.w17 x hx).2.1
   refine⟨⟨⟨by omega,by omega⟩,h1.1⟩,?_⟩
   omega
theorem copySmall_of {t:Tar} (h:fo t):dS t=true:=by
 have s15:=h.s15
 have s16:=h.s16
 have s17:=h.s17
 have s18:=h.s18
 unfold dS
 simp only[Bool.and_eq_true,List.all_eq_true,decide_eq_true_eq]
 refine⟨⟨⟨⟨by omega,by omega⟩,by omega⟩,by omega⟩,fun b hb=>?_⟩
 have:=s18.2 b hb
 omega
end Go.Proofs.YtcmhfcciapenfaaDoor.Pu
set_option linter.all false
namespace Go.Proofs.YtcmhfcciapenfaaDoor.Pu
open Go.RowKit Go.Proofs.YtcmhfcciapenfaaDoorW.PrintWords Go.Proofs.YtcmhfcciapenfaaDoor.Pa
theorem first_all : ∀ (l:List Bool) (n:Nat),((sCheck.first l n).2=0∧∀ b∈l,b=true)∨(sCheck.first l n).2=2
 |[],n=>.inl ⟨rfl,fun b hb=>by cases hb⟩
 |b :: r,n=>by
  unfold sCheck.first
  cases b with
  |true=>
   rw[if_pos rfl]
   rcases first_all r (n+1) with ⟨h1,h2⟩|h
   ·exact .inl ⟨h1,fun b hb=>by
     cases hb with
     |head=>rfl
     |tail _ hb=>exact h2 b hb⟩
   ·exact .inr h
  |false=>exact .inr rfl
end Go.Proofs.YtcmhfcciapenfaaDoor.Pu
set_option linter.all false
namespace Go.Proofs.YtcmhfcciapenfaaDoor.Pu
open Go.RowKit Go.Proofs.YtcmhfcciapenfaaDoorW.PrintWords Go.Proofs.YtcmhfcciapenfaaDoor.Pa
theorem seaOk_nodup (l:List SeaT) : ∀ ns,seaOk l ns=true↔(∀ s∈l,dI s=true)∧(l.map snm).Nodup∧∀ s∈l,snm s ∉ ns:=by
 induction l with
 |nil=>intro ns;simp[seaOk]
 |cons b t ih=>
  intro ns
  simp only[seaOk,Bool.and_eq_true,Bool.not_eq_true',decide_eq_false_iff_not,ih,List.map_cons,List.nodup_cons,List.mem_cons,List.mem_map]
  constructor
  ·rintro⟨⟨h1,h2⟩,h3,h4,h5⟩
   refine⟨fun s hs=>hs.elim (fun e=>e ▸ h2) (h3 s),⟨?_,h4⟩,fun s hs=>hs.elim (fun e=>e ▸ h1) (fun hs q=>h5 s hs (.inr q))⟩
   rintro⟨s,hs,e⟩
   exact h5 s hs (.inl e)
  ·rintro⟨h1,⟨h2,h3⟩,h4⟩
   refine⟨⟨h4 b (.inl rfl),h1 b (.inl rfl)⟩,fun s hs=>h1 s (.inr hs),h3,fun s hs q=>?_⟩
   rcases q with q|q
   ·exact h2 ⟨s,hs,q⟩
   ·exact h4 s (.inr hs) q
theorem goOk_nodup (l:List BlkT) : ∀ ns,goOk l ns=true↔(∀ s∈l,eX s=true)∧(l.map bnm).Nodup∧∀ s∈l,bnm s ∉ ns:=by
 induction l with
 |nil=>intro ns;simp[goOk]
 |cons b t ih=>
  intro ns
  simp only[goOk,Bool.and_eq_true,Bool.not_eq_true',decide_eq_false_iff_not,ih,List.map_cons,List.nodup_cons,List.mem_cons,List.mem_map]
  constructor
  ·rintro⟨⟨h1,h2⟩,h3,h4,h5⟩
   refine⟨fun s hs=>hs.elim (fun e=>e ▸ h2) (h3 s),⟨?_,h4⟩,fun s hs=>hs.elim (fun e=>e ▸ h1) (fun hs q=>h5 s hs (.inr q))⟩
   rintro⟨s,hs,e⟩
   exact h5 s hs (.inl e)
  ·rintro⟨h1,⟨h2,h3⟩,h4⟩
   refine⟨⟨h4 b (.inl rfl),h1 b (.inl rfl)⟩,fun s hs=>h1 s (.inr hs),h3,fun s hs q=>?_⟩
   rcases q with q|q
   ·exact h2 ⟨s,hs,q⟩
   ·exact h4 s (.inr hs) q
theorem runs_fine {ls:List S41} {lb:List S48} {lw:List S45} (hg:lw.all (sound_windows.good ls lb)=true) (q:DK) : ∀ r∈sound_windows.runs lw q,0≤r.f0∧r.f0 < r.f1∧r.f1≤1440:=by
 intro r hr
 unfold sound_windows.runs at hr
 obtain⟨x,hxm,rfl⟩:=List.mem_map.1 hr
 have hx:=List.all_eq_true.1 hg x (List.mem_filter.1 hxm).1
 unfold sound_windows.good sound_windows.bad at hx
 simp at hx
 dsimp only
 omega
end Go.Proofs.YtcmhfcciapenfaaDoor.Pu
set_option linter.all false
namespace Go.Proofs.YtcmhfcciapenfaaDoor.Pu
open Go.RowKit Go.Proofs.YtcmhfcciapenfaaDoorW.PrintWords Go.Proofs.YtcmhfcciapenfaaDoor.Pa
theorem bW : ∀ (l:List Bool) (n k:Nat),(∀ j,j < k → l[j]? = some true) → l[k]? = some false → sCheck.first l n=(((n+k:Nat):Int),2)
 |[],n,k,_,h=>by simp at h
 |b :: r,n,0,_,h=>by
  simp at h
  subst h
  rfl
 |b :: r,n,k+1,h0,h=>by
  have hb:b=true:=by simpa using h0 0 (by omega)
  subst hb
  unfold sCheck.first
  rw[if_pos rfl,bW r (n+1) k (fun j hj=>by simpa using h0 (j+1) (by omega)) (by simpa using h)]
  congr 2
  omega
structure AllOk (t:Tar):Prop where
 a1:(nameL (Bs t.f0) && dU t.f1 t.f2 t.f3 t.f4 t.f5 t.f6 t.f7 t.f8 t.f9 t.f10)=true
 a2:((wi t.f11 1 10000000 && wi t.f12 0 10000000) && wi t.f13 0 40000)=true
 a3:wi t.f14 1 28=true
 a4:bR t.f15=true
 a5:holsOk t.f16=true
 a6:cK t.f18=true
 a7:bP t=true
 a8:(((wi t.f19 0 10000000 && (((t.f20 == 15) || (t.f20 == 30)) || (t.f20 == 60))) && wi t.f21 0 100) && wi t.f22 0 36)=true
 a9:(wi t.f23 0 10000000 && wi t.f24 0 36)=true
 a10:((wi t.f25 0 1000000000000 && wi t.f26 0 1000000000000) && wi t.f27 0 100000)=true
theorem allOk_of {t:Tar} (h : ∀ b∈rules t,b=true):AllOk t:=by
 unfold rules at h
 exact⟨h _ (by simp),h _ (by simp),h _ (by simp),h _ (by simp),h _ (by simp),h _ (by simp),h _ (by simp),h _ (by simp),h _ (by simp),h _ (by simp)⟩
theorem sea_twice (l:List SeaT) (h:l≠[]):bR (l ++ [l.getD 0 z41])=false:=by
 have:seaOk (l ++ [l.getD 0 z41]) []=false:=by
  cases hq:seaOk (l ++ [l.getD 0 z41]) [] with
  |false=>rfl
  |true=>
   exfalso
   have h2:=((seaOk_nodup _ _).1 hq).2.1
   rw[List.map_append,List.nodup_append] at h2
   cases l with
   |nil=>exact h rfl
   |cons a r=>exact h2.2.2 (snm a) (by simp) (snm a) (by simp) rfl
 unfold bR
 rw[this]
 rfl
theorem sea_drop (l:List SeaT) (h:bR l=true):bR (l.drop 1)=false:=by
 cases hq:bR (l.drop 1) with
 |false=>rfl
 |true=>
  exfalso
  unfold bR at h hq
  simp only[Bool.and_eq_true,List.all_eq_true] at h hq
  cases l with
  |nil=>
   have:=hq.1.2
   unfold lenOk at this
   simp at this
  |cons s r=>
   have hg:=seaOk_good _ _ h.1.1 s List.mem_cons_self
   unfold dI at hg
   simp only[Bool.and_eq_true,decide_eq_true_eq] at hg
   have hd:1≤(dayR s.f1).1∧(dayR s.f1).1≤366:=by
    rcases fe s.f1 with q|q
    ·exact q.2
    ·rw[q] at hg;exact absurd hg.1.1 (by decide)
   have e1:=h.2 ((dayR s.f1).1 - 1).toNat (List.mem_range.2 (by omega))
   have e2:=hq.2 ((dayR s.f1).1 - 1).toNat (List.mem_range.2 (by omega))
   rw[show((((dayR s.f1).1 - 1).toNat:Nat):Int)+1=(dayR s.f1).1 by omega] at e1 e2
   rw[beq_iff_eq] at e1 e2
   unfold dC at e1 e2
   simp only[List.drop_succ_cons,List.drop_zero] at e2
   rw[List.countP_cons,e2] at e1
   have hin:pylonref09_seasons.inside (dayR s.f1).1 (dayR s.f2).1 (dayR s.f1).1=true:=by
    unfold pylonref09_seasons.inside
    by_cases hle:(dayR s.f1).1≤(dayR s.f2).1
    ·simp[hle]
    ·have:(dayR s.f2).1 < (dayR s.f1).1:=by omega
     simp[this]
   rw[if_pos hin] at e1
   omega
theorem hol_four (l:List HolT):holsOk (⟨4,0,0,0⟩ :: l)=false:=by
 unfold holsOk
 rw[List.all_cons]
 have:holOk 4 0 0 0=false:=by decide
 show(holOk 4 0 0 0 && _ && _)=false
 rw[this]
 rfl
theorem blk_bare (b:BlkT) (l:List BlkT):cK ({ b with f1:=[] } :: l)=false:=by
 have:eX { b with f1:=[] } = false:=by
  unfold eX cu
  simp[lenOk]
 unfold cK goOk
 rw[this]
 simp
theorem win_drop (t:Tar) (h:bP t=true):bP { t with f17:=t.f17.drop 1 } = false:=by
 cases hq:bP { t with f17:=t.f17.drop 1 } with
 |false=>rfl
 |true=>
  exfalso
  unfold bP at h hq
  simp only[Bool.and_eq_true] at h hq
  obtain⟨⟨h1,h2⟩,h3⟩:=h
  obtain⟨⟨q1,q2⟩,q3⟩:=hq
  generalize t.f17=lw at *
  cases lw with
 |nil=>simp[lenOk] at h3
 |cons w r=>
   simp only[List.drop_succ_cons,List.drop_zero] at q1 q2
   have hw:=List.all_eq_true.1 h1 w List.mem_cons_self
   unfold sound_windows.good at hw
   simp only[Bool.and_eq_true] at hw
   obtain⟨⟨hk,_⟩,_⟩:=hw
   unfold sound_windows.keyed at hk
   simp only[Bool.and_eq_true,List.any_eq_true,decide_eq_true_eq] at hk
   obtain⟨⟨⟨s,hs,hse⟩,k0⟩,k4⟩:=hk
   have hf : ∀ lw',(t.f15.all (sound_windows.fullS lw'))=true → sound_windows.full lw' (w.f0.data.toList,w.f1)=true:=by
    intro lw' hl
    have h4:=List.all_eq_true.1 hl s hs
    unfold sound_windows.fullS at h4
    simp only[Bool.and_eq_true,hse] at h4
    obtain⟨⟨⟨c0,c1⟩,c2⟩,c3⟩:=h4
    have:w.f1=0∨w.f1=1∨w.f1=2∨w.f1=3:=by omega
    rcases this with e|e|e|e <;> rw[e] <;> assumption
   have f1:=hf _ h2
   have f2:=hf _ q2
   unfold sound_windows.full at f1 f2
   have b1:=runs_fine h1 (w.f0.data.toList,w.f1)
   have b2:=runs_fine q1 (w.f0.data.toList,w.f1)
   have hmem:(⟨w.f2,w.f3⟩ : RunT)∈sound_windows.runs (w :: r) (w.f0.data.toList,w.f1):=by
    unfold sound_windows.runs
    exact List.mem_map.2 ⟨w,List.mem_filter.2 ⟨List.mem_cons_self,by simp⟩,rfl⟩
   have hb:=b1 _ hmem
   dsimp only at hb
   have e1:=(eG _ 1440 (by omega) b1).1 f1 w.f2 (by omega) (by omega)
   have e2:=(eG _ 1440 (by omega) b2).1 f2 w.f2 (by omega) (by omega)
   have hr:sound_windows.runs (w :: r) (w.f0.data.toList,w.f1)=⟨w.f2,w.f3⟩ :: sound_windows.runs r (w.f0.data.toList,w.f1):=by
    unfold sound_windows.runs
    rw[List.filter_cons,if_pos (by simp)]
    rfl
   rw[hr,dG,e2,if_pos (by unfold inRun;simp;omega)] at e1
   omega
theorem win_bucket (t:Tar) (hb:cK t.f18=true) (w:S45) (r:List S45) (hw:24 < w.f4.data.toList.length):bP { t with f17:=w :: r } = false:=by
 cases hq:bP { t with f17:=w :: r } with
 |false=>rfl
 |true=>
  exfalso
  unfold bP at hq
  simp only[Bool.and_eq_true] at hq
  have h1:=List.all_eq_true.1 hq.1.1 w List.mem_cons_self
  unfold sound_windows.good at h1
  simp only[Bool.and_eq_true,List.any_eq_true,decide_eq_true_eq] at h1
  obtain⟨⟨_,b,hbm,hbe⟩,_⟩:=h1
  unfold cK at hb
  simp only[Bool.and_eq_true] at hb
  have hg:=((goOk_nodup _ _).1 hb.1).1 b hbm
  unfold eX nameL at hg
  simp only[Bool.and_eq_true,decide_eq_true_eq] at hg
  have h24:(bnm b).length≤24:=hg.1.1.1.2
  have:bnm b=b.f0.data.toList:=rfl
  rw[this,hbe] at h24
  omega
theorem mod_first (t:Tar) (h:AllOk t) (n17:t.f17≠[]) (n15:t.f15≠[]) : ∀ i,i < 14 → sCheck.first (rules (modT t i)) 1=(ruleOf i,2):=by
 intro i hi
 match i,hi with
 |0,_=>
   refine bW (rules (modT t 0)) 1 0 (fun j hj=>?_) (congrArg some ?_)
   ·match j,hj with|j,hj=>exact absurd hj (by omega)
   ·rfl
 |1,_=>
   refine bW (rules (modT t 1)) 1 0 (fun j hj=>?_) (congrArg some ?_)
   ·match j,hj with|j,hj=>exact absurd hj (by omega)
   ·show(nameL (Bs t.f0) && dU 7 t.f2 t.f3 t.f4 t.f5 t.f6 t.f7 t.f8 t.f9 t.f10)=false
    have:dU 7 t.f2 t.f3 t.f4 t.f5 t.f6 t.f7 t.f8 t.f9 t.f10=false:=by simp[dU]
    rw[this,Bool.and_false]
 |2,_=>
   refine bW (rules (modT t 2)) 1 1 (fun j hj=>?_) (congrArg some ?_)
   ·match j,hj with
   |0,_=>exact congrArg some h.a1
   ·show((wi 0 1 10000000 && wi t.f12 0 10000000) && wi t.f13 0 40000)=false
    simp[wi]
 |3,_=>
   refine bW (rules (modT t 3)) 1 1 (fun j hj=>?_) (congrArg some ?_)
   ·match j,hj with
   |0,_=>exact congrArg some h.a1
   ·show((wi t.f11 1 10000000 && wi t.f12 0 10000000) && wi (-1) 0 40000)=false
    simp[wi]
 |4,_=>
   refine bW (rules (modT t 4)) 1 2 (fun j hj=>?_) (congrArg some ?_)
   ·match j,hj with
   |0,_=>exact congrArg some h.a1
   |1,_=>exact congrArg some h.a2
   ·rfl
 |5,_=>
   refine bW (rules (modT t 5)) 1 3 (fun j hj=>?_) (congrArg some ?_)
   ·match j,hj with
   |0,_=>exact congrArg some h.a1
   |1,_=>exact congrArg some h.a2
   |2,_=>exact congrArg some h.a3
   ·exact sea_twice t.f15 n15
 |6,_=>
   refine bW (rules (modT t 6)) 1 3 (fun j hj=>?_) (congrArg some ?_)
   ·match j,hj with
   |0,_=>exact congrArg some h.a1
   |1,_=>exact congrArg some h.a2
   |2,_=>exact congrArg some h.a3
   ·exact sea_drop t.f15 h.a4
 |7,_=>
   refine bW (rules (modT t 7)) 1 4 (fun j hj=>?_) (congrArg some ?_)
   ·match j,hj with
   |0,_=>exact congrArg some h.a1
   |1,_=>exact congrArg some h.a2
   |2,_=>exact congrArg some h.a3
   |3,_=>exact congrArg some h.a4
   ·exact hol_four t.f16
 |8,_=>
   refine bW (rules (modT t 8)) 1 5 (fun j hj=>?_) (congrArg some ?_)
   ·match j,hj with
   |0,_=>exact congrArg some h.a1
   |1,_=>exact congrArg some h.a2
   |2,_=>exact congrArg some h.a3
   |3,_=>exact congrArg some h.a4
   |4,_=>exact congrArg some h.a5
   ·exact blk_bare _ _
 |9,_=>
   refine bW (rules (modT t 9)) 1 6 (fun j hj=>?_) (congrArg some ?_)
   ·match j,hj with
   |0,_=>exact congrArg some h.a1
   |1,_=>exact congrArg some h.a2
   |2,_=>exact congrArg some h.a3
   |3,_=>exact congrArg some h.a4
   |4,_=>exact congrArg some h.a5
   |5,_=>exact congrArg some h.a6
   ·exact win_drop t h.a7
 |10,_=>
   refine bW (rules (modT t 10)) 1 6 (fun j hj=>?_) (congrArg some ?_)
   ·match j,hj with
   |0,_=>exact congrArg some h.a1
   |1,_=>exact congrArg some h.a2
   |2,_=>exact congrArg some h.a3
   |3,_=>exact congrArg some h.a4
   |4,_=>exact congrArg some h.a5
   |5,_=>exact congrArg some h.a6
   ·exact win_bucket t h.a6 _ _ (Nat.le_of_ble_eq_true rfl)
 |11,_=>
   refine bW (rules (modT t 11)) 1 7 (fun j hj=>?_) (congrArg some ?_)
   ·match j,hj with
   |0,_=>exact congrArg some h.a1
   |1,_=>exact congrArg some h.a2
   |2,_=>exact congrArg some h.a3
   |3,_=>exact congrArg some h.a4
   |4,_=>exact congrArg some h.a5
   |5,_=>exact congrArg some h.a6
   |6,_=>exact congrArg some h.a7
   ·show(((wi t.f19 0 10000000 && ((((45:Int) == 15) || ((45:Int) == 30)) || ((45:Int) == 60))) && wi t.f21 0 100) && wi t.f22 0 36)=false
    simp
 |12,_=>
   refine bW (rules (modT t 12)) 1 8 (fun j hj=>?_) (congrArg some ?_)
   ·match j,hj with
   |0,_=>exact congrArg some h.a1
   |1,_=>exact congrArg some h.a2
   |2,_=>exact congrArg some h.a3
   |3,_=>exact congrArg some h.a4
   |4,_=>exact congrArg some h.a5
   |5,_=>exact congrArg some h.a6
   |6,_=>exact congrArg some h.a7
   |7,_=>exact congrArg some h.a8
   ·show(wi t.f23 0 10000000 && wi 37 0 36)=false
    simp[wi]
 |13,_=>
   refine bW (rules (modT t 13)) 1 9 (fun j hj=>?_) (congrArg some ?_)
   ·match j,hj with
   |0,_=>exact congrArg some h.a1
   |1,_=>exact congrArg some h.a2
   |2,_=>exact congrArg some h.a3
   |3,_=>exact congrArg some h.a4
   |4,_=>exact congrArg some h.a5
   |5,_=>exact congrArg some h.a6
   |6,_=>exact congrArg some h.a7
   |7,_=>exact congrArg some h.a8
   |8,_=>exact congrArg some h.a9
   ·show((wi t.f25 0 1000000000000 && wi t.f26 0 1000000000000) && wi 100001 0 100000)=false
    simp[wi]
theorem mod_fine (t:Tar) (w:TarWf t) (h:fo t) (n15:t.f15≠[]) (n17:t.f17≠[]) (n18:t.f18≠[]) (i:Nat) (hi:i < 14):Fine (modT t i):=by
 have hF:=fine_of w h
 obtain⟨F1,F2,F3,F4,F5⟩:=hF
 have h15:=h.s15
 have h16:=h.s16
 have h17:=h.s17
 have h18:=h.s18
 have small5:=F5
 unfold sound_windows.small at F5
 simp only[Bool.and_eq_true,decide_eq_true_eq] at F5
 obtain⟨⟨⟨⟨⟨A1,A2⟩,A3⟩,A4⟩,A5⟩,A6⟩:=F5
 have m15:t.f15.getD 0 z41∈t.f15:=by
  cases e:t.f15 with
  |nil=>exact absurd e n15
  |cons a r=>exact List.mem_cons_self
 have m17:t.f17.getD 0 z45∈t.f17:=by
  cases e:t.f17 with
  |nil=>exact absurd e n17
  |cons a r=>exact List.mem_cons_self
 have m18:t.f18.getD 0 z48∈t.f18:=by
  cases e:t.f18 with
  |nil=>exact absurd e n18
  |cons a r=>exact List.mem_cons_self
 match i,hi with
 |0,_=>exact⟨Nat.zero_le _,F2,F3,F4,small5⟩
 |1,_=>exact⟨F1,F2,F3,F4,small5⟩
 |2,_=>exact⟨F1,F2,F3,F4,small5⟩
 |3,_=>exact⟨F1,F2,F3,F4,small5⟩
 |4,_=>exact⟨F1,F2,F3,F4,small5⟩
 |11,_=>exact⟨F1,F2,F3,F4,small5⟩
 |12,_=>exact⟨F1,F2,F3,F4,small5⟩
 |13,_=>exact⟨F1,F2,F3,F4,small5⟩
 |5,_=>
  refine⟨F1,⟨?_,fun s hs=>?_⟩,F3,F4,?_⟩
  ·show(t.f15 ++ [t.f15.getD 0 z41]).length≤1000000
   rw[List.length_append];simp;omega
  ·rcases List.mem_append.1 hs with q|q
   ·exact F2.2 s q
   ·rw[List.mem_singleton.1 q];exact F2.2 _ m15
  ·show sound_windows.small { t with f15:=t.f15 ++ [t.f15.getD 0 z41] } = true
   unfold sound_windows.small
   simp only[Bool.and_eq_true,decide_eq_true_eq]
   refine⟨⟨⟨⟨⟨?_,A2⟩,A3⟩,?_⟩,A5⟩,A6⟩
   ·rw[List.length_append];simp;omega
   ·rw[List.all_append,A4]
    simp only[List.all_cons,List.all_nil,Bool.and_true,Bool.true_and]
    exact List.all_eq_true.1 A4 _ m15
 |6,_=>
  refine⟨F1,⟨?_,fun s hs=>F2.2 s (List.mem_of_mem_drop hs)⟩,F3,F4,?_⟩
  ·show(t.f15.drop 1).length≤1000000
   rw[List.length_drop];omega
  ·show sound_windows.small { t with f15:=t.f15.drop 1 } = true
   unfold sound_windows.small
   simp only[Bool.and_eq_true,decide_eq_true_eq]
   refine⟨⟨⟨⟨⟨by rw[List.length_drop];omega,A2⟩,A3⟩,?_⟩,A5⟩,A6⟩
   exact List.all_eq_true.2 fun s hs=>List.all_eq_true.1 A4 s (List.mem_of_mem_drop hs)
 |7,_=>
  refine⟨F1,F2,?_,F4,small5⟩
  show((⟨4,0,0,0⟩ : S43) :: t.f16).length≤1000000
  rw[List.length_cons];omega
 |8,_=>
  refine⟨F1,F2,F3,⟨?_,fun b hb=>?_,fun b hb=>?_⟩,?_⟩
  ·show(t.f18.drop 1).length+1≤1000000
   rw[List.length_drop];omega
  ·rcases List.mem_cons.1 hb with q|q
   ·have:=F4.2.1 (t.f18.getD 0 z48) m18
    rw[q];exact this
   ·exact F4.2.1 b (List.mem_of_mem_drop q)
  ·rcases List.mem_cons.1 hb with q|q
   ·rw[q];exact Nat.zero_le _
   ·exact F4.2.2 b (List.mem_of_mem_drop q)
  ·show sound_windows.small { t with f18:={ (t.f18.getD 0 z48) with f1:=[] } :: t.f18.drop 1 } = true
   unfold sound_windows.small
   simp only[Bool.and_eq_true,decide_eq_true_eq]
   refine⟨⟨⟨⟨⟨A1,A2⟩,by rw[List.length_cons,List.length_drop];omega⟩,A4⟩,?_⟩,A6⟩
   rw[List.all_cons,Bool.and_eq_true]
   exact⟨List.all_eq_true.1 A5 (t.f18.getD 0 z48) m18,List.all_eq_true.2 fun s hs=>List.all_eq_true.1 A5 s (List.mem_of_mem_drop hs)⟩
 |9,_=>
  refine⟨F1,F2,F3,F4,?_⟩
  show sound_windows.small { t with f17:=t.f17.drop 1 } = true
  unfold sound_windows.small
  simp only[Bool.and_eq_true,decide_eq_true_eq]
  refine⟨⟨⟨⟨⟨A1,by rw[List.length_drop];omega⟩,A3⟩,A4⟩,A5⟩,?_⟩
  exact List.all_eq_true.2 fun s hs=>List.all_eq_true.1 A6 s (List.mem_of_mem_drop hs)
 |10,_=>
  refine⟨F1,F2,F3,F4,?_⟩
  show sound_windows.small { t with f17:={ (t.f17.getD 0 z45) with f4:=_ } :: t.f17.drop 1 } = true
  unfold sound_windows.small
  simp only[Bool.and_eq_true,decide_eq_true_eq]
  refine⟨⟨⟨⟨⟨A1,by rw[List.length_cons,List.length_drop];omega⟩,A3⟩,A4⟩,A5⟩,?_⟩
  rw[List.all_cons,Bool.and_eq_true]
  refine⟨?_,List.all_eq_true.2 fun s hs=>List.all_eq_true.1 A6 s (List.mem_of_mem_drop hs)⟩
  have hx:=List.all_eq_true.1 A6 _ m17
  unfold sound_windows.fitsX at hx ⊢
  simp only[Bool.and_eq_true] at hx ⊢
  exact⟨⟨⟨hx.1.1.1,rfl⟩,hx.1.2⟩,hx.2⟩
theorem mod_len (t:Tar) (h:fo t) (i:Nat) (hi:i < 14):eu (modT t i):=by
 have h15:=h.s15
 have h16:=h.s16
 have h17:=h.s17
 have h18:=h.s18
 have hb : ∀ b∈t.f18,b.f1.length≤9223372036854775807:=fun b hb=>by have:=h18.2 b hb;omega
 have base:eu t:=⟨by omega,by omega,by omega,by omega,hb⟩
 match i,hi with
 |0,_=>exact⟨base.l15,base.l16,base.l17,base.l18,hb⟩
 |1,_=>exact⟨base.l15,base.l16,base.l17,base.l18,hb⟩
 |2,_=>exact⟨base.l15,base.l16,base.l17,base.l18,hb⟩
 |3,_=>exact⟨base.l15,base.l16,base.l17,base.l18,hb⟩
 |4,_=>exact⟨base.l15,base.l16,base.l17,base.l18,hb⟩
 |11,_=>exact⟨base.l15,base.l16,base.l17,base.l18,hb⟩
 |12,_=>exact⟨base.l15,base.l16,base.l17,base.l18,hb⟩
 |13,_=>exact⟨base.l15,base.l16,base.l17,base.l18,hb⟩
 |5,_=>exact⟨by show(t.f15 ++ [t.f15.getD 0 z41]).length≤_;rw[List.length_append];simp;omega,base.l16,base.l17,base.l18,hb⟩
 |6,_=>exact⟨by show(t.f15.drop 1).length≤_;rw[List.length_drop];omega,base.l16,base.l17,base.l18,hb⟩
 |7,_=>exact⟨base.l15,by show t.f16.length+1≤_;omega,base.l17,base.l18,hb⟩
 |8,_=>exact⟨base.l15,base.l16,base.l17,by show(t.f18.drop 1).length+1≤_;rw[List.length_drop];omega,fun b h=>by
   rcases List.mem_cons.1 h with q|q
   ·rw[q];exact Nat.zero_le _
   ·exact hb b (List.mem_of_mem_drop q)⟩
 |9,_=>exact⟨base.l15,base.l16,by show(t.f17.drop 1).length≤_;rw[List.length_drop];omega,base.l18,hb⟩
 |10,_=>exact⟨base.l15,base.l16,by show(t.f17.drop 1).length+1≤_;rw[List.length_drop];omega,base.l18,hb⟩
theorem which_idx (a:Int):cO a < 14∧IntKind.i64.wrap ((IntKind.u64.wrap a).tmod 14)=(cO a:Int):=by
 unfold cO
 have h0:0≤IntKind.u64.wrap a:=by rw[IntKind.wrap_u64];omega
 rw[Int.tmod_eq_emod_of_nonneg h0,i64_wrap (by omega) (by omega)]
 omega
theorem soundRules (t:Tar) (which:Int) (w:TarWf t) (_:(Lit.int .i64 which).wf=true) (hb:tarB t≤1048576) : ∃ k,pylonlaw09_SoundRules.f k t which=some true:=by
 have hs:=small_of hb
 have hF:=fine_of w hs
 obtain⟨K1,h1⟩:=rcheck_ev t hF
 obtain⟨hi,hw⟩:=which_idx which
 have s15:=hs.s15
 have s16:=hs.s16
 have s17:=hs.s17
 have s18:=hs.s18
 have hfit:rulesFit t which:=⟨⟨by omega,by omega,by omega,by omega,fun b hb=>by have:=s18.2 b hb;omega⟩,copySmall_of hs,⟨by omega,by omega⟩,hi,hw,mod_len t hs _ hi⟩
 rcases first_all (rules t) 1 with ⟨h,ha⟩|h
 ·have hA:=allOk_of ha
  have n15:t.f15≠[]:=fun e=>by have:=hA.a4;rw[e] at this;simp[bR,lenOk] at this
  have n17:t.f17≠[]:=fun e=>by have:=hA.a7;unfold bP at this;rw[e] at this;simp[lenOk] at this
  have n18:t.f18≠[]:=fun e=>by have:=hA.a6;rw[e] at this;simp[cK,lenOk] at this
  obtain⟨K2,h2⟩:=scheck_ev (modT t (cO which)) (mod_fine t w hs n15 n17 n18 _ hi)
  have h1:=h1 (K1+K2) (by omega)
  have h2:=h2 (K1+K2) (by omega)
  dsimp only at h1 h2
  refine⟨K1+K2,?_⟩
  unfold pylonlaw09_SoundRules.f
  rw[if_pos hfit,h1]
  simp only[Option.bind_some]
  rw[if_pos h,if_pos ⟨n15,n17,n18⟩,h2,mod_first t hA n17 n15 _ hi]
  simp
 ·have h1:=h1 K1 (Nat.le_refl _)
  dsimp only at h1
  refine⟨K1,?_⟩
  unfold pylonlaw09_SoundRules.f
  rw[if_pos hfit,h1]
  simp only[Option.bind_some]
  rw[if_neg (by rw[h];decide)]
end Go.Proofs.YtcmhfcciapenfaaDoor.Pu
