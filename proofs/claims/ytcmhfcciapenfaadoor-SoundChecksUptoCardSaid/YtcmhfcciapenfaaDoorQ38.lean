/- A part of the proof. -/
import Derived.Test.YtcmhfcciapenfaaDoorQ22
import Derived.Test.YtcmhfcciapenfaaDoorQ15
import Derived.Test.YtcmhfcciapenfaaDoorQ31
namespace Go.Proofs.YtcmhfcciapenfaaDoor.Pu
open Go.RowKit Go.Proofs.YtcmhfcciapenfaaDoorW.PrintWords Go.Proofs.YtcmhfcciapenfaaDoor.Pa
abbrev StepT:=S70
def gI (n:Int):Bool:=decide (-10000000≤n) && decide (n≤10000000)
def dP:List StepT → Int → Bool
 |[],_=>true
 |[s],_=>decide (s.f0=0) && gI s.f1
 |s :: t :: r,b=>decide (b < s.f0) && decide (s.f0≤500000000000000) && gI s.f1 && dP (t :: r) s.f0
def lenOk (n:Nat):Bool:=decide (1≤n) && decide (n≤64)
theorem within_at (x a b:Int):sound_within.f x a b=some (decide (a≤x) && decide (x≤b)):=by
 unfold sound_within.f
 by_cases h:x≥a
 ·rw[if_pos h,decide_eq_true (show a≤x from h)];simp
 ·rw[if_neg h,decide_eq_false (show ¬ a≤x by omega)];simp
theorem rdT_drop {xs:List StepT} {i:Nat} {s:StepT} {r:List StepT} (h:xs.drop i=s :: r):aZ xs (i:Int)=s:=by
 unfold aZ
 have h1:(xs.drop i)[0]? = some s:=by rw[h];rfl
 rw[List.getElem?_drop,Nat.add_zero] at h1
 rw[Int.toNat_natCast,List.getD_eq_getElem?_getD,h1]
 rfl
theorem fC (n:Nat):sound_within.f (n:Int) 1 64=some (lenOk n):=by
 rw[within_at]
 unfold lenOk
 congr 2 <;> rw[decide_eq_decide] <;> omega
theorem steps_loop (xs:List StepT) (hn:xs.length≤9223372036854775806) (r:List StepT) : ∀ (k i:Nat) (b:Int),0≤b → xs.drop i=r → i≤xs.length → r.length < k → sound_steps.l0 k xs b xs (xs.length:Int) (i:Int)=some (dP r b && lenOk xs.length):=by
 induction r with
 |nil=>
  intro k i b hb hd hi hk
  obtain⟨k,rfl⟩ : ∃ m,k=m+1:=⟨k - 1,by simp at hk;omega⟩
  have hl:=dW hd hi
  simp only[List.length_nil,Nat.add_zero] at hl
  simp only[sound_steps.l0]
  rw[if_neg (by omega),fC]
  simp[dP]
 |cons s r ih=>
  intro k i b hb hd hi hk
  obtain⟨k,rfl⟩ : ∃ m,k=m+1:=⟨k - 1,by simp at hk;omega⟩
  have hlt:=gz hd
  have hlen:=dW hd hi
  simp only[List.length_cons] at hk hlen
  have e:wrap64 ((i:Int)+1)=((i+1:Nat):Int):=by rw[w64 (by omega) (by omega)];omega
  have el:wrap64 ((xs.length:Int) - 1)=(xs.length:Int) - 1:=w64 (by omega) (by omega)
  have hnext : ∀ b',0≤b' → sound_steps.l0 k xs b' xs (xs.length:Int) ((i+1:Nat):Int)=some (dP r b' && lenOk xs.length):=fun b' hb'=>ih k (i+1) b' hb' (eB hd) (by omega) (by omega)
  simp only[sound_steps.l0]
  rw[if_pos (by omega),if_pos (by omega),if_pos (by omega),rdT_drop hd,el,e,within_at]
  have hrate:(decide (-10000000≤s.f1) && decide (s.f1≤10000000))=gI s.f1:=rfl
  rw[hrate]
  simp only[Option.bind_some]
  cases r with
  |nil=>
   have hi1:(i:Int)=(xs.length:Int) - 1:=by simp at hlen;omega
   rw[if_pos hi1]
   by_cases c1:s.f0=0
   ·rw[hi1,c1]
    simp only[beq_self_eq_true,bne_self_eq_false,Bool.false_eq_true,if_false,dP]
    rw[decide_eq_true c1,Bool.true_and]
    cases hr:gI s.f1 with
    |true=>rw[if_pos rfl,hnext 0 (by omega)];simp[dP]
    |false=>rw[if_neg (by simp)];simp
   ·rw[hi1]
    have:(s.f0 == 0)=false:=by simpa using c1
    rw[this]
    simp[dP,c1]
  |cons t r=>
   have hi1 : ¬ ((i:Int)=(xs.length:Int) - 1):=by simp at hlen;omega
   have hi2:((i:Int) == (xs.length:Int) - 1)=false:=by simpa using hi1
   rw[if_neg hi1,hi2]
   simp only[dP]
   by_cases c1:s.f0=0
   ·rw[c1]
    simp
    intro h1;omega
   ·have c1b:(s.f0 == 0)=false:=by simpa using c1
    rw[c1b]
    simp only[bne_self_eq_false,Bool.false_eq_true,if_false]
    by_cases c2:s.f0≤b
    ·rw[if_pos c2,decide_eq_false (show ¬ b < s.f0 by omega)];simp
    ·rw[if_neg c2,decide_eq_true (show b < s.f0 by omega)]
     by_cases c3:s.f0 > 500000000000000
     ·rw[if_pos c3,decide_eq_false (show ¬ s.f0≤500000000000000 by omega)];simp
     ·rw[if_neg c3,decide_eq_true (show s.f0≤500000000000000 by omega)]
      cases hr:gI s.f1 with
      |true=>rw[if_pos rfl,hnext s.f0 (by omega)];simp
      |false=>rw[if_neg (by simp)];simp
def dA (xs:List StepT):Bool:=dP xs 0 && lenOk xs.length
theorem steps_ev (xs:List StepT) (hn:xs.length≤9223372036854775806):Ev (fun k=>sound_steps.f k xs) (dA xs):=
 Ev.of (k:=xs.length+1) (fun k=>sound_steps.mono _ _) (by
  unfold sound_steps.f
  have:=steps_loop xs hn xs (xs.length+1) 0 0 (by omega) rfl (by omega) (by omega)
  exact this)
theorem good_loop (xs:List StepT) (hn:xs.length≤64) (r:List StepT) : ∀ (k i:Nat) (b:Int),0≤b → xs.drop i=r → i < xs.length → 2 * r.length < k → pylonref17_Good.l0 k xs b (xs.length:Int) (i:Int)=some (dP r b):=by
 induction r with
 |nil=>
  intro k i b hb hd hi hk
  have hl:=dW hd (by omega)
  simp only[List.length_nil] at hl
  omega
 |cons s r ih=>
  intro k i b hb hd hi hk
  obtain⟨k,rfl⟩ : ∃ m,k=m+2:=⟨k - 2,by simp at hk;omega⟩
  have hlt:=gz hd
  have hlen:=dW hd (by omega)
  simp only[List.length_cons] at hk hlen
  have e:wrap64 ((i:Int)+1)=((i+1:Nat):Int):=by rw[w64 (by omega) (by omega)];omega
  have el:wrap64 ((xs.length:Int) - 1)=(xs.length:Int) - 1:=w64 (by omega) (by omega)
  have hj : ∀ x,pylonref17_Good.j2 (k+1) xs b (i:Int) (xs.length:Int) (i:Int) x s.f0 s.f1=some (if x=true then false else if r = [] then decide (s.f0=0) else decide (b < s.f0) && decide (s.f0≤500000000000000) && dP r s.f0):=by
   intro x
   simp only[pylonref17_Good.j2,el,e]
   cases x with
   |true=>simp
   |false=>
    simp only[Bool.false_eq_true,if_false]
    by_cases hr:r = []
    ·subst hr
     rw[if_pos (by simp at hlen;omega),if_pos rfl]
     congr 1
    ·have hrl:0 < r.length:=List.length_pos_iff.2 hr
     rw[if_neg (by omega),if_neg hr]
     by_cases c2:s.f0≤b
     ·rw[if_pos c2,decide_eq_false (show ¬ b < s.f0 by omega)];simp
     ·rw[if_neg c2,decide_eq_true (show b < s.f0 by omega)]
      by_cases c3:s.f0 > 500000000000000
      ·rw[if_pos c3,decide_eq_false (show ¬ s.f0≤500000000000000 by omega)];simp
      ·rw[if_neg c3,decide_eq_true (show s.f0≤500000000000000 by omega),ih k (i+1) s.f0 (by omega) (eB hd) (by omega) (by omega)]
       simp
  simp only[pylonref17_Good.l0]
  rw[if_pos (by omega),if_pos (by omega),if_pos (by omega),rdT_drop hd,hj,hj]
  have hst:dP (s :: r) b=(gI s.f1 && (if r = [] then decide (s.f0=0) else decide (b < s.f0) && decide (s.f0≤500000000000000) && dP r s.f0)):=by
   cases r with
   |nil=>simp[dP,Bool.and_comm]
   |cons t r=>
    simp only[dP]
    rw[if_neg (by simp)]
    cases gI s.f1 <;> simp
  rw[hst]
  unfold gI
  by_cases c1:s.f1 < -10000000
  ·rw[if_pos c1,decide_eq_false (show ¬ -10000000≤s.f1 by omega)];simp
  ·rw[if_neg c1,decide_eq_true (show -10000000≤s.f1 by omega)]
   by_cases c2:s.f1 > 10000000
   ·rw[decide_eq_true c2,decide_eq_false (show ¬ s.f1≤10000000 by omega)];simp
   ·rw[decide_eq_false c2,decide_eq_true (show s.f1≤10000000 by omega)];simp
theorem good_ev17 (xs:List StepT):Ev (fun k=>pylonref17_Good.f k xs) (dA xs):=by
 refine Ev.of (k:=2 * xs.length+3) (fun k=>pylonref17_Good.mono _ _) ?_
 unfold pylonref17_Good.f dA lenOk
 by_cases c1:(xs.length:Int) < 1
 ·rw[if_pos c1,decide_eq_false (show ¬ 1≤xs.length by omega)]
  simp[pylonref17_Good.j0]
 ·rw[if_neg c1,decide_eq_true (show 1≤xs.length by omega)]
  by_cases c2:(xs.length:Int) > 64
  ·rw[decide_eq_true c2,decide_eq_false (show ¬ xs.length≤64 by omega)]
   simp[pylonref17_Good.j0]
  ·rw[decide_eq_false c2,decide_eq_true (show xs.length≤64 by omega)]
   simp only[pylonref17_Good.j0,Bool.false_eq_true,if_false]
   have:=good_loop xs (by omega) xs (2 * xs.length+2) 0 0 (by omega) rfl (by omega) (by omega)
   have e0:((0:Nat):Int)=0:=rfl
   rw[e0] at this
   rw[this]
   simp
end Go.Proofs.YtcmhfcciapenfaaDoor.Pu
