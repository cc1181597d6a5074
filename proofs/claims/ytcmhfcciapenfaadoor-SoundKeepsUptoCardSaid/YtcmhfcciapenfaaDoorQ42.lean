/- A part of the proof. -/
import Derived.Test.YtcmhfcciapenfaaDoorQ19
import Derived.Test.YtcmhfcciapenfaaDoorQ12
import Derived.Test.YtcmhfcciapenfaaDoorQ21
namespace Go.Proofs.YtcmhfcciapenfaaDoor.Pu
open Go.RowKit Go.Proofs.YtcmhfcciapenfaaDoorW.PrintWords Go.Proofs.YtcmhfcciapenfaaDoor.Pa
abbrev StepT:=S70
def rateOk (n:Int):Bool:=decide (-10000000≤n) && decide (n≤10000000)
def dW:List StepT → Int → Bool
 |[],_=>true
 |[s],_=>decide (s.f0=0) && rateOk s.f1
 |s :: t :: r,b=>decide (b < s.f0) && decide (s.f0≤500000000000000) && rateOk s.f1 && dW (t :: r) s.f0
def lenOk (n:Nat):Bool:=decide (1≤n) && decide (n≤64)
theorem within_at (x a b:Int):sound_within.f x a b=some (decide (a≤x) && decide (x≤b)):=by
 unfold sound_within.f
 by_cases h:x≥a
 ·rw[if_pos h,decide_eq_true (show a≤x from h)];simp
 ·rw[if_neg h,decide_eq_false (show ¬ a≤x by omega)];simp
theorem rdT_drop {xs:List StepT} {i:Nat} {s:StepT} {r:List StepT} (h:xs.drop i=s :: r):bg xs (i:Int)=s:=by
 unfold bg
 have h1:(xs.drop i)[0]? = some s:=by rw[h];rfl
 rw[List.getElem?_drop,Nat.add_zero] at h1
 rw[Int.toNat_natCast,List.getD_eq_getElem?_getD,h1]
 rfl
theorem dM (n:Nat):sound_within.f (n:Int) 1 64=some (lenOk n):=by
 rw[within_at]
 unfold lenOk
 congr 2 <;> rw[decide_eq_decide] <;> omega
theorem steps_loop (xs:List StepT) (hn:xs.length≤9223372036854775806) (r:List StepT) : ∀ (k i:Nat) (b:Int),0≤b → xs.drop i=r → i≤xs.length → r.length < k → sound_steps.l0 k xs b xs (xs.length:Int) (i:Int)=some (dW r b && lenOk xs.length):=by
 induction r with
 |nil=>
  intro k i b hb hd hi hk
  obtain⟨k,rfl⟩ : ∃ m,k=m+1:=⟨k - 1,by simp at hk;omega⟩
  have hl:=drop_len hd hi
  simp only[List.length_nil,Nat.add_zero] at hl
  simp only[sound_steps.l0]
  rw[if_neg (by omega),dM]
  simp[dW]
 |cons s r ih=>
  intro k i b hb hd hi hk
  obtain⟨k,rfl⟩ : ∃ m,k=m+1:=⟨k - 1,by simp at hk;omega⟩
  have hlt:=drop_lt hd
  have hlen:=drop_len hd hi
  simp only[List.length_cons] at hk hlen
  have e:wrap64 ((i:Int)+1)=((i+1:Nat):Int):=by rw[w64 (by omega) (by omega)];omega
  have el:wrap64 ((xs.length:Int) - 1)=(xs.length:Int) - 1:=w64 (by omega) (by omega)
  have hnext : ∀ b',0≤b' → sound_steps.l0 k xs b' xs (xs.length:Int) ((i+1:Nat):Int)=some (dW r b' && lenOk xs.length):=fun b' hb'=>ih k (i+1) b' hb' (drop_succ hd) (by omega) (by omega)
  simp only[sound_steps.l0]
  rw[if_pos (by omega),if_pos (by omega),if_pos (by omega),rdT_drop hd,el,e,within_at]
  have hrate:(decide (-10000000≤s.f1) && decide (s.f1≤10000000))=rateOk s.f1:=rfl
  rw[hrate]
  simp only[Option.bind_some]
  cases r with
  |nil=>
   have hi1:(i:Int)=(xs.length:Int) - 1:=by simp at hlen;omega
   rw[if_pos hi1]
   by_cases c1:s.f0=0
   ·rw[hi1,c1]
    simp only[beq_self_eq_true,bne_self_eq_false,Bool.false_eq_true,if_false,dW]
    rw[decide_eq_true c1,Bool.true_and]
    cases hr:rateOk s.f1 with
    |true=>rw[if_pos rfl,hnext 0 (by omega)];simp[dW]
    |false=>rw[if_neg (by simp)];simp
   ·rw[hi1]
    have:(s.f0 == 0)=false:=by simpa using c1
    rw[this]
    simp[dW,c1]
  |cons t r=>
   have hi1 : ¬ ((i:Int)=(xs.length:Int) - 1):=by simp at hlen;omega
   have hi2:((i:Int) == (xs.length:Int) - 1)=false:=by simpa using hi1
   rw[if_neg hi1,hi2]
   simp only[dW]
   by_cases c1:s.f0=0
   ·rw[c1]
    simp
    intro h1;omega
   ·have c1b:(s.f0 == 0)=false:=by simpa using c1
    rw[c1b]
    simp only[bne_self_eq_false,Bool.false_eq_true,if_false]
    by_cases c2:s.f0≤b
    ·rw[if_pos c2,decide_eq_false (show ¬ b < s.f0 by omega)];simp
    ·rw[if_neg c2,decide_eq_true (show b < s.f0 by omega)]
     by_cases c3:s.f0 > 500000000000000
     ·rw[if_pos c3,decide_eq_false (show ¬ s.f0≤500000000000000 by omega)];simp
     ·rw[if_neg c3,decide_eq_true (show s.f0≤500000000000000 by omega)]
      cases hr:rateOk s.f1 with
      |true=>rw[if_pos rfl,hnext s.f0 (by omega)];simp
      |false=>rw[if_neg (by simp)];simp
def dK (xs:List StepT):Bool:=dW xs 0 && lenOk xs.length
theorem steps_ev (xs:List StepT) (hn:xs.length≤9223372036854775806):Ev (fun k=>sound_steps.f k xs) (dK xs):=
 Ev.of (k:=xs.length+1) (fun k=>sound_steps.mono _ _) (by
  unfold sound_steps.f
  have:=steps_loop xs hn xs (xs.length+1) 0 0 (by omega) rfl (by omega) (by omega)
  exact this)
end Go.Proofs.YtcmhfcciapenfaaDoor.Pu
