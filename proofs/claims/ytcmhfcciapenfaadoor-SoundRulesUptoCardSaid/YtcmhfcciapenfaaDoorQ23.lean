/- A part of the proof. -/
import Derived.Test.YtcmhfcciapenfaaDoorQ19
import Derived.Test.YtcmhfcciapenfaaDoorQ11
import Derived.Test.YtcmhfcciapenfaaDoorQ21
set_option linter.all false
namespace Go.Proofs.YtcmhfcciapenfaaDoor.Pu
open Go.RowKit Go.Proofs.YtcmhfcciapenfaaDoorW.PrintWords Go.Proofs.YtcmhfcciapenfaaDoor.Pa
def dbef (m:Int):Int:=[0,0,31,60,91,121,152,182,213,244,274,305,335].getD m.toNat 0
def dlen (m:Int):Int:=if m=2 then 29 else if m=4 then 30 else if m=6 then 30 else if m=9 then 30 else if m=11 then 30 else 31
def dayR (a:Int):Int × Int:=if 101≤a∧a≤1231∧1≤a % 100∧a % 100≤dlen (a / 100) then (dbef (a / 100)+a % 100,0) else (0,8)
theorem day_in : ∀ n:Fin 1131,sound_Day.f (n.val+101:Nat)=some (dayR (n.val+101:Nat)):=by decide +kernel
theorem rday_in : ∀ n:Fin 1131,pylonref09_Day.f 20 (n.val+101:Nat)=some (dayR (n.val+101:Nat)):=by decide +kernel
theorem dayR_in : ∀ n:Fin 1131,(dayR (n.val+101:Nat)).2=0∧1≤(dayR (n.val+101:Nat)).1∧(dayR (n.val+101:Nat)).1≤366∨(dayR (n.val+101:Nat))=(0,8):=by decide +kernel
theorem dayR_out {a:Int} (h:a < 101∨1231 < a):dayR a=(0,8):=by
 unfold dayR
 rw[if_neg (by omega)]
theorem fe (a:Int):((dayR a).2=0∧1≤(dayR a).1∧(dayR a).1≤366)∨dayR a=(0,8):=by
 by_cases h:101≤a∧a≤1231
 ·have:=dayR_in ⟨(a - 101).toNat,by omega⟩
  have e:(((a - 101).toNat+101:Nat):Int)=a:=by omega
  rw[e] at this
  exact this
 ·exact .inr (dayR_out (by omega))
theorem fH {y m:Int} (h:m < 1∨12 < m):civil_Length.f y m=some (0,5):=by
 unfold civil_Length.f
 repeat' split
 all_goals first|rfl|omega
theorem day_at (a:Int) (h0 : -9223372036854775808≤a) (h1:a≤9223372036854775807):sound_Day.f a=some (dayR a):=by
 by_cases h:101≤a∧a≤1231
 ·have:=day_in ⟨(a - 101).toNat,by omega⟩
  have e:(((a - 101).toNat+101:Nat):Int)=a:=by omega
  rw[e] at this
  exact this
 ·rw[dayR_out (by omega)]
  have key:civil_good.f 2000 (wrap64 (Int.tdiv a 100)) (Int.tmod a 100)=some false:=by
   have hqr:Int.tdiv a 100 * 100+Int.tmod a 100=a:=by have:=Int.mul_tdiv_add_tmod a 100;omega
   have hr : -100 < Int.tmod a 100∧Int.tmod a 100 < 100:=⟨by have:=Int.lt_tmod_of_pos a (b:=100) (by omega);omega,Int.tmod_lt_of_pos a (by omega)⟩
   have hw:wrap64 (Int.tdiv a 100)=Int.tdiv a 100:=w64 (by omega) (by omega)
   rw[hw]
   unfold civil_good.f
   by_cases hm:Int.tdiv a 100 < 1∨12 < Int.tdiv a 100
   ·rw[fH hm]
    rfl
   ·by_cases h100:Int.tdiv a 100=1
    ·have h0:Int.tmod a 100 < 1:=by omega
     rw[h100]
     have:civil_Length.f 2000 1=some (31,0):=by decide +kernel
     rw[this]
     simp only[Option.bind_some,if_true]
     rw[if_neg (by omega)]
    ·have e12:Int.tdiv a 100=12:=by omega
     have hd:31 < Int.tmod a 100:=by omega
     rw[e12]
     have:civil_Length.f 2000 12=some (31,0):=by decide +kernel
     rw[this]
     simp only[Option.bind_some,if_true]
     rw[if_pos (by omega),decide_eq_false (by omega)]
  unfold sound_Day.f civil_YearDay.f civil_Days.f
  rw[key]
  rfl
theorem rday_ev (a:Int):Ev (fun k=>pylonref09_Day.f k a) (dayR a):=by
 refine Ev.of (k:=20) (fun k=>pylonref09_Day.mono _ _) ?_
 by_cases h:101≤a∧a≤1231
 ·have:=rday_in ⟨(a - 101).toNat,by omega⟩
  have e:(((a - 101).toNat+101:Nat):Int)=a:=by omega
  rw[e] at this
  exact this
 ·rw[dayR_out (by omega)]
  unfold pylonref09_Day.f
  by_cases h2:a < 101
  ·rw[if_pos h2];rfl
  ·rw[if_neg h2,decide_eq_true (by omega)];rfl
def holdsR (s t d:Int × Int):Bool:=if d.2=0∧s.2=0∧t.2=0 then (if s.1≤t.1 then decide (s.1≤d.1) && decide (d.1≤t.1) else decide (s.1≤d.1) || decide (d.1≤t.1)) else false
theorem holds_ev (n:ByteArray) (a b d:Int) (ha : -9223372036854775808≤a∧a≤9223372036854775807) (hb : -9223372036854775808≤b∧b≤9223372036854775807) (hd : -9223372036854775808≤d∧d≤9223372036854775807) :
  Ev (fun k=>sound_Holds.f k n a b d) (holdsR (dayR a) (dayR b) (dayR d)):=by
 refine Ev.of (k:=1) (fun k=>sound_Holds.mono _ _ _ _ _) ?_
 unfold sound_Holds.f
 rw[day_at a ha.1 ha.2,day_at b hb.1 hb.2,day_at d hd.1 hd.2]
 simp only[Option.bind_some]
 generalize dayR a=s
 generalize dayR b=t
 generalize dayR d=u
 unfold holdsR
 by_cases c1:u.2=0
 ·by_cases c2:s.2=0
  ·by_cases c3:t.2=0
   ·rw[if_pos c1,if_pos c2,if_pos ⟨c1,c2,c3⟩,c3]
    simp only[bne_self_eq_false,sound_Holds.j0,pylonref09_Holds.j0,Bool.false_eq_true,if_false]
    repeat' split
    all_goals simp[*]
   ·rw[if_pos c1,if_pos c2,if_neg (fun h=>c3 h.2.2)]
    have e:(t.2 != 0)=true:=by simpa using c3
    rw[e]
    rfl
  ·rw[if_pos c1,if_neg c2,if_neg (fun h=>c2 h.2.1)];rfl
 ·rw[if_neg c1,if_neg (fun h=>c1 h.1)];rfl
end Go.Proofs.YtcmhfcciapenfaaDoor.Pu
