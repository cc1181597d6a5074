/- A part of the proof. -/
import Derived.Test.YtcmhfcciapenfaaDoorQ43
import Derived.Test.YtcmhfcciapenfaaDoorQ44
namespace Go.Proofs.YtcmhfcciapenfaaDoor.Pu
open Go.RowKit Go.Proofs.YtcmhfcciapenfaaDoorW.PrintWords Go.Proofs.YtcmhfcciapenfaaDoor.Pa
abbrev SeaT:=S41
def snm (s:SeaT):List UInt8:=Bs s.f0
def dL (s:SeaT):Bool:=decide ((dayR s.f1).2=0) && decide ((dayR s.f2).2=0) && nameL (snm s)
def seaOk:List SeaT → List (List UInt8) → Bool
 |[],_=>true
 |s :: t,ns=>!decide (snm s∈ns) && dL s && seaOk t (snm s :: ns)
def dB (s:SeaT):List RunT:=if (dayR s.f1).1≤(dayR s.f2).1 then [⟨(dayR s.f1).1 - 1,(dayR s.f2).1⟩] else [⟨(dayR s.f1).1 - 1,366⟩,⟨0,(dayR s.f2).1⟩]
def i64s (s:SeaT):Prop:=(-9223372036854775808≤s.f1∧s.f1≤9223372036854775807)∧(-9223372036854775808≤s.f2∧s.f2≤9223372036854775807)∧s.f0.size≤140737488355328
theorem sea_go (l:List SeaT) (hb : ∀ s∈l,i64s s) : ∀ (ns:List (List UInt8)) (rs:List RunT),sound_seasons.go l ns rs=some (cond (seaOk l ns) (some (rs ++ l.flatMap dB)) none):=by
 induction l with
 |nil=>intro ns rs;simp[sound_seasons.go,seaOk]
 |cons s t ih=>
  intro ns rs
  obtain⟨h1,h2,h3⟩:=hb s List.mem_cons_self
  have hnm:s.f0.data.toList=snm s:=rfl
  have iht:=ih (fun x hx=>hb x (List.mem_cons_of_mem _ hx))
  simp only[sound_seasons.go,seaOk,dL,day_at s.f1 h1.1 h1.2,day_at s.f2 h2.1 h2.2,Option.bind_some]
  by_cases c1:(dayR s.f1).2=0
  ·by_cases c2:(dayR s.f2).2=0
   ·rw[if_neg (by simpa using c1),if_neg (by simpa using c2),if_pos h3,hnm,decide_eq_true c1,decide_eq_true c2]
    by_cases c3:snm s∈ns
    ·rw[if_pos c3,decide_eq_true c3];simp
    ·rw[if_neg c3,decide_eq_false c3,name_at s.f0 (by omega)]
     have:Bs s.f0=snm s:=rfl
     rw[this]
     simp only[Option.bind_some]
     cases hn:nameL (snm s) with
     |false=>simp
     |true=>
      have b1:=(eG s.f1).resolve_right (fun e=>by rw[e] at c1;cases c1)
      have b2:=(eG s.f2).resolve_right (fun e=>by rw[e] at c2;cases c2)
      have hw:wrap64 ((dayR s.f1).1 - 1)=(dayR s.f1).1 - 1:=w64 (by omega) (by omega)
      rw[if_neg (by simp),hw]
      by_cases c4:(dayR s.f1).1≤(dayR s.f2).1
      ·rw[if_pos c4,iht]
       have hr:dB s = [⟨(dayR s.f1).1 - 1,(dayR s.f2).1⟩]:=by unfold dB;rw[if_pos c4]
       simp[List.flatMap_cons,hr]
      ·rw[if_neg c4,iht]
       have hr:dB s = [⟨(dayR s.f1).1 - 1,366⟩,⟨0,(dayR s.f2).1⟩]:=by unfold dB;rw[if_neg c4]
       simp[List.flatMap_cons,hr]
   ·rw[if_neg (by simpa using c1),if_pos c2,decide_eq_false c2];simp
  ·rw[if_pos c1,decide_eq_false c1];simp
def seaHeld (l:List SeaT) (d:Int):Nat:=l.countP (fun s=>pylonref09_seasons.inside (dayR s.f1).1 (dayR s.f2).1 d)
theorem runs_in (s:SeaT) (h:dL s=true) : ∀ r∈dB s,0≤r.f0∧r.f0 < r.f1∧r.f1≤366:=by
 simp only[dL,Bool.and_eq_true,decide_eq_true_eq] at h
 have b1:=(eG s.f1).resolve_right (fun e=>by rw[e] at h;cases h.1.1)
 have b2:=(eG s.f2).resolve_right (fun e=>by rw[e] at h;cases h.1.2)
 intro r hr
 unfold dB at hr
 split at hr
 ·simp only[List.mem_cons,List.not_mem_nil,or_false] at hr
  subst hr
  dsimp only
  omega
 ·simp only[List.mem_cons,List.not_mem_nil,or_false] at hr
  rcases hr with rfl|rfl <;> dsimp only <;> omega
theorem runs_held (s:SeaT) (h:dL s=true) (d:Int) (h1:1≤d) (h2:d≤366):held (dB s) (d - 1)=if pylonref09_seasons.inside (dayR s.f1).1 (dayR s.f2).1 d=true then 1 else 0:=by
 simp only[dL,Bool.and_eq_true,decide_eq_true_eq] at h
 have b1:=(eG s.f1).resolve_right (fun e=>by rw[e] at h;cases h.1.1)
 have b2:=(eG s.f2).resolve_right (fun e=>by rw[e] at h;cases h.1.2)
 unfold dB pylonref09_seasons.inside
 generalize (dayR s.f1).1=a at b1 ⊢
 generalize (dayR s.f2).1=b at b2 ⊢
 by_cases c:a≤b
 ·rw[if_pos c,dE]
  have e0:held [] (d - 1)=0:=rfl
  rw[e0,Nat.zero_add]
  have hx:inRun (d - 1) ⟨a - 1,b⟩=(decide (a≤d) && decide (d≤b)):=by
   unfold inRun
   dsimp only
   congr 1 <;> rw[decide_eq_decide] <;> omega
  rw[hx,decide_eq_true c,decide_eq_false (show ¬ b < a by omega)]
  simp
 ·rw[if_neg c,dE,dE]
  have e0:held [] (d - 1)=0:=rfl
  rw[e0,Nat.zero_add]
  have hx:inRun (d - 1) ⟨a - 1,366⟩=decide (a≤d):=by
   unfold inRun
   dsimp only
   rw[← Bool.decide_and,decide_eq_decide]
   omega
  have hy:inRun (d - 1) ⟨0,b⟩=decide (d≤b):=by
   unfold inRun
   dsimp only
   rw[← Bool.decide_and,decide_eq_decide]
   omega
  rw[hx,hy,decide_eq_false c,decide_eq_true (show b < a by omega)]
  by_cases c1:a≤d
  ·rw[decide_eq_true c1,decide_eq_false (show ¬ d≤b by omega)];simp
  ·rw[decide_eq_false c1];simp
theorem seaOk_good (l:List SeaT) : ∀ ns,seaOk l ns=true → ∀ s∈l,dL s=true:=by
 induction l with
 |nil=>intro _ _ s hs;cases hs
 |cons b t ih=>
  intro ns h s hs
  simp only[seaOk,Bool.and_eq_true] at h
  rcases List.mem_cons.1 hs with rfl|hs
  ·exact h.1.2
  ·exact ih _ h.2 s hs
theorem all_held (l:List SeaT) (h : ∀ s∈l,dL s=true) (d:Int) (h1:1≤d) (h2:d≤366):held (l.flatMap dB) (d - 1)=seaHeld l d:=by
 induction l with
 |nil=>rfl
 |cons s t ih=>
  unfold seaHeld
  rw[List.flatMap_cons,List.countP_cons]
  have ht:=ih (fun x hx=>h x (List.mem_cons_of_mem _ hx))
  have hs:=runs_held s (h s List.mem_cons_self) d h1 h2
  unfold held at ht hs ⊢
  rw[List.countP_append,ht,hs]
  unfold seaHeld
  omega
def seasonsOk (l:List SeaT):Bool:=seaOk l [] && lenOk l.length && (List.range 366).all (fun d=>seaHeld l ((d:Int)+1) == 1)
theorem seasons_at (l:List SeaT) (hl:l.length≤4398046511104) (hb : ∀ s∈l,i64s s):sound_seasons.f l=some (seasonsOk l):=by
 unfold sound_seasons.f seasonsOk
 rw[if_pos hl,sea_go l hb]
 simp only[Option.bind_some,List.nil_append]
 cases hs:seaOk l [] with
 |false=>simp
 |true=>
  simp only[cond_true]
  rw[dM]
  simp only[Option.bind_some]
  cases hn:lenOk l.length with
  |false=>simp
  |true=>
   rw[if_pos rfl]
   have hg:=seaOk_good l [] hs
   have hr : ∀ r∈l.flatMap dB,0≤r.f0∧r.f0 < r.f1∧r.f1≤366:=by
    intro r hr
    obtain⟨s,hs,hr⟩:=List.mem_flatMap.1 hr
    exact runs_in s (hg s hs) r hr
   have hlen:(l.flatMap dB).length≤2 * l.length:=by
    clear hr hg hn hs hb hl
    induction l with
    |nil=>simp
    |cons s t ih=>
     rw[List.flatMap_cons,List.length_append,List.length_cons]
     have:(dB s).length≤2:=by unfold dB;split <;> simp
     omega
   have hn' : l.length≤64:=by simp[lenOk] at hn;exact hn.2
   rw[tiles_at _ 366 (by omega) hr]
   congr 1
   rw[Bool.eq_iff_iff,tiles_held _ 366 (by omega) hr]
   rw[Bool.true_and,Bool.true_and,List.all_eq_true]
   constructor
   ·intro h d hd
    have hd:=List.mem_range.1 hd
    have h1:=h (d:Int) (by omega) (by omega)
    have h2:=all_held l hg ((d:Int)+1) (by omega) (by omega)
    rw[show((d:Int)+1 - 1)=(d:Int) by omega] at h2
    rw[beq_iff_eq,← h2];exact h1
   ·intro h d h1 h2
    have h3:=h d.toNat (List.mem_range.2 (by omega))
    have h4:=all_held l hg (d+1) (by omega) (by omega)
    rw[show(d+1 - 1)=d by omega] at h4
    rw[h4]
    have e:((d.toNat:Nat):Int)=d:=by omega
    rw[beq_iff_eq,e] at h3
    exact h3
end Go.Proofs.YtcmhfcciapenfaaDoor.Pu
