/- A part of the proof. -/
import Derived.Test.YtcmhfcciapenfaaDoorQ39
import Derived.Test.YtcmhfcciapenfaaDoorQ40
namespace Go.Proofs.YtcmhfcciapenfaaDoor.Pu
open Go.RowKit Go.Proofs.YtcmhfcciapenfaaDoorW.PrintWords Go.Proofs.YtcmhfcciapenfaaDoor.Pa
abbrev SeaT:=S41
def snm (s:SeaT):List UInt8:=Bs s.f0
def eH (s:SeaT):Bool:=decide ((dayR s.f1).2=0) && decide ((dayR s.f2).2=0) && nameL (snm s)
def seaOk:List SeaT → List (List UInt8) → Bool
 |[],_=>true
 |s :: t,ns=>!decide (snm s∈ns) && eH s && seaOk t (snm s :: ns)
theorem seaOk_congr (l:List SeaT) : ∀ (ns ns' : List (List UInt8)),(∀ x,x∈ns↔x∈ns') → seaOk l ns=seaOk l ns':=by
 induction l with
 |nil=>intro _ _ _;rfl
 |cons b t ih=>
  intro ns ns' h
  simp only[seaOk]
  rw[ih (snm b :: ns) (snm b :: ns') (fun x=>by simp[h x])]
  have:decide (snm b∈ns)=decide (snm b∈ns'):=decide_eq_decide.2 (h _)
  rw[this]
def dS (s:SeaT):List RunT:=if (dayR s.f1).1≤(dayR s.f2).1 then [⟨(dayR s.f1).1 - 1,(dayR s.f2).1⟩] else [⟨(dayR s.f1).1 - 1,366⟩,⟨0,(dayR s.f2).1⟩]
def i64s (s:SeaT):Prop:=(-9223372036854775808≤s.f1∧s.f1≤9223372036854775807)∧(-9223372036854775808≤s.f2∧s.f2≤9223372036854775807)∧s.f0.size≤140737488355328
theorem sea_go (l:List SeaT) (hb : ∀ s∈l,i64s s) : ∀ (ns:List (List UInt8)) (rs:List RunT),sound_seasons.go l ns rs=some (cond (seaOk l ns) (some (rs ++ l.flatMap dS)) none):=by
 induction l with
 |nil=>intro ns rs;simp[sound_seasons.go,seaOk]
 |cons s t ih=>
  intro ns rs
  obtain⟨h1,h2,h3⟩:=hb s List.mem_cons_self
  have hnm:s.f0.data.toList=snm s:=rfl
  have iht:=ih (fun x hx=>hb x (List.mem_cons_of_mem _ hx))
  simp only[sound_seasons.go,seaOk,eH,gp s.f1 h1.1 h1.2,gp s.f2 h2.1 h2.2,Option.bind_some]
  by_cases c1:(dayR s.f1).2=0
  ·by_cases c2:(dayR s.f2).2=0
   ·rw[if_neg (by simpa using c1),if_neg (by simpa using c2),if_pos h3,hnm,decide_eq_true c1,decide_eq_true c2]
    by_cases c3:snm s∈ns
    ·rw[if_pos c3,decide_eq_true c3];simp
    ·rw[if_neg c3,decide_eq_false c3,name_at s.f0 (by omega)]
     have:Bs s.f0=snm s:=rfl
     rw[this]
     simp only[Option.bind_some]
     cases hn:nameL (snm s) with
     |false=>simp
     |true=>
      have b1:=(gD s.f1).resolve_right (fun e=>by rw[e] at c1;cases c1)
      have b2:=(gD s.f2).resolve_right (fun e=>by rw[e] at c2;cases c2)
      have hw:wrap64 ((dayR s.f1).1 - 1)=(dayR s.f1).1 - 1:=w64 (by omega) (by omega)
      rw[if_neg (by simp),hw]
      by_cases c4:(dayR s.f1).1≤(dayR s.f2).1
      ·rw[if_pos c4,iht]
       have hr:dS s = [⟨(dayR s.f1).1 - 1,(dayR s.f2).1⟩]:=by unfold dS;rw[if_pos c4]
       simp[List.flatMap_cons,hr]
      ·rw[if_neg c4,iht]
       have hr:dS s = [⟨(dayR s.f1).1 - 1,366⟩,⟨0,(dayR s.f2).1⟩]:=by unfold dS;rw[if_neg c4]
       simp[List.flatMap_cons,hr]
   ·rw[if_neg (by simpa using c1),if_pos c2,decide_eq_false c2];simp
  ·rw[if_pos c1,decide_eq_false c1];simp
def dQ (l:List SeaT) (d:Int):Nat:=l.countP (fun s=>pylonref09_seasons.inside (dayR s.f1).1 (dayR s.f2).1 d)
theorem runs_in (s:SeaT) (h:eH s=true) : ∀ r∈dS s,0≤r.f0∧r.f0 < r.f1∧r.f1≤366:=by
 simp only[eH,Bool.and_eq_true,decide_eq_true_eq] at h
 have b1:=(gD s.f1).resolve_right (fun e=>by rw[e] at h;cases h.1.1)
 have b2:=(gD s.f2).resolve_right (fun e=>by rw[e] at h;cases h.1.2)
 intro r hr
 unfold dS at hr
 split at hr
 ·simp only[List.mem_cons,List.not_mem_nil,or_false] at hr
  subst hr
  dsimp only
  omega
 ·simp only[List.mem_cons,List.not_mem_nil,or_false] at hr
  rcases hr with rfl|rfl <;> dsimp only <;> omega
theorem runs_held (s:SeaT) (h:eH s=true) (d:Int) (h1:1≤d) (h2:d≤366):held (dS s) (d - 1)=if pylonref09_seasons.inside (dayR s.f1).1 (dayR s.f2).1 d=true then 1 else 0:=by
 simp only[eH,Bool.and_eq_true,decide_eq_true_eq] at h
 have b1:=(gD s.f1).resolve_right (fun e=>by rw[e] at h;cases h.1.1)
 have b2:=(gD s.f2).resolve_right (fun e=>by rw[e] at h;cases h.1.2)
 unfold dS pylonref09_seasons.inside
 generalize (dayR s.f1).1=a at b1 ⊢
 generalize (dayR s.f2).1=b at b2 ⊢
 by_cases c:a≤b
 ·rw[if_pos c,dZ]
  have e0:held [] (d - 1)=0:=rfl
  rw[e0,Nat.zero_add]
  have hx:inRun (d - 1) ⟨a - 1,b⟩=(decide (a≤d) && decide (d≤b)):=by
   unfold inRun
   dsimp only
   congr 1 <;> rw[decide_eq_decide] <;> omega
  rw[hx,decide_eq_true c,decide_eq_false (show ¬ b < a by omega)]
  simp
 ·rw[if_neg c,dZ,dZ]
  have e0:held [] (d - 1)=0:=rfl
  rw[e0,Nat.zero_add]
  have hx:inRun (d - 1) ⟨a - 1,366⟩=decide (a≤d):=by
   unfold inRun
   dsimp only
   rw[← Bool.decide_and,decide_eq_decide]
   omega
  have hy:inRun (d - 1) ⟨0,b⟩=decide (d≤b):=by
   unfold inRun
   dsimp only
   rw[← Bool.decide_and,decide_eq_decide]
   omega
  rw[hx,hy,decide_eq_false c,decide_eq_true (show b < a by omega)]
  by_cases c1:a≤d
  ·rw[decide_eq_true c1,decide_eq_false (show ¬ d≤b by omega)];simp
  ·rw[decide_eq_false c1];simp
theorem seaOk_good (l:List SeaT) : ∀ ns,seaOk l ns=true → ∀ s∈l,eH s=true:=by
 induction l with
 |nil=>intro _ _ s hs;cases hs
 |cons b t ih=>
  intro ns h s hs
  simp only[seaOk,Bool.and_eq_true] at h
  rcases List.mem_cons.1 hs with rfl|hs
  ·exact h.1.2
  ·exact ih _ h.2 s hs
theorem all_held (l:List SeaT) (h : ∀ s∈l,eH s=true) (d:Int) (h1:1≤d) (h2:d≤366):held (l.flatMap dS) (d - 1)=dQ l d:=by
 induction l with
 |nil=>rfl
 |cons s t ih=>
  unfold dQ
  rw[List.flatMap_cons,List.countP_cons]
  have ht:=ih (fun x hx=>h x (List.mem_cons_of_mem _ hx))
  have hs:=runs_held s (h s List.mem_cons_self) d h1 h2
  unfold held at ht hs ⊢
  rw[List.countP_append,ht,hs]
  unfold dQ
  omega
def ek (l:List SeaT):Bool:=seaOk l [] && lenOk l.length && (List.range 366).all (fun d=>dQ l ((d:Int)+1) == 1)
theorem seasons_at (l:List SeaT) (hl:l.length≤4398046511104) (hb : ∀ s∈l,i64s s):sound_seasons.f l=some (ek l):=by
 unfold sound_seasons.f ek
 rw[if_pos hl,sea_go l hb]
 simp only[Option.bind_some,List.nil_append]
 cases hs:seaOk l [] with
 |false=>simp
 |true=>
  simp only[cond_true]
  rw[fC]
  simp only[Option.bind_some]
  cases hn:lenOk l.length with
  |false=>simp
  |true=>
   rw[if_pos rfl]
   have hg:=seaOk_good l [] hs
   have hr : ∀ r∈l.flatMap dS,0≤r.f0∧r.f0 < r.f1∧r.f1≤366:=by
    intro r hr
    obtain⟨s,hs,hr⟩:=List.mem_flatMap.1 hr
    exact runs_in s (hg s hs) r hr
   have hlen:(l.flatMap dS).length≤2 * l.length:=by
    clear hr hg hn hs hb hl
    induction l with
    |nil=>simp
    |cons s t ih=>
     rw[List.flatMap_cons,List.length_append,List.length_cons]
     have:(dS s).length≤2:=by unfold dS;split <;> simp
     omega
   have hn' : l.length≤64:=by simp[lenOk] at hn;exact hn.2
   rw[tiles_at _ 366 (by omega) hr]
   congr 1
   rw[Bool.eq_iff_iff,tiles_held _ 366 (by omega) hr]
   rw[Bool.true_and,Bool.true_and,List.all_eq_true]
   constructor
   ·intro h d hd
    have hd:=List.mem_range.1 hd
    have h1:=h (d:Int) (by omega) (by omega)
    have h2:=all_held l hg ((d:Int)+1) (by omega) (by omega)
    rw[show((d:Int)+1 - 1)=(d:Int) by omega] at h2
    rw[beq_iff_eq,← h2];exact h1
   ·intro h d h1 h2
    have h3:=h d.toNat (List.mem_range.2 (by omega))
    have h4:=all_held l hg (d+1) (by omega) (by omega)
    rw[show(d+1 - 1)=d by omega] at h4
    rw[h4]
    have e:((d.toNat:Nat):Int)=d:=by omega
    rw[beq_iff_eq,e] at h3
    exact h3
def eO (l:List SeaT) (hs:List Int):List Int:=l.foldl (fun hs s=>pylonref09_seasons.held (dayR s.f1).1 (dayR s.f2).1 hs) hs
theorem held_get (a b:Int) (hs:List Int) (d:Nat) (v:Int) (h:hs[d]? = some v):(pylonref09_seasons.held a b hs)[d]? = some (if d≠0∧pylonref09_seasons.inside a b (d:Int)=true then wrap64 (v+1) else v):=by
 unfold pylonref09_seasons.held
 rw[List.getElem?_mapIdx,h]
 rfl
theorem heldAll_length (l:List SeaT) : ∀ hs,(eO l hs).length=hs.length:=by
 induction l with
 |nil=>intro hs;rfl
 |cons s t ih=>
  intro hs
  show(eO t _).length=_
  rw[ih]
  unfold pylonref09_seasons.held
  simp
theorem heldAll_get (l:List SeaT) : ∀ (hs:List Int) (d:Nat) (v:Nat),d≠0 → hs[d]? = some (v:Int) → v+l.length≤1000000 → (eO l hs)[d]? = some ((v+dQ l (d:Int):Nat):Int):=by
 induction l with
 |nil=>intro hs d v _ h _;simpa [eO,dQ] using h
 |cons s t ih=>
  intro hs d v hd h hv
  simp only[List.length_cons] at hv
  have h1:=held_get (dayR s.f1).1 (dayR s.f2).1 hs d v h
  show(eO t (pylonref09_seasons.held (dayR s.f1).1 (dayR s.f2).1 hs))[d]? = _
  unfold dQ
  rw[List.countP_cons]
  by_cases c:pylonref09_seasons.inside (dayR s.f1).1 (dayR s.f2).1 (d:Int)=true
  ·rw[if_pos ⟨hd,c⟩] at h1
   have e:wrap64 ((v:Int)+1)=((v+1:Nat):Int):=by rw[w64 (by omega) (by omega)];omega
   rw[e] at h1
   rw[ih _ d (v+1) hd h1 (by omega),if_pos c]
   unfold dQ
   congr 2;omega
  ·rw[if_neg (fun z=>c z.2)] at h1
   rw[ih _ d v hd h1 (by omega),if_neg c]
   unfold dQ
   congr 2
theorem rsea_go (k:Nat) (l:List SeaT) (hk : ∀ s∈l,pylonref09_Day.f k s.f1=some (dayR s.f1)∧pylonref09_Day.f k s.f2=some (dayR s.f2)∧pylonref06_Name.f k s.f0=some (nameL (snm s))) : ∀ (ns:List (List UInt8)) (hs:List Int),pylonref09_seasons.go k l ns hs=some (cond (seaOk l ns) (some (eO l hs)) none):=by
 induction l with
 |nil=>intro ns hs;rfl
 |cons s t ih=>
  intro ns hs
  obtain⟨h1,h2,h3⟩:=hk s List.mem_cons_self
  have iht:=ih (fun x hx=>hk x (List.mem_cons_of_mem _ hx))
  have hnm:s.f0.toList=snm s:=cK _
  have hns:seaOk t (ns ++ [snm s])=seaOk t (snm s :: ns):=seaOk_congr t _ _ (fun x=>by simp[or_comm])
  simp only[pylonref09_seasons.go,seaOk,eH,h1,h2,h3,Option.bind_some,hnm,iht,hns]
  cases hn:nameL (snm s) with
  |false=>simp
  |true=>
   rw[if_neg (by simp)]
   by_cases c1:(dayR s.f1).2=0
   ·rw[if_neg (by simpa using c1),decide_eq_true c1]
    by_cases c2:(dayR s.f2).2=0
    ·rw[if_neg (by simpa using c2),decide_eq_true c2]
     by_cases c3:snm s∈ns
     ·rw[if_pos c3,decide_eq_true c3];simp
     ·rw[if_neg c3,decide_eq_false c3]
      simp only[Bool.not_false,Bool.true_and]
      rfl
    ·rw[if_pos c2,decide_eq_false c2];simp
   ·rw[if_pos c1,decide_eq_false c1];simp
theorem rseasons_ev (l:List SeaT) (hb : ∀ s∈l,s.f0.size≤140737488355328):Ev (fun k=>pylonref09_seasons.f k l) (ek l):=by
 have hall : ∃ K,∀ k,K≤k → ∀ s∈l,pylonref09_Day.f k s.f1=some (dayR s.f1)∧pylonref09_Day.f k s.f2=some (dayR s.f2)∧pylonref06_Name.f k s.f0=some (nameL (snm s)):=by
  induction l with
  |nil=>exact⟨0,fun _ _ b hb=>by cases hb⟩
  |cons a l ih=>
   obtain⟨K1,h1⟩:=ih (fun b hx=>hb b (List.mem_cons_of_mem _ hx))
   obtain⟨K2,h2⟩:=gy a.f0 (by have:=hb a List.mem_cons_self;omega)
   obtain⟨K3,h3⟩:=gG a.f1
   obtain⟨K4,h4⟩:=gG a.f2
   refine⟨K1+K2+K3+K4,fun k hk x hx=>?_⟩
   rcases List.mem_cons.1 hx with rfl|hx
   ·exact⟨h3 k (by omega),h4 k (by omega),h2 k (by omega)⟩
   ·exact h1 k (by omega) x hx
 obtain⟨K,hK⟩:=hall
 refine⟨K,fun k hk=>?_⟩
 dsimp only
 unfold pylonref09_seasons.f ek lenOk
 by_cases c1:(l.length:Int) < 1
 ·rw[if_pos c1,decide_eq_false (show ¬ 1≤l.length by omega)];simp
 ·rw[if_neg c1,decide_eq_true (show 1≤l.length by omega)]
  by_cases c2:(l.length:Int) > 64
  ·rw[if_pos c2,decide_eq_false (show ¬ l.length≤64 by omega)];simp
  ·rw[if_neg c2,decide_eq_true (show l.length≤64 by omega),rsea_go k l (hK k hk)]
   simp only[Option.bind_some]
   cases hs:seaOk l [] with
   |false=>simp only[cond_false,Bool.false_and]
   |true=>
    simp only[cond_true,Bool.true_and]
    congr 1
    rw[Bool.eq_iff_iff,List.all_eq_true,List.all_eq_true]
    have hlen:(eO l (List.replicate 367 0)).length=367:=by rw[heldAll_length,List.length_replicate]
    have hget : ∀ d:Nat,d < 366 → (eO l (List.replicate 367 0))[d+1]? = some ((dQ l ((d:Int)+1):Nat):Int):=by
     intro d hd
     have:=heldAll_get l (List.replicate 367 0) (d+1) 0 (by omega) (by rw[List.getElem?_replicate,if_pos (by omega)];rfl) (by omega)
     rw[Nat.zero_add,show(((d+1:Nat)):Int)=(d:Int)+1 by omega] at this
     exact this
    constructor
    ·intro h d hd
     have hd:=List.mem_range.1 hd
     have h1:=hget d hd
     have hm:((dQ l ((d:Int)+1):Nat):Int)∈(eO l (List.replicate 367 0)).drop 1:=by
      refine List.mem_of_getElem? (i:=d) ?_
      rw[List.getElem?_drop,Nat.add_comm];exact h1
     have:=of_decide_eq_true (h _ hm)
     rw[beq_iff_eq];omega
    ·intro h x hx
     obtain⟨d,hd⟩:=List.getElem?_of_mem hx
     have hdl:=(List.getElem?_eq_some_iff.1 hd).1
     rw[List.length_drop,hlen] at hdl
     rw[List.getElem?_drop,Nat.add_comm,hget d (by omega)] at hd
     have h2:=h d (List.mem_range.2 (by omega))
     rw[beq_iff_eq] at h2
     refine decide_eq_true ?_
     have:=Option.some.inj hd
     omega
end Go.Proofs.YtcmhfcciapenfaaDoor.Pu
