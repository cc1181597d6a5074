/- A part of the proof. -/
import Derived.Test.YtcmhfcciapenfaaDoorQ19
import Derived.Test.YtcmhfcciapenfaaDoorQ12
namespace Go.Proofs.YtcmhfcciapenfaaDoor.Pu
open Go.RowKit Go.Proofs.YtcmhfcciapenfaaDoorW.PrintWords Go.Proofs.YtcmhfcciapenfaaDoor.Pa
abbrev RunT:=S79
def inRun (d:Int) (r:RunT):Bool:=decide (r.f0≤d) && decide (d < r.f1)
def held (l:List RunT) (d:Int):Nat:=l.countP (inRun d)
theorem dE (r:RunT) (l:List RunT) (d:Int):held (r :: l) d=held l d+(if inRun d r=true then 1 else 0):=by
 unfold held
 rw[List.countP_cons]
theorem held_perm {l l' : List RunT} (h:l.Perm l') (d:Int):held l d=held l' d:=h.countP_eq _
theorem held_pos {l:List RunT} {d:Int} (h:0 < held l d) : ∃ r∈l,r.f0≤d∧d < r.f1:=by
 obtain⟨r,hr,hi⟩:=List.countP_pos_iff.1 h
 refine⟨r,hr,?_⟩
 simpa [inRun] using hi
theorem held_zero {l:List RunT} {d:Int} (h : ∀ r∈l,¬ (r.f0≤d∧d < r.f1)):held l d=0:=by
 apply Nat.eq_zero_of_not_pos
 intro hp
 obtain⟨r,hr,hi⟩:=held_pos hp
 exact h r hr hi
theorem held_mem {l:List RunT} {d:Int} {r:RunT} (hr:r∈l) (h:r.f0≤d) (h2:d < r.f1):0 < held l d:=List.countP_pos_iff.2 ⟨r,hr,by simp[inRun,h,h2]⟩
theorem chain_held (l:List RunT) : ∀ (a n:Int),(∀ r∈l,r.f0 < r.f1∧r.f1≤n) → l.Pairwise (fun x y=>x.f0≤y.f0) → (∀ r∈l,a≤r.f0) → a≤n → (sound_tiles.chain l a n=true↔∀ d,a≤d → d < n → held l d=1):=by
 induction l with
 |nil=>
  intro a n _ _ _ han
  simp only[sound_tiles.chain,beq_iff_eq]
  constructor
  ·intro e d h1 h2;omega
  ·intro h
   apply Decidable.byContradiction
   intro hne
   have:=h a (by omega) (by omega)
   simp[held] at this
 |cons r t ih=>
  intro a n hr hp ha han
  have hr0:=hr r List.mem_cons_self
  have hp':=List.pairwise_cons.1 hp
  simp only[sound_tiles.chain]
  have hat : ∀ x∈t,r.f0≤x.f0:=hp'.1
  have hrt : ∀ x∈t,x.f0 < x.f1∧x.f1≤n:=fun x hx=>hr x (List.mem_cons_of_mem _ hx)
  by_cases e:r.f0=a
  ·rw[if_pos e]
   constructor
   ·intro hc d h1 h2
    have hlow : ∀ (l:List RunT) (b:Int),(∀ x∈l,x.f0 < x.f1) → sound_tiles.chain l b n=true → ∀ x∈l,b≤x.f0:=by
     intro l
     induction l with
     |nil=>intro b _ _ x hx;cases hx
     |cons y u ihu=>
      intro b hy hcu x hx
      simp only[sound_tiles.chain] at hcu
      by_cases ey:y.f0=b
      ·rw[if_pos ey] at hcu
       have hy0:=hy y List.mem_cons_self
       rcases List.mem_cons.1 hx with rfl|hx
       ·omega
       ·have:=ihu y.f1 (fun z hz=>hy z (List.mem_cons_of_mem _ hz)) hcu x hx
        omega
      ·rw[if_neg ey] at hcu;cases hcu
    have hge:=hlow t r.f1 (fun x hx=>(hrt x hx).1) hc
    have hih:=(ih r.f1 n hrt hp'.2 hge hr0.2).1 hc
    rw[dE]
    by_cases hd:d < r.f1
    ·rw[if_pos (by simp[inRun];omega),held_zero (fun x hx h=>by have:=hge x hx;omega)]
    ·rw[if_neg (by simp[inRun];omega),hih d (by omega) h2]
   ·intro h
    have hge : ∀ x∈t,r.f1≤x.f0:=by
     intro x hx
     apply Decidable.byContradiction
     intro hlt
     have hx1:=hrt x hx
     have hx2:=hat x hx
     have h1:=h x.f0 (by omega) (by omega)
     rw[dE,if_pos (by simp[inRun];omega)] at h1
     have:=held_mem hx (Int.le_refl x.f0) hx1.1
     omega
    refine(ih r.f1 n hrt hp'.2 hge hr0.2).2 fun d h1 h2=>?_
    have h3:=h d (by omega) h2
    rw[dE,if_neg (by simp[inRun];omega)] at h3
    omega
  ·rw[if_neg e]
   constructor
   ·intro h;cases h
   ·intro h
    exfalso
    have har:=ha r List.mem_cons_self
    have h1:=h a (Int.le_refl _) (by omega)
    have:held (r :: t) a=0:=held_zero fun x hx hh=>by
     rcases List.mem_cons.1 hx with rfl|hx
     ·omega
     ·have:=hat x hx;omega
    omega
theorem tiles_held (l:List RunT) (n:Int) (hn:0≤n) (h : ∀ r∈l,0≤r.f0∧r.f0 < r.f1∧r.f1≤n):sound_tiles.chain (l.mergeSort sound_tiles.le) 0 n=true↔∀ d,0≤d → d < n → held l d=1:=by
 have hp:(l.mergeSort sound_tiles.le).Perm l:=List.mergeSort_perm _ _
 have hs:(l.mergeSort sound_tiles.le).Pairwise (fun x y=>x.f0≤y.f0):=by
  have:=List.pairwise_mergeSort (le:=sound_tiles.le) (fun a b c h1 h2=>by simp[sound_tiles.le] at *;omega) (fun a b=>by simp[sound_tiles.le];omega) l
  exact this.imp fun {a b} h=>by simpa [sound_tiles.le] using h
 have hm : ∀ r∈l.mergeSort sound_tiles.le,0≤r.f0∧r.f0 < r.f1∧r.f1≤n:=fun r hr=>h r (hp.mem_iff.1 hr)
 rw[chain_held _ 0 n (fun r hr=>(hm r hr).2) hs (fun r hr=>(hm r hr).1) hn]
 constructor
 ·intro h d h1 h2;rw[← held_perm hp];exact h d h1 h2
 ·intro h d h1 h2;rw[held_perm hp];exact h d h1 h2
theorem tiles_at (l:List RunT) (n:Int) (hl:l.length < 4398046511104) (h : ∀ r∈l,0≤r.f0∧r.f0 < r.f1∧r.f1≤n):sound_tiles.f l n=some (sound_tiles.chain (l.mergeSort sound_tiles.le) 0 n):=by
 unfold sound_tiles.f
 rw[if_pos ⟨hl,by rw[List.all_eq_true];intro r hr;exact decide_eq_true (h r hr).2.1⟩]
end Go.Proofs.YtcmhfcciapenfaaDoor.Pu
