/- A part of the proof. -/
import Derived.Test.YtjokedpaidmjoaaGreatDoorQ06
import Derived.Test.YtjokedpaidmjoaaGreatDoorQ07
set_option linter.all false
namespace Go.Proofs.YtjokedpaidmjoaaGreatDoor.Pu
open Go.RowKit Go.Proofs.YtjokedpaidmjoaaGreatDoorW.PrintWords Go.Proofs.YtjokedpaidmjoaaGreatDoor.Pa
theorem uint_digits (m:Nat) (l:List UInt8) : ∀ n,(∀ c∈l,48≤c.toNat∧c.toNat≤57) → Lib.parseUintM m n l≠Lib.NumEnd.syntax:=by
 induction l with
 |nil=>intro n _ h;simp[Lib.parseUintM] at h
 |cons c r ih=>
  intro n h
  have hc:=h c (by simp)
  simp only[Lib.parseUintM]
  rw[if_pos hc]
  split
  ·simp
  ·split
   ·simp
   ·exact ih _ (fun x hx=>h x (by simp[hx]))
theorem uintB_digits (l:List UInt8) (h0:l≠[]) (h : ∀ c∈l,48≤c.toNat∧c.toNat≤57):Lib.parseUintB 64 l≠Lib.NumEnd.syntax:=by
 unfold Lib.parseUintB
 rw[if_neg h0]
 exact uint_digits _ l 0 h
theorem isNum_iff (a:ByteArray):fix_Read.isNum a=true↔(fix_Read.tail a).size≠0∧¬ (bt (fix_Read.tail a) 0=48∧Bs a≠[48])∧∀ c∈Bs (fix_Read.tail a),48≤c.toNat∧c.toNat≤57:=by
 unfold fix_Read.isNum
 simp only[Bool.and_eq_true,decide_eq_true_eq,Bool.not_eq_true',Bool.and_eq_false_iff,decide_eq_false_iff_not,List.all_eq_true,aY]
 constructor
 ·rintro⟨⟨h1,h2⟩,h3⟩
  refine⟨h1,fun ⟨e1,e2⟩=>?_,fun c hc=>h3 c hc⟩
  rcases h2 with h2|h2
  ·exact h2 e1
  ·exact h2 e2
 ·rintro⟨h1,h2,h3⟩
  refine⟨⟨h1,?_⟩,fun c hc=>h3 c hc⟩
  by_cases e:bt (fix_Read.tail a) 0=48
  ·exact .inr (fun e2=>h2 ⟨e,e2⟩)
  ·exact .inl e
theorem tail_cons {a:ByteArray} {c:UInt8} {r:List UInt8} (h:Bs a=c :: r):Bs (fix_Read.tail a)=if c=45 then r else c :: r:=by
 have hb:bt a 0=(c.toNat:Int):=by
  have:=bt_get (a:=a) (i:=0) (c:=c) (by rw[h];rfl)
  exact this
 have hs:0 < a.size:=by rw[← ai,h];simp
 unfold fix_Read.tail
 by_cases hc:c=45
 ·subst hc
  rw[if_pos ⟨hs,by rw[hb];rfl⟩,if_pos rfl,cO,h]
  have:a.size - 1=r.length:=by rw[← ai,h];simp
  rw[this]
  simp
 ·rw[if_neg (by
   rintro⟨_,e⟩
   rw[hb] at e
   exact hc (UInt8.toNat_inj.1 (by rw[show(45:UInt8).toNat=45 from rfl];omega))),if_neg hc,h]
theorem tail_nil {a:ByteArray} (h:Bs a = []):Bs (fix_Read.tail a) = []:=by
 have hs:a.size=0:=by rw[← ai,h];rfl
 unfold fix_Read.tail
 rw[if_neg (by omega),h]
theorem read_some (a:ByteArray) (h:a.size≤281474976710656) : ∃ n e,fix_Read.f a=some (n,e)∧(e=0∨e=5∧n=0∨e=1∧n=0)∧(e=0 → -9223372036854775808≤n∧n≤9223372036854775807):=by
 by_cases hn:fix_Read.isNum a=true
 ·obtain⟨h1,h2,h3⟩:=(isNum_iff a).1 hn
  rw[← ai] at h1
  have h0:Bs (fix_Read.tail a)≠[]:=fun e=>h1 (by rw[e];rfl)
  cases ea:Bs a with
  |nil=>exact absurd (tail_nil ea) h0
  |cons c r=>
   have ht:=tail_cons ea
   have hl:(if c.toNat=43∨c.toNat=45 then r else c :: r)=Bs (fix_Read.tail a):=by
    rw[ht]
    by_cases hc:c=45
    ·subst hc;rfl
    ·rw[if_neg hc] at ht ⊢
     have:=h3 c (by rw[ht];simp)
     rw[if_neg (by
      rintro(e|e)
      ·omega
      ·exact hc (UInt8.toNat_inj.1 (by rw[show(45:UInt8).toNat=45 from rfl];exact e)))]
   have hu:=uintB_digits _ h0 h3
   have hd:a.data.toList=c :: r:=ea
   cases hp:Lib.parseIntB 64 a.data.toList with
   |ok v=>
    refine⟨v,0,fix_Read.is_ok a h hn hp,.inl rfl,fun _=>?_⟩
    rw[hd] at hp
    simp only[Lib.parseIntB,hl] at hp
    split at hp
    ·cases hp
    ·cases hp
    ·rename_i u hu2
     split at hp
     ·cases hp
     ·rename_i c1
      split at hp
      ·cases hp
      ·rename_i c2
       injection hp with hp
       split at hp
       ·rename_i c3
        have:u≤9223372036854775808:=by
         apply Decidable.byContradiction
         intro hh
         exact c2 ⟨c3,by show 2 ^ 63 < u;omega⟩
        omega
       ·rename_i c3
        have:u < 9223372036854775808:=by
         apply Decidable.byContradiction
         intro hh
         exact c1 ⟨c3,by show 2 ^ 63≤u;omega⟩
        omega
   |range=>exact⟨0,5,fix_Read.is_range a h hn hp,.inr (.inl ⟨rfl,rfl⟩),fun e=>absurd e (by decide)⟩
   |_=>
    rw[hd] at hp
    simp only[Lib.parseIntB,hl] at hp
    split at hp
    ·rename_i hs;exact absurd hs hu
    ·cases hp
    ·split at hp
     ·cases hp
     ·split at hp <;> cases hp
 ·exact⟨0,1,fix_Read.bad a h (by simpa using hn),.inr (.inr ⟨rfl,rfl⟩),fun e=>absurd e (by decide)⟩
end Go.Proofs.YtjokedpaidmjoaaGreatDoor.Pu
