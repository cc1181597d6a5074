/- A part of the proof. -/
import Derived.Test.YtjokedpaidmjoaaGreatDoorQ02
import Derived.Test.YtjokedpaidmjoaaGreatDoorQ08
set_option linter.all false
namespace Go.Proofs.YtjokedpaidmjoaaGreatDoor.Pu
open Go.RowKit Go.Proofs.YtjokedpaidmjoaaGreatDoorW.PrintWords Go.Proofs.YtjokedpaidmjoaaGreatDoor.Pa
def mark (c:UInt8):Bool:=(97≤c.toNat && c.toNat≤122) || (48≤c.toNat && c.toNat≤57) || c.toNat == 95 || c.toNat == 45
def letters:List UInt8:=[97,98,99,100,101,102,103,104,105,106,107,108,109,110,111,112,113,114,115,116,117,118,119,120,121,122,48,49,50,51,52,53,54,55,56,57,95,45]
theorem mark_letters (c:UInt8):letters.contains c=mark c:=by
 have h : ∀ n:Fin 256,letters.contains (UInt8.ofNat n.val)=mark (UInt8.ofNat n.val):=by decide +kernel
 have:=h ⟨c.toNat,c.toNat_lt⟩
 simpa using this
def nameL (l:List UInt8):Bool:=decide (1≤l.length) && decide (l.length≤24) && l.all mark && (match l with|[]=>false|c :: _=>97≤c.toNat && c.toNat≤122)
theorem dw_nil (p:UInt8 → Bool) (l:List UInt8):l.dropWhile p = []↔∀ x∈l,p x=true:=by
 induction l with
 |nil=>simp
 |cons c r ih=>
  rw[List.dropWhile_cons]
  by_cases h:p c=true
  ·rw[if_pos h,ih]
   simp[h]
  ·rw[if_neg h]
   constructor
   ·intro e;cases e
   ·intro e;exact absurd (e c (by simp)) h
theorem trim_nil (l cs:List UInt8):Lib.trimS l cs = []↔∀ c∈l,cs.contains c=true:=by
 unfold Lib.trimS Lib.trimLeftS Lib.trimRightS
 constructor
 ·intro h c hc
  have h1 : ∀ x∈(List.dropWhile (cs.contains ·) l.reverse).reverse,cs.contains x=true:=by
   have:=(dw_nil _ _).1 h
   exact this
  by_cases hm:c∈List.dropWhile (cs.contains ·) l.reverse
  ·exact h1 c (by simpa using hm)
  ·have h2:c∈List.takeWhile (cs.contains ·) l.reverse:=by
    have h3:c∈List.takeWhile (cs.contains ·) l.reverse ++ List.dropWhile (cs.contains ·) l.reverse:=by
     rw[List.takeWhile_append_dropWhile];simpa using hc
    rcases List.mem_append.1 h3 with h3|h3
    ·exact h3
    ·exact absurd h3 hm
   exact List.all_eq_true.1 (List.all_takeWhile (p:=(cs.contains ·)) (l:=l.reverse)) c h2
 ·intro h
  refine(dw_nil _ _).2 ?_
  intro x hx
  have h1:x∈List.dropWhile (cs.contains ·) l.reverse:=by simpa using hx
  have h2:=List.Sublist.mem h1 (List.dropWhile_sublist _)
  exact h x (by simpa using h2)
theorem marks_at (a:ByteArray) (h:a.size≤9223372036854775807):scan_Marks.f a=some ((Bs a).all mark):=by
 unfold scan_Marks.f strings_Trim.f
 rw[if_pos ⟨h,by decide,by decide⟩]
 simp only[Option.bind_some,Option.some.injEq]
 rw[aY]
 show(Lib.trimS (Bs a) letters == [])=_
 rw[Bool.eq_iff_iff,beq_iff_eq,trim_nil]
 simp only[mark_letters,List.all_eq_true]
theorem name_at (a:ByteArray) (h:a.size≤9223372036854775807):scan_Name.f a=some (nameL (Bs a)):=by
 have hl:=ai a
 unfold scan_Name.f
 cases ea:Bs a with
 |nil=>
  rw[if_pos (by rw[aY,ea])]
  rfl
 |cons c r=>
  rw[ea,List.length_cons] at hl
  have hb:bt a 0=(c.toNat:Int):=bt_get (a:=a) (i:=0) (by rw[ea];rfl)
  rw[if_neg (by rw[aY,ea];simp),hb,marks_at a h,ea]
  unfold nameL
  simp only[List.length_cons,Option.bind_some]
  by_cases h24:(a.size:Int)≤24
  ·rw[if_pos h24,if_pos (by omega)]
   have d1:decide (1≤r.length+1)=true:=by simp
   have d2:decide (r.length+1≤24)=true:=by simp;omega
   rw[d1,d2]
   by_cases h97:(c.toNat:Int)≥97
   ·rw[if_pos h97]
    by_cases h122:(c.toNat:Int)≤122
    ·rw[if_pos h122]
     have d3:decide (97≤c.toNat)=true:=by simp;omega
     have d4:decide (c.toNat≤122)=true:=by simp;omega
     simp[d3,d4]
    ·rw[if_neg h122]
     have d4:decide (c.toNat≤122)=false:=by simp;omega
     simp[d4]
   ·rw[if_neg h97]
    have d3:decide (97≤c.toNat)=false:=by simp;omega
    simp[d3]
  ·rw[if_neg h24]
   have d2:decide (r.length+1≤24)=false:=by simp;omega
   rw[d2]
   simp
theorem of_loop (a:ByteArray) (hs:a.size≤9223372036854775806) (m:Int) (r:List UInt8) : ∀ (k i:Nat),(Bs a).drop i=r → i≤a.size → r.length < k → pylonref06_Of.l0 k a m (i:Int)=some (r.all mark && (decide (1≤a.size) && decide ((a.size:Int)≤m))):=by
 induction r with
 |nil=>
  intro k i hd hi hk
  obtain⟨k,rfl⟩ : ∃ m,k=m+1:=⟨k - 1,by simp at hk;omega⟩
  have hl:=bP hd (by rw[ai];exact hi)
  rw[ai] at hl
  simp only[List.length_nil,Nat.add_zero] at hl
  simp only[pylonref06_Of.l0]
  rw[if_neg (by omega)]
  by_cases h1:(a.size:Int)≥1
  ·rw[if_pos h1]
   have:decide (1≤a.size)=true:=decide_eq_true (by omega)
   simp[this]
  ·rw[if_neg h1]
   have:decide (1≤a.size)=false:=decide_eq_false (by omega)
   simp[this]
 |cons c r ih=>
  intro k i hd hi hk
  obtain⟨k,rfl⟩ : ∃ m,k=m+1:=⟨k - 1,by simp at hk;omega⟩
  have hlt:=bW hd
  rw[ai] at hlt
  simp only[List.length_cons] at hk
  have e:wrap64 ((i:Int)+1)=((i+1:Nat):Int):=by rw[w64 (by omega) (by omega)];omega
  have hi1:=ih k (i+1) (bi hd) (by omega) (by omega)
  have E:=ae.mk e
  clear e ih hk
  simp only[pylonref06_Of.l0,List.all_cons]
  rw[if_pos (by omega),if_pos (by omega),dE hd,E.o,hi1,Bool.and_assoc]
  clear hi1
  generalize (r.all mark && (decide (1≤a.size) && decide ((a.size:Int)≤m)))=T
  have hm:mark c=true∨mark c=false:=by cases mark c <;> simp
  have key:(mark c=true↔(97≤c.toNat∧c.toNat≤122)∨(48≤c.toNat∧c.toNat≤57)∨c.toNat=95∨c.toNat=45):=by
   unfold mark
   simp only[Bool.or_eq_true,Bool.and_eq_true,decide_eq_true_eq,beq_iff_eq,or_assoc]
  generalize c.toNat=n at key
  rcases hm with hm|hm
  ·have hk:=key.1 hm
   rw[hm,Bool.true_and]
   by_cases c1:(n:Int)≥97
   ·rw[if_pos c1]
    by_cases c2:(n:Int)≤122
    ·rw[if_pos c2]
    ·omega
   ·rw[if_neg c1]
    by_cases c3:(n:Int)≥48
    ·rw[if_pos c3]
     by_cases c4:(n:Int)≤57
     ·rw[if_pos c4]
     ·rw[if_neg c4]
      by_cases c5:(n:Int)=95
      ·rw[if_pos c5]
      ·omega
    ·rw[if_neg c3]
     by_cases c5:(n:Int)=95
     ·rw[if_pos c5]
     ·rw[if_neg c5,if_pos (by omega)]
  ·have hk : ¬ _:=fun h=>by rw[key.2 h] at hm;cases hm
   rw[hm,Bool.false_and]
   by_cases c1:(n:Int)≥97
   ·rw[if_pos c1]
    by_cases c2:(n:Int)≤122
    ·exact absurd (.inl ⟨by omega,by omega⟩) hk
    ·rw[if_neg c2,if_pos (by omega),if_neg (by omega),if_neg (by omega),if_neg (by omega)]
   ·rw[if_neg c1]
    by_cases c3:(n:Int)≥48
    ·rw[if_pos c3]
     by_cases c4:(n:Int)≤57
     ·exact absurd (.inr (.inl ⟨by omega,by omega⟩)) hk
     ·rw[if_neg c4]
      by_cases c5:(n:Int)=95
      ·exact absurd (.inr (.inr (.inl (by omega)))) hk
      ·rw[if_neg c5,if_neg (by omega)]
    ·rw[if_neg c3]
     by_cases c5:(n:Int)=95
     ·exact absurd (.inr (.inr (.inl (by omega)))) hk
     ·rw[if_neg c5]
      by_cases c6:(n:Int)=45
      ·exact absurd (.inr (.inr (.inr (by omega)))) hk
      ·rw[if_neg c6]
theorem refName_ev (a:ByteArray) (hs:a.size≤9223372036854775806):Ev (fun k=>pylonref06_Name.f k a) (nameL (Bs a)):=by
 refine⟨a.size+1,fun k hk=>?_⟩
 show pylonref06_Name.f k a=_
 have hl:=ai a
 unfold pylonref06_Name.f pylonref06_Of.f
 have:=of_loop a hs 24 (Bs a) k 0 (by simp) (Nat.zero_le _) (by rw[ai];exact hk)
 have e0:((0:Nat):Int)=0:=rfl
 rw[e0] at this
 rw[this]
 simp only[Option.bind_some]
 cases ea:Bs a with
 |nil=>
  rw[ea] at hl
  have:decide (1≤a.size)=false:=decide_eq_false (by simp only[List.length_nil] at hl;omega)
  rw[this]
  rfl
 |cons c r=>
  rw[ea,List.length_cons] at hl
  have hb:bt a 0=(c.toNat:Int):=bt_get (a:=a) (i:=0) (by rw[ea];rfl)
  have d1:decide (1≤a.size)=true:=decide_eq_true (by omega)
  have d2:decide ((a.size:Int)≤24)=decide (r.length+1≤24):=by rw[decide_eq_decide];omega
  have d0:decide (1≤r.length+1)=true:=by simp
  rw[d1,d2,hb]
  unfold nameL
  simp only[List.length_cons,d0,Bool.true_and]
  by_cases hX:((c :: r).all mark && decide (r.length+1≤24))=true
  ·rw[if_pos hX,if_pos (by omega)]
   have hX2:(decide (r.length+1≤24) && (c :: r).all mark)=true:=by rw[Bool.and_comm];exact hX
   rw[hX2,Bool.true_and]
   by_cases h97:(c.toNat:Int)≥97
   ·rw[if_pos h97]
    have d3:decide (97≤c.toNat)=true:=by simp;omega
    rw[d3,Bool.true_and,Option.some.injEq,decide_eq_decide]
    omega
   ·rw[if_neg h97]
    have d3:decide (97≤c.toNat)=false:=by simp;omega
    rw[d3,Bool.false_and]
  ·rw[if_neg hX]
   have hX2:(decide (r.length+1≤24) && (c :: r).all mark)=false:=by rw[Bool.and_comm];simpa using hX
   rw[hX2,Bool.false_and]
end Go.Proofs.YtjokedpaidmjoaaGreatDoor.Pu
