/- A part of the proof. -/
import Derived.Test.YtcmhfcciapenfaaDoorQ19
import Derived.Test.YtcmhfcciapenfaaDoorQ11
import Derived.Test.YtcmhfcciapenfaaDoorQ21
namespace Go.Proofs.YtcmhfcciapenfaaDoor.Pu
open Go.RowKit Go.Proofs.YtcmhfcciapenfaaDoorW.PrintWords Go.Proofs.YtcmhfcciapenfaaDoor.Pa
def mark (c:UInt8):Bool:=(97≤c.toNat && c.toNat≤122) || (48≤c.toNat && c.toNat≤57) || c.toNat == 95 || c.toNat == 45
def letters:List UInt8:=[97,98,99,100,101,102,103,104,105,106,107,108,109,110,111,112,113,114,115,116,117,118,119,120,121,122,48,49,50,51,52,53,54,55,56,57,95,45]
theorem mark_letters (c:UInt8):letters.contains c=mark c:=by
 have h : ∀ n:Fin 256,letters.contains (UInt8.ofNat n.val)=mark (UInt8.ofNat n.val):=by decide +kernel
 have:=h ⟨c.toNat,c.toNat_lt⟩
 simpa using this
def nameL (l:List UInt8):Bool:=decide (1≤l.length) && decide (l.length≤24) && l.all mark && (match l with|[]=>false|c :: _=>97≤c.toNat && c.toNat≤122)
theorem dw_nil (p:UInt8 → Bool) (l:List UInt8):l.dropWhile p = []↔∀ x∈l,p x=true:=by
 induction l with
 |nil=>simp
 |cons c r ih=>
  rw[List.dropWhile_cons]
  by_cases h:p c=true
  ·rw[if_pos h,ih]
   simp[h]
  ·rw[if_neg h]
   constructor
   ·intro e;cases e
   ·intro e;exact absurd (e c (by simp)) h
theorem trim_nil (l cs:List UInt8):Lib.trimS l cs = []↔∀ c∈l,cs.contains c=true:=by
 unfold Lib.trimS Lib.trimLeftS Lib.trimRightS
 constructor
 ·intro h c hc
  have h1 : ∀ x∈(List.dropWhile (cs.contains ·) l.reverse).reverse,cs.contains x=true:=by
   have:=(dw_nil _ _).1 h
   exact this
  by_cases hm:c∈List.dropWhile (cs.contains ·) l.reverse
  ·exact h1 c (by simpa using hm)
  ·have h2:c∈List.takeWhile (cs.contains ·) l.reverse:=by
    have h3:c∈List.takeWhile (cs.contains ·) l.reverse ++ List.dropWhile (cs.contains ·) l.reverse:=by
     rw[List.takeWhile_append_dropWhile];simpa using hc
    rcases List.mem_append.1 h3 with h3|h3
    ·exact h3
    ·exact absurd h3 hm
   exact List.all_eq_true.1 (List.all_takeWhile (p:=(cs.contains ·)) (l:=l.reverse)) c h2
 ·intro h
  refine(dw_nil _ _).2 ?_
  intro x hx
  have h1:x∈List.dropWhile (cs.contains ·) l.reverse:=by simpa using hx
  have h2:=List.Sublist.mem h1 (List.dropWhile_sublist _)
  exact h x (by simpa using h2)
theorem marks_at (a:ByteArray) (h:a.size≤9223372036854775807):scan_Marks.f a=some ((Bs a).all mark):=by
 unfold scan_Marks.f strings_Trim.f
 rw[if_pos ⟨h,by decide,by decide⟩]
 simp only[Option.bind_some,Option.some.injEq]
 rw[toList_Bs]
 show(Lib.trimS (Bs a) letters == [])=_
 rw[Bool.eq_iff_iff,beq_iff_eq,trim_nil]
 simp only[mark_letters,List.all_eq_true]
theorem name_at (a:ByteArray) (h:a.size≤9223372036854775807):scan_Name.f a=some (nameL (Bs a)):=by
 have hl:=Bs_length a
 unfold scan_Name.f
 cases ea:Bs a with
 |nil=>
  rw[if_pos (by rw[toList_Bs,ea])]
  rfl
 |cons c r=>
  rw[ea,List.length_cons] at hl
  have hb:bt a 0=(c.toNat:Int):=bt_get (a:=a) (i:=0) (by rw[ea];rfl)
  rw[if_neg (by rw[toList_Bs,ea];simp),hb,marks_at a h,ea]
  unfold nameL
  simp only[List.length_cons,Option.bind_some]
  by_cases h24:(a.size:Int)≤24
  ·rw[if_pos h24,if_pos (by omega)]
   have d1:decide (1≤r.length+1)=true:=by simp
   have d2:decide (r.length+1≤24)=true:=by simp;omega
   rw[d1,d2]
   by_cases h97:(c.toNat:Int)≥97
   ·rw[if_pos h97]
    by_cases h122:(c.toNat:Int)≤122
    ·rw[if_pos h122]
     have d3:decide (97≤c.toNat)=true:=by simp;omega
     have d4:decide (c.toNat≤122)=true:=by simp;omega
     simp[d3,d4]
    ·rw[if_neg h122]
     have d4:decide (c.toNat≤122)=false:=by simp;omega
     simp[d4]
   ·rw[if_neg h97]
    have d3:decide (97≤c.toNat)=false:=by simp;omega
    simp[d3]
  ·rw[if_neg h24]
   have d2:decide (r.length+1≤24)=false:=by simp;omega
   rw[d2]
   simp
end Go.Proofs.YtcmhfcciapenfaaDoor.Pu
