/- A part of the proof. -/
import Derived.Test.YtjokedpaidmjoaaGreatDoorQ06
set_option linter.all false
namespace Go.Proofs.YtjokedpaidmjoaaGreatDoor.Pu
open Go.RowKit Go.Proofs.YtjokedpaidmjoaaGreatDoorW.PrintWords Go.Proofs.YtjokedpaidmjoaaGreatDoor.Pa
def lf:List UInt8 → List UInt8 → Except Nat (List (List UInt8))
 |[],[]=>.ok []
 |[],_ :: _=>.error 0
 |c :: r,cur=>if c=10 then (match lf r [] with|.ok ls=>.ok (cur :: ls)|.error n=>.error (n+1)) else lf r (cur ++ [c])
theorem index_none (l:List UInt8) (c:UInt8):c ∉ l → Lib.indexByte l c = -1:=by
 induction l with
 |nil=>intro _;rfl
 |cons x r ih=>
  intro h
  have h1:(x == c)=false:=by
   rw[beq_eq_false_iff_ne]
   rintro rfl
   exact h (by simp)
  have h2:=ih (fun hr=>h (by simp[hr]))
  simp[Lib.indexByte,h1,h2]
theorem index_some (p:List UInt8) (c:UInt8) (r:List UInt8):c ∉ p → Lib.indexByte (p ++ c :: r) c=(p.length:Int):=by
 induction p with
 |nil=>intro _;simp[Lib.indexByte]
 |cons x p ih=>
  intro h
  have h1:(x == c)=false:=by
   rw[beq_eq_false_iff_ne]
   rintro rfl
   exact h (by simp)
  have h2:=ih (fun hr=>h (by simp[hr]))
  simp only[List.cons_append,Lib.indexByte,h1,Bool.false_eq_true,if_false,h2,List.length_cons]
  have:(((p.length:Int)) == -1)=false:=by rw[beq_eq_false_iff_ne];omega
  rw[this]
  simp
theorem cut_none (a:ByteArray) (h:(10:UInt8) ∉ Bs a):strings_Cut.f a (⟨#[10]⟩ : ByteArray)=some (a,⟨#[]⟩,false):=by
 have e:(bt (⟨#[10]⟩ : ByteArray) 0).toNat.toUInt8=10:=rfl
 unfold strings_Cut.f stringslite_Cut.f stringslite_Index.f
 rw[if_pos (show(⟨#[10]⟩ : ByteArray).size=1 from rfl),e]
 have hi:Lib.indexByte a.data.toList 10 = -1:=index_none _ _ h
 rw[hi]
 simp
theorem cut_some (a:ByteArray) (hs:a.size≤4398046511104) (p r:List UInt8) (ha:Bs a=p ++ 10 :: r) (h:(10:UInt8) ∉ p):strings_Cut.f a (⟨#[10]⟩ : ByteArray)=some (toB p,toB r,true):=by
 have e:(bt (⟨#[10]⟩ : ByteArray) 0).toNat.toUInt8=10:=rfl
 have e2:(⟨#[10]⟩ : ByteArray).size=1:=rfl
 have hl:a.size=p.length+1+r.length:=by rw[← ai,ha];simp;omega
 unfold strings_Cut.f stringslite_Cut.f stringslite_Index.f
 rw[if_pos (show(⟨#[10]⟩ : ByteArray).size=1 from rfl),e]
 have hi:Lib.indexByte a.data.toList 10=(p.length:Int):=by
  have:=index_some p 10 r h
  rw[← ha] at this
  exact this
 rw[hi]
 simp only[Option.bind_some,e2]
 rw[if_pos (by omega),if_pos (by omega),if_pos (by omega),w64 (by omega) (by omega),if_pos (by omega),if_pos (by omega)]
 simp only[Option.bind_some,Option.some.injEq,Prod.mk.injEq]
 have e3:((p.length:Int)).toNat=p.length:=by omega
 have e4:((p.length:Int)+((1:Nat):Int)).toNat=p.length+1:=by omega
 rw[e3,e4]
 refine⟨Bs_inj ?_,Bs_inj ?_,trivial⟩
 ·rw[cO,fO,ha];simp
 ·rw[cO,fO,ha]
  have:p.length+1=(p ++ [10]).length:=by simp
  rw[show p ++ 10 :: r=(p ++ [10]) ++ r by simp,this,List.drop_left,List.take_of_length_le]
  simp at hl ⊢
  omega
theorem first_lf (l:List UInt8):(10:UInt8) ∉ l∨∃ p r,l=p ++ 10 :: r∧(10:UInt8) ∉ p:=by
 induction l with
 |nil=>exact .inl (by simp)
 |cons c r ih=>
  by_cases hc:c=10
  ·subst hc;exact .inr ⟨[],r,rfl,by simp⟩
  ·rcases ih with h|⟨p,q,rfl,h⟩
   ·exact .inl (by simp[h,Ne.symm hc])
   ·exact .inr ⟨c :: p,q,rfl,by simp[h,Ne.symm hc]⟩
theorem lf_none (l:List UInt8) : ∀ cur,(10:UInt8) ∉ l → lf l cur=if cur ++ l = [] then .ok [] else .error 0:=by
 induction l with
 |nil=>intro cur _;cases cur <;> simp[lf]
 |cons c r ih=>
  intro cur h
  have hc:c≠10:=fun e=>h (by simp[e])
  simp only[lf]
  rw[if_neg hc,ih _ (fun e=>h (by simp[e]))]
  simp
theorem lf_some (p:List UInt8) (r:List UInt8) : ∀ cur,(10:UInt8) ∉ p → lf (p ++ 10 :: r) cur=(match lf r [] with|.ok ls=>.ok ((cur ++ p) :: ls)|.error n=>.error (n+1)):=by
 induction p with
 |nil=>intro cur _;simp[lf]
 |cons c p ih=>
  intro cur h
  have hc:c≠10:=fun e=>h (by simp[e])
  simp only[List.cons_append,lf]
  rw[if_neg hc,ih _ (fun e=>h (by simp[e]))]
  simp
def lres (ws:List ByteArray):Except Nat (List (List UInt8)) → List ByteArray × Int × Int
 |.ok vs=>(ws ++ vs.map toB,0,0)
 |.error n=>([],(ws.length+n+1:Nat),1)
theorem lines_loop (n:Nat) : ∀ (l:List UInt8) (k:Nat) (ws:List ByteArray),l.length≤n → l.length < k → l.length≤4398046511104 → ws.length+l.length < 8796093022207 → scan_Lines.l0 k (toB l) ws=some (lres ws (lf l [])):=by
 induction n with
 |zero=>
  intro l k ws hn hk _ _
  have:l = []:=List.length_eq_zero_iff.1 (by omega)
  subst this
  obtain⟨k,rfl⟩ : ∃ m,k=m+1:=⟨k - 1,by omega⟩
  simp only[scan_Lines.l0]
  rw[if_pos (by rw[aY];rfl)]
  simp[lf,lres]
 |succ n ih=>
  intro l k ws hn hk hs hw
  obtain⟨k,rfl⟩ : ∃ m,k=m+1:=⟨k - 1,by omega⟩
  simp only[scan_Lines.l0]
  by_cases h0:l = []
  ·subst h0
   rw[if_pos (by rw[aY];rfl)]
   simp[lf,lres]
  ·rw[if_neg (by rw[aY,fO];exact h0)]
   rcases first_lf l with h|⟨p,r,rfl,h⟩
   ·rw[cut_none _ (by rw[fO];exact h)]
    simp only[Option.bind_some,Bool.false_eq_true,if_false]
    rw[lf_none _ _ h,List.nil_append,if_neg h0,w64 (by omega) (by omega)]
    simp[lres]
   ·have hl:(p ++ 10 :: r).length=p.length+1+r.length:=by simp;omega
    rw[cut_some _ (by rw[fU];exact hs) p r (by rw[fO]) h]
    simp only[Option.bind_some,if_true]
    rw[if_pos (by omega),ih r k (ws ++ [toB p]) (by omega) (by omega) (by omega) (by simp;omega),lf_some _ _ _ h]
    cases lf r [] with
    |ok ls=>simp[lres]
    |error m=>
     simp only[lres,List.length_append,List.length_singleton]
     congr 4
     omega
def LS (a:ByteArray):List ByteArray × Int × Int:=if 1048576 < a.size then ([],0,9) else lres [] (lf (Bs a) [])
theorem lines_ev (a:ByteArray):Ev (fun k=>scan_Lines.f k a) (LS a):=by
 refine⟨a.size+1,fun k hk=>?_⟩
 show scan_Lines.f k a=_
 unfold scan_Lines.f LS
 by_cases h:1048576 < a.size
 ·rw[if_pos (by omega),if_pos h]
 ·rw[if_neg (by omega),if_neg h]
  have:=lines_loop (Bs a).length (Bs a) k [] (Nat.le_refl _) (by rw[ai];omega) (by rw[ai];omega) (by rw[ai];simp;omega)
  rwa [toB_Bs] at this
end Go.Proofs.YtjokedpaidmjoaaGreatDoor.Pu
