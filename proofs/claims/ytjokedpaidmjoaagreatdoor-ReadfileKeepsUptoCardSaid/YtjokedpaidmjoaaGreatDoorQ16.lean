/- A part of the proof. -/
import Derived.Test.YtjokedpaidmjoaaGreatDoorQ15
import Derived.Test.YtjokedpaidmjoaaGreatDoorQ08
set_option linter.all false
namespace Go.Proofs.YtjokedpaidmjoaaGreatDoor.Pu
open Go.RowKit Go.Proofs.YtjokedpaidmjoaaGreatDoorW.PrintWords Go.Proofs.YtjokedpaidmjoaaGreatDoor.Pa
theorem cur_next {l:List UInt8} {f i:Nat} {c:UInt8} {r:List UInt8} (h:l.drop i=c :: r) (hf:f≤i):(l.drop f).take (i+1 - f)=(l.drop f).take (i - f) ++ [c]:=by
 have e:i+1 - f=(i - f)+1:=by omega
 rw[e,List.take_add_one,List.getElem?_drop]
 have:l[f+(i - f)]? = some c:=by
  have:(l.drop i)[0]? = some c:=by rw[h];rfl
  rw[List.getElem?_drop,Nat.add_zero] at this
  rw[show f+(i - f)=i by omega]
  exact this
 rw[this]
 rfl
theorem refLines_loop (a:ByteArray) (hs:a.size≤1048576) (r:List UInt8) : ∀ (k i f:Nat) (ws:List ByteArray),(Bs a).drop i=r → f≤i → i≤a.size → r.length < k → ws.length+r.length≤1048576 →
  pylonref06_Lines.l0 k a ws (f:Int) (i:Int)=some (lres ws (lf r (((Bs a).drop f).take (i - f)))):=by
 induction r with
 |nil=>
  intro k i f ws hd hf hi hk hw
  obtain⟨k,rfl⟩ : ∃ m,k=m+1:=⟨k - 1,by simp at hk;omega⟩
  have hl:=bP hd (by rw[ai];exact hi)
  rw[ai] at hl
  simp only[List.length_nil,Nat.add_zero] at hl hw
  simp only[pylonref06_Lines.l0]
  rw[if_neg (by omega)]
  have hcl:(((Bs a).drop f).take (i - f)).length=i - f:=by rw[List.length_take,List.length_drop,ai];omega
  generalize ((Bs a).drop f).take (i - f)=cur at hcl
  cases cur with
  |nil=>
   simp only[List.length_nil] at hcl
   rw[if_neg (by omega)]
   simp[lf,lres]
  |cons x xs=>
   simp only[List.length_cons] at hcl
   rw[if_pos (by omega),w64 (by omega) (by omega)]
   simp[lf,lres]
 |cons c r ih=>
  intro k i f ws hd hf hi hk hw
  obtain⟨k,rfl⟩ : ∃ m,k=m+1:=⟨k - 1,by simp at hk;omega⟩
  have hlt:=bW hd
  rw[ai] at hlt
  simp only[List.length_cons] at hk hw
  have hb:=dE hd
  have e:wrap64 ((i:Int)+1)=((i+1:Nat):Int):=by rw[w64 (by omega) (by omega)];omega
  simp only[pylonref06_Lines.l0]
  rw[if_pos (by omega),if_pos (by omega),hb,e]
  by_cases hc:c=10
  ·subst hc
   rw[if_pos (by decide),if_pos (by omega),if_pos (by omega),if_pos (by omega),if_pos (by omega)]
   rw[ih k (i+1) (i+1) (ws ++ [_]) (bi hd) (Nat.le_refl _) (by omega) (by omega) (by simp;omega)]
   have ee:a.extract ((f:Int)).toNat ((i:Int)).toNat=toB (((Bs a).drop f).take (i - f)):=by
    refine Bs_inj ?_
    rw[cO,fO,Int.toNat_natCast,Int.toNat_natCast]
   rw[ee,Nat.sub_self,List.take_zero]
   simp only[lf,if_true]
   cases lf r [] with
   |ok ls=>simp[lres]
   |error m=>
    simp only[lres,List.length_append,List.length_singleton]
    congr 4
    omega
  ·have hc' : ¬ ((c.toNat:Int)=10):=by
    intro h
    exact hc (UInt8.toNat_inj.1 (by rw[show(10:UInt8).toNat=10 from rfl];omega))
   rw[if_neg hc',ih k (i+1) f ws (bi hd) (by omega) (by omega) (by omega) (by omega),cur_next hd hf]
   simp only[lf,if_neg hc]
theorem refLines_ev (a:ByteArray):Ev (fun k=>pylonref06_Lines.f k a) (LS a):=by
 refine⟨a.size+1,fun k hk=>?_⟩
 show pylonref06_Lines.f k a=_
 unfold pylonref06_Lines.f LS
 by_cases h:1048576 < a.size
 ·rw[if_pos (by omega),if_pos h]
 ·rw[if_neg (by omega),if_neg h]
  have:=refLines_loop a (by omega) (Bs a) k 0 0 [] (by simp) (Nat.le_refl _) (Nat.zero_le _) (by rw[ai];exact hk) (by rw[ai];simp;omega)
  have e0:((0:Nat):Int)=0:=rfl
  rw[e0] at this
  rw[this]
  simp
end Go.Proofs.YtjokedpaidmjoaaGreatDoor.Pu
