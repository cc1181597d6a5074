/- A part of the proof. -/
import Derived.Test.YtjokedpaidmjoaaGreatDoorQ16
import Derived.Lib.LastIndexByte
set_option linter.all false
namespace Go.Proofs.YtjokedpaidmjoaaGreatDoor.Pu
open Go Go.RowKit Go.Proofs.YtjokedpaidmjoaaGreatDoorW.PrintWords Go.Proofs.YtjokedpaidmjoaaGreatDoor.Pa
def cutN (a:ByteArray):Nat:=(Lib.lastIndexByte a 10+1).toNat
theorem fu (a:ByteArray):(Lib.lastIndexByte a 10 = -1∧∀ j,j < a.size → (Bs a)[j]?≠some 10)∨∃ i:Nat,i < a.size∧Lib.lastIndexByte a 10=i∧(Bs a)[i]? = some 10∧∀ j,i < j → j < a.size → (Bs a)[j]?≠some 10:=by
 have key : ∀ j,j < a.size → ((((a.data[j]!).toNat:Int)=10)↔(Bs a)[j]? = some 10):=by
  intro j hj
  have hl:j < (Bs a).length:=by rw[ai];exact hj
  have hd:j < a.data.size:=hj
  have e:a.data[j]! = (Bs a)[j]:=by
   rw[getElem!_pos a.data j hd]
   rfl
  rw[e,List.getElem?_eq_getElem hl]
  constructor
  ·intro h
   congr 1
   exact UInt8.toNat_inj.1 (by rw[show(10:UInt8).toNat=10 from rfl];omega)
  ·intro h
   exact congrArg (fun c:UInt8=>(c.toNat:Int)) (Option.some.inj h)
 rcases Lib.lastIdx_spec a 10 a.size with ⟨h1,h2⟩|⟨i,h1,h2,h3,h4⟩
 ·exact .inl ⟨h1,fun j hj h=>h2 j hj ((key j hj).2 h)⟩
 ·exact .inr ⟨i,h1,h2,(key i h1).1 h3,fun j h5 h6 h=>h4 j h5 h6 ((key j h6).2 h)⟩
theorem cutN_le (a:ByteArray):cutN a≤a.size:=by
 unfold cutN
 rcases fu a with ⟨h,_⟩|⟨i,h1,h,_⟩ <;> rw[h] <;> omega
theorem lf_end (l:List UInt8) : ∀ cur,(l.getLast? = some 10∨(l = []∧cur = [])) → ∃ ls,lf l cur = .ok ls:=by
 induction l with
 |nil=>
  rintro cur (h|⟨_,rfl⟩)
  ·cases h
  ·exact⟨[],rfl⟩
 |cons c r ih=>
  rintro cur (h|⟨h,_⟩)
  ·by_cases hr:r = []
   ·subst hr
    have:c=10:=by simpa using h
    subst this
    exact⟨[cur],by simp[lf]⟩
   ·have h2:r.getLast? = some 10:=by
     rw[List.getLast?_cons_of_ne_nil hr] at h
     exact h
    by_cases hc:c=10
    ·obtain⟨ls,e⟩:=ih [] (.inl h2)
     exact⟨cur :: ls,by simp[lf,hc,e]⟩
    ·obtain⟨ls,e⟩:=ih (cur ++ [c]) (.inl h2)
     exact⟨ls,by simp[lf,hc,e]⟩
  ·cases h
theorem cut_last (a:ByteArray):(Bs (a.extract 0 (cutN a))).getLast? = some 10∨Bs (a.extract 0 (cutN a)) = []:=by
 rw[cO,List.drop_zero,Nat.sub_zero]
 unfold cutN
 rcases fu a with ⟨h,_⟩|⟨i,h1,h,h2,_⟩
 ·rw[h];right;simp
 ·left
  rw[h]
  have e:((i:Int)+1).toNat=i+1:=by omega
  rw[e,List.getLast?_eq_getElem?]
  have hl:((Bs a).take (i+1)).length=i+1:=by rw[List.length_take,ai];omega
  rw[hl,List.getElem?_take_of_lt (by omega)]
  exact h2
theorem cut_ok (a:ByteArray) (h:a.size≤1048576):(LS (a.extract 0 (cutN a))).2=(0,0):=by
 have hs:(a.extract 0 (cutN a)).size≤1048576:=by
  rw[ByteArray.size_extract]
  have:=cutN_le a
  omega
 unfold LS
 rw[if_neg (by omega)]
 obtain⟨ls,e⟩:=lf_end (Bs (a.extract 0 (cutN a))) [] (by
  rcases cut_last a with h|h
  ·exact .inl h
  ·exact .inr ⟨h,rfl⟩)
 rw[e]
 rfl
def aC (a:ByteArray):List ByteArray:=(LS (a.extract 0 (cutN a))).1
end Go.Proofs.YtjokedpaidmjoaaGreatDoor.Pu
