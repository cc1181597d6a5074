/- A part of the proof. -/
import Derived.Test.YtcmhfcciapenfaaDoorQ00
import Derived.Lib.Strings
set_option linter.all false
namespace Go.Proofs.YtcmhfcciapenfaaDoor.Pu
open Go.RowKit Go.Proofs.YtcmhfcciapenfaaDoorW.PrintWords
def Bs (a:ByteArray):List UInt8:=a.data.toList
theorem dK (a:ByteArray):(Bs a).length=a.size:=by unfold Bs;simp only[Array.length_toList];rfl
theorem bX (a:ByteArray):a.toList=Bs a:=ByteArray.toList_eq a
theorem bt_get {a:ByteArray} {i:Nat} {c:UInt8} (h:(Bs a)[i]? = some c):bt a (i:Int)=(c.toNat:Int):=by
 unfold bt
 have hi:i < a.size:=by
  have:=(List.getElem?_eq_some_iff.1 h).1
  rwa [dK] at this
 have e:((i:Int)).toNat=i:=by omega
 rw[dif_pos (by omega)]
 congr 2
 have h2:=(List.getElem?_eq_some_iff.1 h).2
 rw[← h2]
 simp only[e]
 unfold Bs
 rfl
theorem bt_drop {a:ByteArray} {i:Nat} {c:UInt8} {r:List UInt8} (h:(Bs a).drop i=c :: r):bt a (i:Int)=(c.toNat:Int):=by
 refine bt_get ?_
 have:((Bs a).drop i)[0]? = some c:=by rw[h];rfl
 rwa [List.getElem?_drop,Nat.add_zero] at this
theorem dV {α:Type} {l:List α} {i:Nat} {c:α} {r:List α} (h:l.drop i=c :: r):l.drop (i+1)=r:=by
 rw[← List.drop_drop,h];rfl
theorem fE {α:Type} {l:List α} {i:Nat} {c:α} {r:List α} (h:l.drop i=c :: r):i < l.length:=by
 apply Decidable.byContradiction
 intro hn
 rw[List.drop_eq_nil_iff.2 (by omega)] at h
 cases h
theorem dP {α:Type} {l:List α} {i:Nat} {r:List α} (h:l.drop i=r) (hi:i≤l.length):i+r.length=l.length:=by
 rw[← h,List.length_drop];omega
theorem w64 {x:Int} (h0 : -9223372036854775808≤x) (h1:x≤9223372036854775807):wrap64 x=x:=by
 unfold wrap64;omega
end Go.Proofs.YtcmhfcciapenfaaDoor.Pu
