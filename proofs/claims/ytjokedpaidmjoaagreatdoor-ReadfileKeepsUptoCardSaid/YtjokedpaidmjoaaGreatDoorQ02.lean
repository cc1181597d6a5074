/- A part of the proof. -/
import Derived.Test.YtjokedpaidmjoaaGreatDoorQ00
import Derived.Lib.Strings
set_option linter.all false
namespace Go.Proofs.YtjokedpaidmjoaaGreatDoor.Pu
open Go.RowKit Go.Proofs.YtjokedpaidmjoaaGreatDoorW.PrintWords
def Bs (a:ByteArray):List UInt8:=a.data.toList
def toB (l:List UInt8):ByteArray:=⟨l.toArray⟩
theorem fO (l:List UInt8):Bs (toB l)=l:=rfl
theorem toB_Bs (a:ByteArray):toB (Bs a)=a:=by obtain⟨⟨l⟩⟩:=a;rfl
theorem Bs_inj {a b:ByteArray} (h:Bs a=Bs b):a=b:=by rw[← toB_Bs a,← toB_Bs b,h]
theorem ai (a:ByteArray):(Bs a).length=a.size:=by unfold Bs;simp only[Array.length_toList];rfl
theorem fU (l:List UInt8):(toB l).size=l.length:=by rw[← ai,fO]
theorem Bs_append (a b:ByteArray):Bs (a ++ b)=Bs a ++ Bs b:=by unfold Bs;rw[ByteArray.data_append,Array.toList_append]
theorem cO (s:ByteArray) (a b:Nat):Bs (s.extract a b)=((Bs s).drop a).take (b - a):=by
 obtain⟨⟨l⟩⟩:=s
 unfold Bs
 rw[ByteArray.data_extract]
 simp[Array.toList_extract,List.extract_eq_take_drop]
theorem aY (a:ByteArray):a.toList=Bs a:=ByteArray.toList_eq a
theorem toList_inj {a b:ByteArray} (h:a.toList=b.toList):a=b:=Bs_inj (by rw[← aY,← aY,h])
theorem eQ (s:ByteArray) (a b:Nat):s.extract a b=toB (((Bs s).drop a).take (b - a)):=Bs_inj (by rw[cO,fO])
theorem bt_get {a:ByteArray} {i:Nat} {c:UInt8} (h:(Bs a)[i]? = some c):bt a (i:Int)=(c.toNat:Int):=by
 unfold bt
 have hi:i < a.size:=by
  have:=(List.getElem?_eq_some_iff.1 h).1
  rwa [ai] at this
 have e:((i:Int)).toNat=i:=by omega
 rw[dif_pos (by omega)]
 congr 2
 have h2:=(List.getElem?_eq_some_iff.1 h).2
 rw[← h2]
 simp only[e]
 unfold Bs
 rfl
theorem dE {a:ByteArray} {i:Nat} {c:UInt8} {r:List UInt8} (h:(Bs a).drop i=c :: r):bt a (i:Int)=(c.toNat:Int):=by
 refine bt_get ?_
 have:((Bs a).drop i)[0]? = some c:=by rw[h];rfl
 rwa [List.getElem?_drop,Nat.add_zero] at this
theorem bi {α:Type} {l:List α} {i:Nat} {c:α} {r:List α} (h:l.drop i=c :: r):l.drop (i+1)=r:=by
 rw[← List.drop_drop,h];rfl
theorem bW {α:Type} {l:List α} {i:Nat} {c:α} {r:List α} (h:l.drop i=c :: r):i < l.length:=by
 apply Decidable.byContradiction
 intro hn
 rw[List.drop_eq_nil_iff.2 (by omega)] at h
 cases h
theorem bP {α:Type} {l:List α} {i:Nat} {r:List α} (h:l.drop i=r) (hi:i≤l.length):i+r.length=l.length:=by
 rw[← h,List.length_drop];omega
theorem u8_eq {c d:UInt8} : (c.toNat:Int)=(d.toNat:Int)↔c=d:=by
 constructor
 ·intro h;exact UInt8.toNat_inj.1 (by omega)
 ·rintro rfl;rfl
theorem w64 {x:Int} (h0 : -9223372036854775808≤x) (h1:x≤9223372036854775807):wrap64 x=x:=by
 unfold wrap64;omega
theorem rdOf_get {α:Type} (d:α) (xs:List α) (i:Nat):rdOf d xs (i:Int)=xs.getD i d:=by
 unfold rdOf
 simp
end Go.Proofs.YtjokedpaidmjoaaGreatDoor.Pu
