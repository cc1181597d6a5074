/- A part of the proof. -/
import Derived.BigCall
import Derived.BigGuard
import Derived.Laws.Strings3
import Derived.Lib.Bytealg
import Derived.Lib.Strings
import Derived.Lib.Walk
import Derived.Shelf.GgSortFunc.Tiny
import Derived.Shelf.SlSortFuncK.WholeK
import Derived.Test.YtcmhfcciapenfaaDoorQ01
import Derived.Test.YtcmhfcciapenfaaDoorQ02
import Derived.Test.YtcmhfcciapenfaaDoorQ03
import Derived.Test.YtcmhfcciapenfaaDoorQ04
set_option linter.all false
namespace Go.Proofs.YtcmhfcciapenfaaDoor.Pa
open Go.RowKit Go.Proofs.YtcmhfcciapenfaaDoorW.PrintWords Go.Proofs.YtcmhfcciapenfaaDoorW.PrintLast Go.Proofs.YtcmhfcciapenfaaDoorW.PrintMore
attribute [local go_sem] bJ bL bU bV bA bB bM bN
def errW:Option Int → Value
 |none=>.nilIface
 |some c=>.iface 0 (.int .i64 c)
theorem ay:errW none = .nilIface:=rfl
theorem az (c:Int):errW (some c) = .iface 0 (.int .i64 c):=rfl
theorem eT:(Tryd.prog.info? 79).map (fun i=>(i.zero,i.size,i.bytes))=some (some (.agg #[(.int .i64 0),(.int .i64 0)]),2,16):=by kernel_rfl
structure S79 where
 f0:Int
 f1:Int
def z79:S79:=⟨(0:Int),(0:Int)⟩
def k79:Kd S79:=Kd.iso (Kd.pair (Kd.int .i64) (Kd.int .i64)) (fun x:S79=>(x.f0,x.f1))
theorem cB {w:World} {x:S79} {cs:List Value} (h:k79.K w x cs):cs = [.int .i64 x.f0,.int .i64 x.f1]:=by
 obtain⟨_,_,rfl,rfl,rfl⟩:=h
 exact rfl
theorem k79_openM {w:World} {base:Nat} {ok:Nat → Prop} {x:S79} {cs:List Value} (h:k79.M w base ok x cs):cs = [.int .i64 x.f0,.int .i64 x.f1]:=by
 obtain⟨_,_,rfl,rfl,rfl⟩:=h
 exact rfl
theorem k79_mk (w:World) (x:S79):k79.K w x [.int .i64 x.f0,.int .i64 x.f1]:=⟨[.int .i64 x.f0],[.int .i64 x.f1],rfl,rfl,rfl⟩
theorem dD (w:World) (base:Nat) (ok:Nat → Prop) (x:S79):k79.M w base ok x [.int .i64 x.f0,.int .i64 x.f1]:=⟨[.int .i64 x.f0],[.int .i64 x.f1],rfl,rfl,rfl⟩
def rd_T79 (xs:List S79) (i:Int):S79:=xs.getD i.toNat z79
theorem at_T79 {w:World} {A:Option Addr} {n:Nat} {xs:List S79} (h:Kd.C k79 w A n xs) (i:Int) (h0:0≤i) (h1:i < n) : ∃ ad ,A=some ad∧w.cell? (ad.add (i.toNat * 2))=some (.int .i64 (rd_T79 xs i).f0)∧w.cell? ⟨(ad.add (i.toNat * 2)).block,(ad.add (i.toNat * 2)).off+1,none⟩=some (.int .i64 (rd_T79 xs i).f1):=by
 obtain⟨ad,c,e,_,hK,hc0⟩:=Kd.C_get h z79 i h0 h1
 have hc : ∀ j u,c[j]? = some u → w.cell? (ad.add (i.toNat * 2+j))=some u:=hc0
 obtain rfl:=cB hK
 exact⟨ad,e,hc 0 _ rfl,by rw[← bY _ _ 1 (by omega)];exact hc 1 _ rfl⟩
structure S41 where
 f0:ByteArray
 f1:Int
 f2:Int
def z41:S41:=⟨(⟨#[]⟩ : ByteArray),(0:Int),(0:Int)⟩
def k41:Kd S41:=Kd.iso (Kd.pair Kd.string (Kd.pair (Kd.int .i64) (Kd.int .i64))) (fun x:S41=>(x.f0,x.f1,x.f2))
theorem k41_open {w:World} {x:S41} {cs:List Value} (h:k41.K w x cs):cs = [.string x.f0,.int .i64 x.f1,.int .i64 x.f2]:=by
 obtain⟨_,_,rfl,rfl,⟨_,_,rfl,rfl,rfl⟩⟩:=h
 exact rfl
theorem k41_mk (w:World) (x:S41):k41.K w x [.string x.f0,.int .i64 x.f1,.int .i64 x.f2]:=⟨[.string x.f0],[.int .i64 x.f1,.int .i64 x.f2],rfl,rfl,⟨[.int .i64 x.f1],[.int .i64 x.f2],rfl,rfl,rfl⟩⟩
theorem k41_mkM (w:World) (base:Nat) (ok:Nat → Prop) (x:S41):k41.M w base ok x [.string x.f0,.int .i64 x.f1,.int .i64 x.f2]:=⟨[.string x.f0],[.int .i64 x.f1,.int .i64 x.f2],rfl,rfl,⟨[.int .i64 x.f1],[.int .i64 x.f2],rfl,rfl,rfl⟩⟩
def dw (xs:List S41) (i:Int):S41:=xs.getD i.toNat z41
theorem at_T41 {w:World} {A:Option Addr} {n:Nat} {xs:List S41} (h:Kd.C k41 w A n xs) (i:Int) (h0:0≤i) (h1:i < n) : ∃ ad ,A=some ad∧w.cell? (ad.add (i.toNat * 3))=some (.string (dw xs i).f0)∧w.cell? ⟨(ad.add (i.toNat * 3)).block,(ad.add (i.toNat * 3)).off+1,none⟩=some (.int .i64 (dw xs i).f1)∧w.cell? ⟨(ad.add (i.toNat * 3)).block,(ad.add (i.toNat * 3)).off+2,none⟩=some (.int .i64 (dw xs i).f2):=by
 obtain⟨ad,c,e,_,hK,hc0⟩:=Kd.C_get h z41 i h0 h1
 have hc : ∀ j u,c[j]? = some u → w.cell? (ad.add (i.toNat * 3+j))=some u:=hc0
 obtain rfl:=k41_open hK
 exact⟨ad,e,hc 0 _ rfl,by rw[← bY _ _ 1 (by omega)];exact hc 1 _ rfl,by rw[← bY _ _ 2 (by omega)];exact hc 2 _ rfl⟩
structure S70 where
 f0:Int
 f1:Int
def z70:S70:=⟨(0:Int),(0:Int)⟩
def k70:Kd S70:=Kd.iso (Kd.pair (Kd.int .i64) (Kd.int .i64)) (fun x:S70=>(x.f0,x.f1))
theorem k70_open {w:World} {x:S70} {cs:List Value} (h:k70.K w x cs):cs = [.int .i64 x.f0,.int .i64 x.f1]:=by
 obtain⟨_,_,rfl,rfl,rfl⟩:=h
 exact rfl
theorem k70_mk (w:World) (x:S70):k70.K w x [.int .i64 x.f0,.int .i64 x.f1]:=⟨[.int .i64 x.f0],[.int .i64 x.f1],rfl,rfl,rfl⟩
theorem k70_mkM (w:World) (base:Nat) (ok:Nat → Prop) (x:S70):k70.M w base ok x [.int .i64 x.f0,.int .i64 x.f1]:=⟨[.int .i64 x.f0],[.int .i64 x.f1],rfl,rfl,rfl⟩
def aV (xs:List S70) (i:Int):S70:=xs.getD i.toNat z70
theorem fK {w:World} {A:Option Addr} {n:Nat} {xs:List S70} (h:Kd.C k70 w A n xs) (i:Int) (h0:0≤i) (h1:i < n) : ∃ ad ,A=some ad∧w.cell? (ad.add (i.toNat * 2))=some (.int .i64 (aV xs i).f0)∧w.cell? ⟨(ad.add (i.toNat * 2)).block,(ad.add (i.toNat * 2)).off+1,none⟩=some (.int .i64 (aV xs i).f1):=by
 obtain⟨ad,c,e,_,hK,hc0⟩:=Kd.C_get h z70 i h0 h1
 have hc : ∀ j u,c[j]? = some u → w.cell? (ad.add (i.toNat * 2+j))=some u:=hc0
 obtain rfl:=k70_open hK
 exact⟨ad,e,hc 0 _ rfl,by rw[← bY _ _ 1 (by omega)];exact hc 1 _ rfl⟩
structure S48 where
 f0:ByteArray
 f1:(List S70)
def z48:S48:=⟨(⟨#[]⟩ : ByteArray),([] : List S70)⟩
def k48:Kd S48:=Kd.iso (Kd.pair Kd.string (Kd.slice 70 k70)) (fun x:S48=>(x.f0,x.f1))
theorem k48_open {w:World} {x:S48} {cs:List Value} (h:k48.K w x cs) : ∃ A1 c1,cs = [.string x.f0,.slice A1 x.f1.length c1]∧x.f1.length≤c1∧k70.C w A1 x.f1.length x.f1:=by
 obtain⟨_,_,rfl,rfl,⟨A1,c1,rfl,l1,g1⟩⟩:=h
 exact⟨A1,c1,rfl,l1,g1⟩
theorem k48_mk (w:World) (x:S48) {A1:Option Addr} {c1:Nat} (l1:x.f1.length≤c1) (g1:k70.C w A1 x.f1.length x.f1):k48.K w x [.string x.f0,.slice A1 x.f1.length c1]:=⟨[.string x.f0],[.slice A1 x.f1.length c1],rfl,rfl,⟨A1,c1,rfl,l1,g1⟩⟩
theorem k48_mkM (w:World) (base:Nat) (ok:Nat → Prop) (x:S48) {v1:Value} (g1:k70.R 70 w base ok v1 x.f1):k48.M w base ok x [.string x.f0,v1]:=⟨[.string x.f0],[v1],rfl,rfl,⟨v1,rfl,g1⟩⟩
def bu (xs:List S48) (i:Int):S48:=xs.getD i.toNat z48
theorem ek {w:World} {A:Option Addr} {n:Nat} {xs:List S48} (h:Kd.C k48 w A n xs) (i:Int) (h0:0≤i) (h1:i < n) : ∃ ad A1 c1,A=some ad∧w.cell? (ad.add (i.toNat * 2))=some (.string (bu xs i).f0)∧w.cell? ⟨(ad.add (i.toNat * 2)).block,(ad.add (i.toNat * 2)).off+1,none⟩=some (.slice A1 (bu xs i).f1.length c1)∧(bu xs i).f1.length≤c1∧k70.C w A1 (bu xs i).f1.length (bu xs i).f1:=by
 obtain⟨ad,c,e,_,hK,hc0⟩:=Kd.C_get h z48 i h0 h1
 have hc : ∀ j u,c[j]? = some u → w.cell? (ad.add (i.toNat * 2+j))=some u:=hc0
 obtain⟨A1,c1,rfl,l1,g1⟩:=k48_open hK
 exact⟨ad,A1,c1,e,hc 0 _ rfl,by rw[← bY _ _ 1 (by omega)];exact hc 1 _ rfl,l1,g1⟩
structure S43 where
 f0:Int
 f1:Int
 f2:Int
 f3:Int
def z43:S43:=⟨(0:Int),(0:Int),(0:Int),(0:Int)⟩
def k43:Kd S43:=Kd.iso (Kd.pair (Kd.int .i64) (Kd.pair (Kd.int .i64) (Kd.pair (Kd.int .i64) (Kd.int .i64)))) (fun x:S43=>(x.f0,x.f1,x.f2,x.f3))
theorem k43_open {w:World} {x:S43} {cs:List Value} (h:k43.K w x cs):cs = [.int .i64 x.f0,.int .i64 x.f1,.int .i64 x.f2,.int .i64 x.f3]:=by
 obtain⟨_,_,rfl,rfl,⟨_,_,rfl,rfl,⟨_,_,rfl,rfl,rfl⟩⟩⟩:=h
 exact rfl
theorem k43_mk (w:World) (x:S43):k43.K w x [.int .i64 x.f0,.int .i64 x.f1,.int .i64 x.f2,.int .i64 x.f3]:=⟨[.int .i64 x.f0],[.int .i64 x.f1,.int .i64 x.f2,.int .i64 x.f3],rfl,rfl,⟨[.int .i64 x.f1],[.int .i64 x.f2,.int .i64 x.f3],rfl,rfl,⟨[.int .i64 x.f2],[.int .i64 x.f3],rfl,rfl,rfl⟩⟩⟩
def aW (xs:List S43) (i:Int):S43:=xs.getD i.toNat z43
theorem at_T43 {w:World} {A:Option Addr} {n:Nat} {xs:List S43} (h:Kd.C k43 w A n xs) (i:Int) (h0:0≤i) (h1:i < n) : ∃ ad ,A=some ad∧w.cell? (ad.add (i.toNat * 4))=some (.int .i64 (aW xs i).f0)∧w.cell? ⟨(ad.add (i.toNat * 4)).block,(ad.add (i.toNat * 4)).off+1,none⟩=some (.int .i64 (aW xs i).f1)∧w.cell? ⟨(ad.add (i.toNat * 4)).block,(ad.add (i.toNat * 4)).off+2,none⟩=some (.int .i64 (aW xs i).f2)∧w.cell? ⟨(ad.add (i.toNat * 4)).block,(ad.add (i.toNat * 4)).off+3,none⟩=some (.int .i64 (aW xs i).f3):=by
 obtain⟨ad,c,e,_,hK,hc0⟩:=Kd.C_get h z43 i h0 h1
 have hc : ∀ j u,c[j]? = some u → w.cell? (ad.add (i.toNat * 4+j))=some u:=hc0
 obtain rfl:=k43_open hK
 exact⟨ad,e,hc 0 _ rfl,by rw[← bY _ _ 1 (by omega)];exact hc 1 _ rfl,by rw[← bY _ _ 2 (by omega)];exact hc 2 _ rfl,by rw[← bY _ _ 3 (by omega)];exact hc 3 _ rfl⟩
end Go.Proofs.YtcmhfcciapenfaaDoor.Pa
