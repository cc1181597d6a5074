/- A part of the proof. -/
import Derived.Test.YtjokedpaidmjoaaGreatDoorQ04
set_option linter.all false
namespace Go.Proofs.YtjokedpaidmjoaaGreatDoor.Pa
open Go.RowKit Go.Proofs.YtjokedpaidmjoaaGreatDoorW.PrintWords Go.Proofs.YtjokedpaidmjoaaGreatDoorW.PrintLast Go.Proofs.YtjokedpaidmjoaaGreatDoorW.PrintMore
structure S41 where
 f0:Int
 f1:Int
 f2:Int
 f3:Int
 f4:Int
def k41:Kd S41:=Kd.iso (Kd.pair (Kd.int .i64) (Kd.pair (Kd.int .i64) (Kd.pair (Kd.int .i64) (Kd.pair (Kd.int .i64) (Kd.int .u8))))) (fun x:S41=>(x.f0,x.f1,x.f2,x.f3,x.f4))
theorem k41_open {w:World} {x:S41} {cs:List Value} (h:k41.K w x cs):cs = [.int .i64 x.f0,.int .i64 x.f1,.int .i64 x.f2,.int .i64 x.f3,.int .u8 x.f4]:=by
 obtain⟨_,_,rfl,rfl,⟨_,_,rfl,rfl,⟨_,_,rfl,rfl,⟨_,_,rfl,rfl,rfl⟩⟩⟩⟩:=h
 exact rfl
structure Tar where
 f0:ByteArray
 f1:Int
 f2:Int
 f3:Int
 f4:Int
 f5:Int
 f6:List S41
def kTar:Kd Tar:=Kd.iso (Kd.pair Kd.string (Kd.pair (Kd.int .i64) (Kd.pair (Kd.int .i64) (Kd.pair (Kd.int .i64) (Kd.pair (Kd.int .i64) (Kd.pair (Kd.int .i64) (Kd.slice 41 k41))))))) (fun x:Tar=>(x.f0,x.f1,x.f2,x.f3,x.f4,x.f5,x.f6))
theorem kTar_open {w:World} {t:Tar} {cs:List Value} (h:kTar.K w t cs) : ∃ A c,cs = [.string t.f0,.int .i64 t.f1,.int .i64 t.f2,.int .i64 t.f3,.int .i64 t.f4,.int .i64 t.f5,.slice A t.f6.length c]∧t.f6.length≤c∧k41.C w A t.f6.length t.f6:=by
 obtain⟨_,_,rfl,rfl,⟨_,_,rfl,rfl,⟨_,_,rfl,rfl,⟨_,_,rfl,rfl,⟨_,_,rfl,rfl,⟨_,_,rfl,rfl,⟨A,c,rfl,l,g⟩⟩⟩⟩⟩⟩⟩:=h
 exact⟨A,c,rfl,l,g⟩
theorem kTar_mk {w:World} (t:Tar) {A:Option Addr} {c:Nat} (l:t.f6.length≤c) (g:k41.C w A t.f6.length t.f6):kTar.K w t [.string t.f0,.int .i64 t.f1,.int .i64 t.f2,.int .i64 t.f3,.int .i64 t.f4,.int .i64 t.f5,.slice A t.f6.length c]:=⟨[.string t.f0],_,rfl,rfl,⟨[.int .i64 t.f1],_,rfl,rfl,⟨[.int .i64 t.f2],_,rfl,rfl,⟨[.int .i64 t.f3],_,rfl,rfl,⟨[.int .i64 t.f4],_,rfl,rfl,⟨[.int .i64 t.f5],_,rfl,rfl,⟨A,c,rfl,l,g⟩⟩⟩⟩⟩⟩⟩
end Go.Proofs.YtjokedpaidmjoaaGreatDoor.Pa
