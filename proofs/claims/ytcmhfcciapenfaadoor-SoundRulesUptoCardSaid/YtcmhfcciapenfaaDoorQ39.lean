/- A part of the proof. -/
import Derived.Test.YtcmhfcciapenfaaDoorQ38
set_option linter.all false
namespace Go.Proofs.YtcmhfcciapenfaaDoor.Pa
open Go Go.RowKit Go.Proofs.YtcmhfcciapenfaaDoorW.PrintWords Am
def RowIn {α:Type} (H:Heap) (sz:Nat) (E:α → List AV → Prop) (l:List α) (s:AV):Prop:=(s = .nilsl∧l = [])∨∃ b v B,s = .sl b 0 l.length v∧H[b]? = some B∧B.ver=v∧l.length≤B.len∧B.sz=sz∧∀ i x,l[i]? = some x → E x (B.get i)
def seaE (x:S41) (c:List AV):Prop:=c=seaV x
def holE (x:S43) (c:List AV):Prop:=c=holV x
def winE (x:S45) (c:List AV):Prop:=c=winV x
def stpE (x:S70) (c:List AV):Prop:=c=stpV x
def blkE (H:Heap) (x:S48) (c:List AV):Prop:=∃ s,c = [.str x.f0,s]∧RowIn H 2 stpE x.f1 s
structure RepT (t:Tar) (H:Heap) (s15 s16 s17 s18:AV):Prop where
 r15:RowIn H 3 seaE t.f15 s15
 r16:RowIn H 4 holE t.f16 s16
 r17:RowIn H 5 winE t.f17 s17
 r18:RowIn H 2 (blkE H) t.f18 s18
def repV (t:Tar) (s15 s16 s17 s18:AV):List AV:=[.str t.f0,.int .i64 t.f1,.int .i64 t.f2,.int .i64 t.f3,.int .i64 t.f4,.int .i64 t.f5,.int .i64 t.f6,.int .i64 t.f7,.int .i64 t.f8,.int .i64 t.f9,.int .i64 t.f10,.int .i64 t.f11,.int .i64 t.f12,.int .i64 t.f13,.int .i64 t.f14,s15,s16,s17,s18,.int .i64 t.f19,.int .i64 t.f20,.int .i64 t.f21,.int .i64 t.f22,.int .i64 t.f23,.int .i64 t.f24,.int .i64 t.f25,.int .i64 t.f26,.int .i64 t.f27]
end Go.Proofs.YtcmhfcciapenfaaDoor.Pa
