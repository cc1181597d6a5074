/- A part of the proof. -/
import Derived.Test.YtcmhfcciapenfaaDoorQ38
set_option linter.all false
namespace Go.Proofs.YtcmhfcciapenfaaDoor.Pa
open Go.RowKit Go.Proofs.YtcmhfcciapenfaaDoorW.PrintWords Go.Proofs.YtcmhfcciapenfaaDoorW.PrintLast Go.Proofs.YtcmhfcciapenfaaDoorW.PrintMore
attribute [local go_sem] bP bQ bZ cu bJ bK bR bS
def coversFit (t:Tar) (a:Int):Prop:=TarLen t∧dO t=true∧(∀ s∈t.f15,in64 s.f1∧in64 s.f2)∧in64 (mdR a)
open Classical in
noncomputable def pylonlaw09_SoundCovers.f (k:Nat) (t0:Tar) (a1 a2 a3:Int):Option Bool:=if coversFit t0 a1 then (sCheck.f k t0).bind fun z=>some (if z.2=0 then covers t0 a1 a2 a3 else z.2 == 2) else none
theorem pylonlaw09_SoundCovers.calls (k:Nat) (t0:Tar) (cs0:List Value) (a1:Int) (a2:Int) (a3:Int) (r:Bool) (w:World) (hT0:kTar.K w t0 cs0) (h:pylonlaw09_SoundCovers.f k t0 a1 a2 a3=some r) :
  Calls Tryd.prog 9 #[.agg cs0.toArray,.int .i64 a1,.int .i64 a2,.int .i64 a3] w fun e w'=>e = .returned (.bool r)∧Below w.heap.size w w':=by
 unfold pylonlaw09_SoundCovers.f at h
 split at h
 ·rename_i hc
  obtain⟨hl,hcs,h15,hd⟩:=hc
  cases h1:sCheck.f k t0 with
  |none=>rw[h1] at h;cases h
  |some z=>
   obtain⟨n,e⟩:=z
   rw[h1] at h
   cases h
   obtain⟨φ,hS,hV⟩:=tar_sim hT0
   refine(covers_calls t0 a1 a2 a3 n e hl hcs ⟨k,h1⟩ h15 hd φ w.heap.size w [.agg cs0.toArray,.int .i64 a1,.int .i64 a2,.int .i64 a3] hS ⟨_,_,rfl,hV,_,_,rfl,rfl,_,_,rfl,rfl,_,_,rfl,rfl,rfl⟩).mono ?_
   rintro e1 w1 ⟨φ',v',u,H',rfl,⟨rfl,rfl⟩,_,_,hv,hb⟩
   exact⟨congrArg _ hv,hb⟩
 ·cases h
end Go.Proofs.YtcmhfcciapenfaaDoor.Pa
