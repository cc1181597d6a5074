/- A part of the proof. -/
import Derived.Test.YtcmhfcciapenfaaDoorQ39
set_option linter.all false
namespace Go.Proofs.YtcmhfcciapenfaaDoor.Pa
open Go.RowKit Go.Proofs.YtcmhfcciapenfaaDoorW.PrintWords Go.Proofs.YtcmhfcciapenfaaDoorW.PrintLast Go.Proofs.YtcmhfcciapenfaaDoorW.PrintMore
attribute [local go_sem] bL bM bW bX bG bH bN bO
def keepsFit (t:Tar):Prop:=TarLen t∧dF t=true∧(t.f15.length * 32+32≤140737488355328∧t.f17.length * 56+56≤140737488355328∧t.f18.length * 40+40≤140737488355328)
open Classical in
noncomputable def pylonlaw09_SoundKeeps.f (k:Nat) (t0:Tar):Option Bool:=if keepsFit t0 then (sCheck.f k t0).bind fun _=>some true else none
theorem pylonlaw09_SoundKeeps.calls (k:Nat) (t0:Tar) (cs0:List Value) (r:Bool) (w:World) (hT0:kTar.K w t0 cs0) (h:pylonlaw09_SoundKeeps.f k t0=some r) :
  Calls Tryd.prog 6 #[.agg cs0.toArray] w fun e w'=>e = .returned (.bool r)∧Below w.heap.size w w':=by
 unfold pylonlaw09_SoundKeeps.f at h
 split at h
 ·rename_i hc
  obtain⟨hl,hcs,hr⟩:=hc
  cases h1:sCheck.f k t0 with
  |none=>rw[h1] at h;cases h
  |some z=>
   obtain⟨n,e⟩:=z
   rw[h1] at h
   cases h
   obtain⟨φ,hS,hV⟩:=tar_sim hT0
   refine(keeps_calls t0 n e hl hcs hr ⟨k,h1⟩ φ w.heap.size w [.agg cs0.toArray] hS ⟨_,_,rfl,hV,rfl⟩).mono ?_
   rintro e1 w1 ⟨φ',v',u,H',rfl,⟨rfl,rfl⟩,_,_,hv,hb⟩
   exact⟨congrArg _ hv,hb⟩
 ·cases h
end Go.Proofs.YtcmhfcciapenfaaDoor.Pa
