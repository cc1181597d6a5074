/- A part of the proof. -/
import Derived.Test.YtcmhfcciapenfaaDoorQ40
set_option linter.all false
namespace Go.Proofs.YtcmhfcciapenfaaDoor.Pa
open Go.RowKit Go.Proofs.YtcmhfcciapenfaaDoorW.PrintWords Go.Proofs.YtcmhfcciapenfaaDoorW.PrintLast Go.Proofs.YtcmhfcciapenfaaDoorW.PrintMore
attribute [local go_sem] bP bQ cz cK bJ bK bR bS
def orderFit (t:Tar):Prop:=TarLen t∧dF t=true
open Classical in
noncomputable def pylonlaw09_SoundOrder.f (k:Nat) (t0:Tar):Option Bool:=if orderFit t0 then (sCheck.f k t0).bind fun a=>(sCheck.f k (revT t0)).bind fun b=>some ((a.1 == b.1) && (a.2 == b.2)) else none
theorem pylonlaw09_SoundOrder.calls (k:Nat) (t0:Tar) (cs0:List Value) (r:Bool) (w:World) (hT0:kTar.K w t0 cs0) (h:pylonlaw09_SoundOrder.f k t0=some r) :
  Calls Tryd.prog 4 #[.agg cs0.toArray] w fun e w'=>e = .returned (.bool r)∧Below w.heap.size w w':=by
 unfold pylonlaw09_SoundOrder.f at h
 split at h
 ·rename_i hc
  obtain⟨hl,hcs⟩:=hc
  cases h1:sCheck.f k t0 with
  |none=>rw[h1] at h;cases h
  |some z=>
   cases h2:sCheck.f k (revT t0) with
   |none=>rw[h1,h2] at h;cases h
   |some y=>
    obtain⟨n,e⟩:=z
    obtain⟨m,f⟩:=y
    rw[h1,h2] at h
    cases h
    obtain⟨φ,hS,hV⟩:=tar_sim hT0
    refine(order_calls t0 n e m f hl hcs ⟨k,h1⟩ ⟨k,h2⟩ φ w.heap.size w [.agg cs0.toArray] hS ⟨_,_,rfl,hV,rfl⟩).mono ?_
    rintro e1 w1 ⟨φ',v',u,H',rfl,⟨rfl,rfl⟩,_,_,hv,hb⟩
    exact⟨congrArg _ hv,hb⟩
 ·cases h
end Go.Proofs.YtcmhfcciapenfaaDoor.Pa
