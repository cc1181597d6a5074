/- A part of the proof. -/
import Derived.Test.YtcmhfcciapenfaaDoorQ41
set_option linter.all false
namespace Go.Proofs.YtcmhfcciapenfaaDoor.Pa
open Go.RowKit Go.Proofs.YtcmhfcciapenfaaDoorW.PrintWords Go.Proofs.YtcmhfcciapenfaaDoorW.PrintLast Go.Proofs.YtcmhfcciapenfaaDoorW.PrintMore
attribute [local go_sem] bJ bL bU bV bA bB bM bN
def cO (a:Int):Nat:=(IntKind.i64.wrap ((IntKind.u64.wrap a).tmod 14)).toNat
def rulesFit (t:Tar) (a:Int):Prop:=eu t∧dS t=true∧(t.f15.length * 32+32≤140737488355328∧t.f16.length * 32+32≤140737488355328)∧cO a < 14∧IntKind.i64.wrap ((IntKind.u64.wrap a).tmod 14)=(cO a:Int)∧eu (modT t (cO a))
open Classical in
noncomputable def pylonlaw09_SoundRules.f (k:Nat) (t0:Tar) (a1:Int):Option Bool:=if rulesFit t0 a1 then (rCheck.f k t0).bind fun a=>if a.2=0 then (if t0.f15≠[]∧t0.f17≠[]∧t0.f18≠[] then (sCheck.f k (modT t0 (cO a1))).bind fun b=>some ((b.1 == ruleOf (cO a1)) && (b.2 == 2)) else none) else some true else none
theorem pylonlaw09_SoundRules.calls (k:Nat) (t0:Tar) (cs0:List Value) (a1:Int) (r:Bool) (w:World) (hT0:kTar.K w t0 cs0) (h:pylonlaw09_SoundRules.f k t0 a1=some r) :
  Calls Tryd.prog 5 #[.agg cs0.toArray,.int .i64 a1] w fun e w'=>e = .returned (.bool r)∧Below w.heap.size w w':=by
 unfold pylonlaw09_SoundRules.f at h
 split at h
 ·rename_i hc
  obtain⟨hl,hcs,hr,hi,hw,hl2⟩:=hc
  cases h1:rCheck.f k t0 with
  |none=>rw[h1] at h;cases h
  |some z=>
   obtain⟨n,e⟩:=z
   rw[h1] at h
   simp only[Option.bind_some] at h
   obtain⟨φ,hS,hV⟩:=tar_sim hT0
   split at h
   ·rename_i he
    split at h
    ·rename_i hn
     cases h2:sCheck.f k (modT t0 (cO a1)) with
     |none=>rw[h2] at h;cases h
     |some y=>
      obtain⟨m,f⟩:=y
      rw[h2] at h
      cases h
      refine(rules_calls t0 a1 n e m f (cO a1) hi hw hl hcs hr ⟨k,h1⟩ (fun _=>hn) hl2 (fun _=>⟨k,h2⟩) φ w.heap.size w [.agg cs0.toArray,.int .i64 a1] hS ⟨_,_,rfl,hV,_,_,rfl,rfl,rfl⟩).mono ?_
      rintro e1 w1 ⟨φ',v',u,H',rfl,⟨rfl,rfl⟩,_,_,hv,hb⟩
      rw[if_pos he] at hv
      exact⟨congrArg _ hv,hb⟩
    ·cases h
   ·rename_i he
    cases h
    refine(rules_calls t0 a1 n e 0 0 (cO a1) hi hw hl hcs hr ⟨k,h1⟩ (fun q=>absurd q he) hl2 (fun q=>absurd q he) φ w.heap.size w [.agg cs0.toArray,.int .i64 a1] hS ⟨_,_,rfl,hV,_,_,rfl,rfl,rfl⟩).mono ?_
    rintro e1 w1 ⟨φ',v',u,H',rfl,⟨rfl,rfl⟩,_,_,hv,hb⟩
    rw[if_neg he] at hv
    exact⟨congrArg _ hv,hb⟩
 ·cases h
end Go.Proofs.YtcmhfcciapenfaaDoor.Pa
