/- A part of the proof. -/
import Derived.Test.YtcmhfcciapenfaaDoorQ25
set_option linter.all false
namespace Go.Proofs.YtcmhfcciapenfaaDoor.Pu
open Go.RowKit Go.Proofs.YtcmhfcciapenfaaDoorW.PrintWords Go.Proofs.YtcmhfcciapenfaaDoor.Pa
theorem i64_lo {n:Int} (h:(Lit.int .i64 n).wf=true) : -9223372036854775808≤n∧n≤9223372036854775807:=by
 have:(decide (IntKind.i64.min≤n) && decide (n≤IntKind.i64.max))=true:=h
 simp only[Bool.and_eq_true,decide_eq_true_eq] at this
 exact this
theorem md_days : ∀ n:Fin 366,∃ m∈(pylonlaw09_md.l0 60 (n.val:Nat) 1),dayR m=(((n.val:Nat):Int)+1,0)∧101≤m∧m≤1231:=by
 have : ∀ n:Fin 366,(match pylonlaw09_md.l0 60 (n.val:Nat) 1 with|some m=>decide (dayR m=(((n.val:Nat):Int)+1,0)∧101≤m∧m≤1231)|none=>false)=true:=by decide +kernel
 intro n
 have h:=this n
 cases e:pylonlaw09_md.l0 60 (n.val:Nat) 1 with
 |none=>rw[e] at h;cases h
 |some m=>rw[e] at h;exact⟨m,by simp,of_decide_eq_true h⟩
theorem md_ev (a:Int) : ∃ (n:Nat) (m:Int),n < 366∧Ev (fun k=>pylonlaw09_md.f k a) m∧dayR m=((n:Int)+1,0)∧101≤m∧m≤1231:=by
 have h0:0≤IntKind.u64.wrap a:=by
  unfold IntKind.wrap
  simp only[IntKind.signed,IntKind.bits]
  exact Int.emod_nonneg _ (by decide)
 have hm:=Int.tmod_eq_emod_of_nonneg (a:=IntKind.u64.wrap a) (b:=366) h0
 have h1:0≤Int.tmod (IntKind.u64.wrap a) 366∧Int.tmod (IntKind.u64.wrap a) 366 < 366:=by rw[hm];omega
 obtain⟨m,hm1,hm2,hm3⟩:=md_days ⟨(Int.tmod (IntKind.u64.wrap a) 366).toNat,by omega⟩
 have e:(((Int.tmod (IntKind.u64.wrap a) 366).toNat:Nat):Int)=Int.tmod (IntKind.u64.wrap a) 366:=by omega
 refine⟨(Int.tmod (IntKind.u64.wrap a) 366).toNat,m,by omega,Ev.of (k:=60) (fun k=>pylonlaw09_md.mono _ _) ?_,by simpa using hm2,hm3⟩
 unfold pylonlaw09_md.f
 rw[w64 (by omega) (by omega)]
 simp only[e] at hm1
 simpa using hm1
end Go.Proofs.YtcmhfcciapenfaaDoor.Pu
