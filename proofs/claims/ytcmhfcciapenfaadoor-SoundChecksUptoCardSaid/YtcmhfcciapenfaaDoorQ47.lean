/- A part of the proof. -/
import Derived.Test.YtcmhfcciapenfaaDoorQ45
import Derived.Test.YtcmhfcciapenfaaDoorQ46
namespace Go.Proofs.YtcmhfcciapenfaaDoor.Pu
open Go.RowKit Go.Proofs.YtcmhfcciapenfaaDoorW.PrintWords Go.Proofs.YtcmhfcciapenfaaDoor.Pa
theorem i64_lo {n:Int} (h:(Lit.int .i64 n).wf=true) : -9223372036854775808≤n∧n≤9223372036854775807:=by
 have:(decide (IntKind.i64.min≤n) && decide (n≤IntKind.i64.max))=true:=h
 simp only[Bool.and_eq_true,decide_eq_true_eq] at this
 exact this
theorem soundDays (s:ByteArray) (a b d:Int) (_hs:s.size≤maxLen) (ha:(Lit.int .i64 a).wf=true) (hb:(Lit.int .i64 b).wf=true) (hd:(Lit.int .i64 d).wf=true) : ∃ k,pylonlaw09_SoundDays.f k s a b d=some true:=by
 have ba:=i64_lo ha
 have bb:=i64_lo hb
 have bd:=i64_lo hd
 obtain⟨K1,h1⟩:=gG d
 obtain⟨K2,h2⟩:=fG s a b d ba bb bd
 obtain⟨K3,h3⟩:=rholds_ev s a b d
 refine⟨K1+K2+K3,?_⟩
 have h1:=h1 (K1+K2+K3) (by omega)
 have h2:=h2 (K1+K2+K3) (by omega)
 have h3:=h3 (K1+K2+K3) (by omega)
 dsimp only at h1 h2 h3
 unfold pylonlaw09_SoundDays.f pylonlaw09_awake.f
 simp only[Option.bind_some,if_true]
 rw[h1,gp d bd.1 bd.2]
 simp only[Option.bind_some,if_true]
 rw[h2,h3]
 simp only[Option.bind_some,beq_self_eq_true]
theorem md_days : ∀ n:Fin 366,∃ m∈(pylonlaw09_md.l0 60 (n.val:Nat) 1),dayR m=(((n.val:Nat):Int)+1,0)∧101≤m∧m≤1231:=by
 have : ∀ n:Fin 366,(match pylonlaw09_md.l0 60 (n.val:Nat) 1 with|some m=>decide (dayR m=(((n.val:Nat):Int)+1,0)∧101≤m∧m≤1231)|none=>false)=true:=by decide +kernel
 intro n
 have h:=this n
 cases e:pylonlaw09_md.l0 60 (n.val:Nat) 1 with
 |none=>rw[e] at h;cases h
 |some m=>rw[e] at h;exact⟨m,by simp,of_decide_eq_true h⟩
theorem md_ev (a:Int) : ∃ (n:Nat) (m:Int),n < 366∧Ev (fun k=>pylonlaw09_md.f k a) m∧dayR m=((n:Int)+1,0)∧101≤m∧m≤1231:=by
 have h0:0≤IntKind.u64.wrap a:=by
  unfold IntKind.wrap
  simp only[IntKind.signed,IntKind.bits]
  exact Int.emod_nonneg _ (by decide)
 have hm:=Int.tmod_eq_emod_of_nonneg (a:=IntKind.u64.wrap a) (b:=366) h0
 have h1:0≤Int.tmod (IntKind.u64.wrap a) 366∧Int.tmod (IntKind.u64.wrap a) 366 < 366:=by rw[hm];omega
 obtain⟨m,hm1,hm2,hm3⟩:=md_days ⟨(Int.tmod (IntKind.u64.wrap a) 366).toNat,by omega⟩
 have e:(((Int.tmod (IntKind.u64.wrap a) 366).toNat:Nat):Int)=Int.tmod (IntKind.u64.wrap a) 366:=by omega
 refine⟨(Int.tmod (IntKind.u64.wrap a) 366).toNat,m,by omega,Ev.of (k:=60) (fun k=>pylonlaw09_md.mono _ _) ?_,by simpa using hm2,hm3⟩
 unfold pylonlaw09_md.f
 rw[w64 (by omega) (by omega)]
 simp only[e] at hm1
 simpa using hm1
theorem soundHolds (a b d:Int) (_ha:(Lit.int .i64 a).wf=true) (_hb:(Lit.int .i64 b).wf=true) (_hd:(Lit.int .i64 d).wf=true) : ∃ k,pylonlaw09_SoundHolds.f k a b d=some true:=by
 obtain⟨n1,m1,hn1,⟨K1,h1⟩,e1,b1⟩:=md_ev a
 obtain⟨n2,m2,hn2,⟨K2,h2⟩,e2,b2⟩:=md_ev b
 obtain⟨n3,m3,hn3,⟨K3,h3⟩,e3,b3⟩:=md_ev d
 obtain⟨K4,h4⟩:=fG ⟨#[115]⟩ m1 m2 m1 (by omega) (by omega) (by omega)
 obtain⟨K5,h5⟩:=fG ⟨#[115]⟩ m1 m2 m2 (by omega) (by omega) (by omega)
 obtain⟨K6,h6⟩:=fG ⟨#[115]⟩ m1 m2 230 (by omega) (by omega) (by omega)
 obtain⟨K7,h7⟩:=fG ⟨#[115]⟩ m1 m2 0 (by omega) (by omega) (by omega)
 obtain⟨K8,h8⟩:=fG ⟨#[115]⟩ m1 m2 m3 (by omega) (by omega) (by omega)
 have g230:dayR 230=(0,8):=by decide +kernel
 have g0:dayR 0=(0,8):=by decide +kernel
 rw[e1,e2] at h4 h5 h6 h7 h8
 rw[g230] at h6
 rw[g0] at h7
 rw[e3] at h8
 have q4:eX ((n1:Int)+1,0) ((n2:Int)+1,0) ((n1:Int)+1,0)=true:=by
  unfold eX
  rw[if_pos ⟨rfl,rfl,rfl⟩]
  split
  ·rename_i h
   simpa using h
  ·simp
 have q5:eX ((n1:Int)+1,0) ((n2:Int)+1,0) ((n2:Int)+1,0)=true:=by
  unfold eX
  rw[if_pos ⟨rfl,rfl,rfl⟩]
  split
  ·rename_i h
   simpa using h
  ·simp
 have q6:eX ((n1:Int)+1,0) ((n2:Int)+1,0) (0,8)=false:=by
  unfold eX
  rw[if_neg (fun h=>absurd h.1 (by decide))]
 have q8:eX ((n1:Int)+1,0) ((n2:Int)+1,0) ((n3:Int)+1,0)=decide (Int.tmod ((n3:Int) - n1+366) 366 < Int.tmod ((n2:Int) - n1+366) 366+1):=by
  rw[Int.tmod_eq_emod_of_nonneg (by omega),Int.tmod_eq_emod_of_nonneg (by omega)]
  unfold eX
  rw[if_pos ⟨rfl,rfl,rfl⟩]
  split
  ·rename_i h
   dsimp only at h ⊢
   rw[← Bool.decide_and,decide_eq_decide]
   omega
  ·rename_i h
   dsimp only at h ⊢
   rw[← Bool.decide_or,decide_eq_decide]
   omega
 rw[q4] at h4
 rw[q5] at h5
 rw[q6] at h6 h7
 let K:=K1+K2+K3+K4+K5+K6+K7+K8
 refine⟨K+1,?_⟩
 have h1:=h1 (K+1) (by omega)
 have h2:=h2 (K+1) (by omega)
 have h3:=h3 (K+1) (by omega)
 have h4:=h4 (K+1) (by omega)
 have h5:=h5 (K+1) (by omega)
 have h6:=h6 (K+1) (by omega)
 have h7:=h7 (K+1) (by omega)
 have h8:=h8 K (by omega)
 dsimp only at h1 h2 h3 h4 h5 h6 h7 h8
 unfold pylonlaw09_SoundHolds.f pylonlaw09_awake.f
 simp only[Option.bind_some,if_true,h1,h2,h3,h4,h5,h6,h7,Bool.false_eq_true,if_false]
 simp only[pylonlaw09_SoundHolds.j0,Bool.false_eq_true,if_false]
 rw[gp m1 (by omega) (by omega),gp m2 (by omega) (by omega),gp m3 (by omega) (by omega),e1,e2,e3]
 simp only[Option.bind_some,if_true,h8]
 rw[if_neg (by omega),if_neg (by omega),if_neg (by omega),if_neg (by omega),if_neg (by omega),if_neg (by omega)]
 have w1:wrap64 (wrap64 ((n3:Int)+1 - ((n1:Int)+1))+366)=(n3:Int) - n1+366:=by unfold wrap64;omega
 have w2:wrap64 (wrap64 ((n2:Int)+1 - ((n1:Int)+1))+366)=(n2:Int) - n1+366:=by unfold wrap64;omega
 rw[w1,w2,q8]
 have hb:0≤Int.tmod ((n2:Int) - n1+366) 366∧Int.tmod ((n2:Int) - n1+366) 366 < 366:=by
  rw[Int.tmod_eq_emod_of_nonneg (by omega)]
  omega
 have w3:wrap64 (Int.tmod ((n2:Int) - n1+366) 366+1)=Int.tmod ((n2:Int) - n1+366) 366+1:=by unfold wrap64;omega
 rw[w3,beq_self_eq_true]
end Go.Proofs.YtcmhfcciapenfaaDoor.Pu
