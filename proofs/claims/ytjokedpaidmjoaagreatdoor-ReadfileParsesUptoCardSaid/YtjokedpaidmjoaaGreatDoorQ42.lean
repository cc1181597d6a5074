/- A part of the proof. -/
import Derived.Test.YtjokedpaidmjoaaGreatDoorAm
set_option linter.all false
namespace Go.Proofs.YtjokedpaidmjoaaGreatDoor.Am
open Go Go.RowKit
theorem Sim.nil {φ:Emb} {W:World} (h:GIv W.heap.size W):Sim φ [] W.heap.size W:=
 ⟨fun b B hB=>(by simp at hB),fun b B hB=>(by simp at hB),fun b b' B B' hB=>(by simp at hB),fun b B hB=>(by simp at hB),Nat.le_refl _,h⟩
section
variable {C:Ctx} {nt:Nat} {T:Tmps} {H H0:Heap} {R:APost} {c:Code}
theorem awp_loopQ (I:Nat → Tmps → Heap → Prop) (n:Nat) (h0:I n T H)
  (hr : ∀ n T H,I n T H → ∀ Q:APost,(∀ m T1 H1 T2,m < n → Has T1 T2 → I m T2 H1 → Q .normal T1 H1) → (∀ e T1 H1,e≠.normal → R e T1 H1 → Q e T1 H1) → AWp C nt H0 c Q T H):AWp C nt H0 (.loop c) R T H:=by
 refine awp_loop (fun n T H=>∃ T2,(∀ t,get T2 t=get T t∨get T2 t = .undef)∧I n T2 H) (n:=n) ⟨T,fun _=>.inl rfl,h0⟩ ?_
 rintro n T H ⟨T2,hT,hI⟩
 refine awp_less T2 (hr n T2 H hI _ (fun m T1 H1 T3 h1 h2 h3=>⟨m,h1,T3,h2.less,h3⟩) (fun e T1 H1 he h=>?_)) hT
 cases e with
 |normal=>exact absurd rfl he
 |_=>exact h
end
theorem aops_gcallC {C:Ctx} {nt:Nat} {H H0:Heap} {T:Tmps} {ops:Array Oper} {R:APost} {r:List Oper} {o:Oper} {c:Call} {x:Operand} {f:FuncId} {caps:List AV} {j d:Nat} {want:Bool} (hg:o.guard=some (j,want)) (hd:(ops[j]?).bind (·.dst)=some d) (hgd:gwant T d want=some true) (ho:o.op = .call c) (hc:c.callee = .value x) (hx:Am.aev T x = .fn f caps) {F:Func} (hf:C.P.funcs[f]? = some F) (hn:(F.name == "runtime.NumGoroutine")=false) (hb:F.body.isNone=false) {post:AV → Heap → Prop} (h:ACalls C.P f (c.args.toList.map (Am.aev T) ++ caps) H post)
  (hr : ∀ v H1,post v H1 → ∃ T1,putT nt T o.dst (.opt true v)=some T1∧AOps C nt H0 ops R r T1 H1):AOps C nt H0 ops R (o :: r) T H:=by
 intro φ0 φ base W0 W a hx0 hb0 hS hT hd0
 refine wpList_step fun K hK=>?_
 rw[wanted_of hT hg hd hgd,if_pos rfl]
 refine l_call ho hc hS hT hx hf hn hb h ?_
 intro v H1 hp φ1 W1 u k1 k2 k3 k4
 obtain⟨T1,q1,q2⟩:=hr v H1 hp
 have k5:VRel φ1 H1 (AV.opt true v) u:=And.intro (fun _=>k3) (fun e=>by cases e)
 obtain⟨p1,p2⟩:=putT_rel q1 (TRel.ext k1 hT) k5
 exact hK _ _ (q2 φ0 φ1 base W0 W1 (a.put o.dst u) (hx0.trans k1) (hb0.trans k4) k2 p1 (p2.trans hd0))
theorem aops_optC {C:Ctx} {nt:Nat} {H H0:Heap} {T:Tmps} {ops:Array Oper} {R:APost} {l:List Oper} {d:Nat} {v:AV} (h:Am.get T d = .opt true v) (hr:AOps C nt H0 ops R l ((d,v) :: T) H):AOps C nt H0 ops R l T H:=by
 intro φ0 φ b0 W0 W a hx0 hb hS hT hd
 refine hr φ0 φ b0 W0 W a hx0 hb hS ⟨hT.1,fun t=>?_⟩ hd
 by_cases e:d=t
 ·subst e
  have h2:=hT.2 d
  rw[h] at h2
  rw[show Am.get ((d,v) :: T) d=v from if_pos rfl]
  exact h2.1 rfl
 ·rw[show Am.get ((d,v) :: T) t=Am.get T t from if_neg e]
  exact hT.2 t
end Go.Proofs.YtjokedpaidmjoaaGreatDoor.Am
