/- A part of the proof. -/
import Derived.Test.YtcmhfcciapenfaaDoorQ07
namespace Go.Proofs.YtcmhfcciapenfaaDoor
open Go Go.RowKit Go.Proofs.YtcmhfcciapenfaaDoorW.PrintWords Go.Proofs.YtcmhfcciapenfaaDoorW.PrintLast
section
variable {P:Program} {α:Type}
theorem run_append_base (W:World) (t ty e:TypeId) (i:TypeInfo) (ht:P.underlying t=some (.slice e)) (hi:P.info? e=some i) (A:Option Addr) (x:Value) (m:Nat) (hx:(Builtin.lenOf x).run P W = .ok m W) (hm:0 < m) (hb:m * i.bytes≤140737488355328) (hm2:m≤9223372036854775807) :
  (Builtin.append_ #[t,t] ty #[.slice A 0 0,x]).run P W=(Builtin.append_ #[t,t] ty #[.slice none 0 0,x]).run P W:=by
 have h2:Builtin.nextslicecap m 0=m:=by
  unfold Builtin.nextslicecap
  rw[if_pos (by omega)]
 have h3 : ¬ (281474976710656 < m * i.bytes):=by omega
 have h4:(Builtin.firstCells i.size 0 (.slice A 0 0))=(Builtin.firstCells i.size 0 (.slice none 0 0)):=by
  rcases A with _|a
  ·rfl
  ·simp[Builtin.firstCells,loadCells,loadCellsFrom]
 have h5 : ¬ m=0:=by omega
 have h6 : ¬ (9223372036854775807 < (m:Int)):=by omega
 simp only[Builtin.append_]
 simp[run_underlying ht,sizeOf,typeInfo,hi,hx,h2,h3,h4,h5,h6]
theorem run_append_new (d:Kd α) {Rr:α → List Value → Prop} {W:World} (base:Nat) (t ty e:TypeId) (z:Value) (bytes:Nat)
  (ht:P.underlying t=some (.slice e)) (hinfo:(P.info? e).map (fun i=>(i.zero,i.size,i.bytes))=some (some z,d.sz,bytes)) (hz:z.cells.size=d.sz) (hs0:0 < d.sz) (hb0:0 < bytes)
  (A0:Option Addr) (ys:List α) (A:Option Addr) (m c:Nat) (okp:Nat → Prop) (h0:d.R e W base (fun _=>True) (.slice A0 0 0) []) (HR:bA Rr d.sz W A m ys) (hKM : ∀ x cs,Rr x cs → d.M W base okp x cs)
  (hbase:base≤W.heap.size) (hl:m * bytes≤140737488355328) :
  ∃ v1 w1,(Builtin.append_ #[t,t] ty #[.slice A0 0 0,.slice A m c]).run P W = .ok v1 w1∧d.R e w1 base (fun _=>True) v1 ys∧Below W.heap.size W w1:=by
 obtain⟨i0,hi,hzz⟩:=Option.map_eq_some_iff.1 hinfo
 simp only[Prod.mk.injEq] at hzz
 obtain⟨hz0,hz1,hz2⟩:=hzz
 have hm:ys.length=m:=HR.1
 have hlen:m≤140737488355328:=Nat.le_trans (Nat.le_mul_of_pos_right _ hb0) hl
 rcases Nat.eq_zero_or_pos m with hm0|hmp
 ·subst hm0
  obtain rfl:ys = []:=List.eq_nil_of_length_eq_zero hm
  refine⟨.slice A0 0 0,W,?_,h0,Below.refl _ _⟩
  rcases A with _|ad <;> rcases A0 with _|a0 <;> simp[Builtin.append_,run_underlying ht,sizeOf,typeInfo,hi,Builtin.lenOf,Builtin.firstCells,loadCells,loadCellsFrom,storeCells]
 ·obtain⟨ad,rfl,_⟩:=HR.2.2 hmp
  rw[run_append_base (P:=P) W t ty e i0 ht hi A0 (.slice (some ad) m c) m rfl hmp (by rw[hz2];exact hl) (by omega)]
  obtain⟨hok,inner,hown,hr⟩:=Kd.R_nil d e W base (fun _=>True)
  obtain⟨news,hnr,hnc⟩:=bA.inner_ HR
  have hnM:Reps (d.M W base okp) d.sz ys news:=hnr.imp_ (fun p c hp=>hKM p c hp)
  have hone : ∀ u∈news,u.oneCell' = true:=by
   intro u hu
   obtain⟨q,hq,rfl⟩:=List.mem_iff_getElem.1 hu
   have hql:q / d.sz < ys.length:=by
    rw[Nat.div_lt_iff_lt_mul hs0,← hnM.1]
    exact hq
   have hc:=hnM.2 (q / d.sz) _ (List.getElem?_eq_getElem hql)
   refine d.K_one (d.K_of_M hc) _ ?_
   rw[List.mem_iff_getElem?]
   exact⟨q % d.sz,by rw[List.getElem?_take,if_pos (Nat.mod_lt _ hs0),List.getElem?_drop,Nat.mul_comm,Nat.div_add_mod,List.getElem?_eq_getElem hq]⟩
  obtain⟨v1,w1,hrun,h2,hg,_,hat⟩:=run_append_own_at (P:=P) W base t ty e i0 z d.sz bytes ht hi hz0 hz1 hz2 hz hs0 (.slice none 0 0) 0 inner hown ad m c news (by rw[hnM.1,hm]) hnc hone (by simp only[maxLen];omega) (by rw[Nat.zero_add];exact hl) hbase
  have hgn:W.grownBy w1 none:=hg
  have hne : ∀ k,k < W.heap.size → some k≠v1.ownBlock:=by
   intro k hlt
   rcases hat with hat|hat
   ·rw[hat];simp[Value.ownBlock]
   ·rw[hat]
    intro he
    injection he with he
    omega
  have step : ∀ {q:α} {c:List Value} {o:Nat → Prop},d.M W base o q c → d.M w1 base (fun k=>True∧some k≠v1.ownBlock) q c:=by
   intro q c o hq
   have h1:=d.M_move (w1:=w1) (fun k hk=>hgn.block k hk.2.2.1 (by simp)) (d.M_bound hq)
   exact d.M_mono (fun k hk=>⟨trivial,hne k hk.2.2.1⟩) h1
  refine⟨v1,w1,hrun,⟨fun _ _=>trivial,inner ++ news,by rw[hm,show m=0+m by omega];exact h2,?_⟩,⟨hgn.os,hgn.tape,hgn.output,hgn.size,fun k hk=>hgn.block k hk (by simp)⟩⟩
  have:=Kd.reps_append (hr.imp_ (fun _ _ hq=>step hq)) (hnM.imp_ (fun _ _ hq=>step hq))
  simpa using this
theorem step_append_new {ops:Array Oper} {Q:Exit → Act → World → Prop} {R:Nat → Value → World → Prop} {i:Nat} {o:Oper} {a:Act} {W:World} {K:Act → World → Prop} (d:Kd α) {Rr:α → List Value → Prop} (base:Nat) (hK : ∀ v w',Below W.heap.size W w' → R i v w' → K (a.put o.dst v) w') (hw:Region.wanted o (yielded ops a.tmps)=true) (s x:Operand) (t e:TypeId) (z:Value) (bytes:Nat)
  (ho:o.op = .call { callee:=.builtin .append,args:=#[s,x],argTypes:=#[t,t] })
  (ht:P.underlying t=some (.slice e)) (hinfo:(P.info? e).map (fun i=>(i.zero,i.size,i.bytes))=some (some z,d.sz,bytes)) (hz:z.cells.size=d.sz) (hs0:0 < d.sz) (hb0:0 < bytes)
  (A0:Option Addr) (ys:List α) (A:Option Addr) (m c:Nat) (okp:Nat → Prop) (hs:a.eval s = .slice A0 0 0) (hx:a.eval x = .slice A m c) (h0:d.R e W base (fun _=>True) (.slice A0 0 0) []) (HR:bA Rr d.sz W A m ys) (hKM : ∀ x cs,Rr x cs → d.M W base okp x cs)
  (hbase:base≤W.heap.size) (hl:m * bytes≤140737488355328) (hR : ∀ v w',d.R e w' base (fun _=>True) v ys → R i v w') :
  if Region.wanted o (yielded ops a.tmps)=true then Oper.wp P o a W K Q else K (a.put o.dst undef) W:=by
 obtain⟨v1,w1,hrun,h1,hb⟩:=run_append_new (P:=P) d base t o.type e z bytes ht hinfo hz hs0 hb0 A0 ys A m c okp h0 HR hKM hbase hl
 refine step_make hK v1 hw ?_ hb (hR v1 w1 h1)
 unfold execOp
 simp only[ho,resolve,invoke,builtin,Sem.run_bind,Sem.run_pure,Result.andThen_ok,List.map_toArray,List.map_cons,List.map_nil,hs,hx,hrun]
theorem R_empty (d:Kd α) (e:Nat) (W:World) (base:Nat) (hbase:base≤W.heap.size):d.R e (W.alloc (.cells #[] e)) base (fun _=>True) (.slice (some ⟨W.heap.size,0,none⟩) 0 0) []:=by
 refine⟨fun _ _=>trivial,[],?_,?_⟩
 ·have h2:=World.ownsRow_lit (base:=base) (e:=e) (size:=d.sz) W #[] 0 hbase (by simp[maxLen]) (by simp)
  simpa using h2
 ·exact Reps.none _ _
theorem R_readsM {d:Kd α} {e base n c:Nat} {ok:Nat → Prop} {w:World} {A:Option Addr} {xs:List α} (h:d.R e w base ok (.slice A n c) xs):bA (d.M w base (fun k=>ok k∧some k≠(Value.slice A n c).ownBlock)) d.sz w A n xs:=by
 obtain⟨A',c',he,hl,hr⟩:=dJ.reads h.2
 injection he with h1 h2 h3
 subst h1
 subst h2
 exact hr
theorem M_apart {β:Type} {d:Kd α} {dk:Kd β} {w:World} {base base' e' : Nat} {ok ok' : Nat → Prop} {x:α} {cs:List Value} {v' : Value} {ys:List β} (h:d.M w base ok x cs) (h' : dk.R e' w base' ok' v' ys) (ht : ∀ q,q∈d.E → q≠e'):d.M w base (fun k=>some k≠v'.ownBlock) x cs:=
 d.M_mono (fun k hk=>fun e=>by
  obtain⟨cells,hc⟩:=Kd.dV h' k e.symm
  obtain⟨_,_,_,q,hq,cells',hc'⟩:=hk
  rw[hc] at hc'
  injection hc' with hc'
  injection hc' with _ h2 _
  exact ht q hq h2.symm) (d.M_bound h)
end
end Go.Proofs.YtcmhfcciapenfaaDoor
