/- A part of the proof. -/
import Derived.Test.YtcmhfcciapenfaaDoorQ10
import Derived.Test.YtcmhfcciapenfaaDoorQ12
set_option linter.all false
namespace Go.Proofs.YtcmhfcciapenfaaDoor.Pa
open Go Go.RowKit Go.Maps Go.Proofs.YtcmhfcciapenfaaDoorW.PrintWords Go.Proofs.YtcmhfcciapenfaaDoorW.PrintLast Go.Proofs.YtcmhfcciapenfaaDoorW.PrintMore
abbrev Run:=S79
def RowAt (w:World) (base:Nat) (v:Value) (xs:List Run):Prop:=Kd.R k79 79 w base (fun j=>v.ownBlock=some j) v xs
theorem RowAt.of {w:World} {base:Nat} {ok:Nat → Prop} {v:Value} {xs:List Run} (h:Kd.R k79 79 w base ok v xs):RowAt w base v xs:=
 ⟨fun k hk=>hk,h.2.imp_ (fun p c hM=>by obtain rfl:=k79_openM hM;exact dD _ _ _ p)⟩
theorem RowAt.wide {w:World} {base:Nat} {v:Value} {xs:List Run} (h:RowAt w base v xs):Kd.R k79 79 w base (fun j=>base≤j) v xs:=
 ⟨fun k hk=>Kd.R_base h k hk,h.2.imp_ (fun p c hM=>by obtain rfl:=k79_openM hM;exact dD _ _ _ p)⟩
theorem RowAt.nil (w:World) (base:Nat):RowAt w base (.slice none 0 0) []:=Kd.R_nil _ _ _ _ _
theorem RowAt.kept {w w' : World} {base:Nat} {v:Value} {xs:List Run} {row:Option Nat} (h:RowAt w base v xs) (hg:w.grownBy w' row) (hne : ∀ j,v.ownBlock=some j → some j≠row):RowAt w' base v xs:=Kd.bQ h hg hne
theorem RowAt.below {w w' : World} {base:Nat} {v:Value} {xs:List Run} (h:RowAt w base v xs) (hb:Below w.heap.size w w'):RowAt w' base v xs:=Kd.eZ h hb
structure DRows (w:World) (base:Nat) (ks:List DK) (p:DK → Prop) (V:DK → Value) (g:DK → List Run):Prop where
 row : ∀ q∈ks,p q → RowAt w base (V q) (g q)
 apart : ∀ q∈ks,p q → ∀ q'∈ks,p q' → q≠q' → ∀ j,(V q).ownBlock=some j → (V q').ownBlock≠some j
variable {w w' : World} {base:Nat} {ks:List DK} {p:DK → Prop} {V:DK → Value} {g:DK → List Run}
theorem DRows.below (h:DRows w base ks p V g) (hb:Below w.heap.size w w'):DRows w' base ks p V g:=⟨fun q hq hp=>(h.row q hq hp).below hb,h.apart⟩
theorem DRows.kept {row:Option Nat} (h:DRows w base ks p V g) (hg:w.grownBy w' row) (hne : ∀ q∈ks,p q → ∀ j,(V q).ownBlock=some j → some j≠row):DRows w' base ks p V g:=⟨fun q hq hp=>(h.row q hq hp).kept hg (hne q hq hp),h.apart⟩
theorem DRows.lt (h:DRows w base ks p V g) : ∀ q∈ks,p q → ∀ j,(V q).ownBlock=some j → j < w.heap.size:=fun q hq hp j hj=>Kd.R_lt (h.row q hq hp) j hj
theorem DRows.from_ (h:DRows w base ks p V g) : ∀ q∈ks,p q → ∀ j,(V q).ownBlock=some j → base≤j:=fun q hq hp j hj=>Kd.R_base (h.row q hq hp) j hj
theorem DRows.nil (w:World) (base:Nat) (ks:List DK) (p:DK → Prop):DRows w base ks p (fun _=>.slice none 0 0) (fun _=>[]):=⟨fun q _ _=>RowAt.nil w base,fun q _ _ q' _ _ _ j hj=>by simp[Value.ownBlock] at hj⟩
theorem DRows.update {q:DK} {v1:Value} {ys:List Run} {W:World} (h:DRows W base ks (fun _=>True) V g) (hq:q∈ks) (hg:W.grownBy w' (V q).ownBlock) (hr:RowAt w' base v1 ys) (hat:v1.ownBlock=(V q).ownBlock∨∃ b,v1.ownBlock=some b∧W.heap.size≤b) :
  DRows w' base ks (fun _=>True) (fun p=>if p=q then v1 else V p) (fun p=>if p=q then ys else g p):=by
 have fresh : ∀ q'∈ks,q'≠q → ∀ j,(V q').ownBlock=some j → v1.ownBlock≠some j:=by
  intro q' hq' hne j hj e
  rcases hat with hat|⟨b,hb,hle⟩
  ·exact h.apart q' hq' trivial q hq trivial hne j hj (by rw[← hat];exact e)
  ·rw[hb] at e
   injection e with e
   have:=h.lt q' hq' trivial j hj
   omega
 refine⟨fun q' hq' _=>?_,fun q1 h1 _ q2 h2 _ hne j hj=>?_⟩
 ·by_cases e:q' = q
  ·subst e
   simp only[if_pos]
   exact hr
  ·simp only[if_neg e]
   exact(h.row q' hq' trivial).kept hg (fun j hj e2=>h.apart q' hq' trivial q hq trivial e j hj e2.symm)
 ·by_cases e1:q1=q
  ·subst e1
   rw[if_pos rfl] at hj
   rw[if_neg (Ne.symm hne)]
   intro e
   exact fresh q2 h2 (Ne.symm hne) j e hj
  ·rw[if_neg e1] at hj
   by_cases e2:q2=q
   ·subst e2
    rw[if_pos rfl]
    exact fresh q1 h1 e1 j hj
   ·rw[if_neg e2]
    exact h.apart q1 h1 trivial q2 h2 trivial hne j hj
theorem dA {W:World} {b:Nat} (w0:World) (a:Run) (hb:W.heap[b]? = some (.cells #[.int .i64 a.f0,.int .i64 a.f1] 79 (0,0))):bF (k79.K w0) k79.sz W (some ⟨b,0,none⟩) 1 [a]:=by
 refine⟨rfl,by decide,fun _=>⟨_,rfl,fun j p hj=>?_⟩⟩
 match j,hj with
 |0,hj=>
  cases hj
  refine⟨_,rfl,k79_mk _ _,fun i u hi=>?_⟩
  rw[add_plain]
  match i,hi with
  |0,hi=>cases hi;exact ah hb 0
  |1,hi=>cases hi;exact ah hb 1
theorem wpList_next_day {b n r:Nat} {D:DataW Value} {ops:Array Oper} {rest:List Oper} {o:Oper} {a:Act} {Q:Exit → Act → World → Prop} (hg:o.guard=none) (it:Operand) (hop:o.op=Op.next it false) {left:Lit → Bool} {cnt:Nat}
  (hM:MDV w b n ks V D) (hit:a.eval it = .pointer (some ⟨r,0,none⟩)) (h:w.ranges Tryd.prog 83 heldE b r n D left cnt)
  (hDone:(∀ kl,left kl=false) → wpList Tryd.prog ops Q rest (a.put o.dst (.tuple #[.bool false])) w)
  (hMore : ∀ q∈ks,left (dkLit q)=true → ∀ (key:Value) (w' : World) (cnt' : Nat),w'.ranges Tryd.prog 83 heldE b r n D (fun z=>left z && !z.sameKey (dkLit q)) cnt' → cnt' < cnt →
   w.grownBy w' (some r) → (Instr.entry (.pointer (some ⟨r,0,none⟩))).run Tryd.prog w' = .ok (.tuple #[key,V q]) w' → wpList Tryd.prog ops Q rest (a.put o.dst (.tuple #[.bool true,key,V q])) w') :
  wpList Tryd.prog ops Q (o :: rest) a w:=by
 refine wpList_plain hg fun K' hK'=>?_
 unfold Oper.wp
 rcases h.next dB o.type with ⟨h0,hl,hrun⟩|⟨key,v,kl,y,w',cnt',hkey,hlk,hv,hat,hrun,hrg,hlt,hgr,hsz,hen⟩
 ·simp[execOp,hop,hit,hrun,Result.andThen]
  exact hK' _ _ (hDone hl)
 ·have hy:y=(.held v,[]):=(Option.some.inj hv).symm
  subst hy
  obtain⟨q,hq,rfl⟩:=hM.keys kl (Maps.has_true_of_atKey hat)
  have e:v=V q:=by
   have h1:=hat .nil
   rw[hM.val q hq] at h1
   simpa using h1.symm
  subst e
  simp[execOp,hop,hit,hrun,Result.andThen]
  exact hK' _ _ (hMore q hq hlk key w' cnt' hrg hlt hgr hen)
end Go.Proofs.YtcmhfcciapenfaaDoor.Pa
