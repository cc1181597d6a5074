/- A part of the proof. -/
import Derived.Maps.Own
import Derived.Maps.OwnOps
import Derived.Maps.Views
import Derived.Maps.OwnSet
import Derived.StringKeys
import Derived.Test.YtcmhfcciapenfaaDoorProg
import Derived.Test.YtcmhfcciapenfaaDoorQ00
set_option linter.all false
namespace Go.Proofs.YtcmhfcciapenfaaDoor
open Go Go.RowKit Go.Maps
theorem fB {H:Type} {P:Program} {e:TypeId} (he:P.underlying e=some .bool) {v:Value} {z:DataW H × List MemPlace} (h:plainElem P e v=some z) : ∃ x,v = .bool x∧z=(.lit (.bool x),[]):=by
 unfold plainElem at h
 rw[he] at h
 cases v <;> simp at h
 exact⟨_,rfl,h.symm⟩
def MSet (w:World) (b:Nat) (ns:List (List UInt8)):Prop:=
 ∃ n,∃ D:DataW Unit,n≤ns.length∧w.ownsMap Tryd.prog 9 (plainElem Tryd.prog 4) b n D∧∀ kl,D.atKey (.string kl) (.lit (.bool false)) = .lit (.bool (decide (kl∈ns)))
theorem MSet.made (w:World):MSet (w.alloc (.map #[] 0)) w.heap.size []:=⟨0,.map [],Nat.le_refl _,World.ownsMap_made _ _ _ _,fun kl=>by simp[DataW.atKey]⟩
theorem MSet.kept {w w' : World} {b:Nat} {ns:List (List UInt8)} {row:Option Nat} (h:MSet w b ns) (hg:w.grownBy w' row) (hne:some b≠row):MSet w' b ns:=by
 obtain⟨n,D,h1,h2,h3⟩:=h
 exact⟨n,D,h1,h2.kept hg hne,h3⟩
theorem MSet.lt {w:World} {b:Nat} {ns:List (List UInt8)} (h:MSet w b ns):b < w.heap.size:=by
 obtain⟨n,D,h1,h2,h3⟩:=h
 exact h2.lt
theorem MSet.below {w w' : World} {b:Nat} {ns:List (List UInt8)} (h:MSet w b ns) (hb:Below w.heap.size w w'):MSet w' b ns:=
 h.kept (row:=none) ⟨hb.os,hb.tape,hb.output,hb.size,fun k hk _=>hb.block k hk⟩ (by simp)
theorem MSet.fresh {w:World} {b:Nat} {ns:List (List UInt8)} {o:Obj} {k:Nat} (h:MSet w b ns) (hk:(w.alloc o).heap.size≤k):b+1≤k:=by
 have h1:=h.lt
 have h2:=World.size_alloc w o
 omega
theorem mset_key (s:ByteArray) (hs:s.size≤140737488355328):keyOf Tryd.prog 9 (.string s)=some (.string s.data.toList):=WideMaps.keyOf_string_mk Tryd.underlying9 (by unfold maxLen;omega)
theorem mset_zero (w:World):(zeroValue 4).run Tryd.prog w = .ok (.bool false) w:=by kernel_rfl
theorem wpList_on {P:Program} {w:World} {ops:Array Oper} {rest:List Oper} {o:Oper} {a:Act} {Q:Exit → Act → World → Prop} (hw:Region.wanted o (yielded ops a.tmps)=true)
  (h : ∀ K:Act → World → Prop,(∀ a w,wpList P ops Q rest a w → K a w) → Oper.wp P o a w K Q):wpList P ops Q (o :: rest) a w:=by
 unfold wpList
 rw[if_pos hw]
 exact .inl (h _ fun _ _ h=>h)
theorem aU (w:World) {ops:Array Oper} {rest:List Oper} {o:Oper} {a:Act} {Q:Exit → Act → World → Prop}
  (hg:Region.wanted o (yielded ops a.tmps)=true) (m x:Operand) (hop:o.op=Op.lookup 76 m x false) (b:Nat) (ns:List (List UInt8)) (s:ByteArray) (hs:s.size≤140737488355328)
  (hm:a.eval m = .map (some b)) (hown:MSet w b ns) (hx:a.eval x = .string s)
  (hK:wpList Tryd.prog ops Q rest (a.put o.dst (.bool (decide (s.data.toList∈ns)))) w) :
  wpList Tryd.prog ops Q (o :: rest) a w:=by
 refine wpList_on hg fun K' hK'=>?_
 obtain⟨n,D,h1,h2,h3⟩:=hown
 obtain⟨v,ps,hrun,hv⟩:=h2.lookup (string_keyed Tryd.underlying9) Tryd.underlying76 (mset_zero w) (plainElem_bool Tryd.underlying4 false) (mset_key s hs)
 obtain⟨y,rfl,hy⟩:=fB Tryd.underlying4 hv
 rw[h3] at hy
 have:decide (s.data.toList∈ns)=y:=by have:=congrArg Prod.fst hy;simpa using this
 subst this
 unfold Oper.wp
 simp[execOp,hop,hm,hx,hrun,Result.andThen]
 exact hK' _ _ (by simpa using hK)
theorem bS (w:World) {ops:Array Oper} {rest:List Oper} {o:Oper} {a:Act} {Q:Exit → Act → World → Prop}
  (hg:o.guard=none) (m x v:Operand) (hop:o.op=Op.mapUpdate 76 m x v) (b:Nat) (ns:List (List UInt8)) (s:ByteArray) (hs:s.size≤140737488355328)
  (hm:a.eval m = .map (some b)) (hown:MSet w b ns) (hn:ns.length < 140737488355328) (hx:a.eval x = .string s) (hv:a.eval v = .bool true)
  (hK : ∀ w',MSet w' b (s.data.toList :: ns) → w.grownBy w' (some b) → wpList Tryd.prog ops Q rest (a.put o.dst undef) w') :
  wpList Tryd.prog ops Q (o :: rest) a w:=by
 obtain⟨n,D,h1,h2,h3⟩:=hown
 refine wpList_mapUpdate_own w hg m x v 76 hop 9 4 (string_keyed Tryd.underlying9) Tryd.underlying76 (plainElem Tryd.prog 4) b n D hm h2 (by unfold maxLen;omega) (.string s) (.bool true) (.string s.data.toList) hx hv (mset_key s hs) (.lit (.bool true)) [] (plainElem_bool Tryd.underlying4 true) ?_
 intro w' r1 r2
 refine hK w' ⟨n+1,_,by simpa using h1,r1,fun kl=>?_⟩ r2
 have hm:Maps.IsMap D:=World.ownsMap.isMap h2
 by_cases e:kl=s.data.toList
 ·subst e
  rw[Maps.atKey_put_same (k:=.string s.data.toList) hm (show WideAt.IsKeyLit (.string s.data.toList) from trivial)]
  simp
 ·rw[Maps.atKey_put_other (by simpa using e),h3]
  simp[e]
end Go.Proofs.YtcmhfcciapenfaaDoor
