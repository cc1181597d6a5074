/- A part of the proof. -/
import Derived.Test.YtjokedpaidmjoaaGreatDoorQ06
set_option linter.all false
namespace Go.Proofs.YtjokedpaidmjoaaGreatDoor.Pu
open Go.RowKit Go.Proofs.YtjokedpaidmjoaaGreatDoorW.PrintWords Go.Proofs.YtjokedpaidmjoaaGreatDoor.Pa
def cf (c:Int):List (List UInt8) → List Int
 |[]=>[]
 |w :: r=>c :: cf (c+((w.length:Int)+1)) r
theorem cf_length (c:Int) (l:List (List UInt8)):(cf c l).length=l.length:=by
 induction l generalizing c with
 |nil=>rfl
 |cons w r ih=>simp only[cf,List.length_cons,ih]
def tot (l:List (List UInt8)):Nat:=(l.map fun w=>w.length+1).sum
theorem dN (w:List UInt8) (r:List (List UInt8)):tot (w :: r)=w.length+1+tot r:=by simp[tot]
theorem getD_drop {α:Type} {l:List α} {i:Nat} {x:α} {r:List α} (h:l.drop i=x :: r) (d:α):l.getD i d=x:=by
 have:(l.drop i)[0]? = some x:=by rw[h];rfl
 rw[List.getElem?_drop,Nat.add_zero] at this
 rw[List.getD_eq_getElem?_getD,this]
 rfl
theorem columns_loop (ws:List ByteArray) (hn:ws.length < 1000000000) (r:List (List UInt8)) : ∀ (k i:Nat) (pre:List Int) (c:Int),i≤ws.length → ws.drop i=r.map toB → pre.length=i → r.length < k → 0≤c → c+tot r≤1000000000 →
  scan_Columns.l0 k (pre ++ List.replicate r.length 0) c ws (ws.length:Int) (i:Int)=some (pre ++ cf c r):=by
 induction r with
 |nil=>
  intro k i pre c hi hd hp hk _ _
  obtain⟨k,rfl⟩ : ∃ m,k=m+1:=⟨k - 1,by omega⟩
  have:=bL hd hi
  simp only[List.map_nil,List.length_nil] at this
  simp only[scan_Columns.l0]
  rw[if_neg (by omega)]
  simp[cf]
 |cons w r ih=>
  intro k i pre c hi hd hp hk h0 hs
  obtain⟨k,rfl⟩ : ∃ m,k=m+1:=⟨k - 1,by omega⟩
  simp only[List.map_cons] at hd
  have hlt:=bQ hd
  simp only[List.length_cons] at hk
  rw[dN] at hs
  have e:wrap64 ((i:Int)+1)=((i+1:Nat):Int):=by rw[w64 (by omega) (by omega)];omega
  simp only[scan_Columns.l0,List.length_append,List.length_replicate,List.length_cons]
  rw[rdOf_get,getD_drop hd,e,fo,w64 (x:=(w.length:Int)+1) (by omega) (by omega),w64 (by omega) (by omega),if_pos (by omega),if_pos (by omega),if_pos (by omega),if_pos (by omega)]
  have ei:((i:Int)).toNat=i:=by omega
  have es:(pre ++ List.replicate (r.length+1) 0).set ((i:Int)).toNat c=(pre ++ [c]) ++ List.replicate r.length 0:=by
   rw[ei,← hp,List.set_append_right _ _ (Nat.le_refl _),Nat.sub_self,List.replicate_succ,List.set_cons_zero]
   simp
  rw[es,ih k (i+1) (pre ++ [c]) _ (by omega) (aZ hd) (by simp[hp]) (by omega) (by omega) (by omega)]
  simp[cf]
theorem tot_len (r:List (List UInt8)):r.length≤tot r:=by
 induction r with
 |nil=>simp
 |cons x r ih=>rw[dN];simp;omega
theorem columns_ev (vs:List (List UInt8)) (h:tot vs≤900000000):Ev (fun k=>scan_Columns.f k (vs.map toB)) (cf 1 vs):=by
 have hl:=tot_len vs
 refine⟨vs.length+1,fun k hk=>?_⟩
 show scan_Columns.f k _=_
 unfold scan_Columns.f
 have e:(((vs.map toB).length:Int)).toNat=vs.length:=by simp
 rw[e,if_pos (by omega),if_pos (by omega)]
 have:=columns_loop (vs.map toB) (by simp;omega) vs k 0 [] 1 (by omega) (by simp) rfl (by omega) (by omega) (by omega)
 simpa using this
end Go.Proofs.YtjokedpaidmjoaaGreatDoor.Pu
