/- A part of the proof. -/
import Derived.Test.YtjokedpaidmjoaaGreatDoorQ02
import Derived.Test.YtjokedpaidmjoaaGreatDoorQ05
set_option linter.all false
namespace Go.Proofs.YtjokedpaidmjoaaGreatDoor.Pu
open Go.RowKit Go.Proofs.YtjokedpaidmjoaaGreatDoorW.PrintWords Go.Proofs.YtjokedpaidmjoaaGreatDoor.Pa
def pr (c:UInt8):Bool:=decide (32 < c.toNat) && decide (c.toNat < 127)
def wd:List UInt8 → Option (List UInt8) → Nat → Except Nat (List (List UInt8))
 |[],none,at_=>.error (if 0 < at_ then at_ else 1)
 |[],some cur,_=>.ok [cur]
 |c :: r,none,at_=>if pr c then wd r (some [c]) (at_+1) else .error (at_+1)
 |c :: r,some cur,at_=>if pr c then wd r (some (cur ++ [c])) (at_+1) else if c=32 then (match wd r none (at_+1) with|.ok ws=>.ok (cur :: ws)|.error e=>.error e) else .error (at_+1)
def res (ws:List ByteArray):Except Nat (List (List UInt8)) → List ByteArray × Int × Int
 |.ok vs=>(ws ++ vs.map toB,0,0)
 |.error c=>([],(c:Int),1)
theorem printed_pr (c:UInt8):scan_printed.f (c.toNat:Int)=some (pr c):=by
 unfold scan_printed.f pr
 by_cases h:32 < c.toNat
 ·rw[if_pos (by omega)]
  simp only[h,decide_true,Bool.true_and,Option.some.injEq,decide_eq_decide]
  omega
 ·rw[if_neg (by omega)]
  simp[h]
theorem words_loops (a:ByteArray) (hsz:a.size≤4398046511104) (r:List UInt8) : ∀ (k:Nat) (ws:List ByteArray) (i:Nat),r.length < k → ws.length+r.length < 8796093022207 →
  ((Bs a).drop i=r → i≤a.size → scan_Words.l0 k a ws (i:Int)=some (res ws (wd r none i)))∧
  (∀ x6 cur,(Bs a).drop (i+1)=r → i < a.size → x6≤i → ((Bs a).drop x6).take (i+1 - x6)=cur → scan_Words.l1 k a ws (x6:Int) (i:Int)=some (res ws (wd r (some cur) (i+1)))):=by
 induction r with
 |nil=>
  intro k ws i hk hw
  obtain⟨k,rfl⟩ : ∃ m,k=m+1:=⟨k - 1,by simp at hk;omega⟩
  constructor
  ·intro hd hi
   have hl:=bP hd (by rw[ai];exact hi)
   rw[ai] at hl
   simp only[List.length_nil,Nat.add_zero] at hl
   simp only[scan_Words.l0]
   rw[if_pos (by omega)]
   by_cases h0:0 < i
   ·rw[if_pos (by omega)]
    simp[res,wd,h0]
   ·rw[if_neg (by omega)]
    have:i=0:=by omega
    subst this
    simp[res,wd]
  ·intro x6 cur hd hi hx hc
   have hl:=bP hd (by rw[ai];omega)
   rw[ai] at hl
   simp only[List.length_nil,Nat.add_zero] at hl
   simp only[scan_Words.l1]
   simp only[List.length_nil,Nat.add_zero] at hw
   rw[if_neg (by omega),if_pos (by omega)]
   have e1:((x6:Int)).toNat=x6:=by omega
   have e2:((i:Int)+1).toNat=i+1:=by omega
   rw[e1,e2,eQ,hc]
   simp[res,wd]
 |cons c r ih=>
  intro k ws i hk hw
  obtain⟨k,rfl⟩ : ∃ m,k=m+1:=⟨k - 1,by simp at hk;omega⟩
  simp only[List.length_cons] at hk hw
  constructor
  ·intro hd hi
   have hlt:=bW hd
   rw[ai] at hlt
   simp only[scan_Words.l0]
   rw[if_neg (by omega),if_pos (by omega),dE hd,printed_pr]
   simp only[Option.bind_some]
   by_cases hp:pr c=true
   ·rw[if_pos hp,(ih k ws i (by omega) (by omega)).2 i [c] (bi hd) hlt (Nat.le_refl _) (by rw[hd];simp)]
    rw[wd,if_pos hp]
   ·rw[if_neg hp,wd,if_neg hp]
    simp[res]
  ·intro x6 cur hd hi hx hc
   have hlt:=bW hd
   rw[ai] at hlt
   simp only[scan_Words.l1]
   have e0:((i:Int)+1)=((i+1:Nat):Int):=by omega
   rw[if_pos (by omega),e0,dE hd,printed_pr]
   simp only[Option.bind_some]
   by_cases hp:pr c=true
   ·rw[if_pos hp,(ih k ws (i+1) (by omega) (by omega)).2 x6 (cur ++ [c]) (bi hd) hlt (by omega) (by
     rw[← hc]
     have e3:i+1+1 - x6=(i+1 - x6)+1:=by omega
     rw[e3,List.take_add_one,List.getElem?_drop]
     congr 1
     have e4:x6+(i+1 - x6)=i+1:=by omega
     rw[e4]
     have e5:((Bs a).drop (i+1))[0]? = some c:=by rw[hd];rfl
     rw[List.getElem?_drop,Nat.add_zero] at e5
     rw[e5]
     rfl)]
    rw[wd,if_pos hp]
   ·rw[if_neg hp,if_pos (by omega)]
    have e1:((x6:Int)).toNat=x6:=by omega
    have e2:(((i+1:Nat):Int)).toNat=i+1:=by omega
    rw[e1,e2,eQ,hc]
    rw[wd,if_neg hp]
    have e6:(((i+1:Nat):Int))+1=((i+1+1:Nat):Int):=by omega
    by_cases h32:c=32
    ·subst h32
     rw[if_pos (by decide),if_pos rfl,e6,(ih k (ws ++ [toB cur]) (i+1+1) (by omega) (by simp;omega)).1 (bi hd) (by omega)]
     cases wd r none (i+1+1) with
     |ok vs=>simp[res]
     |error e=>simp[res]
    ·rw[if_neg (by
      intro h
      exact h32 (u8_eq.1 (by rw[h];decide))),if_neg h32,e6]
     simp[res]
def WS (a:ByteArray):List ByteArray × Int × Int:=res [] (wd (Bs a) none 0)
theorem words_ev (a:ByteArray) (h:a.size≤4398046511104):Ev (fun k=>scan_Words.f k a) (WS a):=by
 refine⟨a.size+1,fun k hk=>?_⟩
 show scan_Words.f k a=_
 unfold scan_Words.f
 rw[if_pos (by omega)]
 exact(words_loops a h (Bs a) k [] 0 (by rw[ai];omega) (by rw[ai];simp;omega)).1 (by simp) (by omega)
theorem pr_32:pr 32=false:=by decide
theorem Bs_ne {a:ByteArray} : a.toList=([] : List UInt8)↔Bs a = []:=by rw[aY]
end Go.Proofs.YtjokedpaidmjoaaGreatDoor.Pu
set_option linter.all false
namespace Go.Proofs.YtjokedpaidmjoaaGreatDoor.Pu
open Go.RowKit Go.Proofs.YtjokedpaidmjoaaGreatDoorW.PrintWords Go.Proofs.YtjokedpaidmjoaaGreatDoor.Pa
def cf (c:Int):List (List UInt8) → List Int
 |[]=>[]
 |w :: r=>c :: cf (c+((w.length:Int)+1)) r
theorem cf_length (c:Int) (l:List (List UInt8)):(cf c l).length=l.length:=by
 induction l generalizing c with
 |nil=>rfl
 |cons w r ih=>simp only[cf,List.length_cons,ih]
def tot (l:List (List UInt8)):Nat:=(l.map fun w=>w.length+1).sum
theorem dZ (w:List UInt8) (r:List (List UInt8)):tot (w :: r)=w.length+1+tot r:=by simp[tot]
theorem getD_drop {α:Type} {l:List α} {i:Nat} {x:α} {r:List α} (h:l.drop i=x :: r) (d:α):l.getD i d=x:=by
 have:(l.drop i)[0]? = some x:=by rw[h];rfl
 rw[List.getElem?_drop,Nat.add_zero] at this
 rw[List.getD_eq_getElem?_getD,this]
 rfl
theorem columns_loop (ws:List ByteArray) (hn:ws.length < 1000000000) (r:List (List UInt8)) : ∀ (k i:Nat) (pre:List Int) (c:Int),i≤ws.length → ws.drop i=r.map toB → pre.length=i → r.length < k → 0≤c → c+tot r≤1000000000 →
  scan_Columns.l0 k (pre ++ List.replicate r.length 0) c ws (ws.length:Int) (i:Int)=some (pre ++ cf c r):=by
 induction r with
 |nil=>
  intro k i pre c hi hd hp hk _ _
  obtain⟨k,rfl⟩ : ∃ m,k=m+1:=⟨k - 1,by omega⟩
  have:=bP hd hi
  simp only[List.map_nil,List.length_nil] at this
  simp only[scan_Columns.l0]
  rw[if_neg (by omega)]
  simp[cf]
 |cons w r ih=>
  intro k i pre c hi hd hp hk h0 hs
  obtain⟨k,rfl⟩ : ∃ m,k=m+1:=⟨k - 1,by omega⟩
  simp only[List.map_cons] at hd
  have hlt:=bW hd
  simp only[List.length_cons] at hk
  rw[dZ] at hs
  have e:wrap64 ((i:Int)+1)=((i+1:Nat):Int):=by rw[w64 (by omega) (by omega)];omega
  simp only[scan_Columns.l0,List.length_append,List.length_replicate,List.length_cons]
  rw[rdOf_get,getD_drop hd,e,fU,w64 (x:=(w.length:Int)+1) (by omega) (by omega),w64 (by omega) (by omega),if_pos (by omega),if_pos (by omega),if_pos (by omega),if_pos (by omega)]
  have ei:((i:Int)).toNat=i:=by omega
  have es:(pre ++ List.replicate (r.length+1) 0).set ((i:Int)).toNat c=(pre ++ [c]) ++ List.replicate r.length 0:=by
   rw[ei,← hp,List.set_append_right _ _ (Nat.le_refl _),Nat.sub_self,List.replicate_succ,List.set_cons_zero]
   simp
  rw[es,ih k (i+1) (pre ++ [c]) _ (by omega) (bi hd) (by simp[hp]) (by omega) (by omega) (by omega)]
  simp[cf]
theorem tot_len (r:List (List UInt8)):r.length≤tot r:=by
 induction r with
 |nil=>simp
 |cons x r ih=>rw[dZ];simp;omega
theorem columns_ev (vs:List (List UInt8)) (h:tot vs≤900000000):Ev (fun k=>scan_Columns.f k (vs.map toB)) (cf 1 vs):=by
 have hl:=tot_len vs
 refine⟨vs.length+1,fun k hk=>?_⟩
 show scan_Columns.f k _=_
 unfold scan_Columns.f
 have e:(((vs.map toB).length:Int)).toNat=vs.length:=by simp
 rw[e,if_pos (by omega),if_pos (by omega)]
 have:=columns_loop (vs.map toB) (by simp;omega) vs k 0 [] 1 (by omega) (by simp) rfl (by omega) (by omega) (by omega)
 simpa using this
end Go.Proofs.YtjokedpaidmjoaaGreatDoor.Pu
