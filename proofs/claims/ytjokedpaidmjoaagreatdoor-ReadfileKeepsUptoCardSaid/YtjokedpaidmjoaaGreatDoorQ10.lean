/- A part of the proof. -/
import Derived.Test.YtjokedpaidmjoaaGreatDoorQ06
import Derived.Test.YtjokedpaidmjoaaGreatDoorQ08
import Derived.Test.YtjokedpaidmjoaaGreatDoorQ09
set_option linter.all false
namespace Go.Proofs.YtjokedpaidmjoaaGreatDoor.Pu
open Go.RowKit Go.Proofs.YtjokedpaidmjoaaGreatDoorW.PrintWords Go.Proofs.YtjokedpaidmjoaaGreatDoor.Pa
def fits (a:List UInt8) (i:Nat):Option (List UInt8) → Prop
 |none=>i=0∨a[i - 1]? = some 32
 |some _=>0 < i∧∃ c,a[i - 1]? = some c∧pr c=true
theorem fits_next {a:List UInt8} {i:Nat} {c:UInt8} {r:List UInt8} (h:a.drop i=c :: r):a[i+1 - 1]? = some c:=by
 have:(a.drop i)[0]? = some c:=by rw[h];rfl
 rw[List.getElem?_drop] at this
 simpa using this
theorem pr_ne32 {c:UInt8} (h:pr c=true):c≠32:=by rintro rfl;simp[pr] at h
theorem pr_iff (c:UInt8):pr c=true↔32 < c.toNat∧c.toNat < 127:=by simp[pr]
theorem wrong_pr {a:ByteArray} {i:Nat} {c:UInt8} {r:List UInt8} (h:(Bs a).drop i=c :: r) (hp:pr c=true):pylonref06_wrong.f a (i:Int)=some false:=by
 have hlt:=bW h
 rw[ai] at hlt
 have hc:=(pr_iff c).1 hp
 unfold pylonref06_wrong.f
 rw[if_pos (by omega),if_pos (by omega),dE h,if_neg (by omega),if_neg (by omega)]
 simp
 omega
theorem wrong_other {a:ByteArray} {i:Nat} {c:UInt8} {r:List UInt8} (h:(Bs a).drop i=c :: r) (hp:pr c=false) (h32:c≠32):pylonref06_wrong.f a (i:Int)=some true:=by
 have hlt:=bW h
 rw[ai] at hlt
 have hc : ¬ (32 < c.toNat∧c.toNat < 127):=fun e=>by rw[(pr_iff c).2 e] at hp;cases hp
 have hn:(c.toNat:Int)≠32:=fun e=>h32 (UInt8.toNat_inj.1 (by rw[show(32:UInt8).toNat=32 from rfl];omega))
 unfold pylonref06_wrong.f
 rw[if_pos (by omega),if_pos (by omega),dE h,if_neg hn]
 by_cases h33:(c.toNat:Int) < 33
 ·rw[if_pos h33]
 ·rw[if_neg h33]
  simp
  omega
theorem wrong_blank {a:ByteArray} {i:Nat} {r:List UInt8} (hs:a.size≤4398046511104) (h:(Bs a).drop i=32 :: r):pylonref06_wrong.f a (i:Int)=some (decide (i=0∨r = []∨(Bs a)[i - 1]? = some 32)):=by
 have hlt:=bW h
 rw[ai] at hlt
 have hl:=bP h (by rw[ai];omega)
 rw[ai,List.length_cons] at hl
 unfold pylonref06_wrong.f
 rw[if_pos (by omega),if_pos (by omega),dE h,if_pos (by decide)]
 by_cases h0:i=0
 ·rw[if_pos (by omega)];simp[h0]
 ·rw[if_neg (by omega),w64 (x:=(a.size:Int) - 1) (by omega) (by omega),w64 (x:=(i:Int) - 1) (by omega) (by omega)]
  by_cases hr:r = []
  ·rw[if_pos (by rw[hr] at hl;simp at hl;omega)]
   simp[hr]
  ·have:0 < r.length:=List.length_pos_iff.2 hr
   rw[if_neg (by omega),if_pos (by omega),if_pos (by omega)]
   have hi:i - 1 < (Bs a).length:=by rw[ai];omega
   have e:(Bs a)[i - 1]? = some ((Bs a)[i - 1]):=List.getElem?_eq_getElem hi
   have e1:(i:Int) - 1=((i - 1:Nat):Int):=by omega
   rw[e1,bt_get e,e]
   simp only[h0,hr,false_or,Option.some.injEq]
   rw[Bool.eq_iff_iff]
   simp only[beq_iff_eq,decide_eq_true_eq]
   have:=@u8_eq ((Bs a)[i - 1]) 32
   rw[show((32:UInt8).toNat:Int)=32 from rfl] at this
   exact this
theorem ref_look (a:ByteArray) (hs:a.size≤4398046511104) (r:List UInt8) : ∀ (k i:Nat) (st:Option (List UInt8)),(Bs a).drop i=r → i≤a.size → fits (Bs a) i st → (r = [] → st≠none) →
  (match wd r st i with
   |.error c=>r.length < k → pylonref06_Words.l0 k a (i:Int)=some ([],(c:Int),1)
   |.ok _=>∀ R,(∀ j,k≤j+r.length+1 → pylonref06_Words.l1 j a [] (⟨#[]⟩ : ByteArray) 0=some R) → r.length < k → pylonref06_Words.l0 k a (i:Int)=some R):=by
 induction r with
 |nil=>
  intro k i st hd hi hf hn
  have hl:=bP hd (by rw[ai];exact hi)
  rw[ai] at hl
  simp only[List.length_nil,Nat.add_zero] at hl
  cases st with
  |none=>exact absurd rfl (hn rfl)
  |some cur=>
   simp only[wd]
   intro R hR hk
   obtain⟨k,rfl⟩ : ∃ m,k=m+1:=⟨k - 1,by simp at hk;omega⟩
   simp only[pylonref06_Words.l0]
   rw[if_neg (by omega)]
   exact hR k (by simp)
 |cons c r ih=>
  intro k i st hd hi hf _
  have hlt:=bW hd
  rw[ai] at hlt
  have e:wrap64 ((i:Int)+1)=((i+1:Nat):Int):=by rw[w64 (by omega) (by omega)];omega
  by_cases hp:pr c=true
  ·have hw:=wrong_pr hd hp
   obtain⟨cur',hst⟩ : ∃ cur',wd (c :: r) st i=wd r (some cur') (i+1):=by
    cases st with
    |none=>exact⟨[c],by simp[wd,hp]⟩
    |some cur=>exact⟨cur ++ [c],by simp[wd,hp]⟩
   have hi1:=fun k=>ih k (i+1) (some cur') (bi hd) (by omega) ⟨by omega,c,fits_next hd,hp⟩ (by simp)
   rw[hst]
   cases ew:wd r (some cur') (i+1) with
   |error c'=>
    simp only
    intro hk
    simp only[List.length_cons] at hk
    obtain⟨k,rfl⟩ : ∃ m,k=m+1:=⟨k - 1,by omega⟩
    have h2:=hi1 k
    rw[ew] at h2
    simp only at h2
    simp only[pylonref06_Words.l0]
    rw[if_pos (by omega),hw]
    simp only[Option.bind_some,Bool.false_eq_true,if_false]
    rw[e]
    exact h2 (by omega)
   |ok vs=>
    simp only
    intro R hR hk
    simp only[List.length_cons] at hk hR
    obtain⟨k,rfl⟩ : ∃ m,k=m+1:=⟨k - 1,by omega⟩
    have h2:=hi1 k
    rw[ew] at h2
    simp only at h2
    simp only[pylonref06_Words.l0]
    rw[if_pos (by omega),hw]
    simp only[Option.bind_some,Bool.false_eq_true,if_false]
    rw[e]
    exact h2 R (fun j hj=>hR j (by omega)) (by omega)
  ·have hp' : pr c=false:=by simpa using hp
   have bad:pylonref06_wrong.f a (i:Int)=some true → wd (c :: r) st i = .error (i+1) →
     (match wd (c :: r) st i with
      |.error c'=>(c :: r).length < k → pylonref06_Words.l0 k a (i:Int)=some ([],(c' : Int),1)
      |.ok _=>∀ R,(∀ j,k≤j+(c :: r).length+1 → pylonref06_Words.l1 j a [] (⟨#[]⟩ : ByteArray) 0=some R) → (c :: r).length < k → pylonref06_Words.l0 k a (i:Int)=some R):=by
    intro hw he
    rw[he]
    simp only
    intro hk
    obtain⟨k,rfl⟩ : ∃ m,k=m+1:=⟨k - 1,by simp at hk;omega⟩
    simp only[pylonref06_Words.l0]
    rw[if_pos (by omega),hw]
    simp only[Option.bind_some,if_true]
    rw[e]
   by_cases h32:c=32
   ·subst h32
    have hw:=wrong_blank hs hd
    cases st with
    |none=>
     refine bad ?_ (by simp[wd,hp])
     rw[hw]
     simp only[fits] at hf
     rcases hf with hf|hf
     ·simp[hf]
     ·simp[hf]
    |some cur=>
     obtain⟨h0,c0,hc0,hpc⟩:=hf
     have hne : ¬ (Bs a)[i - 1]? = some 32:=by
      rw[hc0]
      intro e
      exact pr_ne32 hpc (Option.some.inj e)
     by_cases hr:r = []
     ·refine bad ?_ ?_
      ·rw[hw];simp[hr]
      ·subst hr
       simp[wd,hp]
     ·have hw' : pylonref06_wrong.f a (i:Int)=some false:=by
       rw[hw]
       simp only[hr,hne,or_false,Option.some.injEq,decide_eq_false_iff_not]
       omega
      have hi1:=fun k=>ih k (i+1) none (bi hd) (by omega) (.inr (fits_next hd)) (fun e=>absurd e hr)
      simp only[wd,hp',Bool.false_eq_true,if_false,if_true]
      cases ew:wd r none (i+1) with
      |error c'=>
       simp only
       intro hk
       simp only[List.length_cons] at hk
       obtain⟨k,rfl⟩ : ∃ m,k=m+1:=⟨k - 1,by omega⟩
       have h2:=hi1 k
       rw[ew] at h2
       simp only at h2
       simp only[pylonref06_Words.l0]
       rw[if_pos (by omega),hw']
       simp only[Option.bind_some,Bool.false_eq_true,if_false]
       rw[e]
       exact h2 (by omega)
      |ok vs=>
       simp only
       intro R hR hk
       simp only[List.length_cons] at hk hR
       obtain⟨k,rfl⟩ : ∃ m,k=m+1:=⟨k - 1,by omega⟩
       have h2:=hi1 k
       rw[ew] at h2
       simp only at h2
       simp only[pylonref06_Words.l0]
       rw[if_pos (by omega),hw']
       simp only[Option.bind_some,Bool.false_eq_true,if_false]
       rw[e]
       exact h2 R (fun j hj=>hR j (by omega)) (by omega)
   ·refine bad (wrong_other hd hp' h32) ?_
    cases st with
    |none=>simp[wd,hp]
    |some cur=>simp[wd,hp,h32]
theorem ref_take (a:ByteArray) (hs:a.size≤4398046511104) (r:List UInt8) : ∀ (k i:Nat) (ws:List ByteArray) (cur:List UInt8) (vs:List (List UInt8)),(Bs a).drop i=r → i≤a.size → cur.length≤i → ((Bs a).drop (i - cur.length)).take cur.length=cur →
  wd r (if cur = [] then none else some cur) i = .ok vs → r.length < k → ws.length+r.length < 8796093022207 →
  pylonref06_Words.l1 k a ws (toB cur) (i:Int)=some (ws ++ vs.map toB,0,0):=by
 induction r with
 |nil=>
  intro k i ws cur vs hd hi hc hcur hw hk hws
  obtain⟨k,rfl⟩ : ∃ m,k=m+1:=⟨k - 1,by simp at hk;omega⟩
  have hl:=bP hd (by rw[ai];exact hi)
  rw[ai] at hl
  simp only[List.length_nil,Nat.add_zero] at hl hws
  simp only[pylonref06_Words.l1]
  rw[if_neg (by omega),if_pos (by omega)]
  by_cases h0:cur = []
  ·rw[if_pos h0] at hw;simp[wd] at hw
  ·rw[if_neg h0] at hw
   simp only[wd,Except.ok.injEq] at hw
   subst hw
   simp
 |cons c r ih=>
  intro k i ws cur vs hd hi hc hcur hw hk hws
  obtain⟨k,rfl⟩ : ∃ m,k=m+1:=⟨k - 1,by simp at hk;omega⟩
  simp only[List.length_cons] at hk hws
  have hlt:=bW hd
  rw[ai] at hlt
  have e:wrap64 ((i:Int)+1)=((i+1:Nat):Int):=by rw[w64 (by omega) (by omega)];omega
  simp only[pylonref06_Words.l1]
  rw[if_pos (by omega),if_pos (by omega),dE hd,fU,e]
  by_cases h32:c=32
  ·subst h32
   rw[if_pos (by decide),if_pos (by omega)]
   by_cases h0:cur = []
   ·rw[if_pos h0] at hw
    simp[wd,pr_32] at hw
   ·rw[if_neg h0] at hw
    simp only[wd,pr_32,Bool.false_eq_true,if_false,if_true] at hw
    split at hw
    ·rename_i ws' hv
     simp only[Except.ok.injEq] at hw
     subst hw
     have e3:(⟨#[]⟩ : ByteArray)=toB []:=rfl
     rw[e3,ih k (i+1) (ws ++ [toB cur]) [] ws' (bi hd) (by omega) (by simp) (by simp) (by simpa using hv) (by omega) (by simp;omega)]
     simp
    ·cases hw
  ·rw[if_neg (by
    intro h
    exact h32 (UInt8.toNat_inj.1 (by rw[show(32:UInt8).toNat=32 from rfl];omega)))]
   rw[w64 (x:=(i:Int) - (cur.length:Int)) (by omega) (by omega),if_pos (by omega),if_pos (by omega),if_pos (by omega)]
   have hp:pr c=true:=by
    apply Decidable.byContradiction
    intro hp
    by_cases h0:cur = []
    ·rw[if_pos h0] at hw;simp[wd,hp] at hw
    ·rw[if_neg h0] at hw;simp[wd,hp,h32] at hw
   have e1:((i:Int) - (cur.length:Int)).toNat=i - cur.length:=by omega
   have e2:(((i+1:Nat)):Int).toNat=i+1:=by omega
   have hcur2:((Bs a).drop (i+1 - (cur ++ [c]).length)).take (cur ++ [c]).length=cur ++ [c]:=by
    have e4:i+1 - (cur ++ [c]).length=i - cur.length:=by rw[List.length_append,List.length_singleton];omega
    rw[e4,List.length_append,List.length_singleton,List.take_add_one,hcur,List.getElem?_drop]
    have e5:i - cur.length+cur.length=i:=by omega
    have e6:((Bs a).drop i)[0]? = some c:=by rw[hd];rfl
    rw[List.getElem?_drop,Nat.add_zero] at e6
    rw[e5,e6]
    rfl
   have ex:a.extract (i - cur.length) (i+1)=toB (cur ++ [c]):=by
    rw[eQ]
    congr 1
    have e4:i+1 - (cur ++ [c]).length=i - cur.length:=by rw[List.length_append,List.length_singleton];omega
    rw[e4] at hcur2
    have e5:i+1 - (i - cur.length)=(cur ++ [c]).length:=by simp;omega
    rw[e5,hcur2]
   rw[e1,e2,ex]
   refine ih k (i+1) ws (cur ++ [c]) vs (bi hd) (by omega) (by simp;omega) hcur2 ?_ (by omega) (by omega)
   rw[if_neg (by simp)]
   by_cases h0:cur = []
   ·subst h0
    simpa [wd,hp] using hw
   ·rw[if_neg h0] at hw
    simpa [wd,hp] using hw
theorem refWords_ev (a:ByteArray) (h:a.size≤4398046511104):Ev (fun k=>pylonref06_Words.f k a) (WS a):=by
 have lenA:=ai a
 refine⟨2 * a.size+3,fun k hk=>?_⟩
 show pylonref06_Words.f k a=_
 unfold pylonref06_Words.f WS
 by_cases h0:a.toList=([] : List UInt8)
 ·rw[if_pos h0,Bs_ne.1 h0]
  rfl
 ·rw[if_neg h0]
  have h0' : Bs a≠[]:=fun e=>h0 (Bs_ne.2 e)
  have hlook:=ref_look a h (Bs a) k 0 none (by simp) (by omega) (.inl rfl) (fun e=>absurd e h0')
  cases ew:wd (Bs a) none 0 with
  |error c=>
   rw[ew] at hlook
   simp only at hlook
   have:=hlook (by omega)
   simpa [res] using this
  |ok vs=>
   rw[ew] at hlook
   simp only at hlook
   refine hlook _ (fun j hj=>?_) (by omega)
   have:=ref_take a h (Bs a) j 0 [] [] vs (by simp) (by omega) (by simp) (by simp) (by simpa using ew) (by omega) (by simp;omega)
   exact this
theorem refColumns_loop (ws:List ByteArray) (hn:ws.length < 1000000000) (r:List (List UInt8)) : ∀ (k i:Nat) (pre:List Int) (c:Int),i≤ws.length → ws.drop i=r.map toB → pre.length=i → r.length < k → 0≤c → c+tot r≤1000000000 →
  pylonref06_Columns.l0 k ws (pre ++ List.replicate r.length 0) c (ws.length:Int) (i:Int)=some (pre ++ cf c r):=by
 induction r with
 |nil=>
  intro k i pre c hi hd hp hk _ _
  obtain⟨k,rfl⟩ : ∃ m,k=m+1:=⟨k - 1,by omega⟩
  have:=bP hd hi
  simp only[List.map_nil,List.length_nil] at this
  simp only[pylonref06_Columns.l0]
  rw[if_neg (by omega)]
  simp[cf]
 |cons w r ih=>
  intro k i pre c hi hd hp hk h0 hs
  obtain⟨k,rfl⟩ : ∃ m,k=m+1:=⟨k - 1,by omega⟩
  simp only[List.map_cons] at hd
  have hlt:=bW hd
  simp only[List.length_cons] at hk
  rw[dZ] at hs
  have e:wrap64 ((i:Int)+1)=((i+1:Nat):Int):=by rw[w64 (by omega) (by omega)];omega
  simp only[pylonref06_Columns.l0,List.length_append,List.length_replicate,List.length_cons]
  rw[rdOf_get,getD_drop hd,e,fU,w64 (x:=c+(w.length:Int)) (by omega) (by omega),w64 (by omega) (by omega),if_pos (by omega),if_pos (by omega),if_pos (by omega),if_pos (by omega)]
  have ei:((i:Int)).toNat=i:=by omega
  have es:(pre ++ List.replicate (r.length+1) 0).set ((i:Int)).toNat c=(pre ++ [c]) ++ List.replicate r.length 0:=by
   rw[ei,← hp,List.set_append_right _ _ (Nat.le_refl _),Nat.sub_self,List.replicate_succ,List.set_cons_zero]
   simp
  rw[es,ih k (i+1) (pre ++ [c]) _ (by omega) (bi hd) (by simp[hp]) (by omega) (by omega) (by omega)]
  simp only[cf,List.append_assoc,List.singleton_append,Int.add_assoc]
theorem refColumns_ev (vs:List (List UInt8)) (h:tot vs≤900000000):Ev (fun k=>pylonref06_Columns.f k (vs.map toB)) (cf 1 vs):=by
 have hl:=tot_len vs
 refine⟨vs.length+1,fun k hk=>?_⟩
 show pylonref06_Columns.f k _=_
 unfold pylonref06_Columns.f
 have e:(((vs.map toB).length:Int)).toNat=vs.length:=by simp
 rw[e,if_pos (by omega),if_pos (by omega)]
 have:=refColumns_loop (vs.map toB) (by simp;omega) vs k 0 [] 1 (by omega) (by simp) rfl (by omega) (by omega) (by omega)
 simpa using this
theorem map_toB (ws:List ByteArray):(ws.map Bs).map toB=ws:=by
 rw[List.map_map]
 have:(toB ∘ Bs)=id:=by funext a;exact toB_Bs a
 rw[this,List.map_id]
end Go.Proofs.YtjokedpaidmjoaaGreatDoor.Pu
