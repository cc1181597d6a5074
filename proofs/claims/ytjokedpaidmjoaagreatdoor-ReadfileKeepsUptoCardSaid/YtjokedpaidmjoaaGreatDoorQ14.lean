/- A part of the proof. -/
import Derived.Test.YtjokedpaidmjoaaGreatDoorQ12
import Derived.Test.YtjokedpaidmjoaaGreatDoorQ13
set_option linter.all false
namespace Go.Proofs.YtjokedpaidmjoaaGreatDoor.Pu
open Go.RowKit Go.Proofs.YtjokedpaidmjoaaGreatDoorW.PrintWords Go.Proofs.YtjokedpaidmjoaaGreatDoor.Pa
def dig (c:UInt8):Bool:=decide (48≤c.toNat) && decide (c.toNat≤57)
def stepd (n:Nat) (c:UInt8):Nat:=n * 10+(c.toNat - 48)
def val (m:Nat) (r:List UInt8):Nat:=r.foldl stepd m
theorem val_nil (m:Nat):val m []=m:=by unfold val;rw[List.foldl_nil]
theorem val_cons (m:Nat) (c:UInt8) (r:List UInt8):val m (c :: r)=val (m * 10+(c.toNat - 48)) r:=by
 unfold val
 rw[List.foldl_cons]
 rw[show stepd m c=m * 10+(c.toNat - 48) from rfl]
attribute [local irreducible] val
theorem val_le (r:List UInt8) : ∀ m,m≤val m r:=by
 induction r with
 |nil=>intro m;rw[val_nil];exact Nat.le_refl _
 |cons c r ih=>
  intro m
  rw[val_cons]
  exact Nat.le_trans (by omega) (ih (m * 10+(c.toNat - 48)))
theorem parse_val (r:List UInt8) : ∀ m,m≤18446744073709551615 → (∀ c∈r,48≤c.toNat∧c.toNat≤57) → Lib.parseUintM 18446744073709551615 m r=if val m r≤18446744073709551615 then .ok (val m r) else .range:=by
 induction r with
 |nil=>intro m hm _;rw[val_nil,if_pos hm];rfl
 |cons c r ih=>
  intro m hm hc
  have h0:=hc c (by simp)
  have hv:=val_le r (m * 10+(c.toNat - 48))
  rw[val_cons]
  simp only[Lib.parseUintM]
  rw[if_pos h0]
  by_cases h1:1844674407370955162≤m
  ·rw[if_pos h1,if_neg (by omega)]
  ·rw[if_neg h1]
   by_cases h2:18446744073709551615 < m * 10+(c.toNat - 48)
   ·rw[if_pos h2,if_neg (by omega)]
   ·rw[if_neg h2,ih _ (by omega) (fun c hc'=>hc c (by simp[hc']))]
theorem text_loop (a:ByteArray) (hs:a.size≤1000000000) (r:List UInt8) : ∀ (k i:Nat),(Bs a).drop i=r → i≤a.size → r.length < k → pylonref01_IsText.l0 k a (i:Int)=some (r.all dig):=by
 induction r with
 |nil=>
  intro k i hd hi hk
  obtain⟨k,rfl⟩ : ∃ m,k=m+1:=⟨k - 1,by simp at hk;omega⟩
  have hl:=bP hd (by rw[ai];exact hi)
  rw[ai] at hl
  simp only[List.length_nil,Nat.add_zero] at hl
  simp only[pylonref01_IsText.l0]
  rw[if_neg (by omega)]
  rfl
 |cons c r ih=>
  intro k i hd hi hk
  obtain⟨k,rfl⟩ : ∃ m,k=m+1:=⟨k - 1,by simp at hk;omega⟩
  have hlt:=bW hd
  rw[ai] at hlt
  simp only[List.length_cons] at hk
  have e:wrap64 ((i:Int)+1)=((i+1:Nat):Int):=by rw[w64 (by omega) (by omega)];omega
  simp only[pylonref01_IsText.l0,List.all_cons]
  rw[if_pos (by omega),if_pos (by omega),dE hd,e,ih k (i+1) (bi hd) (by omega) (by omega)]
  clear e ih
  by_cases h1:(c.toNat:Int) < 48
  ·rw[if_pos h1]
   have:dig c=false:=by unfold dig;rw[decide_eq_false (by omega)];rfl
   rw[this]
   rfl
  ·rw[if_neg h1]
   by_cases h2:(c.toNat:Int) > 57
   ·rw[if_pos h2]
    have:dig c=false:=by unfold dig;rw[decide_eq_false (p:=c.toNat≤57) (by omega),Bool.and_false]
    rw[this]
    rfl
   ·rw[if_neg h2]
    have:dig c=true:=by unfold dig;rw[decide_eq_true (by omega),decide_eq_true (by omega)];rfl
    rw[this]
    rfl
def sg (neg:Bool) (v:Nat):Int × Int:=if neg then (if 9223372036854775808 < v then (0,5) else (-(v:Int),0)) else (if 9223372036854775808≤v then (0,5) else ((v:Int),0))
theorem signed_at (k:Nat) (neg:Bool) (v:Nat) (hv:v≤9223372036854775808):pylonref01_signed.f (k+1) neg 0 (v:Int)=some (sg neg v):=by
 unfold pylonref01_signed.f sg
 rw[if_pos rfl]
 cases neg with
 |true=>
  rw[if_pos rfl,if_pos rfl,if_neg (by omega),decide_eq_false (by omega)]
  simp only[pylonref01_signed.j0,Bool.false_eq_true,if_false,if_true]
  by_cases h0:(v:Int) > 0
  ·rw[if_pos h0,IntWalk.u64_in _ (by omega),w64 (x:=(v:Int) - 1) (by omega) (by omega),w64 (x:=-((v:Int) - 1)) (by omega) (by omega),w64 (by omega) (by omega)]
   congr 2
   omega
  ·rw[if_neg h0,w64 (by omega) (by omega)]
   congr 2
   omega
 |false=>
  simp only[Bool.false_eq_true,if_false]
  by_cases h1:(v:Int)≥9223372036854775808
  ·rw[if_pos h1,if_pos (by omega)]
   simp only[pylonref01_signed.j0,if_true]
  ·rw[if_neg h1,if_neg (by omega)]
   simp only[pylonref01_signed.j0,Bool.false_eq_true,if_false]
   rw[w64 (by omega) (by omega)]
theorem read_loop (d:ByteArray) (hs:d.size≤1000000000) (neg:Bool) (r:List UInt8) : ∀ (k i m:Nat),(Bs d).drop i=r → i≤d.size → r.length+1 < k → m≤9223372036854775808 → (∀ c∈r,48≤c.toNat∧c.toNat≤57) →
  pylonref01_Read.l0 k d neg (m:Int) (i:Int)=some (if val m r≤9223372036854775808 then sg neg (val m r) else (0,5)):=by
 induction r with
 |nil=>
  intro k i m hd hi hk hm _
  obtain⟨k,rfl⟩ : ∃ m,k=m+2:=⟨k - 2,by simp at hk;omega⟩
  have hl:=bP hd (by rw[ai];exact hi)
  rw[ai] at hl
  simp only[List.length_nil,Nat.add_zero] at hl
  simp only[pylonref01_Read.l0]
  rw[val_nil,if_neg (by omega),if_pos hm,signed_at k neg m hm]
  rfl
 |cons c r ih=>
  intro k i m hd hi hk hm hc
  obtain⟨k,rfl⟩ : ∃ m,k=m+1:=⟨k - 1,by simp at hk;omega⟩
  have hlt:=bW hd
  rw[ai] at hlt
  simp only[List.length_cons] at hk
  have h0:=hc c (by simp)
  have hv:=val_le r (m * 10+(c.toNat - 48))
  have e:wrap64 ((i:Int)+1)=((i+1:Nat):Int):=by rw[w64 (by omega) (by omega)];omega
  have e2:((c.toNat:Int) - 48) % 256=((c.toNat - 48:Nat):Int):=by omega
  simp only[pylonref01_Read.l0]
  rw[val_cons,if_pos (by omega),if_pos (by omega),dE hd,e,e2]
  clear e e2
  by_cases h1:(m:Int) > (9223372036854775808 - ((c.toNat - 48:Nat):Int)) / 10
  ·rw[if_pos h1,if_neg (by omega)]
  ·rw[if_neg h1]
   have e3:IntKind.u64.wrap (IntKind.u64.wrap ((m:Int) * 10)+((c.toNat - 48:Nat):Int))=((m * 10+(c.toNat - 48):Nat):Int):=by
    rw[IntWalk.u64_in ((m:Int) * 10) (by omega),IntWalk.u64_in _ (by omega)]
    omega
   rw[e3,ih k (i+1) _ (bi hd) (by omega) (by omega) (by omega) (fun c hc'=>hc c (by simp[hc']))]
theorem text_j2 (d:ByteArray) (hs:d.size≤1000000000) (b:Bool) (k:Nat) (hk:d.size+2≤k):pylonref01_IsText.j2 k d b=some (!b && (Bs d).all dig):=by
 obtain⟨k,rfl⟩ : ∃ m,k=m+1:=⟨k - 1,by omega⟩
 simp only[pylonref01_IsText.j2]
 cases b with
 |true=>rfl
 |false=>
  have:=text_loop d hs (Bs d) k 0 (by simp) (Nat.zero_le _) (by rw[ai];omega)
  have e0:((0:Nat):Int)=0:=rfl
  rw[e0] at this
  rw[if_neg (by decide),this]
  rfl
theorem text_j1 (d:ByteArray) (hs:d.size≤1000000000) (x:Bool) (k:Nat) (hk:d.size+3≤k) :
  pylonref01_IsText.j1 k d x=some (decide (d.size≠0) && !(decide (bt d 0=48) && (decide (1 < d.size) || x)) && (Bs d).all dig):=by
 obtain⟨k,rfl⟩ : ∃ m,k=m+1:=⟨k - 1,by omega⟩
 simp only[pylonref01_IsText.j1]
 by_cases h0:d.size=0
 ·rw[if_pos (by omega),text_j2 d hs true k (by omega),decide_eq_false (by omega)]
  rfl
 ·rw[if_neg (by omega),if_pos (by omega),decide_eq_true (p:=d.size≠0) h0]
  by_cases h1:bt d 0=48
  ·rw[if_pos h1,decide_eq_true h1]
   by_cases h2:1 < d.size
   ·rw[if_pos (by omega),text_j2 d hs true k (by omega),decide_eq_true h2]
    rfl
   ·rw[if_neg (by omega),text_j2 d hs x k (by omega),decide_eq_false h2]
    cases x <;> rfl
  ·rw[if_neg h1,text_j2 d hs false k (by omega),decide_eq_false h1]
   rfl
theorem bt_head {a:ByteArray} {c:UInt8} {r:List UInt8} (h:Bs a=c :: r):bt a 0=(c.toNat:Int):=bt_get (a:=a) (i:=0) (by rw[h];rfl)
theorem ne45 {c:UInt8} (hc:c≠45) : ¬ ((c.toNat:Int)=45):=fun e=>hc (UInt8.toNat_inj.1 (by rw[show(45:UInt8).toNat=45 from rfl];omega))
theorem ext_tail {a:ByteArray} {r:List UInt8} (h:Bs a=45 :: r):a.extract 1 a.size=fix_Read.tail a:=by
 have hs:0 < a.size:=by rw[← ai,h];simp
 unfold fix_Read.tail
 rw[if_pos ⟨hs,by rw[bt_head h];rfl⟩]
theorem tail_same {a:ByteArray} {c:UInt8} {r:List UInt8} (h:Bs a=c :: r) (hc:c≠45):fix_Read.tail a=a:=by
 unfold fix_Read.tail
 rw[if_neg]
 rintro⟨_,e⟩
 rw[bt_head h] at e
 exact ne45 hc e
theorem isText_at (a:ByteArray) (hs:a.size≤1000000000) (k:Nat) (hk:a.size+5≤k):pylonref01_IsText.f k a=some (fix_Read.isNum a):=by
 obtain⟨k,rfl⟩ : ∃ m,k=m+1:=⟨k - 1,by omega⟩
 have hall : ∀ d:ByteArray,(d.data.toList.all (fun c=>decide (48≤c.toNat) && decide (c.toNat≤57)))=(Bs d).all dig:=fun d=>rfl
 unfold pylonref01_IsText.f
 cases ea:Bs a with
 |nil=>
  have hz:a.size=0:=by rw[← ai,ea];rfl
  rw[if_neg (by omega)]
  simp only[pylonref01_IsText.j0]
  rw[if_neg (by decide),text_j1 a hs false k (by omega),decide_eq_false (by omega)]
  have:fix_Read.isNum a=false:=by
   rw[← Bool.not_eq_true,isNum_iff]
   rintro⟨h,_⟩
   rw[← ai,tail_nil ea] at h
   exact h rfl
  rw[this]
  rfl
 |cons c r=>
  have hz:a.size=r.length+1:=by rw[← ai,ea];rfl
  rw[if_pos (by omega),if_pos (by omega),bt_head ea]
  simp only[pylonref01_IsText.j0]
  unfold fix_Read.isNum
  rw[hall]
  by_cases hc:c=45
  ·subst hc
   have hts:(fix_Read.tail a).size=r.length:=by rw[← ai,tail_cons ea,if_pos rfl]
   rw[if_pos (by decide),if_pos (by omega),ext_tail ea,text_j1 _ (by omega) _ k (by omega)]
   have e1:(decide (a.toList≠[48]))=true:=decide_eq_true (by rw[aY,ea];simp)
   rw[e1]
   have e2:((((45:UInt8).toNat:Int)) == 45)=true:=by decide
   rw[e2,Bool.or_true]
  ·have e2:(((c.toNat:Int)) == 45)=false:=beq_eq_false_iff_ne.2 (ne45 hc)
   rw[e2,if_neg (by decide),text_j1 a hs false k (by omega),tail_same ea hc]
   congr 3
   by_cases h48:bt a 0=48
   ·rw[decide_eq_true h48,Bool.true_and,Bool.true_and,Bool.or_false]
    congr 1
    rw[decide_eq_decide,aY,ea]
    have hc48:c=48:=UInt8.toNat_inj.1 (by rw[bt_head ea] at h48;rw[show(48:UInt8).toNat=48 from rfl];omega)
    subst hc48
    rw[hz]
    cases r with
    |nil=>simp
    |cons x xs=>simp
   ·rw[decide_eq_false h48]
    rfl
theorem refRead_ev (a:ByteArray) (hs:a.size≤1000000000) {p:Int × Int} (hp:fix_Read.f a=some p):Ev (fun k=>pylonref01_Read.f k a) p:=by
 refine⟨a.size+9,fun k hk=>?_⟩
 show pylonref01_Read.f k a=some p
 unfold pylonref01_Read.f
 rw[isText_at a hs k (by omega),Option.bind_some]
 cases hn:fix_Read.isNum a with
 |false=>
  rw[fix_Read.bad a (by omega) hn] at hp
  rw[if_neg (by decide)]
  exact hp
 |true=>
  obtain⟨h1,h2,h3⟩:=(isNum_iff a).1 hn
  rw[if_pos rfl]
  rw[← ai] at h1
  have h0:Bs (fix_Read.tail a)≠[]:=fun e=>h1 (by rw[e];rfl)
  cases ea:Bs a with
  |nil=>exact absurd (tail_nil ea) h0
  |cons c r=>
   have hz:a.size=r.length+1:=by rw[← ai,ea];rfl
   have ht:=tail_cons ea
   have hts:(fix_Read.tail a).size≤a.size:=by
    rw[← ai,ht,hz]
    split
    ·omega
    ·simp
   have hl:(if c.toNat=43∨c.toNat=45 then r else c :: r)=Bs (fix_Read.tail a):=by
    rw[ht]
    by_cases hc:c=45
    ·subst hc;rfl
    ·rw[if_neg hc] at ht ⊢
     have:=h3 c (by rw[ht];simp)
     rw[if_neg (by
      rintro(e|e)
      ·omega
      ·exact hc (UInt8.toNat_inj.1 (by rw[show(45:UInt8).toNat=45 from rfl];exact e)))]
   have hd:a.data.toList=c :: r:=ea
   have hpv:=parse_val (Bs (fix_Read.tail a)) 0 (by omega) h3
   have hub:Lib.parseUintB 64 (Bs (fix_Read.tail a))=if val 0 (Bs (fix_Read.tail a))≤18446744073709551615 then .ok (val 0 (Bs (fix_Read.tail a))) else .range:=by
    unfold Lib.parseUintB
    rw[if_neg h0]
    exact hpv
   have hrl : ∀ neg,pylonref01_Read.j0 k (fix_Read.tail a) neg=some (if val 0 (Bs (fix_Read.tail a))≤9223372036854775808 then sg neg (val 0 (Bs (fix_Read.tail a))) else (0,5)):=by
    intro neg
    obtain⟨k,rfl⟩ : ∃ m,k=m+1:=⟨k - 1,by omega⟩
    have:=read_loop (fix_Read.tail a) (by omega) neg (Bs (fix_Read.tail a)) k 0 0 (by simp) (Nat.zero_le _) (by rw[ai];omega) (by omega) h3
    have e0:((0:Nat):Int)=0:=rfl
    rw[e0] at this
    simp only[pylonref01_Read.j0]
    exact this
   have hpi:Lib.parseIntB 64 a.data.toList=(if val 0 (Bs (fix_Read.tail a))≤18446744073709551615 then (if ¬ c.toNat=45∧9223372036854775808≤val 0 (Bs (fix_Read.tail a)) then .range else if c.toNat=45∧9223372036854775808 < val 0 (Bs (fix_Read.tail a)) then .range else .ok (if c.toNat=45 then -(val 0 (Bs (fix_Read.tail a)):Int) else (val 0 (Bs (fix_Read.tail a)):Int))) else .range):=by
    rw[hd]
    simp only[Lib.parseIntB,hl,hub]
    by_cases hv:val 0 (Bs (fix_Read.tail a))≤18446744073709551615
    ·rw[if_pos hv,if_pos hv]
    ·rw[if_neg hv,if_neg hv]
   rw[if_pos (by omega),bt_head ea]
   generalize val 0 (Bs (fix_Read.tail a))=v at hrl hpi
   have fin : ∀ neg:Bool,(neg=true↔c.toNat=45) → some (if v≤9223372036854775808 then sg neg v else (0,5))=some p:=by
    intro neg hneg
    by_cases hv:v≤18446744073709551615
    ·rw[if_pos hv] at hpi
     cases neg with
     |true=>
      have h45:=hneg.1 rfl
      rw[if_neg (fun h=>h.1 h45)] at hpi
      by_cases h9:9223372036854775808 < v
      ·rw[if_pos ⟨h45,h9⟩] at hpi
       rw[fix_Read.is_range a (by omega) hn hpi] at hp
       rw[if_neg (by omega)]
       exact hp
      ·rw[if_neg (fun h=>h9 h.2),if_pos h45] at hpi
       rw[fix_Read.is_ok a (by omega) hn hpi] at hp
       rw[if_pos (by omega)]
       unfold sg
       rw[if_pos rfl,if_neg h9]
       exact hp
     |false=>
      have h45 : ¬ c.toNat=45:=fun e=>absurd (hneg.2 e) (by decide)
      by_cases h9:9223372036854775808≤v
      ·rw[if_pos ⟨h45,h9⟩] at hpi
       rw[fix_Read.is_range a (by omega) hn hpi] at hp
       rw[← hp]
       have:sg false v=(0,5):=by unfold sg;rw[if_neg (by decide),if_pos h9]
       rw[this]
       split <;> rfl
      ·rw[if_neg (fun h=>h9 h.2),if_neg (fun h=>h45 h.1),if_neg h45] at hpi
       rw[fix_Read.is_ok a (by omega) hn hpi] at hp
       rw[if_pos (by omega)]
       unfold sg
       rw[if_neg (by decide),if_neg h9]
       exact hp
    ·rw[if_neg hv] at hpi
     rw[fix_Read.is_range a (by omega) hn hpi] at hp
     rw[if_neg (by omega)]
     exact hp
   by_cases hc:c=45
   ·subst hc
    rw[if_pos (by decide),if_pos (by omega),ext_tail ea,hrl]
    exact fin _ (by decide)
   ·have e2:(((c.toNat:Int)) == 45)=false:=beq_eq_false_iff_ne.2 (ne45 hc)
    rw[if_neg (ne45 hc),e2]
    have:=hrl false
    rw[tail_same ea hc] at this
    rw[this]
    exact fin false ⟨fun h=>absurd h (by decide),fun h=>absurd h (by have:=ne45 hc;omega)⟩
theorem number_same (a:ByteArray) (hs:a.size≤1000000000) (x y:Int) : ∃ q:Int × Int,scan_Number.f a x y=some q∧Ev (fun k=>pylonref06_Number.f k a x y) q:=by
 obtain⟨n,e,hp,_⟩:=read_some a (by omega)
 obtain⟨K,hK⟩:=refRead_ev a hs hp
 have hq : ∃ q,scan_Number.f a x y=some q:=by
  unfold scan_Number.f
  rw[hp]
  simp only[Option.bind_some]
  split
  ·split
   ·exact⟨_,rfl⟩
   ·split <;> exact⟨_,rfl⟩
  ·exact⟨_,rfl⟩
 obtain⟨q,hq⟩:=hq
 refine⟨q,hq,K,fun k hk=>?_⟩
 have:pylonref01_Read.f k a=some (n,e):=hK k hk
 show pylonref06_Number.f k a x y=_
 rw[← hq]
 unfold pylonref06_Number.f scan_Number.f
 rw[this,hp]
end Go.Proofs.YtjokedpaidmjoaaGreatDoor.Pu
