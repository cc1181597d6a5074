/- A part of the proof. -/
import Derived.Test.YtcmhfcciapenfaaDoorQ37
import Derived.Test.YtcmhfcciapenfaaDoorQ38
namespace Go.Proofs.YtcmhfcciapenfaaDoor.Pu
open Go.RowKit Go.Proofs.YtcmhfcciapenfaaDoorW.PrintWords Go.Proofs.YtcmhfcciapenfaaDoor.Pa
theorem ev_all {α β:Type} {g:Nat → α → Option β} {r:α → β} (h : ∀ x,Ev (fun k=>g k x) (r x)) (l:List α) : ∃ K,∀ k,K≤k → ∀ x∈l,g k x=some (r x):=by
 induction l with
 |nil=>exact⟨0,fun _ _ x hx=>by cases hx⟩
 |cons a l ih=>
  obtain⟨K1,h1⟩:=ih
  obtain⟨K2,h2⟩:=h a
  refine⟨K1+K2,fun k hk x hx=>?_⟩
  rcases List.mem_cons.1 hx with rfl|hx
  ·exact h2 k (by omega)
  ·exact h1 k (by omega) x hx
theorem rd_drop {α:Type} (z:α) {xs:List α} {i:Nat} {s:α} {r:List α} (h:xs.drop i=s :: r):xs.getD (i:Int).toNat z=s:=by
 have h1:(xs.drop i)[0]? = some s:=by rw[h];rfl
 rw[List.getElem?_drop,Nat.add_zero] at h1
 rw[Int.toNat_natCast,List.getD_eq_getElem?_getD,h1]
 rfl
abbrev HolT:=S43
def holsOk (l:List HolT):Bool:=l.all (fun h=>holOk h.f0 h.f1 h.f2 h.f3) && decide (l.length≤64)
theorem hols_loop (xs:List HolT) (hn:xs.length≤9223372036854775806) (K:Nat) (hK : ∀ k,K≤k → ∀ x∈xs,holiday_Check.f k x.f0 x.f1 x.f2 x.f3=some (if holOk x.f0 x.f1 x.f2 x.f3=true then 0 else 8)) (r:List HolT) : ∀ (k i:Nat),xs.drop i=r → i≤xs.length → K+r.length < k → sound_holidays.l0 k xs xs (xs.length:Int) (i:Int)=some (r.all (fun h=>holOk h.f0 h.f1 h.f2 h.f3) && decide (xs.length≤64)):=by
 induction r with
 |nil=>
  intro k i hd hi hk
  obtain⟨k,rfl⟩ : ∃ m,k=m+1:=⟨k - 1,by simp at hk;omega⟩
  have hl:=dW hd hi
  simp only[List.length_nil,Nat.add_zero] at hl
  simp only[sound_holidays.l0]
  rw[if_neg (by omega)]
  simp only[List.all_nil,Bool.true_and,Option.some.injEq,decide_eq_decide]
  omega
 |cons s r ih=>
  intro k i hd hi hk
  obtain⟨k,rfl⟩ : ∃ m,k=m+1:=⟨k - 1,by simp at hk;omega⟩
  have hlt:=gz hd
  simp only[List.length_cons] at hk
  have hs:s∈xs:=List.mem_of_mem_drop (i:=i) (by rw[hd];exact List.mem_cons_self)
  have e:wrap64 ((i:Int)+1)=((i+1:Nat):Int):=by rw[w64 (by omega) (by omega)];omega
  have erd:bv xs (i:Int)=s:=rd_drop _ hd
  simp only[sound_holidays.l0]
  rw[if_pos (by omega),if_pos (by omega),if_pos (by omega),erd,e,hK k (by omega) s hs,ih k (i+1) (eB hd) (by omega) (by omega)]
  simp only[Option.bind_some,List.all_cons]
  cases holOk s.f0 s.f1 s.f2 s.f3 <;> simp
theorem hols_ev (xs:List HolT) (hn:xs.length≤9223372036854775806):Ev (fun k=>sound_holidays.f k xs) (holsOk xs):=by
 obtain⟨K,hK⟩:=ev_all (g:=fun k (x:HolT)=>holiday_Check.f k x.f0 x.f1 x.f2 x.f3) (fun x=>hol_ev x.f0 x.f1 x.f2 x.f3) xs
 refine Ev.of (k:=K+xs.length+1) (fun k=>sound_holidays.mono _ _) ?_
 unfold sound_holidays.f
 exact hols_loop xs hn K hK xs _ 0 rfl (by omega) (by omega)
theorem rhols_loop (xs:List HolT) (hn:xs.length≤9223372036854775806) (K:Nat) (hK : ∀ k,K≤k → ∀ x∈xs,pylonref05_Check.f k x.f0 x.f1 x.f2 x.f3=some (if holOk x.f0 x.f1 x.f2 x.f3=true then 0 else 8)) (r:List HolT) : ∀ (k i:Nat),xs.drop i=r → i≤xs.length → K+r.length < k → pylonref09_holidays.l0 k xs (xs.length:Int) (i:Int)=some (r.all (fun h=>holOk h.f0 h.f1 h.f2 h.f3) && decide (xs.length≤64)):=by
 induction r with
 |nil=>
  intro k i hd hi hk
  obtain⟨k,rfl⟩ : ∃ m,k=m+1:=⟨k - 1,by simp at hk;omega⟩
  have hl:=dW hd hi
  simp only[List.length_nil,Nat.add_zero] at hl
  simp only[pylonref09_holidays.l0]
  rw[if_neg (by omega)]
  simp only[List.all_nil,Bool.true_and,Option.some.injEq,decide_eq_decide]
  omega
 |cons s r ih=>
  intro k i hd hi hk
  obtain⟨k,rfl⟩ : ∃ m,k=m+1:=⟨k - 1,by simp at hk;omega⟩
  have hlt:=gz hd
  simp only[List.length_cons] at hk
  have hs:s∈xs:=List.mem_of_mem_drop (i:=i) (by rw[hd];exact List.mem_cons_self)
  have e:wrap64 ((i:Int)+1)=((i+1:Nat):Int):=by rw[w64 (by omega) (by omega)];omega
  have erd:bv xs (i:Int)=s:=rd_drop _ hd
  simp only[pylonref09_holidays.l0]
  rw[if_pos (by omega),if_pos (by omega),if_pos (by omega),erd,e,hK k (by omega) s hs,ih k (i+1) (eB hd) (by omega) (by omega)]
  simp only[Option.bind_some,List.all_cons]
  cases holOk s.f0 s.f1 s.f2 s.f3 <;> simp
theorem rhols_ev (xs:List HolT) (hn:xs.length≤9223372036854775806):Ev (fun k=>pylonref09_holidays.f k xs) (holsOk xs):=by
 obtain⟨K,hK⟩:=ev_all (g:=fun k (x:HolT)=>pylonref05_Check.f k x.f0 x.f1 x.f2 x.f3) (fun x=>rhol_ev x.f0 x.f1 x.f2 x.f3) xs
 refine Ev.of (k:=K+xs.length+1) (fun k=>pylonref09_holidays.mono _ _) ?_
 unfold pylonref09_holidays.f
 exact rhols_loop xs hn K hK xs _ 0 rfl (by omega) (by omega)
abbrev BlkT:=S48
def bnm (b:BlkT):List UInt8:=Bs b.f0
def blkGood (b:BlkT):Bool:=nameL (bnm b) && dA b.f1
def goOk:List BlkT → List (List UInt8) → Bool
 |[],_=>true
 |b :: t,ns=>!decide (bnm b∈ns) && blkGood b && goOk t (bnm b :: ns)
theorem goOk_congr (l:List BlkT) : ∀ (ns ns' : List (List UInt8)),(∀ x,x∈ns↔x∈ns') → goOk l ns=goOk l ns':=by
 induction l with
 |nil=>intro _ _ _;rfl
 |cons b t ih=>
  intro ns ns' h
  simp only[goOk]
  rw[ih (bnm b :: ns) (bnm b :: ns') (fun x=>by simp[h x])]
  have:decide (bnm b∈ns)=decide (bnm b∈ns'):=decide_eq_decide.2 (h _)
  rw[this]
theorem blk_go (l:List BlkT) (hb : ∀ b∈l,b.f0.size≤140737488355328) (K:Nat) (hK : ∀ k,K≤k → ∀ b∈l,sound_steps.f k b.f1=some (dA b.f1)) : ∀ (k:Nat) (ns:List (List UInt8)),K≤k → sound_blocks.go k l ns=some (goOk l ns):=by
 induction l with
 |nil=>intro k ns _;rfl
 |cons b t ih=>
  intro k ns hk
  have h0:=hb b List.mem_cons_self
  have hnm:bnm b=b.f0.data.toList:=rfl
  simp only[sound_blocks.go,goOk,blkGood]
  rw[if_pos h0,← hnm,name_at b.f0 (by omega),hK k hk b List.mem_cons_self,ih (fun x hx=>hb x (List.mem_cons_of_mem _ hx)) (fun k hk x hx=>hK k hk x (List.mem_cons_of_mem _ hx)) k _ hk]
  by_cases c:bnm b∈ns
  ·rw[if_pos c,decide_eq_true c];simp
  ·rw[if_neg c,decide_eq_false c]
   simp only[Option.bind_some]
   have:Bs b.f0=bnm b:=rfl
   rw[this]
   cases nameL (bnm b) <;> cases dA b.f1 <;> simp
def fD (l:List BlkT):Bool:=goOk l [] && lenOk l.length
theorem blocks_ev (l:List BlkT) (hl:l.length≤4398046511104) (hb : ∀ b∈l,b.f0.size≤140737488355328) (hs : ∀ b∈l,b.f1.length≤9223372036854775806):Ev (fun k=>sound_blocks.f k l) (fD l):=by
 have hall : ∃ K,∀ k,K≤k → ∀ b∈l,sound_steps.f k b.f1=some (dA b.f1):=by
  clear hl hb
  induction l with
  |nil=>exact⟨0,fun _ _ b hb=>by cases hb⟩
  |cons a l ih=>
   obtain⟨K1,h1⟩:=ih (fun b hb=>hs b (List.mem_cons_of_mem _ hb))
   obtain⟨K2,h2⟩:=steps_ev a.f1 (hs a List.mem_cons_self)
   refine⟨K1+K2,fun k hk x hx=>?_⟩
   rcases List.mem_cons.1 hx with rfl|hx
   ·exact h2 k (by omega)
   ·exact h1 k (by omega) x hx
 obtain⟨K,hK⟩:=hall
 refine⟨K,fun k hk=>?_⟩
 dsimp only
 unfold sound_blocks.f fD
 rw[if_pos hl,blk_go l hb K hK k [] hk,fC]
 simp only[Option.bind_some]
 cases goOk l [] <;> simp
theorem rblk_same (xs:List BlkT) (hn:xs.length≤1000000) (i:Nat) (hi:i < xs.length) (b:BlkT) (hbx:xs[i]? = some b) (v:Bool) : ∀ (d k j:Nat),i - j=d → j≤i → d < k → (∀ k',k≤k' + d+1 → pylonref09_blocks.l0 k' xs (xs.length:Int) ((i+1:Nat):Int)=some v) →
  pylonref09_blocks.l1 k xs (i:Int) (j:Int) (xs.length:Int) (i:Int)=some (!((((xs.take i).drop j).map bnm).contains (bnm b)) && v):=by
 intro d
 induction d with
 |zero=>
  intro k j hd hj hk h
  obtain⟨k,rfl⟩ : ∃ m,k=m+1:=⟨k - 1,by omega⟩
  have:j=i:=by omega
  subst this
  have e:wrap64 ((j:Int)+1)=((j+1:Nat):Int):=by rw[w64 (by omega) (by omega)];omega
  simp only[pylonref09_blocks.l1]
  rw[if_neg (by omega),e,h k (by omega)]
  simp
 |succ d ih=>
  intro k j hd hj hk h
  obtain⟨k,rfl⟩ : ∃ m,k=m+1:=⟨k - 1,by omega⟩
  have hlt:j < i:=by omega
  have e:wrap64 ((j:Int)+1)=((j+1:Nat):Int):=by rw[w64 (by omega) (by omega)];omega
  have erd:bH xs (i:Int)=b:=by
   unfold bH
   rw[Int.toNat_natCast,List.getD_eq_getElem?_getD,hbx];rfl
  have erj:bH xs (j:Int)=xs[j]:=by
   unfold bH
   rw[Int.toNat_natCast,List.getD_eq_getElem?_getD,List.getElem?_eq_getElem (by omega)];rfl
  have hdr:(xs.take i).drop j=xs[j] :: (xs.take i).drop (j+1):=by
   rw[List.drop_eq_getElem_cons (by simp;omega)]
   simp
  simp only[pylonref09_blocks.l1]
  rw[if_pos (by omega),if_pos (by omega),if_pos (by omega),if_pos (by omega),if_pos (by omega),erd,erj,e,ih k (j+1) (by omega) (by omega) (by omega) (fun k' hk'=>h k' (by omega)),hdr,cK,cK]
  simp only[List.map_cons,List.contains_cons]
  by_cases c:Bs xs[j].f0=Bs b.f0
  ·have c2:(bnm b == bnm xs[j])=true:=by simp[bnm,c]
   rw[if_pos c,c2];simp
  ·have c2:(bnm b == bnm xs[j])=false:=by simp[bnm];exact fun z=>c z.symm
   rw[if_neg c,c2,Bool.false_or]
theorem rblk_loop (xs:List BlkT) (hn:xs.length≤1000000) (K:Nat) (hK : ∀ k,K≤k → ∀ b∈xs,pylonref06_Name.f k b.f0=some (nameL (bnm b))∧pylonref17_Good.f k b.f1=some (dA b.f1)) (r:List BlkT) : ∀ (k i:Nat),xs.drop i=r → i≤xs.length → K+r.length * (xs.length+4) < k → pylonref09_blocks.l0 k xs (xs.length:Int) (i:Int)=some (goOk r ((xs.take i).map bnm) && lenOk xs.length):=by
 induction r with
 |nil=>
  intro k i hd hi hk
  obtain⟨k,rfl⟩ : ∃ m,k=m+1:=⟨k - 1,by simp at hk;omega⟩
  have hl:=dW hd hi
  simp only[List.length_nil,Nat.add_zero] at hl
  simp only[pylonref09_blocks.l0,goOk]
  rw[if_neg (by omega)]
  unfold lenOk
  by_cases c:(xs.length:Int)≥1
  ·rw[if_pos c,decide_eq_true (show 1≤xs.length by omega)]
   simp only[Bool.true_and,Option.some.injEq,decide_eq_decide]
   omega
  ·rw[if_neg c,decide_eq_false (show ¬ 1≤xs.length by omega)];simp
 |cons s r ih=>
  intro k i hd hi hk
  simp only[List.length_cons,Nat.add_mul,Nat.one_mul] at hk
  obtain⟨k,rfl⟩ : ∃ m,k=m+2:=⟨k - 2,by omega⟩
  have hlt:=gz hd
  have hs:s∈xs:=List.mem_of_mem_drop (i:=i) (by rw[hd];exact List.mem_cons_self)
  have hsi:xs[i]? = some s:=by
   have h1:(xs.drop i)[0]? = some s:=by rw[hd];rfl
   rwa [List.getElem?_drop,Nat.add_zero] at h1
  have erd:bH xs (i:Int)=s:=rd_drop _ hd
  obtain⟨h1,h2⟩:=hK (k+1) (by omega) s hs
  have hnx:=fun k' (hk' : K+r.length * (xs.length+4) < k')=>ih k' (i+1) (eB hd) (by omega) hk'
  have hl1:=rblk_same xs hn i hlt s hsi _ i k 0 (by omega) (by omega) (by omega) (fun k' hk'=>hnx k' (by omega))
  have htk : ∀ x,x∈(xs.take (i+1)).map bnm↔x∈bnm s :: (xs.take i).map bnm:=by
   intro x
   have:xs.take (i+1)=xs.take i ++ [s]:=by rw[List.take_add_one,hsi];rfl
   rw[this]
   simp[or_comm]
  simp only[pylonref09_blocks.l0,goOk,blkGood]
  rw[if_pos (by omega),if_pos (by omega),if_pos (by omega),erd,h1]
  simp only[Option.bind_some]
  have e0:((0:Nat):Int)=0:=rfl
  rw[e0,List.drop_zero,goOk_congr r _ _ htk] at hl1
  have hc:(((xs.take i).map bnm).contains (bnm s))=decide (bnm s∈(xs.take i).map bnm):=by rw[Bool.eq_iff_iff];simp
  rw[hc] at hl1
  cases hnl:nameL (bnm s) with
  |false=>simp[pylonref09_blocks.j1]
  |true=>
   rw[if_pos rfl,h2]
   simp only[Option.bind_some,pylonref09_blocks.j1]
   cases hg:dA s.f1 with
   |false=>simp
   |true=>simp only[Bool.not_true,Bool.false_eq_true,if_false];rw[hl1];simp[Bool.and_assoc]
theorem rblocks_ev (l:List BlkT) (hl:l.length≤1000000) (hb : ∀ b∈l,b.f0.size≤140737488355328):Ev (fun k=>pylonref09_blocks.f k l) (fD l):=by
 have hall : ∃ K,∀ k,K≤k → ∀ b∈l,pylonref06_Name.f k b.f0=some (nameL (bnm b))∧pylonref17_Good.f k b.f1=some (dA b.f1):=by
  clear hl
  induction l with
  |nil=>exact⟨0,fun _ _ b hb=>by cases hb⟩
  |cons a l ih=>
   obtain⟨K1,h1⟩:=ih (fun b hx=>hb b (List.mem_cons_of_mem _ hx))
   obtain⟨K2,h2⟩:=gy a.f0 (by have:=hb a List.mem_cons_self;omega)
   obtain⟨K3,h3⟩:=good_ev17 a.f1
   refine⟨K1+K2+K3,fun k hk x hx=>?_⟩
   rcases List.mem_cons.1 hx with rfl|hx
   ·exact⟨h2 k (by omega),h3 k (by omega)⟩
   ·exact h1 k (by omega) x hx
 obtain⟨K,hK⟩:=hall
 refine Ev.of (k:=K+l.length * (l.length+4)+1) (fun k=>pylonref09_blocks.mono _ _) ?_
 unfold pylonref09_blocks.f fD
 exact rblk_loop l hl K hK l _ 0 rfl (by omega) (by omega)
end Go.Proofs.YtcmhfcciapenfaaDoor.Pu
