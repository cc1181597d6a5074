/- A part of the proof. -/
import Derived.Test.YtcmhfcciapenfaaDoorQ41
import Derived.Test.YtcmhfcciapenfaaDoorQ42
namespace Go.Proofs.YtcmhfcciapenfaaDoor.Pu
open Go.RowKit Go.Proofs.YtcmhfcciapenfaaDoorW.PrintWords Go.Proofs.YtcmhfcciapenfaaDoor.Pa
theorem ev_all {α β:Type} {g:Nat → α → Option β} {r:α → β} (h : ∀ x,Ev (fun k=>g k x) (r x)) (l:List α) : ∃ K,∀ k,K≤k → ∀ x∈l,g k x=some (r x):=by
 induction l with
 |nil=>exact⟨0,fun _ _ x hx=>by cases hx⟩
 |cons a l ih=>
  obtain⟨K1,h1⟩:=ih
  obtain⟨K2,h2⟩:=h a
  refine⟨K1+K2,fun k hk x hx=>?_⟩
  rcases List.mem_cons.1 hx with rfl|hx
  ·exact h2 k (by omega)
  ·exact h1 k (by omega) x hx
theorem rd_drop {α:Type} (z:α) {xs:List α} {i:Nat} {s:α} {r:List α} (h:xs.drop i=s :: r):xs.getD (i:Int).toNat z=s:=by
 have h1:(xs.drop i)[0]? = some s:=by rw[h];rfl
 rw[List.getElem?_drop,Nat.add_zero] at h1
 rw[Int.toNat_natCast,List.getD_eq_getElem?_getD,h1]
 rfl
abbrev HolT:=S43
def holsOk (l:List HolT):Bool:=l.all (fun h=>holOk h.f0 h.f1 h.f2 h.f3) && decide (l.length≤64)
theorem hols_loop (xs:List HolT) (hn:xs.length≤9223372036854775806) (K:Nat) (hK : ∀ k,K≤k → ∀ x∈xs,holiday_Check.f k x.f0 x.f1 x.f2 x.f3=some (if holOk x.f0 x.f1 x.f2 x.f3=true then 0 else 8)) (r:List HolT) : ∀ (k i:Nat),xs.drop i=r → i≤xs.length → K+r.length < k → sound_holidays.l0 k xs xs (xs.length:Int) (i:Int)=some (r.all (fun h=>holOk h.f0 h.f1 h.f2 h.f3) && decide (xs.length≤64)):=by
 induction r with
 |nil=>
  intro k i hd hi hk
  obtain⟨k,rfl⟩ : ∃ m,k=m+1:=⟨k - 1,by simp at hk;omega⟩
  have hl:=drop_len hd hi
  simp only[List.length_nil,Nat.add_zero] at hl
  simp only[sound_holidays.l0]
  rw[if_neg (by omega)]
  simp only[List.all_nil,Bool.true_and,Option.some.injEq,decide_eq_decide]
  omega
 |cons s r ih=>
  intro k i hd hi hk
  obtain⟨k,rfl⟩ : ∃ m,k=m+1:=⟨k - 1,by simp at hk;omega⟩
  have hlt:=drop_lt hd
  simp only[List.length_cons] at hk
  have hs:s∈xs:=List.mem_of_mem_drop (i:=i) (by rw[hd];exact List.mem_cons_self)
  have e:wrap64 ((i:Int)+1)=((i+1:Nat):Int):=by rw[w64 (by omega) (by omega)];omega
  have erd:aY xs (i:Int)=s:=rd_drop _ hd
  simp only[sound_holidays.l0]
  rw[if_pos (by omega),if_pos (by omega),if_pos (by omega),erd,e,hK k (by omega) s hs,ih k (i+1) (drop_succ hd) (by omega) (by omega)]
  simp only[Option.bind_some,List.all_cons]
  cases holOk s.f0 s.f1 s.f2 s.f3 <;> simp
theorem hols_ev (xs:List HolT) (hn:xs.length≤9223372036854775806):Ev (fun k=>sound_holidays.f k xs) (holsOk xs):=by
 obtain⟨K,hK⟩:=ev_all (g:=fun k (x:HolT)=>holiday_Check.f k x.f0 x.f1 x.f2 x.f3) (fun x=>hol_ev x.f0 x.f1 x.f2 x.f3) xs
 refine Ev.of (k:=K+xs.length+1) (fun k=>sound_holidays.mono _ _) ?_
 unfold sound_holidays.f
 exact hols_loop xs hn K hK xs _ 0 rfl (by omega) (by omega)
abbrev BlkT:=S48
def bnm (b:BlkT):List UInt8:=Bs b.f0
def blkGood (b:BlkT):Bool:=nameL (bnm b) && dK b.f1
def goOk:List BlkT → List (List UInt8) → Bool
 |[],_=>true
 |b :: t,ns=>!decide (bnm b∈ns) && blkGood b && goOk t (bnm b :: ns)
theorem blk_go (l:List BlkT) (hb : ∀ b∈l,b.f0.size≤140737488355328) (K:Nat) (hK : ∀ k,K≤k → ∀ b∈l,sound_steps.f k b.f1=some (dK b.f1)) : ∀ (k:Nat) (ns:List (List UInt8)),K≤k → sound_blocks.go k l ns=some (goOk l ns):=by
 induction l with
 |nil=>intro k ns _;rfl
 |cons b t ih=>
  intro k ns hk
  have h0:=hb b List.mem_cons_self
  have hnm:bnm b=b.f0.data.toList:=rfl
  simp only[sound_blocks.go,goOk,blkGood]
  rw[if_pos h0,← hnm,name_at b.f0 (by omega),hK k hk b List.mem_cons_self,ih (fun x hx=>hb x (List.mem_cons_of_mem _ hx)) (fun k hk x hx=>hK k hk x (List.mem_cons_of_mem _ hx)) k _ hk]
  by_cases c:bnm b∈ns
  ·rw[if_pos c,decide_eq_true c];simp
  ·rw[if_neg c,decide_eq_false c]
   simp only[Option.bind_some]
   have:Bs b.f0=bnm b:=rfl
   rw[this]
   cases nameL (bnm b) <;> cases dK b.f1 <;> simp
def blocksOk (l:List BlkT):Bool:=goOk l [] && lenOk l.length
theorem blocks_ev (l:List BlkT) (hl:l.length≤4398046511104) (hb : ∀ b∈l,b.f0.size≤140737488355328) (hs : ∀ b∈l,b.f1.length≤9223372036854775806):Ev (fun k=>sound_blocks.f k l) (blocksOk l):=by
 have hall : ∃ K,∀ k,K≤k → ∀ b∈l,sound_steps.f k b.f1=some (dK b.f1):=by
  clear hl hb
  induction l with
  |nil=>exact⟨0,fun _ _ b hb=>by cases hb⟩
  |cons a l ih=>
   obtain⟨K1,h1⟩:=ih (fun b hb=>hs b (List.mem_cons_of_mem _ hb))
   obtain⟨K2,h2⟩:=steps_ev a.f1 (hs a List.mem_cons_self)
   refine⟨K1+K2,fun k hk x hx=>?_⟩
   rcases List.mem_cons.1 hx with rfl|hx
   ·exact h2 k (by omega)
   ·exact h1 k (by omega) x hx
 obtain⟨K,hK⟩:=hall
 refine⟨K,fun k hk=>?_⟩
 dsimp only
 unfold sound_blocks.f blocksOk
 rw[if_pos hl,blk_go l hb K hK k [] hk,dM]
 simp only[Option.bind_some]
 cases goOk l [] <;> simp
end Go.Proofs.YtcmhfcciapenfaaDoor.Pu
