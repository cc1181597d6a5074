/- A part of the proof. -/
import Derived.Test.YtjokedpaidmjoaaGreatDoorQ41
import Derived.Lib.ItoaMem
set_option linter.all false
namespace Go.Proofs.YtjokedpaidmjoaaGreatDoor.Rf
open Go Go.RowKit Go.Proofs.YtjokedpaidmjoaaGreatDoor.Am Go.Proofs.YtjokedpaidmjoaaGreatDoorW.PrintWords Go.Proofs.YtjokedpaidmjoaaGreatDoor.Pa Go.Proofs.YtjokedpaidmjoaaGreatDoor.Pu Go.Proofs.YtjokedpaidmjoaaGreatDoor
theorem val_snoc (m:Nat) (p:List UInt8) (c:UInt8):val m (p ++ [c])=val m p * 10+(c.toNat - 48):=by
 unfold val
 rw[List.foldl_append]
 rfl
theorem dd_ok (u:Nat):Lib.decDigits u≠[]∧(∀ c∈Lib.decDigits u,48≤c.toNat∧c.toNat≤57)∧val 0 (Lib.decDigits u)=u∧((Lib.decDigits u).head? = some 48 → u=0):=by
 induction u using Nat.strongRecOn with
 |_ u ih=>
  have ht : ∀ d,d < 10 → (UInt8.ofNat (48+d)).toNat=48+d:=fun d hd=>by
   rw[UInt8.toNat_ofNat']
   omega
  by_cases h:u < 10
  ·rw[Lib.decDigits,dif_pos h]
   have:=ht u h
   refine⟨by simp,fun c hc=>?_,?_,fun q=>?_⟩
   ·obtain rfl:=List.mem_singleton.1 hc
    omega
   ·rw[fK,val_nil]
    omega
   ·have q2:=Option.some.inj q
    rw[q2] at this
    have:(48:UInt8).toNat=48:=rfl
    omega
  ·rw[Lib.decDigits,dif_neg h]
   obtain⟨i1,i2,i3,i4⟩:=ih (u / 10) (by omega)
   have:=ht (u % 10) (by omega)
   refine⟨by simp,fun c hc=>?_,?_,fun q=>?_⟩
   ·rcases List.mem_append.1 hc with hc|hc
    ·exact i2 c hc
    ·obtain rfl:=List.mem_singleton.1 hc
     omega
   ·rw[val_snoc,i3]
    omega
   ·have:(Lib.decDigits (u / 10)).head? = some 48:=by
     cases hd:Lib.decDigits (u / 10) with
     |nil=>exact absurd hd i1
     |cons a r=>rw[hd] at q;simpa using q
    have:=i4 this
    omega
theorem bt0 {d:ByteArray} {c:UInt8} {r:List UInt8} (h:Bs d=c :: r):bt d 0=48↔c=48:=by
 rw[fA h]
 constructor
 ·intro e
  exact UInt8.toNat_inj.1 (by rw[show(48:UInt8).toNat=48 from rfl];omega)
 ·rintro rfl
  rfl
theorem Bs_inj {a b:ByteArray} (h:Bs a=Bs b):a=b:=by
 have:=congrArg toB h
 rwa [toB_Bs,toB_Bs] at this
theorem uintB_val (l:List UInt8) (h0:l≠[]) (hd : ∀ c∈l,48≤c.toNat∧c.toNat≤57):Lib.parseUintB 64 l=if val 0 l≤18446744073709551615 then .ok (val 0 l) else .range:=by
 unfold Lib.parseUintB
 rw[if_neg h0]
 exact parse_val l 0 (by omega) hd
theorem dd_head {u:Nat} {c:UInt8} {r:List UInt8} (h:Lib.decDigits u=c :: r):c=48 → u=0:=fun e=>(dd_ok u).2.2.2 (by rw[h,e];rfl)
theorem read_of {n:Int} (hi:in64 n):fix_Read.f (txt n)=some (n,0):=by
 have hs:=bH hi
 unfold in64 at hi
 by_cases hn:n < 0
 ·obtain⟨u,rfl,hu⟩ : ∃ u:Nat,n = -(u:Int)∧1≤u:=⟨n.natAbs,by omega,by omega⟩
  have hb:Bs (txt (-(u:Int)))=45 :: Lib.decDigits u:=by unfold txt;rw[dU,Lib.itoa_neg u hu]
  have ht:=dO hb
  rw[if_pos rfl] at ht
  obtain⟨d1,d2,d3,d4⟩:=dd_ok u
  have hnum:fix_Read.isNum (txt (-(u:Int)))=true:=by
   refine(dN _).2 ⟨?_,?_,by rw[ht];exact d2⟩
   ·rw[← ai,ht]
    exact fun e=>d1 (List.length_eq_zero_iff.1 e)
   ·rintro⟨q,_⟩
    cases hd:Lib.decDigits u with
    |nil=>exact d1 hd
    |cons c r=>
     rw[hd] at ht
     have:=dd_head hd ((bt0 ht).1 q)
     omega
  refine fix_Read.is_ok _ (by omega) hnum ?_
  show Lib.parseIntB 64 (Bs (txt (-(u:Int))))=_
  rw[hb]
  unfold Lib.parseIntB
  dsimp only
  rw[if_pos (.inr rfl),uintB_val _ d1 d2,d3,if_pos (by omega)]
  dsimp only
  rw[if_neg (fun q=>q.1 rfl),if_neg (fun q=>by have:=q.2;omega),if_pos (show UInt8.toNat 45=45 from rfl)]
 ·obtain⟨u,rfl⟩ : ∃ u:Nat,n=(u:Int):=⟨n.toNat,by omega⟩
  have hb:Bs (txt (u:Int))=Lib.decDigits u:=by unfold txt;rw[dU,Lib.itoa_nonneg u]
  obtain⟨d1,d2,d3,d4⟩:=dd_ok u
  cases hd:Lib.decDigits u with
  |nil=>exact absurd hd d1
  |cons c r=>
   rw[hd] at hb d2 d3
   have hc:=d2 c (by simp)
   have ht:=dO hb
   rw[if_neg (fun e=>by rw[e] at hc;exact absurd hc.1 (by decide))] at ht
   have hnum:fix_Read.isNum (txt (u:Int))=true:=by
    refine(dN _).2 ⟨?_,?_,by rw[ht];exact d2⟩
    ·rw[← ai,ht]
     simp
    ·rintro⟨q,q2⟩
     have:=dd_head hd ((bt0 ht).1 q)
     subst this
     apply q2
     rw[hb,← hd,Lib.decDigits,dif_pos (by omega)]
     rfl
   refine fix_Read.is_ok _ (by omega) hnum ?_
   show Lib.parseIntB 64 (Bs (txt (u:Int)))=_
   rw[hb]
   unfold Lib.parseIntB
   dsimp only
   rw[if_neg (by omega),uintB_val _ (by simp) d2,d3,if_pos (by omega)]
   dsimp only
   rw[if_neg (fun q=>by have:=q.2;omega),if_neg (fun q=>by have:=q.1;omega),if_neg (by omega)]
theorem numP_of {n l m:Int} (hi:in64 n) (h1:l≤n) (h2:n≤m):numP (txt n) l m=(n,0):=by
 unfold numP scan_Number.f
 rw[read_of hi]
 simp only[Option.bind_some,if_pos]
 rw[if_neg (by omega),if_neg (by omega)]
 rfl
end Go.Proofs.YtjokedpaidmjoaaGreatDoor.Rf
set_option linter.all false
namespace Go.Proofs.YtjokedpaidmjoaaGreatDoor.Rf
open Go Go.RowKit Go.Proofs.YtjokedpaidmjoaaGreatDoor.Am Go.Proofs.YtjokedpaidmjoaaGreatDoorW.PrintWords Go.Proofs.YtjokedpaidmjoaaGreatDoor.Pa Go.Proofs.YtjokedpaidmjoaaGreatDoor.Pu Go.Proofs.YtjokedpaidmjoaaGreatDoor
def Wd (v:List UInt8):Prop:=v≠[]∧∀ c∈v,pr c=true
theorem wd_cur : ∀ (r:List (List UInt8)),(∀ v∈r,Wd v) → ∀ (w cur:List UInt8) (at_:Nat),(∀ c∈w,pr c=true) → wd (w ++ jt r) (some cur) at_ = .ok ((cur ++ w) :: r)
 |[],_,[],cur,at_,_=>by simp[jt,wd]
 |v :: r,hr,[],cur,at_,_=>by
  obtain⟨hv,hp⟩:=hr v (by simp)
  cases v with
  |nil=>exact absurd rfl hv
  |cons c v=>
   show wd (32 :: (c :: v ++ jt r)) (some cur) at_=_
   unfold wd
   rw[if_neg (by rw[pr_32];decide),if_pos rfl]
   have e:wd (c :: v ++ jt r) none (at_+1)=wd (v ++ jt r) (some [c]) (at_+1+1):=by
    show wd (c :: (v ++ jt r)) none (at_+1)=_
    conv=>lhs;unfold wd
    rw[if_pos (hp c (by simp))]
   rw[e,wd_cur r (fun x hx=>hr x (by simp[hx])) v [c] _ (fun x hx=>hp x (by simp[hx]))]
   simp
 |r,hr,c :: w,cur,at_,hw=>by
  show wd (c :: (w ++ jt r)) (some cur) at_=_
  conv=>lhs;unfold wd
  rw[if_pos (hw c (by simp)),wd_cur r hr w (cur ++ [c]) _ (fun x hx=>hw x (by simp[hx]))]
  simp
termination_by r _ w=>(r.length,w.length)
theorem wd_jn {vs:List (List UInt8)} (h0:vs≠[]) (h : ∀ v∈vs,Wd v):wd (jn vs) none 0 = .ok vs:=by
 cases vs with
 |nil=>exact absurd rfl h0
 |cons v r=>
  obtain⟨hv,hp⟩:=h v (by simp)
  cases v with
  |nil=>exact absurd rfl hv
  |cons c v=>
   show wd (c :: (v ++ jt r)) none 0=_
   conv=>lhs;unfold wd
   rw[if_pos (hp c (by simp)),wd_cur r (fun x hx=>h x (by simp[hx])) v [c] _ (fun x hx=>hp x (by simp[hx]))]
   rfl
theorem WS_jn {vs:List (List UInt8)} (h0:vs≠[]) (h : ∀ v∈vs,Wd v):WS (toB (jn vs))=(vs.map toB,0,0):=by
 unfold WS
 rw[dU,wd_jn h0 h]
 simp[res]
def flat (ls:List (List UInt8)):List UInt8:=(ls.map (· ++ [10])).flatten
theorem flat_cons (l:List UInt8) (ls:List (List UInt8)):flat (l :: ls)=l ++ 10 :: flat ls:=by simp[flat]
theorem fO (a b:List (List UInt8)):flat (a ++ b)=flat a ++ flat b:=by simp[flat]
theorem lf_flat : ∀ (ls:List (List UInt8)),(∀ l∈ls,(10:UInt8) ∉ l) → lf (flat ls) [] = .ok ls
 |[],_=>rfl
 |l :: ls,h=>by
  rw[flat_cons,lf_some _ _ _ (h l (by simp)),lf_flat ls (fun x hx=>h x (by simp[hx]))]
  simp
theorem ext_all (a:ByteArray):a.extract 0 a.size=a:=by
 apply Bs_inj
 rw[bS,List.drop_zero,Nat.sub_zero,← ai,List.take_length]
theorem cutN_all {a:ByteArray} (h:(Bs a).getLast? = some 10):cutN a=a.size:=by
 have hl:=ai a
 rw[List.getLast?_eq_getElem?,hl] at h
 have hp:0 < a.size:=by
  rcases Nat.eq_zero_or_pos a.size with h0|h0
  ·rw[h0] at h
   have:Bs a = []:=List.length_eq_zero_iff.1 (by omega)
   rw[this] at h
   cases h
  ·exact h0
 unfold cutN
 rcases eZ a with ⟨h1,h2⟩|⟨i,h1,h2,h3,h4⟩
 ·exact absurd h (h2 _ (by omega))
 ·rw[h2]
  rcases Nat.lt_or_ge i (a.size - 1) with q|q
  ·exact absurd h (h4 _ q (by omega))
  ·omega
theorem linesOf_flat {a:ByteArray} {ls:List (List UInt8)} (h:Bs a=flat ls) (h0:ls≠[]) (hn : ∀ l∈ls,(10:UInt8) ∉ l) (hs:a.size≤1048576):cutN a=a.size∧bO a=ls.map toB:=by
 have hg:(Bs a).getLast? = some 10:=by
  rw[h,← List.dropLast_concat_getLast h0,fO]
  simp[flat]
 have hc:=cutN_all hg
 refine⟨hc,?_⟩
 unfold bO LS
 rw[hc,ext_all,if_neg (by omega),h,lf_flat ls hn]
 simp[lres]
theorem Bs_app (a b:ByteArray):Bs (a ++ b)=Bs a ++ Bs b:=by
 show(a ++ b).data.toList=a.data.toList ++ b.data.toList
 rw[ByteArray.data_append,Array.toList_append]
theorem wordsB_Bs (ws:List ByteArray) : ∀ s:ByteArray,Bs (d9 s ws)=Bs s ++ jt (ws.map Bs):=by
 unfold d9
 induction ws with
 |nil=>intro s;simp[jt]
 |cons w r ih=>
  intro s
  rw[List.foldl_cons,ih,Bs_app,Bs_app,List.map_cons]
  show Bs s ++ (([32] : List UInt8) ++ Bs w) ++ jt (r.map Bs)=Bs s ++ 32 :: (Bs w ++ jt (r.map Bs))
  simp
theorem lineB_Bs (s first:ByteArray) (ws:List ByteArray):Bs (lineB s first ws)=Bs s ++ flat [jn (Bs first :: ws.map Bs)]:=by
 unfold lineB
 rw[Bs_app,wordsB_Bs,Bs_app]
 show Bs s ++ Bs first ++ jt (ws.map Bs) ++ ([10] : List UInt8)=Bs s ++ flat [Bs first ++ jt (ws.map Bs)]
 simp[flat]
def hWs (f:Fi):List ByteArray:=[fe,f.meter,txt f.start,txt f.step,txt f.slots,txt f.mult,txt f.turn]
def rWs (r:Rd):List ByteArray:=[bRead,txt r.slot,txt r.imp,txt r.exp,txt r.var,flT r.flag]
def eWs (f:Fi):List ByteArray:=[bEnd,txt f.reads.length,txt (sumR (sumL f.reads)).1]
def jnB (ws:List ByteArray):List UInt8:=jn (ws.map Bs)
theorem printRs_Bs (l:List Rd) : ∀ s,Bs (bQ s l)=Bs s ++ flat (l.map fun r=>jnB (rWs r)):=by
 unfold bQ
 induction l with
 |nil=>intro s;simp[flat]
 |cons r l ih=>
  intro s
  rw[List.foldl_cons,ih]
  unfold fo
  rw[lineB_Bs]
  show _=Bs s ++ flat ([jnB (rWs r)] ++ l.map fun r=>jnB (rWs r))
  rw[fO,← List.append_assoc]
  rfl
theorem printT_Bs (f:Fi):Bs (fq f)=flat (jnB (hWs f) :: (f.reads.map (fun r=>jnB (rWs r)) ++ [jnB (eWs f)])):=by
 unfold fq dM
 rw[lineB_Bs,printRs_Bs,lineB_Bs]
 rw[show(jnB (hWs f) :: (f.reads.map (fun r=>jnB (rWs r)) ++ [jnB (eWs f)])) = [jnB (hWs f)] ++ (f.reads.map (fun r=>jnB (rWs r)) ++ [jnB (eWs f)]) from rfl,fO,fO]
 show(([] : List UInt8) ++ _) ++ _ ++ _=_
 rw[List.nil_append,List.append_assoc]
 rfl
end Go.Proofs.YtjokedpaidmjoaaGreatDoor.Rf
