/- A part of the proof. -/
import Derived.Test.YtjokedpaidmjoaaGreatDoorQ39
import Derived.Lib.ItoaMem
set_option linter.all false
namespace Go.Proofs.YtjokedpaidmjoaaGreatDoor.Rf
open Go Go.RowKit Go.Proofs.YtjokedpaidmjoaaGreatDoor.Am Go.Proofs.YtjokedpaidmjoaaGreatDoorW.PrintWords Go.Proofs.YtjokedpaidmjoaaGreatDoor.Pa Go.Proofs.YtjokedpaidmjoaaGreatDoor.Pu Go.Proofs.YtjokedpaidmjoaaGreatDoor
theorem val_snoc (m:Nat) (p:List UInt8) (c:UInt8):val m (p ++ [c])=val m p * 10+(c.toNat - 48):=by
 unfold val
 rw[List.foldl_append]
 rfl
theorem u8_of {c:UInt8} {n:Nat} (h:c.toNat=n):UInt8.ofNat n=c:=by
 subst h
 exact UInt8.ofNat_toNat
theorem dd_val : ∀ (n:Nat) (l:List UInt8),l.length=n → l≠[] → (∀ c∈l,48≤c.toNat∧c.toNat≤57) → (l.head? = some 48 → l = [48]) → Lib.decDigits (val 0 l)=l
 |0,l,hn,h0,_,_=>absurd (List.length_eq_zero_iff.1 hn) h0
 |n+1,l,hn,h0,hd,hh=>by
  obtain⟨p,c,rfl⟩ : ∃ p c,l=p ++ [c]:=⟨l.dropLast,l.getLast h0,(List.dropLast_concat_getLast h0).symm⟩
  have hc:=hd c (by simp)
  rw[val_snoc]
  by_cases hp:p = []
  ·subst hp
   rw[val_nil,Lib.decDigits,dif_pos (by omega)]
   rw[u8_of (c:=c) (by omega)]
   rfl
  ·have hpl:p.length=n:=by simpa using hn
   have hhp:p.head? = some 48 → False:=by
    intro h
    have h1:(p ++ [c]).head? = some 48:=by
     cases p with
     |nil=>exact absurd rfl hp
     |cons a r=>simpa using h
    have h2:=congrArg List.length (hh h1)
    have h3:0 < p.length:=List.length_pos_iff.2 hp
    rw[List.length_append] at h2
    have h4:([48] : List UInt8).length=1:=rfl
    have h5 : [c].length=1:=rfl
    omega
   have ih:=dd_val n p hpl hp (fun x hx=>hd x (by simp[hx])) (fun h=>absurd h hhp)
   have hv:1≤val 0 p:=by
    rcases Nat.eq_zero_or_pos (val 0 p) with h|h
    ·rw[h,Lib.decDigits,dif_pos (by omega)] at ih
     exact absurd (by rw[← ih];rfl) hhp
    ·exact h
   rw[Lib.decDigits,dif_neg (by omega),show(val 0 p * 10+(c.toNat - 48)) / 10=val 0 p by omega,ih,u8_of (c:=c) (by omega)]
theorem dd_ok (u:Nat):Lib.decDigits u≠[]∧(∀ c∈Lib.decDigits u,48≤c.toNat∧c.toNat≤57)∧val 0 (Lib.decDigits u)=u∧((Lib.decDigits u).head? = some 48 → u=0):=by
 induction u using Nat.strongRecOn with
 |_ u ih=>
  have ht : ∀ d,d < 10 → (UInt8.ofNat (48+d)).toNat=48+d:=fun d hd=>by
   rw[UInt8.toNat_ofNat']
   omega
  by_cases h:u < 10
  ·rw[Lib.decDigits,dif_pos h]
   have:=ht u h
   refine⟨by simp,fun c hc=>?_,?_,fun q=>?_⟩
   ·obtain rfl:=List.mem_singleton.1 hc
    omega
   ·rw[gp,val_nil]
    omega
   ·have q2:=Option.some.inj q
    rw[q2] at this
    have:(48:UInt8).toNat=48:=rfl
    omega
  ·rw[Lib.decDigits,dif_neg h]
   obtain⟨i1,i2,i3,i4⟩:=ih (u / 10) (by omega)
   have:=ht (u % 10) (by omega)
   refine⟨by simp,fun c hc=>?_,?_,fun q=>?_⟩
   ·rcases List.mem_append.1 hc with hc|hc
    ·exact i2 c hc
    ·obtain rfl:=List.mem_singleton.1 hc
     omega
   ·rw[val_snoc,i3]
    omega
   ·have:(Lib.decDigits (u / 10)).head? = some 48:=by
     cases hd:Lib.decDigits (u / 10) with
     |nil=>exact absurd hd i1
     |cons a r=>rw[hd] at q;simpa using q
    have:=i4 this
    omega
theorem bt0 {d:ByteArray} {c:UInt8} {r:List UInt8} (h:Bs d=c :: r):bt d 0=48↔c=48:=by
 rw[fK h]
 constructor
 ·intro e
  exact UInt8.toNat_inj.1 (by rw[show(48:UInt8).toNat=48 from rfl];omega)
 ·rintro rfl
  rfl
theorem Bs_inj {a b:ByteArray} (h:Bs a=Bs b):a=b:=by
 have:=congrArg toB h
 rwa [toB_Bs,toB_Bs] at this
theorem fH (l:List UInt8) (h0:l≠[]) (hd : ∀ c∈l,48≤c.toNat∧c.toNat≤57):Lib.parseUintB 64 l=if val 0 l≤18446744073709551615 then .ok (val 0 l) else .range:=by
 unfold Lib.parseUintB
 rw[if_neg h0]
 exact parse_val l 0 (by omega) hd
theorem read_txt {w:ByteArray} {n:Int} (h:fix_Read.f w=some (n,0)):w=txt n:=by
 unfold fix_Read.f at h
 split at h
 ·split at h
  ·rename_i hn
   obtain⟨h1,h2,h3⟩:=(dC w).1 hn
   split at h
   ·rename_i v hp
    cases h
    cases hw:Bs w with
    |nil=>
     have:=gm hw
     rw[← ai,this] at h1
     exact absurd rfl h1
    |cons c r=>
     have hp:Lib.parseIntB 64 (c :: r) = .ok n:=by rw[← hw];exact hp
     have ht:=dD hw
     rw[← ai] at h1
     apply Bs_inj
     unfold txt
     rw[cO,hw]
     by_cases hc:c=45
     ·subst hc
      rw[if_pos rfl] at ht
      rw[ht] at h1 h3
      have hr:r≠[]:=fun e=>h1 (by rw[e];rfl)
      have hh:r.head? = some 48 → False:=by
       intro q
       cases r with
       |nil=>exact hr rfl
       |cons a r=>
        have q:=Option.some.inj q
        exact h2 ⟨(bt0 ht).2 q,by rw[hw];intro e;cases e⟩
      have hv:=dd_val _ r rfl hr h3 (fun q=>absurd q hh)
      have hp1:1≤val 0 r:=by
       rcases Nat.eq_zero_or_pos (val 0 r) with h|h
       ·rw[h,Lib.decDigits,dif_pos (by omega)] at hv
        exact absurd (by rw[← hv];rfl) hh
       ·exact h
      have hu:=fH r hr h3
      unfold Lib.parseIntB at hp
      dsimp only at hp
      rw[if_pos (.inr rfl),hu] at hp
      split at hp
      ·cases hp
      ·cases hp
      ·rename_i u hu2
       split at hu2
       ·cases hu2
        split at hp
        ·cases hp
        ·split at hp
         ·cases hp
         ·rw[if_pos (show UInt8.toNat 45=45 from rfl)] at hp
          cases hp
          rw[Lib.itoa_neg _ hp1,hv]
       ·cases hu2
     ·rw[if_neg hc] at ht
      rw[ht] at h1 h3
      have hh:(c :: r).head? = some 48 → c :: r = [48]:=by
       intro q
       have q:=Option.some.inj q
       apply Decidable.byContradiction
       intro hne
       exact h2 ⟨(bt0 ht).2 q,by rw[hw];exact hne⟩
      have hv:=dd_val _ (c :: r) rfl (by simp) h3 hh
      have hu:=fH (c :: r) (by simp) h3
      have hcd:=h3 c (by simp)
      unfold Lib.parseIntB at hp
      dsimp only at hp
      rw[if_neg (by omega),hu] at hp
      split at hp
      ·cases hp
      ·cases hp
      ·rename_i u hu2
       split at hu2
       ·cases hu2
        split at hp
        ·cases hp
        ·split at hp
         ·cases hp
         ·rw[if_neg (by omega)] at hp
          cases hp
          rw[Lib.itoa_nonneg,hv]
       ·cases hu2
   ·cases h
   ·cases h
  ·cases h
 ·cases h
theorem dd_head {u:Nat} {c:UInt8} {r:List UInt8} (h:Lib.decDigits u=c :: r):c=48 → u=0:=fun e=>(dd_ok u).2.2.2 (by rw[h,e];rfl)
theorem read_of {n:Int} (hi:in64 n):fix_Read.f (txt n)=some (n,0):=by
 have hs:=bH hi
 unfold in64 at hi
 by_cases hn:n < 0
 ·obtain⟨u,rfl,hu⟩ : ∃ u:Nat,n = -(u:Int)∧1≤u:=⟨n.natAbs,by omega,by omega⟩
  have hb:Bs (txt (-(u:Int)))=45 :: Lib.decDigits u:=by unfold txt;rw[cO,Lib.itoa_neg u hu]
  have ht:=dD hb
  rw[if_pos rfl] at ht
  obtain⟨d1,d2,d3,d4⟩:=dd_ok u
  have hnum:fix_Read.isNum (txt (-(u:Int)))=true:=by
   refine(dC _).2 ⟨?_,?_,by rw[ht];exact d2⟩
   ·rw[← ai,ht]
    exact fun e=>d1 (List.length_eq_zero_iff.1 e)
   ·rintro⟨q,_⟩
    cases hd:Lib.decDigits u with
    |nil=>exact d1 hd
    |cons c r=>
     rw[hd] at ht
     have:=dd_head hd ((bt0 ht).1 q)
     omega
  refine fix_Read.is_ok _ (by omega) hnum ?_
  show Lib.parseIntB 64 (Bs (txt (-(u:Int))))=_
  rw[hb]
  unfold Lib.parseIntB
  dsimp only
  rw[if_pos (.inr rfl),fH _ d1 d2,d3,if_pos (by omega)]
  dsimp only
  rw[if_neg (fun q=>q.1 rfl),if_neg (fun q=>by have:=q.2;omega),if_pos (show UInt8.toNat 45=45 from rfl)]
 ·obtain⟨u,rfl⟩ : ∃ u:Nat,n=(u:Int):=⟨n.toNat,by omega⟩
  have hb:Bs (txt (u:Int))=Lib.decDigits u:=by unfold txt;rw[cO,Lib.itoa_nonneg u]
  obtain⟨d1,d2,d3,d4⟩:=dd_ok u
  cases hd:Lib.decDigits u with
  |nil=>exact absurd hd d1
  |cons c r=>
   rw[hd] at hb d2 d3
   have hc:=d2 c (by simp)
   have ht:=dD hb
   rw[if_neg (fun e=>by rw[e] at hc;exact absurd hc.1 (by decide))] at ht
   have hnum:fix_Read.isNum (txt (u:Int))=true:=by
    refine(dC _).2 ⟨?_,?_,by rw[ht];exact d2⟩
    ·rw[← ai,ht]
     simp
    ·rintro⟨q,q2⟩
     have:=dd_head hd ((bt0 ht).1 q)
     subst this
     apply q2
     rw[hb,← hd,Lib.decDigits,dif_pos (by omega)]
     rfl
   refine fix_Read.is_ok _ (by omega) hnum ?_
   show Lib.parseIntB 64 (Bs (txt (u:Int)))=_
   rw[hb]
   unfold Lib.parseIntB
   dsimp only
   rw[if_neg (by omega),fH _ (by simp) d2,d3,if_pos (by omega)]
   dsimp only
   rw[if_neg (fun q=>by have:=q.2;omega),if_neg (fun q=>by have:=q.1;omega),if_neg (by omega)]
theorem numP_of {n l m:Int} (hi:in64 n) (h1:l≤n) (h2:n≤m):numP (txt n) l m=(n,0):=by
 unfold numP scan_Number.f
 rw[read_of hi]
 simp only[Option.bind_some,if_pos]
 rw[if_neg (by omega),if_neg (by omega)]
 rfl
theorem numP_txt {w:ByteArray} (hw:w.size≤1048576) {l m:Int} (h:(numP w l m).2=0):w=txt (numP w l m).1:=by
 unfold numP scan_Number.f at h ⊢
 obtain⟨n,e,hr,h1,h2⟩:=fw w (by omega)
 rw[hr] at h ⊢
 simp only[Option.bind_some] at h ⊢
 split at h
 ·rename_i he
  subst he
  rw[if_pos rfl]
  split at h
  ·simp at h
  ·rename_i h3
   rw[if_neg h3]
   split at h
   ·simp at h
   ·rename_i h4
    rw[if_neg h4]
    exact read_txt hr
 ·rename_i he
  simp only[Option.getD_some] at h
  exact absurd h he
end Go.Proofs.YtjokedpaidmjoaaGreatDoor.Rf
set_option linter.all false
namespace Go.Proofs.YtjokedpaidmjoaaGreatDoor.Rf
open Go Go.RowKit Go.Proofs.YtjokedpaidmjoaaGreatDoor.Am Go.Proofs.YtjokedpaidmjoaaGreatDoorW.PrintWords Go.Proofs.YtjokedpaidmjoaaGreatDoor.Pa Go.Proofs.YtjokedpaidmjoaaGreatDoor.Pu Go.Proofs.YtjokedpaidmjoaaGreatDoor
def Wd (v:List UInt8):Prop:=v≠[]∧∀ c∈v,pr c=true
theorem wd_cur : ∀ (r:List (List UInt8)),(∀ v∈r,Wd v) → ∀ (w cur:List UInt8) (at_:Nat),(∀ c∈w,pr c=true) → wd (w ++ jt r) (some cur) at_ = .ok ((cur ++ w) :: r)
 |[],_,[],cur,at_,_=>by simp[jt,wd]
 |v :: r,hr,[],cur,at_,_=>by
  obtain⟨hv,hp⟩:=hr v (by simp)
  cases v with
  |nil=>exact absurd rfl hv
  |cons c v=>
   show wd (32 :: (c :: v ++ jt r)) (some cur) at_=_
   unfold wd
   rw[if_neg (by rw[pr_32];decide),if_pos rfl]
   have e:wd (c :: v ++ jt r) none (at_+1)=wd (v ++ jt r) (some [c]) (at_+1+1):=by
    show wd (c :: (v ++ jt r)) none (at_+1)=_
    conv=>lhs;unfold wd
    rw[if_pos (hp c (by simp))]
   rw[e,wd_cur r (fun x hx=>hr x (by simp[hx])) v [c] _ (fun x hx=>hp x (by simp[hx]))]
   simp
 |r,hr,c :: w,cur,at_,hw=>by
  show wd (c :: (w ++ jt r)) (some cur) at_=_
  conv=>lhs;unfold wd
  rw[if_pos (hw c (by simp)),wd_cur r hr w (cur ++ [c]) _ (fun x hx=>hw x (by simp[hx]))]
  simp
  termination_by r _ w=>(r.length,w.length)
theorem wd_jn {vs:List (List UInt8)} (h0:vs≠[]) (h : ∀ v∈vs,Wd v):wd (jn vs) none 0 = .ok vs:=by
 cases vs with
 |nil=>exact absurd rfl h0
 |cons v r=>
  obtain⟨hv,hp⟩:=h v (by simp)
  cases v with
  |nil=>exact absurd rfl hv
  |cons c v=>
   show wd (c :: (v ++ jt r)) none 0=_
   conv=>lhs;unfold wd
   rw[if_pos (hp c (by simp)),wd_cur r (fun x hx=>h x (by simp[hx])) v [c] _ (fun x hx=>hp x (by simp[hx]))]
   rfl
theorem WS_jn {vs:List (List UInt8)} (h0:vs≠[]) (h : ∀ v∈vs,Wd v):WS (toB (jn vs))=(vs.map toB,0,0):=by
 unfold WS
 rw[cO,wd_jn h0 h]
 simp[res]
theorem WS_back {l:ByteArray} (h:(WS l).2.2=0):Bs l=jn ((WS l).1.map Bs):=by
 unfold WS at h ⊢
 cases hw:wd (Bs l) none 0 with
 |error c=>rw[hw] at h;simp[res] at h
 |ok vs=>
  obtain⟨h1,h2,h3⟩:=wd_join _ _ _ _ hw (by simp)
  simp only[res,List.nil_append]
  have e:(vs.map toB).map Bs=vs:=by
   rw[List.map_map,show(Bs ∘ toB)=id from funext cO,List.map_id]
  rw[e]
  exact h1
def flat (ls:List (List UInt8)):List UInt8:=(ls.map (· ++ [10])).flatten
theorem flat_cons (l:List UInt8) (ls:List (List UInt8)):flat (l :: ls)=l ++ 10 :: flat ls:=by simp[flat]
theorem gq (a b:List (List UInt8)):flat (a ++ b)=flat a ++ flat b:=by simp[flat]
theorem lf_flat : ∀ (ls:List (List UInt8)),(∀ l∈ls,(10:UInt8) ∉ l) → lf (flat ls) [] = .ok ls
 |[],_=>rfl
 |l :: ls,h=>by
  rw[flat_cons,lf_some _ _ _ (h l (by simp)),lf_flat ls (fun x hx=>h x (by simp[hx]))]
  simp
theorem lf_back (l:List UInt8) : ∀ (cur:List UInt8) (ls:List (List UInt8)),lf l cur = .ok ls → cur ++ l=flat ls:=by
 induction l with
 |nil=>
  intro cur ls h
  cases cur with
  |nil=>simp[lf] at h;subst h;rfl
  |cons x y=>simp[lf] at h
 |cons c r ih=>
  intro cur ls h
  simp only[lf] at h
  split at h
  ·rename_i hc
   split at h
   ·rename_i vs e
    cases h
    have:=ih _ _ e
    rw[flat_cons,← this,hc]
    simp
   ·cases h
  ·have:=ih _ _ h
   rw[← this]
   simp
theorem ext_all (a:ByteArray):a.extract 0 a.size=a:=by
 apply Bs_inj
 rw[bT,List.drop_zero,Nat.sub_zero,← ai,List.take_length]
theorem cutN_all {a:ByteArray} (h:(Bs a).getLast? = some 10):cutN a=a.size:=by
 have hl:=ai a
 rw[List.getLast?_eq_getElem?,hl] at h
 have hp:0 < a.size:=by
  rcases Nat.eq_zero_or_pos a.size with h0|h0
  ·rw[h0] at h
   have:Bs a = []:=List.length_eq_zero_iff.1 (by omega)
   rw[this] at h
   cases h
  ·exact h0
 unfold cutN
 rcases fD a with ⟨h1,h2⟩|⟨i,h1,h2,h3,h4⟩
 ·exact absurd h (h2 _ (by omega))
 ·rw[h2]
  rcases Nat.lt_or_ge i (a.size - 1) with q|q
  ·exact absurd h (h4 _ q (by omega))
  ·omega
theorem linesOf_flat {a:ByteArray} {ls:List (List UInt8)} (h:Bs a=flat ls) (h0:ls≠[]) (hn : ∀ l∈ls,(10:UInt8) ∉ l) (hs:a.size≤1048576):cutN a=a.size∧bD a=ls.map toB:=by
 have hg:(Bs a).getLast? = some 10:=by
  rw[h,← List.dropLast_concat_getLast h0,gq]
  simp[flat]
 have hc:=cutN_all hg
 refine⟨hc,?_⟩
 unfold bD LS
 rw[hc,ext_all,if_neg (by omega),h,lf_flat ls hn]
 simp[lres]
theorem linesOf_back {a:ByteArray} (hc:cutN a=a.size) (hs:a.size≤1048576):Bs a=flat ((bD a).map Bs):=by
 have hok:=cut_ok a hs
 unfold bD
 rw[hc,ext_all] at hok ⊢
 unfold LS at hok ⊢
 rw[if_neg (by omega)] at hok ⊢
 cases e:lf (Bs a) [] with
 |error n=>rw[e] at hok;simp[lres] at hok
 |ok ls=>
  have:=lf_back _ _ _ e
  rw[List.nil_append] at this
  simp only[lres,List.nil_append]
  rw[List.map_map,show(Bs ∘ toB)=id from funext cO,List.map_id]
  exact this
theorem Bs_app (a b:ByteArray):Bs (a ++ b)=Bs a ++ Bs b:=by
 show(a ++ b).data.toList=a.data.toList ++ b.data.toList
 rw[ByteArray.data_append,Array.toList_append]
theorem wordsB_Bs (ws:List ByteArray) : ∀ s:ByteArray,Bs (eP s ws)=Bs s ++ jt (ws.map Bs):=by
 unfold eP
 induction ws with
 |nil=>intro s;simp[jt]
 |cons w r ih=>
  intro s
  rw[List.foldl_cons,ih,Bs_app,Bs_app,List.map_cons]
  show Bs s ++ (([32] : List UInt8) ++ Bs w) ++ jt (r.map Bs)=Bs s ++ 32 :: (Bs w ++ jt (r.map Bs))
  simp
theorem lineB_Bs (s first:ByteArray) (ws:List ByteArray):Bs (lineB s first ws)=Bs s ++ flat [jn (Bs first :: ws.map Bs)]:=by
 unfold lineB
 rw[Bs_app,wordsB_Bs,Bs_app]
 show Bs s ++ Bs first ++ jt (ws.map Bs) ++ ([10] : List UInt8)=Bs s ++ flat [Bs first ++ jt (ws.map Bs)]
 simp[flat]
def hWs (f:Fi):List ByteArray:=[d9,f.meter,txt f.start,txt f.step,txt f.slots,txt f.mult,txt f.turn]
def rWs (r:Rd):List ByteArray:=[bRead,txt r.slot,txt r.imp,txt r.exp,txt r.var,flT r.flag]
def eWs (f:Fi):List ByteArray:=[bEnd,txt f.reads.length,txt (sumR (sumL f.reads)).1]
def jnB (ws:List ByteArray):List UInt8:=jn (ws.map Bs)
theorem printRs_Bs (l:List Rd) : ∀ s,Bs (bS s l)=Bs s ++ flat (l.map fun r=>jnB (rWs r)):=by
 unfold bS
 induction l with
 |nil=>intro s;simp[flat]
 |cons r l ih=>
  intro s
  rw[List.foldl_cons,ih]
  unfold fE
  rw[lineB_Bs]
  show _=Bs s ++ flat ([jnB (rWs r)] ++ l.map fun r=>jnB (rWs r))
  rw[gq,← List.append_assoc]
  rfl
theorem printT_Bs (f:Fi):Bs (bN f)=flat (jnB (hWs f) :: (f.reads.map (fun r=>jnB (rWs r)) ++ [jnB (eWs f)])):=by
 unfold bN dW
 rw[lineB_Bs,printRs_Bs,lineB_Bs]
 rw[show(jnB (hWs f) :: (f.reads.map (fun r=>jnB (rWs r)) ++ [jnB (eWs f)])) = [jnB (hWs f)] ++ (f.reads.map (fun r=>jnB (rWs r)) ++ [jnB (eWs f)]) from rfl,gq,gq]
 show(([] : List UInt8) ++ _) ++ _ ++ _=_
 rw[List.nil_append,List.append_assoc]
 rfl
end Go.Proofs.YtjokedpaidmjoaaGreatDoor.Rf
