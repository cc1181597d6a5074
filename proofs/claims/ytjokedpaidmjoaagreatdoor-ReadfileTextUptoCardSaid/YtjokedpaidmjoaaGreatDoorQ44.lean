/- A part of the proof. -/
import Derived.Test.YtjokedpaidmjoaaGreatDoorQ40
import Derived.Lib.ItoaMem
set_option linter.all false
namespace Go.Proofs.YtjokedpaidmjoaaGreatDoor.Rf
open Go Go.RowKit Go.Proofs.YtjokedpaidmjoaaGreatDoor.Am Go.Proofs.YtjokedpaidmjoaaGreatDoorW.PrintWords Go.Proofs.YtjokedpaidmjoaaGreatDoor.Pa Go.Proofs.YtjokedpaidmjoaaGreatDoor.Pu Go.Proofs.YtjokedpaidmjoaaGreatDoor
theorem val_snoc (m:Nat) (p:List UInt8) (c:UInt8):val m (p ++ [c])=val m p * 10+(c.toNat - 48):=by
 unfold val
 rw[List.foldl_append]
 rfl
theorem u8_of {c:UInt8} {n:Nat} (h:c.toNat=n):UInt8.ofNat n=c:=by
 subst h
 exact UInt8.ofNat_toNat
theorem dd_val : ∀ (n:Nat) (l:List UInt8),l.length=n → l≠[] → (∀ c∈l,48≤c.toNat∧c.toNat≤57) → (l.head? = some 48 → l = [48]) → Lib.decDigits (val 0 l)=l
 |0,l,hn,h0,_,_=>absurd (List.length_eq_zero_iff.1 hn) h0
 |n+1,l,hn,h0,hd,hh=>by
  obtain⟨p,c,rfl⟩ : ∃ p c,l=p ++ [c]:=⟨l.dropLast,l.getLast h0,(List.dropLast_concat_getLast h0).symm⟩
  have hc:=hd c (by simp)
  rw[val_snoc]
  by_cases hp:p = []
  ·subst hp
   rw[val_nil,Lib.decDigits,dif_pos (by omega)]
   rw[u8_of (c:=c) (by omega)]
   rfl
  ·have hpl:p.length=n:=by simpa using hn
   have hhp:p.head? = some 48 → False:=by
    intro h
    have h1:(p ++ [c]).head? = some 48:=by
     cases p with
     |nil=>exact absurd rfl hp
     |cons a r=>simpa using h
    have h2:=congrArg List.length (hh h1)
    have h3:0 < p.length:=List.length_pos_iff.2 hp
    rw[List.length_append] at h2
    have h4:([48] : List UInt8).length=1:=rfl
    have h5 : [c].length=1:=rfl
    omega
   have ih:=dd_val n p hpl hp (fun x hx=>hd x (by simp[hx])) (fun h=>absurd h hhp)
   have hv:1≤val 0 p:=by
    rcases Nat.eq_zero_or_pos (val 0 p) with h|h
    ·rw[h,Lib.decDigits,dif_pos (by omega)] at ih
     exact absurd (by rw[← ih];rfl) hhp
    ·exact h
   rw[Lib.decDigits,dif_neg (by omega),show(val 0 p * 10+(c.toNat - 48)) / 10=val 0 p by omega,ih,u8_of (c:=c) (by omega)]
theorem bt0 {d:ByteArray} {c:UInt8} {r:List UInt8} (h:Bs d=c :: r):bt d 0=48↔c=48:=by
 rw[fB h]
 constructor
 ·intro e
  exact UInt8.toNat_inj.1 (by rw[show(48:UInt8).toNat=48 from rfl];omega)
 ·rintro rfl
  rfl
theorem Bs_inj {a b:ByteArray} (h:Bs a=Bs b):a=b:=by
 have:=congrArg toB h
 rwa [toB_Bs,toB_Bs] at this
theorem uintB_val (l:List UInt8) (h0:l≠[]) (hd : ∀ c∈l,48≤c.toNat∧c.toNat≤57):Lib.parseUintB 64 l=if val 0 l≤18446744073709551615 then .ok (val 0 l) else .range:=by
 unfold Lib.parseUintB
 rw[if_neg h0]
 exact parse_val l 0 (by omega) hd
theorem read_txt {w:ByteArray} {n:Int} (h:fix_Read.f w=some (n,0)):w=txt n:=by
 unfold fix_Read.f at h
 split at h
 ·split at h
  ·rename_i hn
   obtain⟨h1,h2,h3⟩:=(eX w).1 hn
   split at h
   ·rename_i v hp
    cases h
    cases hw:Bs w with
    |nil=>
     have:=fJ hw
     rw[← ai,this] at h1
     exact absurd rfl h1
    |cons c r=>
     have hp:Lib.parseIntB 64 (c :: r) = .ok n:=by rw[← hw];exact hp
     have ht:=eY hw
     rw[← ai] at h1
     apply Bs_inj
     unfold txt
     rw[eD,hw]
     by_cases hc:c=45
     ·subst hc
      rw[if_pos rfl] at ht
      rw[ht] at h1 h3
      have hr:r≠[]:=fun e=>h1 (by rw[e];rfl)
      have hh:r.head? = some 48 → False:=by
       intro q
       cases r with
       |nil=>exact hr rfl
       |cons a r=>
        have q:=Option.some.inj q
        exact h2 ⟨(bt0 ht).2 q,by rw[hw];intro e;cases e⟩
      have hv:=dd_val _ r rfl hr h3 (fun q=>absurd q hh)
      have hp1:1≤val 0 r:=by
       rcases Nat.eq_zero_or_pos (val 0 r) with h|h
       ·rw[h,Lib.decDigits,dif_pos (by omega)] at hv
        exact absurd (by rw[← hv];rfl) hh
       ·exact h
      have hu:=uintB_val r hr h3
      unfold Lib.parseIntB at hp
      dsimp only at hp
      rw[if_pos (.inr rfl),hu] at hp
      split at hp
      ·cases hp
      ·cases hp
      ·rename_i u hu2
       split at hu2
       ·cases hu2
        split at hp
        ·cases hp
        ·split at hp
         ·cases hp
         ·rw[if_pos (show UInt8.toNat 45=45 from rfl)] at hp
          cases hp
          rw[Lib.itoa_neg _ hp1,hv]
       ·cases hu2
     ·rw[if_neg hc] at ht
      rw[ht] at h1 h3
      have hh:(c :: r).head? = some 48 → c :: r = [48]:=by
       intro q
       have q:=Option.some.inj q
       apply Decidable.byContradiction
       intro hne
       exact h2 ⟨(bt0 ht).2 q,by rw[hw];exact hne⟩
      have hv:=dd_val _ (c :: r) rfl (by simp) h3 hh
      have hu:=uintB_val (c :: r) (by simp) h3
      have hcd:=h3 c (by simp)
      unfold Lib.parseIntB at hp
      dsimp only at hp
      rw[if_neg (by omega),hu] at hp
      split at hp
      ·cases hp
      ·cases hp
      ·rename_i u hu2
       split at hu2
       ·cases hu2
        split at hp
        ·cases hp
        ·split at hp
         ·cases hp
         ·rw[if_neg (by omega)] at hp
          cases hp
          rw[Lib.itoa_nonneg,hv]
       ·cases hu2
   ·cases h
   ·cases h
  ·cases h
 ·cases h
theorem numP_txt {w:ByteArray} (hw:w.size≤1048576) {l m:Int} (h:(numP w l m).2=0):w=txt (numP w l m).1:=by
 unfold numP scan_Number.f at h ⊢
 obtain⟨n,e,hr,h1,h2⟩:=eZ w (by omega)
 rw[hr] at h ⊢
 simp only[Option.bind_some] at h ⊢
 split at h
 ·rename_i he
  subst he
  rw[if_pos rfl]
  split at h
  ·simp at h
  ·rename_i h3
   rw[if_neg h3]
   split at h
   ·simp at h
   ·rename_i h4
    rw[if_neg h4]
    exact read_txt hr
 ·rename_i he
  simp only[Option.getD_some] at h
  exact absurd h he
end Go.Proofs.YtjokedpaidmjoaaGreatDoor.Rf
set_option linter.all false
namespace Go.Proofs.YtjokedpaidmjoaaGreatDoor.Rf
open Go Go.RowKit Go.Proofs.YtjokedpaidmjoaaGreatDoor.Am Go.Proofs.YtjokedpaidmjoaaGreatDoorW.PrintWords Go.Proofs.YtjokedpaidmjoaaGreatDoor.Pa Go.Proofs.YtjokedpaidmjoaaGreatDoor.Pu Go.Proofs.YtjokedpaidmjoaaGreatDoor
def Wd (v:List UInt8):Prop:=v≠[]∧∀ c∈v,pr c=true
theorem WS_back {l:ByteArray} (h:(WS l).2.2=0):Bs l=jn ((WS l).1.map Bs):=by
 unfold WS at h ⊢
 cases hw:wd (Bs l) none 0 with
 |error c=>rw[hw] at h;simp[res] at h
 |ok vs=>
  obtain⟨h1,h2,h3⟩:=wd_join _ _ _ _ hw (by simp)
  simp only[res,List.nil_append]
  have e:(vs.map toB).map Bs=vs:=by
   rw[List.map_map,show(Bs ∘ toB)=id from funext eD,List.map_id]
  rw[e]
  exact h1
def flat (ls:List (List UInt8)):List UInt8:=(ls.map (· ++ [10])).flatten
theorem flat_cons (l:List UInt8) (ls:List (List UInt8)):flat (l :: ls)=l ++ 10 :: flat ls:=by simp[flat]
theorem flat_app (a b:List (List UInt8)):flat (a ++ b)=flat a ++ flat b:=by simp[flat]
theorem lf_back (l:List UInt8) : ∀ (cur:List UInt8) (ls:List (List UInt8)),lf l cur = .ok ls → cur ++ l=flat ls:=by
 induction l with
 |nil=>
  intro cur ls h
  cases cur with
  |nil=>simp[lf] at h;subst h;rfl
  |cons x y=>simp[lf] at h
 |cons c r ih=>
  intro cur ls h
  simp only[lf] at h
  split at h
  ·rename_i hc
   split at h
   ·rename_i vs e
    cases h
    have:=ih _ _ e
    rw[flat_cons,← this,hc]
    simp
   ·cases h
  ·have:=ih _ _ h
   rw[← this]
   simp
theorem ext_all (a:ByteArray):a.extract 0 a.size=a:=by
 apply Bs_inj
 rw[bH,List.drop_zero,Nat.sub_zero,← ai,List.take_length]
theorem linesOf_back {a:ByteArray} (hc:cutN a=a.size) (hs:a.size≤1048576):Bs a=flat ((bC a).map Bs):=by
 have hok:=cut_ok a hs
 unfold bC
 rw[hc,ext_all] at hok ⊢
 unfold LS at hok ⊢
 rw[if_neg (by omega)] at hok ⊢
 cases e:lf (Bs a) [] with
 |error n=>rw[e] at hok;simp[lres] at hok
 |ok ls=>
  have:=lf_back _ _ _ e
  rw[List.nil_append] at this
  simp only[lres,List.nil_append]
  rw[List.map_map,show(Bs ∘ toB)=id from funext eD,List.map_id]
  exact this
theorem Bs_app (a b:ByteArray):Bs (a ++ b)=Bs a ++ Bs b:=by
 show(a ++ b).data.toList=a.data.toList ++ b.data.toList
 rw[ByteArray.data_append,Array.toList_append]
theorem wordsB_Bs (ws:List ByteArray) : ∀ s:ByteArray,Bs (d9 s ws)=Bs s ++ jt (ws.map Bs):=by
 unfold d9
 induction ws with
 |nil=>intro s;simp[jt]
 |cons w r ih=>
  intro s
  rw[List.foldl_cons,ih,Bs_app,Bs_app,List.map_cons]
  show Bs s ++ (([32] : List UInt8) ++ Bs w) ++ jt (r.map Bs)=Bs s ++ 32 :: (Bs w ++ jt (r.map Bs))
  simp
theorem lineB_Bs (s first:ByteArray) (ws:List ByteArray):Bs (lineB s first ws)=Bs s ++ flat [jn (Bs first :: ws.map Bs)]:=by
 unfold lineB
 rw[Bs_app,wordsB_Bs,Bs_app]
 show Bs s ++ Bs first ++ jt (ws.map Bs) ++ ([10] : List UInt8)=Bs s ++ flat [Bs first ++ jt (ws.map Bs)]
 simp[flat]
def hWs (f:Fi):List ByteArray:=[dR,f.meter,txt f.start,txt f.step,txt f.slots,txt f.mult,txt f.turn]
def rWs (r:Rd):List ByteArray:=[bRead,txt r.slot,txt r.imp,txt r.exp,txt r.var,flT r.flag]
def eWs (f:Fi):List ByteArray:=[bEnd,txt f.reads.length,txt (sumR (sumL f.reads)).1]
def jnB (ws:List ByteArray):List UInt8:=jn (ws.map Bs)
theorem printRs_Bs (l:List Rd) : ∀ s,Bs (bS s l)=Bs s ++ flat (l.map fun r=>jnB (rWs r)):=by
 unfold bS
 induction l with
 |nil=>intro s;simp[flat]
 |cons r l ih=>
  intro s
  rw[List.foldl_cons,ih]
  unfold fu
  rw[lineB_Bs]
  show _=Bs s ++ flat ([jnB (rWs r)] ++ l.map fun r=>jnB (rWs r))
  rw[flat_app,← List.append_assoc]
  rfl
theorem printT_Bs (f:Fi):Bs (printT f)=flat (jnB (hWs f) :: (f.reads.map (fun r=>jnB (rWs r)) ++ [jnB (eWs f)])):=by
 unfold printT dN
 rw[lineB_Bs,printRs_Bs,lineB_Bs]
 rw[show(jnB (hWs f) :: (f.reads.map (fun r=>jnB (rWs r)) ++ [jnB (eWs f)])) = [jnB (hWs f)] ++ (f.reads.map (fun r=>jnB (rWs r)) ++ [jnB (eWs f)]) from rfl,flat_app,flat_app]
 show(([] : List UInt8) ++ _) ++ _ ++ _=_
 rw[List.nil_append,List.append_assoc]
 rfl
end Go.Proofs.YtjokedpaidmjoaaGreatDoor.Rf
