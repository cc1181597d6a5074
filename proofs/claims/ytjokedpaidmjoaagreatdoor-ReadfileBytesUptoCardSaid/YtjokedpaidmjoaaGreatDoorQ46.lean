/- A part of the proof. -/
import Derived.Test.YtjokedpaidmjoaaGreatDoorQ44
set_option linter.all false
namespace Go.Proofs.YtjokedpaidmjoaaGreatDoor.Rf
open Go Go.RowKit Go.Proofs.YtjokedpaidmjoaaGreatDoor.Am Go.Proofs.YtjokedpaidmjoaaGreatDoorW.PrintWords Go.Proofs.YtjokedpaidmjoaaGreatDoor.Pa Go.Proofs.YtjokedpaidmjoaaGreatDoor.Pu Go.Proofs.YtjokedpaidmjoaaGreatDoor
theorem dF {ws:List ByteArray} {k:Nat} {n:Nat} (hl:ws.length=n) (hk:k < n) : ¬ colP ws (k:Int)=0:=by
 have:=fC (ws:=ws) (k:=(k:Int)) (by omega) (by omega)
 omega
theorem bL {ws:List ByteArray} {k:Nat} {l m:Int} (hz:(wAt ws k).size≤1048576) (h : ¬ (rNum ws k l m).2=false):wAt ws k=txt (rNum ws k l m).1∧l≤(rNum ws k l m).1∧(rNum ws k l m).1≤m:=by
 have h0:(numP (wAt ws k) l m).2=0:=by
  unfold rNum at h
  simpa using h
 exact⟨numP_txt hz h0,numP_ok hz h0⟩
theorem wAt_size {ws:List ByteArray} (hz : ∀ w∈ws,w.size≤1048576) (k:Nat):(wAt ws k).size≤1048576:=by
 unfold wAt
 cases h:ws[k]? with
 |none=>exact Nat.zero_le _
 |some w=>exact hz w (List.mem_of_getElem? h)
theorem len3 {ws:List ByteArray} (h:ws.length=3):ws = [wAt ws 0,wAt ws 1,wAt ws 2]:=by
 match ws,h with
 |[a,b,c],_=>rfl
theorem len6 {ws:List ByteArray} (h:ws.length=6):ws = [wAt ws 0,wAt ws 1,wAt ws 2,wAt ws 3,wAt ws 4,wAt ws 5]:=by
 match ws,h with
 |[a,b,c,d,e,f],_=>rfl
theorem len7 {ws:List ByteArray} (h:ws.length=7):ws = [wAt ws 0,wAt ws 1,wAt ws 2,wAt ws 3,wAt ws 4,wAt ws 5,wAt ws 6]:=by
 match ws,h with
 |[a,b,c,d,e,f,g],_=>rfl
theorem word_is {ws:List ByteArray} {w:List UInt8} {n:Nat} (h:isV ws w n=true):Bs (wAt ws 0)=w:=by
 have:=isV_word h
 rw[av] at this
 exact this
theorem flag_back {w:ByteArray} (h:flagB w=true):(byteAt w 0=65∨byteAt w 0=69∨byteAt w 0=83)∧flT (byteAt w 0)=w:=by
 unfold flagB at h
 simp only[Bool.or_eq_true,beq_iff_eq] at h
 rcases h with (h|h)|h
 ·have:w=⟨#[65]⟩:=Bs_inj h
  rw[this]
  exact⟨.inl (by decide +kernel),by decide +kernel⟩
 ·have:w=⟨#[69]⟩:=Bs_inj h
  rw[this]
  exact⟨.inr (.inl (by decide +kernel)),by decide +kernel⟩
 ·have:w=⟨#[83]⟩:=Bs_inj h
  rw[this]
  exact⟨.inr (.inr (by decide +kernel)),by decide +kernel⟩
theorem read_again {ws:List ByteArray} {sl:Int} (hv:isV ws wRead 6=true) (hz : ∀ w∈ws,w.size≤1048576) (hs:1≤sl∧sl≤40000) (h:rrCol ws sl=0):RdOk sl (rrR ws sl)∧rWs (rrR ws sl)=ws:=by
 have hl:=cB hv
 have hw:IntKind.i64.wrap (sl - 1)=sl - 1:=aA (by omega) (by omega)
 have z:=wAt_size hz
 unfold rrCol at h
 split at h
 ·exact absurd h (dF hl (k:=1) (by omega))
 rename_i c1
 split at h
 ·exact absurd h (dF hl (k:=2) (by omega))
 rename_i c2
 split at h
 ·exact absurd h (dF hl (k:=3) (by omega))
 rename_i c3
 split at h
 ·exact absurd h (dF hl (k:=4) (by omega))
 rename_i c4
 split at h
 ·exact absurd h (dF hl (k:=5) (by omega))
 rename_i c5
 obtain⟨a1,b1,d1⟩:=bL (z 1) c1
 obtain⟨a2,b2,d2⟩:=bL (z 2) c2
 obtain⟨a3,b3,d3⟩:=bL (z 3) c3
 obtain⟨a4,b4,d4⟩:=bL (z 4) c4
 obtain⟨a5,b5⟩:=flag_back (w:=wAt ws 5) (by simpa using c5)
 have a0:wAt ws 0=bRead:=Bs_inj (word_is hv)
 have d1:=Int.le_trans d1 (Int.le_of_eq hw)
 refine⟨⟨⟨b1,by show(rNum ws 1 0 (IntKind.i64.wrap (sl - 1))).1 < sl;omega⟩,⟨b2,d2⟩,⟨b3,d3⟩,⟨b4,d4⟩,a5⟩,?_⟩
 refine Eq.trans ?_ (len6 hl).symm
 show[bRead,txt (rNum ws 1 0 (IntKind.i64.wrap (sl - 1))).1,txt (rNum ws 2 0 10000000).1,txt (rNum ws 3 0 10000000).1,txt (rNum ws 4 (-10000000) 10000000).1,flT (byteAt (wAt ws 5) 0)]=_
 rw[← a1,← a2,← a3,← a4,b5,← a0]
theorem end_again {ws:List ByteArray} {f:Fi} (hv:isV ws wEnd 3=true) (h:rtCol ws f=0):eWs f=ws:=by
 have hl:=cB hv
 unfold rtCol at h
 split at h
 ·exact absurd h (dF hl (k:=1) (by omega))
 rename_i c1
 split at h
 ·exact absurd h (dF hl (k:=2) (by omega))
 rename_i c2
 have a0:wAt ws 0=bEnd:=Bs_inj (word_is hv)
 have a1:wAt ws 1=txt f.reads.length:=by
  have:(wAt ws 1).toList=(txt f.reads.length).toList:=by simpa using c1
  rw[av,av] at this
  exact Bs_inj this
 have a2:wAt ws 2=txt (sumR (sumL f.reads)).1:=by
  have:(wAt ws 2).toList=(txt (sumR (sumL f.reads)).1).toList:=by
   simp at c2
   exact c2.2
  rw[av,av] at this
  exact Bs_inj this
 rw[len3 hl,a0,a1,a2]
 rfl
theorem hdr_again {ws:List ByteArray} (f:Fi) (hv:isV ws dV 7=true) (hz : ∀ w∈ws,w.size≤1048576) (h:rhCol ws=0):hdrOk (rhF ws f)=true∧hWs (rhF ws f)=ws∧1≤(rhF ws f).slots∧(rhF ws f).slots≤40000:=by
 have hl:=cB hv
 have z:=wAt_size hz
 unfold rhCol at h
 split at h
 ·exact absurd h (dF hl (k:=1) (by omega))
 rename_i c1
 split at h
 ·exact absurd h (dF hl (k:=2) (by omega))
 rename_i c2
 split at h
 ·exact absurd h (dF hl (k:=3) (by omega))
 rename_i c3
 split at h
 ·exact absurd h (dF hl (k:=4) (by omega))
 rename_i c4
 split at h
 ·exact absurd h (dF hl (k:=5) (by omega))
 rename_i c5
 split at h
 ·exact absurd h (dF hl (k:=6) (by omega))
 rename_i c6
 have c3' : rFine ws=true:=by simpa using c3
 unfold rC2 at c2
 rw[c3'] at c2
 simp at c2
 obtain⟨e2,et⟩:=c2
 unfold rC4 at c4
 simp at c4
 obtain⟨e4,ed⟩:=c4
 unfold rFine at c3'
 simp at c3'
 obtain⟨e3,es⟩:=c3'
 obtain⟨a2,b2,d2⟩:=bL (l:=0) (m:=253402300799) (z 2) (by rw[show rNum ws 2 0 253402300799=eQ ws from rfl,e2];simp)
 obtain⟨a3,b3,d3⟩:=bL (l:=15) (m:=60) (z 3) (by rw[show rNum ws 3 15 60=rStep ws from rfl,e3];simp)
 obtain⟨a4,b4,d4⟩:=bL (l:=1) (m:=40000) (z 4) (by rw[show rNum ws 4 1 40000=dU ws from rfl,e4];simp)
 obtain⟨a5,b5,d5⟩:=bL (l:=1) (m:=1000) (z 5) c5
 obtain⟨a6,b6,d6⟩:=bL (l:=0) (m:=3) (z 6) c6
 have a0:wAt ws 0=d9:=Bs_inj (word_is hv)
 have c1' : nameL (Bs (wAt ws 1))=true:=by simpa using c1
 refine⟨?_,?_,b4,d4⟩
 ·unfold hdrOk
  simp only[Bool.and_eq_true,decide_eq_true_eq,beq_iff_eq]
  exact⟨⟨⟨⟨⟨⟨⟨⟨⟨⟨⟨c1',es⟩,b2⟩,d2⟩,et⟩,b4⟩,d4⟩,by show IntKind.i64.wrap (IntKind.i64.wrap ((eQ ws).1+IntKind.i64.wrap (IntKind.i64.wrap (60 * (rStep ws).1) * (dU ws).1)) - 1)≤253402300799;omega⟩,b5⟩,d5⟩,b6⟩,d6⟩
 ·refine Eq.trans ?_ (len7 hl).symm
  show[d9,wAt ws 1,txt (rNum ws 2 0 253402300799).1,txt (rNum ws 3 15 60).1,txt (rNum ws 4 1 40000).1,txt (rNum ws 5 1 1000).1,txt (rNum ws 6 0 3).1]=_
  rw[← a2,← a3,← a4,← a5,← a6,← a0]
theorem rL_again : ∀ (ls:List ByteArray) (i:Int) (f g:Fi),0 < i → (1≤f.slots∧f.slots≤40000) → (f.reads.length:Int)≤f.slots → (∀ l∈ls,l.size≤1048576) → rL false ls i f false = .good g →
  ∃ rs,g = { f with reads:=f.reads ++ rs }∧(∀ r∈rs,RdOk f.slots r)∧((f.reads ++ rs).length:Int)≤f.slots∧ls.map Bs=rs.map (fun r=>jnB (rWs r)) ++ [jnB (eWs g)]
 |[],i,f,g,_,_,_,_,h=>by
  rw[rL_n] at h
  cases h
 |l :: r,i,f,g,hi,hs,hn,hz,h=>by
  rw[rL_c] at h
  split at h
  ·cases h
  rename_i h0
  have h0:(WS l).2.2=0:=by simpa using h0
  have hb:=WS_back h0
  have hw:=(ws_ok h0).2.2.2.2
  have hl:=hz l (by simp)
  generalize (WS l).1=ws at *
  have hz2 : ∀ w∈ws,w.size≤1048576:=fun w hx=>by have:=(hw w hx).1;omega
  by_cases c1:isV ws wEnd 3=true
  ·rw[rLine_end hi f c1] at h
   dsimp only at h
   split at h
   ·rename_i hc
    have he:=end_again c1 hc
    cases r with
    |nil=>
     unfold rL at h
     simp at h
     subst h
     refine⟨[],by simp,by simp,by simpa using hn,?_⟩
     simp only[List.map_cons,List.map_nil,List.nil_append]
     rw[hb,he]
     rfl
    |cons x y=>
     unfold rL at h
     simp at h
   ·cases h
  by_cases c2:isV ws wRead 6=true∧(f.reads.length:Int) < f.slots
  ·rw[fJ hi f c2.1 c2.2] at h
   dsimp only at h
   split at h
   ·rename_i hc
    obtain⟨k1,k2⟩:=read_again c2.1 hz2 hs hc
    obtain⟨rs,e1,e2,e3,e4⟩:=rL_again r (i+1) { f with reads:=f.reads ++ [rrR ws f.slots] } g (by omega) hs (by have:=c2.2;simp;omega) (fun x hx=>hz x (by simp[hx])) h
    refine⟨rrR ws f.slots :: rs,by rw[e1];simp,fun x hx=>?_,by simpa using e3,?_⟩
    ·rcases List.mem_cons.1 hx with rfl|hx
     ·exact k1
     ·exact e2 x hx
    ·rw[List.map_cons,e4,hb,List.map_cons,k2]
     rfl
   ·cases h
  ·rw[rLine_no hi f c1 c2] at h
   dsimp only at h
   rw[if_neg (by decide)] at h
   cases h
theorem rL_cut : ∀ (ls:List ByteArray) (i:Int) (f g:Fi) (d:Bool),rL true ls i f d = .good g → False
 |[],i,f,g,d,h=>by
  unfold rL at h
  simp at h
 |l :: r,i,f,g,d,h=>by
  unfold rL at h
  split at h
  ·cases h
  split at h
  ·cases h
  split at h
  ·exact rL_cut r _ _ g _ h
  ·cases h
theorem rL_large (cut:Bool) : ∀ (ls:List ByteArray) (i:Int) (f:Fi) (d:Bool),rL cut ls i f d = .large → False
 |[],i,f,d,h=>by
  unfold rL at h
  split at h <;> cases h
 |x :: r,i,f,d,h=>by
  unfold rL at h
  split at h
  ·cases h
  split at h
  ·cases h
  split at h
  ·exact rL_large cut r _ _ _ h
  ·cases h
theorem again_law {a:ByteArray} {g:Fi} (h:pR a = .good g):bW g=true∧bN g=a∧FiFit g:=by
 unfold pR at h
 split at h
 ·cases h
 rename_i hs
 have hcl:=cutN_le a
 cases hc:decide (cutN a < a.size) with
 |true=>
  rw[hc] at h
  exact(rL_cut _ _ _ _ _ h).elim
 |false=>
  rw[hc] at h
  have hc2:cutN a=a.size:=by
   have:=of_decide_eq_false hc
   omega
  have hbk:=linesOf_back hc2 (by omega)
  have hsz:=(eH a (by omega)).2
  generalize bD a=ls at *
  cases ls with
  |nil=>
   rw[rL_n] at h
   cases h
  |cons l r=>
   rw[rL_c] at h
   split at h
   ·cases h
   rename_i h0
   have h0:(WS l).2.2=0:=by simpa using h0
   have hb:=WS_back h0
   have hw:=(ws_ok h0).2.2.2.2
   have hl:=hsz l (by simp)
   generalize (WS l).1=ws at *
   have hz2 : ∀ w∈ws,w.size≤1048576:=fun w hx=>by have:=(hw w hx).1;omega
   by_cases c1:isV ws dV 7=true
   ·rw[fI f0 c1] at h
    dsimp only at h
    split at h
    ·rename_i hcol
     obtain⟨k1,k2,k3,k4⟩:=hdr_again f0 c1 hz2 hcol
     have hrd:(rhF ws f0).reads = []:=rfl
     obtain⟨rs,e1,e2,e3,e4⟩:=rL_again r _ (rhF ws f0) g (by omega) ⟨k3,k4⟩ (by rw[hrd];simp;omega) (fun x hx=>hsz x (by simp[hx])) h
     rw[hrd,List.nil_append] at e1 e3
     have q1:hdrOk g=true:=by rw[e1];exact k1
     have q2:hWs g=ws:=by rw[e1];exact k2
     have q3:g.reads=rs:=by rw[e1]
     have q4:g.slots=(rhF ws f0).slots:=by rw[e1]
     have hok : ∀ x∈g.reads,RdOk g.slots x:=by rw[q3,q4];exact e2
     have hfl : ∀ x∈g.reads,0≤x.flag∧x.flag≤255:=fun x hx=>by
      have:=(hok x hx).2.2.2.2
      omega
     have hlen:(g.reads.length:Int)≤g.slots:=by rw[q3,q4];exact e3
     rw[← q4] at k3 k4
     refine⟨?_,?_,?_⟩
     ·unfold bW
      rw[q1]
      simp only[Bool.not_true,Bool.false_or,Bool.and_eq_true,Bool.not_eq_true',decide_eq_false_iff_not,List.all_eq_true]
      exact⟨by omega,fun x hx=>(rdBad_ok (hfl x hx)).2 (hok x hx)⟩
     ·apply Bs_inj
      rw[printT_Bs,hbk,q2,q3,List.map_cons,e4,hb]
      rfl
     ·have hnm:=hdr_name q1
      unfold hdrOk at q1
      simp only[Bool.and_eq_true,decide_eq_true_eq,beq_iff_eq] at q1
      obtain⟨⟨⟨⟨⟨⟨⟨⟨⟨⟨⟨y1,y2⟩,y3⟩,y4⟩,y5⟩,y6⟩,y7⟩,y8⟩,y9⟩,y10⟩,y11⟩,y12⟩:=q1
      have hst:15≤g.step∧g.step≤60:=by
       unfold stepB at y2
       simp at y2
       omega
      have hms:g.meter.size≤24:=by
       unfold nameL at hnm
       simp only[Bool.and_eq_true,decide_eq_true_eq] at hnm
       rw[← ai]
       exact hnm.1.1.2
      refine⟨fun x hx=>⟨?_,hfl x hx⟩,by omega,by omega,?_⟩
      ·obtain⟨⟨_,_⟩,⟨_,_⟩,⟨_,_⟩,⟨_,_⟩,_⟩:=hok x hx
       unfold RdW in64
       omega
      ·unfold in64
       omega
    ·cases h
   ·rw[rLine_no0 f0 c1] at h
    dsimp only at h
    rw[if_neg (by decide)] at h
    cases h
end Go.Proofs.YtjokedpaidmjoaaGreatDoor.Rf
set_option linter.all false
namespace Go.Proofs.YtjokedpaidmjoaaGreatDoor.Rf
open Go Go.RowKit Go.Proofs.YtjokedpaidmjoaaGreatDoor.Am Go.Proofs.YtjokedpaidmjoaaGreatDoor.Pu Go.Proofs.YtjokedpaidmjoaaGreatDoor
theorem rdsEq_eq : ∀ l m:List Rd,l.length=m.length → rdsEq l m=true → l=m
 |[],[],_,_=>rfl
 |[],_ :: _,h,_=>by simp at h
 |_ :: _,[],h,_=>by simp at h
 |a :: l,b :: m,h,k=>by
  unfold rdsEq at k
  simp only[Bool.and_eq_true] at k
  obtain⟨k1,k2⟩:=k
  rw[rdsEq_eq l m (by simpa using h) k2]
  unfold rdEq at k1
  simp only[Bool.and_eq_true,beq_iff_eq] at k1
  obtain⟨e1,e2,e3,e4,e5⟩:=k1
  cases a
  cases b
  simp_all
theorem sameF_eq {f g:Fi} (h:sameF f g=true):f=g:=by
 unfold sameF fiEq at h
 simp only[Bool.and_eq_true,beq_iff_eq] at h
 obtain⟨⟨⟨⟨⟨⟨⟨e0,e1⟩,e2⟩,e3⟩,e4⟩,e5⟩,e6⟩,e7⟩:=h
 have e6:f.reads.length=g.reads.length:=by omega
 have e7:=rdsEq_eq _ _ e6 e7
 have e0:f.meter=g.meter:=by
  apply Bs_inj
  rw[av,av] at e0
  exact e0
 cases f
 cases g
 simp_all
theorem bytes_law {f:Fi} {t:ByteArray} (hok:bW f=true) (hf:FiFit f) (hs:(bN f).size≤100000) (ht:t.size≤1048576) :
  ((t.toList == (bN f).toList)=true∧pR t = .good f)∨((t.toList == (bN f).toList)=false∧((∃ l c,pR t = .bad l c)∨∃ g,pR t = .good g∧sameF f g=false)):=by
 by_cases he:t=bN f
 ·subst he
  exact .inl ⟨by simp,back_law hok hf (by omega)⟩
 ·refine .inr ⟨?_,?_⟩
  ·refine beq_eq_false_iff_ne.2 fun q=>he (Bs_inj ?_)
   rw[av,av] at q
   exact q
  ·cases hp:pR t with
   |large=>
    exfalso
    unfold pR at hp
    split at hp
    ·omega
    ·exact rL_large _ _ _ _ _ hp
   |bad l c=>exact .inl ⟨l,c,rfl⟩
   |good g=>
    refine .inr ⟨g,rfl,?_⟩
    cases hq:sameF f g with
    |false=>rfl
    |true=>
     obtain rfl:=sameF_eq hq
     exact absurd (again_law hp).2.1.symm he
end Go.Proofs.YtjokedpaidmjoaaGreatDoor.Rf
