/- A part of the proof. -/
import Derived.Test.YtjokedpaidmjoaaGreatDoorQ34
set_option linter.all false
namespace Go.Proofs.YtjokedpaidmjoaaGreatDoor.Rf
open Go Go.RowKit Go.Proofs.YtjokedpaidmjoaaGreatDoor.Am Go.Proofs.YtjokedpaidmjoaaGreatDoorW.PrintWords Go.Proofs.YtjokedpaidmjoaaGreatDoor.Pa Go.Proofs.YtjokedpaidmjoaaGreatDoor.Pu Go.Proofs.YtjokedpaidmjoaaGreatDoor
def isV (ws:List ByteArray) (w:List UInt8) (n:Nat):Bool:=((ws[0]?.getD (⟨#[]⟩ : ByteArray)).toList == w) && ((ws.length:Int) == (n:Int))
def rLine (i:Int) (ws:List ByteArray) (f:Fi):Int × Fi × Bool:=
 if i=0∧isV ws dG 7=true then (rhCol ws,rhF ws f,false)
 else if 0 < i∧isV ws wRead 6=true∧(f.reads.length:Int) < f.slots then (rrCol ws f.slots,{ f with reads:=f.reads ++ [rrR ws f.slots] },false)
 else if 0 < i∧isV ws wEnd 3=true then (rtCol ws f,f,true)
 else (1,f,false)
def rL (cut:Bool):List ByteArray → Int → Fi → Bool → POut
 |[],i,f,done=>if cut=true∨done=false then .bad (i+1) 1 else .good f
 |l :: r,i,f,done=>
  if done=true then .bad (i+1) 1
  else if ¬ (WS l).2.2=0 then .bad (i+1) (WS l).2.1
  else if (rLine i (WS l).1 f).1=0 then rL cut r (i+1) (rLine i (WS l).1 f).2.1 (rLine i (WS l).1 f).2.2
  else .bad (i+1) (rLine i (WS l).1 f).1
def pR (a:ByteArray):POut:=if 1048576 < a.size then .large else rL (decide (cutN a < a.size)) (aC a) 0 f0 false
theorem rL_c (cut:Bool) (l:ByteArray) (r:List ByteArray) (i:Int) (f:Fi):rL cut (l :: r) i f false=if ¬ (WS l).2.2=0 then .bad (i+1) (WS l).2.1
  else if (rLine i (WS l).1 f).1=0 then rL cut r (i+1) (rLine i (WS l).1 f).2.1 (rLine i (WS l).1 f).2.2
  else .bad (i+1) (rLine i (WS l).1 f).1:=rfl
theorem rL_n (cut:Bool) (i:Int) (f:Fi):rL cut [] i f false = .bad (i+1) 1:=by unfold rL;rw[if_pos (.inr rfl)]
theorem ws_col (l:ByteArray) (h:(WS l).2.2=0):(WS l).2.1=0:=(ws_ok h).2.1
theorem numP_ok {w:ByteArray} (hw:w.size≤1048576) {l m:Int} (h:(numP w l m).2=0):l≤(numP w l m).1∧(numP w l m).1≤m:=by
 unfold numP scan_Number.f at h ⊢
 obtain⟨n,e,hr,h1,h2⟩:=read_some w (by omega)
 rw[hr] at h ⊢
 simp only[Option.bind_some] at h ⊢
 split at h
 ·rename_i he
  rw[if_pos he]
  split at h
  ·simp at h
  ·rename_i h3
   rw[if_neg h3]
   split at h
   ·simp at h
   ·rename_i h4
    rw[if_neg h4]
    simp only[Option.getD_some]
    omega
 ·rename_i he
  simp only[Option.getD_some] at h
  exact absurd h he
theorem rhF_slots {ws:List ByteArray} (hz:(wAt ws 4).size≤1048576) (h:rhCol ws=0) (h7:ws.length=7) (f:Fi):1≤(rhF ws f).slots:=by
 have cpos : ∀ k:Int,0≤k → k < 7 → ¬ colP ws k=0:=by
  intro k h1 h2 h
  have:=bN (ws:=ws) (k:=k) h1 (by omega)
  omega
 have c4:(bY ws).2=true:=by
  cases hc:(bY ws).2 with
  |true=>rfl
  |false=>
   exfalso
   unfold rhCol at h
   have hC:rC4 ws=true:=by unfold rC4;rw[hc];rfl
   split at h
   ·exact cpos 1 (by omega) (by omega) h
   ·split at h
    ·exact cpos 2 (by omega) (by omega) h
    ·split at h
     ·exact cpos 3 (by omega) (by omega) h
     ·exact cpos 4 (by omega) (by omega) h
 have:=(numP_ok hz (l:=1) (m:=40000) (by unfold bY rNum at c4;simpa using c4)).1
 exact this
theorem dF (s:Sr) (b:Bool):(takeS s b).cut=s.cut:=rfl
theorem hd9_cut (s:Sr):(hd9 s).cut=s.cut:=by
 unfold hd9;rw[dF];unfold hd8;rw[dF];unfold hd7;dsimp only;unfold hd6;rw[dF];unfold hd5;dsimp only;unfold hd4;dsimp only;unfold hd3;rw[dF];unfold hd2;rw[dF];unfold hd1;rw[dF]
theorem isW_isV (s:Sr) (w:List UInt8) (n:Nat):isW s w n=isV s.words w n:=rfl
theorem dh {ws:List ByteArray} {w:List UInt8} {n:Nat} (h:isV ws w n=true):ws.length=n:=by
 unfold isV at h
 simp at h
 omega
theorem rLine_head {ws:List ByteArray} (f:Fi) (h:isV ws dG 7=true):rLine 0 ws f=(rhCol ws,rhF ws f,false):=if_pos ⟨rfl,h⟩
theorem rLine_no0 {ws:List ByteArray} (f:Fi) (h : ¬ isV ws dG 7=true):rLine 0 ws f=(1,f,false):=by
 unfold rLine
 rw[if_neg (fun q=>h q.2),if_neg (fun q=>absurd q.1 (by decide)),if_neg (fun q=>absurd q.1 (by decide))]
theorem rLine_read {ws:List ByteArray} {i:Int} (hi:0 < i) (f:Fi) (h:isV ws wRead 6=true) (hs:(f.reads.length:Int) < f.slots):rLine i ws f=(rrCol ws f.slots,{ f with reads:=f.reads ++ [rrR ws f.slots] },false):=by
 unfold rLine
 rw[if_neg (fun q=>by omega),if_pos ⟨hi,h,hs⟩]
theorem rLine_end {ws:List ByteArray} {i:Int} (hi:0 < i) (f:Fi) (h:isV ws wEnd 3=true):rLine i ws f=(rtCol ws f,f,true):=by
 unfold rLine
 have h2 : ¬ isV ws wRead 6=true:=fun q=>by have:=dh q;have:=dh h;omega
 rw[if_neg (fun q=>by omega),if_neg (fun q=>h2 q.2.1),if_pos ⟨hi,h⟩]
theorem rLine_no {ws:List ByteArray} {i:Int} (hi:0 < i) (f:Fi) (h : ¬ isV ws wEnd 3=true) (h2 : ¬ (isV ws wRead 6=true∧(f.reads.length:Int) < f.slots)):rLine i ws f=(1,f,false):=by
 unfold rLine
 rw[if_neg (fun q=>by omega),if_neg (fun q=>h2 q.2),if_neg (fun q=>h q.2)]
theorem end_same {s:Sr} {f:Fi} (h0:s.word=0) (hz:s.wrong=0) (h3:s.words.length=3) {i:Nat} (hi:s.line=i) (hl:i≤s.lines.length):endP s f=if rtCol s.words f=0 then rL s.cut (s.lines.drop i) s.line f true else .bad s.line (rtCol s.words f):=by
 have e:=tl_same f h0 hz h3
 have ln:(tl2 s f).line=s.line:=rfl
 have ls:(tl2 s f).lines=s.lines:=rfl
 have lc:(tl2 s f).cut=s.cut:=rfl
 unfold endP
 rw[e,ln]
 by_cases hc:rtCol s.words f=0
 ·rw[if_pos hc,if_pos hc]
  generalize tl2 s f=s2 at *
  cases hd:s.lines.drop i with
  |nil=>
   have h1:s.lines.length≤i:=by simpa using hd
   unfold rL
   cases hcut:s.cut with
   |true=>
    have e2:restS s2=({ s2 with line:=s2.line+1,wrong:=1 },false):=if_neg (fun q=>by rw[lc,hcut] at q;cases q.2)
    rw[e2]
    simp[ln]
   |false=>
    have e2:restS s2=(s2,true):=if_pos ⟨by rw[ln,ls];omega,by rw[lc,hcut]⟩
    rw[e2]
    simp
  |cons l r=>
   have h1 : ¬ s.lines.length≤i:=fun q=>by rw[List.drop_of_length_le q] at hd;cases hd
   unfold rL
   have e2:restS s2=({ s2 with line:=s2.line+1,wrong:=1 },false):=if_neg (fun q=>by rw[ln,ls] at q;omega)
   rw[e2,if_pos rfl]
   simp[ln]
 ·rw[if_neg hc,if_neg hc]
theorem readL_same (f:Fi) (n:Nat) : ∀ (s:Sr) (f:Fi) (i:Nat),s.line=i → 0 < i → s.lines.length - i < n → i≤s.lines.length → (f.reads.length:Int)≤f.slots → readL n s f=rL s.cut (s.lines.drop i) s.line f false:=by
 induction n with
 |zero=>intro s f i _ _ h;omega
 |succ n ih=>
  intro s f i hi h0 hn hl hs
  unfold readL
  cases hd:s.lines.drop i with
  |nil=>
   have h1:s.lines.length≤i:=by simpa using hd
   have e:nextS s=({ s with line:=s.line+1,word:=0,wrong:=1 },false):=if_pos (by omega)
   rw[e,if_pos rfl,rL_n]
  |cons l r=>
   have h1:i < s.lines.length:=by
    rcases Nat.lt_or_ge i s.lines.length with q|q
    ·exact q
    ·rw[List.drop_of_length_le q] at hd;cases hd
   have h2:s.lines.drop i=s.lines[i] :: s.lines.drop (i+1):=List.drop_eq_getElem_cons h1
   rw[hd] at h2
   obtain⟨e1,e2⟩:=List.cons.inj h2
   have hl1:s.lines[s.line.toNat]?.getD ⟨#[]⟩=l:=by
    rw[hi,Int.toNat_natCast,List.getElem?_eq_getElem h1,e1]
    rfl
   have e:nextS s=({ s with line:=s.line+1,word:=0,words:=(WS l).1,wrong:=(WS l).2.1 },(WS l).2.2 == 0):=by
    unfold nextS
    rw[if_neg (by omega),hl1]
   have hws:(WS l).2.2=0 → (WS l).2.1=0:=ws_col l
   obtain⟨t,ht⟩ : ∃ t,t=({ s with line:=s.line+1,word:=0,words:=(WS l).1,wrong:=(WS l).2.1 } : Sr):=⟨_,rfl⟩
   have t1:t.line=s.line+1:=by rw[ht]
   have t2:t.words=(WS l).1:=by rw[ht]
   have t3:t.wrong=(WS l).2.1:=by rw[ht]
   have t4:t.word=0:=by rw[ht]
   have t5:t.lines=s.lines:=by rw[ht]
   have t6:t.cut=s.cut:=by rw[ht]
   rw[e,← ht]
   clear e ht
   rw[rL_c]
   by_cases c0:(WS l).2.2=0
   ·have tz:t.wrong=0:=by rw[t3,hws c0]
    dsimp only
    rw[if_neg (show ¬ ((WS l).2.2 == 0)=false by simp[c0]),if_neg (show ¬ ¬ (WS l).2.2=0 from fun q=>q c0)]
    rw[isW_isV,isW_isV,t2]
    have hp:0 < s.line:=by omega
    by_cases cE:isV (WS l).1 wEnd 3=true
    ·have cR : ¬ isV (WS l).1 wRead 6=true:=fun q=>by have:=dh q;have:=dh cE;omega
     rw[if_pos cE,rLine_end hp f cE]
     have:=end_same (s:=t) (f:=f) t4 tz (by rw[t2];exact dh cE) (i:=i+1) (by omega) (by rw[t5];omega)
     rw[this,t1,t2,t5,t6,← e2]
    ·rw[if_neg cE]
     by_cases cR:isV (WS l).1 wRead 6=true
     ·by_cases cS:(f.reads.length:Int)=f.slots
      ·rw[if_pos (.inr cS),rLine_no hp f cE (fun q=>by omega),if_neg (show ¬ (1:Int)=0 by decide),t1]
      ·rw[if_neg (fun q=>q.elim (fun q=>by rw[cR] at q;cases q) cS),rLine_read hp f cR (by omega)]
       obtain⟨g1,g2⟩:=rd_same (s:=t) f.slots t4 tz (by rw[t2];exact dh cR)
       rw[g1,t2]
       rw[t2] at g2
       by_cases cC:rrCol (WS l).1 f.slots=0
       ·rw[if_pos cC,if_pos cC,g2 cC]
        have u1:(rd5 t f.slots).line=t.line:=rfl
        have u2:(rd5 t f.slots).lines=t.lines:=rfl
        have u3:(rd5 t f.slots).cut=t.cut:=rfl
        generalize rd5 t f.slots=t5' at *
        have:=ih t5' { f with reads:=f.reads ++ [rrR (WS l).1 f.slots] } (i+1) (by rw[u1,t1,hi];rfl) (by omega) (by rw[u2,t5];omega) (by rw[u2,t5];omega) (by simp;omega)
        rw[this,u1,u2,u3,t1,t5,t6,← e2]
       ·rw[if_neg cC,if_neg cC]
        have u1:(rd5 t f.slots).line=t.line:=rfl
        rw[u1,t1]
     ·rw[if_pos (.inl (by simpa using cR)),rLine_no hp f cE (fun q=>cR q.1),if_neg (show ¬ (1:Int)=0 by decide),t1]
   ·dsimp only
    rw[if_pos (show((WS l).2.2 == 0)=false by simp[c0]),if_pos c0]
    rw[t1,t3]
theorem parse_same (a:ByteArray):pS a=pR a:=by
 unfold pS pR
 by_cases hl:1048576 < a.size
 ·rw[if_pos hl,if_pos hl]
 rw[if_neg hl,if_neg hl]
 have o1:(opS a).lines=aC a:=rfl
 have o2:(opS a).cut=decide (cutN a < a.size):=rfl
 have o3:(opS a).line=0:=rfl
 have o4 : ∀ b∈(opS a).lines,b.size≤1048576:=(dH a (by omega)).2
 rw[← o1,← o2]
 generalize opS a=s at *
 cases hd:s.lines with
 |nil=>
  have e:nextS s=({ s with line:=s.line+1,word:=0,wrong:=1 },false):=if_pos (by rw[hd,o3];simp)
  rw[e,if_pos rfl,rL_n]
  simp[o3]
 |cons l r=>
  have hll:l.size≤1048576:=o4 l (by rw[hd];simp)
  have hl1:s.lines[s.line.toNat]?.getD ⟨#[]⟩=l:=by
   rw[o3,hd]
   rfl
  have e:nextS s=({ s with line:=s.line+1,word:=0,words:=(WS l).1,wrong:=(WS l).2.1 },(WS l).2.2 == 0):=by
   unfold nextS
   rw[if_neg (by rw[hd,o3];simp;omega),hl1]
  have hws:(WS l).2.2=0 → (WS l).2.1=0:=ws_col l
  obtain⟨t,ht⟩ : ∃ t,t=({ s with line:=s.line+1,word:=0,words:=(WS l).1,wrong:=(WS l).2.1 } : Sr):=⟨_,rfl⟩
  have t1:t.line=1:=by rw[ht];show s.line+1=1;omega
  have t2:t.words=(WS l).1:=by rw[ht]
  have t3:t.wrong=(WS l).2.1:=by rw[ht]
  have t4:t.word=0:=by rw[ht]
  have t5:t.lines=s.lines:=by rw[ht]
  have t6:t.cut=s.cut:=by rw[ht]
  rw[e,← ht]
  clear e ht
  rw[rL_c]
  by_cases c0:(WS l).2.2=0
  ·have tz:t.wrong=0:=by rw[t3,hws c0]
   dsimp only
   rw[if_neg (show ¬ ((WS l).2.2 == 0)=false by simp[c0]),if_neg (show ¬ ¬ (WS l).2.2=0 from fun q=>q c0)]
   rw[isW_isV,t2]
   have hsz:(wAt (WS l).1 4).size≤1048576:=by
    unfold wAt
    cases hq:(WS l).1[4]? with
    |none=>exact Nat.zero_le _
    |some w=>exact Nat.le_trans ((ws_ok c0).2.2.2.2 w (List.mem_of_getElem? hq)).1 hll
   by_cases cM:isV (WS l).1 dG 7=true
   ·rw[if_neg (by rw[cM];decide),rLine_head f0 cM]
    obtain⟨g1,g2⟩:=hd_same (s:=t) t4 tz (by rw[t2];exact dh cM) f0
    rw[g1,t2]
    rw[t2] at g2
    by_cases cC:rhCol (WS l).1=0
    ·rw[if_pos cC,if_pos cC,g2 cC]
     have u1:(hd9 t).line=t.line:=hd9_line t
     have u2:(hd9 t).lines=t.lines:=hd9_lines t
     have u3:(hd9 t).cut=t.cut:=hd9_cut t
     have u4:=rhF_slots hsz cC (dh cM) f0
     generalize hd9 t=t' at *
     have:=readL_same f0 (s.lines.length+1) t' (rhF (WS l).1 f0) 1 (by rw[u1,t1];rfl) (by omega) (by rw[u2,t5];omega) (by rw[u2,t5,hd];simp) (by show((0:Nat):Int)≤_;omega)
     rw[hd] at this
     rw[this,u1,u2,u3,t1,t5,t6,hd]
     rfl
    ·rw[if_neg cC,if_neg cC]
     have u1:(hd9 t).line=t.line:=hd9_line t
     rw[u1,t1]
     rfl
   ·have cM' : isV (WS l).1 dG 7=false:=by simpa using cM
    rw[if_pos cM',rLine_no0 f0 cM,if_neg (show ¬ (1:Int)=0 by decide),t1]
    rfl
  ·dsimp only
   rw[if_pos (show((WS l).2.2 == 0)=false by simp[c0]),if_pos c0]
   rw[t1,t3]
   rfl
end Go.Proofs.YtjokedpaidmjoaaGreatDoor.Rf
