/- A part of the proof. -/
import Derived.Test.YtjokedpaidmjoaaGreatDoorQ43
import Derived.Test.YtjokedpaidmjoaaGreatDoorQ42
set_option linter.all false
namespace Go.Proofs.YtjokedpaidmjoaaGreatDoor.Rf
open Go Go.RowKit Go.Proofs.YtjokedpaidmjoaaGreatDoor.Am Go.Proofs.YtjokedpaidmjoaaGreatDoorW.PrintWords Go.Proofs.YtjokedpaidmjoaaGreatDoor.Pa Go.Proofs.YtjokedpaidmjoaaGreatDoor.Pu Go.Proofs.YtjokedpaidmjoaaGreatDoor
theorem dZ {n:Int} : Wd (Bs (txt n)):=by
 unfold txt
 rw[cO]
 have hp : ∀ c:UInt8,48≤c.toNat∧c.toNat≤57 → pr c=true:=fun c h=>by unfold pr;simp;omega
 unfold Lib.itoa
 split
 ·obtain⟨d1,d2,_⟩:=dd_ok n.natAbs
  refine⟨by simp,fun c hc=>?_⟩
  rcases List.mem_cons.1 hc with rfl|hc
  ·decide
  ·exact hp c (d2 c hc)
 ·obtain⟨d1,d2,_⟩:=dd_ok n.toNat
  exact⟨d1,fun c hc=>hp c (d2 c hc)⟩
theorem mark_pr {c:UInt8} (h:Pu.mark c=true):pr c=true:=by
 unfold Pu.mark at h
 unfold pr
 simp at h
 simp
 omega
theorem name_wd {w:ByteArray} (h:nameL (Bs w)=true):Wd (Bs w):=by
 obtain⟨h1,h2⟩ : 1≤(Bs w).length∧(Bs w).all Pu.mark=true:=by
  unfold nameL at h
  simp only[Bool.and_eq_true,decide_eq_true_eq] at h
  exact⟨h.1.1.1,h.1.2⟩
 refine⟨fun e=>by rw[e] at h1;simp at h1,fun c hc=>mark_pr (List.all_eq_true.1 h2 c hc)⟩
theorem flag_wd {w:ByteArray} (h:flagB w=true):Wd (Bs w):=by
 unfold flagB at h
 simp only[Bool.or_eq_true,beq_iff_eq] at h
 rcases h with (h|h)|h <;> rw[h] <;> exact⟨by simp,by decide⟩
theorem jt_no : ∀ (r:List (List UInt8)),(∀ v∈r,Wd v) → (10:UInt8) ∉ jt r
 |[],_=>by simp[jt]
 |v :: r,h=>by
  have hv:=(h v (by simp)).2
  have ih:=jt_no r (fun x hx=>h x (by simp[hx]))
  simp only[jt,List.mem_cons,List.mem_append,not_or]
  exact⟨by decide,fun q=>by have:=hv _ q;exact absurd this (by decide),ih⟩
theorem jn_no {vs:List (List UInt8)} (h : ∀ v∈vs,Wd v):(10:UInt8) ∉ jn vs:=by
 cases vs with
 |nil=>simp[jn]
 |cons v r=>
  have h1:=jt_no (v :: r) h
  simp only[jt,List.mem_cons,not_or] at h1
  exact h1.2
theorem Wd_all {ws:List ByteArray} (h : ∀ w∈ws,Wd (Bs w)) : ∀ v∈ws.map Bs,Wd v:=fun v hv=>by
 obtain⟨w,hw,rfl⟩:=List.mem_map.1 hv
 exact h w hw
theorem WS_jnB {ws:List ByteArray} (h0:ws≠[]) (h : ∀ w∈ws,Wd (Bs w)):WS (toB (jnB ws))=(ws,0,0):=by
 unfold jnB
 rw[WS_jn (by simpa using h0) (Wd_all h),List.map_map,show(toB ∘ Bs)=id from funext toB_Bs,List.map_id]
def RdOk (sl:Int) (r:Rd):Prop:=(0≤r.slot∧r.slot < sl)∧(0≤r.imp∧r.imp≤10000000)∧(0≤r.exp∧r.exp≤10000000)∧(-10000000≤r.var∧r.var≤10000000)∧(r.flag=65∨r.flag=69∨r.flag=83)
theorem rdBad_ok {sl:Int} {r:Rd} (hf:0≤r.flag∧r.flag≤255):rdBad sl r=false↔RdOk sl r:=by
 unfold rdBad RdOk
 rw[flag_dec hf]
 simp only[Bool.or_eq_false_iff,Bool.not_eq_false',decide_eq_false_iff_not,decide_eq_true_eq,Bool.or_eq_true,beq_iff_eq]
 omega
theorem flT_of {r:Rd} (h:r.flag=65∨r.flag=69∨r.flag=83):flagB (flT r.flag)=true∧byteAt (flT r.flag) 0=r.flag:=by
 rcases h with h|h|h <;> rw[h] <;> decide +kernel
theorem rWs_wd {sl:Int} {r:Rd} (h:RdOk sl r) : ∀ w∈rWs r,Wd (Bs w):=by
 intro w hw
 have hf:=flag_wd (flT_of h.2.2.2.2).1
 unfold rWs at hw
 simp only[List.mem_cons,List.not_mem_nil,or_false] at hw
 rcases hw with rfl|rfl|rfl|rfl|rfl|rfl
 ·exact⟨by decide,by decide⟩
 ·exact dZ
 ·exact dZ
 ·exact dZ
 ·exact dZ
 ·exact hf
theorem eWs_wd (f:Fi) : ∀ w∈eWs f,Wd (Bs w):=by
 intro w hw
 unfold eWs at hw
 simp only[List.mem_cons,List.not_mem_nil,or_false] at hw
 rcases hw with rfl|rfl|rfl
 ·exact⟨by decide,by decide⟩
 ·exact dZ
 ·exact dZ
theorem hWs_wd {f:Fi} (h:nameL (Bs f.meter)=true) : ∀ w∈hWs f,Wd (Bs w):=by
 intro w hw
 unfold hWs at hw
 simp only[List.mem_cons,List.not_mem_nil,or_false] at hw
 rcases hw with rfl|rfl|rfl|rfl|rfl|rfl|rfl
 ·exact⟨by decide,by decide⟩
 ·exact name_wd h
 ·exact dZ
 ·exact dZ
 ·exact dZ
 ·exact dZ
 ·exact dZ
theorem isV_of {ws:List ByteArray} {w:List UInt8} {n:Nat} (h1:Bs (ws[0]?.getD (⟨#[]⟩ : ByteArray))=w) (h2:ws.length=n):isV ws w n=true:=by
 unfold isV
 rw[av,h1,h2]
 simp
theorem dJ {ws:List ByteArray} {k:Nat} {n l m:Int} (e:wAt ws k=txt n) (hi:in64 n) (h1:l≤n) (h2:n≤m):rNum ws k l m=(n,true):=by
 unfold rNum
 rw[e,numP_of hi h1 h2]
 rfl
theorem read_line {f:Fi} {r:Rd} {i:Int} (hi:0 < i) (h:RdOk f.slots r) (hw:RdW r) (hs:f.slots≤40000) (hl:(f.reads.length:Int) < f.slots):rLine i (rWs r) f=(0,{ f with reads:=f.reads ++ [r] },false):=by
 obtain⟨a1,a2,a3,a4,a5⟩:=id h
 obtain⟨b1,b2,b3,b4⟩:=hw
 have hws:IntKind.i64.wrap (f.slots - 1)=f.slots - 1:=aA (by omega) (by omega)
 have q1:rqSlot (rWs r) f.slots=(r.slot,true):=by unfold rqSlot;rw[hws];exact dJ rfl b1 (by omega) (by omega)
 have q2:rqIn (rWs r)=(r.imp,true):=dJ rfl b2 (by omega) (by omega)
 have q3:rqOut (rWs r)=(r.exp,true):=dJ rfl b3 (by omega) (by omega)
 have q4:rqVar (rWs r)=(r.var,true):=dJ rfl b4 (by omega) (by omega)
 obtain⟨q5,q6⟩:=flT_of a5
 have q5:flagB (wAt (rWs r) 5)=true:=q5
 have q6:byteAt (wAt (rWs r) 5) 0=r.flag:=q6
 rw[fJ hi f (isV_of rfl rfl) hl]
 have hc:rrCol (rWs r) f.slots=0:=by
  unfold rrCol
  rw[q1,q2,q3,q4,q5]
  rfl
 have hr:rrR (rWs r) f.slots=r:=by
  unfold rrR
  rw[q1,q2,q3,q4,q6]
 rw[hc,hr]
theorem end_line {f:Fi} {i:Int} (hi:0 < i) (hs:(sumR (sumL f.reads)).2=0):rLine i (eWs f) f=(0,f,true):=by
 rw[rLine_end hi f (isV_of rfl rfl)]
 have hc:rtCol (eWs f) f=0:=by
  have e1:wAt (eWs f) 1=txt f.reads.length:=rfl
  have e2:wAt (eWs f) 2=txt (sumR (sumL f.reads)).1:=rfl
  unfold rtCol
  rw[e1,e2,hs]
  simp
 rw[hc]
theorem rL_back {f:Fi} (hs:f.slots≤40000) : ∀ (rs pre:List Rd) (i:Int),0 < i → (∀ r∈rs,RdOk f.slots r∧RdW r) → ((pre ++ rs).length:Int)≤f.slots → (sumR (sumL (pre ++ rs))).2=0 →
  rL false ((rs.map (fun r=>toB (jnB (rWs r)))) ++ [toB (jnB (eWs { f with reads:=pre ++ rs }))]) i { f with reads:=pre } false = .good { f with reads:=pre ++ rs }
 |[],pre,i,hi,_,_,h0=>by
  rw[List.append_nil] at h0 ⊢
  rw[List.map_nil,List.nil_append,rL_c,WS_jnB (by simp[eWs]) (eWs_wd _)]
  dsimp only
  rw[if_neg (by simp),end_line (f:={ f with reads:=pre }) hi h0]
  dsimp only
  rw[if_pos rfl]
  rfl
 |r :: rs,pre,i,hi,hr,hl,h0=>by
  obtain⟨h1,h2⟩:=hr r (by simp)
  have e:pre ++ r :: rs=(pre ++ [r]) ++ rs:=by simp
  rw[e] at hl h0 ⊢
  rw[List.map_cons,List.cons_append,rL_c,WS_jnB (by simp[rWs]) (rWs_wd h1)]
  dsimp only
  rw[if_neg (by simp),read_line (f:={ f with reads:=pre }) hi h1 h2 hs (by simp at hl ⊢;omega)]
  dsimp only
  rw[if_pos rfl]
  exact rL_back hs rs (pre ++ [r]) (i+1) (by omega) (fun x hx=>hr x (by simp[hx])) hl h0
theorem rdL_small {sl:Int} {r:Rd} (h:RdOk sl r) (hs:sl≤40000) : ∀ l,rdL r=l → -100000000≤l.sum∧l.sum≤100000000:=by
 rintro l rfl
 obtain⟨a1,a2,a3,a4,a5⟩:=h
 unfold rdL
 have e1:IntKind.i64.wrap (r.var+1)=r.var+1:=aA (by omega) (by omega)
 have e2:IntKind.i64.wrap (-(r.var+1)) = -(r.var+1):=aA (by omega) (by omega)
 rw[e1,e2]
 split <;> simp <;> omega
theorem sumL_small {sl:Int} (hs:sl≤40000) : ∀ (l:List Rd),(∀ r∈l,RdOk sl r) → -(100000000 * (l.length:Int))≤(sumL l).sum∧(sumL l).sum≤100000000 * (l.length:Int)
 |[],_=>by simp[sumL]
 |r :: l,h=>by
  have h1:=sumL_small hs l (fun x hx=>h x (by simp[hx]))
  have h2:=rdL_small (h r (by simp)) hs _ rfl
  have e:sumL (r :: l)=rdL r ++ sumL l:=rfl
  rw[e,List.sum_append,List.length_cons]
  omega
theorem hdr_line {f:Fi} (h:hdrOk f=true) (hi:in64 f.start∧in64 f.step∧in64 f.slots∧in64 f.mult∧in64 f.turn):rLine 0 (hWs f) f0=(0,{ f with reads:=[] },false):=by
 unfold hdrOk at h
 simp only[Bool.and_eq_true,decide_eq_true_eq,beq_iff_eq] at h
 obtain⟨⟨⟨⟨⟨⟨⟨⟨⟨⟨⟨c1,c2⟩,c3⟩,c4⟩,c5⟩,c6⟩,c7⟩,c8⟩,c9⟩,c10⟩,c11⟩,c12⟩:=h
 obtain⟨b1,b2,b3,b4,b5⟩:=hi
 have hst:15≤f.step∧f.step≤60:=by
  unfold stepB at c2
  simp at c2
  omega
 have q2:eQ (hWs f)=(f.start,true):=dJ rfl b1 (by omega) (by omega)
 have q3:rStep (hWs f)=(f.step,true):=dJ rfl b2 (by omega) (by omega)
 have q4:dU (hWs f)=(f.slots,true):=dJ rfl b3 (by omega) (by omega)
 have q5:rMult (hWs f)=(f.mult,true):=dJ rfl b4 (by omega) (by omega)
 have q6:rTurn (hWs f)=(f.turn,true):=dJ rfl b5 (by omega) (by omega)
 have w1:wAt (hWs f) 1=f.meter:=rfl
 have qf:rFine (hWs f)=true:=by unfold rFine;rw[q3,c2];rfl
 have k2:rC2 (hWs f)=false:=by unfold rC2;rw[q2,qf,q3];simp[c5]
 have k4:rC4 (hWs f)=false:=by unfold rC4;rw[q2,q3,q4];simp;omega
 rw[fI f0 (isV_of rfl rfl)]
 have hc:rhCol (hWs f)=0:=by
  unfold rhCol
  rw[w1,c1,k2,qf,k4,q5,q6]
  rfl
 have hr:rhF (hWs f) f0 = { f with reads:=[] }:=by
  unfold rhF
  rw[w1,q2,q3,q4,q5,q6]
  rfl
 rw[hc,hr]
theorem printOk_parts {f:Fi} (h:bW f=true) (hf : ∀ r∈f.reads,0≤r.flag∧r.flag≤255):hdrOk f=true∧(f.reads.length:Int)≤f.slots∧f.slots≤40000∧∀ r∈f.reads,RdOk f.slots r:=by
 unfold bW at h
 simp only[Bool.and_eq_true,Bool.not_eq_true',Bool.or_eq_false_iff,Bool.not_eq_false',decide_eq_false_iff_not,List.all_eq_true] at h
 obtain⟨⟨h1,h2⟩,h3⟩:=h
 refine⟨h1,by omega,?_,fun r hr=>(rdBad_ok (hf r hr)).1 (h3 r hr)⟩
 unfold hdrOk at h1
 simp only[Bool.and_eq_true,decide_eq_true_eq,beq_iff_eq] at h1
 exact h1.1.1.1.1.1.2
theorem lines_wd {f:Fi} (h1:nameL (Bs f.meter)=true) (h2 : ∀ r∈f.reads,RdOk f.slots r) : ∀ l∈jnB (hWs f) :: (f.reads.map (fun r=>jnB (rWs r)) ++ [jnB (eWs f)]),(10:UInt8) ∉ l:=by
 intro l hl
 simp only[List.mem_cons,List.mem_append,List.mem_map,List.not_mem_nil,or_false] at hl
 rcases hl with rfl|⟨r,hr,rfl⟩|rfl
 ·exact jn_no (Wd_all (hWs_wd h1))
 ·exact jn_no (Wd_all (rWs_wd (h2 r hr)))
 ·exact jn_no (Wd_all (eWs_wd f))
theorem hdr_name {f:Fi} (h:hdrOk f=true):nameL (Bs f.meter)=true:=by
 unfold hdrOk at h
 simp only[Bool.and_eq_true] at h
 exact h.1.1.1.1.1.1.1.1.1.1.1
theorem back_law {f:Fi} (hok:bW f=true) (hf:FiFit f) (hs:(bN f).size≤1048576):pR (bN f) = .good f:=by
 obtain⟨h1,h2,h3,h4⟩:=printOk_parts hok (fun r hr=>(hf.rd r hr).2)
 have hn:=hdr_name h1
 obtain⟨hc,hl⟩:=linesOf_flat (printT_Bs f) (by simp) (lines_wd hn h4) hs
 unfold pR
 rw[if_neg (by omega),hc,hl,decide_eq_false (by omega),List.map_cons,List.map_append,List.map_map,List.map_cons,List.map_nil,rL_c,WS_jnB (by simp[hWs]) (hWs_wd hn)]
 dsimp only
 rw[if_neg (by simp),hdr_line h1 hf.num]
 dsimp only
 rw[if_pos rfl]
 have hsum:=sumL_small h3 f.reads h4
 have h0:(sumR (sumL ([] ++ f.reads))).2=0:=by
  unfold sumR
  rw[List.nil_append,if_pos (by omega)]
 exact rL_back h3 f.reads [] 1 (by omega) (fun r hr=>⟨h4 r hr,hf.rw r hr⟩) (by simpa using h2) h0
end Go.Proofs.YtjokedpaidmjoaaGreatDoor.Rf
