/- A part of the proof. -/
import Derived.Test.YtjokedpaidmjoaaGreatDoorQ28
set_option linter.all false
namespace Go.Proofs.YtjokedpaidmjoaaGreatDoor.Rf
open Go Go.RowKit Go.Proofs.YtjokedpaidmjoaaGreatDoor.Am Go.Proofs.YtjokedpaidmjoaaGreatDoor.Pu Go.Proofs.YtjokedpaidmjoaaGreatDoor
attribute [local go_sem] areg aseq gstep gwant astep apick aop aslice alen aappend aappendS aconvS aconvB unw opTmps opnds tmpsOf aev Am.get ofConst ofConst1 putT strip abin aun initT AThen AIn ws_n ws_r ws_e ws_g aw_seq aw_reg aw_draw aw_cond aw_block aw_skip aw_ret aw_exit aw_goto aw_label aw_loop aw_scope ANoGoto AJ ares oneOr bound asInt fieldOf ldv setSeg AV.cells AV.whole AV.cell tys Ty.agg ty9 ty3 ty2 ty5 ty4 ty89 ty21 ty37 ty46 ty83 ty73 ty81 ty41 ty23 ty25 ty27 ty28 ty48 afill zeroRow litGet litCells adraw awit adchk pchk qchk gchk looks restr tfin Has hat_z hat_s hat_len hat_appL hat_appN hat_appK hat_setS hat_setN set_appL set_appN set_appK box_t bn aD aG aH aI ax aJ row_t bq aK ay aM row_one aN
attribute [local go_sem] aQ bu aR aT aU intB_t eU dQ dR dS
attribute [local go_sem] C9_ty C9_fn C9_ext C9_eqt s9_at s9_num s9_step s9_name cu dB
attribute [local go_sem] List.set_set
set_option maxRecDepth 10000
def bH (ws:List ByteArray) (sl:Int):=rNum ws 1 0 (IntKind.i64.wrap (sl - 1))
def rqIn (ws:List ByteArray):=rNum ws 2 0 10000000
def rqOut (ws:List ByteArray):=rNum ws 3 0 10000000
def rqVar (ws:List ByteArray):=rNum ws 4 (-10000000) 10000000
def rrCol (ws:List ByteArray) (sl:Int):Int:=
 if (bH ws sl).2=false then colP ws 1
 else if (rqIn ws).2=false then colP ws 2
 else if (rqOut ws).2=false then colP ws 3
 else if (rqVar ws).2=false then colP ws 4
 else if flagB (wAt ws 5)=false then colP ws 5
 else 0
def rrR (ws:List ByteArray) (sl:Int):Rd:=⟨(bH ws sl).1,(rqIn ws).1,(rqOut ws).1,(rqVar ws).1,byteAt (wAt ws 5) 0⟩
set_option maxHeartbeats 1000000 in
theorem rrecord_calls {H:Heap} {wb fb:Nat} {ws:List ByteArray} {f:Fi} {vr:AV} (hw:hat H wb=some (strB ws)) (hf:hat H fb=some (fiB f vr)) (hr:Rds H vr f.reads) (hrl:f.reads.length≤1048577) (h6:ws.length=6) (ht:tot (ws.map Bs)≤900000000) (hz : ∀ a∈ws,a.size≤1048576∧a.size≠0) :
  ACalls Tryz.prog 22 [.sl wb 0 ws.length 0,.ptr fb 0 0 0] H fun v H'=>v = .int .i64 (rrCol ws f.slots)∧Fr [25,41] H H'∧∃ vr',KR fb vr H vr' H'∧(rrCol ws f.slots=0 → hat H' fb=some (fiB { f with reads:=f.reads ++ [rrR ws f.slots] } vr')∧Rds H' vr' (f.reads ++ [rrR ws f.slots])):=by
 refine acalls_ofN (C:=C9) (nt:=87) C9ok Tryz.func22 rfl rfl ?_
 refine awalk_sound C9ok _ _ _ _ ?_
 have nwf:wb≠fb:=ne_of_t hw hf (by simp only[aQ,fiB,box_t];decide)
 have lw:=hat_lt hw
 have lf:=hat_lt hf
 have hlt:5 < ws.length:=by omega
 have a1 : ∀ G,hat G wb=some (strB ws) → ∀ k:Int,0≤k → k < 6 → spAt [.sl wb 0 ws.length 0,.int .i64 k] G=some (.int .i64 (colP ws k),G ++ [intB (cf 1 (ws.map Bs))],True):=fun G h k h0 h1=>sp_at h (by omega) ht h0 (by omega)
 have a2 : ∀ G,hat G wb=some (strB ws) → ∀ k l m:Int,0≤k → k < 6 → fH [.sl wb 0 ws.length 0,.int .i64 k,.int .i64 l,.int .i64 m] G=some (.tup [.int .i64 (rNum ws k.toNat l m).1,.bool (rNum ws k.toNat l m).2],G,True):=fun G h k l m h0 h1=>sp_num h (by omega) hz h0 (by omega)
 have e5:ws[5]=wAt ws 5:=by unfold wAt;simp[hlt]
 have w5:(wAt ws 5).size≤1048576∧(wAt ws 5).size≠0:=by rw[← e5];exact hz _ (List.getElem_mem hlt)
 have hcell:=hr.cell
 simp only[AV.cell] at hcell
 have hff:=hf
 simp only[go_sem,fiB,fiV] at hff
 have ear : ∀ k:Int,1≤k → k < 6 → rrCol ws f.slots=colP ws k → ∃ vr',KR fb vr H vr' (H ++ [intB (cf 1 (ws.map Bs))])∧(rrCol ws f.slots=0 → hat (H ++ [intB (cf 1 (ws.map Bs))]) fb=some (fiB { f with reads:=f.reads ++ [rrR ws f.slots] } vr')∧Rds (H ++ [intB (cf 1 (ws.map Bs))]) vr' (f.reads ++ [rrR ws f.slots])):=by
  intro k h1 h2 e
  refine⟨vr,⟨fun b B hB _ _=>hat_app hB _,fun b n v e=>.inl ⟨n,v,e⟩,fun b B hB _ _=>hat_app hB _⟩,fun q=>?_⟩
  have:=bN (ws:=ws) (k:=k) (by omega) (by omega)
  omega
 rw[aw_seq]
 generalize hK:WSeq _ _ _ _ _=K
 simp[go_sem]
 rw[← hK,ws_n,aw_seq]
 clear hK
 generalize hK:WSeq _ _ _ _ _=K
 simp[go_sem,hff,lf,a2 H hw]
 rw[show rNum ws 1 0 (IntKind.i64.wrap (f.slots - 1))=bH ws f.slots from rfl]
 suffices hsuf : ∀ T,Am.get T 0 = .sl wb 0 ws.length 0 → Am.get T 1 = .ptr fb 0 0 0 → Am.get T 5 = .int .i64 (bH ws f.slots).1 → Am.get T 6 = .bool (bH ws f.slots).2 → K .normal T H from hsuf _ rfl rfl rfl rfl
 intro T t0 t1 t5 t6
 rw[← hK,ws_n,aw_seq,aw_seq]
 clear hK
 generalize hK:WSeq _ _ _ _ _=K
 simp[go_sem,t0,t6]
 suffices hsuf : ∀ T,Am.get T 0 = .sl wb 0 ws.length 0 → Am.get T 1 = .ptr fb 0 0 0 → Am.get T 5 = .int .i64 (bH ws f.slots).1 → Am.get T 21 = .bool (!(bH ws f.slots).2) → K .normal T H from hsuf _ (by repeat(rw[getN (by omega)]);exact t0) (by repeat(rw[getN (by omega)]);exact t1) (by repeat(rw[getN (by omega)]);exact t5) rfl
 clear t0 t1 t5 t6
 intro T t0 t1 t5 t21
 rw[← hK,ws_n]
 clear hK
 generalize hK:WSeq _ _ _ _ _=K
 by_cases c1:(bH ws f.slots).2=false
 ·have b1:(!(bH ws f.slots).2)=true:=by simp[c1]
  rw[b1] at t21
  simp[go_sem,t0,t21,a1 H hw]
  rw[← hK,ws_r]
  have e:rrCol ws f.slots=colP ws 1:=by
   unfold rrCol
   rw[if_pos c1]
  exact⟨.inr rfl,_,_,rfl,trivial,by rw[e];rfl,Fr.app _ _ _,ear 1 (by omega) (by omega) e⟩
 have c1' : (bH ws f.slots).2=true:=by simpa using c1
 have b1:(!(bH ws f.slots).2)=false:=by simp[c1']
 rw[b1] at t21
 simp[go_sem,t21]
 rw[← hK,ws_n,aw_seq]
 clear hK
 generalize hK:WSeq _ _ _ _ _=K
 simp[go_sem,t0,a2 H hw]
 rw[show rNum ws 2 0 10000000=rqIn ws from rfl]
 suffices hsuf : ∀ T,Am.get T 0 = .sl wb 0 ws.length 0 → Am.get T 1 = .ptr fb 0 0 0 → Am.get T 5 = .int .i64 (bH ws f.slots).1 → Am.get T 7 = .int .i64 (rqIn ws).1 → Am.get T 6 = .bool (rqIn ws).2 → K .normal T H from hsuf _ (by repeat(rw[getN (by omega)]);exact t0) (by repeat(rw[getN (by omega)]);exact t1) (by repeat(rw[getN (by omega)]);exact t5) rfl rfl
 clear t0 t1 t5 t21
 intro T t0 t1 t5 t7 t6
 rw[← hK,ws_n,aw_seq,aw_seq]
 clear hK
 generalize hK:WSeq _ _ _ _ _=K
 simp[go_sem,t0,t6]
 suffices hsuf : ∀ T,Am.get T 0 = .sl wb 0 ws.length 0 → Am.get T 1 = .ptr fb 0 0 0 → Am.get T 5 = .int .i64 (bH ws f.slots).1 → Am.get T 7 = .int .i64 (rqIn ws).1 → Am.get T 30 = .bool (!(rqIn ws).2) → K .normal T H from hsuf _ (by repeat(rw[getN (by omega)]);exact t0) (by repeat(rw[getN (by omega)]);exact t1) (by repeat(rw[getN (by omega)]);exact t5) (by repeat(rw[getN (by omega)]);exact t7) rfl
 clear t0 t1 t5 t7 t6
 intro T t0 t1 t5 t7 t30
 rw[← hK,ws_n]
 clear hK
 generalize hK:WSeq _ _ _ _ _=K
 by_cases c2:(rqIn ws).2=false
 ·have b2:(!(rqIn ws).2)=true:=by simp[c2]
  rw[b2] at t30
  simp[go_sem,t0,t30,a1 H hw]
  rw[← hK,ws_r]
  have e:rrCol ws f.slots=colP ws 2:=by
   unfold rrCol
   rw[if_neg c1,if_pos c2]
  exact⟨.inr rfl,_,_,rfl,trivial,by rw[e];rfl,Fr.app _ _ _,ear 2 (by omega) (by omega) e⟩
 have c2' : (rqIn ws).2=true:=by simpa using c2
 have b2:(!(rqIn ws).2)=false:=by simp[c2']
 rw[b2] at t30
 simp[go_sem,t30]
 rw[← hK,ws_n,aw_seq]
 clear hK
 generalize hK:WSeq _ _ _ _ _=K
 simp[go_sem,t0,a2 H hw]
 rw[show rNum ws 3 0 10000000=rqOut ws from rfl]
 suffices hsuf : ∀ T,Am.get T 0 = .sl wb 0 ws.length 0 → Am.get T 1 = .ptr fb 0 0 0 → Am.get T 5 = .int .i64 (bH ws f.slots).1 → Am.get T 7 = .int .i64 (rqIn ws).1 → Am.get T 8 = .int .i64 (rqOut ws).1 → Am.get T 6 = .bool (rqOut ws).2 → K .normal T H from hsuf _ (by repeat(rw[getN (by omega)]);exact t0) (by repeat(rw[getN (by omega)]);exact t1) (by repeat(rw[getN (by omega)]);exact t5) (by repeat(rw[getN (by omega)]);exact t7) rfl rfl
 clear t0 t1 t5 t7 t30
 intro T t0 t1 t5 t7 t8 t6
 rw[← hK,ws_n,aw_seq,aw_seq]
 clear hK
 generalize hK:WSeq _ _ _ _ _=K
 simp[go_sem,t0,t6]
 suffices hsuf : ∀ T,Am.get T 0 = .sl wb 0 ws.length 0 → Am.get T 1 = .ptr fb 0 0 0 → Am.get T 5 = .int .i64 (bH ws f.slots).1 → Am.get T 7 = .int .i64 (rqIn ws).1 → Am.get T 8 = .int .i64 (rqOut ws).1 → Am.get T 39 = .bool (!(rqOut ws).2) → K .normal T H from hsuf _ (by repeat(rw[getN (by omega)]);exact t0) (by repeat(rw[getN (by omega)]);exact t1) (by repeat(rw[getN (by omega)]);exact t5) (by repeat(rw[getN (by omega)]);exact t7) (by repeat(rw[getN (by omega)]);exact t8) rfl
 clear t0 t1 t5 t7 t8 t6
 intro T t0 t1 t5 t7 t8 t39
 rw[← hK,ws_n]
 clear hK
 generalize hK:WSeq _ _ _ _ _=K
 by_cases c3:(rqOut ws).2=false
 ·have b3:(!(rqOut ws).2)=true:=by simp[c3]
  rw[b3] at t39
  simp[go_sem,t0,t39,a1 H hw]
  rw[← hK,ws_r]
  have e:rrCol ws f.slots=colP ws 3:=by
   unfold rrCol
   rw[if_neg c1,if_neg c2,if_pos c3]
  exact⟨.inr rfl,_,_,rfl,trivial,by rw[e];rfl,Fr.app _ _ _,ear 3 (by omega) (by omega) e⟩
 have c3' : (rqOut ws).2=true:=by simpa using c3
 have b3:(!(rqOut ws).2)=false:=by simp[c3']
 rw[b3] at t39
 simp[go_sem,t39]
 rw[← hK,ws_n,aw_seq]
 clear hK
 generalize hK:WSeq _ _ _ _ _=K
 simp[go_sem,t0,a2 H hw]
 rw[show rNum ws 4 (-10000000) 10000000=rqVar ws from rfl]
 suffices hsuf : ∀ T,Am.get T 0 = .sl wb 0 ws.length 0 → Am.get T 1 = .ptr fb 0 0 0 → Am.get T 5 = .int .i64 (bH ws f.slots).1 → Am.get T 7 = .int .i64 (rqIn ws).1 → Am.get T 8 = .int .i64 (rqOut ws).1 → Am.get T 9 = .int .i64 (rqVar ws).1 → Am.get T 6 = .bool (rqVar ws).2 → K .normal T H from hsuf _ (by repeat(rw[getN (by omega)]);exact t0) (by repeat(rw[getN (by omega)]);exact t1) (by repeat(rw[getN (by omega)]);exact t5) (by repeat(rw[getN (by omega)]);exact t7) (by repeat(rw[getN (by omega)]);exact t8) rfl rfl
 clear t0 t1 t5 t7 t8 t39
 intro T t0 t1 t5 t7 t8 t9 t6
 rw[← hK,ws_n,aw_seq,aw_seq]
 clear hK
 generalize hK:WSeq _ _ _ _ _=K
 simp[go_sem,t0,t6]
 suffices hsuf : ∀ T,Am.get T 0 = .sl wb 0 ws.length 0 → Am.get T 1 = .ptr fb 0 0 0 → Am.get T 5 = .int .i64 (bH ws f.slots).1 → Am.get T 7 = .int .i64 (rqIn ws).1 → Am.get T 8 = .int .i64 (rqOut ws).1 → Am.get T 9 = .int .i64 (rqVar ws).1 → Am.get T 48 = .bool (!(rqVar ws).2) → K .normal T H from hsuf _ (by repeat(rw[getN (by omega)]);exact t0) (by repeat(rw[getN (by omega)]);exact t1) (by repeat(rw[getN (by omega)]);exact t5) (by repeat(rw[getN (by omega)]);exact t7) (by repeat(rw[getN (by omega)]);exact t8) (by repeat(rw[getN (by omega)]);exact t9) rfl
 clear t0 t1 t5 t7 t8 t9 t6
 intro T t0 t1 t5 t7 t8 t9 t48
 rw[← hK,ws_n]
 clear hK
 generalize hK:WSeq _ _ _ _ _=K
 by_cases c4:(rqVar ws).2=false
 ·have b4:(!(rqVar ws).2)=true:=by simp[c4]
  rw[b4] at t48
  simp[go_sem,t0,t48,a1 H hw]
  rw[← hK,ws_r]
  have e:rrCol ws f.slots=colP ws 4:=by
   unfold rrCol
   rw[if_neg c1,if_neg c2,if_neg c3,if_pos c4]
  exact⟨.inr rfl,_,_,rfl,trivial,by rw[e];rfl,Fr.app _ _ _,ear 4 (by omega) (by omega) e⟩
 have c4' : (rqVar ws).2=true:=by simpa using c4
 have b4:(!(rqVar ws).2)=false:=by simp[c4']
 rw[b4] at t48
 simp[go_sem,t48]
 rw[← hK,ws_n,aw_seq,aw_seq]
 clear hK
 generalize hK:WSeq _ _ _ _ _=K
 simp[go_sem,t0,hw,hlt]
 rw[e5]
 refine⟨⟨by omega,fun a=>⟨a,by omega⟩,fun a b=>⟨⟨a,b⟩,by omega⟩⟩,?_⟩
 have hfl:(!(wAt ws 5).toList == [65] && !(wAt ws 5).toList == [69] && !(wAt ws 5).toList == [83]) = !(flagB (wAt ws 5)):=by
  rw[aY]
  unfold flagB
  cases Bs (wAt ws 5) == [65] <;> cases Bs (wAt ws 5) == [69] <;> cases Bs (wAt ws 5) == [83] <;> rfl
 rw[hfl]
 suffices hsuf : ∀ T,Am.get T 0 = .sl wb 0 ws.length 0 → Am.get T 1 = .ptr fb 0 0 0 → Am.get T 5 = .int .i64 (bH ws f.slots).1 → Am.get T 7 = .int .i64 (rqIn ws).1 → Am.get T 8 = .int .i64 (rqOut ws).1 → Am.get T 9 = .int .i64 (rqVar ws).1 → Am.get T 66 = .bool (!(flagB (wAt ws 5))) → K .normal T H from hsuf _ (by repeat(rw[getN (by omega)]);exact t0) (by repeat(rw[getN (by omega)]);exact t1) (by repeat(rw[getN (by omega)]);exact t5) (by repeat(rw[getN (by omega)]);exact t7) (by repeat(rw[getN (by omega)]);exact t8) (by repeat(rw[getN (by omega)]);exact t9) rfl
 clear t0 t1 t5 t7 t8 t9
 intro T t0 t1 t5 t7 t8 t9 t66
 rw[← hK,ws_n]
 clear hK
 generalize hK:WSeq _ _ _ _ _=K
 by_cases c5:flagB (wAt ws 5)=false
 ·have b5:(!(flagB (wAt ws 5)))=true:=by simp[c5]
  rw[b5] at t66
  simp[go_sem,t0,t66,a1 H hw]
  rw[← hK,ws_r]
  have e:rrCol ws f.slots=colP ws 5:=by
   unfold rrCol
   rw[if_neg c1,if_neg c2,if_neg c3,if_neg c4,if_pos c5]
  exact⟨.inr rfl,_,_,rfl,trivial,by rw[e];rfl,Fr.app _ _ _,ear 5 (by omega) (by omega) e⟩
 have c5' : flagB (wAt ws 5)=true:=by simpa using c5
 have b5:(!(flagB (wAt ws 5)))=false:=by simp[c5']
 rw[b5] at t66
 simp[go_sem,t66]
 rw[← hK,ws_n,aw_seq]
 clear hK
 generalize hK:WSeq _ _ _ _ _=K
 rw[aw_draw]
 have hsz:0 < (wAt ws 5).size:=by omega
 have e:rrCol ws f.slots=0:=by
  unfold rrCol
  rw[if_neg c1,if_neg c2,if_neg c3,if_neg c4,if_neg c5]
 have ml:maxLen=9223372036854775807:=by decide
 rcases hr with ⟨rfl,h0⟩|⟨b,v,B,rfl,h2,h3,h4,h5,h6',h7,h8⟩
 ·refine awp_draw C9ok (by kernel_rfl) [0,0,2,6,14,0,0,0,0,0,512,1536,3584,8160,16352,32766,65535,131071,262143] [.quiet [0,1,2],.quiet [0,1],.quiet [0,1],.quiet [0,1],.quiet [0,1],.quiet [0],.quiet [0],.quiet [0],.quiet [0],.quiet [0],.quiet [0],.quiet [0],.quiet [0],.quiet [0],.eff 0,.eff 1,.quiet [2],.quiet [2],.eff 2] 3 (by kernel_rfl) ?_
  simp[go_sem,t0,t1,t5,t7,t8,t9,hff,hw,hlt,lf,lw,e5,hsz]
  refine⟨⟨by omega,by rw[ml];omega⟩,?_⟩
  rw[← hK,ws_n]
  simp[go_sem]
  have hfr:FrF fb H (H.set fb (fiB { f with reads:=f.reads ++ [rrR ws f.slots] } (.sl (H.length+1) 0 1 0))):=At.frFb hf _
  refine⟨.inr rfl,_,_,rfl,trivial,by rw[e];rfl,((Fr.set hf (by simp[fiB,box_t]) _).trans (Fr.app _ _ _)),.sl (H.length+1) 0 1 0,⟨?_,?_,?_⟩,fun _=>⟨?_,?_⟩⟩
  ·intro b B hB ht _
   exact hat_app (hfr.fr.keep _ _ hB (by rw[ht];decide)) _
  ·intro b n v e
   cases e
   exact .inr (by omega)
  ·intro b B hB ht hne
   exact hat_app (hfr.fil _ _ hB ht hne) _
  ·exact hat_app (hat_setS lf) _
  ·refine .inr ⟨H.length+1,0,newRowBlk 41 5 1 fun i=>List.take 5 (List.drop (i * 5) (rdV (rrR ws f.slots))),by rw[h0];rfl,?_,rfl,rfl,by rw[h0];rfl,rfl,rfl,fun i x hx=>?_⟩
   ·rw[hat_appK 1 (by simp)]
    rfl
   ·rw[h0] at hx
    cases i with
    |zero=>simp at hx;subst hx;rfl
    |succ i=>simp at hx
 ·have nfb:fb≠b:=ne_of_t hf h2 (by rw[h6'];simp only[fiB,box_t];decide)
  have nbf:b≠fb:=fun e=>nfb e.symm
  have nwb:wb≠b:=ne_of_t hw h2 (by rw[h6'];simp only[aQ];decide)
  have lb':=hat_lt h2
  refine awp_draw C9ok (by kernel_rfl) [0,0,2,6,14,0,0,0,0,0,512,1536,3584,8160,16352,32766,65535,131071,262143] [.quiet [0,1,2],.quiet [0,1],.quiet [0,1],.quiet [0,1],.quiet [0,1],.quiet [0],.quiet [0],.quiet [0],.quiet [0],.quiet [0],.quiet [0],.quiet [0],.quiet [0],.quiet [0],.eff 0,.eff 1,.quiet [2],.quiet [2],.eff 2] 3 (by kernel_rfl) ?_
  simp[go_sem,t0,t1,t5,t7,t8,t9,hff,hw,hlt,lf,lw,e5,hsz,h2,h3,h4,h5,h6',h7,nfb,nbf,lb',nwf,nwb]
  refine⟨⟨by omega,by rw[ml];omega,by omega⟩,?_⟩
  obtain⟨X,hX⟩ : ∃ X,X=appBlk B 1 fun i=>List.take 5 (List.drop (i * 5) (rdV (rrR ws f.slots))):=⟨_,rfl⟩
  rw[← hK,ws_n]
  simp[go_sem]
  have f1:Fr [25,41] H ((H.set b X).set fb (fiB { f with reads:=f.reads ++ [rrR ws f.slots] } (.sl b 0 (f.reads.length+1) (v+1)))):=(Fr.set h2 (by rw[h6'];simp) X).trans (Fr.set (B:=fiB f (.sl b 0 f.reads.length v)) (by rw[hat_setN nbf];exact hf) (by simp[fiB,box_t]) _)
  rw[hX] at f1
  refine⟨.inr rfl,_,_,rfl,trivial,by rw[e];rfl,f1.trans (Fr.app _ _ _),.sl b 0 (f.reads.length+1) (v+1),⟨?_,?_,?_⟩,fun _=>⟨?_,.inr ⟨b,v+1,X,by simp,?_,by rw[hX,← h3];rfl,by rw[hX];rfl,by rw[hX];show B.len+1=_;rw[h5];simp,by rw[hX];exact h6',by rw[hX];exact h7,fun i x hx=>?_⟩⟩⟩
  ·intro b' B' hB' ht hne
   have h1:b≠b':=fun e=>hne f.reads.length v (by rw[e])
   have h2:fb≠b':=ne_of_t hf hB' (by rw[ht];simp only[fiB,box_t];decide)
   rw[hat_appL (by simp;exact hat_lt hB'),hat_setN h2,hat_setN h1]
   exact hB'
  ·intro b' n' v' e
   cases e
   exact .inl ⟨_,_,rfl⟩
  ·intro b' B' hB' ht hne
   have h1:b≠b':=ne_of_t h2 hB' (by rw[ht,h6'];decide)
   rw[hat_appL (by simp;exact hat_lt hB'),hat_setN (fun e=>hne e.symm),hat_setN h1]
   exact hB'
  ·exact hat_app (hat_setS (by simp;exact lf)) _
  ·rw[hat_appL (by simp;exact lb'),hat_setN nfb,hat_setS lb',hX]
   rfl
  ·rw[hX]
   show(if i < B.len then B.get i else List.take 5 (List.drop ((i - B.len) * 5) (rdV (rrR ws f.slots))))=rdV x
   by_cases hi:i < B.len
   ·rw[if_pos hi]
    rw[List.getElem?_append_left (by omega)] at hx
    exact h8 i x hx
   ·rw[if_neg hi]
    rw[List.getElem?_append_right (by omega)] at hx
    have he:i - f.reads.length=0:=by
     have:=(List.getElem?_eq_some_iff.1 hx).1
     simp at this
     omega
    rw[he] at hx
    simp at hx
    subst hx
    rw[h5,he]
    rfl
end Go.Proofs.YtjokedpaidmjoaaGreatDoor.Rf
