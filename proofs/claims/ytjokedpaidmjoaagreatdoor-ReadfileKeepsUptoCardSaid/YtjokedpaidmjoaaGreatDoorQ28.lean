/- A part of the proof. -/
import Derived.Test.YtjokedpaidmjoaaGreatDoorQ27
set_option linter.all false
namespace Go.Proofs.YtjokedpaidmjoaaGreatDoor.Rf
open Go Go.RowKit Go.Proofs.YtjokedpaidmjoaaGreatDoor.Am Go.Proofs.YtjokedpaidmjoaaGreatDoor.Pu Go.Proofs.YtjokedpaidmjoaaGreatDoor
noncomputable def fq:FuncId → Option Am.Spec:=fun f=>match f with
 |50=>some spAt
 |51=>some fH
 |f=>bA f
noncomputable def C9:Ctx:={ P:=Tryz.prog,ty:=tys,fn:=fq,ext:=ext7 }
theorem C9ok:CtxOk C9:=by
 refine⟨tysOk,fun f s h=>?_,fun t K h=>(by cases h),dC⟩
 unfold C9 fq at h
 simp only at h
 split at h
 ·cases h;exact spAt_ok
 ·cases h;exact spRNum_ok
 ·exact C8ok.fn _ _ h
theorem C9_ty:C9.ty=tys:=rfl
theorem C9_fn:C9.fn=fq:=rfl
theorem C9_ext:C9.ext=ext7:=rfl
theorem C9_eqt:C9.eqt=fun _=>none:=rfl
theorem s9_at:fq 50=some spAt:=rfl
theorem s9_num:fq 51=some fH:=rfl
theorem s9_step:fq 52=some cu:=rfl
theorem s9_name:fq 49=some dB:=rfl
attribute [local go_sem] areg aseq gstep gwant astep apick aop aslice alen aappend aappendS aconvS aconvB unw opTmps opnds tmpsOf aev Am.get ofConst ofConst1 putT strip abin aun initT AThen AIn ws_n ws_r ws_e ws_g aw_seq aw_reg aw_draw aw_cond aw_block aw_skip aw_ret aw_exit aw_goto aw_label aw_loop aw_scope ANoGoto AJ ares oneOr bound asInt fieldOf ldv setSeg AV.cells AV.whole AV.cell tys Ty.agg ty9 ty3 ty2 ty5 ty4 ty89 ty21 ty37 ty46 ty83 ty73 ty81 ty41 ty23 ty25 ty27 ty28 ty48 afill zeroRow litGet litCells adraw awit adchk pchk qchk gchk looks restr tfin Has hat_z hat_s hat_len hat_appL hat_appN hat_appK hat_setS hat_setN set_appL set_appN set_appK box_t bn aD aG aH aI ax aJ row_t bq aK ay aM row_one aN
attribute [local go_sem] aQ bu aR aT aU intB_t eU dQ dR dS
attribute [local go_sem] C9_ty C9_fn C9_ext C9_eqt s9_at s9_num s9_step s9_name cu dB
attribute [local go_sem] List.set_set
set_option maxRecDepth 10000
def wAt (ws:List ByteArray) (k:Nat):ByteArray:=ws[k]?.getD ⟨#[]⟩
def rNum (ws:List ByteArray) (k:Nat) (l m:Int):Int × Bool:=((numP (wAt ws k) l m).1,(numP (wAt ws k) l m).2 == 0)
def rStep (ws:List ByteArray):=rNum ws 3 15 60
def bQ (ws:List ByteArray):=rNum ws 2 0 253402300799
def bY (ws:List ByteArray):=rNum ws 4 1 40000
def rMult (ws:List ByteArray):=rNum ws 5 1 1000
def rTurn (ws:List ByteArray):=rNum ws 6 0 3
def rFine (ws:List ByteArray):Bool:=(rStep ws).2 && stepB (rStep ws).1
def rC2 (ws:List ByteArray):Bool:=!(bQ ws).2 || (rFine ws && !((bQ ws).1.tmod (IntKind.i64.wrap (60 * (rStep ws).1)) == 0))
def rC4 (ws:List ByteArray):Bool:=!(bY ws).2 || decide (253402300799 < IntKind.i64.wrap (IntKind.i64.wrap ((bQ ws).1+IntKind.i64.wrap (IntKind.i64.wrap (60 * (rStep ws).1) * (bY ws).1)) - 1))
def rhCol (ws:List ByteArray):Int:=
 if nameL (Bs (wAt ws 1))=false then colP ws 1
 else if rC2 ws=true then colP ws 2
 else if rFine ws=false then colP ws 3
 else if rC4 ws=true then colP ws 4
 else if (rMult ws).2=false then colP ws 5
 else if (rTurn ws).2=false then colP ws 6
 else 0
def rhF (ws:List ByteArray) (f:Fi):Fi:={ f with meter:=wAt ws 1,start:=(bQ ws).1,step:=(rStep ws).1,slots:=(bY ws).1,mult:=(rMult ws).1,turn:=(rTurn ws).1 }
theorem rFine_ne {ws:List ByteArray} (h:(rStep ws).2=true) (h2:stepB (rStep ws).1=true) : ¬ IntKind.i64.wrap (60 * (rStep ws).1)=0:=by
 unfold stepB at h2
 simp at h2
 rcases h2 with (h|h)|h <;> rw[h] <;> decide
theorem At.frFb {H:Heap} {fb:Nat} {B:Blk} (h:hat H fb=some B) (X:Blk) (ht:B.t=25:=by rfl):FrF fb H (H.set fb X):=⟨Fr.set h (by rw[ht];simp) X,fun b B' h1 _ h3=>by rw[hat_setN (fun e=>h3 e.symm)];exact h1⟩
theorem cf_ge (l:List (List UInt8)) : ∀ n x,x∈cf n l → n≤x:=by
 induction l with
 |nil=>intro n x h;simp[cf] at h
 |cons w r ih=>
  intro n x h
  simp only[cf,List.mem_cons] at h
  rcases h with rfl|h
  ·omega
  ·have:=ih _ _ h;omega
theorem bN {ws:List ByteArray} {k:Int} (h0:0≤k) (h1:k < ws.length):1≤colP ws k:=by
 unfold colP
 have hl:k.toNat < (cf 1 (ws.map Bs)).length:=by rw[fe];omega
 rw[List.getD_eq_getElem?_getD,List.getElem?_eq_getElem hl]
 exact cf_ge _ _ _ (List.getElem_mem hl)
theorem sp_at {H:Heap} {wb:Nat} {ws:List ByteArray} {k:Int} (hw:hat H wb=some (strB ws)) (hn:ws.length≤1048577) (ht:tot (ws.map Bs)≤900000000) (h0:0≤k) (hk:k < ws.length):spAt [.sl wb 0 ws.length 0,.int .i64 k] H=some (.int .i64 (colP ws k),H ++ [intB (cf 1 (ws.map Bs))],True):=by
 unfold spAt
 simp only[hw,cZ,bV]
 have h1:bZ (strB ws) ws.length 0:=bK (by omega)
 simp[h1,ht,h0,fe,hk,colP]
theorem sp_num {H:Heap} {wb:Nat} {ws:List ByteArray} {k l m:Int} (hw:hat H wb=some (strB ws)) (hn:ws.length≤1048577) (hz : ∀ a∈ws,a.size≤1048576∧a.size≠0) (h0:0≤k) (hk:k < ws.length):fH [.sl wb 0 ws.length 0,.int .i64 k,.int .i64 l,.int .i64 m] H=some (.tup [.int .i64 (rNum ws k.toNat l m).1,.bool (rNum ws k.toNat l m).2],H,True):=by
 unfold fH
 simp only[hw]
 have h1:bZ (strB ws) ws.length 0:=bK (by omega)
 have hlt:k.toNat < ws.length:=by omega
 have h2:(strAt (strB ws) k.toNat).size≤1000000000:=by
  have e:strAt (strB ws) k.toNat=ws[k.toNat]:=by
   show ws.getD k.toNat _=_
   simp[hlt]
  rw[e]
  have:=hz _ (List.getElem_mem hlt)
  omega
 simp[h1,h0,hk,h2]
 exact⟨rfl,rfl⟩
set_option maxHeartbeats 1000000 in
theorem rhead_calls {H:Heap} {wb fb:Nat} {ws:List ByteArray} {f:Fi} {vr:AV} (hw:hat H wb=some (strB ws)) (hf:hat H fb=some (fiB f vr)) (hv:vr.cell=true) (h7:ws.length=7) (ht:tot (ws.map Bs)≤900000000) (hz : ∀ a∈ws,a.size≤1048576∧a.size≠0) :
  ACalls Tryz.prog 21 [.sl wb 0 ws.length 0,.ptr fb 0 0 0] H fun v H'=>v = .int .i64 (rhCol ws)∧FrF fb H H'∧(rhCol ws=0 → hat H' fb=some (fiB (rhF ws f) vr)):=by
 refine acalls_ofN (C:=C9) (nt:=119) C9ok Tryz.func21 rfl rfl ?_
 refine awalk_sound C9ok _ _ _ _ ?_
 have nwf:wb≠fb:=ne_of_t hw hf (by simp only[aQ,fiB,box_t];decide)
 have lw:=hat_lt hw
 have lf:=hat_lt hf
 have hlt:1 < ws.length:=by omega
 have a1 : ∀ G,hat G wb=some (strB ws) → ∀ k:Int,0≤k → k < 7 → spAt [.sl wb 0 ws.length 0,.int .i64 k] G=some (.int .i64 (colP ws k),G ++ [intB (cf 1 (ws.map Bs))],True):=fun G h k h0 h1=>sp_at h (by omega) ht h0 (by omega)
 have a2 : ∀ G,hat G wb=some (strB ws) → ∀ k l m:Int,0≤k → k < 7 → fH [.sl wb 0 ws.length 0,.int .i64 k,.int .i64 l,.int .i64 m] G=some (.tup [.int .i64 (rNum ws k.toNat l m).1,.bool (rNum ws k.toNat l m).2],G,True):=fun G h k l m h0 h1=>sp_num h (by omega) hz h0 (by omega)
 have e1:ws[1]=wAt ws 1:=by unfold wAt;simp[hlt]
 have w1:(wAt ws 1).size≤1048576:=by rw[← e1];exact(hz _ (List.getElem_mem hlt)).1
 have hff:=hf
 simp only[go_sem,fiB,fiV] at hff
 rw[aw_seq]
 generalize hK:WSeq _ _ _ _ _=K
 simp[go_sem]
 rw[← hK,ws_n,aw_seq,aw_seq]
 clear hK
 generalize hK:WSeq _ _ _ _ _=K
 simp[go_sem,hw,hff,hlt]
 rw[e1]
 refine⟨⟨by omega,by omega⟩,?_⟩
 rw[← hK,ws_n]
 clear hK
 generalize hK:WSeq _ _ _ _ _=K
 by_cases c1:nameL (Bs (wAt ws 1))=false
 ·simp[go_sem,c1,a1 H hw]
  rw[← hK,ws_r]
  refine⟨.inr rfl,_,_,rfl,trivial,?_,FrF.app _ _ _,?_⟩
  ·unfold rhCol
   rw[if_pos c1]
   rfl
  ·unfold rhCol
   rw[if_pos c1]
   intro q
   have:=bN (ws:=ws) (k:=1) (by omega) (by omega)
   omega
 have c1' : nameL (Bs (wAt ws 1))=true:=by simpa using c1
 simp[go_sem,c1']
 rw[← hK,ws_n,aw_seq]
 clear hK
 generalize hK:WSeq _ _ _ _ _=K
 simp[go_sem,hw,hff,hlt,lw,lf,nwf,nwf.symm]
 rw[e1]
 refine⟨by omega,?_⟩
 suffices hsuf : ∀ T G,hat G wb=some (strB ws) → hat G fb=some (fiB { f with meter:=wAt ws 1 } vr) → FrF fb H G → Am.get T 0 = .sl wb 0 ws.length 0 → Am.get T 1 = .ptr fb 0 0 0 → K .normal T G from hsuf _ _ (by rw[hat_setN nwf.symm];exact hw) (hat_setS lf) (At.frFb hf _) rfl rfl
 clear hw hf hff lw lf
 intro T G hw hf hF t0 t1
 have hff:=hf
 simp only[go_sem,fiB,fiV] at hff
 have lw:=hat_lt hw
 have lf:=hat_lt hf
 rw[← hK,ws_n,aw_seq]
 clear hK
 generalize hK:WSeq _ _ _ _ _=K
 simp[go_sem,t0,a2 G hw]
 rw[← hK,ws_n,aw_seq]
 clear hK
 generalize hK:WSeq _ _ _ _ _=K
 simp[go_sem,t0,a2 G hw]
 rw[show rNum ws 2 0 253402300799=bQ ws from rfl,show rNum ws 3 15 60=rStep ws from rfl]
 suffices hsuf : ∀ T,Am.get T 0 = .sl wb 0 ws.length 0 → Am.get T 1 = .ptr fb 0 0 0 → Am.get T 5 = .int .i64 (rStep ws).1 → Am.get T 6 = .bool (rStep ws).2 → Am.get T 7 = .int .i64 (bQ ws).1 → Am.get T 8 = .bool (bQ ws).2 → K .normal T G from hsuf _ (by repeat(rw[getN (by omega)]);exact t0) (by repeat(rw[getN (by omega)]);exact t1) rfl rfl rfl rfl
 clear t0 t1
 intro T t0 t1 t5 t6 t7 t8
 rw[← hK,ws_n,aw_seq,aw_seq]
 clear hK
 generalize hK:WSeq _ _ _ _ _=K
 have nz:=rFine_ne (ws:=ws)
 simp[go_sem,t0,t1,t5,t6,t7,t8]
 refine⟨⟨fun a=>⟨a,fun b=>⟨a,b⟩⟩,fun a b c=>⟨⟨a,b,c⟩,nz b c⟩,fun a=>⟨a,fun b c=>⟨a,b,c⟩⟩⟩,?_⟩
 suffices hsuf : ∀ T,Am.get T 0 = .sl wb 0 ws.length 0 → Am.get T 1 = .ptr fb 0 0 0 → Am.get T 5 = .int .i64 (rStep ws).1 → Am.get T 6 = .bool (rStep ws).2 → Am.get T 7 = .int .i64 (bQ ws).1 → Am.get T 50 = .bool (rC2 ws) → K .normal T G from hsuf _ (by repeat(rw[getN (by omega)]);exact t0) (by repeat(rw[getN (by omega)]);exact t1) (by repeat(rw[getN (by omega)]);exact t5) (by repeat(rw[getN (by omega)]);exact t6) (by repeat(rw[getN (by omega)]);exact t7) rfl
 clear t0 t1 t5 t6 t7 t8
 intro T t0 t1 t5 t6 t7 t50
 rw[← hK,ws_n]
 clear hK
 generalize hK:WSeq _ _ _ _ _=K
 by_cases c2:rC2 ws=true
 ·simp[go_sem,t0,t50,c2,a1 G hw]
  rw[← hK,ws_r]
  refine⟨.inr rfl,_,_,rfl,trivial,?_,hF.trans (FrF.app _ _ _),?_⟩
  ·unfold rhCol
   rw[if_neg c1,if_pos c2]
   rfl
  ·unfold rhCol
   rw[if_neg c1,if_pos c2]
   intro q
   have:=bN (ws:=ws) (k:=2) (by omega) (by omega)
   omega
 have c2' : rC2 ws=false:=by simpa using c2
 simp[go_sem,t50,c2']
 rw[← hK,ws_n,aw_seq,aw_seq]
 clear hK t50
 generalize hK:WSeq _ _ _ _ _=K
 simp[go_sem,t0,t1,t5,t6,t7]
 have hfe:(!(rStep ws).2 || !stepB (rStep ws).1) = !(rFine ws):=by unfold rFine;simp
 rw[hfe]
 suffices hsuf : ∀ T,Am.get T 0 = .sl wb 0 ws.length 0 → Am.get T 1 = .ptr fb 0 0 0 → Am.get T 5 = .int .i64 (rStep ws).1 → Am.get T 7 = .int .i64 (bQ ws).1 → Am.get T 59 = .bool (!(rFine ws)) → K .normal T G from hsuf _ (by repeat(rw[getN (by omega)]);exact t0) (by repeat(rw[getN (by omega)]);exact t1) (by repeat(rw[getN (by omega)]);exact t5) (by repeat(rw[getN (by omega)]);exact t7) rfl
 clear t0 t1 t5 t6 t7
 intro T t0 t1 t5 t7 t59
 rw[← hK,ws_n]
 clear hK
 generalize hK:WSeq _ _ _ _ _=K
 by_cases c3:rFine ws=false
 ·have b3:(!(rFine ws))=true:=by simp[c3]
  rw[b3] at t59
  simp[go_sem,t0,t59,a1 G hw]
  rw[← hK,ws_r]
  refine⟨.inr rfl,_,_,rfl,trivial,?_,hF.trans (FrF.app _ _ _),?_⟩
  ·unfold rhCol
   rw[if_neg c1,if_neg c2,if_pos c3]
   rfl
  ·unfold rhCol
   rw[if_neg c1,if_neg c2,if_pos c3]
   intro q
   have:=bN (ws:=ws) (k:=3) (by omega) (by omega)
   omega
 have c3' : rFine ws=true:=by simpa using c3
 have b3:(!(rFine ws))=false:=by simp[c3']
 rw[b3] at t59
 simp[go_sem,t59]
 rw[← hK,ws_n,aw_seq]
 clear hK
 generalize hK:WSeq _ _ _ _ _=K
 simp[go_sem,t0,a2 G hw]
 rw[show rNum ws 4 1 40000=bY ws from rfl]
 suffices hsuf : ∀ T,Am.get T 0 = .sl wb 0 ws.length 0 → Am.get T 1 = .ptr fb 0 0 0 → Am.get T 5 = .int .i64 (rStep ws).1 → Am.get T 7 = .int .i64 (bQ ws).1 → Am.get T 9 = .int .i64 (bY ws).1 → Am.get T 8 = .bool (bY ws).2 → K .normal T G from hsuf _ (by repeat(rw[getN (by omega)]);exact t0) (by repeat(rw[getN (by omega)]);exact t1) (by repeat(rw[getN (by omega)]);exact t5) (by repeat(rw[getN (by omega)]);exact t7) rfl rfl
 clear t0 t1 t5 t7 t59
 intro T t0 t1 t5 t7 t9 t8
 rw[← hK,ws_n,aw_seq,aw_seq]
 clear hK
 generalize hK:WSeq _ _ _ _ _=K
 simp[go_sem,t0,t1,t5,t7,t8,t9]
 suffices hsuf : ∀ T,Am.get T 0 = .sl wb 0 ws.length 0 → Am.get T 1 = .ptr fb 0 0 0 → Am.get T 5 = .int .i64 (rStep ws).1 → Am.get T 7 = .int .i64 (bQ ws).1 → Am.get T 9 = .int .i64 (bY ws).1 → Am.get T 78 = .bool (rC4 ws) → K .normal T G from hsuf _ (by repeat(rw[getN (by omega)]);exact t0) (by repeat(rw[getN (by omega)]);exact t1) (by repeat(rw[getN (by omega)]);exact t5) (by repeat(rw[getN (by omega)]);exact t7) (by repeat(rw[getN (by omega)]);exact t9) rfl
 clear t0 t1 t5 t7 t9 t8
 intro T t0 t1 t5 t7 t9 t78
 rw[← hK,ws_n]
 clear hK
 generalize hK:WSeq _ _ _ _ _=K
 by_cases c4:rC4 ws=true
 ·have b4:(rC4 ws)=true:=by simp[c4]
  rw[b4] at t78
  simp[go_sem,t0,t78,a1 G hw]
  rw[← hK,ws_r]
  refine⟨.inr rfl,_,_,rfl,trivial,?_,hF.trans (FrF.app _ _ _),?_⟩
  ·unfold rhCol
   rw[if_neg c1,if_neg c2,if_neg c3,if_pos c4]
   rfl
  ·unfold rhCol
   rw[if_neg c1,if_neg c2,if_neg c3,if_pos c4]
   intro q
   have:=bN (ws:=ws) (k:=4) (by omega) (by omega)
   omega
 have c4' : rC4 ws=false:=by simpa using c4
 have b4:(rC4 ws)=false:=by simp[c4']
 rw[b4] at t78
 simp[go_sem,t78]
 rw[← hK,ws_n,aw_seq]
 clear hK
 generalize hK:WSeq _ _ _ _ _=K
 simp[go_sem,t0,a2 G hw]
 rw[show rNum ws 5 1 1000=rMult ws from rfl]
 suffices hsuf : ∀ T,Am.get T 0 = .sl wb 0 ws.length 0 → Am.get T 1 = .ptr fb 0 0 0 → Am.get T 5 = .int .i64 (rStep ws).1 → Am.get T 7 = .int .i64 (bQ ws).1 → Am.get T 9 = .int .i64 (bY ws).1 → Am.get T 10 = .int .i64 (rMult ws).1 → Am.get T 8 = .bool (rMult ws).2 → K .normal T G from hsuf _ (by repeat(rw[getN (by omega)]);exact t0) (by repeat(rw[getN (by omega)]);exact t1) (by repeat(rw[getN (by omega)]);exact t5) (by repeat(rw[getN (by omega)]);exact t7) (by repeat(rw[getN (by omega)]);exact t9) rfl rfl
 clear t0 t1 t5 t7 t9 t78
 intro T t0 t1 t5 t7 t9 t10 t8
 rw[← hK,ws_n,aw_seq,aw_seq]
 clear hK
 generalize hK:WSeq _ _ _ _ _=K
 simp[go_sem,t0,t8]
 suffices hsuf : ∀ T,Am.get T 0 = .sl wb 0 ws.length 0 → Am.get T 1 = .ptr fb 0 0 0 → Am.get T 5 = .int .i64 (rStep ws).1 → Am.get T 7 = .int .i64 (bQ ws).1 → Am.get T 9 = .int .i64 (bY ws).1 → Am.get T 10 = .int .i64 (rMult ws).1 → Am.get T 87 = .bool (!(rMult ws).2) → K .normal T G from hsuf _ (by repeat(rw[getN (by omega)]);exact t0) (by repeat(rw[getN (by omega)]);exact t1) (by repeat(rw[getN (by omega)]);exact t5) (by repeat(rw[getN (by omega)]);exact t7) (by repeat(rw[getN (by omega)]);exact t9) (by repeat(rw[getN (by omega)]);exact t10) rfl
 clear t0 t1 t5 t7 t9 t10 t8
 intro T t0 t1 t5 t7 t9 t10 t87
 rw[← hK,ws_n]
 clear hK
 generalize hK:WSeq _ _ _ _ _=K
 by_cases c5:(rMult ws).2=false
 ·have b5:(!(rMult ws).2)=true:=by simp[c5]
  rw[b5] at t87
  simp[go_sem,t0,t87,a1 G hw]
  rw[← hK,ws_r]
  refine⟨.inr rfl,_,_,rfl,trivial,?_,hF.trans (FrF.app _ _ _),?_⟩
  ·unfold rhCol
   rw[if_neg c1,if_neg c2,if_neg c3,if_neg c4,if_pos c5]
   rfl
  ·unfold rhCol
   rw[if_neg c1,if_neg c2,if_neg c3,if_neg c4,if_pos c5]
   intro q
   have:=bN (ws:=ws) (k:=5) (by omega) (by omega)
   omega
 have c5' : (rMult ws).2=true:=by simpa using c5
 have b5:(!(rMult ws).2)=false:=by simp[c5']
 rw[b5] at t87
 simp[go_sem,t87]
 rw[← hK,ws_n,aw_seq]
 clear hK
 generalize hK:WSeq _ _ _ _ _=K
 simp[go_sem,t0,a2 G hw]
 rw[show rNum ws 6 0 3=rTurn ws from rfl]
 suffices hsuf : ∀ T,Am.get T 0 = .sl wb 0 ws.length 0 → Am.get T 1 = .ptr fb 0 0 0 → Am.get T 5 = .int .i64 (rStep ws).1 → Am.get T 7 = .int .i64 (bQ ws).1 → Am.get T 9 = .int .i64 (bY ws).1 → Am.get T 10 = .int .i64 (rMult ws).1 → Am.get T 11 = .int .i64 (rTurn ws).1 → Am.get T 8 = .bool (rTurn ws).2 → K .normal T G from hsuf _ (by repeat(rw[getN (by omega)]);exact t0) (by repeat(rw[getN (by omega)]);exact t1) (by repeat(rw[getN (by omega)]);exact t5) (by repeat(rw[getN (by omega)]);exact t7) (by repeat(rw[getN (by omega)]);exact t9) (by repeat(rw[getN (by omega)]);exact t10) rfl rfl
 clear t0 t1 t5 t7 t9 t10 t87
 intro T t0 t1 t5 t7 t9 t10 t11 t8
 rw[← hK,ws_n,aw_seq,aw_seq]
 clear hK
 generalize hK:WSeq _ _ _ _ _=K
 simp[go_sem,t0,t8]
 suffices hsuf : ∀ T,Am.get T 0 = .sl wb 0 ws.length 0 → Am.get T 1 = .ptr fb 0 0 0 → Am.get T 5 = .int .i64 (rStep ws).1 → Am.get T 7 = .int .i64 (bQ ws).1 → Am.get T 9 = .int .i64 (bY ws).1 → Am.get T 10 = .int .i64 (rMult ws).1 → Am.get T 11 = .int .i64 (rTurn ws).1 → Am.get T 96 = .bool (!(rTurn ws).2) → K .normal T G from hsuf _ (by repeat(rw[getN (by omega)]);exact t0) (by repeat(rw[getN (by omega)]);exact t1) (by repeat(rw[getN (by omega)]);exact t5) (by repeat(rw[getN (by omega)]);exact t7) (by repeat(rw[getN (by omega)]);exact t9) (by repeat(rw[getN (by omega)]);exact t10) (by repeat(rw[getN (by omega)]);exact t11) rfl
 clear t0 t1 t5 t7 t9 t10 t11 t8
 intro T t0 t1 t5 t7 t9 t10 t11 t96
 rw[← hK,ws_n]
 clear hK
 generalize hK:WSeq _ _ _ _ _=K
 by_cases c6:(rTurn ws).2=false
 ·have b6:(!(rTurn ws).2)=true:=by simp[c6]
  rw[b6] at t96
  simp[go_sem,t0,t96,a1 G hw]
  rw[← hK,ws_r]
  refine⟨.inr rfl,_,_,rfl,trivial,?_,hF.trans (FrF.app _ _ _),?_⟩
  ·unfold rhCol
   rw[if_neg c1,if_neg c2,if_neg c3,if_neg c4,if_neg c5,if_pos c6]
   rfl
  ·unfold rhCol
   rw[if_neg c1,if_neg c2,if_neg c3,if_neg c4,if_neg c5,if_pos c6]
   intro q
   have:=bN (ws:=ws) (k:=6) (by omega) (by omega)
   omega
 have c6' : (rTurn ws).2=true:=by simpa using c6
 have b6:(!(rTurn ws).2)=false:=by simp[c6']
 rw[b6] at t96
 simp[go_sem,t96]
 rw[← hK,ws_n,aw_seq]
 clear hK
 generalize hK:WSeq _ _ _ _ _=K
 simp[go_sem,t1,t5,t7,t9,t10,t11,hff,lf]
 rw[← hK,ws_n]
 simp[go_sem]
 refine⟨.inr rfl,_,_,rfl,trivial,?_,hF.trans (At.frFb hf _),fun _=>hat_setS lf⟩
 unfold rhCol
 rw[if_neg c1,if_neg c2,if_neg c3,if_neg c4,if_neg c5,if_neg c6]
 rfl
end Go.Proofs.YtjokedpaidmjoaaGreatDoor.Rf
