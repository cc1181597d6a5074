/- A part of the proof. -/
import Derived.Test.YtjokedpaidmjoaaGreatDoorQ19
set_option linter.all false
namespace Go.Proofs.YtjokedpaidmjoaaGreatDoor.Rf
open Go Go.RowKit Go.Proofs.YtjokedpaidmjoaaGreatDoor.Am Go.Proofs.YtjokedpaidmjoaaGreatDoor.Pu Go.Proofs.YtjokedpaidmjoaaGreatDoor
attribute [local go_sem] areg aseq gstep gwant astep apick aop aslice alen aappend aappendS aconvS aconvB unw opTmps opnds tmpsOf aev Am.get ofConst ofConst1 putT strip abin aun initT AThen AIn ws_n ws_r ws_e ws_g aw_seq aw_reg aw_draw aw_cond aw_block aw_skip aw_ret aw_exit aw_goto aw_label aw_loop aw_scope ANoGoto AJ ares oneOr bound asInt fieldOf ldv setSeg AV.cells AV.whole AV.cell tys Ty.agg ty9 ty3 ty2 ty5 ty4 ty89 ty21 ty37 ty46 ty83 ty73 ty81 ty41 ty23 ty25 ty27 ty28 ty48 afill zeroRow litGet litCells adraw awit adchk pchk qchk gchk looks restr tfin Has hat_z hat_s hat_len hat_appL hat_appN hat_appK hat_setS hat_setN set_appL set_appN set_appK box_t bn aD aG aH aI ax aJ row_t bq aK ay aM row_one aN
attribute [local go_sem] aQ bu aR aT aU intB_t eU dQ dR dS
attribute [local go_sem] C8_ty C8_fn C8_ext C8_eqt s8_num1 s8_is s8_good s8_name s8_cols s8_flag s8_step s8_words fZ s8_text s8_last dU fI spIs cu
attribute [local go_sem] List.set_set
set_option maxRecDepth 10000
structure At (H:Heap) (sb lb wb fb:Nat) (s:Sr) (f:Fi) (vr:AV):Prop where
 src:Src H sb s lb (.sl wb 0 s.words.length 0)
 wds:hat H wb=some (strB s.words)
 fil:hat H fb=some (fiB f vr)
theorem At.call {H H' : Heap} {sb lb wb fb:Nat} {s:Sr} {f:Fi} {vr:AV} (h:At H sb lb wb fb s f vr) (b:Bool) (hs:Src H' sb (takeS s b) lb (.sl wb 0 s.words.length 0)) (hF:Fr [81] H H'):At H' sb lb wb fb (takeS s b) f vr:=
 ⟨hs,hF.keep _ _ h.wds (by rw[aQ];decide),hF.keep _ _ h.fil (by simp[fiB,box_t])⟩
theorem At.bad {H H' : Heap} {sb lb wb fb:Nat} {s:Sr} {f:Fi} {vr:AV} (h:At H sb lb wb fb s f vr) (hs:Src H' sb (badS s) lb (.sl wb 0 s.words.length 0)) (hF:Fr [81] H H'):At H' sb lb wb fb (badS s) f vr:=
 ⟨hs,hF.keep _ _ h.wds (by rw[aQ];decide),hF.keep _ _ h.fil (by simp[fiB,box_t])⟩
theorem At.nsf {H:Heap} {sb lb wb fb:Nat} {s:Sr} {f:Fi} {vr:AV} (h:At H sb lb wb fb s f vr):sb≠fb:=ne_of_t h.src.src h.fil (by simp only[fiB,srcB,box_t];decide)
theorem At.nlf {H:Heap} {sb lb wb fb:Nat} {s:Sr} {f:Fi} {vr:AV} (h:At H sb lb wb fb s f vr):lb≠fb:=ne_of_t h.src.lns h.fil (by simp only[fiB,aQ,box_t];decide)
theorem At.nwf {H:Heap} {sb lb wb fb:Nat} {s:Sr} {f:Fi} {vr:AV} (h:At H sb lb wb fb s f vr):wb≠fb:=ne_of_t h.wds h.fil (by simp only[fiB,aQ,box_t];decide)
theorem At.setF {H:Heap} {sb lb wb fb:Nat} {s:Sr} {f:Fi} {vr:AV} (h:At H sb lb wb fb s f vr) (f' : Fi) (vr' : AV):At (H.set fb (fiB f' vr')) sb lb wb fb s f' vr':=
 ⟨⟨by rw[hat_setN h.nsf.symm];exact h.src.src,by rw[hat_setN h.nlf.symm];exact h.src.lns⟩,by rw[hat_setN h.nwf.symm];exact h.wds,hat_setS (hat_lt h.fil)⟩
structure FrF (fb:Nat) (H H' : Heap):Prop where
 fr:Fr [81,25] H H'
 fil : ∀ b B,hat H b=some B → B.t=25 → b≠fb → hat H' b=some B
theorem FrF.trans {fb:Nat} {H H' H'' : Heap} (h:FrF fb H H') (k:FrF fb H' H''):FrF fb H H'':=⟨h.fr.trans k.fr,fun b B h1 h2 h3=>k.fil _ _ (h.fil _ _ h1 h2 h3) h2 h3⟩
theorem FrF.app (fb:Nat) (H L:Heap):FrF fb H (H ++ L):=⟨Fr.app _ _ _,fun b B h1 _ _=>hat_app h1 L⟩
theorem FrF.set' {fb q:Nat} {H H' : Heap} {X:Blk} (h:FrF fb H H') (hq:H.length≤q):FrF fb H (H'.set q X):=⟨Fr.set' h.fr hq,fun b B h1 h2 h3=>by
 have:=hat_lt h1
 rw[hat_setN (by omega)]
 exact h.fil _ _ h1 h2 h3⟩
theorem At.frF {H:Heap} {sb lb wb fb:Nat} {s:Sr} {f:Fi} {vr:AV} (h:At H sb lb wb fb s f vr) (X:Blk):FrF fb H (H.set fb X):=⟨Fr.set h.fil (by simp[fiB,box_t]) X,fun b B h1 _ h3=>by rw[hat_setN (fun e=>h3 e.symm)];exact h1⟩
theorem fr_sf {fb:Nat} {H H' : Heap} (h:Fr [81] H H'):FrF fb H H':=⟨h.mono (by simp),fun b B h1 h2 _=>h.keep _ _ h1 (by rw[h2];decide)⟩
theorem Wok.take {s:Sr} (h:Wok s) (b:Bool) (hw:s.word < 1000):Wok (takeS s b):=⟨h.n,h.w,h.t,by have:=h.k0;show 0≤s.word+1;omega,by show s.word+1 < _;omega⟩
theorem Wok.wr {s:Sr} (h:Wok s) (c:Int):Wok { s with wrong:=c }:=⟨h.n,h.w,h.t,h.k0,h.k⟩
def hd1 (s:Sr):Sr:=takeS s (nameL (Bs (s.words[(s.word+1).toNat]?.getD ⟨#[]⟩)))
def bL (s:Sr):=numS (hd1 s) 0 253402300799
def hd2 (s:Sr):Sr:=takeS (hd1 s) (bL s).2
def bF (s:Sr):=numS (hd2 s) 15 60
def hd3 (s:Sr):Sr:=takeS (hd2 s) (bF s).2
def df (s:Sr):Bool:=(bF s).2 && stepB (bF s).1
def hdC (s:Sr):Bool:=((bL s).2 && df s) && !((bL s).1.tmod (IntKind.i64.wrap (60 * (bF s).1)) == 0)
def hd4 (s:Sr):Sr:={ hd3 s with wrong:=if hdC s=true then colP s.words 2 else (hd3 s).wrong }
def hd5 (s:Sr):Sr:={ hd4 s with wrong:=if df s=true then (hd4 s).wrong else (badS (hd4 s)).wrong }
def dV (s:Sr):=numS (hd5 s) 1 40000
def hd6 (s:Sr):Sr:=takeS (hd5 s) (dV s).2
def hdD (s:Sr):Bool:=((hd6 s).wrong == 0) && decide (253402300799 < IntKind.i64.wrap (IntKind.i64.wrap ((bL s).1+IntKind.i64.wrap (IntKind.i64.wrap (60 * (bF s).1) * (dV s).1)) - 1))
def hd7 (s:Sr):Sr:={ hd6 s with wrong:=if hdD s=true then (badS (hd6 s)).wrong else (hd6 s).wrong }
def hdMult (s:Sr):=numS (hd7 s) 1 1000
def hd8 (s:Sr):Sr:=takeS (hd7 s) (hdMult s).2
def hdTurn (s:Sr):=numS (hd8 s) 0 3
def hd9 (s:Sr):Sr:=takeS (hd8 s) (hdTurn s).2
def hdF (s:Sr) (f:Fi):Fi:={ f with meter:=s.words[(s.word+1).toNat]?.getD ⟨#[]⟩,start:=(bL s).1,step:=(bF s).1,slots:=(dV s).1,mult:=(hdMult s).1,turn:=(hdTurn s).1 }
theorem num_ok0 {s:Sr} {l m:Int} (h:(numS s l m).2=true):(takeS s true).wrong=0:=by
 rw[takeS_ok]
 unfold numS at h
 split at h
 ·assumption
 ·cases h
theorem word_small {s:Sr} (hk:Wok s) (i:Nat):(s.words[i]?.getD ⟨#[]⟩).size≤1048576:=by
 cases hq:s.words[i]? with
 |none=>exact Nat.zero_le _
 |some a=>exact(hk.w a (List.mem_of_getElem? hq)).1
def dA (f:Func):Code:=f.body.getD .skip
def tl:Code → Code
 |.seq _ y=>y
 |c=>c
def hdc:Code → Code
 |.seq x _=>x
 |c=>c
def tln:Nat → Code → Code
 |0,c=>c
 |n+1,c=>tln n (tl c)
attribute [local go_sem] dA tl hdc tln
theorem hdFine_ne {s:Sr} (h:df s=true) : ¬ IntKind.i64.wrap (60 * (bF s).1)=0:=by
 unfold df stepB at h
 have h:(bF s).1=15∨(bF s).1=30∨(bF s).1=60:=by simp at h;omega
 rw[av (by omega) (by omega)]
 omega
theorem hd_at {s:Sr} (h:(bL s).2=true):(hd2 s).wrong=0:=by
 have:=num_ok0 (s:=hd1 s) (l:=0) (m:=253402300799) h
 unfold hd2
 rw[h]
 exact this
set_option maxHeartbeats 4000000 in
theorem head_5 {H H3:Heap} {T:Tmps} {sb lb wb fb:Nat} {s:Sr} {f1' : Fi} {vr:AV} {x st at_:Int} {ok fine c:Bool} (hc:c=((ok && fine) && !(x.tmod (IntKind.i64.wrap (60 * st)) == 0))) (hne:fine=true → ¬ IntKind.i64.wrap (60 * st)=0) (hz0:ok=true → at_=0) (a3:At H3 sb lb wb fb s f1' vr) (hk:Wok s) (h7:s.words.length=7) (t0:Am.get T 0 = .ptr sb 0 0 0) (t1:Am.get T 1 = .ptr fb 0 0 0) (t4:Am.get T 4 = .int .i64 x) (t5:Am.get T 5 = .bool ok) (t6:Am.get T 6 = .int .i64 at_) (t7:Am.get T 7 = .int .i64 st) (t8:Am.get T 8 = .bool fine) :
  awalk C8 127 H (hdc (tln 5 (dA Tryz.f28))) (fun e T1 G=>e = .normal∧Am.get T1 0 = .ptr sb 0 0 0∧Am.get T1 1 = .ptr fb 0 0 0∧Am.get T1 4 = .int .i64 x∧Am.get T1 7 = .int .i64 st∧Am.get T1 8 = .bool fine∧At G sb lb wb fb { s with wrong:=if c=true then colP s.words 2 else s.wrong } f1' vr∧Fr [81] H3 G) T H3:=by
 simp only[dA,Tryz.f28,Option.getD_some,tln,tl,hdc]
 rw[aw_seq]
 generalize hK:WSeq _ _ _ _ _=K
 have src3:=a3.src.src
 have wds3:hat H3 wb=some (strB s.words):=a3.wds
 have n3:=a3.src.ne
 have m3:=Wds.ne a3.src a3.wds
 have l3:=hat_lt src3
 have lw3:=hat_lt wds3
 have hrow:bZ (strB s.words) s.words.length 0:=bK (by omega)
 simp only[go_sem,srcB] at src3
 have hc2:2 < (cf 1 (List.map Bs s.words)).length:=by rw[fe];omega
 have hc3:(2:Int) < (s.words.length:Int):=by omega
 have hc4:2 < s.words.length:=by omega
 refine aw_split 13 (fun T5 G=>H3=G∧Am.get T5 0 = .ptr sb 0 0 0∧Am.get T5 1 = .ptr fb 0 0 0∧Am.get T5 4 = .int .i64 x∧Am.get T5 7 = .int .i64 st∧Am.get T5 8 = .bool (fine)∧Am.get T5 6 = .int .i64 at_∧Am.get T5 49 = .bool c∧Am.get T5 50 = .opt c (.int .i64 at_)) ?_ ?_
 ·simp[go_sem,t0,t1,t4,t5,t6,t7,t8,hc]
  refine⟨fun h1 h2=>⟨⟨h1,h2⟩,hne h2⟩,rfl⟩
 clear t0 t1 t4 t5 t6 t7 t8
 rintro T5 G ⟨rfl,t0,t1,t4,t7,t8,t6,t49,t50⟩
 cases c with
 |false=>
  simp[go_sem,t0,t1,t4,t6,t7,t8,t49,t50,src3,wds3]
  rw[← hK,ws_n]
  simp[go_sem,t0,t1,t4,t6,t7,t8,t49,t50]
  exact⟨a3,Fr.refl _ _⟩
 |true=>
  have hok:ok=true:=by have hc:=hc.symm;simp at hc;exact hc.1.1
  have hat0:=hz0 hok
  rw[hat0] at t6 t50
  simp[go_sem,t0,t1,t4,t6,t7,t8,t49,t50,src3,wds3,n3,m3,l3,lw3,hrow,cZ,bV,hk.t,fe,hc2,hc3]
  rw[← hK,ws_n]
  simp[go_sem,t0,t1,t4,t6,t7,t8,t49,t50,src3,wds3,n3,m3,l3,lw3,hrow,cZ,bV,hk.t,fe,hc2,hc3]
  refine⟨hc4,?_,(a3.src.fr _).trans (Fr.app _ _ _)⟩
  show At _ sb lb wb fb { s with wrong:=colP s.words 2 } f1' vr
  have hS4:=(a3.src.set { s with wrong:=colP s.words 2 } (.sl wb 0 s.words.length 0) rfl).app [intB (cf 1 (s.words.map Bs))]
  have hF4:Fr [81] H3 (H3.set sb (srcB lb (.sl wb 0 s.words.length 0) { s with wrong:=colP s.words 2 }) ++ [intB (cf 1 (s.words.map Bs))]):=(a3.src.fr _).trans (Fr.app _ _ _)
  have:=(⟨hS4,hF4.keep _ _ a3.wds (by rw[aQ];decide),hF4.keep _ _ a3.fil (by simp[fiB,box_t])⟩ : At _ sb lb wb fb { s with wrong:=colP s.words 2 } f1' vr)
  simpa [srcB,colP,hc2] using this
set_option maxHeartbeats 4000000 in
theorem head_E {H G7:Heap} {T3:Tmps} {sb lb wb fb:Nat} {s:Sr} {f1' : Fi} {vr:AV} (hvr:vr.cell=true) (hm:f1'.meter=s.words[(s.word+1).toNat]?.getD ⟨#[]⟩) (khd7:Wok (hd7 s)) (whd7:(hd7 s).word=4) (h7:s.words.length=7) (t0:Am.get T3 0 = .ptr sb 0 0 0) (t1:Am.get T3 1 = .ptr fb 0 0 0) (t4:Am.get T3 4 = .int .i64 (bL s).1) (t7:Am.get T3 7 = .int .i64 (bF s).1) (t9:Am.get T3 9 = .int .i64 (dV s).1) (a7:At G7 sb lb wb fb (hd7 s) f1' vr) (g7:FrF fb H G7) :
  awalk C8 127 H (tln 9 (dA Tryz.f28)) (ABodyN C8 Tryz.f28 fun v H'=>v = .tup []∧At H' sb lb wb fb (hd9 s) (hdF s f1') vr∧FrF fb H H') T3 G7:=by
 simp only[dA,Tryz.f28,Option.getD_some,tln,tl,hdc]
 rw[aw_seq]
 generalize hK:WSeq _ _ _ _ _=K
 simp[go_sem]
 refine awp_region (aops_pref C8ok 1 ?_)
 simp[go_sem,t0]
 refine aops_call rfl rfl rfl rfl Tryz.func58 (by kernel_rfl) (by kernel_rfl) (bg 1 1000 a7.src a7.wds khd7 (by rw[whd7];show _ < ((s.words.length:Nat):Int);omega)) ?_
 rintro v G8 ⟨rfl,h8,f8⟩
 have a8:At G8 sb lb wb fb (hd8 s) f1' vr:=a7.call _ h8 f8
 rw[show numS (hd7 s) 1 1000=hdMult s from rfl]
 refine⟨_,rfl,aops_pref C8ok 5 ?_⟩
 simp[go_sem,t0]
 refine aops_nil ?_
 have khd8:Wok (hd8 s):=khd7.take _ (by omega)
 have whd8:(hd8 s).word=5:=by show(hd7 s).word+1=5;omega
 rw[← hK,ws_n,aw_seq]
 clear hK
 generalize hK:WSeq _ _ _ _ _=K
 simp[go_sem]
 refine awp_region (aops_pref C8ok 1 ?_)
 simp[go_sem,t0]
 refine aops_call rfl rfl rfl rfl Tryz.func58 (by kernel_rfl) (by kernel_rfl) (bg 0 3 a8.src a8.wds khd8 (by rw[whd8];show _ < ((s.words.length:Nat):Int);omega)) ?_
 rintro v G9 ⟨rfl,h9,f9⟩
 have a9:At G9 sb lb wb fb (hd9 s) f1' vr:=a8.call _ h9 f9
 rw[show numS (hd8 s) 0 3=hdTurn s from rfl]
 refine⟨_,rfl,aops_pref C8ok 5 ?_⟩
 simp[go_sem,t0]
 refine aops_nil ?_
 rw[← hK,ws_n]
 clear hK
 have fil9:=a9.fil
 have lf9:=hat_lt fil9
 simp only[go_sem,fiB,fiV] at fil9
 simp[go_sem,t0,t1,t4,t7,t9,fil9,lf9,hvr]
 refine⟨.inl rfl,_,_,rfl,trivial,rfl,?_,(((g7.trans (fr_sf f8)).trans (fr_sf f9)).trans (a9.frF _))⟩
 have:=a9.setF (hdF s f1') vr
 have em:(hdF s f1').meter=f1'.meter:=hm.symm
 simpa [fiB,fiV,hdF,hm] using this
set_option maxHeartbeats 4000000 in
theorem head_D {H G4:Heap} {T1:Tmps} {sb lb wb fb:Nat} {s:Sr} {f1' : Fi} {vr:AV} (hvr:vr.cell=true) (hm:f1'.meter=s.words[(s.word+1).toNat]?.getD ⟨#[]⟩) (khd3:Wok (hd3 s)) (whd3:(hd3 s).word=3) (h7:s.words.length=7) (t0:Am.get T1 0 = .ptr sb 0 0 0) (t1:Am.get T1 1 = .ptr fb 0 0 0) (t4:Am.get T1 4 = .int .i64 (bL s).1) (t7:Am.get T1 7 = .int .i64 (bF s).1) (t8:Am.get T1 8 = .bool (df s)) (a4:At G4 sb lb wb fb (hd4 s) f1' vr) (g4:FrF fb H G4) :
  awalk C8 127 H (tln 6 (dA Tryz.f28)) (ABodyN C8 Tryz.f28 fun v H'=>v = .tup []∧At H' sb lb wb fb (hd9 s) (hdF s f1') vr∧FrF fb H H') T1 G4:=by
 simp only[dA,Tryz.f28,Option.getD_some,tln,tl,hdc]
 have khd4:Wok (hd4 s):=khd3.wr _
 refine awalk_mid (fun T2 G=>Am.get T2 0 = .ptr sb 0 0 0∧Am.get T2 1 = .ptr fb 0 0 0∧Am.get T2 4 = .int .i64 (bL s).1∧Am.get T2 7 = .int .i64 (bF s).1∧At G sb lb wb fb (hd5 s) f1' vr∧Fr [81] G4 G) ?_ ?_
 ·rw[aw_seq]
  generalize hK:WSeq _ _ _ _ _=K
  simp[go_sem,t8]
  rw[← hK,ws_n]
  cases hfi:df s with
  |true=>
   simp[go_sem,hfi,t0,t1,t4,t7]
   have e5:hd5 s=hd4 s:=by unfold hd5;rw[if_pos hfi]
   rw[e5]
   exact⟨a4,Fr.refl _ _⟩
  |false=>
   simp[go_sem,hfi,t0,t1]
   refine awp_region (aops_pref C8ok 1 ?_)
   simp[go_sem,t0]
   refine aops_call rfl rfl rfl rfl Tryz.func61 (by kernel_rfl) (by kernel_rfl) (bad_calls a4.src a4.wds khd4 (by show(hd3 s).word < ((s.words.length:Nat):Int);omega)) ?_
   rintro v G5 ⟨rfl,h5,f5⟩
   have a5:=a4.bad h5 f5
   refine⟨_,rfl,aops_nil ?_⟩
   simp[go_sem,t0,t1,t4,t7]
   have e5:hd5 s=badS (hd4 s):=by unfold hd5;rw[if_neg (by rw[hfi];decide)];rfl
   rw[e5]
   exact⟨a5,f5⟩
 clear t0 t1 t4 t7 t8
 rintro T2 G5 ⟨t0,t1,t4,t7,a5,g5⟩
 have khd5:Wok (hd5 s):=khd4.wr _
 have whd5:(hd5 s).word=3:=whd3
 rw[aw_seq]
 generalize hK:WSeq _ _ _ _ _=K
 simp[go_sem]
 refine awp_region (aops_pref C8ok 1 ?_)
 simp[go_sem,t0]
 refine aops_call rfl rfl rfl rfl Tryz.func58 (by kernel_rfl) (by kernel_rfl) (bg 1 40000 a5.src a5.wds khd5 (by rw[whd5];show _ < ((s.words.length:Nat):Int);omega)) ?_
 rintro v G6 ⟨rfl,h6,f6⟩
 have a6:At G6 sb lb wb fb (hd6 s) f1' vr:=a5.call _ h6 f6
 rw[show numS (hd5 s) 1 40000=dV s from rfl]
 refine⟨_,rfl,aops_pref C8ok 5 ?_⟩
 simp[go_sem,t0]
 refine aops_nil ?_
 rw[← hK,ws_n]
 clear hK
 have khd6:Wok (hd6 s):=khd5.take _ (by omega)
 have whd6:(hd6 s).word=4:=by show(hd5 s).word+1=4;omega
 refine awalk_mid (fun T3 G=>Am.get T3 0 = .ptr sb 0 0 0∧Am.get T3 1 = .ptr fb 0 0 0∧Am.get T3 4 = .int .i64 (bL s).1∧Am.get T3 7 = .int .i64 (bF s).1∧Am.get T3 9 = .int .i64 (dV s).1∧At G sb lb wb fb (hd7 s) f1' vr∧Fr [81] G6 G) ?_ ?_
 ·rw[aw_seq]
  generalize hK:WSeq _ _ _ _ _=K
  have src6:=a6.src.src
  simp only[go_sem,srcB] at src6
  simp[go_sem,src6,t0,t4,t7]
  rw[show(((hd6 s).wrong == 0) && decide (253402300799 < IntKind.i64.wrap (IntKind.i64.wrap ((bL s).1+IntKind.i64.wrap (IntKind.i64.wrap (60 * (bF s).1) * (dV s).1)) - 1)))=hdD s from rfl]
  rw[← hK,ws_n]
  cases hD:hdD s with
  |false=>
   simp[go_sem,hD,t0,t1,t4,t7]
   have e7:hd7 s=hd6 s:=by unfold hd7;rw[if_neg (by rw[hD];decide)]
   rw[e7]
   exact⟨a6,Fr.refl _ _⟩
  |true=>
   simp[go_sem,hD,t0,t1]
   refine awp_region (aops_pref C8ok 1 ?_)
   simp[go_sem,t0]
   refine aops_call rfl rfl rfl rfl Tryz.func61 (by kernel_rfl) (by kernel_rfl) (bad_calls a6.src a6.wds khd6 (by rw[whd6];show _ < ((s.words.length:Nat):Int);omega)) ?_
   rintro v G7 ⟨rfl,h7',f7⟩
   have a7:=a6.bad h7' f7
   refine⟨_,rfl,aops_nil ?_⟩
   simp[go_sem,t0,t1,t4,t7]
   have e7:hd7 s=badS (hd6 s):=by unfold hd7;rw[if_pos hD];rfl
   rw[e7]
   exact⟨a7,f7⟩
 clear t0 t1 t4 t7
 rintro T3 G7 ⟨t0,t1,t4,t7,t9,a7,g7⟩
 exact head_E hvr hm (khd6.wr _) whd6 h7 t0 t1 t4 t7 t9 a7 (((g4.trans (fr_sf g5)).trans (fr_sf f6)).trans (fr_sf g7))
set_option maxRecDepth 100000 in
set_option maxHeartbeats 4000000 in
theorem head_calls {H:Heap} {sb lb wb fb:Nat} {s:Sr} {f:Fi} {vr:AV} (ha:At H sb lb wb fb s f vr) (hvr:vr.cell=true) (hk:Wok s) (h7:s.words.length=7) (h0:s.word=0) (hz:s.wrong=0) :
  ACalls Tryz.prog 28 [.ptr sb 0 0 0,.ptr fb 0 0 0] H fun v H'=>v = .tup []∧At H' sb lb wb fb (hd9 s) (hdF s f) vr∧FrF fb H H':=by
 refine acalls_ofN (C:=C8) (nt:=127) C8ok Tryz.func28 rfl rfl ?_
 refine awalk_sound C8ok _ _ _ _ ?_
 rw[aw_seq]
 generalize hK:WSeq _ _ _ _ _=K
 simp[go_sem]
 refine awp_region (aops_pref C8ok 2 ?_)
 simp[go_sem]
 refine aops_call rfl rfl rfl rfl Tryz.func31 (by kernel_rfl) (by kernel_rfl) (dY ha.src ha.wds hk (by omega) s8_name rfl (fun _=>Nat.le_trans (word_small hk _) (by decide))) ?_
 rintro v H1 ⟨rfl,h1,f1⟩
 have a1:At H1 sb lb wb fb (hd1 s) f vr:=ha.call _ h1 f1
 have fil1:=a1.fil
 have lf1:=hat_lt fil1
 simp only[go_sem,fiB,fiV] at fil1
 refine⟨_,rfl,aops_pref C8ok 3 ?_⟩
 simp[go_sem,fil1,hvr]
 refine aops_nil ?_
 obtain⟨f1',hf1⟩ : ∃ f1' : Fi,f1' = { f with meter:=s.words[(s.word+1).toNat]?.getD ⟨#[]⟩ }:=⟨_,rfl⟩
 have b1:=a1.setF f1' vr
 have g1:=(fr_sf f1).trans (a1.frF (fiB f1' vr))
 rw[show List.set H1 fb (boxBlk 25 7 [.str (s.words[(s.word+1).toNat]?.getD ⟨#[]⟩),.int .i64 f.start,.int .i64 f.step,.int .i64 f.slots,.int .i64 f.mult,.int .i64 f.turn,vr])=H1.set fb (fiB f1' vr) from by rw[hf1];rfl]
 generalize H1.set fb (fiB f1' vr)=G1 at b1 g1 ⊢
 have khd1:Wok (hd1 s):=hk.take _ (by omega)
 have whd1:(hd1 s).word=1:=by show s.word+1=1;omega
 rw[← hK,ws_n,aw_seq]
 clear hK
 generalize hK:WSeq _ _ _ _ _=K
 simp[go_sem]
 refine awp_region (aops_pref C8ok 1 ?_)
 simp[go_sem]
 refine aops_call rfl rfl rfl rfl Tryz.func58 (by kernel_rfl) (by kernel_rfl) (bg 0 253402300799 b1.src b1.wds khd1 (by rw[whd1];show _ < ((s.words.length:Nat):Int);omega)) ?_
 rintro v H2 ⟨rfl,h2,f2⟩
 have a2:At H2 sb lb wb fb (hd2 s) f1' vr:=b1.call _ h2 f2
 rw[show numS (hd1 s) 0 253402300799=bL s from rfl]
 refine⟨_,rfl,aops_pref C8ok 5 ?_⟩
 simp[go_sem]
 refine aops_nil ?_
 have khd2:Wok (hd2 s):=khd1.take _ (by omega)
 have whd2:(hd2 s).word=2:=by show(hd1 s).word+1=2;omega
 have src2:=a2.src.src
 simp only[go_sem,srcB] at src2
 rw[← hK,ws_n,aw_seq]
 clear hK
 generalize hK:WSeq _ _ _ _ _=K
 simp[go_sem,src2]
 rw[← hK,ws_n,aw_seq]
 clear hK
 generalize hK:WSeq _ _ _ _ _=K
 simp[go_sem]
 refine awp_region (aops_pref C8ok 1 ?_)
 simp[go_sem]
 refine aops_call rfl rfl rfl rfl Tryz.func58 (by kernel_rfl) (by kernel_rfl) (bg 15 60 a2.src a2.wds khd2 (by rw[whd2];show _ < ((s.words.length:Nat):Int);omega)) ?_
 rintro v H3 ⟨rfl,h3,f3⟩
 have a3:At H3 sb lb wb fb (hd3 s) f1' vr:=a2.call _ h3 f3
 rw[show numS (hd2 s) 15 60=bF s from rfl]
 refine⟨_,rfl,aops_pref C8ok 5 ?_⟩
 simp[go_sem]
 refine aops_nil ?_
 have khd3:Wok (hd3 s):=khd2.take _ (by omega)
 have whd3:(hd3 s).word=3:=by show(hd2 s).word+1=3;omega
 rw[← hK,ws_n,aw_seq]
 clear hK
 generalize hK:WSeq _ _ _ _ _=K
 simp[go_sem]
 rw[show((bF s).2 && stepB (bF s).1)=df s from rfl]
 rw[← hK,ws_n]
 clear hK
 refine awalk_mid (fun T1 G=>Am.get T1 0 = .ptr sb 0 0 0∧Am.get T1 1 = .ptr fb 0 0 0∧Am.get T1 4 = .int .i64 (bL s).1∧Am.get T1 7 = .int .i64 (bF s).1∧Am.get T1 8 = .bool (df s)∧At G sb lb wb fb (hd4 s) f1' vr∧Fr [81] H3 G) ?_ ?_
 ·exact head_5 (s:=hd3 s) (c:=hdC s) rfl hdFine_ne hd_at a3 khd3 h7 rfl rfl rfl rfl rfl rfl rfl
 ·rintro T1 G4 ⟨t0,t1,t4,t7,t8,a4,g4⟩
  have e:=head_D (H:=H) hvr (by rw[hf1]) khd3 whd3 h7 t0 t1 t4 t7 t8 a4 (((g1.trans (fr_sf f2)).trans (fr_sf f3)).trans (fr_sf g4))
  have ef:hdF s f1' = hdF s f:=by rw[hf1];rfl
  rw[ef] at e
  exact e
end Go.Proofs.YtjokedpaidmjoaaGreatDoor.Rf
