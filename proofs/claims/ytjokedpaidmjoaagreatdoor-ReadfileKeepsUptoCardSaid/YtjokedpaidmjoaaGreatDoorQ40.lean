/- A part of the proof. -/
import Derived.Test.YtjokedpaidmjoaaGreatDoorQ39
set_option linter.all false
namespace Go.Proofs.YtjokedpaidmjoaaGreatDoor.Rf
open Go Go.RowKit Go.Proofs.YtjokedpaidmjoaaGreatDoor.Am Go.Proofs.YtjokedpaidmjoaaGreatDoor.Pu Go.Proofs.YtjokedpaidmjoaaGreatDoor
attribute [local go_sem] areg aseq gstep gwant astep apick aop aslice alen aappend aappendS aconvS aconvB unw opTmps opnds tmpsOf aev Am.get ofConst ofConst1 putT strip abin aun initT AThen AIn ws_n ws_r ws_e ws_g aw_seq aw_reg aw_draw aw_cond aw_block aw_skip aw_ret aw_exit aw_goto aw_label aw_loop aw_scope ANoGoto AJ ares oneOr bound asInt fieldOf ldv setSeg AV.cells AV.whole AV.cell tys Ty.agg ty9 ty3 ty2 ty5 ty4 ty89 ty21 ty37 ty46 ty83 ty73 ty81 ty41 ty23 ty25 ty27 ty28 ty48 ty65 ty38 ty67 ty88 afill zeroRow litGet litCells adraw awit adchk pchk qchk gchk looks restr tfin Has hat_z hat_s hat_len hat_appL hat_appN hat_appK hat_setS hat_setN set_appL set_appN set_appK box_t bn aD aG aH aI ax aJ row_t bq aK ay aM row_one aN
attribute [local go_sem] aQ bu aR aT aU keepT tysB
attribute [local go_sem] C12_ty C12_fn C12_ext C12_eqt
attribute [local go_sem] List.set_set
set_option maxRecDepth 10000
def Strs (H:Heap) (wb:Nat) (ws:List ByteArray):Prop:=∃ B,hat H wb=some B∧B.ver=0∧B.len=ws.length∧B.t=9∧B.sz=1∧∀ i,i < ws.length → B.get i = [.str (ws.getD i ⟨#[]⟩)]
theorem Strs.keep {ts:List Nat} {H H' : Heap} {wb:Nat} {ws:List ByteArray} (h:Strs H wb ws) (hf:Fr ts H H') (ht:9 ∉ ts):Strs H' wb ws:=by
 obtain⟨B,h1,h2,h3,h4,h5⟩:=h
 exact⟨B,hf.keep _ _ h1 (by rw[h4];exact ht),h2,h3,h4,h5⟩
def spB:ByteArray:=⟨#[32]⟩
def nlB:ByteArray:=⟨#[10]⟩
def fE (s:ByteArray) (ws:List ByteArray):ByteArray:=ws.foldl (fun s w=>s ++ (spB ++ w)) s
def lineB (s first:ByteArray) (ws:List ByteArray):ByteArray:=fE (s ++ first) ws ++ nlB
theorem wordsB_step (s:ByteArray) {ws:List ByteArray} {j:Nat} (h:j < ws.length):fE s (ws.take (j+1))=fE s (ws.take j) ++ (spB ++ ws.getD j ⟨#[]⟩):=by
 unfold fE
 rw[List.take_succ_eq_append_getElem h,List.foldl_append]
 simp[h]
def totB (ws:List ByteArray):Nat:=(ws.map fun w=>w.size+1).sum
theorem wordsB_size (s:ByteArray) (ws:List ByteArray):(fE s ws).size=s.size+totB ws:=by
 unfold fE totB
 induction ws generalizing s with
 |nil=>simp
 |cons w r ih=>
  simp only[List.foldl_cons,List.map_cons,List.sum_cons]
  rw[ih,ByteArray.size_append,ByteArray.size_append]
  have:spB.size=1:=rfl
  omega
theorem totB_take (ws:List ByteArray) (j:Nat):totB (ws.take j)≤totB ws:=by
 unfold totB
 have h:(ws.map fun w=>w.size+1).sum=((ws.take j).map fun w=>w.size+1).sum+((ws.drop j).map fun w=>w.size+1).sum:=by
  rw[← List.sum_append,← List.map_append,List.take_append_drop]
 omega
theorem totB_len (ws:List ByteArray):ws.length≤totB ws:=by
 unfold totB
 induction ws with
 |nil=>simp
 |cons w r ih=>
  simp only[List.map_cons,List.sum_cons,List.length_cons]
  omega
theorem totB_mem {ws:List ByteArray} {j:Nat} (h:j < ws.length):totB (ws.take j)+(ws.getD j ⟨#[]⟩).size+1≤totB ws:=by
 have h1:=totB_take ws (j+1)
 have h2:totB (ws.take (j+1))=totB (ws.take j)+((ws.getD j ⟨#[]⟩).size+1):=by
  unfold totB
  rw[List.take_succ_eq_append_getElem h,List.map_append,List.sum_append]
  simp[h]
 omega
def wordsH (H:Heap) (b:Nat) (ws:List ByteArray):Heap:=ws.foldl (fun H w=>wr H b (spB ++ w)) H
def lineH (H:Heap) (b:Nat) (first:ByteArray) (ws:List ByteArray):Heap:=wr (wordsH (wr H b first) b ws) b nlB
theorem wordsH_step (H:Heap) (b:Nat) {ws:List ByteArray} {j:Nat} (h:j < ws.length):wordsH H b (ws.take (j+1))=wr (wordsH H b (ws.take j)) b (spB ++ ws.getD j ⟨#[]⟩):=by
 unfold wordsH
 rw[List.take_succ_eq_append_getElem h,List.foldl_append]
 simp[h]
theorem wordsH_bl {base b:Nat} : ∀ (ws:List ByteArray) {H:Heap} {s:ByteArray} (_:Bl base H b s) (_:base≤H.length),Bl base (wordsH H b ws) b (fE s ws)∧Fr [67,5] H (wordsH H b ws)
 |[],H,s,h,_=>⟨h,Fr.refl _ _⟩
 |w :: r,H,s,h,hl=>by
  obtain⟨h1,h2⟩:=wr_bl (z:=spB ++ w) h hl
  obtain⟨h3,h4⟩:=wordsH_bl r h1 (Nat.le_trans hl h2.len)
  exact⟨h3,h2.trans h4⟩
theorem lineH_bl {base b:Nat} {H:Heap} {s:ByteArray} (first:ByteArray) (ws:List ByteArray) (h:Bl base H b s) (hl:base≤H.length):Bl base (lineH H b first ws) b (lineB s first ws)∧Fr [67,5] H (lineH H b first ws):=by
 obtain⟨h1,f1⟩:=wr_bl (z:=first) h hl
 obtain⟨h2,f2⟩:=wordsH_bl ws h1 (Nat.le_trans hl f1.len)
 obtain⟨h3,f3⟩:=wr_bl (z:=nlB) h2 (Nat.le_trans hl (f1.trans f2).len)
 exact⟨h3,(f1.trans f2).trans f3⟩
set_option maxHeartbeats 4000000 in
theorem line_calls {base:Nat} {H:Heap} {b wb:Nat} {s first:ByteArray} {ws:List ByteArray} (h:Bl base H b s) (hbl:base≤H.length) (hw:Strs H wb ws) (hz:first.size≠0) (hs:s.size+first.size+totB ws≤1000000000000):ACalls Tryz.prog 42 [.str first,.sl wb 0 ws.length 0,.ptr b 0 0 0] H fun v H'=>v = .tup []∧H' = lineH H b first ws:=by
 refine acalls_ofN (C:=C12) (nt:=Tryz.f42.ntmps) C12ok Tryz.func42 rfl rfl ?_
 refine awp_step C12ok fun K hK=>?_
 simp[go_sem]
 refine awp_region (aops_pref C12ok 1 ?_)
 simp[go_sem]
 refine aops_call rfl rfl rfl rfl Tryz.func43 (by kernel_rfl) (by kernel_rfl) (eG h hbl hz (by omega)) ?_
 rintro v G hG
 obtain⟨hB,hF⟩:=wr_bl (z:=first) h hbl
 rw[← hG] at hB hF
 refine⟨_,rfl,aops_nil ?_⟩
 rw[hK,athen_n]
 refine awp_live [1,2] ?_
 simp[go_sem]
 clear hK K
 have hw0:=hw
 have hw:=hw.keep hF (by decide)
 have hFl:=hF.len
 obtain⟨B,w1,w2,w3,w4,w5,w6⟩:=id hw
 refine awp_seq ?_
 refine awp_step C12ok fun K hK=>?_
 simp[go_sem,w1,w2]
 rw[hK,athen_n]
 refine awp_live [2,9,10,11] ?_
 simp[go_sem]
 clear hK K
 refine awp_block (awp_loopQ (fun k T G=>∃ j:Nat,k+j=ws.length∧G=wordsH (wr H b first) b (ws.take j)∧T = [(2,.ptr b 0 0 0),(9,.sl wb 0 ws.length 0),(10,.int .i64 ws.length),(11,.int .i64 j)]) ws.length ⟨0,by omega,hG,rfl⟩ ?_)
 rintro k T G' ⟨j,hj,hGj,rfl⟩ Q hN hX
 obtain⟨hBj,hFj⟩ : Bl base G' b (fE (s ++ first) (ws.take j))∧Fr [67,5] H G':=by
  obtain⟨q1,q2⟩:=wordsH_bl (ws.take j) hB (Nat.le_trans hbl hF.len)
  rw[hGj,← hG]
  exact⟨q1,hF.trans q2⟩
 have hFl':=hFj.len
 have hsz:=wordsB_size (s ++ first) (ws.take j)
 rw[ByteArray.size_append] at hsz
 refine awp_step C12ok fun K hK=>?_
 simp[go_sem]
 rw[hK,athen_n]
 refine awp_live [2,9,10,11,12] ?_
 simp[go_sem]
 clear hK K
 refine awp_step C12ok fun K hK=>?_
 simp[go_sem]
 refine⟨fun hjn=>?_,fun hjn=>?_⟩
 ·rw[hK,athen_n]
  refine awp_live [2,9,10,11] ?_
  simp[go_sem]
  clear hK K
  have htm:=totB_mem hjn
  have htl:=totB_len ws
  have hw':=hw0.keep hFj (by decide)
  obtain⟨B,w1,w2,w3,w4,w5,w6⟩:=hw'
  have wj:=w6 j hjn
  have wl:j < B.len:=by omega
  have hst:=wordsB_step (s ++ first) hjn
  obtain⟨x,hx⟩ : ∃ x,x=ws.getD j ⟨#[]⟩:=⟨_,rfl⟩
  rw[← hx] at wj htm hst
  have hw2:IntKind.i64.wrap ((j:Int)+1)=(j:Int)+1:=av (by omega) (by omega)
  refine awp_seq (awp_block ?_)
  refine awp_step C12ok fun K hK=>?_
  simp[go_sem,w1,w2,w5,wj,wl,hjn]
  rw[hK,athen_n]
  refine awp_live [2,6,9,10,11] ?_
  simp[go_sem]
  clear hK K
  refine awp_region (aops_pref C12ok 2 ?_)
  simp[go_sem]
  refine⟨by omega,?_⟩
  have hsp:(⟨#[32]⟩ : ByteArray).size=1:=rfl
  refine aops_call rfl rfl rfl rfl Tryz.func43 (by kernel_rfl) (by kernel_rfl) (eG (z:=spB ++ x) hBj (by omega) (by rw[ByteArray.size_append];have:spB.size=1:=rfl;omega) (by rw[ByteArray.size_append];have:spB.size=1:=rfl;omega)) ?_
  rintro v G2 hG2
  refine⟨_,rfl,aops_nil ?_⟩
  have hstH:=wordsH_step (wr H b first) b hjn
  rw[← hx,← hGj,← hG2] at hstH
  refine awp_live [2,9,10,11] ?_
  simp[go_sem]
  refine awalk_sound C12ok _ _ _ _ ?_
  simp[go_sem,hw2]
  exact hN (k - 1) _ _ (T2:=[(2,.ptr b 0 0 0),(9,.sl wb 0 ws.length 0),(10,.int .i64 ws.length),(11,.int .i64 ((j+1:Nat):Int))]) (by omega) ⟨rfl,rfl,rfl,rfl,trivial⟩ ⟨j+1,by omega,hstH.symm,rfl⟩
 ·rw[hK]
  refine hX (.exit 0) _ _ (by simp) ?_
  show AWp _ _ _ _ _ _ _
  refine awp_live [2] ?_
  simp[go_sem]
  rw[List.take_of_length_le hjn] at hBj hsz hGj
  refine awp_region (aops_pref C12ok 0 ?_)
  simp[go_sem]
  refine aops_call rfl rfl rfl rfl Tryz.func43 (by kernel_rfl) (by kernel_rfl) (eG (z:=nlB) hBj (by omega) (by decide) (by have:nlB.size=1:=rfl;omega)) ?_
  rintro v G2 hG2
  refine⟨_,rfl,aops_nil ⟨.inl rfl,[],True,rfl,trivial,rfl,by rw[hG2,hGj];rfl⟩⟩
end Go.Proofs.YtjokedpaidmjoaaGreatDoor.Rf
set_option linter.all false
namespace Go.Proofs.YtjokedpaidmjoaaGreatDoor.Rf
open Go Go.RowKit Go.Proofs.YtjokedpaidmjoaaGreatDoor.Am Go.Proofs.YtjokedpaidmjoaaGreatDoor.Pu Go.Proofs.YtjokedpaidmjoaaGreatDoor
attribute [local go_sem] areg aseq gstep gwant astep apick aop aslice alen aappend aappendS aconvS aconvB unw opTmps opnds tmpsOf aev Am.get ofConst ofConst1 putT strip abin aun initT AThen AIn ws_n ws_r ws_e ws_g aw_seq aw_reg aw_draw aw_cond aw_block aw_skip aw_ret aw_exit aw_goto aw_label aw_loop aw_scope ANoGoto AJ ares oneOr bound asInt fieldOf ldv setSeg AV.cells AV.whole AV.cell tys Ty.agg ty9 ty3 ty2 ty5 ty4 ty89 ty21 ty37 ty46 ty83 ty73 ty81 ty41 ty23 ty25 ty27 ty28 ty48 ty65 ty38 ty67 ty88 afill zeroRow litGet litCells adraw awit adchk pchk qchk gchk looks restr tfin Has hat_z hat_s hat_len hat_appL hat_appN hat_appK hat_setS hat_setN set_appL set_appN set_appK box_t bn aD aG aH aI ax aJ row_t bq aK ay aM row_one aN
attribute [local go_sem] aQ bu aR aT aU keepT tysB
attribute [local go_sem] C12_ty C12_fn C12_ext C12_eqt
attribute [local go_sem] List.set_set
set_option maxRecDepth 10000
def ed:Am.Spec:=fun args H=>match args with
 |[.int .i64 n,.int .i64 l,.int .i64 m]=>some (.bool (decide (l≤n) && decide (n≤m)),H,True)
 |_=>none
theorem spWithin_ok:SpecOk Tryz.prog 40 ed:=by
 refine⟨⟨Tryz.f40,Tryz.func40,by kernel_rfl,by kernel_rfl⟩,fun args H v H1 ob h hob=>?_⟩
 unfold ed at h
 split at h
 ·rename_i n l m
  cases h
  refine acalls_ofN (C:=C12) (nt:=Tryz.f40.ntmps) C12ok Tryz.func40 rfl rfl ?_
  refine awalk_sound C12ok _ _ _ _ ?_
  simp[go_sem]
  exact⟨.inr rfl,_,_,rfl,trivial,rfl,rfl⟩
 ·cases h
def spLine:Am.Spec:=fun args H=>match args with
 |[.str first,.sl wb 0 n 0,.ptr b 0 0 0]=>match hat H wb with
  |some B=>some (.tup [],lineH H b first (strsOf B n),bZ B n 0∧B.t=9∧B.len=n∧first.size≠0∧∃ base s,Bl base H b s∧base≤H.length∧s.size+first.size+totB (strsOf B n)≤1000000000000)
  |none=>none
 |_=>none
theorem line_calls2 {base:Nat} {H:Heap} {b wb:Nat} {s first:ByteArray} {ws:List ByteArray} (h:Bl base H b s) (hbl:base≤H.length) (hw:Strs H wb ws) (hz:first.size≠0) (hs:s.size+first.size+totB ws≤1000000000000):ACalls Tryz.prog 42 [.str first,.sl wb 0 ws.length 0,.ptr b 0 0 0] H fun v H'=>v = .tup []∧H' = lineH H b first ws:=line_calls h hbl hw hz hs
theorem spLine_ok:SpecOk Tryz.prog 42 spLine:=by
 refine⟨⟨Tryz.f42,Tryz.func42,by kernel_rfl,by kernel_rfl⟩,fun args H v H1 ob h hob=>?_⟩
 unfold spLine at h
 split at h
 ·rename_i first wb n b
  split at h
  ·rename_i B hB
   cases h
   obtain⟨⟨h1,h2,h3,h4,h5⟩,ht,hl,hz,base,s,hb,hbl,hsz⟩:=hob
   have hlen:(strsOf B n).length=n:=by simp[strsOf]
   have hst:Strs H wb (strsOf B n):=⟨B,hB,h1,by rw[hlen];exact hl,ht,h2,fun i hi=>by
    rw[hlen] at hi
    rw[h5 i hi]
    simp[strsOf,hi]⟩
   have:=line_calls2 hb hbl hst hz hsz
   rw[hlen] at this
   exact this
  ·cases h
 ·cases h
noncomputable def bS:FuncId → Option Am.Spec:=fun f=>match f with
 |40=>some ed
 |42=>some spLine
 |f=>specs12 f
noncomputable def C13:Ctx:={ P:=Tryz.prog,ty:=tysB,fn:=bS,ext:=ext7,eqt:=eqs7 }
theorem C13ok:CtxOk C13:=by
 refine⟨tysBOk,fun f s h=>?_,eqs7_ok,dC⟩
 unfold C13 bS at h
 simp only at h
 split at h
 ·cases h;exact spWithin_ok
 ·cases h;exact spLine_ok
 ·exact C12ok.fn _ _ h
theorem C13_ty:C13.ty=tysB:=rfl
theorem C13_fn:C13.fn=bS:=rfl
theorem C13_ext:C13.ext=ext7:=rfl
theorem C13_eqt:C13.eqt=eqs7:=rfl
theorem s13_within:bS 40=some ed:=rfl
theorem s13_line:bS 42=some spLine:=rfl
theorem s13_name:bS 57=some dB:=rfl
theorem s13_step:bS 59=some cu:=rfl
theorem s13_flag:bS 41=some spFlag:=rfl
theorem s13_text:bS 33=some bG:=rfl
attribute [local go_sem] C13_ty C13_fn C13_ext C13_eqt s13_within s13_name s13_step ed dB cu
def hdrOk (f:Fi):Bool:=nameL (Bs f.meter) && stepB f.step && decide (0≤f.start) && decide (f.start≤253402300799) && (f.start.tmod (IntKind.i64.wrap (60 * f.step)) == 0) && decide (1≤f.slots) && decide (f.slots≤40000) && decide (IntKind.i64.wrap (IntKind.i64.wrap (f.start+IntKind.i64.wrap (IntKind.i64.wrap (60 * f.step) * f.slots)) - 1)≤253402300799) && decide (1≤f.mult) && decide (f.mult≤1000) && decide (0≤f.turn) && decide (f.turn≤3)
theorem step_ne {n:Int} (h:stepB n=true) : ¬ IntKind.i64.wrap (60 * n)=0:=by
 unfold stepB at h
 simp at h
 rcases h with (h|h)|h <;> rw[h] <;> decide
set_option maxHeartbeats 4000000 in
theorem header_calls {H:Heap} {f:Fi} {vr:AV} (hc:vr.cell=true) (hm:f.meter.size≤1099511627776):ACalls Tryz.prog 39 [.agg (fiV f vr)] H fun v H'=>v = .bool (hdrOk f)∧H' = H ++ [fiB f vr]:=by
 refine acalls_ofN (C:=C13) (nt:=Tryz.f39.ntmps) C13ok Tryz.func39 rfl rfl ?_
 have cc:=hc
 simp only[AV.cell] at hc
 refine awp_step C13ok fun K hK=>?_
 simp[go_sem,fiV,hc]
 rw[hK,athen_n]
 refine awp_live [1] ?_
 simp[go_sem]
 clear hK K
 refine awalk_sound C13ok _ _ _ _ ?_
 simp[go_sem]
 refine⟨⟨by omega,fun h1 h2 h3 h4=>⟨⟨⟨⟨h1,h2⟩,h3⟩,h4⟩,step_ne h2⟩⟩,.inr rfl,?_⟩
 simp[go_sem]
 exact⟨_,True,⟨rfl,trivial⟩,trivial,rfl,rfl⟩
end Go.Proofs.YtjokedpaidmjoaaGreatDoor.Rf
