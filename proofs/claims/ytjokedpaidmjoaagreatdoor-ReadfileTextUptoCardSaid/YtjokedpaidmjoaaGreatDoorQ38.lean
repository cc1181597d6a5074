/- A part of the proof. -/
import Derived.Test.YtjokedpaidmjoaaGreatDoorQ37
set_option linter.all false
namespace Go.Proofs.YtjokedpaidmjoaaGreatDoor.Rf
open Go Go.RowKit Go.Proofs.YtjokedpaidmjoaaGreatDoor.Am Go.Proofs.YtjokedpaidmjoaaGreatDoor.Pu Go.Proofs.YtjokedpaidmjoaaGreatDoor
attribute [local go_sem] areg aseq gstep gwant astep apick aop aslice alen aappend aappendS aconvS aconvB unw opTmps opnds tmpsOf aev Am.get ofConst ofConst1 putT strip abin aun initT AThen AIn ws_n ws_r ws_e ws_g aw_seq aw_reg aw_draw aw_cond aw_block aw_skip aw_ret aw_exit aw_goto aw_label aw_loop aw_scope ANoGoto AJ ares oneOr bound asInt fieldOf ldv setSeg AV.cells AV.whole AV.cell tys Ty.agg ty9 ty3 ty2 ty5 ty4 ty89 ty21 ty37 ty46 ty83 ty73 ty81 ty41 ty23 ty25 ty27 ty28 ty48 ty65 ty38 ty67 ty88 afill zeroRow litGet litCells adraw awit adchk pchk qchk gchk looks restr tfin Has hat_z hat_s hat_len hat_appL hat_appN hat_appK hat_setS hat_setN set_appL set_appN set_appK box_t bu aC aD aG aH az aI row_t bv aJ aA aK row_one aM
attribute [local go_sem] aY bi aN aQ aR keepT tysB
attribute [local go_sem] C12_ty C12_fn C12_ext C12_eqt
attribute [local go_sem] List.set_set
set_option maxRecDepth 10000
def Strs (H:Heap) (wb:Nat) (ws:List ByteArray):Prop:=∃ B,hat H wb=some B∧B.ver=0∧B.len=ws.length∧B.t=9∧B.sz=1∧∀ i,i < ws.length → B.get i = [.str (ws.getD i ⟨#[]⟩)]
theorem Strs.keep {ts:List Nat} {H H' : Heap} {wb:Nat} {ws:List ByteArray} (h:Strs H wb ws) (hf:Fr ts H H') (ht:9 ∉ ts):Strs H' wb ws:=by
 obtain⟨B,h1,h2,h3,h4,h5⟩:=h
 exact⟨B,hf.keep _ _ h1 (by rw[h4];exact ht),h2,h3,h4,h5⟩
def spB:ByteArray:=⟨#[32]⟩
def nlB:ByteArray:=⟨#[10]⟩
def d9 (s:ByteArray) (ws:List ByteArray):ByteArray:=ws.foldl (fun s w=>s ++ (spB ++ w)) s
def lineB (s first:ByteArray) (ws:List ByteArray):ByteArray:=d9 (s ++ first) ws ++ nlB
theorem wordsB_step (s:ByteArray) {ws:List ByteArray} {j:Nat} (h:j < ws.length):d9 s (ws.take (j+1))=d9 s (ws.take j) ++ (spB ++ ws.getD j ⟨#[]⟩):=by
 unfold d9
 rw[List.take_succ_eq_append_getElem h,List.foldl_append]
 simp[h]
def totB (ws:List ByteArray):Nat:=(ws.map fun w=>w.size+1).sum
theorem wordsB_size (s:ByteArray) (ws:List ByteArray):(d9 s ws).size=s.size+totB ws:=by
 unfold d9 totB
 induction ws generalizing s with
 |nil=>simp
 |cons w r ih=>
  simp only[List.foldl_cons,List.map_cons,List.sum_cons]
  rw[ih,ByteArray.size_append,ByteArray.size_append]
  have:spB.size=1:=rfl
  omega
theorem totB_take (ws:List ByteArray) (j:Nat):totB (ws.take j)≤totB ws:=by
 unfold totB
 have h:(ws.map fun w=>w.size+1).sum=((ws.take j).map fun w=>w.size+1).sum+((ws.drop j).map fun w=>w.size+1).sum:=by
  rw[← List.sum_append,← List.map_append,List.take_append_drop]
 omega
theorem totB_len (ws:List ByteArray):ws.length≤totB ws:=by
 unfold totB
 induction ws with
 |nil=>simp
 |cons w r ih=>
  simp only[List.map_cons,List.sum_cons,List.length_cons]
  omega
theorem totB_mem {ws:List ByteArray} {j:Nat} (h:j < ws.length):totB (ws.take j)+(ws.getD j ⟨#[]⟩).size+1≤totB ws:=by
 have h1:=totB_take ws (j+1)
 have h2:totB (ws.take (j+1))=totB (ws.take j)+((ws.getD j ⟨#[]⟩).size+1):=by
  unfold totB
  rw[List.take_succ_eq_append_getElem h,List.map_append,List.sum_append]
  simp[h]
 omega
def wordsH (H:Heap) (b:Nat) (ws:List ByteArray):Heap:=ws.foldl (fun H w=>wr H b (spB ++ w)) H
def lineH (H:Heap) (b:Nat) (first:ByteArray) (ws:List ByteArray):Heap:=wr (wordsH (wr H b first) b ws) b nlB
theorem wordsH_step (H:Heap) (b:Nat) {ws:List ByteArray} {j:Nat} (h:j < ws.length):wordsH H b (ws.take (j+1))=wr (wordsH H b (ws.take j)) b (spB ++ ws.getD j ⟨#[]⟩):=by
 unfold wordsH
 rw[List.take_succ_eq_append_getElem h,List.foldl_append]
 simp[h]
theorem wordsH_bl {base b:Nat} : ∀ (ws:List ByteArray) {H:Heap} {s:ByteArray} (_:Bl base H b s) (_:base≤H.length),Bl base (wordsH H b ws) b (d9 s ws)∧Fr [67,5] H (wordsH H b ws)
 |[],H,s,h,_=>⟨h,Fr.refl _ _⟩
 |w :: r,H,s,h,hl=>by
  obtain⟨h1,h2⟩:=wr_bl (z:=spB ++ w) h hl
  obtain⟨h3,h4⟩:=wordsH_bl r h1 (Nat.le_trans hl h2.len)
  exact⟨h3,h2.trans h4⟩
theorem lineH_bl {base b:Nat} {H:Heap} {s:ByteArray} (first:ByteArray) (ws:List ByteArray) (h:Bl base H b s) (hl:base≤H.length):Bl base (lineH H b first ws) b (lineB s first ws)∧Fr [67,5] H (lineH H b first ws):=by
 obtain⟨h1,f1⟩:=wr_bl (z:=first) h hl
 obtain⟨h2,f2⟩:=wordsH_bl ws h1 (Nat.le_trans hl f1.len)
 obtain⟨h3,f3⟩:=wr_bl (z:=nlB) h2 (Nat.le_trans hl (f1.trans f2).len)
 exact⟨h3,(f1.trans f2).trans f3⟩
set_option maxHeartbeats 4000000 in
theorem line_calls {base:Nat} {H:Heap} {b wb:Nat} {s first:ByteArray} {ws:List ByteArray} (h:Bl base H b s) (hbl:base≤H.length) (hw:Strs H wb ws) (hz:first.size≠0) (hs:s.size+first.size+totB ws≤1000000000000):ACalls Tryz.prog 42 [.str first,.sl wb 0 ws.length 0,.ptr b 0 0 0] H fun v H'=>v = .tup []∧H' = lineH H b first ws:=by
 refine acalls_ofN (C:=C12) (nt:=Tryz.f42.ntmps) C12ok Tryz.func42 rfl rfl ?_
 refine awp_step C12ok fun K hK=>?_
 simp[go_sem]
 refine awp_region (aops_pref C12ok 1 ?_)
 simp[go_sem]
 refine aops_call rfl rfl rfl rfl Tryz.func43 (by kernel_rfl) (by kernel_rfl) (eB h hbl hz (by omega)) ?_
 rintro v G hG
 obtain⟨hB,hF⟩:=wr_bl (z:=first) h hbl
 rw[← hG] at hB hF
 refine⟨_,rfl,aops_nil ?_⟩
 rw[hK,athen_n]
 refine awp_live [1,2] ?_
 simp[go_sem]
 clear hK K
 have hw0:=hw
 have hw:=hw.keep hF (by decide)
 have hFl:=hF.len
 obtain⟨B,w1,w2,w3,w4,w5,w6⟩:=id hw
 refine awp_seq ?_
 refine awp_step C12ok fun K hK=>?_
 simp[go_sem,w1,w2]
 rw[hK,athen_n]
 refine awp_live [2,9,10,11] ?_
 simp[go_sem]
 clear hK K
 refine awp_block (awp_loopQ (fun k T G=>∃ j:Nat,k+j=ws.length∧G=wordsH (wr H b first) b (ws.take j)∧T = [(2,.ptr b 0 0 0),(9,.sl wb 0 ws.length 0),(10,.int .i64 ws.length),(11,.int .i64 j)]) ws.length ⟨0,by omega,hG,rfl⟩ ?_)
 rintro k T G' ⟨j,hj,hGj,rfl⟩ Q hN hX
 obtain⟨hBj,hFj⟩ : Bl base G' b (d9 (s ++ first) (ws.take j))∧Fr [67,5] H G':=by
  obtain⟨q1,q2⟩:=wordsH_bl (ws.take j) hB (Nat.le_trans hbl hF.len)
  rw[hGj,← hG]
  exact⟨q1,hF.trans q2⟩
 have hFl':=hFj.len
 have hsz:=wordsB_size (s ++ first) (ws.take j)
 rw[ByteArray.size_append] at hsz
 refine awp_step C12ok fun K hK=>?_
 simp[go_sem]
 rw[hK,athen_n]
 refine awp_live [2,9,10,11,12] ?_
 simp[go_sem]
 clear hK K
 refine awp_step C12ok fun K hK=>?_
 simp[go_sem]
 refine⟨fun hjn=>?_,fun hjn=>?_⟩
 ·rw[hK,athen_n]
  refine awp_live [2,9,10,11] ?_
  simp[go_sem]
  clear hK K
  have htm:=totB_mem hjn
  have htl:=totB_len ws
  have hw':=hw0.keep hFj (by decide)
  obtain⟨B,w1,w2,w3,w4,w5,w6⟩:=hw'
  have wj:=w6 j hjn
  have wl:j < B.len:=by omega
  have hst:=wordsB_step (s ++ first) hjn
  obtain⟨x,hx⟩ : ∃ x,x=ws.getD j ⟨#[]⟩:=⟨_,rfl⟩
  rw[← hx] at wj htm hst
  have hw2:IntKind.i64.wrap ((j:Int)+1)=(j:Int)+1:=aT (by omega) (by omega)
  refine awp_seq (awp_block ?_)
  refine awp_step C12ok fun K hK=>?_
  simp[go_sem,w1,w2,w5,wj,wl,hjn]
  rw[hK,athen_n]
  refine awp_live [2,6,9,10,11] ?_
  simp[go_sem]
  clear hK K
  refine awp_region (aops_pref C12ok 2 ?_)
  simp[go_sem]
  refine⟨by omega,?_⟩
  have hsp:(⟨#[32]⟩ : ByteArray).size=1:=rfl
  refine aops_call rfl rfl rfl rfl Tryz.func43 (by kernel_rfl) (by kernel_rfl) (eB (z:=spB ++ x) hBj (by omega) (by rw[ByteArray.size_append];have:spB.size=1:=rfl;omega) (by rw[ByteArray.size_append];have:spB.size=1:=rfl;omega)) ?_
  rintro v G2 hG2
  refine⟨_,rfl,aops_nil ?_⟩
  have hstH:=wordsH_step (wr H b first) b hjn
  rw[← hx,← hGj,← hG2] at hstH
  refine awp_live [2,9,10,11] ?_
  simp[go_sem]
  refine awalk_sound C12ok _ _ _ _ ?_
  simp[go_sem,hw2]
  exact hN (k - 1) _ _ (T2:=[(2,.ptr b 0 0 0),(9,.sl wb 0 ws.length 0),(10,.int .i64 ws.length),(11,.int .i64 ((j+1:Nat):Int))]) (by omega) ⟨rfl,rfl,rfl,rfl,trivial⟩ ⟨j+1,by omega,hstH.symm,rfl⟩
 ·rw[hK]
  refine hX (.exit 0) _ _ (by simp) ?_
  show AWp _ _ _ _ _ _ _
  refine awp_live [2] ?_
  simp[go_sem]
  rw[List.take_of_length_le hjn] at hBj hsz hGj
  refine awp_region (aops_pref C12ok 0 ?_)
  simp[go_sem]
  refine aops_call rfl rfl rfl rfl Tryz.func43 (by kernel_rfl) (by kernel_rfl) (eB (z:=nlB) hBj (by omega) (by decide) (by have:nlB.size=1:=rfl;omega)) ?_
  rintro v G2 hG2
  refine⟨_,rfl,aops_nil ⟨.inl rfl,[],True,rfl,trivial,rfl,by rw[hG2,hGj];rfl⟩⟩
end Go.Proofs.YtjokedpaidmjoaaGreatDoor.Rf
