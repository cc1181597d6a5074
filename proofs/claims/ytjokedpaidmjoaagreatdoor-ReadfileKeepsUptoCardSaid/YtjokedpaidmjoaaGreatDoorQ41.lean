/- A part of the proof. -/
import Derived.Test.YtjokedpaidmjoaaGreatDoorQ40
import Derived.Lib.ItoaLen
import Derived.Laws.Cover4
set_option linter.all false
namespace Go.Proofs.YtjokedpaidmjoaaGreatDoor.Rf
open Go Go.RowKit Go.Proofs.YtjokedpaidmjoaaGreatDoor.Am Go.Proofs.YtjokedpaidmjoaaGreatDoor.Pu Go.Proofs.YtjokedpaidmjoaaGreatDoor
attribute [local go_sem] areg aseq gstep gwant astep apick aop aslice alen aappend aappendS aconvS aconvB unw opTmps opnds tmpsOf aev Am.get ofConst ofConst1 putT strip abin aun initT AThen AIn ws_n ws_r ws_e ws_g aw_seq aw_reg aw_draw aw_cond aw_block aw_skip aw_ret aw_exit aw_goto aw_label aw_loop aw_scope ANoGoto AJ ares oneOr bound asInt fieldOf ldv setSeg AV.cells AV.whole AV.cell tys Ty.agg ty9 ty3 ty2 ty5 ty4 ty89 ty21 ty37 ty46 ty83 ty73 ty81 ty41 ty23 ty25 ty27 ty28 ty48 ty65 ty38 ty67 ty88 afill zeroRow litGet litCells adraw awit adchk pchk qchk gchk looks restr tfin Has hat_z hat_s hat_len hat_appL hat_appN hat_appK hat_setS hat_setN set_appL set_appN set_appK box_t bn aD aG aH aI ax aJ row_t bq aK ay aM row_one aN
attribute [local go_sem] aQ bu aR aT aU keepT tysB
attribute [local go_sem] C13_ty C13_fn C13_ext C13_eqt s13_within s13_line s13_flag s13_text ed spFlag bG spLine
attribute [local go_sem] List.set_set
set_option maxRecDepth 10000
def flT (n:Int):ByteArray:=Utf8.encode (IntKind.i32.wrap n)
def rdBad (sl:Int) (r:Rd):Bool:=decide (r.slot < 0) || decide (sl≤r.slot) || (!decide (0≤r.imp) || !decide (r.imp≤10000000)) || (!decide (0≤r.exp) || !decide (r.exp≤10000000)) || (!decide (-10000000≤r.var) || !decide (r.var≤10000000)) || !flagB (flT r.flag)
def printOk (f:Fi):Bool:=!(!hdrOk f || decide (f.slots < (f.reads.length:Int))) && f.reads.all (fun r=>!rdBad f.slots r)
def fJ:ByteArray:=⟨#[109,101,116,101,114]⟩
def bRead:ByteArray:=⟨#[114,101,97,100]⟩
def bEnd:ByteArray:=⟨#[101,110,100]⟩
def dW (f:Fi):ByteArray:=lineB ⟨#[]⟩ fJ [f.meter,txt f.start,txt f.step,txt f.slots,txt f.mult,txt f.turn]
def fK (s:ByteArray) (r:Rd):ByteArray:=lineB s bRead [txt r.slot,txt r.imp,txt r.exp,txt r.var,flT r.flag]
def dn (s:ByteArray) (l:List Rd):ByteArray:=l.foldl fK s
def printT (f:Fi):ByteArray:=lineB (dn (dW f) f.reads) bEnd [txt f.reads.length,txt (sumR (sumL f.reads)).1]
theorem bO {n:Int} (h:in64 n):(txt n).size≤21:=by
 have:=Lib.itoa_length_le n h.1 h.2
 show(Lib.itoa n).toArray.size≤21
 rw[List.size_toArray]
 exact this
theorem flT_size (n:Int):(flT n).size≤4:=encode_size_le _
theorem dJ (s first:ByteArray) (ws:List ByteArray):(lineB s first ws).size=s.size+first.size+totB ws+1:=by
 unfold lineB
 rw[ByteArray.size_append,wordsB_size,ByteArray.size_append]
 rfl
theorem printR_size {s:ByteArray} {r:Rd} (h:RdW r):(fK s r).size≤s.size+120:=by
 unfold fK
 rw[dJ]
 have h1:=bO h.1
 have h2:=bO h.2.1
 have h3:=bO h.2.2.1
 have h4:=bO h.2.2.2
 have h5:=flT_size r.flag
 have h6:bRead.size=4:=rfl
 simp only[totB,List.map_cons,List.map_nil,List.sum_cons,List.sum_nil]
 omega
theorem dX : ∀ (l:List Rd) (s:ByteArray),(∀ r∈l,RdW r) → (dn s l).size≤s.size+120 * l.length
 |[],s,_=>by simp[dn]
 |r :: l,s,h=>by
  have h1:=dX l (fK s r) (fun x hx=>h x (by simp[hx]))
  have h2:=printR_size (s:=s) (h r (by simp))
  have e:dn s (r :: l)=dn (fK s r) l:=rfl
  rw[e,List.length_cons]
  omega
theorem printRs_step (s:ByteArray) {l:List Rd} {j:Nat} (h:j < l.length):dn s (l.take (j+1))=fK (dn s (l.take j)) l[j]:=by
 unfold dn
 rw[List.take_succ_eq_append_getElem h,List.foldl_append]
 rfl
def litB (ws:List ByteArray):Blk:=newRowBlk 9 1 ws.length (litGet 1 (ws.map AV.str))
theorem litB_get (ws:List ByteArray) (i:Nat) (h:i < ws.length):(litB ws).get i = [.str (ws.getD i ⟨#[]⟩)]:=by
 show litGet 1 (ws.map AV.str) i=_
 unfold litGet
 rw[Nat.mul_one,List.drop_eq_getElem_cons (by simpa using h)]
 simp[h]
theorem litB_strs (ws:List ByteArray):strsOf (litB ws) ws.length=ws:=by
 have:strsOf (litB ws) ws.length=(List.range ws.length).map (fun i=>ws.getD i ⟨#[]⟩):=by
  unfold strsOf
  apply List.map_congr_left
  intro i hi
  unfold strAt
  rw[litB_get ws i (by simpa using hi)]
 rw[this,range_get]
theorem litB_row (ws:List ByteArray) (h:ws.length≤1000):bZ (litB ws) ws.length 0:=⟨rfl,rfl,Nat.le_refl _,by omega,fun i hi=>by
 unfold strAt
 rw[litB_get ws i hi]⟩
theorem line_ob {base:Nat} {G:Heap} {b:Nat} {s:ByteArray} (ws:List ByteArray) {first:ByteArray} (hB:Bl base G b s) (hl:base≤G.length) (hw:ws.length≤1000) (hs:s.size+first.size+totB ws≤1000000000000):bZ (litB ws) ws.length 0∧∃ base s,Bl base (G ++ [litB ws]) b s∧base≤G.length+1∧s.size+first.size+totB (strsOf (litB ws) ws.length)≤1000000000000:=
 ⟨litB_row ws hw,base,s,hB.keep (Fr.app [] _ _) (by simp) (by simp),by omega,by rw[litB_strs];exact hs⟩
theorem fD {base:Nat} {G:Heap} {b:Nat} {s:ByteArray} (ws:List ByteArray) (first:ByteArray) (hB:Bl base G b s) (hl:base≤G.length):Bl base (lineH (G ++ [litB ws]) b first (strsOf (litB ws) ws.length)) b (lineB s first ws)∧Fr [67,5] G (lineH (G ++ [litB ws]) b first (strsOf (litB ws) ws.length)):=by
 rw[litB_strs]
 obtain⟨h1,h2⟩:=lineH_bl first ws (hB.keep (Fr.app [] G [litB ws]) (by simp) (by simp)) (by simp;omega)
 exact⟨h1,(Fr.app _ _ _).trans h2⟩
def ptPost (f:Fi) (H:Heap):AV → Heap → Prop:=fun v H'=>v=(if printOk f=true then .tup [.str (printT f),.int .i64 0] else .tup [.str ⟨#[]⟩,.int .i64 8])∧Fr [67,5] H H'
structure PF (H G:Heap) (fb:Nat) (f:Fi) (vr:AV):Prop where
 fil:hat G fb=some (fiB f vr)
 rds:RdsG G vr f.reads
theorem PF.keep {ts:List Nat} {H G G' : Heap} {fb:Nat} {f:Fi} {vr:AV} (h:PF H G fb f vr) (hf:Fr ts G G') (h1:25 ∉ ts) (h2:41 ∉ ts):PF H G' fb f vr:=⟨hf.keep _ _ h.fil (by simp only[fiB,box_t];exact h1),h.rds.keep hf h2⟩
set_option maxHeartbeats 8000000 in
theorem print_calls {H:Heap} {f:Fi} {vr:AV} (hr:RdsG H vr f.reads) (hd : ∀ r∈f.reads,RdW r) (hn:f.reads.length≤1048577) (hm:f.meter.size≤1048576) (hi:in64 f.start∧in64 f.step∧in64 f.slots∧in64 f.mult∧in64 f.turn):ACalls Tryz.prog 14 [.agg (fiV f vr)] H (ptPost f H):=by
 refine acalls_ofN (C:=C13) (nt:=Tryz.f14.ntmps) C13ok Tryz.func14 rfl rfl ?_
 have cc:=hr.cell
 have hc:=cc
 simp only[AV.cell] at hc
 refine awp_step C13ok fun K hK=>?_
 simp[go_sem,fiV,hc]
 rw[hK,athen_n]
 refine awp_live [1] ?_
 simp[go_sem]
 clear hK K
 change AWp C13 _ H _ _ _ (H ++ [fiB f vr])
 obtain⟨G,hG⟩ : ∃ G,G=H ++ [fiB f vr]:=⟨_,rfl⟩
 have hP:PF H G H.length f vr:=by rw[hG];exact⟨hat_new _ _,hr.keep (Fr.app [] _ _) (by simp)⟩
 have hF:Fr [] H G:=hG ▸ Fr.app _ _ _
 rw[← hG]
 clear hG
 obtain⟨fb,hfb⟩ : ∃ fb,fb=H.length:=⟨_,rfl⟩
 rw[← hfb] at hP ⊢
 have fil:=hP.fil
 simp only[fiB,fiV] at fil
 refine awp_seq ?_
 refine awp_seq (awp_mono (R:=fun e T G2=>e = .normal∧G2=G ++ [fiB f vr]∧Has T [(1,.ptr fb 0 0 0),(23,.bool (!hdrOk f || decide (f.slots < (f.reads.length:Int))))]) (awp_region (aops_pref C13ok 1 ?_)) ?_)
 ·simp[go_sem,fil,hc]
  refine aops_call rfl rfl rfl rfl Tryz.func39 (by kernel_rfl) (by kernel_rfl) (header_calls cc (by omega)) ?_
  rintro v G1 ⟨rfl,rfl⟩
  refine⟨_,rfl,aops_pref C13ok 9 ?_⟩
  have hP:=hP.keep (Fr.app [] G [fiB f vr]) (by simp) (by simp)
  generalize G ++ [fiB f vr]=G at *
  have fil:=hP.fil
  simp only[fiB,fiV] at fil
  rcases hP.rds with ⟨rfl,h0⟩|⟨b,p,v,B,rfl,h2,h3,h5,h6,h7,h8⟩
  ·simp[go_sem,fil,h0]
   exact aops_nil ⟨rfl,rfl,rfl,rfl⟩
  ·simp[go_sem,fil,h2,h3]
   exact aops_nil ⟨rfl,rfl,rfl,rfl⟩
 rintro e T G2 ⟨rfl,rfl,hT⟩
 have hP:=hP.keep (Fr.app [] G [fiB f vr]) (by simp) (by simp)
 have hF:=hF.trans (Fr.app [] G [fiB f vr])
 generalize G ++ [fiB f vr]=G at *
 have fil:=hP.fil
 simp only[fiB,fiV] at fil
 refine awp_weak ⟨hT,.inl rfl⟩ ?_
 clear hT T
 by_cases hbad:(!hdrOk f || decide (f.slots < (f.reads.length:Int)))=true
 ·rw[hbad]
  refine awalk_sound C13ok _ _ _ _ ?_
  simp[go_sem]
  refine⟨.inr rfl,?_⟩
  simp[go_sem]
  refine⟨_,True,⟨rfl,trivial⟩,trivial,?_,hF.mono (by simp)⟩
  rw[if_neg (by unfold printOk;rw[hbad];simp)]
 ·have hb' : (!hdrOk f || decide (f.slots < (f.reads.length:Int)))=false:=by simpa using hbad
  rw[hb']
  refine awalk_sound C13ok _ _ _ _ ?_
  simp[go_sem]
  refine awp_seq ?_
  refine awp_seq (awp_mono (R:=fun e T G2=>e = .normal∧G2=G∧Has T [(1,.ptr fb 0 0 0),(25,vr),(26,.int .i64 f.reads.length),(27,.int .i64 ((0:Nat):Int))]) ?_ ?_)
  ·refine awalk_sound C13ok _ _ _ _ ?_
   rcases hP.rds with ⟨rfl,h0⟩|⟨b,p,v,B,rfl,h2,h3,h5,h6,h7,h8⟩
   ·simp[go_sem,fil,h0]
   ·simp[go_sem,fil,h2,h3]
  rintro e T G2 ⟨rfl,rfl,hT⟩
  refine awp_weak ⟨hT,.inl rfl⟩ ?_
  clear hT T
  refine awp_block (awp_loopQ (fun k T G=>∃ j:Nat,k+j=f.reads.length∧PF H G fb f vr∧Fr [] H G∧(f.reads.take j).all (fun r=>!rdBad f.slots r)=true∧T = [(1,.ptr fb 0 0 0),(25,vr),(26,.int .i64 f.reads.length),(27,.int .i64 j)]) f.reads.length ⟨0,by omega,hP,hF,rfl,rfl⟩ ?_)
  clear hP hF fil hbad G2
  rintro k T G ⟨j,hj,hP,hF,hall,rfl⟩ Q hN hX
  have fil:=hP.fil
  simp only[fiB,fiV] at fil
  refine awp_step C13ok fun K hK=>?_
  simp[go_sem]
  rw[hK,athen_n]
  refine awp_live [1,25,26,27,28] ?_
  simp[go_sem]
  clear hK K
  refine awp_step C13ok fun K hK=>?_
  simp[go_sem]
  refine⟨fun hjn=>?_,fun hjn=>?_⟩
  ·rw[hK,athen_n]
   refine awp_live [1,25,26,27] ?_
   simp[go_sem]
   clear hK K
   have hw:IntKind.i64.wrap ((j:Int)+1)=(j:Int)+1:=av (by omega) (by omega)
   have hxj:f.reads[j]? = some f.reads[j]:=List.getElem?_eq_getElem hjn
   have hst:(f.reads.take (j+1)).all (fun r=>!rdBad f.slots r)=((f.reads.take j).all (fun r=>!rdBad f.slots r) && !rdBad f.slots f.reads[j]):=by
    rw[List.take_succ_eq_append_getElem hjn,List.all_append]
    simp
   have hrd:=hd _ (List.getElem_mem hjn)
   generalize f.reads[j]=r at *
   rcases hP.rds with ⟨rfl,h0⟩|⟨b,p,v,B,rfl,h2,h3,h5,h6,h7,h8⟩
   ·rw[h0] at hjn;simp at hjn
   have hg:=h8 j r hxj
   have hjl:p+j < B.len:=by omega
   simp only[rdV] at hg
   refine awp_seq (awp_block ?_)
   refine awp_step C13ok fun K hK=>?_
   simp[go_sem,h2,h3,h7,hg,hjl,hjn]
   rw[hK,athen_n]
   refine awp_live [1,5,25,26,27] ?_
   simp[go_sem]
   clear hK K
   have hP:=hP.keep (Fr.app [] G [boxBlk 41 5 [.int .i64 r.slot,.int .i64 r.imp,.int .i64 r.exp,.int .i64 r.var,.int .u8 r.flag]]) (by simp) (by simp)
   have hF:=hF.trans (Fr.app [] G [boxBlk 41 5 [.int .i64 r.slot,.int .i64 r.imp,.int .i64 r.exp,.int .i64 r.var,.int .u8 r.flag]])
   have hbx:=hat_new G (boxBlk 41 5 [.int .i64 r.slot,.int .i64 r.imp,.int .i64 r.exp,.int .i64 r.var,.int .u8 r.flag])
   generalize G ++ [boxBlk 41 5 [.int .i64 r.slot,.int .i64 r.imp,.int .i64 r.exp,.int .i64 r.var,.int .u8 r.flag]]=G2 at *
   generalize G.length=q at *
   have fil:=hP.fil
   simp only[fiB,fiV] at fil
   refine awp_step C13ok fun K hK=>?_
   simp[go_sem,fil,hbx]
   rw[show Utf8.encode (IntKind.i32.wrap r.flag)=flT r.flag from rfl,show(decide (r.slot < 0) || decide (f.slots≤r.slot) || (!decide (0≤r.imp) || !decide (r.imp≤10000000)) || (!decide (0≤r.exp) || !decide (r.exp≤10000000)) || (!decide (-10000000≤r.var) || !decide (r.var≤10000000)) || !flagB (flT r.flag))=rdBad f.slots r from rfl]
   rw[hK,athen_n]
   refine awp_live [1,25,26,27,66] ?_
   simp[go_sem]
   clear hK K
   refine awalk_sound C13ok _ _ _ _ ?_
   cases hbr:rdBad f.slots r with
   |true=>
    simp[go_sem,hbr]
    refine hX .ret _ _ (by simp) ?_
    refine⟨.inr rfl,?_⟩
    simp[go_sem]
    refine⟨_,True,⟨rfl,trivial⟩,trivial,?_,hF.mono (by simp)⟩
    rw[if_neg (fun q=>by
     unfold printOk at q
     have q2:=(Bool.and_eq_true_iff.1 q).2
     have:=List.all_eq_true.1 q2 r (List.mem_of_getElem? hxj)
     rw[hbr] at this
     cases this)]
   |false=>
    simp[go_sem,hbr]
    refine awalk_sound C13ok _ _ _ _ ?_
    simp[go_sem,hw]
    exact hN (k - 1) _ _ (T2:=[(1,.ptr fb 0 0 0),(25,.sl b p f.reads.length v),(26,.int .i64 f.reads.length),(27,.int .i64 ((j+1:Nat):Int))]) (by omega) ⟨rfl,rfl,rfl,rfl,trivial⟩ ⟨j+1,by omega,hP,hF,by rw[hst,hall,hbr];rfl,rfl⟩
  ·rw[hK]
   refine hX (.exit 0) _ _ (by simp) ?_
   show AWp _ _ _ _ _ _ _
   refine awp_live [1] ?_
   simp[go_sem]
   clear hK K hX hN Q
   rw[List.take_of_length_le hjn] at hall
   have hok:printOk f=true:=by unfold printOk;rw[hb',hall];rfl
   have hFl:=hF.len
   refine awp_step C13ok fun K hK=>?_
   simp[go_sem]
   rw[hK,athen_n]
   refine awp_live [1,6] ?_
   simp[go_sem]
   clear hK K
   refine awp_step C13ok fun K hK=>?_
   simp[go_sem]
   rw[hK,athen_n]
   refine awp_live [1,6,7] ?_
   simp[go_sem]
   clear hK K
   refine awp_step C13ok fun K hK=>?_
   simp[go_sem]
   rw[hK,athen_n]
   refine awp_live [1,6,7,8] ?_
   simp[go_sem]
   clear hK K
   change AWp C13 _ H _ _ _ (G ++ [blB .nilptr .nilsl])
   have hP:=hP.keep (Fr.app [] G [blB .nilptr .nilsl]) (by simp) (by simp)
   have hF:=hF.trans (Fr.app [] G [blB .nilptr .nilsl])
   have hB:Bl H.length (G ++ [blB .nilptr .nilsl]) G.length ⟨#[]⟩:=⟨hFl,.nilptr,.inl rfl,.inl ⟨rfl,hat_new _ _⟩⟩
   generalize G ++ [blB .nilptr .nilsl]=G2 at *
   generalize G.length=b at *
   have hF:Fr [67,5] H G2:=hF.mono (by simp)
   have fil:=hP.fil
   simp only[fiB,fiV] at fil
   refine awp_seq ?_
   refine awp_draw C13ok (by kernel_rfl) [0,0,2,0,0,16,56,0,0,256,1016,0,0,4096,16376,0,0,65536,262136,0,0,1048576,4194296,8388606,16777215] [.quiet [0,1,2,3,4,5,6],.quiet [0,1,2,3,4,5],.quiet [0,1,2,3,4,5],.quiet [0],.quiet [0],.quiet [0],.eff 0,.quiet [0,1],.quiet [0,1],.quiet [0,1],.eff 1,.quiet [0,1,2],.quiet [0,1,2],.quiet [0,1,2],.eff 2,.quiet [0,1,2,3],.quiet [0,1,2,3],.quiet [0,1,2,3],.eff 3,.quiet [0,1,2,3,4],.quiet [0,1,2,3,4],.quiet [0,1,2,3,4],.eff 4,.eff 5,.eff 6] 7 (by kernel_rfl) ?_
   simp[go_sem,fil]
   have hmt:(dW f).size≤1048576+200:=by
    unfold dW
    rw[dJ]
    have h1:=bO hi.1
    have h2:=bO hi.2.1
    have h3:=bO hi.2.2.1
    have h4:=bO hi.2.2.2.1
    have h5:=bO hi.2.2.2.2
    have h6:fJ.size=5:=rfl
    have h7:(⟨#[]⟩ : ByteArray).size=0:=rfl
    simp only[totB,List.map_cons,List.map_nil,List.sum_cons,List.sum_nil]
    omega
   have hG2:=hF.len
   refine⟨⟨hi.1,hi.2.1,hi.2.2.1,hi.2.2.2.1,hi.2.2.2.2,line_ob (first:=fJ) [f.meter,txt f.start,txt f.step,txt f.slots,txt f.mult,txt f.turn] hB hG2 (by simp) (by unfold dW at hmt;rw[dJ] at hmt;omega)⟩,?_⟩
   obtain⟨hB,hF2⟩:=fD [f.meter,txt f.start,txt f.step,txt f.slots,txt f.mult,txt f.turn] fJ hB hG2
   refine awp_live [1,6,7,8] ?_
   simp[go_sem]
   have e3:lineH (G2 ++ [litB [f.meter,txt f.start,txt f.step,txt f.slots,txt f.mult,txt f.turn]]) b fJ (strsOf (litB [f.meter,txt f.start,txt f.step,txt f.slots,txt f.mult,txt f.turn]) 6)=lineH (G2 ++ [litB [f.meter,txt f.start,txt f.step,txt f.slots,txt f.mult,txt f.turn]]) b fJ (strsOf (litB [f.meter,txt f.start,txt f.step,txt f.slots,txt f.mult,txt f.turn]) [f.meter,txt f.start,txt f.step,txt f.slots,txt f.mult,txt f.turn].length):=rfl
   change AWp C13 _ H _ _ _ (lineH (G2 ++ [litB [f.meter,txt f.start,txt f.step,txt f.slots,txt f.mult,txt f.turn]]) b fJ (strsOf (litB [f.meter,txt f.start,txt f.step,txt f.slots,txt f.mult,txt f.turn]) 6))
   rw[e3]
   clear e3
   have hP:=hP.keep hF2 (by decide) (by decide)
   have hF:=hF.trans hF2
   have hB:Bl H.length _ b (dW f):=hB
   generalize lineH (G2 ++ [litB [f.meter,txt f.start,txt f.step,txt f.slots,txt f.mult,txt f.turn]]) b fJ (strsOf (litB [f.meter,txt f.start,txt f.step,txt f.slots,txt f.mult,txt f.turn]) [f.meter,txt f.start,txt f.step,txt f.slots,txt f.mult,txt f.turn].length)=G3 at *
   clear hF2 fil hG2
   have fil:=hP.fil
   simp only[fiB,fiV] at fil
   refine awp_seq ?_
   refine awp_seq (awp_mono (R:=fun e T G2=>e = .normal∧G2=G3∧Has T [(1,.ptr fb 0 0 0),(6,.ptr b 0 0 0),(7,.fn 42 [.ptr b 0 0 0]),(8,.fn 33 []),(95,vr),(96,.int .i64 f.reads.length),(97,.int .i64 ((0:Nat):Int))]) ?_ ?_)
   ·refine awalk_sound C13ok _ _ _ _ ?_
    rcases hP.rds with ⟨rfl,h0⟩|⟨b,p,v,B,rfl,h2,h3,h5,h6,h7,h8⟩
    ·simp[go_sem,fil,h0]
    ·simp[go_sem,fil,h2,h3]
   rintro e T G2 ⟨rfl,rfl,hT⟩
   refine awp_weak ⟨hT,.inl rfl⟩ ?_
   clear hT T
   refine awp_block (awp_loopQ (fun k T G=>∃ j:Nat,k+j=f.reads.length∧PF H G fb f vr∧Bl H.length G b (dn (dW f) (f.reads.take j))∧Fr [67,5] H G∧T = [(1,.ptr fb 0 0 0),(6,.ptr b 0 0 0),(7,.fn 42 [.ptr b 0 0 0]),(8,.fn 33 []),(95,vr),(96,.int .i64 f.reads.length),(97,.int .i64 j)]) f.reads.length ⟨0,by omega,hP,hB,hF,rfl⟩ ?_)
   clear hP hB hF fil
   rintro k T G ⟨j,hj,hP,hB,hF,rfl⟩ Q hN hX
   have hG:=hF.len
   have fil:=hP.fil
   simp only[fiB,fiV] at fil
   refine awp_step C13ok fun K hK=>?_
   simp[go_sem]
   rw[hK,athen_n]
   refine awp_live [1,6,7,8,95,96,97,98] ?_
   simp[go_sem]
   clear hK K
   refine awp_step C13ok fun K hK=>?_
   simp[go_sem]
   refine⟨fun hjn=>?_,fun hjn=>?_⟩
   ·rw[hK,athen_n]
    refine awp_live [1,6,7,8,95,96,97] ?_
    simp[go_sem]
    clear hK K
    have hw:IntKind.i64.wrap ((j:Int)+1)=(j:Int)+1:=av (by omega) (by omega)
    have hxj:f.reads[j]? = some f.reads[j]:=List.getElem?_eq_getElem hjn
    have hst:=printRs_step (dW f) hjn
    have hrd:=hd _ (List.getElem_mem hjn)
    have hsz:=dX (f.reads.take j) (dW f) (fun r h=>hd r (List.mem_of_mem_take h))
    have htl:(f.reads.take j).length≤j:=by rw[List.length_take];omega
    generalize f.reads[j]=r at *
    generalize dn (dW f) (f.reads.take j)=s at *
    rcases hP.rds with ⟨rfl,h0⟩|⟨bb,p,v,B,rfl,h2,h3,h5,h6,h7,h8⟩
    ·rw[h0] at hjn;simp at hjn
    have hg:=h8 j r hxj
    have hjl:p+j < B.len:=by omega
    simp only[rdV] at hg
    refine awp_seq (awp_block ?_)
    refine awp_step C13ok fun K hK=>?_
    simp[go_sem,h2,h3,h7,hg,hjl,hjn]
    rw[hK,athen_n]
    refine awp_live [1,6,7,8,10,95,96,97] ?_
    simp[go_sem]
    clear hK K
    have rb:boxBlk 41 5 [.int .i64 r.slot,.int .i64 r.imp,.int .i64 r.exp,.int .i64 r.var,.int .u8 r.flag]=boxBlk 41 5 (rdV r):=rfl
    rw[rb]
    have hP:=hP.keep (Fr.app [] G [boxBlk 41 5 (rdV r)]) (by simp) (by simp)
    have hF:=hF.trans (Fr.app _ G [boxBlk 41 5 (rdV r)])
    have hB:=hB.keep (Fr.app [] G [boxBlk 41 5 (rdV r)]) (by simp) (by simp)
    have hbx:=hat_new G (boxBlk 41 5 (rdV r))
    generalize G ++ [boxBlk 41 5 (rdV r)]=G2 at *
    generalize G.length=q at *
    have hG2:=hF.len
    simp only[rdV] at hbx
    have hps:=printR_size (s:=s) hrd
    unfold fK at hps
    rw[dJ] at hps
    refine awp_draw C13ok (by kernel_rfl) [0,0,0,4,14,0,0,64,254,0,0,1024,4094,0,0,16384,65534,0,131072,393216,917504,2097150,4194303] [.quiet [0,1,2,3,4,5],.quiet [0],.quiet [0],.quiet [0],.eff 0,.quiet [0,1],.quiet [0,1],.quiet [0,1],.eff 1,.quiet [0,1,2],.quiet [0,1,2],.quiet [0,1,2],.eff 2,.quiet [0,1,2,3],.quiet [0,1,2,3],.quiet [0,1,2,3],.eff 3,.quiet [0,1,2,3,4],.quiet [0,1,2,3,4],.quiet [0,1,2,3,4],.quiet [0,1,2,3,4],.eff 4,.eff 5] 6 (by kernel_rfl) ?_
    simp[go_sem,hbx]
    rw[show Utf8.encode (IntKind.i32.wrap r.flag)=flT r.flag from rfl]
    refine⟨⟨hrd.1,hrd.2.1,hrd.2.2.1,hrd.2.2.2,line_ob (first:=bRead) [txt r.slot,txt r.imp,txt r.exp,txt r.var,flT r.flag] hB hG2 (by simp) (by omega)⟩,?_⟩
    obtain⟨hB,hF2⟩:=fD [txt r.slot,txt r.imp,txt r.exp,txt r.var,flT r.flag] bRead hB hG2
    have e3:lineH (G2 ++ [litB [txt r.slot,txt r.imp,txt r.exp,txt r.var,flT r.flag]]) b bRead (strsOf (litB [txt r.slot,txt r.imp,txt r.exp,txt r.var,flT r.flag]) 5)=lineH (G2 ++ [litB [txt r.slot,txt r.imp,txt r.exp,txt r.var,flT r.flag]]) b bRead (strsOf (litB [txt r.slot,txt r.imp,txt r.exp,txt r.var,flT r.flag]) [txt r.slot,txt r.imp,txt r.exp,txt r.var,flT r.flag].length):=rfl
    refine awp_live [1,6,7,8,95,96,97] ?_
    simp[go_sem]
    change AWp C13 _ H _ _ _ (lineH (G2 ++ [litB [txt r.slot,txt r.imp,txt r.exp,txt r.var,flT r.flag]]) b bRead (strsOf (litB [txt r.slot,txt r.imp,txt r.exp,txt r.var,flT r.flag]) 5))
    rw[e3]
    clear e3
    have hP:=hP.keep hF2 (by decide) (by decide)
    have hF:=hF.trans hF2
    have hB:Bl H.length _ b (fK s r):=hB
    generalize lineH (G2 ++ [litB [txt r.slot,txt r.imp,txt r.exp,txt r.var,flT r.flag]]) b bRead (strsOf (litB [txt r.slot,txt r.imp,txt r.exp,txt r.var,flT r.flag]) [txt r.slot,txt r.imp,txt r.exp,txt r.var,flT r.flag].length)=G3 at *
    refine awalk_sound C13ok _ _ _ _ ?_
    simp[go_sem,hw]
    rw[← hst] at hB
    exact hN (k - 1) _ _ (T2:=[(1,.ptr fb 0 0 0),(6,.ptr b 0 0 0),(7,.fn 42 [.ptr b 0 0 0]),(8,.fn 33 []),(95,.sl bb p f.reads.length v),(96,.int .i64 f.reads.length),(97,.int .i64 ((j+1:Nat):Int))]) (by omega) ⟨rfl,rfl,rfl,rfl,rfl,rfl,rfl,trivial⟩ ⟨j+1,by omega,hP,hB,hF,rfl⟩
   ·rw[hK]
    refine hX (.exit 2) _ _ (by simp) ?_
    show AWp _ _ _ _ _ _ _
    refine awp_live [1,6,7,8] ?_
    simp[go_sem]
    clear hK K hX hN Q
    rw[List.take_of_length_le hjn] at hB
    have hsz:=dX f.reads (dW f) hd
    have hin:=sumR_in (sumL f.reads)
    generalize hs0:dn (dW f) f.reads=s at *
    refine awp_seq (awp_region (aops_pref C13ok 1 ?_))
    simp[go_sem,fil,hc]
    refine aops_call rfl rfl rfl rfl Tryz.func17 (by kernel_rfl) (by kernel_rfl) (dO hP.rds hd hn) ?_
    rintro v G2 ⟨rfl,hF2⟩
    refine⟨_,rfl,aops_pref C13ok 5 ?_⟩
    simp[go_sem]
    refine aops_nil ?_
    refine awp_live [1,6,7,8,11] ?_
    simp[go_sem]
    have hP:=hP.keep hF2 (by simp) (by simp)
    have hB:=hB.keep hF2 (by simp) (by simp)
    have hF:=hF.trans (hF2.mono (by simp))
    have hG2:=hF.len
    clear hF2
    generalize hS:(sumR (sumL f.reads)).1=S at *
    have fil:=hP.fil
    simp only[fiB,fiV] at fil
    have hin2:in64 (f.reads.length:Int):=⟨by omega,by omega⟩
    have hx1:=bO hin2
    have hx2:=bO hin
    refine awp_seq (awp_mono (R:=fun e T G3=>e = .normal∧Am.get T 6 = .ptr b 0 0 0∧Bl H.length G3 b (lineB s bEnd [txt f.reads.length,txt S])∧Fr [67,5] H G3) ?_ ?_)
    ·refine awalk_sound C13ok _ _ _ _ ?_
     have hob:=line_ob (first:=bEnd) [txt f.reads.length,txt S] hB hG2 (by simp) (by
      have h6:bEnd.size=3:=rfl
      simp only[totB,List.map_cons,List.map_nil,List.sum_cons,List.sum_nil]
      omega)
     obtain⟨hB2,hF2⟩:=fD [txt f.reads.length,txt S] bEnd hB hG2
     rcases hP.rds with ⟨rfl,h0⟩|⟨bb,p,v,B,rfl,h2,h3,h5,h6,h7,h8⟩
     ·rw[h0] at hob hB2 hF2 hin2
      simp[go_sem,fil,h0]
      exact⟨⟨hin2,hin,hob⟩,hB2,hF.trans hF2⟩
     ·simp[go_sem,fil,h2,h3]
      exact⟨⟨hin2,hin,hob⟩,hB2,hF.trans hF2⟩
    ·rintro e T G3 ⟨rfl,t6,hB,hF⟩
     refine awp_live [6] ?_
     simp[go_sem,t6]
     have hnz:(lineB s bEnd [txt f.reads.length,txt S]).size≠0:=by rw[dJ];omega
     refine awp_seq (awp_region (aops_pref C13ok 0 ?_))
     simp[go_sem]
     refine aops_call rfl rfl rfl rfl Tryz.func44 (by kernel_rfl) (by kernel_rfl) (string_calls hB hnz) ?_
     rintro v G4 ⟨rfl,hF4⟩
     refine⟨_,rfl,aops_pref C13ok 2 ?_⟩
     simp[go_sem]
     refine aops_nil ?_
     refine awalk_sound C13ok _ _ _ _ ?_
     simp[go_sem]
     refine⟨.inr rfl,?_⟩
     simp[go_sem]
     refine⟨_,True,⟨rfl,trivial⟩,trivial,?_,hF.trans hF4⟩
     rw[if_pos hok]
     unfold printT
     rw[hS,hs0]
end Go.Proofs.YtjokedpaidmjoaaGreatDoor.Rf
