/- A part of the proof. -/
import Derived.Test.YtjokedpaidmjoaaGreatDoorQ44
set_option linter.all false
namespace Go.Proofs.YtjokedpaidmjoaaGreatDoor.Rf
open Go Go.RowKit Go.Proofs.YtjokedpaidmjoaaGreatDoor.Am Go.Proofs.YtjokedpaidmjoaaGreatDoor.Pu Go.Proofs.YtjokedpaidmjoaaGreatDoor
attribute [local go_sem] areg aseq gstep gwant astep apick aop aslice alen aappend aappendS aconvS aconvB unw opTmps opnds tmpsOf aev Am.get ofConst ofConst1 putT strip abin aun initT AThen AIn ws_n ws_r ws_e ws_g aw_seq aw_reg aw_draw aw_cond aw_block aw_skip aw_ret aw_exit aw_goto aw_label aw_loop aw_scope ANoGoto AJ ares oneOr bound asInt fieldOf ldv setSeg AV.cells AV.whole AV.cell tys Ty.agg ty9 ty3 ty2 ty5 ty4 ty89 ty21 ty37 ty46 ty83 ty73 ty81 ty41 ty23 ty25 ty27 ty28 ty48 ty65 ty38 ty67 ty88 afill zeroRow litGet litCells adraw awit adchk pchk qchk gchk looks restr tfin Has hat_z hat_s hat_len hat_appL hat_appN hat_appK hat_setS hat_setN set_appL set_appN set_appK box_t bu aD aG aH aI ax aJ row_t bz aK aC aM row_one aN
attribute [local go_sem] aY bA aQ aR aT keepT tysB
attribute [local go_sem] C14_ty C14_fn C14_ext C14_eqt s14_n bL
attribute [local go_sem] List.set_set
set_option maxRecDepth 10000
def RowB (G:Heap) (vl:AV) (s:ByteArray):Prop:=∃ q v B,vl = .sl q 0 s.size v∧hat G q=some B∧B.ver=v∧B.own=true∧B.len=s.size∧B.t=5∧B.sz=1∧∀ i,i < s.size → B.get i=strGet s i
theorem RowB.keep {ts:List Nat} {G G' : Heap} {vl:AV} {s:ByteArray} (h:RowB G vl s) (hf:Fr ts G G') (ht:5 ∉ ts):RowB G' vl s:=by
 obtain⟨q,v,B,h1,h2,h3,h4,h5,h6,h7⟩:=h
 exact⟨q,v,B,h1,hf.keep _ _ h2 (by rw[h6];exact ht),h3,h4,h5,h6,h7⟩
theorem RowB.app {G:Heap} {q v:Nat} {B:Blk} {s z:ByteArray} (h2:hat G q=some B) (h3:B.ver=v) (h5:B.len=s.size) (h6:B.t=5) (h7:B.sz=1) (h8 : ∀ i,i < s.size → B.get i=strGet s i):RowB (G.set q (appBlk B z.size (strGet z))) (.sl q 0 (s.size+z.size) (v+1)) (s ++ z):=by
 refine⟨q,v+1,appBlk B z.size (strGet z),by rw[ByteArray.size_append],hat_setS (hat_lt h2),by show B.ver+1=_;rw[h3],rfl,by rw[ByteArray.size_append,← h5];rfl,h6,h7,fun i hi=>?_⟩
 rw[ByteArray.size_append] at hi
 show(if i < B.len then B.get i else strGet z (i - B.len))=_
 rw[h5]
 split
 ·rename_i h1
  rw[h8 i h1,fo s z i h1]
 ·rename_i h1
  rw[eB s z i (by omega) hi]
theorem app_row {B:Blk} {s z:ByteArray} {n:Nat} (hn:n=z.size) (h5:B.len=s.size) (h8 : ∀ i,i < s.size → B.get i=strGet s i):bytesAV (appBlk B n (strGet z)) 0 (s.size+n)=s ++ z∧∀ i,i < s.size+n → ∃ c:UInt8,(appBlk B n (strGet z)).get i = [.int .u8 c.toNat]:=by
 subst hn
 have hg : ∀ i,i < (s ++ z).size → (appBlk B z.size (strGet z)).get i=strGet (s ++ z) i:=by
  intro i hi
  rw[ByteArray.size_append] at hi
  show(if i < B.len then B.get i else strGet z (i - B.len))=_
  rw[h5]
  split
  ·rename_i h1
   rw[h8 i h1,fo s z i h1]
  ·rename_i h1
   rw[eB s z i (by omega) hi]
 have he:=bytesAV_eq hg
 rw[ByteArray.size_append] at he hg
 exact⟨he,fun i hi=>by rw[hg i hi];exact strGet_u8 _ i⟩
def refE (s a b:ByteArray):ByteArray:=s ++ (⟨#[101,110,100,32]⟩ ++ a ++ ⟨#[32]⟩ ++ b ++ ⟨#[10]⟩ : ByteArray)
theorem refE_eq (s a b:ByteArray):refE s a b=lineB s bEnd [a,b]:=by
 unfold refE lineB dR
 simp only[List.foldl_cons,List.foldl_nil]
 have e:(⟨#[101,110,100,32]⟩ : ByteArray)=bEnd ++ spB:=by decide
 have e2:(⟨#[32]⟩ : ByteArray)=spB:=rfl
 have e3:(⟨#[10]⟩ : ByteArray)=nlB:=rfl
 rw[e,e2,e3]
 simp only[ByteArray.append_assoc]
def refR (s:ByteArray) (r:Rd):ByteArray:=s ++ ((⟨#[114,101,97,100,32]⟩ ++ txt r.slot ++ ⟨#[32]⟩ ++ txt r.imp ++ ⟨#[32]⟩ ++ txt r.exp ++ ⟨#[32]⟩ ++ txt r.var ++ ⟨#[32]⟩ ++ flT r.flag ++ ⟨#[10]⟩ : ByteArray))
def refH (f:Fi):ByteArray:=(⟨#[109,101,116,101,114,32]⟩ ++ f.meter ++ ⟨#[32]⟩ ++ txt f.start ++ ⟨#[32]⟩ ++ txt f.step ++ ⟨#[32]⟩ ++ txt f.slots ++ ⟨#[32]⟩ ++ txt f.mult ++ ⟨#[32]⟩ ++ txt f.turn ++ ⟨#[10]⟩ : ByteArray)
theorem refH_eq (f:Fi):refH f=aU f:=by
 unfold refH aU lineB dR
 simp only[List.foldl_cons,List.foldl_nil]
 have e:(⟨#[109,101,116,101,114,32]⟩ : ByteArray)=⟨#[]⟩ ++ d9 ++ spB:=by decide
 have e2:(⟨#[32]⟩ : ByteArray)=spB:=rfl
 have e3:(⟨#[10]⟩ : ByteArray)=nlB:=rfl
 rw[e,e2,e3]
 simp only[ByteArray.append_assoc]
theorem refR_eq (s:ByteArray) (r:Rd):refR s r=ed s r:=by
 unfold refR ed lineB dR
 simp only[List.foldl_cons,List.foldl_nil]
 have e:(⟨#[114,101,97,100,32]⟩ : ByteArray)=bRead ++ spB:=by decide
 have e2:(⟨#[32]⟩ : ByteArray)=spB:=rfl
 have e3:(⟨#[10]⟩ : ByteArray)=nlB:=rfl
 rw[e,e2,e3]
 simp only[ByteArray.append_assoc]
set_option maxHeartbeats 8000000 in
theorem rprint_calls {H:Heap} {f:Fi} {vr:AV} (hr:RdsG H vr f.reads) (hd : ∀ r∈f.reads,RdW r∧0≤r.flag∧r.flag≤255) (hn:f.reads.length≤1048577) (hm:f.meter.size≤1048576) (hi:in64 f.start∧in64 f.step∧in64 f.slots∧in64 f.mult∧in64 f.turn):ACalls Tryz.prog 13 [.agg (fiV f vr)] H (ptPost f H):=by
 refine acalls_ofN (C:=C14) (nt:=Tryz.f13.ntmps) C14ok Tryz.func13 rfl rfl ?_
 have ml:maxLen=9223372036854775807:=by decide
 have mi:IntKind.i64.max=9223372036854775807:=by decide
 have hd1 : ∀ r∈f.reads,RdW r:=fun r h=>(hd r h).1
 have cc:=hr.cell
 have hc:=cc
 simp only[AV.cell] at hc
 refine awp_step C14ok fun K hK=>?_
 simp[go_sem,fiV,hc]
 rw[hK,athen_n]
 refine awp_live [1] ?_
 simp[go_sem]
 clear hK K
 change AWp C14 _ H _ _ _ (H ++ [fiB f vr])
 obtain⟨G,hG⟩ : ∃ G,G=H ++ [fiB f vr]:=⟨_,rfl⟩
 have hP:PF H G H.length f vr:=by rw[hG];exact⟨hat_new _ _,hr.keep (Fr.app [] _ _) (by simp)⟩
 have hF:Fr [] H G:=hG ▸ Fr.app _ _ _
 rw[← hG]
 clear hG
 obtain⟨fb,hfb⟩ : ∃ fb,fb=H.length:=⟨_,rfl⟩
 rw[← hfb] at hP ⊢
 have fil:=hP.fil
 simp only[fiB,fiV] at fil
 refine awp_seq ?_
 refine awp_seq (awp_region (aops_pref C14ok 1 ?_))
 simp[go_sem,fil,hc]
 refine aops_call rfl rfl rfl rfl Tryz.func16 (by kernel_rfl) (by kernel_rfl) (can_calls hP.rds (fun r h=>(hd r h).2) hn hm) ?_
 rintro v G1 ⟨rfl,hF1⟩
 refine⟨_,rfl,aops_pref C14ok 1 ?_⟩
 simp[go_sem]
 refine aops_nil ?_
 refine awp_live [1,11] ?_
 simp[go_sem]
 have hP:=hP.keep hF1 (by simp) (by simp)
 have hF:=hF.trans hF1
 have fil:=hP.fil
 simp only[fiB,fiV] at fil
 clear hF1
 refine awalk_sound C14ok _ _ _ _ ?_
 cases hok:bH f with
 |false=>
  simp[go_sem]
  refine⟨.inr rfl,?_⟩
  simp[go_sem]
  refine⟨_,True,⟨rfl,trivial⟩,trivial,?_,hF.mono (by simp)⟩
  rw[hok]
  rfl
 |true=>
  simp[go_sem]
  have hmt:(aU f).size≤1048576+200:=by
   unfold aU
   rw[cB]
   have h1:=av hi.1
   have h2:=av hi.2.1
   have h3:=av hi.2.2.1
   have h4:=av hi.2.2.2.1
   have h5:=av hi.2.2.2.2
   have h6:d9.size=5:=rfl
   have h7:(⟨#[]⟩ : ByteArray).size=0:=rfl
   simp only[totB,List.map_cons,List.map_nil,List.sum_cons,List.sum_nil]
   omega
  have h1:=av hi.1
  have h2:=av hi.2.1
  have h3:=av hi.2.2.1
  have h4:=av hi.2.2.2.1
  have h5:=av hi.2.2.2.2
  refine awp_seq ?_
  refine awp_draw C14ok (by kernel_rfl) [0,1,3,7,0,16,48,127,255,0,512,1648,4095,8191,0,16384,52848,131071,262143,0,524288,1691248,4194303,8388607,0,16777216,54120048,134217727,268435455,536870911,1073741823] [.quiet [0],.quiet [0],.quiet [0],.quiet [0],.quiet [0],.quiet [0],.quiet [0],.quiet [0],.quiet [0],.quiet [0],.quiet [0],.quiet [0],.quiet [0],.quiet [0],.quiet [0],.quiet [0],.quiet [0],.quiet [0],.quiet [0],.quiet [0],.quiet [0],.quiet [0],.quiet [0],.quiet [0],.quiet [0],.quiet [0],.quiet [0],.quiet [0],.quiet [0],.eff 0,.quiet [1]] 1 (by kernel_rfl) ?_
  simp[go_sem,fil]
  refine⟨by refine⟨?_,?_,hi.1,?_,?_,hi.2.1,?_,?_,hi.2.2.1,?_,?_,hi.2.2.2.1,?_,?_,hi.2.2.2.2,?_,?_,?_⟩ <;> omega,?_⟩
  refine awp_live [1,4] ?_
  simp[go_sem]
  have hsz:6+f.meter.size+1+(txt f.start).size+1+(txt f.step).size+1+(txt f.slots).size+1+(txt f.mult).size+1+(txt f.turn).size+1=(refH f).size:=by
   unfold refH
   simp only[ByteArray.size_append]
   rfl
  rw[hsz,show(⟨#[109,101,116,101,114,32]⟩ ++ f.meter ++ ⟨#[32]⟩ ++ txt f.start ++ ⟨#[32]⟩ ++ txt f.step ++ ⟨#[32]⟩ ++ txt f.slots ++ ⟨#[32]⟩ ++ txt f.mult ++ ⟨#[32]⟩ ++ txt f.turn ++ ⟨#[10]⟩ : ByteArray)=refH f from rfl,refH_eq]
  clear hsz h1 h2 h3 h4 h5 fil
  obtain⟨vl,hvl⟩ : ∃ vl,vl=AV.sl G1.length 0 (aU f).size 0:=⟨_,rfl⟩
  have hR:RowB (G1 ++ [newRowBlk 5 1 (aU f).size (strGet (aU f))]) vl (aU f):=⟨G1.length,0,_,hvl,hat_new _ _,rfl,rfl,rfl,rfl,rfl,fun i hi=>rfl⟩
  rw[← hvl]
  clear hvl
  have hP:=hP.keep (Fr.app [] G1 [newRowBlk 5 1 (aU f).size (strGet (aU f))]) (by simp) (by simp)
  have hF:Fr [67,5] H (G1 ++ [newRowBlk 5 1 (aU f).size (strGet (aU f))]):=(hF.trans (Fr.app [] G1 _)).mono (by simp)
  generalize G1 ++ [newRowBlk 5 1 (aU f).size (strGet (aU f))]=G3 at *
  have fil:=hP.fil
  simp only[fiB,fiV] at fil
  refine awp_seq ?_
  refine awp_seq (awp_mono (R:=fun e T G2=>e = .normal∧G2=G3∧Has T [(1,.ptr fb 0 0 0),(4,vl),(44,.int .i64 f.reads.length),(45,.int .i64 ((0:Nat):Int))]) ?_ ?_)
  ·refine awalk_sound C14ok _ _ _ _ ?_
   rcases hP.rds with ⟨rfl,h0⟩|⟨b,p,v,B,rfl,h2,h3,h5,h6,h7,h8⟩
   ·simp[go_sem,fil,h0]
   ·simp[go_sem,fil,h2,h3]
  rintro e T G2 ⟨rfl,rfl,hT⟩
  refine awp_weak ⟨hT,.inl rfl⟩ ?_
  clear hT T
  refine awp_block (awp_loopQ (fun k T G=>∃ (j:Nat) (vl:AV),k+j=f.reads.length∧PF H G fb f vr∧RowB G vl (bN (aU f) (f.reads.take j))∧Fr [67,5] H G∧T = [(1,.ptr fb 0 0 0),(4,vl),(44,.int .i64 f.reads.length),(45,.int .i64 j)]) f.reads.length ⟨0,vl,by omega,hP,hR,hF,rfl⟩ ?_)
  clear hP hR hF fil
  rintro k T G ⟨j,vl,hj,hP,hR,hF,rfl⟩ Q hN hX
  have fil:=hP.fil
  simp only[fiB,fiV] at fil
  refine awp_step C14ok fun K hK=>?_
  simp[go_sem]
  rw[hK,athen_n]
  refine awp_live [1,4,44,45,46] ?_
  simp[go_sem]
  clear hK K
  refine awp_step C14ok fun K hK=>?_
  simp[go_sem]
  refine⟨fun hjn=>?_,fun hjn=>?_⟩
  ·rw[hK,athen_n]
   refine awp_live [1,4,44,45] ?_
   simp[go_sem]
   clear hK K
   have hw:IntKind.i64.wrap ((j:Int)+1)=(j:Int)+1:=ay (by omega) (by omega)
   have hxj:f.reads[j]? = some f.reads[j]:=List.getElem?_eq_getElem hjn
   have hst:=fF (aU f) hjn
   have hrd:=(hd _ (List.getElem_mem hjn)).1
   have hsz:=bW (f.reads.take j) (aU f) (fun r h=>hd1 r (List.mem_of_mem_take h))
   have htl:(f.reads.take j).length≤j:=by rw[List.length_take];omega
   generalize f.reads[j]=r at *
   generalize bN (aU f) (f.reads.take j)=s at *
   rcases hP.rds with ⟨rfl,h0⟩|⟨bb,p,v,B,rfl,h2,h3,h5,h6,h7,h8⟩
   ·rw[h0] at hjn;simp at hjn
   have hg:=h8 j r hxj
   have hjl:p+j < B.len:=by omega
   simp only[rdV] at hg
   refine awp_seq (awp_block ?_)
   refine awp_step C14ok fun K hK=>?_
   simp[go_sem]
   rw[hK,athen_n]
   refine awp_live [1,4,5,44,45] ?_
   simp[go_sem]
   clear hK K
   refine awp_step C14ok fun K hK=>?_
   simp[go_sem,fil,h2,h3,h7,hg,hjl,hjn]
   rw[hK,athen_n]
   refine awp_live [1,4,6,44,45] ?_
   simp[go_sem]
   clear hK K
   have rb:boxBlk 41 5 [.int .i64 r.slot,.int .i64 r.imp,.int .i64 r.exp,.int .i64 r.var,.int .u8 r.flag]=boxBlk 41 5 (rdV r):=rfl
   rw[rb]
   have hP:=hP.keep (Fr.app [] G [boxBlk 41 5 (rdV r)]) (by simp) (by simp)
   have hF:=hF.trans (Fr.app _ G [boxBlk 41 5 (rdV r)])
   have hR:=hR.keep (Fr.app [] G [boxBlk 41 5 (rdV r)]) (by simp)
   have hbx:=hat_new G (boxBlk 41 5 (rdV r))
   generalize G ++ [boxBlk 41 5 (rdV r)]=G2 at *
   generalize G.length=q at *
   simp only[rdV] at hbx
   obtain⟨x1,x2,x3,x4⟩:=id hrd
   have y1:=av x1
   have y2:=av x2
   have y3:=av x3
   have y4:=av x4
   have y5:=flT_size r.flag
   obtain⟨bq,bv,BB,rfl,b2,b3,b4,b5,b6,b7,b8⟩:=hR
   have nq:q≠bq:=ne_of_t hbx b2 (by rw[b6];simp only[box_t];decide)
   refine awp_draw C14ok (by kernel_rfl) [0,0,2,6,14,30,0,64,206,510,1022,0,2048,6606,16382,32766,0,65536,211406,524286,1048574,0,2097152,6291456,14680064,33554430,67108862,134217727,268435455] [.quiet [0],.quiet [0],.quiet [0],.quiet [0],.quiet [0],.quiet [0],.quiet [0],.quiet [0],.quiet [0],.quiet [0],.quiet [0],.quiet [0],.quiet [0],.quiet [0],.quiet [0],.quiet [0],.quiet [0],.quiet [0],.quiet [0],.quiet [0],.quiet [0],.quiet [0],.quiet [0],.quiet [0],.quiet [0],.quiet [0],.quiet [0],.eff 0,.quiet [1]] 1 (by kernel_rfl) ?_
   simp[go_sem,hbx,b2,b3,b4,b5,b6,b7]
   rw[show Utf8.encode (IntKind.i32.wrap r.flag)=flT r.flag from rfl]
   refine⟨by refine⟨x1,?_,?_,x2,?_,?_,x3,?_,?_,x4,?_,?_,?_,?_,?_,?_⟩ <;> omega,?_⟩
   refine awp_live [1,4,44,45] ?_
   simp[go_sem]
   have hR:=RowB.app b2 b3 b5 b6 b7 b8 (z:=(⟨#[114,101,97,100,32]⟩ ++ txt r.slot ++ ⟨#[32]⟩ ++ txt r.imp ++ ⟨#[32]⟩ ++ txt r.exp ++ ⟨#[32]⟩ ++ txt r.var ++ ⟨#[32]⟩ ++ flT r.flag ++ ⟨#[10]⟩ : ByteArray))
   rw[show s ++ (⟨#[114,101,97,100,32]⟩ ++ txt r.slot ++ ⟨#[32]⟩ ++ txt r.imp ++ ⟨#[32]⟩ ++ txt r.exp ++ ⟨#[32]⟩ ++ txt r.var ++ ⟨#[32]⟩ ++ flT r.flag ++ ⟨#[10]⟩ : ByteArray)=refR s r from rfl,refR_eq,← hst] at hR
   have zsz:(⟨#[114,101,97,100,32]⟩ ++ txt r.slot ++ ⟨#[32]⟩ ++ txt r.imp ++ ⟨#[32]⟩ ++ txt r.exp ++ ⟨#[32]⟩ ++ txt r.var ++ ⟨#[32]⟩ ++ flT r.flag ++ ⟨#[10]⟩ : ByteArray).size=5+(txt r.slot).size+1+(txt r.imp).size+1+(txt r.exp).size+1+(txt r.var).size+1+(flT r.flag).size+1:=by
    simp only[ByteArray.size_append]
    rfl
   have hFa:=Fr.set b2 (ts:=[5]) (by rw[b6];simp) (appBlk BB (⟨#[114,101,97,100,32]⟩ ++ txt r.slot ++ ⟨#[32]⟩ ++ txt r.imp ++ ⟨#[32]⟩ ++ txt r.exp ++ ⟨#[32]⟩ ++ txt r.var ++ ⟨#[32]⟩ ++ flT r.flag ++ ⟨#[10]⟩ : ByteArray).size (strGet (⟨#[114,101,97,100,32]⟩ ++ txt r.slot ++ ⟨#[32]⟩ ++ txt r.imp ++ ⟨#[32]⟩ ++ txt r.exp ++ ⟨#[32]⟩ ++ txt r.var ++ ⟨#[32]⟩ ++ flT r.flag ++ ⟨#[10]⟩ : ByteArray)))
   rw[zsz] at hR hFa
   have hP:=hP.keep hFa (by simp) (by simp)
   have hF:=hF.trans (hFa.mono (by simp))
   refine awalk_sound C14ok _ _ _ _ ?_
   simp[go_sem,hw]
   refine hN (k - 1) _ _ (T2:=[(1,.ptr fb 0 0 0),(4,_),(44,.int .i64 f.reads.length),(45,.int .i64 (j+1:Nat))]) (by omega) ⟨rfl,rfl,rfl,rfl,trivial⟩ ⟨j+1,_,by omega,hP,hR,hF,rfl⟩
  ·rw[hK]
   refine hX (.exit 0) _ _ (by simp) ?_
   show AWp _ _ _ _ _ _ _
   refine awp_live [1,4] ?_
   simp[go_sem]
   clear hK K hX hN Q
   rw[List.take_of_length_le hjn] at hR
   have hsz:=bW f.reads (aU f) hd1
   have hin:=sumR_in (sumL f.reads)
   have hpt:printT f=lineB (bN (aU f) f.reads) bEnd [txt f.reads.length,txt (sumR (sumL f.reads)).1]:=rfl
   generalize bN (aU f) f.reads=s at *
   refine awp_seq (awp_region (aops_pref C14ok 1 ?_))
   simp[go_sem,fil,hc]
   refine aops_call rfl rfl rfl rfl Tryz.func38 (by kernel_rfl) (by kernel_rfl) (rfSum_calls hP.rds hd1 hn) ?_
   rintro v G2 ⟨rfl,hF2⟩
   refine⟨_,rfl,aops_pref C14ok 5 ?_⟩
   simp[go_sem]
   refine aops_nil ?_
   refine awp_live [1,4,7] ?_
   simp[go_sem]
   have hP:=hP.keep hF2 (by simp) (by simp)
   have hR:=hR.keep hF2 (by simp)
   have hF:=hF.trans (hF2.mono (by simp))
   clear hF2
   generalize (sumR (sumL f.reads)).1=S at *
   have fil:=hP.fil
   simp only[fiB,fiV] at fil
   have hin2:in64 (f.reads.length:Int):=⟨by omega,by omega⟩
   have hx1:=av hin2
   have hx2:=av hin
   obtain⟨bq,bv,BB,rfl,b2,b3,b4,b5,b6,b7,b8⟩:=hR
   have lq:=hat_lt b2
   have hFa:=Fr.set b2 (ts:=[5]) (by rw[b6];simp)
   have zsz:4+(txt f.reads.length).size+1+(txt S).size+1=(⟨#[101,110,100,32]⟩ ++ txt f.reads.length ++ ⟨#[32]⟩ ++ txt S ++ ⟨#[10]⟩ : ByteArray).size:=by
    simp only[ByteArray.size_append]
    rfl
   obtain⟨hby,hub⟩:=app_row zsz b5 b8
   rw[show s ++ (⟨#[101,110,100,32]⟩ ++ txt f.reads.length ++ ⟨#[32]⟩ ++ txt S ++ ⟨#[10]⟩ : ByteArray)=refE s (txt f.reads.length) (txt S) from rfl,refE_eq,← hpt] at hby
   have hpo:(if bH f=true then AV.tup [.str (printT f),.int .i64 0] else .tup [.str ⟨#[]⟩,.int .i64 8]) = .tup [.str (printT f),.int .i64 0]:=if_pos hok
   clear zsz
   refine awalk_sound C14ok _ _ _ _ ?_
   rcases hP.rds with ⟨rfl,h0⟩|⟨b,p,v,B,rfl,h2,h3,h5,h6,h7,h8⟩
   ·simp[go_sem,fil,h0,b2,b3,b4,b5,b6,b7,lq]
    rw[h0] at hx1 hin2 hub hby
    simp only[List.length_nil,show((0:Nat):Int)=0 from rfl] at hx1 hin2 hub hby
    refine⟨by refine⟨hin2,?_,?_,hin,?_,?_,⟨?_,?_⟩,by show BB.ver+1=_;rw[b3],b7,hub⟩ <;> omega,?_⟩
    refine⟨.inr rfl,?_⟩
    simp[go_sem]
    refine⟨_,True,⟨rfl,trivial⟩,trivial,?_,hF.trans ((hFa _).mono (by simp))⟩
    rw[hpo,← hby]
   ·simp[go_sem,fil,h2,h3,b2,b3,b4,b5,b6,b7,lq]
    refine⟨by refine⟨hin2,?_,?_,hin,?_,?_,⟨?_,?_⟩,by show BB.ver+1=_;rw[b3],b7,hub⟩ <;> omega,?_⟩
    refine⟨.inr rfl,?_⟩
    simp[go_sem]
    refine⟨_,True,⟨rfl,trivial⟩,trivial,?_,hF.trans ((hFa _).mono (by simp))⟩
    rw[hpo,← hby]
end Go.Proofs.YtjokedpaidmjoaaGreatDoor.Rf
