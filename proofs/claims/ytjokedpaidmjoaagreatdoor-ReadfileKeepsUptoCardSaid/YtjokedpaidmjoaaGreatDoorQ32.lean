/- A part of the proof. -/
import Derived.Test.YtjokedpaidmjoaaGreatDoorQ31
set_option linter.all false
namespace Go.Proofs.YtjokedpaidmjoaaGreatDoor.Rf
open Go Go.RowKit Go.Proofs.YtjokedpaidmjoaaGreatDoor.Am Go.Proofs.YtjokedpaidmjoaaGreatDoor.Pu Go.Proofs.YtjokedpaidmjoaaGreatDoor
attribute [local go_sem] areg aseq gstep gwant astep apick aop aslice alen aappend aappendS aconvS aconvB unw opTmps opnds tmpsOf aev Am.get ofConst ofConst1 putT strip abin aun initT AThen AIn ws_n ws_r ws_e ws_g aw_seq aw_reg aw_draw aw_cond aw_block aw_skip aw_ret aw_exit aw_goto aw_label aw_loop aw_scope ANoGoto AJ ares oneOr bound asInt fieldOf ldv setSeg AV.cells AV.whole AV.cell tys Ty.agg ty9 ty3 ty2 ty5 ty4 ty89 ty21 ty37 ty46 ty83 ty73 ty81 ty41 ty23 ty25 ty27 ty28 ty48 afill zeroRow litGet litCells adraw awit adchk pchk qchk gchk looks restr tfin Has hat_z hat_s hat_len hat_appL hat_appN hat_appK hat_setS hat_setN set_appL set_appN set_appK box_t bn aD aG aH aI ax aJ row_t bq aK ay aM row_one aN
attribute [local go_sem] C10_ty C10_fn fB fC s10_sgn s10_mag spSgn spMag
set_option maxRecDepth 10000
theorem rsum_row {base:Nat} {H:Heap} {vl:AV} {l:List Int} (h:RowN base H vl l) (hn:l.length≤100000000) (hin : ∀ x∈l,in64 x) :
  ACalls Tryz.prog 65 [vl] H fun v' H'=>v' = .tup [.int .i64 (sumR l).1,.int .i64 (sumR l).2]∧H' = H:=by
 rcases h with ⟨rfl,rfl⟩|⟨b,v,B,rfl,h0,h2,h3,h4,h5,h6,h7,h8⟩
 ·refine acalls_ofN (C:=C10) (nt:=89) C10ok Tryz.func65 rfl rfl ?_
  refine awalk_sound C10ok _ _ _ _ ?_
  rw[aw_seq]
  generalize hK:WSeq _ _ _ _ _=K
  simp[go_sem]
  rw[← hK,ws_n,aw_seq]
  clear hK
  generalize hK:WSeq _ _ _ _ _=K
  simp[go_sem]
  rw[← hK,ws_n,aw_seq]
  clear hK
  generalize hKo:WSeq _ _ _ _ _=Ko
  rw[aw_seq]
  generalize hK:WSeq _ _ _ _ _=K
  simp[go_sem]
  rw[← hK,ws_n,aw_block,aw_loop]
  clear hK
  refine awp_loopW (fun k T H'=>H' = H∧T = [(8,.int .i64 0),(7,.int .u64 0),(6,.int .u64 0),(5,.int .u64 0),(4,.int .u64 0),(0,.nilsl)]) 0 _ _ ⟨?_,.inl rfl⟩ ⟨rfl,rfl⟩ ?_
  ·simp[go_sem]
  rintro k T H' ⟨rfl,rfl⟩
  refine awalk_sound C10ok _ _ _ _ ?_
  simp[go_sem]
  rw[← hKo,ws_n]
  have w0:IntKind.u64.wrap 0=0:=by decide
  have e:sgR false 0 0=sumR []:=by decide
  simp[go_sem,w0,e]
  exact⟨.inr rfl,_,_,rfl,trivial,rfl,rfl⟩
 ·have hg : ∀ i,i < l.length → B.get i = [.int .i64 l[i]!]:=fun i hi=>h8 i _ (by simp[hi])
  have e:numsOf B l.length=l:=by
   apply List.ext_getElem (by simp[numsOf])
   intro i hi hi'
   simp[numsOf,numAt,hg i hi',hi']
  have hr:NumRow B l.length v:=⟨h3,h7,by omega,by omega,fun i hi=>by simp[numAt,hg i hi]⟩
  have:=rsum_calls (n:=l.length) (v:=v) h2 hr hn (by rw[e];exact hin)
  rw[e] at this
  exact this
end Go.Proofs.YtjokedpaidmjoaaGreatDoor.Rf
set_option linter.all false
namespace Go.Proofs.YtjokedpaidmjoaaGreatDoor.Rf
open Go Go.RowKit Go.Proofs.YtjokedpaidmjoaaGreatDoor.Am Go.Proofs.YtjokedpaidmjoaaGreatDoor.Pu Go.Proofs.YtjokedpaidmjoaaGreatDoor
theorem s10_dist:bT 64=some spDist:=rfl
attribute [local go_sem] areg aseq gstep gwant astep apick aop aslice alen aappend aappendS aconvS aconvB unw opTmps opnds tmpsOf aev Am.get ofConst ofConst1 putT strip abin aun initT AThen AIn ws_n ws_r ws_e ws_g aw_seq aw_reg aw_draw aw_cond aw_block aw_skip aw_ret aw_exit aw_goto aw_label aw_loop aw_scope ANoGoto AJ ares oneOr bound asInt fieldOf ldv setSeg AV.cells AV.whole AV.cell tys Ty.agg ty9 ty3 ty2 ty5 ty4 ty89 ty21 ty37 ty46 ty83 ty73 ty81 ty41 ty23 ty25 ty27 ty28 ty48 afill zeroRow litGet litCells adraw awit adchk pchk qchk gchk looks restr tfin Has hat_z hat_s hat_len hat_appL hat_appN hat_appK hat_setS hat_setN set_appL set_appN set_appK box_t bn aD aG aH aI ax aJ row_t bq aK ay aM row_one aN
attribute [local go_sem] C10_ty C10_fn fB fC s10_dist spDist
attribute [local go_sem] List.set_set
set_option maxRecDepth 10000
def rdL2 (r:Rd):List Int:=[r.slot,r.imp,r.exp] ++ (if r.var = -9223372036854775808 then [9223372036854775807,1] else [IntKind.i64.wrap (r.var.natAbs:Int)])
def sumL2 (l:List Rd):List Int:=l.flatMap rdL2
theorem rdL2_sum {r:Rd} (h:RdW r):(rdL2 r).sum=(rdL r).sum:=by
 obtain⟨_,_,_,h4⟩:=h
 unfold in64 at h4
 unfold rdL2 rdL
 rw[List.sum_append,List.sum_append]
 congr 1
 by_cases h1:r.var = -9223372036854775808
 ·rw[if_pos h1,if_pos (by omega),h1]
  decide
 ·rw[if_neg h1,av (n:=(r.var.natAbs:Int)) (by omega) (by omega)]
  by_cases h2:r.var < 0
  ·rw[if_pos h2,av (n:=r.var+1) (by omega) (by omega),av (n:=-(r.var+1)) (by omega) (by omega)]
   simp
   omega
  ·rw[if_neg h2]
   simp
   omega
theorem sumL2_sum {l:List Rd} (h : ∀ r∈l,RdW r):(sumL2 l).sum=(sumL l).sum:=by
 unfold sumL2 sumL
 induction l with
 |nil=>rfl
 |cons a r ih=>
  simp only[List.flatMap_cons,List.sum_append]
  rw[ih (fun x hx=>h x (by simp[hx])),rdL2_sum (h a (by simp))]
theorem sumR_same {l m:List Int} (h:l.sum=m.sum):sumR l=sumR m:=by unfold sumR;rw[h]
theorem rdL2_in {r:Rd} (h:RdW r) : ∀ x∈rdL2 r,in64 x:=by
 obtain⟨h1,h2,h3,h4⟩:=h
 intro x hx
 unfold rdL2 at hx
 unfold in64 at h4
 split at hx
 ·simp at hx
  rcases hx with rfl|rfl|rfl|rfl|rfl
  ·exact h1
  ·exact h2
  ·exact h3
  ·exact⟨by decide,by decide⟩
  ·exact⟨by decide,by decide⟩
 ·simp at hx
  rcases hx with rfl|rfl|rfl|rfl
  ·exact h1
  ·exact h2
  ·exact h3
  ·rename_i hne
   rw[av (by omega) (by omega)]
   exact⟨by omega,by omega⟩
theorem sumL2_in {l:List Rd} (h : ∀ r∈l,RdW r) : ∀ x∈sumL2 l,in64 x:=by
 intro x hx
 unfold sumL2 at hx
 obtain⟨r,hr,hx⟩:=List.mem_flatMap.1 hx
 exact rdL2_in (h r hr) x hx
theorem sumL2_len (l:List Rd):(sumL2 l).length≤5 * l.length:=by
 unfold sumL2
 induction l with
 |nil=>simp
 |cons a r ih=>
  have:(rdL2 a).length≤5:=by unfold rdL2;split <;> simp
  simp only[List.flatMap_cons,List.length_append,List.length_cons]
  omega
end Go.Proofs.YtjokedpaidmjoaaGreatDoor.Rf
set_option linter.all false
namespace Go.Proofs.YtjokedpaidmjoaaGreatDoor.Rf
open Go Go.RowKit Go.Proofs.YtjokedpaidmjoaaGreatDoor.Am Go.Proofs.YtjokedpaidmjoaaGreatDoor.Pu Go.Proofs.YtjokedpaidmjoaaGreatDoor
attribute [local go_sem] areg aseq gstep gwant astep apick aop aslice alen aappend aappendS aconvS aconvB unw opTmps opnds tmpsOf aev Am.get ofConst ofConst1 putT strip abin aun initT AThen AIn ws_n ws_r ws_e ws_g aw_seq aw_reg aw_draw aw_cond aw_block aw_skip aw_ret aw_exit aw_goto aw_label aw_loop aw_scope ANoGoto AJ ares oneOr bound asInt fieldOf ldv setSeg AV.cells AV.whole AV.cell tys Ty.agg ty9 ty3 ty2 ty5 ty4 ty89 ty21 ty37 ty46 ty83 ty73 ty81 ty41 ty23 ty25 ty27 ty28 ty48 afill zeroRow litGet litCells adraw awit adchk pchk qchk gchk looks restr tfin Has hat_z hat_s hat_len hat_appL hat_appN hat_appK hat_setS hat_setN set_appL set_appN set_appK box_t bn aD aG aH aI ax aJ row_t bq aK ay aM row_one aN
attribute [local go_sem] C10_ty C10_fn fB fC s10_dist spDist
attribute [local go_sem] List.set_set
set_option maxRecDepth 10000
theorem d9 {nt base:Nat} {H0 H:Heap} {ops:Array Oper} {R:APost} {T:Tmps} {r:List Oper} {o:Oper} {s x:Operand} {d xb:Nat} {vl:AV} {l m:List Int} (hg:o.guard=none) (ho:o.op = .call { callee:=.builtin .append,args:=#[s,x],argTypes:=#[73,73] }) (hd:o.dst=some d) (hdn:d < nt)
  (hs:(Am.aev T s)=vl) (hx:Am.aev T x = .sl xb 0 m.length 0) (hr:RowN base H vl l) (hxb:hat H xb=some (newRowBlk 2 1 m.length (litGet 1 (i64s m)))) (hbl:base≤H.length) (hn:l.length+m.length≤100000000)
  (hK : ∀ H1 b' v',RowN base H1 (.sl b' 0 (l.length+m.length) v') (l ++ m) → (∀ b B,hat H b=some B → b < base → hat H1 b=some B) → (∀ b B,hat H b=some B → B.t≠2 → hat H1 b=some B) → H.length≤H1.length → AOps C10 nt H0 ops R r ((d,.sl b' 0 (l.length+m.length) v') :: T) H1):AOps C10 nt H0 ops R (o :: r) T H:=by
 have ml:maxLen=9223372036854775807:=by decide
 have fin : ∀ (v:AV) (H1:Heap) (ob:Prop),aappend C10 H 73 (Am.aev T s) (Am.aev T x)=some (v,H1,ob) → ob → AOps C10 nt H0 ops R r ((d,v) :: T) H1 → AOps C10 nt H0 ops R (o :: r) T H:=by
  intro v H1 ob h1 h2 h3 φ0 φ b0 W0 W a hx0 hb hS hT hdf
  refine wpList_plain hg fun K hK=>aappend_sound C10ok ho h1 h2 hT hS ?_
  intro φ1 W1 u k1 k2 k3 k4
  rw[hd]
  exact hK _ _ (h3 φ0 φ1 b0 W0 W1 (a.put (some d) u) (hx0.trans k1) (hb.trans k4) k2 ((TRel.ext k1 hT).put hdn k3) hdf)
 rw[hx,hs] at fin
 have lm:m.length≤100000000:=by omega
 rcases hr with ⟨rfl,rfl⟩|⟨b,v,B,rfl,h0,h2,h3,h4,h5,h6,h7,h8⟩
 ·obtain⟨g,ob,e,hob,hgx⟩ : ∃ g ob,aappend C10 H 73 .nilsl (.sl xb 0 m.length 0)=some (.sl H.length 0 m.length 0,H ++ [newRowBlk 2 1 m.length g],ob)∧ob∧∀ i,g i=litGet 1 (i64s m) i:=by
   simp[go_sem,hxb,ml]
   exact⟨_,_,⟨rfl,Iff.rfl⟩,⟨by omega,by omega⟩,fun i=>rfl⟩
  have hK1:=hK (H ++ [newRowBlk 2 1 m.length g]) H.length 0
  simp only[List.length_nil,Nat.zero_add] at hK1
  refine fin _ _ _ e hob (hK1 (.inr ⟨H.length,0,newRowBlk 2 1 m.length g,by simp,hbl,hat_new _ _,rfl,rfl,by simp[ay],rfl,rfl,fun i x hx=>?_⟩) (fun b B hB _=>hat_app hB _) (fun b B hB _=>hat_app hB _) (by simp))
  show g i=_
  simp at hx
  have hlt:=(List.getElem?_eq_some_iff.1 hx).1
  rw[hgx,fQ i hlt,(List.getElem?_eq_some_iff.1 hx).2]
 ·have lb':=hat_lt h2
  obtain⟨g,ob,e,hob,hgx⟩ : ∃ g ob,aappend C10 H 73 (.sl b 0 l.length v) (.sl xb 0 m.length 0)=some (.sl b 0 (l.length+m.length) (v+1),H.set b (appBlk B m.length g),ob)∧ob∧∀ i,g i=litGet 1 (i64s m) i:=by
   simp[go_sem,hxb,h2,h3,h4,h5,h6,h7,ml]
   exact⟨_,_,⟨rfl,Iff.rfl⟩,⟨by omega,by omega⟩,fun i=>rfl⟩
  refine fin _ _ _ e hob (hK _ _ _ (.inr ⟨b,v+1,appBlk B m.length g,by simp,h0,hat_setS lb',by rw[← h3];rfl,rfl,by show B.len+m.length=_;rw[h5];simp,h6,h7,fun i x hx=>?_⟩) (fun b' B' hB' hlt=>by rw[hat_setN (by omega)];exact hB') (fun b' B' hB' ht=>by rw[hat_setN (fun q=>by subst q;rw[h2] at hB';cases hB';exact ht h6)];exact hB') (by simp))
  show(if i < B.len then B.get i else g (i - B.len))=_
  by_cases hi:i < B.len
  ·rw[if_pos hi]
   rw[List.getElem?_append_left (by omega)] at hx
   exact h8 i x hx
  ·rw[if_neg hi]
   rw[List.getElem?_append_right (by omega)] at hx
   have hlt:=(List.getElem?_eq_some_iff.1 hx).1
   rw[h5,hgx,fQ _ hlt,(List.getElem?_eq_some_iff.1 hx).2]
theorem fr_app2 {H G1 G2 L:Heap} {FB:Blk} (ht:FB.t≠2) (hF:Fr [] (H ++ [FB]) G1) (h2 : ∀ b B,hat (G1 ++ L) b=some B → b < H.length → hat G2 b=some B) (h3 : ∀ b B,hat (G1 ++ L) b=some B → B.t≠2 → hat G2 b=some B) (h4:(G1 ++ L).length≤G2.length):Fr [] (H ++ [FB]) G2:=by
 refine⟨by have:=hF.len;rw[List.length_append] at h4;omega,fun b B hb ht'=>?_⟩
 have q:=hat_app (hF.keep b B hb ht') L
 by_cases hlt:b < H.length
 ·exact h2 b B q hlt
 ·refine h3 b B q ?_
  have:=hat_lt hb
  simp at this
  have e:b=H.length:=by omega
  subst e
  rw[hat_appN rfl] at hb
  cases hb
  exact ht
set_option maxHeartbeats 4000000 in
theorem rfSum_calls {H:Heap} {vr:AV} {f:Fi} (hr:RdsG H vr f.reads) (hw : ∀ r∈f.reads,RdW r) (hn:f.reads.length≤1048577) :
  ACalls Tryz.prog 38 [.agg (fiV f vr)] H fun v H'=>v = .tup [.int .i64 (sumR (sumL f.reads)).1,.int .i64 (sumR (sumL f.reads)).2]∧Fr [] H H':=by
 refine acalls_ofN (C:=C10) (nt:=44) C10ok Tryz.func38 rfl rfl ?_
 refine awalk_sound C10ok _ _ _ _ ?_
 have hcell:=hr.cell
 simp only[AV.cell] at hcell
 have hsame:=sumR_same (sumL2_sum hw)
 rw[aw_seq]
 generalize hK:WSeq _ _ _ _ _=K
 simp[go_sem,fiV,hcell]
 rw[← hK,ws_n,aw_seq]
 clear hK
 generalize hK:WSeq _ _ _ _ _=K
 simp[go_sem]
 rw[← hK,ws_n]
 clear hK
 refine awalk_mid (fun T1 G=>∃ vl,Am.get T1 4=vl∧RowN H.length G vl (sumL2 f.reads)∧Fr [] H G) ?_ ?_
 ·rw[aw_seq]
  generalize hK:WSeq _ _ _ _ _=K
  rcases hr with ⟨rfl,h0⟩|⟨b,p,v,B,rfl,h2,h3,h5,h6,h7,h8⟩
  ·simp[go_sem]
   rw[← hK,ws_n]
   clear hK
   rw[aw_block,aw_loop]
   refine awp_loopW (fun k T G=>Fr [] H G∧T = [(10,.int .i64 0),(9,.int .i64 0),(4,.nilsl)]) 0 _ _ ⟨?_,.inl rfl⟩ ⟨Fr.app _ _ _,rfl⟩ ?_
   ·simp[go_sem]
   rintro k T G ⟨hF,rfl⟩
   refine awalk_sound C10ok _ _ _ _ ?_
   simp[go_sem]
   exact⟨.inl ⟨rfl,by rw[h0];rfl⟩,hF⟩
  ·have lb':=hat_lt h2
   simp[go_sem,h2,h3,lb']
   rw[← hK,ws_n]
   clear hK
   obtain⟨FB,hFB⟩ : ∃ FB,FB=boxBlk 25 7 [.str f.meter,.int .i64 f.start,.int .i64 f.step,.int .i64 f.slots,.int .i64 f.mult,.int .i64 f.turn,.sl b p f.reads.length v]:=⟨_,rfl⟩
   rw[← hFB]
   have hFt:FB.t≠2:=by rw[hFB];simp only[box_t];decide
   have hb1:hat (H ++ [FB]) b=some B:=hat_app h2 _
   have hf1:hat (H ++ [FB]) H.length=some FB:=hat_new _ _
   rw[aw_block,aw_loop]
   refine awp_loopW (fun k T G=>∃ (j:Nat) (vl:AV),k+j=f.reads.length∧Fr [] (H ++ [FB]) G∧RowN H.length G vl (sumL2 (f.reads.take j))∧T = [(10,.int .i64 j),(9,.int .i64 f.reads.length),(4,vl),(1,.ptr H.length 0 0 0)]) f.reads.length _ _ ⟨?_,.inl rfl⟩ ⟨0,.nilsl,by omega,Fr.refl _ _,.inl ⟨rfl,rfl⟩,rfl⟩ ?_
   ·simp[go_sem]
   rintro k T G ⟨j,vl,hj,hF,hvl,rfl⟩
   have hB:=hF.keep _ _ hb1 (by simp)
   have hFb:=hF.keep _ _ hf1 (by simp)
   rw[hFB] at hFb
   have lg:=hF.len
   simp only[List.length_append,List.length_cons,List.length_nil] at lg
   refine awp_seq (awp_reg C10ok ?_)
   simp[go_sem]
   refine awp_seq (awp_cond (b:=decide (j < f.reads.length)) (by simp[go_sem]) (fun h=>awp_skip ?_) fun h=>awp_exit ?_)
   ·have hjn:j < f.reads.length:=by simpa using h
    have hx:f.reads[j]? = some f.reads[j]:=List.getElem?_eq_getElem hjn
    have hg:=h8 j _ hx
    have hjl:p+j < B.len:=by omega
    have hwj:=hw _ (List.getElem_mem hjn)
    have hinc:IntKind.i64.wrap ((j:Int)+1)=(j:Int)+1:=av (by omega) (by omega)
    have hsum:sumL2 (f.reads.take (j+1))=sumL2 (f.reads.take j) ++ rdL2 f.reads[j]:=by
     unfold sumL2
     rw[List.take_succ_eq_append_getElem hjn,List.flatMap_append]
     simp
    have hsl:=sumL2_len (f.reads.take j)
    have htl:(f.reads.take j).length≤j:=by rw[List.length_take];omega
    generalize f.reads[j]=r at hx hg hwj hsum
    simp only[rdV] at hg
    simp[go_sem]
    refine awp_seq (awp_block (awp_seq (awp_reg C10ok ?_)))
    simp[go_sem]
    refine awp_seq (awp_reg C10ok ?_)
    simp[go_sem,hFb,hB,h3,h7,hg,hjn,hjl]
    have hvl1:=hvl.keep (Fr.app [] G [boxBlk 41 5 [.int .i64 r.slot,.int .i64 r.imp,.int .i64 r.exp,.int .i64 r.var,.int .u8 r.flag]])
    have hF1:=hF.trans (Fr.app [] G [boxBlk 41 5 [.int .i64 r.slot,.int .i64 r.imp,.int .i64 r.exp,.int .i64 r.var,.int .u8 r.flag]])
    obtain⟨G1,hG1⟩ : ∃ G1,G1=G ++ [boxBlk 41 5 [.int .i64 r.slot,.int .i64 r.imp,.int .i64 r.exp,.int .i64 r.var,.int .u8 r.flag]]:=⟨_,rfl⟩
    obtain⟨q,hq⟩ : ∃ q,q=G.length:=⟨_,rfl⟩
    have hbox:hat G1 q=some (boxBlk 41 5 [.int .i64 r.slot,.int .i64 r.imp,.int .i64 r.exp,.int .i64 r.var,.int .u8 r.flag]):=by rw[hG1,hq];exact hat_new _ _
    rw[← hG1] at hvl1 hF1 ⊢
    rw[← hq]
    have lg1:=hF1.len
    simp only[List.length_append,List.length_cons,List.length_nil] at lg1
    clear hG1 hq
    have hcs:vl = .nilsl∨∃ bb vv nn,vl = .sl bb 0 nn vv:=by
     rcases hvl with ⟨h,_⟩|⟨bb,vv,_,h,_⟩
     ·exact .inl h
     ·exact .inr ⟨_,_,_,h⟩
    have bx : ∀ {G2:Heap},Fr [] G1 G2 → hat G2 q=some (boxBlk 41 5 [.int .i64 r.slot,.int .i64 r.imp,.int .i64 r.exp,.int .i64 r.var,.int .u8 r.flag]):=fun h=>h.keep _ _ hbox (by simp)
    refine awp_seq (awp_mono (R:=fun e T G=>e = .normal∧∃ b2 v2,RowN H.length G (.sl b2 0 ((sumL2 (f.reads.take j)).length+3) v2) (sumL2 (f.reads.take j) ++ [r.slot,r.imp,r.exp])∧Fr [] (H ++ [FB]) G∧hat G q=some (boxBlk 41 5 [.int .i64 r.slot,.int .i64 r.imp,.int .i64 r.exp,.int .i64 r.var,.int .u8 r.flag])∧Am.get T 4 = .sl b2 0 ((sumL2 (f.reads.take j)).length+3) v2∧Am.get T 6 = .ptr q 0 0 0∧Am.get T 1 = .ptr H.length 0 0 0∧Am.get T 9 = .int .i64 f.reads.length∧Am.get T 10 = .int .i64 j) ?_ ?_)
    ·rcases hcs with rfl|⟨bb,vv,nn,rfl⟩
     ·refine awp_region (aops_pref C10ok 8 ?_)
      simp[go_sem,hbox]
      refine d9 (m:=[r.slot,r.imp,r.exp]) rfl rfl rfl (by decide) rfl rfl (hvl1.keep (Fr.app [] G1 _)) (hat_new _ _) (by simp;omega) (by simp;omega) fun G2 b2 v2 k1 k2 k3 k4=>?_
      refine aops_pref C10ok 1 ?_
      simp[go_sem]
      refine aops_nil ⟨rfl,b2,v2,k1,?_,k3 _ _ (hat_app hbox _) (by simp[go_sem]),rfl,rfl,rfl,rfl,rfl⟩
      exact fr_app2 hFt hF1 k2 k3 k4
     ·refine awp_region (aops_pref C10ok 8 ?_)
      simp[go_sem,hbox]
      refine d9 (m:=[r.slot,r.imp,r.exp]) rfl rfl rfl (by decide) rfl rfl (hvl1.keep (Fr.app [] G1 _)) (hat_new _ _) (by simp;omega) (by simp;omega) fun G2 b2 v2 k1 k2 k3 k4=>?_
      refine aops_pref C10ok 1 ?_
      simp[go_sem]
      refine aops_nil ⟨rfl,b2,v2,k1,?_,k3 _ _ (hat_app hbox _) (by simp[go_sem]),rfl,rfl,rfl,rfl,rfl⟩
      exact fr_app2 hFt hF1 k2 k3 k4
    ·rintro e T G2 ⟨rfl,b2,v2,k1,k2,k3,g4,g6,g1,g9,g10⟩
     refine awp_seq (awp_reg C10ok ?_)
     simp[go_sem,g6,k3]
     have lg2:=k2.len
     simp only[List.length_append,List.length_cons,List.length_nil] at lg2
     have hl3:(sumL2 (f.reads.take j) ++ [r.slot,r.imp,r.exp]).length=(sumL2 (f.reads.take j)).length+3:=by simp
     refine awp_cond (b:=(r.var == -9223372036854775808)) (by simp[go_sem]) (fun h=>?_) fun h=>?_
     ·have h:r.var = -9223372036854775808:=by simpa using h
      rw[show rdL2 r = [r.slot,r.imp,r.exp] ++ [9223372036854775807,1] by unfold rdL2;rw[if_pos h],← List.append_assoc] at hsum
      refine awp_region (aops_pref C10ok 2 ?_)
      simp[go_sem,g4,g6,k3]
      refine d9 (base:=H.length) (l:=sumL2 (f.reads.take j) ++ [r.slot,r.imp,r.exp]) (m:=[9223372036854775807,1]) rfl rfl rfl (by decide) rfl rfl (k1.keep (Fr.app [] G2 _)) (hat_new _ _) (by simp;omega) (by simp;omega) fun G3 b3 v3 m1 m2 m3 m4=>?_
      refine aops_pref C10ok 1 ?_
      simp[go_sem]
      refine aops_nil ?_
      have hF3:=fr_app2 hFt k2 m2 m3 m4
      refine awp_reg C10ok ?_
      simp[go_sem,g10,hinc]
      refine⟨k - 1,by omega,_,_,⟨?_,.inl rfl⟩,j+1,by omega,hF3,.sl b3 0 ((sumL2 (f.reads.take j)).length+3+2) v3,by rw[hsum];rw[hl3] at m1;exact m1,rfl⟩
      simp[go_sem,g1,g9]
     ·have h : ¬ r.var = -9223372036854775808:=by simpa using h
      rw[show rdL2 r = [r.slot,r.imp,r.exp] ++ [IntKind.i64.wrap (r.var.natAbs:Int)] by unfold rdL2;rw[if_neg h],← List.append_assoc] at hsum
      refine awp_region (aops_pref C10ok 5 ?_)
      simp[go_sem,g4,g6,k3]
      refine⟨hwj.2.2.2,?_⟩
      refine d9 (base:=H.length) (l:=sumL2 (f.reads.take j) ++ [r.slot,r.imp,r.exp]) (m:=[IntKind.i64.wrap (r.var.natAbs:Int)]) rfl rfl rfl (by decide) rfl rfl (k1.keep (Fr.app [] G2 _)) (hat_new _ _) (by simp;omega) (by simp;omega) fun G3 b3 v3 m1 m2 m3 m4=>?_
      refine aops_pref C10ok 1 ?_
      simp[go_sem]
      refine aops_nil ?_
      have hF3:=fr_app2 hFt k2 m2 m3 m4
      refine awp_reg C10ok ?_
      simp[go_sem,g10,hinc]
      refine⟨k - 1,by omega,_,_,⟨?_,.inl rfl⟩,j+1,by omega,hF3,.sl b3 0 ((sumL2 (f.reads.take j)).length+3+1) v3,by rw[hsum];rw[hl3] at m1;exact m1,rfl⟩
      simp[go_sem,g1,g9]
   ·have h : ¬ j < f.reads.length:=by simpa using h
    simp[go_sem]
    have:f.reads.take j=f.reads:=List.take_of_length_le (by omega)
    rw[this] at hvl
    exact⟨hvl,(Fr.app _ _ _).trans hF⟩
 ·rintro T1 G ⟨vl,g4,hvl,hF⟩
  rw[aw_seq]
  generalize hK:WSeq _ _ _ _ _=K
  have hcs:vl = .nilsl∨∃ bb vv nn,vl = .sl bb 0 nn vv:=by
   rcases hvl with ⟨h,_⟩|⟨bb,vv,_,h,_⟩
   ·exact .inl h
   ·exact .inr ⟨_,_,_,h⟩
  have hl:=sumL2_len f.reads
  have hsum:=rsum_row hvl (by omega) (sumL2_in hw)
  rw[hsame] at hsum
  rcases hcs with rfl|⟨bb,vv,nn,rfl⟩
  all_goals
   simp[go_sem,g4]
   refine awp_region (aops_pref C10ok 1 ?_)
   simp[go_sem,g4]
   refine aops_call rfl rfl rfl rfl Tryz.func65 (by kernel_rfl) (by kernel_rfl) hsum ?_
   rintro v H1 ⟨rfl,rfl⟩
   refine⟨_,rfl,aops_pref C10ok 4 ?_⟩
   simp[go_sem]
   refine aops_nil ?_
   rw[← hK,ws_n]
   simp[go_sem]
   exact⟨.inr rfl,_,_,rfl,trivial,rfl,hF⟩
end Go.Proofs.YtjokedpaidmjoaaGreatDoor.Rf
