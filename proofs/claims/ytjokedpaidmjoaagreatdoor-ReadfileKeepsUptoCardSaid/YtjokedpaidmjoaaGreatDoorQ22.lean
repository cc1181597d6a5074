/- A part of the proof. -/
import Derived.Test.YtjokedpaidmjoaaGreatDoorQ21
set_option linter.all false
namespace Go.Proofs.YtjokedpaidmjoaaGreatDoor.Rf
open Go Go.RowKit Go.Proofs.YtjokedpaidmjoaaGreatDoor.Am Go.Proofs.YtjokedpaidmjoaaGreatDoor.Pu Go.Proofs.YtjokedpaidmjoaaGreatDoor
attribute [local go_sem] areg aseq gstep gwant astep apick aop aslice alen aappend aappendS aconvS aconvB unw opTmps opnds tmpsOf aev Am.get ofConst ofConst1 putT strip abin aun initT AThen AIn ws_n ws_r ws_e ws_g aw_seq aw_reg aw_draw aw_cond aw_block aw_skip aw_ret aw_exit aw_goto aw_label aw_loop aw_scope ANoGoto AJ ares oneOr bound asInt fieldOf ldv setSeg AV.cells AV.whole AV.cell tys Ty.agg ty9 ty3 ty2 ty5 ty4 ty89 ty21 ty37 ty46 ty83 ty73 ty81 ty41 ty23 ty25 ty27 ty28 ty48 afill zeroRow litGet litCells adraw awit adchk pchk qchk gchk looks restr tfin Has hat_z hat_s hat_len hat_appL hat_appN hat_appK hat_setS hat_setN set_appL set_appN set_appK box_t bn aD aG aH aI ax aJ row_t bq aK ay aM row_one aN
attribute [local go_sem] C8_ty C8_fn C8_ext C8_eqt s8_text ext7
attribute [local go_sem] List.set_set
set_option maxRecDepth 10000
def sumR (l:List Int):Int × Int:=if -9223372036854775808≤l.sum∧l.sum≤9223372036854775807 then (l.sum,0) else (0,5)
theorem s8_none:bA 67=none:=rfl
def lo64 (S:Int):Int:=S % 18446744073709551616
def hi64 (S:Int):Int:=(S / 18446744073709551616) % 18446744073709551616
theorem sum_bound {l:List Int} (h : ∀ x∈l,in64 x) : -(9223372036854775808 * (l.length:Int))≤l.sum∧l.sum≤9223372036854775808 * (l.length:Int):=by
 induction l with
 |nil=>simp
 |cons x r ih=>
  have h1:=h x (by simp)
  have h2:=ih (fun y hy=>h y (by simp[hy]))
  unfold in64 at h1
  simp only[List.sum_cons,List.length_cons]
  omega
theorem take_sum {l:List Int} {j:Nat} (h:j < l.length):(l.take (j+1)).sum=(l.take j).sum+l[j]:=by
 rw[List.take_succ_eq_append_getElem h,List.sum_append]
 simp
theorem lo_step (S x:Int):(lo64 S+x) % 18446744073709551616=lo64 (S+x):=by unfold lo64;omega
theorem fdiv_pos (x:Int):x.fdiv 9223372036854775808=x / 9223372036854775808:=Int.fdiv_eq_ediv_of_nonneg x (by decide)
theorem hi_step (S x:Int) (h : -9223372036854775808≤x∧x≤9223372036854775807):(hi64 S+(x.fdiv 9223372036854775808+(lo64 S+x % 18446744073709551616) / 18446744073709551616)) % 18446744073709551616=hi64 (S+x):=by
 unfold lo64 hi64
 rw[fdiv_pos]
 rcases Int.lt_or_le x 0 with hx|hx
 ·have e:x / 9223372036854775808 = -1:=by omega
  rw[e]
  omega
 ·have e:x / 9223372036854775808=0:=by omega
  rw[e]
  omega
theorem fin_sum (S:Int) (h1 : -1237940039285380274899124224≤S) (h2:S≤1237940039285380274899124224):(hi64 S=IntKind.u64.wrap ((IntKind.i64.wrap (lo64 S)).fdiv 9223372036854775808)↔in64 S)∧(in64 S → IntKind.i64.wrap (lo64 S)=S):=by
 rw[fdiv_pos,IntKind.wrap_u64,IntKind.wrap_i64]
 unfold lo64 hi64 in64
 obtain⟨q,hq⟩ : ∃ q,q=S / 18446744073709551616:=⟨_,rfl⟩
 obtain⟨r,hr⟩ : ∃ r,r=S % 18446744073709551616:=⟨_,rfl⟩
 have e:S=18446744073709551616 * q+r:=by omega
 have r0:0≤r:=by omega
 have r1:r < 18446744073709551616:=by omega
 rw[← hq,← hr]
 have q1 : -67108865≤q:=by omega
 have q2:q≤67108865:=by omega
 rcases Int.lt_or_le r 9223372036854775808 with hx|hx
 ·have w:(r+9223372036854775808) % 18446744073709551616 - 9223372036854775808=r:=by omega
  rw[w]
  have d:r / 9223372036854775808=0:=by omega
  rw[d]
  constructor
  ·constructor <;> intro h <;> omega
  ·intro h;omega
 ·have w:(r+9223372036854775808) % 18446744073709551616 - 9223372036854775808=r - 18446744073709551616:=by omega
  rw[w]
  have d:(r - 18446744073709551616) / 9223372036854775808 = -1:=by omega
  rw[d]
  constructor
  ·constructor <;> intro h <;> omega
  ·intro h;omega
set_option maxHeartbeats 1000000 in
theorem fixSum_calls {H:Heap} {b n v:Nat} {B:Blk} (hB:hat H b=some B) (hr:NumRow B n v) (hn:n≤100000000) (hin : ∀ x∈numsOf B n,in64 x) :
  ACalls Tryz.prog 46 [.sl b 0 n v] H fun v' H'=>v' = .tup [.int .i64 (sumR (numsOf B n)).1,.int .i64 (sumR (numsOf B n)).2]∧H' = H:=by
 obtain⟨h1,h2,h3,h4,h5⟩:=hr
 have hl:(numsOf B n).length=n:=by simp[numsOf]
 refine acalls_ofN (C:=C8) (nt:=38) C8ok Tryz.func46 rfl rfl ?_
 refine awalk_sound C8ok _ _ _ _ ?_
 simp[go_sem,hB,h1]
 refine awp_loopW (fun k T H'=>∃ j:Nat,k+j=n∧H' = H∧T = [(11,.int .i64 j),(10,.int .i64 n),(9,.sl b 0 n v),(5,.int .u64 (lo64 ((numsOf B n).take j).sum)),(4,.int .u64 (hi64 ((numsOf B n).take j).sum))]) n _ _ ⟨?_,.inl rfl⟩ ⟨0,by omega,rfl,rfl⟩ ?_
 ·simp[go_sem,lo64,hi64]
 rintro k T H' ⟨j,hj,rfl,rfl⟩
 refine awalk_sound C8ok _ _ _ _ ?_
 by_cases hjn:j < n
 ·have hg:=h5 j hjn
  have hjl:j < B.len:=by omega
  have hjl2:j < (numsOf B n).length:=by omega
  have hx:numAt B j=(numsOf B n)[j]:=by simp[numsOf]
  have hxi:=hin _ (List.getElem_mem hjl2)
  unfold in64 at hxi
  have hw:IntKind.i64.wrap ((j:Int)+1)=(j:Int)+1:=av (by omega) (by omega)
  simp[go_sem,hB,h1,h2,hg,hjn,hjl,hw,C8_fn,s8_none,IntKind.wrap_u64]
  have hs:=take_sum hjl2
  refine⟨⟨by unfold lo64;omega,by omega⟩,k - 1,by omega,_,_,⟨?_,.inl rfl⟩,j+1,by omega,rfl,rfl⟩
  rw[hs,← hx]
  simp[go_sem]
  rw[hx]
  exact⟨lo_step _ _,hi_step _ _ hxi⟩
 ·have hje:(numsOf B n).take j=numsOf B n:=List.take_of_length_le (by omega)
  obtain⟨c1,c2⟩:=sum_bound hin
  rw[hl] at c1 c2
  obtain⟨f1,f2⟩:=fin_sum (numsOf B n).sum (by omega) (by omega)
  simp[go_sem,hjn,hje]
  refine⟨fun h=>?_,fun h=>?_⟩
  ·refine⟨.inr rfl,_,_,rfl,trivial,?_,rfl⟩
   have : ¬ in64 (numsOf B n).sum:=fun q=>h (f1.2 q)
   have e:sumR (numsOf B n)=(0,5):=if_neg this
   rw[e]
   rfl
  ·refine⟨.inr rfl,_,_,rfl,trivial,?_,rfl⟩
   have q:=f1.1 h
   have e:sumR (numsOf B n)=((numsOf B n).sum,0):=if_pos q
   rw[e]
   simp[go_sem,f2 q]
def RowN (base:Nat) (H:Heap) (vl:AV) (l:List Int):Prop:=(vl = .nilsl∧l = [])∨∃ b v B,vl = .sl b 0 l.length v∧base≤b∧hat H b=some B∧B.ver=v∧B.own=true∧B.len=l.length∧B.t=2∧B.sz=1∧∀ i x,l[i]? = some x → B.get i = [.int .i64 x]
theorem RowN.keep {base:Nat} {H H' : Heap} {vl:AV} {l:List Int} (h:RowN base H vl l) (hf:Fr [] H H'):RowN base H' vl l:=by
 rcases h with h|⟨b,v,B,h1,h0,h2,h3⟩
 ·exact .inl h
 ·exact .inr ⟨b,v,B,h1,h0,hf.keep _ _ h2 (by simp),h3⟩
def i64s (l:List Int):List AV:=l.map (fun x=>.int .i64 x)
theorem fQ {l:List Int} (i:Nat) (h:i < l.length):litGet 1 (i64s l) i = [.int .i64 l[i]]:=by
 unfold litGet i64s
 rw[Nat.mul_one]
 have:(l.map (fun x=>AV.int .i64 x)).drop i = .int .i64 l[i] :: (l.map (fun x=>AV.int .i64 x)).drop (i+1):=by
  rw[List.drop_eq_getElem_cons (by simpa using h)]
  simp
 rw[this]
 rfl
theorem fT {nt base:Nat} {H0 H:Heap} {ops:Array Oper} {R:APost} {T:Tmps} {r:List Oper} {o:Oper} {s x:Operand} {d xb:Nat} {vl:AV} {l m:List Int} (hg:o.guard=none) (ho:o.op = .call { callee:=.builtin .append,args:=#[s,x],argTypes:=#[73,73] }) (hd:o.dst=some d) (hdn:d < nt)
  (hs:(Am.aev T s)=vl) (hx:Am.aev T x = .sl xb 0 m.length 0) (hr:RowN base H vl l) (hxb:hat H xb=some (newRowBlk 2 1 m.length (litGet 1 (i64s m)))) (hbl:base≤H.length) (hn:l.length+m.length≤100000000)
  (hK : ∀ H1 b' v',RowN base H1 (.sl b' 0 (l.length+m.length) v') (l ++ m) → (∀ b B,hat H b=some B → b < base → hat H1 b=some B) → (∀ b B,hat H b=some B → B.t≠2 → hat H1 b=some B) → H.length≤H1.length → AOps C8 nt H0 ops R r ((d,.sl b' 0 (l.length+m.length) v') :: T) H1):AOps C8 nt H0 ops R (o :: r) T H:=by
 have ml:maxLen=9223372036854775807:=by decide
 have fin : ∀ (v:AV) (H1:Heap) (ob:Prop),aappend C8 H 73 (Am.aev T s) (Am.aev T x)=some (v,H1,ob) → ob → AOps C8 nt H0 ops R r ((d,v) :: T) H1 → AOps C8 nt H0 ops R (o :: r) T H:=by
  intro v H1 ob h1 h2 h3 φ0 φ b0 W0 W a hx0 hb hS hT hdf
  refine wpList_plain hg fun K hK=>aappend_sound C8ok ho h1 h2 hT hS ?_
  intro φ1 W1 u k1 k2 k3 k4
  rw[hd]
  exact hK _ _ (h3 φ0 φ1 b0 W0 W1 (a.put (some d) u) (hx0.trans k1) (hb.trans k4) k2 ((TRel.ext k1 hT).put hdn k3) hdf)
 rw[hx,hs] at fin
 have lm:m.length≤100000000:=by omega
 rcases hr with ⟨rfl,rfl⟩|⟨b,v,B,rfl,h0,h2,h3,h4,h5,h6,h7,h8⟩
 ·obtain⟨g,ob,e,hob,hgx⟩ : ∃ g ob,aappend C8 H 73 .nilsl (.sl xb 0 m.length 0)=some (.sl H.length 0 m.length 0,H ++ [newRowBlk 2 1 m.length g],ob)∧ob∧∀ i,g i=litGet 1 (i64s m) i:=by
   simp[go_sem,hxb,ml]
   exact⟨_,_,⟨rfl,Iff.rfl⟩,⟨by omega,by omega⟩,fun i=>rfl⟩
  have hK1:=hK (H ++ [newRowBlk 2 1 m.length g]) H.length 0
  simp only[List.length_nil,Nat.zero_add] at hK1
  refine fin _ _ _ e hob (hK1 (.inr ⟨H.length,0,newRowBlk 2 1 m.length g,by simp,hbl,hat_new _ _,rfl,rfl,by simp[ay],rfl,rfl,fun i x hx=>?_⟩) (fun b B hB _=>hat_app hB _) (fun b B hB _=>hat_app hB _) (by simp))
  show g i=_
  simp at hx
  have hlt:=(List.getElem?_eq_some_iff.1 hx).1
  rw[hgx,fQ i hlt,(List.getElem?_eq_some_iff.1 hx).2]
 ·have lb':=hat_lt h2
  obtain⟨g,ob,e,hob,hgx⟩ : ∃ g ob,aappend C8 H 73 (.sl b 0 l.length v) (.sl xb 0 m.length 0)=some (.sl b 0 (l.length+m.length) (v+1),H.set b (appBlk B m.length g),ob)∧ob∧∀ i,g i=litGet 1 (i64s m) i:=by
   simp[go_sem,hxb,h2,h3,h4,h5,h6,h7,ml]
   exact⟨_,_,⟨rfl,Iff.rfl⟩,⟨by omega,by omega⟩,fun i=>rfl⟩
  refine fin _ _ _ e hob (hK _ _ _ (.inr ⟨b,v+1,appBlk B m.length g,by simp,h0,hat_setS lb',by rw[← h3];rfl,rfl,by show B.len+m.length=_;rw[h5];simp,h6,h7,fun i x hx=>?_⟩) (fun b' B' hB' hlt=>by rw[hat_setN (by omega)];exact hB') (fun b' B' hB' ht=>by rw[hat_setN (fun q=>by subst q;rw[h2] at hB';cases hB';exact ht h6)];exact hB') (by simp))
  show(if i < B.len then B.get i else g (i - B.len))=_
  by_cases hi:i < B.len
  ·rw[if_pos hi]
   rw[List.getElem?_append_left (by omega)] at hx
   exact h8 i x hx
  ·rw[if_neg hi]
   rw[List.getElem?_append_right (by omega)] at hx
   have hlt:=(List.getElem?_eq_some_iff.1 hx).1
   rw[h5,hgx,fQ _ hlt,(List.getElem?_eq_some_iff.1 hx).2]
theorem fr_app {H G1 G2 L:Heap} (hF:Fr [] H G1) (h2 : ∀ b B,hat (G1 ++ L) b=some B → b < H.length → hat G2 b=some B) (h4:(G1 ++ L).length≤G2.length):Fr [] H G2:=
 ⟨by have:=hF.len;rw[List.length_append] at h4;omega,fun b B hb ht=>h2 b B (hat_app (hF.keep b B hb ht) L) (hat_lt hb)⟩
theorem fixSum_row {base:Nat} {H:Heap} {vl:AV} {l:List Int} (h:RowN base H vl l) (hn:l.length≤100000000) (hin : ∀ x∈l,in64 x) :
  ACalls Tryz.prog 46 [vl] H fun v' H'=>v' = .tup [.int .i64 (sumR l).1,.int .i64 (sumR l).2]∧H' = H:=by
 rcases h with ⟨rfl,rfl⟩|⟨b,v,B,rfl,h0,h2,h3,h4,h5,h6,h7,h8⟩
 ·refine acalls_ofN (C:=C8) (nt:=38) C8ok Tryz.func46 rfl rfl ?_
  refine awalk_sound C8ok _ _ _ _ ?_
  simp[go_sem]
  refine awp_loopW (fun k T H'=>H' = H∧T = [(11,.int .i64 0),(10,.int .i64 0),(9,.nilsl),(5,.int .u64 0),(4,.int .u64 0)]) 0 _ _ ⟨?_,.inl rfl⟩ ⟨rfl,rfl⟩ ?_
  ·simp[go_sem]
  rintro k T H' ⟨rfl,rfl⟩
  refine awalk_sound C8ok _ _ _ _ ?_
  simp[go_sem]
  have q:(0:Int)=IntKind.u64.wrap ((IntKind.i64.wrap 0).fdiv 9223372036854775808):=by decide
  refine⟨fun h=>absurd q h,fun _=>⟨.inr rfl,_,_,rfl,trivial,rfl,rfl⟩⟩
 ·have hg : ∀ i,i < l.length → B.get i = [.int .i64 l[i]!]:=fun i hi=>h8 i _ (by simp[hi])
  have e:numsOf B l.length=l:=by
   apply List.ext_getElem (by simp[numsOf])
   intro i hi hi'
   simp[numsOf,numAt,hg i hi',hi']
  have hr:NumRow B l.length v:=⟨h3,h7,by omega,by omega,fun i hi=>by simp[numAt,hg i hi]⟩
  have:=fixSum_calls (n:=l.length) (v:=v) h2 hr hn (by rw[e];exact hin)
  rw[e] at this
  exact this
def rdL (r:Rd):List Int:=[r.slot,r.imp,r.exp] ++ (if r.var < 0 then [IntKind.i64.wrap (-IntKind.i64.wrap (r.var+1)),1] else [r.var])
def sumL (l:List Rd):List Int:=l.flatMap rdL
def RdW (r:Rd):Prop:=in64 r.slot∧in64 r.imp∧in64 r.exp∧in64 r.var
theorem rdL_in {r:Rd} (h:RdW r) : ∀ x∈rdL r,in64 x:=by
 obtain⟨h1,h2,h3,h4⟩:=h
 intro x hx
 unfold rdL at hx
 unfold in64 at h4
 split at hx
 ·simp at hx
  rcases hx with rfl|rfl|rfl|rfl|rfl
  ·exact h1
  ·exact h2
  ·exact h3
  ·rw[av (n:=r.var+1) (by omega) (by omega),av (by omega) (by omega)]
   exact⟨by omega,by omega⟩
  ·exact⟨by decide,by decide⟩
 ·simp at hx
  rcases hx with rfl|rfl|rfl|rfl
  ·exact h1
  ·exact h2
  ·exact h3
  ·exact h4
theorem sumL_in {l:List Rd} (h : ∀ r∈l,RdW r) : ∀ x∈sumL l,in64 x:=by
 intro x hx
 unfold sumL at hx
 obtain⟨r,hr,hx⟩:=List.mem_flatMap.1 hx
 exact rdL_in (h r hr) x hx
theorem rdL_len (r:Rd):(rdL r).length≤5:=by unfold rdL;split <;> simp
theorem sumL_len (l:List Rd):(sumL l).length≤5 * l.length:=by
 unfold sumL
 induction l with
 |nil=>simp
 |cons a r ih=>
  have:=rdL_len a
  simp only[List.flatMap_cons,List.length_append,List.length_cons]
  omega
set_option maxHeartbeats 4000000 in
theorem dO {H:Heap} {vr:AV} {f:Fi} (hr:RdsG H vr f.reads) (hw : ∀ r∈f.reads,RdW r) (hn:f.reads.length≤1048577) :
  ACalls Tryz.prog 17 [.agg (fiV f vr)] H fun v H'=>v = .tup [.int .i64 (sumR (sumL f.reads)).1,.int .i64 (sumR (sumL f.reads)).2]∧Fr [] H H':=by
 refine acalls_ofN (C:=C8) (nt:=43) C8ok Tryz.func17 rfl rfl ?_
 refine awalk_sound C8ok _ _ _ _ ?_
 have hcell:=hr.cell
 simp only[AV.cell] at hcell
 rw[aw_seq]
 generalize hK:WSeq _ _ _ _ _=K
 simp[go_sem,fiV,hcell]
 rw[← hK,ws_n,aw_seq]
 clear hK
 generalize hK:WSeq _ _ _ _ _=K
 simp[go_sem]
 rw[← hK,ws_n]
 clear hK
 refine awalk_mid (fun T1 G=>∃ vl,Am.get T1 4=vl∧RowN H.length G vl (sumL f.reads)∧Fr [] H G) ?_ ?_
 ·rw[aw_seq]
  generalize hK:WSeq _ _ _ _ _=K
  rcases hr with ⟨rfl,h0⟩|⟨b,p,v,B,rfl,h2,h3,h5,h6,h7,h8⟩
  ·simp[go_sem]
   rw[← hK,ws_n]
   clear hK
   rw[aw_block,aw_loop]
   refine awp_loopW (fun k T G=>Fr [] H G∧T = [(10,.int .i64 0),(9,.int .i64 0),(8,.nilsl),(4,.nilsl)]) 0 _ _ ⟨?_,.inl rfl⟩ ⟨Fr.app _ _ _,rfl⟩ ?_
   ·simp[go_sem]
   rintro k T G ⟨hF,rfl⟩
   refine awalk_sound C8ok _ _ _ _ ?_
   simp[go_sem]
   exact⟨.inl ⟨rfl,by rw[h0];rfl⟩,hF⟩
  ·have lb':=hat_lt h2
   simp[go_sem,h2,h3,lb']
   rw[← hK,ws_n]
   clear hK
   rw[aw_block,aw_loop]
   refine awp_loopW (fun k T G=>∃ (j:Nat) (vl:AV),k+j=f.reads.length∧Fr [] H G∧RowN H.length G vl (sumL (f.reads.take j))∧T = [(10,.int .i64 j),(9,.int .i64 f.reads.length),(8,.sl b p f.reads.length v),(4,vl)]) f.reads.length _ _ ⟨?_,.inl rfl⟩ ⟨0,.nilsl,by omega,Fr.app _ _ _,.inl ⟨rfl,rfl⟩,rfl⟩ ?_
   ·simp[go_sem]
   rintro k T G ⟨j,vl,hj,hF,hvl,rfl⟩
   have hB:=hF.keep _ _ h2 (by simp)
   have lg:=hF.len
   refine awp_seq (awp_reg C8ok ?_)
   simp[go_sem]
   refine awp_seq (awp_cond (b:=decide (j < f.reads.length)) (by simp[go_sem]) (fun h=>awp_skip ?_) fun h=>awp_exit ?_)
   ·have hjn:j < f.reads.length:=by simpa using h
    have hx:f.reads[j]? = some f.reads[j]:=List.getElem?_eq_getElem hjn
    have hg:=h8 j _ hx
    have hjl:p+j < B.len:=by omega
    have hwj:=hw _ (List.getElem_mem hjn)
    have hinc:IntKind.i64.wrap ((j:Int)+1)=(j:Int)+1:=av (by omega) (by omega)
    have hsum:sumL (f.reads.take (j+1))=sumL (f.reads.take j) ++ rdL f.reads[j]:=by
     unfold sumL
     rw[List.take_succ_eq_append_getElem hjn,List.flatMap_append]
     simp
    have hsl:=sumL_len (f.reads.take j)
    have htl:(f.reads.take j).length≤j:=by rw[List.length_take];omega
    generalize f.reads[j]=r at hx hg hwj hsum
    simp only[rdV] at hg
    simp[go_sem]
    refine awp_seq (awp_block (awp_seq (awp_reg C8ok ?_)))
    simp[go_sem,hB,h3,h7,hg,hjn,hjl]
    have hvl1:=hvl.keep (Fr.app [] G [boxBlk 41 5 [.int .i64 r.slot,.int .i64 r.imp,.int .i64 r.exp,.int .i64 r.var,.int .u8 r.flag]])
    have hF1:=hF.trans (Fr.app [] G [boxBlk 41 5 [.int .i64 r.slot,.int .i64 r.imp,.int .i64 r.exp,.int .i64 r.var,.int .u8 r.flag]])
    obtain⟨G1,hG1⟩ : ∃ G1,G1=G ++ [boxBlk 41 5 [.int .i64 r.slot,.int .i64 r.imp,.int .i64 r.exp,.int .i64 r.var,.int .u8 r.flag]]:=⟨_,rfl⟩
    obtain⟨q,hq⟩ : ∃ q,q=G.length:=⟨_,rfl⟩
    have hbox:hat G1 q=some (boxBlk 41 5 [.int .i64 r.slot,.int .i64 r.imp,.int .i64 r.exp,.int .i64 r.var,.int .u8 r.flag]):=by rw[hG1,hq];exact hat_new _ _
    rw[← hG1] at hvl1 hF1 ⊢
    rw[← hq]
    have lg1:=hF1.len
    clear hG1 hq
    have hcs:vl = .nilsl∨∃ bb vv nn,vl = .sl bb 0 nn vv:=by
     rcases hvl with ⟨h,_⟩|⟨bb,vv,_,h,_⟩
     ·exact .inl h
     ·exact .inr ⟨_,_,_,h⟩
    have bx : ∀ {G2:Heap},Fr [] G1 G2 → hat G2 q=some (boxBlk 41 5 [.int .i64 r.slot,.int .i64 r.imp,.int .i64 r.exp,.int .i64 r.var,.int .u8 r.flag]):=fun h=>h.keep _ _ hbox (by simp)
    refine awp_seq (awp_mono (R:=fun e T G=>e = .normal∧∃ b2 v2,RowN H.length G (.sl b2 0 ((sumL (f.reads.take j)).length+3) v2) (sumL (f.reads.take j) ++ [r.slot,r.imp,r.exp])∧Fr [] H G∧hat G q=some (boxBlk 41 5 [.int .i64 r.slot,.int .i64 r.imp,.int .i64 r.exp,.int .i64 r.var,.int .u8 r.flag])∧Am.get T 4 = .sl b2 0 ((sumL (f.reads.take j)).length+3) v2∧Am.get T 6 = .ptr q 0 0 0∧Am.get T 8 = .sl b p f.reads.length v∧Am.get T 9 = .int .i64 f.reads.length∧Am.get T 10 = .int .i64 j) ?_ ?_)
    ·rcases hcs with rfl|⟨bb,vv,nn,rfl⟩
     ·refine awp_region (aops_pref C8ok 8 ?_)
      simp[go_sem,hbox]
      refine fT (m:=[r.slot,r.imp,r.exp]) rfl rfl rfl (by decide) rfl rfl (hvl1.keep (Fr.app [] G1 _)) (hat_new _ _) (by simp;omega) (by simp;omega) fun G2 b2 v2 k1 k2 k3 k4=>?_
      refine aops_pref C8ok 1 ?_
      simp[go_sem]
      refine aops_nil ⟨rfl,b2,v2,k1,?_,k3 _ _ (hat_app hbox _) (by simp[go_sem]),rfl,rfl,rfl,rfl,rfl⟩
      exact fr_app hF1 k2 k4
     ·refine awp_region (aops_pref C8ok 8 ?_)
      simp[go_sem,hbox]
      refine fT (m:=[r.slot,r.imp,r.exp]) rfl rfl rfl (by decide) rfl rfl (hvl1.keep (Fr.app [] G1 _)) (hat_new _ _) (by simp;omega) (by simp;omega) fun G2 b2 v2 k1 k2 k3 k4=>?_
      refine aops_pref C8ok 1 ?_
      simp[go_sem]
      refine aops_nil ⟨rfl,b2,v2,k1,?_,k3 _ _ (hat_app hbox _) (by simp[go_sem]),rfl,rfl,rfl,rfl,rfl⟩
      exact fr_app hF1 k2 k4
    ·rintro e T G2 ⟨rfl,b2,v2,k1,k2,k3,g4,g6,g8,g9,g10⟩
     refine awp_seq (awp_reg C8ok ?_)
     simp[go_sem,g6,k3]
     have lg2:=k2.len
     have hl3:(sumL (f.reads.take j) ++ [r.slot,r.imp,r.exp]).length=(sumL (f.reads.take j)).length+3:=by simp
     refine awp_cond (b:=decide (r.var < 0)) (by simp[go_sem]) (fun h=>?_) fun h=>?_
     ·have h:r.var < 0:=by simpa using h
      rw[show rdL r = [r.slot,r.imp,r.exp] ++ [IntKind.i64.wrap (-IntKind.i64.wrap (r.var+1)),1] by unfold rdL;rw[if_pos h],← List.append_assoc] at hsum
      refine awp_region (aops_pref C8ok 6 ?_)
      simp[go_sem,g4,g6,k3]
      refine fT (base:=H.length) (l:=sumL (f.reads.take j) ++ [r.slot,r.imp,r.exp]) (m:=[IntKind.i64.wrap (-IntKind.i64.wrap (r.var+1)),1]) rfl rfl rfl (by decide) rfl rfl (k1.keep (Fr.app [] G2 _)) (hat_new _ _) (by simp;omega) (by simp;omega) fun G3 b3 v3 m1 m2 m3 m4=>?_
      refine aops_pref C8ok 1 ?_
      simp[go_sem]
      refine aops_nil ?_
      have hF3:=fr_app k2 m2 m4
      refine awp_reg C8ok ?_
      simp[go_sem,g10,hinc]
      refine⟨k - 1,by omega,_,_,⟨?_,.inl rfl⟩,j+1,by omega,hF3,.sl b3 0 ((sumL (f.reads.take j)).length+3+2) v3,by rw[hsum];rw[hl3] at m1;exact m1,rfl⟩
      simp[go_sem,g8,g9]
     ·have h : ¬ r.var < 0:=by simpa using h
      rw[show rdL r = [r.slot,r.imp,r.exp] ++ [r.var] by unfold rdL;rw[if_neg h],← List.append_assoc] at hsum
      refine awp_region (aops_pref C8ok 4 ?_)
      simp[go_sem,g4,g6,k3]
      refine fT (base:=H.length) (l:=sumL (f.reads.take j) ++ [r.slot,r.imp,r.exp]) (m:=[r.var]) rfl rfl rfl (by decide) rfl rfl (k1.keep (Fr.app [] G2 _)) (hat_new _ _) (by simp;omega) (by simp;omega) fun G3 b3 v3 m1 m2 m3 m4=>?_
      refine aops_pref C8ok 1 ?_
      simp[go_sem]
      refine aops_nil ?_
      have hF3:=fr_app k2 m2 m4
      refine awp_reg C8ok ?_
      simp[go_sem,g10,hinc]
      refine⟨k - 1,by omega,_,_,⟨?_,.inl rfl⟩,j+1,by omega,hF3,.sl b3 0 ((sumL (f.reads.take j)).length+3+1) v3,by rw[hsum];rw[hl3] at m1;exact m1,rfl⟩
      simp[go_sem,g8,g9]
   ·have h : ¬ j < f.reads.length:=by simpa using h
    simp[go_sem]
    refine⟨?_,hF⟩
    have:f.reads.take j=f.reads:=List.take_of_length_le (by omega)
    rw[this] at hvl
    exact hvl
 ·rintro T1 G ⟨vl,g4,hvl,hF⟩
  rw[aw_seq]
  generalize hK:WSeq _ _ _ _ _=K
  have hcs:vl = .nilsl∨∃ bb vv nn,vl = .sl bb 0 nn vv:=by
   rcases hvl with ⟨h,_⟩|⟨bb,vv,_,h,_⟩
   ·exact .inl h
   ·exact .inr ⟨_,_,_,h⟩
  have hl:=sumL_len f.reads
  have hsum:=fixSum_row hvl (by omega) (sumL_in hw)
  rcases hcs with rfl|⟨bb,vv,nn,rfl⟩
  all_goals
   simp[go_sem,g4]
   refine awp_region (aops_pref C8ok 1 ?_)
   simp[go_sem,g4]
   refine aops_call rfl rfl rfl rfl Tryz.func46 (by kernel_rfl) (by kernel_rfl) hsum ?_
   rintro v H1 ⟨rfl,rfl⟩
   refine⟨_,rfl,aops_pref C8ok 4 ?_⟩
   simp[go_sem]
   refine aops_nil ?_
   rw[← hK,ws_n]
   simp[go_sem]
   exact⟨.inr rfl,_,_,rfl,trivial,rfl,hF⟩
end Go.Proofs.YtjokedpaidmjoaaGreatDoor.Rf
