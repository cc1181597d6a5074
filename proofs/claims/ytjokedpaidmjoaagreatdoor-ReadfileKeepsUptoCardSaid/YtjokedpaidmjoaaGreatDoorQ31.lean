/- A part of the proof. -/
import Derived.Test.YtjokedpaidmjoaaGreatDoorQ30
set_option linter.all false
namespace Go.Proofs.YtjokedpaidmjoaaGreatDoor.Rf
open Go Go.RowKit Go.Proofs.YtjokedpaidmjoaaGreatDoor.Am Go.Proofs.YtjokedpaidmjoaaGreatDoor.Pu Go.Proofs.YtjokedpaidmjoaaGreatDoor
attribute [local go_sem] areg aseq gstep gwant astep apick aop aslice alen aappend aappendS aconvS aconvB unw opTmps opnds tmpsOf aev Am.get ofConst ofConst1 putT strip abin aun initT AThen AIn ws_n ws_r ws_e ws_g aw_seq aw_reg aw_draw aw_cond aw_block aw_skip aw_ret aw_exit aw_goto aw_label aw_loop aw_scope ANoGoto AJ ares oneOr bound asInt fieldOf ldv setSeg AV.cells AV.whole AV.cell tys Ty.agg ty9 ty3 ty2 ty5 ty4 ty89 ty21 ty37 ty46 ty83 ty73 ty81 ty41 ty23 ty25 ty27 ty28 ty48 afill zeroRow litGet litCells adraw awit adchk pchk qchk gchk looks restr tfin Has hat_z hat_s hat_len hat_appL hat_appN hat_appK hat_setS hat_setN set_appL set_appN set_appK box_t bn aD aG aH aI ax aJ row_t bq aK ay aM row_one aN
attribute [local go_sem] C9_ty C9_fn C9_ext C9_eqt s9_mag spMag
attribute [local go_sem] List.set_set
set_option maxRecDepth 10000
def sgR (neg:Bool) (hi lo:Int):Int × Int:=if hi≠0∨(neg=false∧9223372036854775808≤lo)∨(neg=true∧9223372036854775808 < lo) then (0,5) else if neg=true then (-lo,0) else (lo,0)
theorem signed_calls {H:Heap} {neg:Bool} {hi lo:Int} (h1:0≤hi) (h2:hi < 18446744073709551616) (h3:0≤lo) (h4:lo < 18446744073709551616) :
  ACalls Tryz.prog 79 [.bool neg,.int .u64 hi,.int .u64 lo] H fun v H'=>v = .tup [.int .i64 (sgR neg hi lo).1,.int .i64 (sgR neg hi lo).2]∧H' = H:=by
 refine acalls_ofN (C:=C9) (nt:=Tryz.f79.ntmps) C9ok Tryz.func79 rfl rfl ?_
 refine awalk_sound C9ok _ _ _ _ ?_
 rw[aw_seq]
 generalize hK:WSeq _ _ _ _ _=K
 simp[go_sem]
 rw[← hK,ws_n]
 clear hK
 by_cases hz:hi=0
 ·subst hz
  cases neg
  ·simp[go_sem]
   refine⟨fun h=>⟨.inr rfl,_,_,rfl,trivial,?_,rfl⟩,fun h=>⟨.inr rfl,_,_,rfl,trivial,?_,rfl⟩⟩
   ·rw[show sgR false 0 lo=(0,5) from if_pos (.inr (.inl ⟨rfl,h⟩))]
    rfl
   ·have e:sgR false 0 lo=(lo,0):=by
     unfold sgR
     rw[if_neg (by simp;omega),if_neg (by decide)]
    rw[e,av (n:=lo) (by omega) (by omega)]
    rfl
  ·simp[go_sem]
   refine⟨fun h=>⟨.inr rfl,_,_,rfl,trivial,?_,rfl⟩,fun h=>⟨fun h0=>⟨.inr rfl,_,_,rfl,trivial,?_,rfl⟩,fun h0=>⟨.inr rfl,_,_,rfl,trivial,?_,rfl⟩⟩⟩
   ·rw[show sgR true 0 lo=(0,5) from if_pos (.inr (.inr ⟨rfl,h⟩))]
    rfl
   ·have e:sgR true 0 lo=(-lo,0):=by
     unfold sgR
     rw[if_neg (by simp;omega),if_pos rfl]
    have w:IntKind.i64.wrap (IntKind.i64.wrap (-IntKind.i64.wrap (IntKind.u64.wrap (lo - 1))) - 1) = -lo:=by
     simp only[IntKind.wrap_i64,IntKind.wrap_u64]
     omega
    rw[e,w]
    rfl
   ·have e:sgR true 0 lo=(lo,0):=by
     unfold sgR
     rw[if_neg (by simp;omega),if_pos rfl]
     congr 1
     omega
    rw[e,av (n:=lo) (by omega) (by omega)]
    rfl
 ·simp[go_sem,hz]
  refine⟨.inr rfl,_,_,rfl,trivial,?_,rfl⟩
  rw[show sgR neg hi lo=(0,5) from if_pos (.inl hz)]
  rfl
def spSgn:Am.Spec:=fun args H=>match args with
 |[.bool neg,.int .u64 hi,.int .u64 lo]=>some (.tup [.int .i64 (sgR neg hi lo).1,.int .i64 (sgR neg hi lo).2],H,0≤hi∧hi < 18446744073709551616∧0≤lo∧lo < 18446744073709551616)
 |_=>none
theorem spSgn_ok:SpecOk Tryz.prog 79 spSgn:=by
 refine⟨⟨Tryz.f79,Tryz.func79,by kernel_rfl,by kernel_rfl⟩,fun args H v H1 ob h hob=>?_⟩
 unfold spSgn at h
 split at h
 ·cases h
  exact signed_calls hob.1 hob.2.1 hob.2.2.1 hob.2.2.2
 ·cases h
theorem spRText_ok:SpecOk Tryz.prog 53 bG:=by
 refine⟨⟨Tryz.f53,Tryz.func53,by kernel_rfl,by kernel_rfl⟩,fun args H v H1 ob h hob=>?_⟩
 unfold bG at h
 split at h
 ·cases h
  exact rtext_calls hob
 ·cases h
noncomputable def bT:FuncId → Option Am.Spec:=fun f=>match f with
 |79=>some spSgn
 |53=>some bG
 |f=>fq f
noncomputable def C10:Ctx:={ P:=Tryz.prog,ty:=tys,fn:=bT,ext:=ext7 }
theorem C10ok:CtxOk C10:=by
 refine⟨tysOk,fun f s h=>?_,fun t K h=>(by cases h),dC⟩
 unfold C10 bT at h
 simp only at h
 split at h
 ·cases h;exact spSgn_ok
 ·cases h;exact spRText_ok
 ·exact C9ok.fn _ _ h
theorem C10_ty:C10.ty=tys:=rfl
theorem C10_fn:C10.fn=bT:=rfl
theorem fB:C10.ext=ext7:=rfl
theorem fC:C10.eqt=fun _=>none:=rfl
theorem s10_sgn:bT 79=some spSgn:=rfl
theorem s10_text:bT 53=some bG:=rfl
theorem s10_at:bT 50=some spAt:=rfl
theorem s10_mag:bT 71=some spMag:=rfl
attribute [local go_sem] C10_ty C10_fn fB fC s10_sgn s10_mag spSgn
def posI (l:List Int):Int:=(l.map fun x=>if 0≤x then x else 0).sum
def negI (l:List Int):Int:=(l.map fun x=>if 0≤x then 0 else -x).sum
theorem pos_neg (l:List Int):l.sum=posI l - negI l:=by
 induction l with
 |nil=>rfl
 |cons x r ih=>
  unfold posI negI at *
  simp only[List.map_cons,List.sum_cons]
  split <;> omega
theorem pn_bound {l:List Int} (h : ∀ x∈l,in64 x):0≤posI l∧posI l≤9223372036854775808 * (l.length:Int)∧0≤negI l∧negI l≤9223372036854775808 * (l.length:Int):=by
 induction l with
 |nil=>simp[posI,negI]
 |cons x r ih=>
  have h1:=h x (by simp)
  have h2:=ih (fun y hy=>h y (by simp[hy]))
  unfold in64 at h1
  unfold posI negI at *
  simp only[List.map_cons,List.sum_cons,List.length_cons]
  split <;> omega
theorem take_pos {l:List Int} {j:Nat} (h:j < l.length):posI (l.take (j+1))=posI (l.take j)+(if 0≤l[j] then l[j] else 0):=by
 unfold posI
 rw[List.take_succ_eq_append_getElem h,List.map_append,List.sum_append]
 simp
theorem take_neg {l:List Int} {j:Nat} (h:j < l.length):negI (l.take (j+1))=negI (l.take j)+(if 0≤l[j] then 0 else -l[j]):=by
 unfold negI
 rw[List.take_succ_eq_append_getElem h,List.map_append,List.sum_append]
 simp
theorem carry {S m:Int} (h0:0≤S) (h1:S≤1237940039285380274899124224) (h2:0≤m) (h3:m≤9223372036854775808):(IntKind.u64.wrap (S % 18446744073709551616+m) < S % 18446744073709551616 → IntKind.u64.wrap (S / 18446744073709551616+1)=(S+m) / 18446744073709551616)∧(S % 18446744073709551616≤IntKind.u64.wrap (S % 18446744073709551616+m) → S / 18446744073709551616=(S+m) / 18446744073709551616)∧IntKind.u64.wrap (S % 18446744073709551616+m)=(S+m) % 18446744073709551616:=by
 simp only[IntKind.wrap_u64]
 refine⟨fun h=>?_,fun h=>?_,?_⟩ <;> omega
theorem sg_sum {l:List Int} {D:Int} (h0:0≤D) (h1:D≤1237940039285380274899124224):(l.sum=D → sgR false (D / 18446744073709551616) (D % 18446744073709551616)=sumR l)∧(l.sum = -D → 0 < D → sgR true (D / 18446744073709551616) (D % 18446744073709551616)=sumR l):=by
 refine⟨fun e=>?_,fun e hd=>?_⟩
 ·unfold sgR sumR
  rw[e]
  by_cases h:D≤9223372036854775807
  ·rw[if_neg (by simp;omega),if_neg (by decide),if_pos (by omega),show D % 18446744073709551616=D by omega]
  ·rw[if_pos (by simp;omega),if_neg (by omega)]
 ·unfold sgR sumR
  rw[e]
  by_cases h:D≤9223372036854775808
  ·rw[if_neg (by simp;omega),if_pos rfl,if_pos (by omega),show D % 18446744073709551616=D by omega]
  ·rw[if_pos (by simp;omega),if_neg (by omega)]
theorem sub128 {A B:Int} (h0:0≤B) (h1:B≤A) (h2:A≤1237940039285380274899124224):IntKind.u64.wrap (A % 18446744073709551616 - B % 18446744073709551616)=(A - B) % 18446744073709551616∧(A % 18446744073709551616 < B % 18446744073709551616 → IntKind.u64.wrap (IntKind.u64.wrap (A / 18446744073709551616 - B / 18446744073709551616) - 1)=(A - B) / 18446744073709551616)∧(B % 18446744073709551616≤A % 18446744073709551616 → IntKind.u64.wrap (A / 18446744073709551616 - B / 18446744073709551616)=(A - B) / 18446744073709551616):=by
 simp only[IntKind.wrap_u64]
 refine⟨?_,fun h=>?_,fun h=>?_⟩ <;> omega
set_option maxHeartbeats 1000000 in
theorem rsum_calls {H:Heap} {b n v:Nat} {B:Blk} (hB:hat H b=some B) (hr:NumRow B n v) (hn:n≤100000000) (hin : ∀ x∈numsOf B n,in64 x) :
  ACalls Tryz.prog 65 [.sl b 0 n v] H fun v' H'=>v' = .tup [.int .i64 (sumR (numsOf B n)).1,.int .i64 (sumR (numsOf B n)).2]∧H' = H:=by
 obtain⟨h1,h2,h3,h4,h5⟩:=hr
 have hl:(numsOf B n).length=n:=by simp[numsOf]
 refine acalls_ofN (C:=C10) (nt:=89) C10ok Tryz.func65 rfl rfl ?_
 refine awalk_sound C10ok _ _ _ _ ?_
 rw[aw_seq]
 generalize hK:WSeq _ _ _ _ _=K
 simp[go_sem]
 rw[← hK,ws_n,aw_seq]
 clear hK
 generalize hK:WSeq _ _ _ _ _=K
 simp[go_sem]
 rw[← hK,ws_n,aw_seq]
 clear hK
 generalize hKo:WSeq _ _ _ _ _=Ko
 obtain⟨b1,b2,b3,b4⟩:=pn_bound hin
 rw[hl] at b2 b4
 have fin : ∀ T,Am.get T 0 = .sl b 0 n v → Am.get T 4 = .int .u64 (posI (numsOf B n) / 18446744073709551616) → Am.get T 5 = .int .u64 (posI (numsOf B n) % 18446744073709551616) → Am.get T 6 = .int .u64 (negI (numsOf B n) / 18446744073709551616) → Am.get T 7 = .int .u64 (negI (numsOf B n) % 18446744073709551616) → Ko .normal T H:=by
  intro T t0 t4 t5 t6 t7
  have hpn:=pos_neg (numsOf B n)
  generalize posI (numsOf B n)=P at *
  generalize negI (numsOf B n)=N at *
  rw[← hKo,ws_n,aw_seq,aw_seq]
  clear hKo
  generalize hK:WSeq _ _ _ _ _=K
  simp[go_sem,t4,t5,t6,t7]
  refine⟨fun h=>⟨h,fun g=>⟨h,g⟩⟩,?_⟩
  have hb:(decide (N / 18446744073709551616 < P / 18446744073709551616) || P / 18446744073709551616 == N / 18446744073709551616 && decide (N % 18446744073709551616≤P % 18446744073709551616))=decide (N≤P):=by
   by_cases hc:N≤P
   ·simp[hc];omega
   ·simp[hc];omega
  rw[hb]
  suffices hsuf : ∀ T,Am.get T 4 = .int .u64 (P / 18446744073709551616) → Am.get T 5 = .int .u64 (P % 18446744073709551616) → Am.get T 6 = .int .u64 (N / 18446744073709551616) → Am.get T 7 = .int .u64 (N % 18446744073709551616) → Am.get T 60 = .bool (decide (N≤P)) → K .normal T H from hsuf _ (by repeat(rw[getN (by omega)]);exact t4) (by repeat(rw[getN (by omega)]);exact t5) (by repeat(rw[getN (by omega)]);exact t6) (by repeat(rw[getN (by omega)]);exact t7) rfl
  clear t0 t4 t5 t6 t7
  intro T t4 t5 t6 t7 t60
  rw[← hK,ws_n]
  clear hK
  generalize hK:WSeq _ _ _ _ _=K
  by_cases hc:N≤P
  ·have hd:decide (N≤P)=true:=by simp[hc]
   rw[hd] at t60
   obtain⟨z1,z2,z3⟩:=sub128 (A:=P) (B:=N) b3 hc (by omega)
   obtain⟨g1,_⟩:=sg_sum (l:=numsOf B n) (D:=P - N) (by omega) (by omega)
   have zz:IntKind.u64.wrap ((P - N) / 18446744073709551616)=(P - N) / 18446744073709551616:=by rw[IntKind.wrap_u64];omega
   simp[go_sem,t60,t4,t5,t6,t7]
   rw[z1]
   refine⟨fun h=>?_,fun h=>?_⟩
   ·rw[z2 h,g1 hpn]
    refine⟨⟨by omega,by omega⟩,?_⟩
    rw[← hK,ws_r]
    exact⟨.inr rfl,_,_,rfl,trivial,rfl,rfl⟩
   ·rw[z3 h,zz,g1 hpn]
    refine⟨⟨by omega,by omega⟩,?_⟩
    rw[← hK,ws_r]
    exact⟨.inr rfl,_,_,rfl,trivial,rfl,rfl⟩
  ·have hd:decide (N≤P)=false:=by simp[hc]
   rw[hd] at t60
   simp[go_sem,t60]
   rw[← hK,ws_n]
   clear hK
   obtain⟨z1,z2,z3⟩:=sub128 (A:=N) (B:=P) b1 (by omega) (by omega)
   obtain⟨_,g1⟩:=sg_sum (l:=numsOf B n) (D:=N - P) (by omega) (by omega)
   have zz:IntKind.u64.wrap ((N - P) / 18446744073709551616)=(N - P) / 18446744073709551616:=by rw[IntKind.wrap_u64];omega
   simp[go_sem,t4,t5,t6,t7]
   rw[z1]
   refine⟨fun h=>?_,fun h=>?_⟩
   ·rw[z2 h,g1 (by omega) (by omega)]
    refine⟨⟨by omega,by omega⟩,?_⟩
    exact⟨.inr rfl,_,_,rfl,trivial,rfl,rfl⟩
   ·rw[z3 h,zz,g1 (by omega) (by omega)]
    refine⟨⟨by omega,by omega⟩,?_⟩
    exact⟨.inr rfl,_,_,rfl,trivial,rfl,rfl⟩
 rw[aw_seq]
 generalize hK:WSeq _ _ _ _ _=K
 simp[go_sem]
 rw[← hK,ws_n,aw_block,aw_loop]
 clear hK
 refine awp_loopW (fun k T H'=>∃ j:Nat,k+j=n∧H' = H∧T = [(8,.int .i64 j),(7,.int .u64 (negI ((numsOf B n).take j) % 18446744073709551616)),(6,.int .u64 (negI ((numsOf B n).take j) / 18446744073709551616)),(5,.int .u64 (posI ((numsOf B n).take j) % 18446744073709551616)),(4,.int .u64 (posI ((numsOf B n).take j) / 18446744073709551616)),(0,.sl b 0 n v)]) n _ _ ⟨?_,.inl rfl⟩ ⟨0,by omega,rfl,rfl⟩ ?_
 ·simp[go_sem,posI,negI]
 rintro k T H' ⟨j,hj,rfl,rfl⟩
 refine awalk_sound C10ok _ _ _ _ ?_
 rw[aw_seq,aw_seq]
 generalize hK:WSeq _ _ _ _ _=K
 by_cases hjn:j < n
 ·have hg:=h5 j hjn
  have hjl:j < B.len:=by omega
  have hjl2:j < (numsOf B n).length:=by omega
  have hx:numAt B j=(numsOf B n)[j]:=by simp[numsOf]
  have hxi:=hin _ (List.getElem_mem hjl2)
  rw[← hx] at hxi
  have hw:IntKind.i64.wrap ((j:Int)+1)=(j:Int)+1:=av (by omega) (by omega)
  have s1:=take_pos hjl2
  have s2:=take_neg hjl2
  rw[← hx] at s1 s2
  obtain⟨q1,q2,q3,q4⟩:=pn_bound (l:=(numsOf B n).take j) (fun x h=>hin x (List.mem_of_mem_take h))
  have ql:((numsOf B n).take j).length≤j:=by rw[List.length_take];omega
  generalize posI ((numsOf B n).take j)=P at *
  generalize negI ((numsOf B n).take j)=N at *
  simp[go_sem,hjn,hB,h1,h2]
  rw[← hK,ws_n]
  clear hK
  generalize hK:WSeq _ _ _ _ _=K
  simp[go_sem]
  rw[← hK,ws_n,aw_seq]
  clear hK
  generalize hK:WSeq _ _ _ _ _=K
  rw[aw_block,aw_seq]
  generalize hK2:WSeq _ _ _ _ _=K2
  simp[go_sem,hjn,hB,h1,h2,hg,hjl]
  refine⟨hxi,?_⟩
  rw[← hK2,ws_n,aw_seq]
  clear hK2
  generalize hK2:WSeq _ _ _ _ _=K2
  simp[go_sem,hjn,hB,h1,h2,hg,hjl]
  rw[← hK2,ws_n]
  clear hK2
  have hend : ∀ T P' N',P' = posI ((numsOf B n).take (j+1)) → N' = negI ((numsOf B n).take (j+1)) → Am.get T 0 = .sl b 0 n v → Am.get T 8 = .int .i64 j → Am.get T 4 = .int .u64 (P' / 18446744073709551616) → Am.get T 5 = .int .u64 (P' % 18446744073709551616) → Am.get T 6 = .int .u64 (N' / 18446744073709551616) → Am.get T 7 = .int .u64 (N' % 18446744073709551616) → K .normal T H':=by
   intro T P' N' hP hN t0 t8 t4 t5 t6 t7
   rw[← hK,ws_n]
   simp[go_sem,t8,hw]
   refine⟨k - 1,by omega,_,_,⟨?_,.inl rfl⟩,j+1,by omega,rfl,rfl⟩
   rw[← hP,← hN]
   simp[go_sem,t0,t4,t5,t6,t7]
  have hnn:0≤((numAt B j).natAbs:Int):=by omega
  by_cases hx0:0≤numAt B j
  ·rw[if_pos hx0] at s1 s2
   simp[go_sem,hx0]
   obtain⟨y1,y2,y3⟩:=carry (S:=P) (m:=(numAt B j).natAbs) q1 (by omega) hnn (by unfold in64 at hxi;omega)
   rw[y3] at y1 y2 ⊢
   exact⟨fun h=>hend _ (P+(numAt B j).natAbs) N (by omega) (by omega) rfl rfl (by rw[← y1 h];rfl) rfl rfl rfl,fun h=>hend _ (P+(numAt B j).natAbs) N (by omega) (by omega) rfl rfl (by rw[← y2 h];rfl) rfl rfl rfl⟩
  ·rw[if_neg hx0] at s1 s2
   simp[go_sem,hx0]
   obtain⟨y1,y2,y3⟩:=carry (S:=N) (m:=(numAt B j).natAbs) q3 (by omega) hnn (by unfold in64 at hxi;omega)
   rw[y3] at y1 y2 ⊢
   exact⟨fun h=>hend _ P (N+(numAt B j).natAbs) (by omega) (by omega) rfl rfl rfl rfl (by rw[← y1 h];rfl) rfl,fun h=>hend _ P (N+(numAt B j).natAbs) (by omega) (by omega) rfl rfl rfl rfl (by rw[← y2 h];rfl) rfl⟩
 ·have hje:(numsOf B n).take j=numsOf B n:=List.take_of_length_le (by omega)
  simp[go_sem,hjn,hje,hB,h1,h2]
  rw[← hK,ws_n]
  simp[go_sem,hjn,hje]
  exact fin _ rfl rfl rfl rfl rfl
end Go.Proofs.YtjokedpaidmjoaaGreatDoor.Rf
