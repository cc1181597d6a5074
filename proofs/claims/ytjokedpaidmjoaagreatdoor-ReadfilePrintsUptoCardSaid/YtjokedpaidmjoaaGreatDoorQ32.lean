/- A part of the proof. -/
import Derived.Test.YtjokedpaidmjoaaGreatDoorQ31
set_option linter.all false
namespace Go.Proofs.YtjokedpaidmjoaaGreatDoor.Rf
open Go Go.RowKit Go.Proofs.YtjokedpaidmjoaaGreatDoor.Am Go.Proofs.YtjokedpaidmjoaaGreatDoor.Pu Go.Proofs.YtjokedpaidmjoaaGreatDoor
attribute [local go_sem] areg aseq gstep gwant astep apick aop aslice alen aappend aappendS aconvS aconvB unw opTmps opnds tmpsOf aev Am.get ofConst ofConst1 putT strip abin aun initT AThen AIn ws_n ws_r ws_e ws_g aw_seq aw_reg aw_draw aw_cond aw_block aw_skip aw_ret aw_exit aw_goto aw_label aw_loop aw_scope ANoGoto AJ ares oneOr bound asInt fieldOf ldv setSeg AV.cells AV.whole AV.cell tys Ty.agg ty9 ty3 ty2 ty5 ty4 ty89 ty21 ty37 ty46 ty83 ty73 ty81 ty41 ty23 ty25 ty27 ty28 ty48 afill zeroRow litGet litCells adraw awit adchk pchk qchk gchk looks restr tfin Has hat_z hat_s hat_len hat_appL hat_appN hat_appK hat_setS hat_setN set_appL set_appN set_appK box_t bu aD aG aH aI ax aJ row_t bz aK aC aM row_one aN
attribute [local go_sem] C10_ty C10_fn fq fu s10_sgn s10_mag spSgn spMag
set_option maxRecDepth 10000
theorem rsum_row {base:Nat} {H:Heap} {vl:AV} {l:List Int} (h:RowN base H vl l) (hn:l.length≤100000000) (hin : ∀ x∈l,in64 x) :
  ACalls Tryz.prog 65 [vl] H fun v' H'=>v' = .tup [.int .i64 (sumR l).1,.int .i64 (sumR l).2]∧H' = H:=by
 rcases h with ⟨rfl,rfl⟩|⟨b,v,B,rfl,h0,h2,h3,h4,h5,h6,h7,h8⟩
 ·refine acalls_ofN (C:=C10) (nt:=89) C10ok Tryz.func65 rfl rfl ?_
  refine awalk_sound C10ok _ _ _ _ ?_
  rw[aw_seq]
  generalize hK:WSeq _ _ _ _ _=K
  simp[go_sem]
  rw[← hK,ws_n,aw_seq]
  clear hK
  generalize hK:WSeq _ _ _ _ _=K
  simp[go_sem]
  rw[← hK,ws_n,aw_seq]
  clear hK
  generalize hKo:WSeq _ _ _ _ _=Ko
  rw[aw_seq]
  generalize hK:WSeq _ _ _ _ _=K
  simp[go_sem]
  rw[← hK,ws_n,aw_block,aw_loop]
  clear hK
  refine awp_loopW (fun k T H'=>H' = H∧T = [(8,.int .i64 0),(7,.int .u64 0),(6,.int .u64 0),(5,.int .u64 0),(4,.int .u64 0),(0,.nilsl)]) 0 _ _ ⟨?_,.inl rfl⟩ ⟨rfl,rfl⟩ ?_
  ·simp[go_sem]
  rintro k T H' ⟨rfl,rfl⟩
  refine awalk_sound C10ok _ _ _ _ ?_
  simp[go_sem]
  rw[← hKo,ws_n]
  have w0:IntKind.u64.wrap 0=0:=by decide
  have e:sgR false 0 0=sumR []:=by decide
  simp[go_sem,w0,e]
  exact⟨.inr rfl,_,_,rfl,trivial,rfl,rfl⟩
 ·have hg : ∀ i,i < l.length → B.get i = [.int .i64 l[i]!]:=fun i hi=>h8 i _ (by simp[hi])
  have e:numsOf B l.length=l:=by
   apply List.ext_getElem (by simp[numsOf])
   intro i hi hi'
   simp[numsOf,numAt,hg i hi',hi']
  have hr:NumRow B l.length v:=⟨h3,h7,by omega,by omega,fun i hi=>by simp[numAt,hg i hi]⟩
  have:=rsum_calls (n:=l.length) (v:=v) h2 hr hn (by rw[e];exact hin)
  rw[e] at this
  exact this
end Go.Proofs.YtjokedpaidmjoaaGreatDoor.Rf
set_option linter.all false
namespace Go.Proofs.YtjokedpaidmjoaaGreatDoor.Rf
open Go Go.RowKit Go.Proofs.YtjokedpaidmjoaaGreatDoor.Am Go.Proofs.YtjokedpaidmjoaaGreatDoor.Pu Go.Proofs.YtjokedpaidmjoaaGreatDoor
theorem s10_dist:bX 64=some spDist:=rfl
attribute [local go_sem] areg aseq gstep gwant astep apick aop aslice alen aappend aappendS aconvS aconvB unw opTmps opnds tmpsOf aev Am.get ofConst ofConst1 putT strip abin aun initT AThen AIn ws_n ws_r ws_e ws_g aw_seq aw_reg aw_draw aw_cond aw_block aw_skip aw_ret aw_exit aw_goto aw_label aw_loop aw_scope ANoGoto AJ ares oneOr bound asInt fieldOf ldv setSeg AV.cells AV.whole AV.cell tys Ty.agg ty9 ty3 ty2 ty5 ty4 ty89 ty21 ty37 ty46 ty83 ty73 ty81 ty41 ty23 ty25 ty27 ty28 ty48 afill zeroRow litGet litCells adraw awit adchk pchk qchk gchk looks restr tfin Has hat_z hat_s hat_len hat_appL hat_appN hat_appK hat_setS hat_setN set_appL set_appN set_appK box_t bu aD aG aH aI ax aJ row_t bz aK aC aM row_one aN
attribute [local go_sem] C10_ty C10_fn fq fu s10_dist spDist
attribute [local go_sem] List.set_set
set_option maxRecDepth 10000
def rdL2 (r:Rd):List Int:=[r.slot,r.imp,r.exp] ++ (if r.var = -9223372036854775808 then [9223372036854775807,1] else [IntKind.i64.wrap (r.var.natAbs:Int)])
def sumL2 (l:List Rd):List Int:=l.flatMap rdL2
theorem rdL2_sum {r:Rd} (h:RdW r):(rdL2 r).sum=(rdL r).sum:=by
 obtain⟨_,_,_,h4⟩:=h
 unfold in64 at h4
 unfold rdL2 rdL
 rw[List.sum_append,List.sum_append]
 congr 1
 by_cases h1:r.var = -9223372036854775808
 ·rw[if_pos h1,if_pos (by omega),h1]
  decide
 ·rw[if_neg h1,ay (n:=(r.var.natAbs:Int)) (by omega) (by omega)]
  by_cases h2:r.var < 0
  ·rw[if_pos h2,ay (n:=r.var+1) (by omega) (by omega),ay (n:=-(r.var+1)) (by omega) (by omega)]
   simp
   omega
  ·rw[if_neg h2]
   simp
   omega
theorem sumL2_sum {l:List Rd} (h : ∀ r∈l,RdW r):(sumL2 l).sum=(sumL l).sum:=by
 unfold sumL2 sumL
 induction l with
 |nil=>rfl
 |cons a r ih=>
  simp only[List.flatMap_cons,List.sum_append]
  rw[ih (fun x hx=>h x (by simp[hx])),rdL2_sum (h a (by simp))]
theorem sumR_same {l m:List Int} (h:l.sum=m.sum):sumR l=sumR m:=by unfold sumR;rw[h]
theorem rdL2_in {r:Rd} (h:RdW r) : ∀ x∈rdL2 r,in64 x:=by
 obtain⟨h1,h2,h3,h4⟩:=h
 intro x hx
 unfold rdL2 at hx
 unfold in64 at h4
 split at hx
 ·simp at hx
  rcases hx with rfl|rfl|rfl|rfl|rfl
  ·exact h1
  ·exact h2
  ·exact h3
  ·exact⟨by decide,by decide⟩
  ·exact⟨by decide,by decide⟩
 ·simp at hx
  rcases hx with rfl|rfl|rfl|rfl
  ·exact h1
  ·exact h2
  ·exact h3
  ·rename_i hne
   rw[ay (by omega) (by omega)]
   exact⟨by omega,by omega⟩
theorem sumL2_in {l:List Rd} (h : ∀ r∈l,RdW r) : ∀ x∈sumL2 l,in64 x:=by
 intro x hx
 unfold sumL2 at hx
 obtain⟨r,hr,hx⟩:=List.mem_flatMap.1 hx
 exact rdL2_in (h r hr) x hx
theorem sumL2_len (l:List Rd):(sumL2 l).length≤5 * l.length:=by
 unfold sumL2
 induction l with
 |nil=>simp
 |cons a r ih=>
  have:(rdL2 a).length≤5:=by unfold rdL2;split <;> simp
  simp only[List.flatMap_cons,List.length_append,List.length_cons]
  omega
end Go.Proofs.YtjokedpaidmjoaaGreatDoor.Rf
