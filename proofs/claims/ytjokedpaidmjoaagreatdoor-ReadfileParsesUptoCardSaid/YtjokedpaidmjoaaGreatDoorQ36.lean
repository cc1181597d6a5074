/- A part of the proof. -/
import Derived.Test.YtjokedpaidmjoaaGreatDoorQ35
set_option linter.all false
namespace Go.Proofs.YtjokedpaidmjoaaGreatDoor.Rf
open Go Go.RowKit Go.Proofs.YtjokedpaidmjoaaGreatDoor.Am Go.Proofs.YtjokedpaidmjoaaGreatDoor.Pu Go.Proofs.YtjokedpaidmjoaaGreatDoor
attribute [local go_sem] areg aseq gstep gwant astep apick aop aslice alen aappend unw opTmps opnds tmpsOf aev Am.get ofConst ofConst1 putT strip abin aun initT AThen AIn ws_n ws_r ws_e ws_g aw_seq aw_reg aw_draw aw_cond aw_block aw_skip aw_ret aw_exit aw_goto aw_label aw_loop aw_scope ANoGoto AJ ares oneOr bound asInt fieldOf ldv setSeg AV.cells AV.whole AV.cell tys Ty.agg ty9 ty3 ty2 ty5 ty4 ty89 ty21 ty37 ty46 ty83 ty73 ty81 ty41 ty23 ty25 ty27 ty28 ty48 afill zeroRow litGet litCells adraw awit adchk pchk qchk gchk looks restr tfin Has hat_z hat_s hat_len hat_appL hat_appN hat_appK hat_setS hat_setN set_appL set_appN set_appK box_t bz aM aN aQ aR aA aT row_t bA aU aC aV row_one aW
attribute [local go_sem] C10_ty C10_fn eG eH s10_sgn s10_mag spSgn spMag
set_option maxRecDepth 10000
theorem rsum_row {base:Nat} {H:Heap} {vl:AV} {l:List Int} (h:RowN base H vl l) (hn:l.length≤100000000) (hin : ∀ x∈l,in64 x) :
  ACalls Tryz.prog 65 [vl] H fun v' H'=>v' = .tup [.int .i64 (sumR l).1,.int .i64 (sumR l).2]∧H' = H:=by
 rcases h with ⟨rfl,rfl⟩|⟨b,v,B,rfl,h0,h2,h3,h4,h5,h6,h7,h8⟩
 ·refine acalls_ofN (C:=C10) (nt:=89) C10ok Tryz.func65 rfl rfl ?_
  refine awalk_sound C10ok _ _ _ _ ?_
  rw[aw_seq]
  generalize hK:WSeq _ _ _ _ _=K
  simp[go_sem]
  rw[← hK,ws_n,aw_seq]
  clear hK
  generalize hK:WSeq _ _ _ _ _=K
  simp[go_sem]
  rw[← hK,ws_n,aw_seq]
  clear hK
  generalize hKo:WSeq _ _ _ _ _=Ko
  rw[aw_seq]
  generalize hK:WSeq _ _ _ _ _=K
  simp[go_sem]
  rw[← hK,ws_n,aw_block,aw_loop]
  clear hK
  refine awp_loopW (fun k T H'=>H' = H∧T = [(8,.int .i64 0),(7,.int .u64 0),(6,.int .u64 0),(5,.int .u64 0),(4,.int .u64 0),(0,.nilsl)]) 0 _ _ ⟨?_,.inl rfl⟩ ⟨rfl,rfl⟩ ?_
  ·simp[go_sem]
  rintro k T H' ⟨rfl,rfl⟩
  refine awalk_sound C10ok _ _ _ _ ?_
  simp[go_sem]
  rw[← hKo,ws_n]
  have w0:IntKind.u64.wrap 0=0:=by decide
  have e:sgR false 0 0=sumR []:=by decide
  simp[go_sem,w0,e]
  exact⟨.inr rfl,_,_,rfl,trivial,rfl,rfl⟩
 ·have hg : ∀ i,i < l.length → B.get i = [.int .i64 l[i]!]:=fun i hi=>h8 i _ (by simp[hi])
  have e:numsOf B l.length=l:=by
   apply List.ext_getElem (by simp[numsOf])
   intro i hi hi'
   simp[numsOf,numAt,hg i hi',hi']
  have hr:NumRow B l.length v:=⟨h3,h7,by omega,by omega,fun i hi=>by simp[numAt,hg i hi]⟩
  have:=rsum_calls (n:=l.length) (v:=v) h2 hr hn (by rw[e];exact hin)
  rw[e] at this
  exact this
end Go.Proofs.YtjokedpaidmjoaaGreatDoor.Rf
