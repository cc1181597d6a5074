/- A part of the proof. -/
import Derived.Test.YtjokedpaidmjoaaGreatDoorQ30
set_option linter.all false
namespace Go.Proofs.YtjokedpaidmjoaaGreatDoor.Rf
open Go Go.RowKit Go.Proofs.YtjokedpaidmjoaaGreatDoor.Am Go.Proofs.YtjokedpaidmjoaaGreatDoor.Pu Go.Proofs.YtjokedpaidmjoaaGreatDoor
attribute [local go_sem] areg aseq gstep gwant astep apick aop aslice alen aappend aappendS aconvS aconvB unw opTmps opnds tmpsOf aev Am.get ofConst ofConst1 putT strip abin aun initT AThen AIn ws_n ws_r ws_e ws_g aw_seq aw_reg aw_draw aw_cond aw_block aw_skip aw_ret aw_exit aw_goto aw_label aw_loop aw_scope ANoGoto AJ ares oneOr bound asInt fieldOf ldv setSeg AV.cells AV.whole AV.cell tys Ty.agg ty9 ty3 ty2 ty5 ty4 ty89 ty21 ty37 ty46 ty83 ty73 ty81 ty41 ty23 ty25 ty27 ty28 ty48 afill zeroRow litGet litCells adraw awit adchk pchk qchk gchk looks restr tfin Has hat_z hat_s hat_len hat_appL hat_appN hat_appK hat_setS hat_setN set_appL set_appN set_appK box_t bu aC aD aG aH az aI row_t bv aJ aA aK row_one aM
attribute [local go_sem] C9_ty C9_fn C9_ext C9_eqt s9_mag spMag
attribute [local go_sem] List.set_set
set_option maxRecDepth 10000
def sgR (neg:Bool) (hi lo:Int):Int × Int:=if hi≠0∨(neg=false∧9223372036854775808≤lo)∨(neg=true∧9223372036854775808 < lo) then (0,5) else if neg=true then (-lo,0) else (lo,0)
theorem signed_calls {H:Heap} {neg:Bool} {hi lo:Int} (h1:0≤hi) (h2:hi < 18446744073709551616) (h3:0≤lo) (h4:lo < 18446744073709551616) :
  ACalls Tryz.prog 79 [.bool neg,.int .u64 hi,.int .u64 lo] H fun v H'=>v = .tup [.int .i64 (sgR neg hi lo).1,.int .i64 (sgR neg hi lo).2]∧H' = H:=by
 refine acalls_ofN (C:=C9) (nt:=Tryz.f79.ntmps) C9ok Tryz.func79 rfl rfl ?_
 refine awalk_sound C9ok _ _ _ _ ?_
 rw[aw_seq]
 generalize hK:WSeq _ _ _ _ _=K
 simp[go_sem]
 rw[← hK,ws_n]
 clear hK
 by_cases hz:hi=0
 ·subst hz
  cases neg
  ·simp[go_sem]
   refine⟨fun h=>⟨.inr rfl,_,_,rfl,trivial,?_,rfl⟩,fun h=>⟨.inr rfl,_,_,rfl,trivial,?_,rfl⟩⟩
   ·rw[show sgR false 0 lo=(0,5) from if_pos (.inr (.inl ⟨rfl,h⟩))]
    rfl
   ·have e:sgR false 0 lo=(lo,0):=by
     unfold sgR
     rw[if_neg (by simp;omega),if_neg (by decide)]
    rw[e,aT (n:=lo) (by omega) (by omega)]
    rfl
  ·simp[go_sem]
   refine⟨fun h=>⟨.inr rfl,_,_,rfl,trivial,?_,rfl⟩,fun h=>⟨fun h0=>⟨.inr rfl,_,_,rfl,trivial,?_,rfl⟩,fun h0=>⟨.inr rfl,_,_,rfl,trivial,?_,rfl⟩⟩⟩
   ·rw[show sgR true 0 lo=(0,5) from if_pos (.inr (.inr ⟨rfl,h⟩))]
    rfl
   ·have e:sgR true 0 lo=(-lo,0):=by
     unfold sgR
     rw[if_neg (by simp;omega),if_pos rfl]
    have w:IntKind.i64.wrap (IntKind.i64.wrap (-IntKind.i64.wrap (IntKind.u64.wrap (lo - 1))) - 1) = -lo:=by
     simp only[IntKind.wrap_i64,IntKind.wrap_u64]
     omega
    rw[e,w]
    rfl
   ·have e:sgR true 0 lo=(lo,0):=by
     unfold sgR
     rw[if_neg (by simp;omega),if_pos rfl]
     congr 1
     omega
    rw[e,aT (n:=lo) (by omega) (by omega)]
    rfl
 ·simp[go_sem,hz]
  refine⟨.inr rfl,_,_,rfl,trivial,?_,rfl⟩
  rw[show sgR neg hi lo=(0,5) from if_pos (.inl hz)]
  rfl
def spSgn:Am.Spec:=fun args H=>match args with
 |[.bool neg,.int .u64 hi,.int .u64 lo]=>some (.tup [.int .i64 (sgR neg hi lo).1,.int .i64 (sgR neg hi lo).2],H,0≤hi∧hi < 18446744073709551616∧0≤lo∧lo < 18446744073709551616)
 |_=>none
theorem spSgn_ok:SpecOk Tryz.prog 79 spSgn:=by
 refine⟨⟨Tryz.f79,Tryz.func79,by kernel_rfl,by kernel_rfl⟩,fun args H v H1 ob h hob=>?_⟩
 unfold spSgn at h
 split at h
 ·cases h
  exact signed_calls hob.1 hob.2.1 hob.2.2.1 hob.2.2.2
 ·cases h
theorem spRText_ok:SpecOk Tryz.prog 53 bG:=by
 refine⟨⟨Tryz.f53,Tryz.func53,by kernel_rfl,by kernel_rfl⟩,fun args H v H1 ob h hob=>?_⟩
 unfold bG at h
 split at h
 ·cases h
  exact rtext_calls hob
 ·cases h
noncomputable def bZ:FuncId → Option Am.Spec:=fun f=>match f with
 |79=>some spSgn
 |53=>some bG
 |f=>fo f
noncomputable def C10:Ctx:={ P:=Tryz.prog,ty:=tys,fn:=bZ,ext:=ext7 }
theorem C10ok:CtxOk C10:=by
 refine⟨tysOk,fun f s h=>?_,fun t K h=>(by cases h),dn⟩
 unfold C10 bZ at h
 simp only at h
 split at h
 ·cases h;exact spSgn_ok
 ·cases h;exact spRText_ok
 ·exact C9ok.fn _ _ h
theorem C10_ty:C10.ty=tys:=rfl
theorem C10_fn:C10.fn=bZ:=rfl
theorem C10_ext:C10.ext=ext7:=rfl
theorem C10_eqt:C10.eqt=fun _=>none:=rfl
theorem s10_sgn:bZ 79=some spSgn:=rfl
theorem s10_text:bZ 53=some bG:=rfl
theorem s10_at:bZ 50=some spAt:=rfl
theorem s10_mag:bZ 71=some spMag:=rfl
attribute [local go_sem] C10_ty C10_fn C10_ext C10_eqt s10_sgn s10_mag spSgn
end Go.Proofs.YtjokedpaidmjoaaGreatDoor.Rf
set_option linter.all false
namespace Go.Proofs.YtjokedpaidmjoaaGreatDoor.Rf
open Go Go.RowKit Go.Proofs.YtjokedpaidmjoaaGreatDoor.Am Go.Proofs.YtjokedpaidmjoaaGreatDoor.Pu Go.Proofs.YtjokedpaidmjoaaGreatDoor
attribute [local go_sem] areg aseq gstep gwant astep apick aop aslice alen aappend aappendS aconvS aconvB unw opTmps opnds tmpsOf aev Am.get ofConst ofConst1 putT strip abin aun initT AThen AIn ws_n ws_r ws_e ws_g aw_seq aw_reg aw_draw aw_cond aw_block aw_skip aw_ret aw_exit aw_goto aw_label aw_loop aw_scope ANoGoto AJ ares oneOr bound asInt fieldOf ldv setSeg AV.cells AV.whole AV.cell tys Ty.agg ty9 ty3 ty2 ty5 ty4 ty89 ty21 ty37 ty46 ty83 ty73 ty81 ty41 ty23 ty25 ty27 ty28 ty48 afill zeroRow litGet litCells adraw awit adchk pchk qchk gchk looks restr tfin Has hat_z hat_s hat_len hat_appL hat_appN hat_appK hat_setS hat_setN set_appL set_appN set_appK box_t bu aC aD aG aH az aI row_t bv aJ aA aK row_one aM
attribute [local go_sem] aY bi aN aQ aR
attribute [local go_sem] C10_ty C10_fn C10_ext C10_eqt s10_text s10_at bG
attribute [local go_sem] List.set_set
set_option maxRecDepth 10000
def rtCol (ws:List ByteArray) (f:Fi):Int:=
 if ((wAt ws 1).toList == (txt f.reads.length).toList)=false then colP ws 1
 else if (decide ((sumR (sumL f.reads)).2=0) && ((wAt ws 2).toList == (txt (sumR (sumL f.reads)).1).toList))=false then colP ws 2
 else 0
end Go.Proofs.YtjokedpaidmjoaaGreatDoor.Rf
