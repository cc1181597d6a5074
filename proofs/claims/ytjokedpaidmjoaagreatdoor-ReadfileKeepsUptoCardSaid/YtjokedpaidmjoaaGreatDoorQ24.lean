/- A part of the proof. -/
import Derived.Test.YtjokedpaidmjoaaGreatDoorQ22
import Derived.Test.YtjokedpaidmjoaaGreatDoorQ23
set_option linter.all false
namespace Go.Proofs.YtjokedpaidmjoaaGreatDoor.Rf
open Go Go.RowKit Go.Proofs.YtjokedpaidmjoaaGreatDoor.Am Go.Proofs.YtjokedpaidmjoaaGreatDoor.Pu Go.Proofs.YtjokedpaidmjoaaGreatDoor
attribute [local go_sem] areg aseq gstep gwant astep apick aop aslice alen aappend aappendS aconvS aconvB unw opTmps opnds tmpsOf aev Am.get ofConst ofConst1 putT strip abin aun initT AThen AIn ws_n ws_r ws_e ws_g aw_seq aw_reg aw_draw aw_cond aw_block aw_skip aw_ret aw_exit aw_goto aw_label aw_loop aw_scope ANoGoto AJ ares oneOr bound asInt fieldOf ldv setSeg AV.cells AV.whole AV.cell tys Ty.agg ty9 ty3 ty2 ty5 ty4 ty89 ty21 ty37 ty46 ty83 ty73 ty81 ty41 ty23 ty25 ty27 ty28 ty48 afill zeroRow litGet litCells adraw awit adchk pchk qchk gchk looks restr tfin Has hat_z hat_s hat_len hat_appL hat_appN hat_appK hat_setS hat_setN set_appL set_appN set_appK box_t bn aD aG aH aI ax aJ row_t bq aK ay aM row_one aN
attribute [local go_sem] aQ bu aR aT aU
attribute [local go_sem] C8_ty C8_fn C8_ext C8_eqt fZ s8_last dm spLast
attribute [local go_sem] List.set_set Am.asInt
set_option maxRecDepth 10000
def opS (a:ByteArray):Sr:=⟨aC a,decide (cutN a < a.size),0,[],0,0⟩
theorem open_calls {H:Heap} {a:ByteArray} (hs:a.size≤70368744177664) :
  ACalls Tryz.prog 24 [.str a] H fun v H'=>Fr [] H H'∧if 1048576 < a.size then v = .tup [.nilptr,.int .i64 9] else ∃ sb lb,v = .tup [.ptr sb 0 0 0,.int .i64 0]∧Src H' sb (opS a) lb .nilsl∧H.length≤sb:=by
 refine acalls_ofN (C:=C8) (nt:=30) C8ok Tryz.func24 rfl rfl ?_
 refine awalk_sound C8ok _ _ _ _ ?_
 have hc:=cutN_le a
 have hr : -1≤Lib.lastIndexByte a 10∧Lib.lastIndexByte a 10+1=(cutN a:Int):=by
  unfold cutN
  rcases fu a with ⟨h,_⟩|⟨i,h1,h,_⟩ <;> rw[h] <;> omega
 have hw:IntKind.i64.wrap (Lib.lastIndexByte a 10+1)=(cutN a:Int):=by rw[hr.2];exact av (by omega) (by omega)
 rw[aw_seq]
 generalize hK:WSeq _ _ _ _ _=K
 simp[go_sem,hw]
 rw[← hK,ws_n,aw_seq]
 clear hK
 generalize hK:WSeq _ _ _ _ _=K
 simp[go_sem,hw]
 refine⟨by omega,?_⟩
 rw[← hK,ws_n,aw_seq]
 clear hK
 generalize hK:WSeq _ _ _ _ _=K
 simp[go_sem,hw]
 refine⟨hc,?_⟩
 rw[← hK,ws_n,aw_seq]
 clear hK
 generalize hK:WSeq _ _ _ _ _=K
 by_cases hL:1048576 < a.size
 ·simp[go_sem,hL]
  rw[← hK,ws_r]
  simp[go_sem,hL]
  refine⟨fun _=>⟨.inr rfl,_,_,rfl,trivial,Fr.app _ _ _,rfl⟩,fun h=>absurd h (by omega)⟩
 ·have e:=cut_ok a (by omega)
  have ek:(LS (a.extract 0 (cutN a))).1=aC a:=rfl
  rw[e,ek]
  simp[go_sem,hL]
  rw[← hK,ws_n]
  simp[go_sem,hL]
  refine⟨fun h=>absurd h (by omega),fun _=>⟨.inr rfl,_,_,rfl,trivial,Fr.app _ _ _,H.length+1,rfl,⟨H.length,⟨hat_appK 1 (by simp),hat_appN (by simp)⟩⟩,by omega⟩⟩
end Go.Proofs.YtjokedpaidmjoaaGreatDoor.Rf
