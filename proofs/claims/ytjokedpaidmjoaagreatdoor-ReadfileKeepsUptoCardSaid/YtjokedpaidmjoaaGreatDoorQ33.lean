/- A part of the proof. -/
import Derived.Test.YtjokedpaidmjoaaGreatDoorQ32
set_option linter.all false
namespace Go.Proofs.YtjokedpaidmjoaaGreatDoor.Rf
open Go Go.RowKit Go.Proofs.YtjokedpaidmjoaaGreatDoor.Am Go.Proofs.YtjokedpaidmjoaaGreatDoor.Pu Go.Proofs.YtjokedpaidmjoaaGreatDoor
attribute [local go_sem] areg aseq gstep gwant astep apick aop aslice alen aappend aappendS aconvS aconvB unw opTmps opnds tmpsOf aev Am.get ofConst ofConst1 putT strip abin aun initT AThen AIn ws_n ws_r ws_e ws_g aw_seq aw_reg aw_draw aw_cond aw_block aw_skip aw_ret aw_exit aw_goto aw_label aw_loop aw_scope ANoGoto AJ ares oneOr bound asInt fieldOf ldv setSeg AV.cells AV.whole AV.cell tys Ty.agg ty9 ty3 ty2 ty5 ty4 ty89 ty21 ty37 ty46 ty83 ty73 ty81 ty41 ty23 ty25 ty27 ty28 ty48 afill zeroRow litGet litCells adraw awit adchk pchk qchk gchk looks restr tfin Has hat_z hat_s hat_len hat_appL hat_appN hat_appK hat_setS hat_setN set_appL set_appN set_appK box_t bn aD aG aH aI ax aJ row_t bq aK ay aM row_one aN
attribute [local go_sem] aQ bu aR aT aU
attribute [local go_sem] C10_ty C10_fn fB fC s10_text s10_at bG
attribute [local go_sem] List.set_set
set_option maxRecDepth 10000
def rtCol (ws:List ByteArray) (f:Fi):Int:=
 if ((wAt ws 1).toList == (txt f.reads.length).toList)=false then colP ws 1
 else if (decide ((sumR (sumL f.reads)).2=0) && ((wAt ws 2).toList == (txt (sumR (sumL f.reads)).1).toList))=false then colP ws 2
 else 0
set_option maxHeartbeats 1000000 in
theorem rtail_calls {H:Heap} {wb:Nat} {ws:List ByteArray} {f:Fi} {vr:AV} (hw:hat H wb=some (strB ws)) (hr:Rds H vr f.reads) (hd : ∀ r∈f.reads,RdW r) (hrl:f.reads.length≤1048577) (h3:ws.length=3) (ht:tot (ws.map Bs)≤900000000) (hz : ∀ a∈ws,a.size≤1048576∧a.size≠0) :
  ACalls Tryz.prog 23 [.sl wb 0 ws.length 0,.agg (fiV f vr)] H fun v H'=>v = .int .i64 (rtCol ws f)∧Fr [] H H':=by
 refine acalls_ofN (C:=C10) (nt:=34) C10ok Tryz.func23 rfl rfl ?_
 refine awalk_sound C10ok _ _ _ _ ?_
 have hcell:=hr.cell
 simp only[AV.cell] at hcell
 have lw:=hat_lt hw
 have hlt:1 < ws.length:=by omega
 have e1:ws[1]=wAt ws 1:=by unfold wAt;simp[hlt]
 have hin:in64 (f.reads.length:Int):=by unfold in64;omega
 rw[aw_seq]
 generalize hK:WSeq _ _ _ _ _=K
 simp[go_sem,fiV,hcell]
 rw[← hK,ws_n,aw_seq,aw_seq]
 clear hK
 generalize hK:WSeq _ _ _ _ _=K
 rw[aw_draw]
 suffices hsuf : ∀ T G,hat G wb=some (strB ws) → Fr [] H G → hat G H.length=some (boxBlk 25 7 (fiV f vr)) → Am.get T 0 = .sl wb 0 ws.length 0 → Am.get T 3 = .ptr H.length 0 0 0 → Am.get T 14 = .bool (!((wAt ws 1).toList == (txt f.reads.length).toList)) → K .normal T G by
  rcases hr with ⟨rfl,h0⟩|⟨b,v,B,rfl,g2,g3,g4,g5,g6,g7,g8⟩
  ·refine awp_draw C10ok (by kernel_rfl) [0,1,3,0,8,24,56,127] [.quiet [0],.quiet [0],.quiet [0],.quiet [0],.quiet [0],.quiet [0],.quiet [0],.quiet [0]] 0 (by kernel_rfl) ?_
   simp[go_sem,hw,hlt,lw,e1]
   exact⟨⟨by omega,by decide,by decide⟩,hsuf _ _ (hat_app hw _) (Fr.app _ _ _) (hat_new _ _) rfl rfl (by rw[h0];rfl)⟩
  ·have lb':=hat_lt g2
   refine awp_draw C10ok (by kernel_rfl) [0,1,3,0,8,24,56,127] [.quiet [0],.quiet [0],.quiet [0],.quiet [0],.quiet [0],.quiet [0],.quiet [0],.quiet [0]] 0 (by kernel_rfl) ?_
   simp[go_sem,hw,hlt,lw,e1,g2,g3,lb']
   exact⟨⟨by omega,hin⟩,hsuf _ _ (hat_app hw _) (Fr.app _ _ _) (hat_new _ _) rfl rfl rfl⟩
 have hr':=hr
 clear lw
 intro T G hw' hF hfb t0 t3 t14
 have hrG:=hr.keep hF (by simp)
 have n1:ws.length≤1048577:=by omega
 rw[← hK,ws_n]
 clear hK
 generalize hK:WSeq _ _ _ _ _=K
 by_cases c1:((wAt ws 1).toList == (txt f.reads.length).toList)=false
 ·rw[c1] at t14
  have a1:=sp_at (H:=G) (k:=1) hw' n1 ht (by omega) (by omega)
  simp[go_sem,t0,t14,a1]
  rw[← hK,ws_r]
  refine⟨.inr rfl,_,_,rfl,trivial,?_,hF.trans (Fr.app _ _ _)⟩
  unfold rtCol
  rw[if_pos c1]
  rfl
 have c1' : ((wAt ws 1).toList == (txt f.reads.length).toList)=true:=by simpa using c1
 rw[c1'] at t14
 simp[go_sem,t14]
 rw[← hK,ws_n,aw_seq]
 clear hK
 generalize hK:WSeq _ _ _ _ _=K
 simp only[fiV] at hfb
 simp[go_sem,t3,hfb,hcell]
 refine awp_region (aops_pref C10ok 1 ?_)
 simp[go_sem,t3,hfb,hcell]
 refine aops_call rfl rfl rfl rfl Tryz.func38 (by kernel_rfl) (by kernel_rfl) (rfSum_calls hrG.g hd hrl) ?_
 rintro v G1 ⟨rfl,f1⟩
 refine⟨_,rfl,aops_pref C10ok 5 ?_⟩
 simp[go_sem]
 refine aops_nil ?_
 have hw2:=f1.keep _ _ hw' (by simp)
 have hF2:=hF.trans f1
 have hsi:=sumR_in (sumL f.reads)
 generalize hS:sumR (sumL f.reads)=S at *
 suffices hsuf : ∀ T,Am.get T 0 = .sl wb 0 ws.length 0 → Am.get T 5 = .int .i64 S.1 → Am.get T 6 = .int .i64 S.2 → K .normal T G1 from hsuf _ (by repeat(rw[getN (by omega)]);exact t0) rfl rfl
 clear t0 t3 t14
 intro T t0 t5 t6
 have hlt2:2 < ws.length:=by omega
 have e2:ws[2]=wAt ws 2:=by unfold wAt;simp[hlt2]
 have lw2:=hat_lt hw2
 rw[← hK,ws_n,aw_seq,aw_seq]
 clear hK
 generalize hK:WSeq _ _ _ _ _=K
 rw[aw_draw]
 refine awp_draw C10ok (by kernel_rfl) [0,1,3,7,15,31,7,71,255,511] [.quiet [0],.quiet [0],.quiet [0],.quiet [0],.quiet [0],.quiet [0],.quiet [0],.quiet [0],.quiet [0],.quiet [0]] 0 (by kernel_rfl) ?_
 simp[go_sem,t0,t5,t6,hw2,hlt2,lw2,e2]
 refine⟨⟨fun h=>⟨h,by omega⟩,fun h=>⟨h,hsi⟩⟩,?_⟩
 have hq:(S.2 != 0 || !((wAt ws 2).toList == (txt S.1).toList)) = !(decide (S.2=0) && ((wAt ws 2).toList == (txt S.1).toList)):=by
  by_cases h:S.2=0 <;> simp[h]
 rw[hq]
 suffices hsuf : ∀ T,Am.get T 0 = .sl wb 0 ws.length 0 → Am.get T 31 = .bool (!(decide (S.2=0) && ((wAt ws 2).toList == (txt S.1).toList))) → K .normal T G1 from hsuf _ (by repeat(rw[getN (by omega)]);exact t0) rfl
 clear t0 t5 t6
 intro T t0 t31
 rw[← hK,ws_n]
 clear hK
 generalize hK:WSeq _ _ _ _ _=K
 by_cases c2:(decide (S.2=0) && ((wAt ws 2).toList == (txt S.1).toList))=false
 ·rw[c2] at t31
  have a2:=sp_at (H:=G1) (k:=2) hw2 n1 ht (by omega) (by omega)
  simp[go_sem,t0,t31,a2]
  rw[← hK,ws_r]
  refine⟨.inr rfl,_,_,rfl,trivial,?_,hF2.trans (Fr.app _ _ _)⟩
  unfold rtCol
  rw[if_neg c1,if_pos (hS ▸ c2)]
  rfl
 have c2' : (decide (S.2=0) && ((wAt ws 2).toList == (txt S.1).toList))=true:=by simpa using c2
 rw[c2'] at t31
 simp[go_sem,t31]
 rw[← hK,ws_n]
 simp[go_sem]
 refine⟨.inr rfl,_,_,rfl,trivial,?_,hF2⟩
 unfold rtCol
 rw[if_neg c1,if_neg (hS ▸ c2)]
 rfl
end Go.Proofs.YtjokedpaidmjoaaGreatDoor.Rf
