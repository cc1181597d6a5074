/- A part of the proof. -/
import Derived.Test.YtjokedpaidmjoaaGreatDoorQ32
set_option linter.all false
namespace Go.Proofs.YtjokedpaidmjoaaGreatDoor.Rf
open Go Go.RowKit Go.Proofs.YtjokedpaidmjoaaGreatDoor.Am Go.Proofs.YtjokedpaidmjoaaGreatDoor.Pu Go.Proofs.YtjokedpaidmjoaaGreatDoor
attribute [local go_sem] areg aseq gstep gwant astep apick aop aslice alen aappend aappendS aconvS aconvB unw opTmps opnds tmpsOf aev Am.get ofConst ofConst1 putT strip abin aun initT AThen AIn ws_n ws_r ws_e ws_g aw_seq aw_reg aw_draw aw_cond aw_block aw_skip aw_ret aw_exit aw_goto aw_label aw_loop aw_scope ANoGoto AJ ares oneOr bound asInt fieldOf ldv setSeg AV.cells AV.whole AV.cell tys Ty.agg ty9 ty3 ty2 ty5 ty4 ty89 ty21 ty37 ty46 ty83 ty73 ty81 ty41 ty23 ty25 ty27 ty28 ty48 afill zeroRow litGet litCells adraw awit adchk pchk qchk gchk looks restr tfin Has hat_z hat_s hat_len hat_appL hat_appN hat_appK hat_setS hat_setN set_appL set_appN set_appK box_t bn aI aJ aK aM ax aN row_t bq aQ aC aR row_one aT
attribute [local go_sem] aU aZ aD aG aH keepT
attribute [local go_sem] C10_ty C10_fn C10_ext C10_eqt
attribute [local go_sem] List.set_set
set_option maxRecDepth 10000
def rPost (a:ByteArray) (H:Heap):AV → Heap → Prop:=fun v H'=>Fr [81] H H'∧match pR a with
   |.large=>v = .tup [.agg (fiV f0 .nilsl),.agg [.int .i64 0,.int .i64 0],.int .i64 9]
   |.bad l c=>v = .tup [.agg (fiV f0 .nilsl),.agg [.int .i64 l,.int .i64 c],.int .i64 1]
   |.good f=>∃ vr,v = .tup [.agg (fiV f vr),.agg [.int .i64 0,.int .i64 0],.int .i64 0]∧Rds H' vr f.reads∧∀ b n v,vr = .sl b 0 n v → H.length≤b
def plB (l c:Int):Blk:=boxBlk 27 2 [.int .i64 l,.int .i64 c]
end Go.Proofs.YtjokedpaidmjoaaGreatDoor.Rf
set_option linter.all false
namespace Go.Proofs.YtjokedpaidmjoaaGreatDoor.Rf
open Go Go.RowKit Go.Proofs.YtjokedpaidmjoaaGreatDoor.Am Go.Proofs.YtjokedpaidmjoaaGreatDoorW.PrintWords Go.Proofs.YtjokedpaidmjoaaGreatDoor.Pu Go.Proofs.YtjokedpaidmjoaaGreatDoor
theorem fits_int {k:IntKind} {r:List CK} {xs:List AV} (h:Am.fits (.int k :: r) xs) : ∃ n l,xs = .int k n :: l∧Am.fits r l:=by
 cases xs with
 |nil=>exact h.elim
 |cons a l=>cases a <;> first|exact⟨_,_,by rw[h.1],h.2⟩|exact h.elim
theorem gz {xs:List AV} (h:Am.fits [] xs):xs = []:=by
 cases xs with
 |nil=>rfl
 |cons a l=>exact h.elim
theorem eqBP (d:Nat) (w:World) (x0 y0 x1 y1:Int):(Op.equalIn (d+2) 27 (.agg #[.int .i64 x0,.int .i64 x1]) (.agg #[.int .i64 y0,.int .i64 y1])).run Tryz.prog w = .ok ((x0 == y0) && (x1 == y1)) w:=by
 refine eqA_of Tryz.underlying27 (by kernel_rfl) ?_
 refine fA (by rfl) (by go_simp;rfl) (by go_simp;rfl) (by go_simp) ?_
 exact eqf_last (by rfl) (by go_simp;rfl) (by go_simp;rfl) (by go_simp)
theorem eqOkP:EqOk Tryz.prog 27 [.int .i64,.int .i64]:=by
 refine⟨by kernel_rfl,fun w xs ys hx hy=>?_⟩
 obtain⟨x0,l,rfl,h_⟩:=fits_int hx;clear hx;have hx:=h_;clear h_
 obtain⟨x1,l,rfl,h_⟩:=fits_int hx;clear hx;have hx:=h_;clear h_
 obtain rfl:=gz hx
 obtain⟨y0,l,rfl,h_⟩:=fits_int hy;clear hy;have hy:=h_;clear h_
 obtain⟨y1,l,rfl,h_⟩:=fits_int hy;clear hy;have hy:=h_;clear h_
 obtain rfl:=gz hy
 show(Op.equalIn 10000 27 (.agg #[.int .i64 x0,.int .i64 x1]) (.agg #[.int .i64 y0,.int .i64 y1])).run Tryz.prog w=_
 rw[eqBP 9998 w x0 y0 x1 y1]
 simp[leqs,ceq,Bool.and_assoc]
theorem eqBR (d:Nat) (w:World) (x0 y0 x1 y1 x2 y2 x3 y3 x4 y4:Int):(Op.equalIn (d+2) 41 (.agg #[.int .i64 x0,.int .i64 x1,.int .i64 x2,.int .i64 x3,.int .u8 x4]) (.agg #[.int .i64 y0,.int .i64 y1,.int .i64 y2,.int .i64 y3,.int .u8 y4])).run Tryz.prog w = .ok ((x0 == y0) && ((x1 == y1) && ((x2 == y2) && ((x3 == y3) && (x4 == y4))))) w:=by
 refine eqA_of Tryz.underlying41 (by kernel_rfl) ?_
 refine fA (by rfl) (by go_simp;rfl) (by go_simp;rfl) (by go_simp) ?_
 refine fA (by rfl) (by go_simp;rfl) (by go_simp;rfl) (by go_simp) ?_
 refine fA (by rfl) (by go_simp;rfl) (by go_simp;rfl) (by go_simp) ?_
 refine fA (by rfl) (by go_simp;rfl) (by go_simp;rfl) (by go_simp) ?_
 exact eqf_last (by rfl) (by go_simp;rfl) (by go_simp;rfl) (by go_simp)
theorem eqOkR:EqOk Tryz.prog 41 [.int .i64,.int .i64,.int .i64,.int .i64,.int .u8]:=by
 refine⟨by kernel_rfl,fun w xs ys hx hy=>?_⟩
 obtain⟨x0,l,rfl,h_⟩:=fits_int hx;clear hx;have hx:=h_;clear h_
 obtain⟨x1,l,rfl,h_⟩:=fits_int hx;clear hx;have hx:=h_;clear h_
 obtain⟨x2,l,rfl,h_⟩:=fits_int hx;clear hx;have hx:=h_;clear h_
 obtain⟨x3,l,rfl,h_⟩:=fits_int hx;clear hx;have hx:=h_;clear h_
 obtain⟨x4,l,rfl,h_⟩:=fits_int hx;clear hx;have hx:=h_;clear h_
 obtain rfl:=gz hx
 obtain⟨y0,l,rfl,h_⟩:=fits_int hy;clear hy;have hy:=h_;clear h_
 obtain⟨y1,l,rfl,h_⟩:=fits_int hy;clear hy;have hy:=h_;clear h_
 obtain⟨y2,l,rfl,h_⟩:=fits_int hy;clear hy;have hy:=h_;clear h_
 obtain⟨y3,l,rfl,h_⟩:=fits_int hy;clear hy;have hy:=h_;clear h_
 obtain⟨y4,l,rfl,h_⟩:=fits_int hy;clear hy;have hy:=h_;clear h_
 obtain rfl:=gz hy
 show(Op.equalIn 10000 41 (.agg #[.int .i64 x0,.int .i64 x1,.int .i64 x2,.int .i64 x3,.int .u8 x4]) (.agg #[.int .i64 y0,.int .i64 y1,.int .i64 y2,.int .i64 y3,.int .u8 y4])).run Tryz.prog w=_
 rw[eqBR 9998 w x0 y0 x1 y1 x2 y2 x3 y3 x4 y4]
 simp[leqs,ceq,Bool.and_assoc]
def eqs7:TypeId → Option (List CK)
 |27=>some [.int .i64,.int .i64]
 |41=>some [.int .i64,.int .i64,.int .i64,.int .i64,.int .u8]
 |_=>none
theorem eqs7_ok : ∀ t K,eqs7 t=some K → EqOk Tryz.prog t K:=by
 intro t K h
 unfold eqs7 at h
 split at h
 ·cases h;exact eqOkP
 ·cases h;exact eqOkR
 ·cases h
noncomputable def C11:Ctx:={ P:=Tryz.prog,ty:=tys,fn:=cK,ext:=ext7,eqt:=eqs7 }
theorem C11ok:CtxOk C11:=⟨tysOk,C10ok.fn,eqs7_ok,dA⟩
theorem C11_ty:C11.ty=tys:=rfl
theorem C11_fn:C11.fn=cK:=rfl
theorem C11_ext:C11.ext=ext7:=rfl
theorem C11_eqt:C11.eqt=eqs7:=rfl
attribute [local go_sem] areg aseq gstep gwant astep apick aop aslice alen aappend aappendS aconvS aconvB unw opTmps opnds tmpsOf aev Am.get ofConst ofConst1 putT strip abin aun initT AThen AIn ws_n ws_r ws_e ws_g aw_seq aw_reg aw_draw aw_cond aw_block aw_skip aw_ret aw_exit aw_goto aw_label aw_loop aw_scope ANoGoto AJ ares oneOr bound asInt fieldOf ldv setSeg AV.cells AV.whole AV.cell tys Ty.agg ty9 ty3 ty2 ty5 ty4 ty89 ty21 ty37 ty46 ty83 ty73 ty81 ty41 ty23 ty25 ty27 ty28 ty48 afill zeroRow litGet litCells adraw awit adchk pchk qchk gchk looks restr tfin Has hat_z hat_s hat_len hat_appL hat_appN hat_appK hat_setS hat_setN set_appL set_appN set_appK box_t bn aI aJ aK aM ax aN row_t bq aQ aC aR row_one aT
attribute [local go_sem] aU aZ aD aG aH keepT
attribute [local go_sem] C11_ty C11_fn C11_ext C11_eqt eqs7 leqs ceq Am.fits
attribute [local go_sem] List.set_set
set_option maxRecDepth 10000
def rdEq (a b:Rd):Bool:=a.slot == b.slot && (a.imp == b.imp && (a.exp == b.exp && (a.var == b.var && a.flag == b.flag)))
def rdsEq:List Rd → List Rd → Bool
 |a :: l,b :: m=>rdEq a b && rdsEq l m
 |_,_=>true
def fiEq (f g:Fi):Bool:=f.meter.toList == g.meter.toList && f.start == g.start && f.step == g.step && f.slots == g.slots && f.mult == g.mult && f.turn == g.turn && ((f.reads.length:Int) == (g.reads.length:Int))
def sameF (f g:Fi):Bool:=fiEq f g && rdsEq f.reads g.reads
theorem rdsEq_refl : ∀ l,rdsEq l l=true
 |[]=>rfl
 |a :: l=>by simp[rdsEq,rdEq,rdsEq_refl l]
theorem sameF_refl (f:Fi):sameF f f=true:=by simp[sameF,fiEq,rdsEq_refl]
end Go.Proofs.YtjokedpaidmjoaaGreatDoor.Rf
