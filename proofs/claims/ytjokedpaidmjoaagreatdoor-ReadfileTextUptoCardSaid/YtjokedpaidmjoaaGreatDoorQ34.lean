/- A part of the proof. -/
import Derived.Test.YtjokedpaidmjoaaGreatDoorQ33
set_option linter.all false
namespace Go.Proofs.YtjokedpaidmjoaaGreatDoor.Rf
open Go Go.RowKit Go.Proofs.YtjokedpaidmjoaaGreatDoor.Am Go.Proofs.YtjokedpaidmjoaaGreatDoor.Pu Go.Proofs.YtjokedpaidmjoaaGreatDoor
attribute [local go_sem] areg aseq gstep gwant astep apick aop aslice alen aappend aappendS aconvS aconvB unw opTmps opnds tmpsOf aev Am.get ofConst ofConst1 putT strip abin aun initT AThen AIn ws_n ws_r ws_e ws_g aw_seq aw_reg aw_draw aw_cond aw_block aw_skip aw_ret aw_exit aw_goto aw_label aw_loop aw_scope ANoGoto AJ ares oneOr bound asInt fieldOf ldv setSeg AV.cells AV.whole AV.cell tys Ty.agg ty9 ty3 ty2 ty5 ty4 ty89 ty21 ty37 ty46 ty83 ty73 ty81 ty41 ty23 ty25 ty27 ty28 ty48 afill zeroRow litGet litCells adraw awit adchk pchk qchk gchk looks restr tfin Has hat_z hat_s hat_len hat_appL hat_appN hat_appK hat_setS hat_setN set_appL set_appN set_appK box_t bu aC aD aG aH az aI row_t bv aJ aA aK row_one aM
attribute [local go_sem] aY bi aN aQ aR keepT
attribute [local go_sem] C10_ty C10_fn C10_ext C10_eqt
attribute [local go_sem] List.set_set
set_option maxRecDepth 10000
def rPost (a:ByteArray) (H:Heap):AV → Heap → Prop:=fun v H'=>Fr [81] H H'∧match pR a with
   |.large=>v = .tup [.agg (fiV f0 .nilsl),.agg [.int .i64 0,.int .i64 0],.int .i64 9]
   |.bad l c=>v = .tup [.agg (fiV f0 .nilsl),.agg [.int .i64 l,.int .i64 c],.int .i64 1]
   |.good f=>∃ vr,v = .tup [.agg (fiV f vr),.agg [.int .i64 0,.int .i64 0],.int .i64 0]∧Rds H' vr f.reads∧∀ b n v,vr = .sl b 0 n v → H.length≤b
def plB (l c:Int):Blk:=boxBlk 27 2 [.int .i64 l,.int .i64 c]
end Go.Proofs.YtjokedpaidmjoaaGreatDoor.Rf
set_option linter.all false
namespace Go.Proofs.YtjokedpaidmjoaaGreatDoor.Rf
open Go Go.RowKit Go.Proofs.YtjokedpaidmjoaaGreatDoor.Am Go.Proofs.YtjokedpaidmjoaaGreatDoorW.PrintWords Go.Proofs.YtjokedpaidmjoaaGreatDoor.Pu Go.Proofs.YtjokedpaidmjoaaGreatDoor
theorem fits_int {k:IntKind} {r:List CK} {xs:List AV} (h:Am.fits (.int k :: r) xs) : ∃ n l,xs = .int k n :: l∧Am.fits r l:=by
 cases xs with
 |nil=>exact h.elim
 |cons a l=>cases a <;> first|exact⟨_,_,by rw[h.1],h.2⟩|exact h.elim
theorem fO {xs:List AV} (h:Am.fits [] xs):xs = []:=by
 cases xs with
 |nil=>rfl
 |cons a l=>exact h.elim
theorem eqBP (d:Nat) (w:World) (x0 y0 x1 y1:Int):(Op.equalIn (d+2) 27 (.agg #[.int .i64 x0,.int .i64 x1]) (.agg #[.int .i64 y0,.int .i64 y1])).run Tryz.prog w = .ok ((x0 == y0) && (x1 == y1)) w:=by
 refine eqA_of Tryz.underlying27 (by kernel_rfl) ?_
 refine fe (by rfl) (by go_simp;rfl) (by go_simp;rfl) (by go_simp) ?_
 exact eqf_last (by rfl) (by go_simp;rfl) (by go_simp;rfl) (by go_simp)
theorem eqOkP:EqOk Tryz.prog 27 [.int .i64,.int .i64]:=by
 refine⟨by kernel_rfl,fun w xs ys hx hy=>?_⟩
 obtain⟨x0,l,rfl,h_⟩:=fits_int hx;clear hx;have hx:=h_;clear h_
 obtain⟨x1,l,rfl,h_⟩:=fits_int hx;clear hx;have hx:=h_;clear h_
 obtain rfl:=fO hx
 obtain⟨y0,l,rfl,h_⟩:=fits_int hy;clear hy;have hy:=h_;clear h_
 obtain⟨y1,l,rfl,h_⟩:=fits_int hy;clear hy;have hy:=h_;clear h_
 obtain rfl:=fO hy
 show(Op.equalIn 10000 27 (.agg #[.int .i64 x0,.int .i64 x1]) (.agg #[.int .i64 y0,.int .i64 y1])).run Tryz.prog w=_
 rw[eqBP 9998 w x0 y0 x1 y1]
 simp[leqs,ceq,Bool.and_assoc]
theorem eqBR (d:Nat) (w:World) (x0 y0 x1 y1 x2 y2 x3 y3 x4 y4:Int):(Op.equalIn (d+2) 41 (.agg #[.int .i64 x0,.int .i64 x1,.int .i64 x2,.int .i64 x3,.int .u8 x4]) (.agg #[.int .i64 y0,.int .i64 y1,.int .i64 y2,.int .i64 y3,.int .u8 y4])).run Tryz.prog w = .ok ((x0 == y0) && ((x1 == y1) && ((x2 == y2) && ((x3 == y3) && (x4 == y4))))) w:=by
 refine eqA_of Tryz.underlying41 (by kernel_rfl) ?_
 refine fe (by rfl) (by go_simp;rfl) (by go_simp;rfl) (by go_simp) ?_
 refine fe (by rfl) (by go_simp;rfl) (by go_simp;rfl) (by go_simp) ?_
 refine fe (by rfl) (by go_simp;rfl) (by go_simp;rfl) (by go_simp) ?_
 refine fe (by rfl) (by go_simp;rfl) (by go_simp;rfl) (by go_simp) ?_
 exact eqf_last (by rfl) (by go_simp;rfl) (by go_simp;rfl) (by go_simp)
theorem eqOkR:EqOk Tryz.prog 41 [.int .i64,.int .i64,.int .i64,.int .i64,.int .u8]:=by
 refine⟨by kernel_rfl,fun w xs ys hx hy=>?_⟩
 obtain⟨x0,l,rfl,h_⟩:=fits_int hx;clear hx;have hx:=h_;clear h_
 obtain⟨x1,l,rfl,h_⟩:=fits_int hx;clear hx;have hx:=h_;clear h_
 obtain⟨x2,l,rfl,h_⟩:=fits_int hx;clear hx;have hx:=h_;clear h_
 obtain⟨x3,l,rfl,h_⟩:=fits_int hx;clear hx;have hx:=h_;clear h_
 obtain⟨x4,l,rfl,h_⟩:=fits_int hx;clear hx;have hx:=h_;clear h_
 obtain rfl:=fO hx
 obtain⟨y0,l,rfl,h_⟩:=fits_int hy;clear hy;have hy:=h_;clear h_
 obtain⟨y1,l,rfl,h_⟩:=fits_int hy;clear hy;have hy:=h_;clear h_
 obtain⟨y2,l,rfl,h_⟩:=fits_int hy;clear hy;have hy:=h_;clear h_
 obtain⟨y3,l,rfl,h_⟩:=fits_int hy;clear hy;have hy:=h_;clear h_
 obtain⟨y4,l,rfl,h_⟩:=fits_int hy;clear hy;have hy:=h_;clear h_
 obtain rfl:=fO hy
 show(Op.equalIn 10000 41 (.agg #[.int .i64 x0,.int .i64 x1,.int .i64 x2,.int .i64 x3,.int .u8 x4]) (.agg #[.int .i64 y0,.int .i64 y1,.int .i64 y2,.int .i64 y3,.int .u8 y4])).run Tryz.prog w=_
 rw[eqBR 9998 w x0 y0 x1 y1 x2 y2 x3 y3 x4 y4]
 simp[leqs,ceq,Bool.and_assoc]
def eqs7:TypeId → Option (List CK)
 |27=>some [.int .i64,.int .i64]
 |41=>some [.int .i64,.int .i64,.int .i64,.int .i64,.int .u8]
 |_=>none
theorem eqs7_ok : ∀ t K,eqs7 t=some K → EqOk Tryz.prog t K:=by
 intro t K h
 unfold eqs7 at h
 split at h
 ·cases h;exact eqOkP
 ·cases h;exact eqOkR
 ·cases h
noncomputable def C11:Ctx:={ P:=Tryz.prog,ty:=tys,fn:=bZ,ext:=ext7,eqt:=eqs7 }
theorem C11ok:CtxOk C11:=⟨tysOk,C10ok.fn,eqs7_ok,dn⟩
theorem C11_ty:C11.ty=tys:=rfl
theorem C11_fn:C11.fn=bZ:=rfl
theorem C11_ext:C11.ext=ext7:=rfl
theorem C11_eqt:C11.eqt=eqs7:=rfl
attribute [local go_sem] areg aseq gstep gwant astep apick aop aslice alen aappend aappendS aconvS aconvB unw opTmps opnds tmpsOf aev Am.get ofConst ofConst1 putT strip abin aun initT AThen AIn ws_n ws_r ws_e ws_g aw_seq aw_reg aw_draw aw_cond aw_block aw_skip aw_ret aw_exit aw_goto aw_label aw_loop aw_scope ANoGoto AJ ares oneOr bound asInt fieldOf ldv setSeg AV.cells AV.whole AV.cell tys Ty.agg ty9 ty3 ty2 ty5 ty4 ty89 ty21 ty37 ty46 ty83 ty73 ty81 ty41 ty23 ty25 ty27 ty28 ty48 afill zeroRow litGet litCells adraw awit adchk pchk qchk gchk looks restr tfin Has hat_z hat_s hat_len hat_appL hat_appN hat_appK hat_setS hat_setN set_appL set_appN set_appK box_t bu aC aD aG aH az aI row_t bv aJ aA aK row_one aM
attribute [local go_sem] aY bi aN aQ aR keepT
attribute [local go_sem] C11_ty C11_fn C11_ext C11_eqt eqs7 leqs ceq Am.fits
attribute [local go_sem] List.set_set
set_option maxRecDepth 10000
end Go.Proofs.YtjokedpaidmjoaaGreatDoor.Rf
set_option linter.all false
namespace Go.Proofs.YtjokedpaidmjoaaGreatDoor.Rf
open Go Go.RowKit Go.Proofs.YtjokedpaidmjoaaGreatDoor.Am Go.Proofs.YtjokedpaidmjoaaGreatDoor.Pu Go.Proofs.YtjokedpaidmjoaaGreatDoor
attribute [local go_sem] areg aseq gstep gwant astep apick aop aslice alen aappend aappendS aconvS aconvB unw opTmps opnds tmpsOf aev Am.get ofConst ofConst1 putT strip abin aun initT AThen AIn ws_n ws_r ws_e ws_g aw_seq aw_reg aw_draw aw_cond aw_block aw_skip aw_ret aw_exit aw_goto aw_label aw_loop aw_scope ANoGoto AJ ares oneOr bound asInt fieldOf ldv setSeg AV.cells AV.whole AV.cell tys Ty.agg ty9 ty3 ty2 ty5 ty4 ty89 ty21 ty37 ty46 ty83 ty73 ty81 ty41 ty23 ty25 ty27 ty28 ty48 afill zeroRow litGet litCells adraw awit adchk pchk qchk gchk looks restr tfin Has hat_z hat_s hat_len hat_appL hat_appN hat_appK hat_setS hat_setN set_appL set_appN set_appK box_t bu aC aD aG aH az aI row_t bv aJ aA aK row_one aM
attribute [local go_sem] aY bi aN aQ aR keepT
attribute [local go_sem] C11_ty C11_fn C11_ext C11_eqt eqs7 leqs ceq Am.fits
attribute [local go_sem] List.set_set
set_option maxRecDepth 10000
theorem s10_ex:bZ 18=some spEx:=rfl
def exF:Fi:=⟨⟨#[109,45,49]⟩,1767225600,15,4,1,0,[⟨0,100,0,-5,65⟩,⟨1,120,0,0,65⟩,⟨3,90,10,2,69⟩]⟩
theorem ex_good:pR exT = .good exF:=by kernel_rfl
theorem ex_small:exT.size≤70368744177664:=Nat.le_of_ble_eq_true (by kernel_rfl)
def pVal:POut → Fi × Int × Int × Int
 |.large=>(f0,0,0,9)
 |.bad l c=>(f0,l,c,1)
 |.good f=>(f,0,0,0)
theorem post_val {a:ByteArray} {H H' : Heap} {v:AV} (h:rPost a H v H'):Fr [81] H H'∧∃ vr,v = .tup [.agg (fiV (pVal (pR a)).1 vr),.agg [.int .i64 (pVal (pR a)).2.1,.int .i64 (pVal (pR a)).2.2.1],.int .i64 (pVal (pR a)).2.2.2]∧Rds H' vr (pVal (pR a)).1.reads∧∀ b n v,vr = .sl b 0 n v → H.length≤b:=by
 obtain⟨h1,h2⟩:=h
 refine⟨h1,?_⟩
 cases hp:pR a with
 |large=>rw[hp] at h2;exact⟨.nilsl,h2,.inl ⟨rfl,rfl⟩,fun b n v e=>by cases e⟩
 |bad l c=>rw[hp] at h2;exact⟨.nilsl,h2,.inl ⟨rfl,rfl⟩,fun b n v e=>by cases e⟩
 |good f=>
  rw[hp] at h2
  obtain⟨vr,e,h3,h4⟩:=h2
  exact⟨vr,e,h3,h4⟩
theorem pPost_r {a:ByteArray} {H H' : Heap} {v:AV} (h:pPost a H v H'):rPost a H v H':=by
 unfold pPost at h
 rw[parse_same] at h
 exact h
set_option maxHeartbeats 4000000 in
theorem awake_calls {H:Heap} : ACalls Tryz.prog 9 [] H fun v H'=>v = .bool true∧Fr [81] H H':=by
 refine acalls_ofN (C:=C11) (nt:=Tryz.f9.ntmps) C11ok Tryz.func9 rfl rfl ?_
 refine awp_step C11ok fun K hK=>?_
 simp[go_sem]
 rw[hK,athen_n]
 refine awp_live [] ?_
 simp[go_sem]
 clear hK K
 refine awp_step C11ok fun K hK=>?_
 simp[go_sem]
 refine awp_region (aops_pref C11ok 1 ?_)
 simp[go_sem,s10_ex,spEx]
 refine aops_call rfl rfl rfl rfl Tryz.func11 (by kernel_rfl) (by kernel_rfl) (parse_calls ex_small) ?_
 rintro v G hv
 obtain⟨hF,vr,rfl,hr,_⟩:=post_val (pPost_r hv)
 rw[ex_good] at hr ⊢
 obtain⟨b,w,B,rfl,g2,g3,g4,g5,g6,g7,g8⟩ : ∃ b v B,vr = .sl b 0 3 v∧hat G b=some B∧B.ver=v∧B.own=true∧B.len=3∧B.t=41∧B.sz=5∧B.get 2=rdV ⟨3,90,10,2,69⟩:=by
  rcases hr with ⟨_,h0⟩|⟨b,v,B,h1,h2,h3,h4,h5,h6,h7,h8⟩
  ·cases h0
  ·exact⟨b,v,B,h1,h2,h3,h4,h5,h6,h7,h8 2 _ rfl⟩
 refine⟨_,rfl,aops_pref C11ok 9 ?_⟩
 simp only[rdV] at g8
 simp[go_sem,pVal,fiV,exF]
 refine aops_nil ?_
 rw[hK,athen_n]
 refine awp_live [1,2,3] ?_
 simp[go_sem]
 clear hK K
 have lb:=hat_lt g2
 refine awalk_sound C11ok _ _ _ _ ?_
 simp[go_sem,g2,g3,g5,g7,g8,lb]
 refine⟨.inr rfl,?_⟩
 simp[go_sem]
 exact⟨_,True,⟨rfl,trivial⟩,trivial,rfl,hF.trans (Fr.app _ _ _)⟩
end Go.Proofs.YtjokedpaidmjoaaGreatDoor.Rf
