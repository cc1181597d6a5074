/- A part of the proof. -/
import Derived.Test.YtjokedpaidmjoaaGreatDoorQ36
set_option linter.all false
namespace Go.Proofs.YtjokedpaidmjoaaGreatDoor.Rf
open Go Go.RowKit Go.Proofs.YtjokedpaidmjoaaGreatDoor.Am Go.Proofs.YtjokedpaidmjoaaGreatDoorW.PrintWords Go.Proofs.YtjokedpaidmjoaaGreatDoor.Pu Go.Proofs.YtjokedpaidmjoaaGreatDoor
theorem fits_int {k:IntKind} {r:List CK} {xs:List AV} (h:Am.fits (.int k :: r) xs) : ∃ n l,xs = .int k n :: l∧Am.fits r l:=by
 cases xs with
 |nil=>exact h.elim
 |cons a l=>cases a <;> first|exact⟨_,_,by rw[h.1],h.2⟩|exact h.elim
theorem fV {xs:List AV} (h:Am.fits [] xs):xs = []:=by
 cases xs with
 |nil=>rfl
 |cons a l=>exact h.elim
theorem eqBP (d:Nat) (w:World) (x0 y0 x1 y1:Int):(Op.equalIn (d+2) 27 (.agg #[.int .i64 x0,.int .i64 x1]) (.agg #[.int .i64 y0,.int .i64 y1])).run Tryz.prog w = .ok ((x0 == y0) && (x1 == y1)) w:=by
 refine eqA_of Tryz.underlying27 (by kernel_rfl) ?_
 refine fo (by rfl) (by go_simp;rfl) (by go_simp;rfl) (by go_simp) ?_
 exact eqf_last (by rfl) (by go_simp;rfl) (by go_simp;rfl) (by go_simp)
theorem eqOkP:EqOk Tryz.prog 27 [.int .i64,.int .i64]:=by
 refine⟨by kernel_rfl,fun w xs ys hx hy=>?_⟩
 obtain⟨x0,l,rfl,h_⟩:=fits_int hx;clear hx;have hx:=h_;clear h_
 obtain⟨x1,l,rfl,h_⟩:=fits_int hx;clear hx;have hx:=h_;clear h_
 obtain rfl:=fV hx
 obtain⟨y0,l,rfl,h_⟩:=fits_int hy;clear hy;have hy:=h_;clear h_
 obtain⟨y1,l,rfl,h_⟩:=fits_int hy;clear hy;have hy:=h_;clear h_
 obtain rfl:=fV hy
 show(Op.equalIn 10000 27 (.agg #[.int .i64 x0,.int .i64 x1]) (.agg #[.int .i64 y0,.int .i64 y1])).run Tryz.prog w=_
 rw[eqBP 9998 w x0 y0 x1 y1]
 simp[leqs,ceq,Bool.and_assoc]
theorem eqBR (d:Nat) (w:World) (x0 y0 x1 y1 x2 y2 x3 y3 x4 y4:Int):(Op.equalIn (d+2) 41 (.agg #[.int .i64 x0,.int .i64 x1,.int .i64 x2,.int .i64 x3,.int .u8 x4]) (.agg #[.int .i64 y0,.int .i64 y1,.int .i64 y2,.int .i64 y3,.int .u8 y4])).run Tryz.prog w = .ok ((x0 == y0) && ((x1 == y1) && ((x2 == y2) && ((x3 == y3) && (x4 == y4))))) w:=by
 refine eqA_of Tryz.underlying41 (by kernel_rfl) ?_
 refine fo (by rfl) (by go_simp;rfl) (by go_simp;rfl) (by go_simp) ?_
 refine fo (by rfl) (by go_simp;rfl) (by go_simp;rfl) (by go_simp) ?_
 refine fo (by rfl) (by go_simp;rfl) (by go_simp;rfl) (by go_simp) ?_
 refine fo (by rfl) (by go_simp;rfl) (by go_simp;rfl) (by go_simp) ?_
 exact eqf_last (by rfl) (by go_simp;rfl) (by go_simp;rfl) (by go_simp)
theorem eqOkR:EqOk Tryz.prog 41 [.int .i64,.int .i64,.int .i64,.int .i64,.int .u8]:=by
 refine⟨by kernel_rfl,fun w xs ys hx hy=>?_⟩
 obtain⟨x0,l,rfl,h_⟩:=fits_int hx;clear hx;have hx:=h_;clear h_
 obtain⟨x1,l,rfl,h_⟩:=fits_int hx;clear hx;have hx:=h_;clear h_
 obtain⟨x2,l,rfl,h_⟩:=fits_int hx;clear hx;have hx:=h_;clear h_
 obtain⟨x3,l,rfl,h_⟩:=fits_int hx;clear hx;have hx:=h_;clear h_
 obtain⟨x4,l,rfl,h_⟩:=fits_int hx;clear hx;have hx:=h_;clear h_
 obtain rfl:=fV hx
 obtain⟨y0,l,rfl,h_⟩:=fits_int hy;clear hy;have hy:=h_;clear h_
 obtain⟨y1,l,rfl,h_⟩:=fits_int hy;clear hy;have hy:=h_;clear h_
 obtain⟨y2,l,rfl,h_⟩:=fits_int hy;clear hy;have hy:=h_;clear h_
 obtain⟨y3,l,rfl,h_⟩:=fits_int hy;clear hy;have hy:=h_;clear h_
 obtain⟨y4,l,rfl,h_⟩:=fits_int hy;clear hy;have hy:=h_;clear h_
 obtain rfl:=fV hy
 show(Op.equalIn 10000 41 (.agg #[.int .i64 x0,.int .i64 x1,.int .i64 x2,.int .i64 x3,.int .u8 x4]) (.agg #[.int .i64 y0,.int .i64 y1,.int .i64 y2,.int .i64 y3,.int .u8 y4])).run Tryz.prog w=_
 rw[eqBR 9998 w x0 y0 x1 y1 x2 y2 x3 y3 x4 y4]
 simp[leqs,ceq,Bool.and_assoc]
def eqs7:TypeId → Option (List CK)
 |27=>some [.int .i64,.int .i64]
 |41=>some [.int .i64,.int .i64,.int .i64,.int .i64,.int .u8]
 |_=>none
theorem eqs7_ok : ∀ t K,eqs7 t=some K → EqOk Tryz.prog t K:=by
 intro t K h
 unfold eqs7 at h
 split at h
 ·cases h;exact eqOkP
 ·cases h;exact eqOkR
 ·cases h
noncomputable def C11:Ctx:={ P:=Tryz.prog,ty:=tys,fn:=bT,ext:=ext7,eqt:=eqs7 }
theorem C11ok:CtxOk C11:=⟨tysOk,C10ok.fn,eqs7_ok,dC⟩
theorem C11_ty:C11.ty=tys:=rfl
theorem C11_fn:C11.fn=bT:=rfl
theorem C11_ext:C11.ext=ext7:=rfl
theorem C11_eqt:C11.eqt=eqs7:=rfl
attribute [local go_sem] areg aseq gstep gwant astep apick aop aslice alen aappend aappendS aconvS aconvB unw opTmps opnds tmpsOf aev Am.get ofConst ofConst1 putT strip abin aun initT AThen AIn ws_n ws_r ws_e ws_g aw_seq aw_reg aw_draw aw_cond aw_block aw_skip aw_ret aw_exit aw_goto aw_label aw_loop aw_scope ANoGoto AJ ares oneOr bound asInt fieldOf ldv setSeg AV.cells AV.whole AV.cell tys Ty.agg ty9 ty3 ty2 ty5 ty4 ty89 ty21 ty37 ty46 ty83 ty73 ty81 ty41 ty23 ty25 ty27 ty28 ty48 afill zeroRow litGet litCells adraw awit adchk pchk qchk gchk looks restr tfin Has hat_z hat_s hat_len hat_appL hat_appN hat_appK hat_setS hat_setN set_appL set_appN set_appK box_t bn aD aG aH aI ax aJ row_t bq aK ay aM row_one aN
attribute [local go_sem] aQ bu aR aT aU keepT
attribute [local go_sem] C11_ty C11_fn C11_ext C11_eqt eqs7 leqs ceq Am.fits
attribute [local go_sem] List.set_set
set_option maxRecDepth 10000
def rdEq (a b:Rd):Bool:=a.slot == b.slot && (a.imp == b.imp && (a.exp == b.exp && (a.var == b.var && a.flag == b.flag)))
def rdsEq:List Rd → List Rd → Bool
 |a :: l,b :: m=>rdEq a b && rdsEq l m
 |_,_=>true
def fiEq (f g:Fi):Bool:=f.meter.toList == g.meter.toList && f.start == g.start && f.step == g.step && f.slots == g.slots && f.mult == g.mult && f.turn == g.turn && ((f.reads.length:Int) == (g.reads.length:Int))
def sameF (f g:Fi):Bool:=fiEq f g && rdsEq f.reads g.reads
theorem rdsEq_refl : ∀ l,rdsEq l l=true
 |[]=>rfl
 |a :: l=>by simp[rdsEq,rdEq,rdsEq_refl l]
theorem eD (f:Fi):sameF f f=true:=by simp[sameF,fiEq,rdsEq_refl]
end Go.Proofs.YtjokedpaidmjoaaGreatDoor.Rf
set_option linter.all false
namespace Go.Proofs.YtjokedpaidmjoaaGreatDoor.Rf
open Go Go.RowKit Go.Proofs.YtjokedpaidmjoaaGreatDoor.Am Go.Proofs.YtjokedpaidmjoaaGreatDoor.Pu Go.Proofs.YtjokedpaidmjoaaGreatDoor
attribute [local go_sem] areg aseq gstep gwant astep apick aop aslice alen aappend aappendS aconvS aconvB unw opTmps opnds tmpsOf aev Am.get ofConst ofConst1 putT strip abin aun initT AThen AIn ws_n ws_r ws_e ws_g aw_seq aw_reg aw_draw aw_cond aw_block aw_skip aw_ret aw_exit aw_goto aw_label aw_loop aw_scope ANoGoto AJ ares oneOr bound asInt fieldOf ldv setSeg AV.cells AV.whole AV.cell tys Ty.agg ty9 ty3 ty2 ty5 ty4 ty89 ty21 ty37 ty46 ty83 ty73 ty81 ty41 ty23 ty25 ty27 ty28 ty48 afill zeroRow litGet litCells adraw awit adchk pchk qchk gchk looks restr tfin Has hat_z hat_s hat_len hat_appL hat_appN hat_appK hat_setS hat_setN set_appL set_appN set_appK box_t bn aD aG aH aI ax aJ row_t bq aK ay aM row_one aN
attribute [local go_sem] aQ bu aR aT aU keepT
attribute [local go_sem] C11_ty C11_fn C11_ext C11_eqt eqs7 leqs ceq Am.fits
attribute [local go_sem] List.set_set
set_option maxRecDepth 10000
theorem rdsEq_step {l m:List Rd} {j:Nat} (h1:j < l.length) (h2:j < m.length):rdsEq (l.drop j) (m.drop j)=(rdEq l[j] m[j] && rdsEq (l.drop (j+1)) (m.drop (j+1))):=by
 rw[List.drop_eq_getElem_cons h1,List.drop_eq_getElem_cons h2]
 rfl
set_option maxHeartbeats 4000000 in
theorem eB {H:Heap} {f g:Fi} {va vb:AV} (ha:RdsG H va f.reads) (hb:RdsG H vb g.reads) (hn:f.reads.length≤1099511627776):ACalls Tryz.prog 12 [.agg (fiV f va),.agg (fiV g vb)] H fun v H'=>v = .bool (sameF f g)∧Fr [] H H':=by
 refine acalls_ofN (C:=C11) (nt:=Tryz.f12.ntmps) C11ok Tryz.func12 rfl rfl ?_
 have ca:=ha.cell
 have cb:=hb.cell
 simp only[AV.cell] at ca cb
 refine awp_step C11ok fun K hK=>?_
 simp[go_sem,fiV,ca,cb]
 rw[hK,athen_n]
 refine awp_live [2,3] ?_
 simp[go_sem]
 clear hK K
 obtain⟨G,hG⟩ : ∃ G,G=H ++ [fiB f va,fiB g vb]:=⟨_,rfl⟩
 change AWp C11 _ H _ _ _ (H ++ [fiB f va,fiB g vb])
 rw[← hG]
 have hF:Fr [] H G:=hG ▸ Fr.app _ _ _
 have ka:hat G H.length=some (fiB f va):=hG ▸ hat_appN rfl
 have kb:hat G (H.length+1)=some (fiB g vb):=hG ▸ hat_appK 1 rfl
 have ha:=ha.keep hF (by simp)
 have hb:=hb.keep hF (by simp)
 clear hG
 generalize H.length+1=q2 at *
 generalize H.length=q1 at *
 have ua:=ka
 have ub:=kb
 simp only[fiB,fiV] at ua ub
 refine awp_seq (awp_mono (R:=fun e T G'=>G' = G∧((e = .normal∧Has T [(2,.ptr q1 0 0 0),(3,.ptr q2 0 0 0)]∧fiEq f g=true)∨(e = .ret∧Am.get T 4 = .bool false∧fiEq f g=false))) ?_ ?_)
 ·refine awalk_sound C11ok _ _ _ _ ?_
  have hfe:fiEq f g=true↔f.meter.toList=g.meter.toList∧f.start=g.start∧f.step=g.step∧f.slots=g.slots∧f.mult=g.mult∧f.turn=g.turn∧f.reads.length=g.reads.length:=by
   unfold fiEq
   simp[and_assoc]
   intros
   omega
  have hff:fiEq f g=false↔¬ (f.meter.toList=g.meter.toList∧f.start=g.start∧f.step=g.step∧f.slots=g.slots∧f.mult=g.mult∧f.turn=g.turn∧f.reads.length=g.reads.length):=by
   rw[← hfe];simp
  rw[hfe,hff]
  rcases ha with ⟨rfl,a0⟩|⟨b1,p1,v1,B1,rfl,g2,g3,g4,g5,g6,g7⟩ <;> rcases hb with ⟨rfl,b0⟩|⟨b2,p2,v2,B2,rfl,k2,k3,k4,k5,k6,k7⟩
  ·simp[go_sem,ua,ub]
   rw[a0,b0]
   simp
   grind
  ·simp[go_sem,ua,ub,k2,k3]
   rw[a0]
   simp
   grind
  ·simp[go_sem,ua,ub,g2,g3]
   rw[b0]
   simp
   grind
  ·simp[go_sem,ua,ub,g2,g3,k2,k3]
   grind
 ·rintro e T G' ⟨rfl,⟨rfl,hT,he⟩|⟨rfl,t4,he⟩⟩
  ·refine awp_weak ⟨hT,.inl rfl⟩ ?_
   clear hT T
   have hlen:f.reads.length=g.reads.length:=by
    unfold fiEq at he
    simp at he
    omega
   have hsm:sameF f g=rdsEq f.reads g.reads:=by unfold sameF;rw[he];rfl
   refine awp_seq ?_
   refine awp_seq (awp_mono (R:=fun e T G2=>e = .normal∧G2=G'∧Has T [(2,.ptr q1 0 0 0),(3,.ptr q2 0 0 0),(57,.int .i64 f.reads.length),(58,.int .i64 ((0:Nat):Int))]) ?_ ?_)
   ·refine awalk_sound C11ok _ _ _ _ ?_
    rcases ha with ⟨rfl,a0⟩|⟨b1,p1,v1,B1,rfl,g2,g3,g4,g5,g6,g7⟩
    ·simp[go_sem,ua,a0]
    ·simp[go_sem,ua,g2,g3]
   ·rintro e T G2 ⟨rfl,rfl,hT⟩
    refine awp_weak ⟨hT,.inl rfl⟩ ?_
    clear hT T
    refine awp_block (awp_loopQ (fun k T G=>∃ j:Nat,k+j=f.reads.length∧G=G2∧rdsEq f.reads g.reads=rdsEq (f.reads.drop j) (g.reads.drop j)∧T = [(2,.ptr q1 0 0 0),(3,.ptr q2 0 0 0),(57,.int .i64 f.reads.length),(58,.int .i64 j)]) f.reads.length ⟨0,by omega,rfl,rfl,rfl⟩ ?_)
    rintro k T G ⟨j,hj,rfl,hq,rfl⟩ Q hN hX
    refine awp_step C11ok fun K hK=>?_
    simp[go_sem]
    rw[hK,athen_n]
    refine awp_live [2,3,57,58,59] ?_
    simp[go_sem]
    clear hK K
    refine awp_step C11ok fun K hK=>?_
    simp[go_sem]
    refine⟨fun hjn=>?_,fun hjn=>?_⟩
    ·rw[hK,athen_n]
     refine awp_live [2,3,57,58] ?_
     simp[go_sem]
     clear hK K
     have hjm:j < g.reads.length:=by omega
     have hw:IntKind.i64.wrap ((j:Int)+1)=(j:Int)+1:=av (by omega) (by omega)
     rw[rdsEq_step hjn hjm] at hq
     refine awp_seq (awp_block ?_)
     refine awp_step C11ok fun K hK=>?_
     simp[go_sem]
     rw[hK,athen_n]
     refine awp_live [2,3,5,57,58] ?_
     simp[go_sem]
     clear hK K
     refine awp_seq ?_
     rcases ha with ⟨rfl,a0⟩|⟨b1,p1,v1,B1,rfl,g2,g3,g4,g5,g6,g7⟩
     ·rw[a0] at hjn;simp at hjn
     rcases hb with ⟨rfl,b0⟩|⟨b2,p2,v2,B2,rfl,k2,k3,k4,k5,k6,k7⟩
     ·rw[b0] at hjm;simp at hjm
     have x1:=g7 j _ (List.getElem?_eq_getElem hjn)
     have x2:=k7 j _ (List.getElem?_eq_getElem hjm)
     have y1:p1+j < B1.len:=by omega
     have y2:p2+j < B2.len:=by omega
     generalize f.reads[j]=r1 at *
     generalize g.reads[j]=r2 at *
     have hre:rdEq r1 r2=(r1.slot == r2.slot && (r1.imp == r2.imp && (r1.exp == r2.exp && (r1.var == r2.var && r1.flag == r2.flag)))):=rfl
     simp only[rdV] at x1 x2
     refine awp_draw C11ok (by kernel_rfl) [0,1,0,7,15,0,32,0,224,480,1023] [.quiet [0],.quiet [0],.quiet [0],.quiet [0],.quiet [0],.quiet [0],.quiet [0],.quiet [0],.quiet [0],.quiet [0],.quiet [0]] 0 (by kernel_rfl) ?_
     simp[go_sem,ua,ub,g2,g3,g6,k2,k3,k6,x1,x2,y1,y2,hjn,hjm]
     refine awp_live [2,3,57,58,71] ?_
     simp[go_sem]
     rw[show(!(r1.slot == r2.slot) || (!(r1.imp == r2.imp) || (!(r1.exp == r2.exp) || (!(r1.var == r2.var) || !(r1.flag == r2.flag))))) = !(rdEq r1 r2) by simp[rdEq]]
     refine awalk_sound C11ok _ _ _ _ ?_
     cases hb:rdEq r1 r2 with
     |true=>
      rw[hb] at hq
      simp[go_sem,hb]
      refine awalk_sound C11ok _ _ _ _ ?_
      simp[go_sem,hw]
      exact hN (k - 1) _ _ (T2:=[(2,.ptr q1 0 0 0),(3,.ptr q2 0 0 0),(57,.int .i64 f.reads.length),(58,.int .i64 ((j+1:Nat):Int))]) (by omega) ⟨rfl,rfl,rfl,rfl,trivial⟩ ⟨j+1,by omega,rfl,hq,rfl⟩
     |false=>
      rw[hb] at hq
      simp[go_sem,hb]
      refine hX .ret _ _ (by simp) ?_
      exact⟨.inr rfl,_,_,rfl,trivial,by rw[hsm,hq];rfl,hF⟩
    ·rw[hK]
     refine hX (.exit 0) _ _ (by simp) ?_
     show AWp _ _ _ _ _ _ _
     refine awalk_sound C11ok _ _ _ _ ?_
     rw[List.drop_of_length_le hjn] at hq
     simp[go_sem]
     exact⟨.inr rfl,_,_,rfl,trivial,by rw[hsm,hq];rfl,hF⟩
  ·refine⟨.inr rfl,?_⟩
   simp[go_sem,t4]
   exact⟨_,True,⟨rfl,trivial⟩,trivial,by unfold sameF;rw[he];rfl,hF⟩
end Go.Proofs.YtjokedpaidmjoaaGreatDoor.Rf
set_option linter.all false
namespace Go.Proofs.YtjokedpaidmjoaaGreatDoor.Rf
open Go Go.RowKit Go.Proofs.YtjokedpaidmjoaaGreatDoor.Am Go.Proofs.YtjokedpaidmjoaaGreatDoor.Pu Go.Proofs.YtjokedpaidmjoaaGreatDoor
attribute [local go_sem] areg aseq gstep gwant astep apick aop aslice alen aappend aappendS aconvS aconvB unw opTmps opnds tmpsOf aev Am.get ofConst ofConst1 putT strip abin aun initT AThen AIn ws_n ws_r ws_e ws_g aw_seq aw_reg aw_draw aw_cond aw_block aw_skip aw_ret aw_exit aw_goto aw_label aw_loop aw_scope ANoGoto AJ ares oneOr bound asInt fieldOf ldv setSeg AV.cells AV.whole AV.cell tys Ty.agg ty9 ty3 ty2 ty5 ty4 ty89 ty21 ty37 ty46 ty83 ty73 ty81 ty41 ty23 ty25 ty27 ty28 ty48 afill zeroRow litGet litCells adraw awit adchk pchk qchk gchk looks restr tfin Has hat_z hat_s hat_len hat_appL hat_appN hat_appK hat_setS hat_setN set_appL set_appN set_appK box_t bn aD aG aH aI ax aJ row_t bq aK ay aM row_one aN
attribute [local go_sem] aQ bu aR aT aU keepT
attribute [local go_sem] C11_ty C11_fn C11_ext C11_eqt eqs7 leqs ceq Am.fits
attribute [local go_sem] List.set_set
set_option maxRecDepth 10000
theorem s10_ex:bT 18=some spEx:=rfl
def exF:Fi:=⟨⟨#[109,45,49]⟩,1767225600,15,4,1,0,[⟨0,100,0,-5,65⟩,⟨1,120,0,0,65⟩,⟨3,90,10,2,69⟩]⟩
theorem ex_good:pR exT = .good exF:=by kernel_rfl
theorem ex_small:exT.size≤70368744177664:=Nat.le_of_ble_eq_true (by kernel_rfl)
def pVal:POut → Fi × Int × Int × Int
 |.large=>(f0,0,0,9)
 |.bad l c=>(f0,l,c,1)
 |.good f=>(f,0,0,0)
theorem rL_len (cut:Bool) : ∀ (ls:List ByteArray) (i:Int) (f g:Fi) (d:Bool),rL cut ls i f d = .good g → g.reads.length≤f.reads.length+ls.length
 |[],i,f,g,d,h=>by
  unfold rL at h
  split at h
  ·cases h
  ·cases h;omega
 |l :: r,i,f,g,d,h=>by
  unfold rL at h
  split at h
  ·cases h
  ·split at h
   ·cases h
   ·split at h
    ·have h1:=rL_len cut r _ _ g _ h
     have h2:(rLine i (WS l).1 f).2.1.reads.length≤f.reads.length+1:=by
      unfold rLine
      split
      ·exact Nat.le_succ _
      ·split
       ·simp
       ·split <;> exact Nat.le_succ _
     simp only[List.length_cons]
     omega
    ·cases h
theorem pR_len {a:ByteArray} {f:Fi} (h:pR a = .good f):f.reads.length≤1048576:=by
 unfold pR at h
 split at h
 ·cases h
 ·rename_i hl
  have h1:=rL_len _ _ _ _ _ _ h
  have h2:=(dH a (by omega)).1
  have h3:f0.reads.length=0:=rfl
  omega
theorem fP {a:ByteArray} {H H' : Heap} {v:AV} (h:rPost a H v H'):Fr [81] H H'∧∃ vr,v = .tup [.agg (fiV (pVal (pR a)).1 vr),.agg [.int .i64 (pVal (pR a)).2.1,.int .i64 (pVal (pR a)).2.2.1],.int .i64 (pVal (pR a)).2.2.2]∧Rds H' vr (pVal (pR a)).1.reads∧∀ b n v,vr = .sl b 0 n v → H.length≤b:=by
 obtain⟨h1,h2⟩:=h
 refine⟨h1,?_⟩
 cases hp:pR a with
 |large=>rw[hp] at h2;exact⟨.nilsl,h2,.inl ⟨rfl,rfl⟩,fun b n v e=>by cases e⟩
 |bad l c=>rw[hp] at h2;exact⟨.nilsl,h2,.inl ⟨rfl,rfl⟩,fun b n v e=>by cases e⟩
 |good f=>
  rw[hp] at h2
  obtain⟨vr,e,h3,h4⟩:=h2
  exact⟨vr,e,h3,h4⟩
theorem pPost_r {a:ByteArray} {H H' : Heap} {v:AV} (h:pPost a H v H'):rPost a H v H':=by
 unfold pPost at h
 rw[parse_same] at h
 exact h
theorem pVal_len (a:ByteArray):(pVal (pR a)).1.reads.length≤1048576:=by
 cases hp:pR a with
 |large=>exact Nat.zero_le _
 |bad l c=>exact Nat.zero_le _
 |good f=>exact pR_len hp
set_option maxHeartbeats 4000000 in
theorem awake_calls {H:Heap} : ACalls Tryz.prog 9 [] H fun v H'=>v = .bool true∧Fr [81] H H':=by
 refine acalls_ofN (C:=C11) (nt:=Tryz.f9.ntmps) C11ok Tryz.func9 rfl rfl ?_
 refine awp_step C11ok fun K hK=>?_
 simp[go_sem]
 rw[hK,athen_n]
 refine awp_live [] ?_
 simp[go_sem]
 clear hK K
 refine awp_step C11ok fun K hK=>?_
 simp[go_sem]
 refine awp_region (aops_pref C11ok 1 ?_)
 simp[go_sem,s10_ex,spEx]
 refine aops_call rfl rfl rfl rfl Tryz.func11 (by kernel_rfl) (by kernel_rfl) (eH ex_small) ?_
 rintro v G hv
 obtain⟨hF,vr,rfl,hr,_⟩:=fP (pPost_r hv)
 rw[ex_good] at hr ⊢
 obtain⟨b,w,B,rfl,g2,g3,g4,g5,g6,g7,g8⟩ : ∃ b v B,vr = .sl b 0 3 v∧hat G b=some B∧B.ver=v∧B.own=true∧B.len=3∧B.t=41∧B.sz=5∧B.get 2=rdV ⟨3,90,10,2,69⟩:=by
  rcases hr with ⟨_,h0⟩|⟨b,v,B,h1,h2,h3,h4,h5,h6,h7,h8⟩
  ·cases h0
  ·exact⟨b,v,B,h1,h2,h3,h4,h5,h6,h7,h8 2 _ rfl⟩
 refine⟨_,rfl,aops_pref C11ok 9 ?_⟩
 simp only[rdV] at g8
 simp[go_sem,pVal,fiV,exF]
 refine aops_nil ?_
 rw[hK,athen_n]
 refine awp_live [1,2,3] ?_
 simp[go_sem]
 clear hK K
 have lb:=hat_lt g2
 refine awalk_sound C11ok _ _ _ _ ?_
 simp[go_sem,g2,g3,g5,g7,g8,lb]
 refine⟨.inr rfl,?_⟩
 simp[go_sem]
 exact⟨_,True,⟨rfl,trivial⟩,trivial,rfl,hF.trans (Fr.app _ _ _)⟩
end Go.Proofs.YtjokedpaidmjoaaGreatDoor.Rf
