/- A part of the proof. -/
import Derived.Test.YtcmhfcciapenfaaDoorQ35
import Derived.Test.YtcmhfcciapenfaaDoorQ37
set_option linter.all false
namespace Go.Proofs.YtcmhfcciapenfaaDoor.Pa
open Go Go.RowKit Go.Proofs.YtcmhfcciapenfaaDoorW.PrintWords Am
attribute [local go_sem] areg aseq gstep astep apick aop aslice alen aappend unw opTmps opnds tmpsOf aev Am.get ofConst ofConst1 putT strip abin aun initT AThen AIn ares oneOr bound asInt fieldOf ldv boxBlk setSeg Blk.put AV.cells AV.whole AV.cell tys ty33 ty26 ty41 ty28 ty45 ty29 ty48 ty70 ty49 ty3 ty2 ty4 ty9 ty35 Ty.agg ty27 ty43 ty46 ty25 ty23 ty31 afill zeroRow newRowBlk litGet appBlk litCells
attribute [local go_sem] adraw awit adchk pchk qchk gchk looks restr tfin leqs ceq fits eqs9
attribute [local go_sem] seaV holV winV stpV Has hget hget0 hat_z hat_s
set_option maxRecDepth 10000
def RowB {α:Type} (H:Heap) (sz:Nat) (E:α → List AV → Prop) (l:List α) (s:AV):Prop:=∃ b B,s = .sl b 0 l.length B.ver∧H[b]? = some B∧l.length≤B.len∧B.sz=sz∧∀ i x,l[i]? = some x → E x (B.get i)
theorem dI {H:Heap} {b:Nat} {B:Blk} (h:H[b]? = some B) (X:Heap):hat (H ++ X) b=some B:=by
 unfold hat
 rw[List.getElem?_append_left (List.getElem?_eq_some_iff.1 h).1,h]
theorem RowB.app {α:Type} {H:Heap} {sz:Nat} {E:α → List AV → Prop} {l:List α} {s:AV} (h:RowB H sz E l s) (X:Heap):RowB (H ++ X) sz E l s:=by
 obtain⟨b,B,h1,h2,h3⟩:=h
 exact⟨b,B,h1,dI h2 X,h3⟩
theorem RowB.rowIn {α:Type} {H:Heap} {sz:Nat} {E:α → List AV → Prop} {l:List α} {s:AV} (h:RowB H sz E l s):RowIn H sz E l s:=by
 obtain⟨b,B,h1,h2,h3,h4,h5⟩:=h
 exact .inr ⟨b,B.ver,B,h1,h2,rfl,h3,h4,h5⟩
noncomputable def C35:Ctx:={ P:=Tryd.prog,ty:=tys,fn:=fun _=>none,eqt:=eqs9 }
theorem C35ok:CtxOk C35:=⟨tysOk,fun _ _ h=>(by cases h),eqs9_ok⟩
theorem C35_ty:C35.ty=tys:=rfl
theorem C35_eqt:C35.eqt=eqs9:=rfl
theorem C35_fn:C35.fn=fun _=>none:=rfl
section
attribute [local go_sem] C35_ty C35_eqt C35_fn
theorem steps_calls {l:List S70} {H:Heap} {s s' : AV} (h1:RowB H 2 stpE l s) (h2:RowB H 2 stpE l s') (hl:l.length≤9223372036854775807):ACalls Tryd.prog 35 [s,s'] H fun v H'=>v = .bool true∧H' = H:=by
 obtain⟨b,B,rfl,hB,hn,hsz,hE⟩:=h1
 obtain⟨b',B',rfl,hB',hn',hsz',hE'⟩:=h2
 have gB:hat H b=some B:=hB
 have gB' : hat H b' = some B':=hB'
 refine acalls_of (C:=C35) (nt:=26) C35ok Tryd.func35 rfl rfl fun hclo=>?_
 refine awp_seq (awp_reg C35ok ?_)
 simp[go_sem]
 refine awp_seq (awp_seq (awp_reg C35ok ?_))
 simp[go_sem,gB,gB']
 refine awp_cond (b:=false) (by simp[go_sem]) (fun h=>by cases h) fun _=>awp_skip ?_
 simp[go_sem]
 refine awp_seq (awp_seq (awp_reg C35ok ?_))
 simp[go_sem,gB,gB']
 refine awp_block (awp_loopW (fun k T H'=>∃ j:Nat,k+j=l.length∧H' = H∧T = [(13,.int .i64 j),(12,.int .i64 l.length),(1,.sl b' 0 l.length B'.ver),(0,.sl b 0 l.length B.ver)]) l.length _ _ ⟨?_,.inl rfl⟩ ⟨0,by omega,rfl,rfl⟩ ?_)
 ·simp[go_sem]
 rintro k T H' ⟨j,hj,rfl,rfl⟩
 refine awp_seq (awp_reg C35ok ?_)
 simp[go_sem]
 refine awp_seq (awp_cond (b:=decide (j < l.length)) (by simp[go_sem]) (fun h=>awp_skip ?_) fun h=>awp_exit ?_)
 ·have h:j < l.length:=by simpa using h
  have hw1:IntKind.i64.wrap ((j:Int)+1)=(j:Int)+1:=bR (by omega) (by omega)
  obtain⟨x,hx⟩ : ∃ x,l[j]? = some x:=⟨_,List.getElem?_eq_getElem h⟩
  have e1:B.get j=stpV x:=hE j x hx
  have e2:B'.get j=stpV x:=hE' j x hx
  simp only[stpV] at e1 e2
  simp[go_sem]
  refine awp_seq (awp_block (awp_seq (awp_reg C35ok ?_)))
  simp[go_sem]
  refine awp_seq (awp_draw C35ok (by kernel_rfl) [0,0,3,7,0,0,48,112,255] [.quiet [0],.quiet [0],.quiet [0],.quiet [0],.quiet [0],.quiet [0],.quiet [0],.quiet [0],.quiet [0]] 0 (by kernel_rfl) ?_)
  simp[go_sem,gB,gB',e1,e2,h,hsz,hsz']
  refine⟨⟨by omega,by omega⟩,?_⟩
  refine awp_cond (b:=false) (by simp[go_sem]) (fun h=>by cases h) fun _=>awp_skip ?_
  simp[go_sem]
  refine awp_reg C35ok ?_
  simp[go_sem]
  refine⟨k - 1,by omega,_,_,⟨?_,.inl rfl⟩,j+1,by omega,rfl,rfl⟩
  simp[go_sem,hw1]
 simp[go_sem]
 refine awp_seq (awp_reg C35ok ?_)
 simp[go_sem]
 refine awp_ret ⟨.inr rfl,_,_,rfl,trivial,H',[],(List.append_nil _).symm,Nat.le_refl _,hclo,trivial,?_⟩
 simp[go_sem]
end
def StepsOb (a b:AV) (H:Heap):Prop:=∃ l,RowB H 2 stpE l a∧RowB H 2 stpE l b∧l.length≤9223372036854775807
noncomputable def specs14:FuncId → Option Am.Spec:=fun f=>match f with
 |35=>some fun args H=>match args with
  |[a,b]=>some (.bool true,H,StepsOb a b H)
  |_=>none
 |_=>none
noncomputable def C14:Ctx:={ P:=Tryd.prog,ty:=tys,fn:=specs14,eqt:=eqs9 }
theorem C14ok:CtxOk C14:=by
 refine⟨tysOk,fun f s h=>?_,eqs9_ok⟩
 unfold C14 specs14 at h
 simp only at h
 split at h
 ·cases h
  refine⟨⟨Tryd.f35,Tryd.func35,by kernel_rfl,by kernel_rfl⟩,fun args H v H1 ob h hob=>?_⟩
  dsimp only at h
  split at h
  ·cases h
   obtain⟨l,h1,h2,h3⟩:=hob
   exact steps_calls h1 h2 h3
  ·cases h
 ·cases h
theorem C14_ty:C14.ty=tys:=rfl
theorem C14_eqt:C14.eqt=eqs9:=rfl
theorem C14_fn:C14.fn=specs14:=rfl
def blkB (H:Heap) (x:S48) (c:List AV):Prop:=∃ s,c = [.str x.f0,s]∧RowB H 2 stpE x.f1 s
structure RepB (t:Tar) (H:Heap) (s15 s16 s17 s18:AV):Prop where
 r15:RowB H 3 seaE t.f15 s15
 r16:RowB H 4 holE t.f16 s16
 r17:RowB H 5 winE t.f17 s17
 r18:RowB H 2 (blkB H) t.f18 s18
theorem RepB.rep {t:Tar} {H:Heap} {s15 s16 s17 s18:AV} (h:RepB t H s15 s16 s17 s18):RepT t H s15 s16 s17 s18:=by
 refine⟨h.r15.rowIn,h.r16.rowIn,h.r17.rowIn,?_⟩
 obtain⟨b,B,h1,h2,h3,h4,h5⟩:=h.r18
 refine .inr ⟨b,B.ver,B,h1,h2,rfl,h3,h4,fun i x hx=>?_⟩
 obtain⟨s,e,r⟩:=h5 i x hx
 exact⟨s,e,r.rowIn⟩
section
attribute [local go_sem] C14_ty C14_eqt C14_fn specs14 repV
theorem same_calls {t:Tar} {H:Heap} {a15 a16 a17 a18 d15 d16 d17 d18:AV} (ha:RepB t H a15 a16 a17 a18) (hb:RepB t H d15 d16 d17 d18) (hl:TarLen t):ACalls Tryd.prog 14 [.agg (repV t a15 a16 a17 a18),.agg (repV t d15 d16 d17 d18)] H fun v H'=>v = .bool true∧H' = H:=by
 obtain⟨P15,P16,P17,P18⟩:=ha
 obtain⟨Q15,Q16,Q17,Q18⟩:=hb
 obtain⟨b15,B15,rfl,hB15,hn15,hz15,hE15⟩:=P15
 obtain⟨c15,D15,rfl,hD15,hm15,hy15,hF15⟩:=Q15
 obtain⟨b16,B16,rfl,hB16,hn16,hz16,hE16⟩:=P16
 obtain⟨c16,D16,rfl,hD16,hm16,hy16,hF16⟩:=Q16
 obtain⟨b17,B17,rfl,hB17,hn17,hz17,hE17⟩:=P17
 obtain⟨c17,D17,rfl,hD17,hm17,hy17,hF17⟩:=Q17
 obtain⟨b18,B18,rfl,hB18,hn18,hz18,hE18⟩:=P18
 obtain⟨c18,D18,rfl,hD18,hm18,hy18,hF18⟩:=Q18
 have gB15:=dI hB15
 have gD15:=dI hD15
 have gB16:=dI hB16
 have gD16:=dI hD16
 have gB17:=dI hB17
 have gD17:=dI hD17
 have gB18:=dI hB18
 have gD18:=dI hD18
 have l15:=hl.l15
 have l16:=hl.l16
 have l17:=hl.l17
 have l18:=hl.l18
 refine acalls_of (C:=C14) (nt:=215) C14ok Tryd.func14 rfl rfl fun hclo=>?_
 refine awp_seq (awp_reg C14ok ?_)
 simp[go_sem,repV]
 refine awp_seq (awp_seq (awp_reg C14ok ?_))
 simp[go_sem]
 refine awp_cond (b:=false) (by simp[go_sem]) (fun h=>by cases h) fun _=>awp_skip ?_
 simp[go_sem]
 refine awp_seq (awp_seq (awp_reg C14ok ?_))
 simp[go_sem,gB15,gD15,gB16,gD16,gB17,gD17,gB18,gD18]
 refine awp_cond (b:=false) (by simp[go_sem]) (fun h=>by cases h) fun _=>awp_skip ?_
 simp[go_sem]
 refine awp_seq (awp_seq (awp_reg C14ok ?_))
 simp[go_sem,gB15,gD15]
 refine awp_block (awp_loopW (fun k T H'=>∃ j:Nat,k+j=t.f15.length∧H' = H ++ [boxBlk 33 28 (repV t (.sl b15 0 t.f15.length B15.ver) (.sl b16 0 t.f16.length B16.ver) (.sl b17 0 t.f17.length B17.ver) (.sl b18 0 t.f18.length B18.ver)),boxBlk 33 28 (repV t (.sl c15 0 t.f15.length D15.ver) (.sl c16 0 t.f16.length D16.ver) (.sl c17 0 t.f17.length D17.ver) (.sl c18 0 t.f18.length D18.ver))]∧T = [(128,.int .i64 j),(127,.int .i64 t.f15.length),(3,.ptr (H.length+1) 0 0 0),(2,.ptr H.length 0 0 0)]) t.f15.length _ _ ⟨?_,.inl rfl⟩ ⟨0,by omega,rfl,rfl⟩ ?_)
 ·simp[go_sem]
 rintro k T H' ⟨j,hj,rfl,rfl⟩
 refine awp_seq (awp_reg C14ok ?_)
 simp[go_sem]
 refine awp_seq (awp_cond (b:=decide (j < t.f15.length)) (by simp[go_sem]) (fun h=>awp_skip ?_) fun h=>awp_exit ?_)
 ·have h:j < t.f15.length:=by simpa using h
  have hw1:IntKind.i64.wrap ((j:Int)+1)=(j:Int)+1:=bR (by omega) (by omega)
  obtain⟨x,hx⟩ : ∃ x,t.f15[j]? = some x:=⟨_,List.getElem?_eq_getElem h⟩
  have e1:B15.get j=seaV x:=hE15 j x hx
  have e2:D15.get j=seaV x:=hF15 j x hx
  simp only[seaV] at e1 e2
  simp[go_sem]
  refine awp_seq (awp_block (awp_seq (awp_reg C14ok ?_)))
  simp[go_sem]
  refine awp_seq (awp_draw C14ok (by kernel_rfl) [0,1,0,7,15,0,32,0,224,480,1023] [.quiet [0],.quiet [0],.quiet [0],.quiet [0],.quiet [0],.quiet [0],.quiet [0],.quiet [0],.quiet [0],.quiet [0],.quiet [0]] 0 (by kernel_rfl) ?_)
  simp[go_sem,gB15,gD15,e1,e2,h,hz15,hy15,repV]
  refine⟨⟨by omega,by omega⟩,?_⟩
  refine awp_cond (b:=false) (by simp[go_sem]) (fun h=>by cases h) fun _=>awp_skip ?_
  simp[go_sem]
  refine awp_reg C14ok ?_
  simp[go_sem]
  refine⟨k - 1,by omega,_,_,⟨?_,.inl rfl⟩,j+1,by omega,?_,rfl⟩
  ·simp[go_sem,hw1]
  ·simp[go_sem,repV]
 simp[go_sem]
 refine awp_seq (awp_seq (awp_reg C14ok ?_))
 simp[go_sem,gB16,gD16]
 refine awp_block (awp_loopW (fun k T H'=>∃ j:Nat,k+j=t.f16.length∧H' = H ++ [boxBlk 33 28 (repV t (.sl b15 0 t.f15.length B15.ver) (.sl b16 0 t.f16.length B16.ver) (.sl b17 0 t.f17.length B17.ver) (.sl b18 0 t.f18.length B18.ver)),boxBlk 33 28 (repV t (.sl c15 0 t.f15.length D15.ver) (.sl c16 0 t.f16.length D16.ver) (.sl c17 0 t.f17.length D17.ver) (.sl c18 0 t.f18.length D18.ver))]∧T = [(146,.int .i64 j),(145,.int .i64 t.f16.length),(3,.ptr (H.length+1) 0 0 0),(2,.ptr H.length 0 0 0)]) t.f16.length _ _ ⟨?_,.inl rfl⟩ ⟨0,by omega,rfl,rfl⟩ ?_)
 ·simp[go_sem]
 rintro k T H' ⟨j,hj,rfl,rfl⟩
 refine awp_seq (awp_reg C14ok ?_)
 simp[go_sem]
 refine awp_seq (awp_cond (b:=decide (j < t.f16.length)) (by simp[go_sem]) (fun h=>awp_skip ?_) fun h=>awp_exit ?_)
 ·have h:j < t.f16.length:=by simpa using h
  have hw1:IntKind.i64.wrap ((j:Int)+1)=(j:Int)+1:=bR (by omega) (by omega)
  obtain⟨x,hx⟩ : ∃ x,t.f16[j]? = some x:=⟨_,List.getElem?_eq_getElem h⟩
  have e1:B16.get j=holV x:=hE16 j x hx
  have e2:D16.get j=holV x:=hF16 j x hx
  simp only[holV] at e1 e2
  simp[go_sem]
  refine awp_seq (awp_block (awp_seq (awp_reg C14ok ?_)))
  simp[go_sem]
  refine awp_seq (awp_draw C14ok (by kernel_rfl) [0,1,0,7,15,0,32,0,224,480,1023] [.quiet [0],.quiet [0],.quiet [0],.quiet [0],.quiet [0],.quiet [0],.quiet [0],.quiet [0],.quiet [0],.quiet [0],.quiet [0]] 0 (by kernel_rfl) ?_)
  simp[go_sem,gB16,gD16,e1,e2,h,hz16,hy16,repV]
  refine⟨⟨by omega,by omega⟩,?_⟩
  refine awp_cond (b:=false) (by simp[go_sem]) (fun h=>by cases h) fun _=>awp_skip ?_
  simp[go_sem]
  refine awp_reg C14ok ?_
  simp[go_sem]
  refine⟨k - 1,by omega,_,_,⟨?_,.inl rfl⟩,j+1,by omega,?_,rfl⟩
  ·simp[go_sem,hw1]
  ·simp[go_sem,repV]
 simp[go_sem]
 refine awp_seq (awp_seq (awp_reg C14ok ?_))
 simp[go_sem,gB17,gD17]
 refine awp_block (awp_loopW (fun k T H'=>∃ j:Nat,k+j=t.f17.length∧H' = H ++ [boxBlk 33 28 (repV t (.sl b15 0 t.f15.length B15.ver) (.sl b16 0 t.f16.length B16.ver) (.sl b17 0 t.f17.length B17.ver) (.sl b18 0 t.f18.length B18.ver)),boxBlk 33 28 (repV t (.sl c15 0 t.f15.length D15.ver) (.sl c16 0 t.f16.length D16.ver) (.sl c17 0 t.f17.length D17.ver) (.sl c18 0 t.f18.length D18.ver))]∧T = [(164,.int .i64 j),(163,.int .i64 t.f17.length),(3,.ptr (H.length+1) 0 0 0),(2,.ptr H.length 0 0 0)]) t.f17.length _ _ ⟨?_,.inl rfl⟩ ⟨0,by omega,rfl,rfl⟩ ?_)
 ·simp[go_sem]
 rintro k T H' ⟨j,hj,rfl,rfl⟩
 refine awp_seq (awp_reg C14ok ?_)
 simp[go_sem]
 refine awp_seq (awp_cond (b:=decide (j < t.f17.length)) (by simp[go_sem]) (fun h=>awp_skip ?_) fun h=>awp_exit ?_)
 ·have h:j < t.f17.length:=by simpa using h
  have hw1:IntKind.i64.wrap ((j:Int)+1)=(j:Int)+1:=bR (by omega) (by omega)
  obtain⟨x,hx⟩ : ∃ x,t.f17[j]? = some x:=⟨_,List.getElem?_eq_getElem h⟩
  have e1:B17.get j=winV x:=hE17 j x hx
  have e2:D17.get j=winV x:=hF17 j x hx
  simp only[winV] at e1 e2
  simp[go_sem]
  refine awp_seq (awp_block (awp_seq (awp_reg C14ok ?_)))
  simp[go_sem]
  refine awp_seq (awp_draw C14ok (by kernel_rfl) [0,1,0,7,15,0,32,0,224,480,1023] [.quiet [0],.quiet [0],.quiet [0],.quiet [0],.quiet [0],.quiet [0],.quiet [0],.quiet [0],.quiet [0],.quiet [0],.quiet [0]] 0 (by kernel_rfl) ?_)
  simp[go_sem,gB17,gD17,e1,e2,h,hz17,hy17,repV]
  refine⟨⟨by omega,by omega⟩,?_⟩
  refine awp_cond (b:=false) (by simp[go_sem]) (fun h=>by cases h) fun _=>awp_skip ?_
  simp[go_sem]
  refine awp_reg C14ok ?_
  simp[go_sem]
  refine⟨k - 1,by omega,_,_,⟨?_,.inl rfl⟩,j+1,by omega,?_,rfl⟩
  ·simp[go_sem,hw1]
  ·simp[go_sem,repV]
 simp[go_sem]
 refine awp_seq (awp_seq (awp_reg C14ok ?_))
 simp[go_sem,gB18,gD18]
 refine awp_block (awp_loopW (fun k T H'=>∃ j:Nat,k+j=t.f18.length∧H' = H ++ [boxBlk 33 28 (repV t (.sl b15 0 t.f15.length B15.ver) (.sl b16 0 t.f16.length B16.ver) (.sl b17 0 t.f17.length B17.ver) (.sl b18 0 t.f18.length B18.ver)),boxBlk 33 28 (repV t (.sl c15 0 t.f15.length D15.ver) (.sl c16 0 t.f16.length D16.ver) (.sl c17 0 t.f17.length D17.ver) (.sl c18 0 t.f18.length D18.ver))]∧T = [(182,.int .i64 j),(181,.int .i64 t.f18.length),(3,.ptr (H.length+1) 0 0 0),(2,.ptr H.length 0 0 0)]) t.f18.length _ _ ⟨?_,.inl rfl⟩ ⟨0,by omega,rfl,rfl⟩ ?_)
 ·simp[go_sem]
 rintro k T H' ⟨j,hj,rfl,rfl⟩
 refine awp_seq (awp_reg C14ok ?_)
 simp[go_sem]
 refine awp_seq (awp_cond (b:=decide (j < t.f18.length)) (by simp[go_sem]) (fun h=>awp_skip ?_) fun h=>awp_exit ?_)
 ·have h:j < t.f18.length:=by simpa using h
  have hw1:IntKind.i64.wrap ((j:Int)+1)=(j:Int)+1:=bR (by omega) (by omega)
  obtain⟨x,hx⟩ : ∃ x,t.f18[j]? = some x:=⟨_,List.getElem?_eq_getElem h⟩
  obtain⟨p1,e1,r1⟩:=hE18 j x hx
  obtain⟨p2,e2,r2⟩:=hF18 j x hx
  have hso : ∀ X,StepsOb p1 p2 (H ++ X):=fun X=>⟨x.f1,r1.app X,r2.app X,hl.ls x (List.mem_of_getElem? hx)⟩
  have hc1:AV.cell p1=true:=by obtain⟨_,_,rfl,_⟩:=r1;rfl
  have hc2:AV.cell p2=true:=by obtain⟨_,_,rfl,_⟩:=r2;rfl
  simp[go_sem]
  refine awp_seq (awp_block (awp_seq (awp_reg C14ok ?_)))
  simp[go_sem]
  refine awp_seq (awp_draw C14ok (by kernel_rfl) [0,1,0,7,15,31,0,64,0,448,960,1984,4095,8191,16383,32767,16383,131071,262143,524287,16383,1064959,16383,7356415,15745023,32522239,67108863,134217727,268435455] [.quiet [0],.quiet [0],.quiet [0],.quiet [0],.quiet [0],.quiet [0],.quiet [0],.quiet [0],.quiet [0],.quiet [0],.quiet [0],.quiet [0],.quiet [0],.quiet [0],.quiet [0],.quiet [0],.quiet [0],.quiet [0],.quiet [0],.quiet [0],.quiet [0],.quiet [0],.quiet [0],.quiet [0],.quiet [0],.quiet [0],.quiet [0],.quiet [0],.quiet [0]] 0 (by kernel_rfl) ?_)
  obtain⟨x1,X1,rfl,rx1⟩:=r1
  obtain⟨x2,X2,rfl,rx2⟩:=r2
  simp[go_sem,gB18,gD18,e1,e2,h,hz18,hy18,repV,hso]
  refine⟨⟨by omega,by omega⟩,?_⟩
  refine awp_cond (b:=false) (by simp[go_sem]) (fun h=>by cases h) fun _=>awp_skip ?_
  simp[go_sem]
  refine awp_reg C14ok ?_
  simp[go_sem]
  refine⟨k - 1,by omega,_,_,⟨?_,.inl rfl⟩,j+1,by omega,?_,rfl⟩
  ·simp[go_sem,hw1]
  ·simp[go_sem,repV]
 simp[go_sem]
 refine awp_seq (awp_reg C14ok ?_)
 simp[go_sem]
 refine awp_ret ⟨.inr rfl,_,_,rfl,trivial,H,_,rfl,Nat.le_refl _,hclo,trivial,?_⟩
 simp[go_sem]
end
end Go.Proofs.YtcmhfcciapenfaaDoor.Pa
