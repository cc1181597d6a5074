/- A part of the proof. -/
import Derived.Test.YtcmhfcciapenfaaDoorQ35
set_option linter.all false
namespace Go.Proofs.YtcmhfcciapenfaaDoor.Pa
open Go Go.RowKit Go.Proofs.YtcmhfcciapenfaaDoorW.PrintWords Am
attribute [local go_sem] areg aseq gstep astep apick aop aslice alen aappend unw opTmps opnds tmpsOf aev Am.get ofConst ofConst1 putT strip abin aun initT AThen AIn ares oneOr bound asInt fieldOf ldv boxBlk setSeg Blk.put AV.cells AV.whole AV.cell tys ty33 ty26 ty41 ty28 ty45 ty29 ty48 ty70 ty49 ty3 ty2 ty4 ty9 ty35 Ty.agg
set_option maxRecDepth 10000
theorem aops_two {C:Ctx} {nt:Nat} {H0:Heap} {ops:Array Oper} {T:Tmps} {H:Heap} {R:APost} {o1 o2:Oper} {r:List Oper} {f1 f2:FuncId} {ys:Array Operand} {t1 t2:Array TypeId} {d1 d2:Nat} (hC:CtxOk C)
  (g1:o1.guard=none) (g2:o2.guard=none) (e1:o1.op = .call { callee:=.value (.func f1),args:=ys,argTypes:=t1 }) (e2:o2.op = .call { callee:=.value (.func f2),args:=#[.tmp d1],argTypes:=t2 }) (hd1:o1.dst=some d1) (hd2:o2.dst=some d2) (l1:d1 < nt) (l2:d2 < nt)
  {F1 F2:Func} (hf1:C.P.funcs[f1]? = some F1) (hn1:(F1.name == "runtime.NumGoroutine")=false) (hb1:F1.body.isNone=false) (hf2:C.P.funcs[f2]? = some F2) (hn2:(F2.name == "runtime.NumGoroutine")=false) (hb2:F2.body.isNone=false) {v:AV} (hv:flatD v=true)
  (h : ∀ φ base W vs,Sim φ H base W → VRels φ H (ys.toList.map (aev T)) vs → Calls C.P f1 vs.toArray W fun e W1=>∃ u,e = .returned u∧Below W.heap.size W W1∧Calls C.P f2 #[u] W1 fun e2 W2=>e2 = .returned (concD v)∧Below W1.heap.size W1 W2)
  (hr:AOps C nt H0 ops R r ((d2,v) :: (d1,.undef) :: T) H):AOps C nt H0 ops R (o1 :: o2 :: r) T H:=by
 intro φ0 φ base W0 W a hx hb hS hT hd
 have hcall : ∀ (o:Oper) (f:FuncId) (zs:Array Operand) (tt:Array TypeId) (F:Func) (b:Act) (w:World),o.op = .call { callee:=.value (.func f),args:=zs,argTypes:=tt } → C.P.funcs[f]? = some F → (F.name == "runtime.NumGoroutine")=false → F.body.isNone=false → (execOp b.eval o).run C.P w = .ok (.enter f (zs.map b.eval)) w:=by
  intro o f zs tt F b w ho hf hn hb
  have hn' : F.name≠ "runtime.NumGoroutine":=by simpa using hn
  have hb' : F.body≠none:=by intro h0;rw[h0] at hb;cases hb
  simp[execOp,ho,resolve,Act.eval,Deferred.ofValue,invoke,callFunc,program,Sem.run,hf,hn',hb']
 refine wpList_plain g1 fun K hK=>?_
 unfold Oper.wp
 rw[hcall o1 f1 ys t1 F1 a W e1 hf1 hn1 hb1]
 show Calls _ _ _ _ _
 have h1:=h φ base W _ hS (evals_rel hT ys.toList)
 have ea:(ys.toList.map a.eval).toArray=ys.map a.eval:=by apply Array.ext';simp
 rw[ea] at h1
 refine h1.mono ?_
 rintro e W1 ⟨u,rfl,hb1',h2⟩
 apply hK
 refine wpList_plain g2 fun K2 hK2=>?_
 unfold Oper.wp
 rw[hcall o2 f2 _ t2 F2 _ W1 e2 hf2 hn2 hb2]
 show Calls _ _ _ _ _
 obtain⟨s1,s2⟩:=Sim.below_heap hS hb1'
 have hT1:TRel φ H nt ((d1,AV.undef) :: T) (a.put o1.dst u).tmps:=by
  rw[hd1]
  exact hT.put l1 trivial
 have hu:(#[Operand.tmp d1].map (a.put o1.dst u).eval)=#[u]:=by
  rw[hd1]
  have:(a.tmps.setIfInBounds d1 u).getD d1 undef=u:=by
   rw[Array.getD_eq_getD_getElem?,Array.getElem?_setIfInBounds_self_of_lt (by rw[hT.1];exact l1)];rfl
  simp[Act.put,Act.eval,this]
 rw[hu]
 refine h2.mono ?_
 rintro e W2 ⟨rfl,hb2'⟩
 apply hK2
 obtain⟨s3,s4⟩:=Sim.below_heap s1 hb2'
 have hT2:TRel φ H nt ((d2,v) :: (d1,AV.undef) :: T) ((a.put o1.dst u).put o2.dst (concD v)).tmps:=by
  rw[hd2]
  exact hT1.put l2 (concD_rel hv)
 refine hr φ0 φ base W0 W2 _ hx ((hb.trans s2).trans s4) s3 hT2 ?_
 rw[hd1,hd2]
 exact hd
end Go.Proofs.YtcmhfcciapenfaaDoor.Pa
