/- A part of the proof. -/
import Derived.Test.YtjokedpaidmjoaaGreatDoorQ28
set_option linter.all false
namespace Go.Proofs.YtjokedpaidmjoaaGreatDoor.Rf
open Go Go.RowKit Go.Proofs.YtjokedpaidmjoaaGreatDoor.Am Go.Proofs.YtjokedpaidmjoaaGreatDoor.Pu Go.Proofs.YtjokedpaidmjoaaGreatDoor
attribute [local go_sem] areg aseq gstep gwant astep apick aop aslice alen aappend aappendS aconvS aconvB unw opTmps opnds tmpsOf aev Am.get ofConst ofConst1 putT strip abin aun initT AThen AIn ws_n ws_r ws_e ws_g aw_seq aw_reg aw_draw aw_cond aw_block aw_skip aw_ret aw_exit aw_goto aw_label aw_loop aw_scope ANoGoto AJ ares oneOr bound asInt fieldOf ldv setSeg AV.cells AV.whole AV.cell tys Ty.agg ty9 ty3 ty2 ty5 ty4 ty89 ty21 ty37 ty46 ty83 ty73 ty81 ty41 ty23 ty25 ty27 ty28 ty48 afill zeroRow litGet litCells adraw awit adchk pchk qchk gchk looks restr tfin Has hat_z hat_s hat_len hat_appL hat_appN hat_appK hat_setS hat_setN set_appL set_appN set_appK box_t bn aI aJ aK aM ax aN row_t bq aQ aC aR row_one aT
attribute [local go_sem] aU aZ aD aG aH intB_t fe dP dQ dR
attribute [local go_sem] C8_ty C8_fn C8_ext C8_eqt bC fQ bY dS dI
attribute [local go_sem] List.set_set Am.asInt
set_option maxRecDepth 10000
def spAt:Am.Spec:=fun args H=>match args with
 |[.sl b 0 n v,.int .i64 k]=>match hat H b with
  |some B=>some (.int .i64 ((fP B n).getD k.toNat 0),H ++ [intB (fP B n)],dh B n v∧tot ((strsOf B n).map Bs)≤900000000∧0≤k∧k < (fP B n).length)
  |none=>none
 |_=>none
def spRNum:Am.Spec:=fun args H=>match args with
 |[.sl b 0 n v,.int .i64 k,.int .i64 l,.int .i64 m]=>match hat H b with
  |some B=>some (.tup [.int .i64 (numP (strAt B k.toNat) l m).1,.bool ((numP (strAt B k.toNat) l m).2 == 0)],H,dh B n v∧0≤k∧k < n∧(strAt B k.toNat).size≤1000000000)
  |none=>none
 |_=>none
theorem spAt_ok:SpecOk Tryz.prog 50 spAt:=by
 refine⟨⟨Tryz.f50,Tryz.func50,by kernel_rfl,by kernel_rfl⟩,fun args H v H1 ob h hob=>?_⟩
 unfold spAt at h
 split at h
 ·rename_i b n w k
  split at h
  ·rename_i B hB
   cases h
   obtain⟨h1,h2,h3,h4⟩:=hob
   refine acalls_ofN (C:=C8) (nt:=10) C8ok Tryz.func50 rfl rfl ?_
   refine awalk_sound C8ok _ _ _ _ ?_
   have hk:k.toNat < (fP B n).length:=by omega
   simp[go_sem,hB,h1,h2,h3,h4,hk]
   exact⟨.inr rfl,_,_,rfl,trivial,rfl,rfl⟩
  ·cases h
 ·cases h
theorem spRNum_ok:SpecOk Tryz.prog 51 spRNum:=by
 refine⟨⟨Tryz.f51,Tryz.func51,by kernel_rfl,by kernel_rfl⟩,fun args H v H1 ob h hob=>?_⟩
 unfold spRNum at h
 split at h
 ·rename_i b n w k l m
  split at h
  ·rename_i B hB
   cases h
   obtain⟨⟨q1,q2,q3,q4,q5⟩,h2,h3,h4⟩:=hob
   refine acalls_ofN (C:=C8) (nt:=25) C8ok Tryz.func51 rfl rfl ?_
   refine awalk_sound C8ok _ _ _ _ ?_
   have g:=q5 k.toNat (by omega)
   have hk:k.toNat < B.len:=by omega
   simp[go_sem,hB,q1,q2,g,h2,h3,h4,hk]
   exact⟨.inr rfl,_,_,rfl,trivial,rfl,rfl⟩
  ·cases h
 ·cases h
end Go.Proofs.YtjokedpaidmjoaaGreatDoor.Rf
set_option linter.all false
namespace Go.Proofs.YtjokedpaidmjoaaGreatDoor.Rf
open Go Go.RowKit Go.Proofs.YtjokedpaidmjoaaGreatDoor.Am Go.Proofs.YtjokedpaidmjoaaGreatDoor.Pu Go.Proofs.YtjokedpaidmjoaaGreatDoor
noncomputable def fB:FuncId → Option Am.Spec:=fun f=>match f with
 |50=>some spAt
 |51=>some spRNum
 |f=>bC f
noncomputable def C9:Ctx:={ P:=Tryz.prog,ty:=tys,fn:=fB,ext:=ext7 }
theorem C9ok:CtxOk C9:=by
 refine⟨tysOk,fun f s h=>?_,fun t K h=>(by cases h),dA⟩
 unfold C9 fB at h
 simp only at h
 split at h
 ·cases h;exact spAt_ok
 ·cases h;exact spRNum_ok
 ·exact C8ok.fn _ _ h
theorem C9_ty:C9.ty=tys:=rfl
theorem C9_fn:C9.fn=fB:=rfl
theorem C9_ext:C9.ext=ext7:=rfl
theorem C9_eqt:C9.eqt=fun _=>none:=rfl
theorem s9_at:fB 50=some spAt:=rfl
theorem s9_num:fB 51=some spRNum:=rfl
theorem s9_step:fB 52=some bX:=rfl
theorem s9_name:fB 49=some dz:=rfl
attribute [local go_sem] areg aseq gstep gwant astep apick aop aslice alen aappend aappendS aconvS aconvB unw opTmps opnds tmpsOf aev Am.get ofConst ofConst1 putT strip abin aun initT AThen AIn ws_n ws_r ws_e ws_g aw_seq aw_reg aw_draw aw_cond aw_block aw_skip aw_ret aw_exit aw_goto aw_label aw_loop aw_scope ANoGoto AJ ares oneOr bound asInt fieldOf ldv setSeg AV.cells AV.whole AV.cell tys Ty.agg ty9 ty3 ty2 ty5 ty4 ty89 ty21 ty37 ty46 ty83 ty73 ty81 ty41 ty23 ty25 ty27 ty28 ty48 afill zeroRow litGet litCells adraw awit adchk pchk qchk gchk looks restr tfin Has hat_z hat_s hat_len hat_appL hat_appN hat_appK hat_setS hat_setN set_appL set_appN set_appK box_t bn aI aJ aK aM ax aN row_t bq aQ aC aR row_one aT
attribute [local go_sem] aU aZ aD aG aH intB_t fe dP dQ dR
attribute [local go_sem] C9_ty C9_fn C9_ext C9_eqt s9_at s9_num s9_step s9_name bX dz
attribute [local go_sem] List.set_set
set_option maxRecDepth 10000
def wAt (ws:List ByteArray) (k:Nat):ByteArray:=ws[k]?.getD ⟨#[]⟩
def rNum (ws:List ByteArray) (k:Nat) (l m:Int):Int × Bool:=((numP (wAt ws k) l m).1,(numP (wAt ws k) l m).2 == 0)
def rStep (ws:List ByteArray):=rNum ws 3 15 60
def eQ (ws:List ByteArray):=rNum ws 2 0 253402300799
def dU (ws:List ByteArray):=rNum ws 4 1 40000
def rMult (ws:List ByteArray):=rNum ws 5 1 1000
def rTurn (ws:List ByteArray):=rNum ws 6 0 3
def rFine (ws:List ByteArray):Bool:=(rStep ws).2 && stepB (rStep ws).1
def rC2 (ws:List ByteArray):Bool:=!(eQ ws).2 || (rFine ws && !((eQ ws).1.tmod (IntKind.i64.wrap (60 * (rStep ws).1)) == 0))
def rC4 (ws:List ByteArray):Bool:=!(dU ws).2 || decide (253402300799 < IntKind.i64.wrap (IntKind.i64.wrap ((eQ ws).1+IntKind.i64.wrap (IntKind.i64.wrap (60 * (rStep ws).1) * (dU ws).1)) - 1))
def rhCol (ws:List ByteArray):Int:=
 if nameL (Bs (wAt ws 1))=false then colP ws 1
 else if rC2 ws=true then colP ws 2
 else if rFine ws=false then colP ws 3
 else if rC4 ws=true then colP ws 4
 else if (rMult ws).2=false then colP ws 5
 else if (rTurn ws).2=false then colP ws 6
 else 0
def rhF (ws:List ByteArray) (f:Fi):Fi:={ f with meter:=wAt ws 1,start:=(eQ ws).1,step:=(rStep ws).1,slots:=(dU ws).1,mult:=(rMult ws).1,turn:=(rTurn ws).1 }
theorem cf_ge (l:List (List UInt8)) : ∀ n x,x∈cf n l → n≤x:=by
 induction l with
 |nil=>intro n x h;simp[cf] at h
 |cons w r ih=>
  intro n x h
  simp only[cf,List.mem_cons] at h
  rcases h with rfl|h
  ·omega
  ·have:=ih _ _ h;omega
theorem fC {ws:List ByteArray} {k:Int} (h0:0≤k) (h1:k < ws.length):1≤colP ws k:=by
 unfold colP
 have hl:k.toNat < (cf 1 (ws.map Bs)).length:=by rw[fO];omega
 rw[List.getD_eq_getElem?_getD,List.getElem?_eq_getElem hl]
 exact cf_ge _ _ _ (List.getElem_mem hl)
end Go.Proofs.YtjokedpaidmjoaaGreatDoor.Rf
set_option linter.all false
namespace Go.Proofs.YtjokedpaidmjoaaGreatDoor.Rf
open Go Go.RowKit Go.Proofs.YtjokedpaidmjoaaGreatDoor.Am Go.Proofs.YtjokedpaidmjoaaGreatDoor.Pu Go.Proofs.YtjokedpaidmjoaaGreatDoor
attribute [local go_sem] areg aseq gstep gwant astep apick aop aslice alen aappend aappendS aconvS aconvB unw opTmps opnds tmpsOf aev Am.get ofConst ofConst1 putT strip abin aun initT AThen AIn ws_n ws_r ws_e ws_g aw_seq aw_reg aw_draw aw_cond aw_block aw_skip aw_ret aw_exit aw_goto aw_label aw_loop aw_scope ANoGoto AJ ares oneOr bound asInt fieldOf ldv setSeg AV.cells AV.whole AV.cell tys Ty.agg ty9 ty3 ty2 ty5 ty4 ty89 ty21 ty37 ty46 ty83 ty73 ty81 ty41 ty23 ty25 ty27 ty28 ty48 afill zeroRow litGet litCells adraw awit adchk pchk qchk gchk looks restr tfin Has hat_z hat_s hat_len hat_appL hat_appN hat_appK hat_setS hat_setN set_appL set_appN set_appK box_t bn aI aJ aK aM ax aN row_t bq aQ aC aR row_one aT
attribute [local go_sem] aU aZ aD aG aH intB_t fe dP dQ dR
attribute [local go_sem] C9_ty C9_fn C9_ext C9_eqt s9_at s9_num s9_step s9_name bX dz
attribute [local go_sem] List.set_set
set_option maxRecDepth 10000
def rqSlot (ws:List ByteArray) (sl:Int):=rNum ws 1 0 (IntKind.i64.wrap (sl - 1))
def rqIn (ws:List ByteArray):=rNum ws 2 0 10000000
def rqOut (ws:List ByteArray):=rNum ws 3 0 10000000
def rqVar (ws:List ByteArray):=rNum ws 4 (-10000000) 10000000
def rrCol (ws:List ByteArray) (sl:Int):Int:=
 if (rqSlot ws sl).2=false then colP ws 1
 else if (rqIn ws).2=false then colP ws 2
 else if (rqOut ws).2=false then colP ws 3
 else if (rqVar ws).2=false then colP ws 4
 else if flagB (wAt ws 5)=false then colP ws 5
 else 0
def rrR (ws:List ByteArray) (sl:Int):Rd:=⟨(rqSlot ws sl).1,(rqIn ws).1,(rqOut ws).1,(rqVar ws).1,byteAt (wAt ws 5) 0⟩
end Go.Proofs.YtjokedpaidmjoaaGreatDoor.Rf
