/- A part of the proof. -/
import Derived.Test.YtjokedpaidmjoaaGreatDoorQ38
set_option linter.all false
namespace Go.Proofs.YtjokedpaidmjoaaGreatDoor.Rf
open Go Go.RowKit Go.Proofs.YtjokedpaidmjoaaGreatDoor.Am Go.Proofs.YtjokedpaidmjoaaGreatDoor.Pu Go.Proofs.YtjokedpaidmjoaaGreatDoor
attribute [local go_sem] areg aseq gstep gwant astep apick aop aslice alen aappend aappendS aconvS aconvB unw opTmps opnds tmpsOf aev Am.get ofConst ofConst1 putT strip abin aun initT AThen AIn ws_n ws_r ws_e ws_g aw_seq aw_reg aw_draw aw_cond aw_block aw_skip aw_ret aw_exit aw_goto aw_label aw_loop aw_scope ANoGoto AJ ares oneOr bound asInt fieldOf ldv setSeg AV.cells AV.whole AV.cell tys Ty.agg ty9 ty3 ty2 ty5 ty4 ty89 ty21 ty37 ty46 ty83 ty73 ty81 ty41 ty23 ty25 ty27 ty28 ty48 ty65 ty38 ty67 ty88 afill zeroRow litGet litCells adraw awit adchk pchk qchk gchk looks restr tfin Has hat_z hat_s hat_len hat_appL hat_appN hat_appK hat_setS hat_setN set_appL set_appN set_appK box_t bu aC aD aG aH az aI row_t bv aJ aA aK row_one aM
attribute [local go_sem] aY bi aN aQ aR keepT tysB
attribute [local go_sem] C12_ty C12_fn C12_ext C12_eqt
attribute [local go_sem] List.set_set
set_option maxRecDepth 10000
def dW:Am.Spec:=fun args H=>match args with
 |[.int .i64 n,.int .i64 l,.int .i64 m]=>some (.bool (decide (l≤n) && decide (n≤m)),H,True)
 |_=>none
theorem spWithin_ok:SpecOk Tryz.prog 40 dW:=by
 refine⟨⟨Tryz.f40,Tryz.func40,by kernel_rfl,by kernel_rfl⟩,fun args H v H1 ob h hob=>?_⟩
 unfold dW at h
 split at h
 ·rename_i n l m
  cases h
  refine acalls_ofN (C:=C12) (nt:=Tryz.f40.ntmps) C12ok Tryz.func40 rfl rfl ?_
  refine awalk_sound C12ok _ _ _ _ ?_
  simp[go_sem]
  exact⟨.inr rfl,_,_,rfl,trivial,rfl,rfl⟩
 ·cases h
def spLine:Am.Spec:=fun args H=>match args with
 |[.str first,.sl wb 0 n 0,.ptr b 0 0 0]=>match hat H wb with
  |some B=>some (.tup [],lineH H b first (strsOf B n),cK B n 0∧B.t=9∧B.len=n∧first.size≠0∧∃ base s,Bl base H b s∧base≤H.length∧s.size+first.size+totB (strsOf B n)≤1000000000000)
  |none=>none
 |_=>none
theorem line_calls2 {base:Nat} {H:Heap} {b wb:Nat} {s first:ByteArray} {ws:List ByteArray} (h:Bl base H b s) (hbl:base≤H.length) (hw:Strs H wb ws) (hz:first.size≠0) (hs:s.size+first.size+totB ws≤1000000000000):ACalls Tryz.prog 42 [.str first,.sl wb 0 ws.length 0,.ptr b 0 0 0] H fun v H'=>v = .tup []∧H' = lineH H b first ws:=line_calls h hbl hw hz hs
theorem spLine_ok:SpecOk Tryz.prog 42 spLine:=by
 refine⟨⟨Tryz.f42,Tryz.func42,by kernel_rfl,by kernel_rfl⟩,fun args H v H1 ob h hob=>?_⟩
 unfold spLine at h
 split at h
 ·rename_i first wb n b
  split at h
  ·rename_i B hB
   cases h
   obtain⟨⟨h1,h2,h3,h4,h5⟩,ht,hl,hz,base,s,hb,hbl,hsz⟩:=hob
   have hlen:(strsOf B n).length=n:=by simp[strsOf]
   have hst:Strs H wb (strsOf B n):=⟨B,hB,h1,by rw[hlen];exact hl,ht,h2,fun i hi=>by
    rw[hlen] at hi
    rw[h5 i hi]
    simp[strsOf,hi]⟩
   have:=line_calls2 hb hbl hst hz hsz
   rw[hlen] at this
   exact this
  ·cases h
 ·cases h
noncomputable def bP:FuncId → Option Am.Spec:=fun f=>match f with
 |40=>some dW
 |42=>some spLine
 |f=>specs12 f
noncomputable def C13:Ctx:={ P:=Tryz.prog,ty:=tysB,fn:=bP,ext:=ext7,eqt:=eqs7 }
theorem C13ok:CtxOk C13:=by
 refine⟨tysBOk,fun f s h=>?_,eqs7_ok,dn⟩
 unfold C13 bP at h
 simp only at h
 split at h
 ·cases h;exact spWithin_ok
 ·cases h;exact spLine_ok
 ·exact C12ok.fn _ _ h
theorem C13_ty:C13.ty=tysB:=rfl
theorem C13_fn:C13.fn=bP:=rfl
theorem C13_ext:C13.ext=ext7:=rfl
theorem C13_eqt:C13.eqt=eqs7:=rfl
theorem s13_within:bP 40=some dW:=rfl
theorem s13_line:bP 42=some spLine:=rfl
theorem s13_name:bP 57=some dm:=rfl
theorem s13_step:bP 59=some bV:=rfl
theorem s13_flag:bP 41=some spFlag:=rfl
theorem s13_text:bP 33=some bG:=rfl
attribute [local go_sem] C13_ty C13_fn C13_ext C13_eqt s13_within s13_name s13_step dW dm bV
def hdrOk (f:Fi):Bool:=nameL (Bs f.meter) && stepB f.step && decide (0≤f.start) && decide (f.start≤253402300799) && (f.start.tmod (IntKind.i64.wrap (60 * f.step)) == 0) && decide (1≤f.slots) && decide (f.slots≤40000) && decide (IntKind.i64.wrap (IntKind.i64.wrap (f.start+IntKind.i64.wrap (IntKind.i64.wrap (60 * f.step) * f.slots)) - 1)≤253402300799) && decide (1≤f.mult) && decide (f.mult≤1000) && decide (0≤f.turn) && decide (f.turn≤3)
theorem step_ne {n:Int} (h:stepB n=true) : ¬ IntKind.i64.wrap (60 * n)=0:=by
 unfold stepB at h
 simp at h
 rcases h with (h|h)|h <;> rw[h] <;> decide
set_option maxHeartbeats 4000000 in
theorem header_calls {H:Heap} {f:Fi} {vr:AV} (hc:vr.cell=true) (hm:f.meter.size≤1099511627776):ACalls Tryz.prog 39 [.agg (fiV f vr)] H fun v H'=>v = .bool (hdrOk f)∧H' = H ++ [fiB f vr]:=by
 refine acalls_ofN (C:=C13) (nt:=Tryz.f39.ntmps) C13ok Tryz.func39 rfl rfl ?_
 have cc:=hc
 simp only[AV.cell] at hc
 refine awp_step C13ok fun K hK=>?_
 simp[go_sem,fiV,hc]
 rw[hK,athen_n]
 refine awp_live [1] ?_
 simp[go_sem]
 clear hK K
 refine awalk_sound C13ok _ _ _ _ ?_
 simp[go_sem]
 refine⟨⟨by omega,fun h1 h2 h3 h4=>⟨⟨⟨⟨h1,h2⟩,h3⟩,h4⟩,step_ne h2⟩⟩,.inr rfl,?_⟩
 simp[go_sem]
 exact⟨_,True,⟨rfl,trivial⟩,trivial,rfl,rfl⟩
end Go.Proofs.YtjokedpaidmjoaaGreatDoor.Rf
