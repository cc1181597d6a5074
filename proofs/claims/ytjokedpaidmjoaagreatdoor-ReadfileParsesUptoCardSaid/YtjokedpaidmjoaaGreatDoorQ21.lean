/- A part of the proof. -/
import Derived.Test.YtjokedpaidmjoaaGreatDoorQ20
set_option linter.all false
namespace Go.Proofs.YtjokedpaidmjoaaGreatDoor.Rf
open Go Go.RowKit Go.Proofs.YtjokedpaidmjoaaGreatDoor.Am Go.Proofs.YtjokedpaidmjoaaGreatDoor.Pu Go.Proofs.YtjokedpaidmjoaaGreatDoor
attribute [local go_sem] areg aseq gstep gwant astep apick aop aslice alen aappend unw opTmps opnds tmpsOf aev Am.get ofConst ofConst1 putT strip abin aun initT AThen AIn ws_n ws_r ws_e ws_g aw_seq aw_reg aw_draw aw_cond aw_block aw_skip aw_ret aw_exit aw_goto aw_label aw_loop aw_scope ANoGoto AJ ares oneOr bound asInt fieldOf ldv setSeg AV.cells AV.whole AV.cell tys Ty.agg ty9 ty3 ty2 ty5 ty4 ty89 ty21 ty37 ty46 ty83 ty73 ty81 ty41 ty23 ty25 ty27 ty28 ty48 afill zeroRow litGet litCells adraw awit adchk pchk qchk gchk looks restr tfin Has hat_z hat_s hat_len hat_appL hat_appN hat_appK hat_setS hat_setN set_appL set_appN set_appK box_t bz aM aN aQ aR aA aT row_t bA aU aC aV row_one aW
attribute [local go_sem] C7_ty C7_fn C7_ext C7_eqt eP bV dL
attribute [local go_sem] List.set_set
set_option maxRecDepth 10000
def bI (n:Int):Blk:=boxBlk 2 1 [.int .i64 n]
def bB (b:Bool):Blk:=boxBlk 4 1 [.bool b]
def spNum1:Am.Spec:=fun args H=>match args with
 |[.str w,.ptr lb 0 0 0,.ptr mb 0 0 0,.ptr nb 0 0 0,.ptr kb 0 0 0]=>match hat H lb,hat H mb with
  |some L,some M=>match L.get 0,M.get 0 with
   |[.int .i64 l],[.int .i64 m]=>some (.bool ((numP w l m).2 == 0),(H.set nb (bI (numP w l m).1)).set kb (bB ((numP w l m).2 == 0)),w.size≤1000000000∧L=bI l∧M=bI m∧(∃ n0,hat H nb=some (bI n0))∧∃ k0,hat H kb=some (bB k0))
   |_,_=>none
  |_,_=>none
 |_=>none
theorem spNum1_ok:SpecOk Tryz.prog 76 spNum1:=by
 refine⟨⟨Tryz.f76,Tryz.func76,by kernel_rfl,by kernel_rfl⟩,fun args H v H1 ob h hob=>?_⟩
 unfold spNum1 at h
 split at h
 ·rename_i w lb mb nb kb
  split at h
  ·rename_i L M hL hM
   split at h
   ·rename_i l m hl hm
    cases h
    obtain⟨hw,rfl,rfl,⟨n0,hn⟩,k0,hk⟩:=hob
    refine acalls_ofN (C:=C7) (nt:=18) C7ok Tryz.func76 rfl rfl ?_
    refine awalk_sound C7ok _ _ _ _ ?_
    have hne:nb≠kb:=ne_of_t hn hk (by simp only[bI,bB,box_t];decide)
    have l1:=hat_lt hn
    have l2:=hat_lt hk
    simp only[go_sem,bI,bB] at hn hk hL hM
    simp[go_sem,bI,bB,hn,hk,hL,hM,hne,l1,l2,hw]
    exact⟨.inr rfl,_,_,rfl,trivial,rfl,rfl⟩
   ·cases h
  ·cases h
 ·cases h
def eT:Am.Spec:=fun args H=>match args with
 |[.ptr sb 0 0 0]=>match hat H sb with
  |some B=>match B.get 0 with
   |[vl,c,li,vw,wd,.int .i64 wr]=>some (.bool (wr == 0),H,B=boxBlk 81 6 [vl,c,li,vw,wd,.int .i64 wr])
   |_=>none
  |none=>none
 |_=>none
def spIs:Am.Spec:=fun args H=>match args with
 |[.ptr sb 0 0 0,.str f,.int .i64 n]=>match hat H sb with
  |some B=>match B.get 0 with
   |[vl,c,li,.sl wb 0 k v,wd,wr]=>match hat H wb with
    |some W=>some (.bool (((strAt W 0).toList == f.toList) && ((k:Int) == n)),H,B=boxBlk 81 6 [vl,c,li,.sl wb 0 k v,wd,wr]∧dh W k v∧0 < k)
    |none=>none
   |_=>none
  |none=>none
 |_=>none
theorem spGood_ok:SpecOk Tryz.prog 29 eT:=by
 refine⟨⟨Tryz.f29,Tryz.func29,by kernel_rfl,by kernel_rfl⟩,fun args H v H1 ob h hob=>?_⟩
 unfold eT at h
 split at h
 ·rename_i sb
  split at h
  ·rename_i B hB
   split at h
   ·rename_i vl c li vw wd wr hg
    cases h
    subst hob
    refine acalls_ofN (C:=C7) (nt:=8) C7ok Tryz.func29 rfl rfl ?_
    refine awalk_sound C7ok _ _ _ _ ?_
    simp[go_sem,hB]
    exact⟨.inr rfl,_,_,rfl,trivial,rfl,rfl⟩
   ·cases h
  ·cases h
 ·cases h
theorem spIs_ok:SpecOk Tryz.prog 26 spIs:=by
 refine⟨⟨Tryz.f26,Tryz.func26,by kernel_rfl,by kernel_rfl⟩,fun args H v H1 ob h hob=>?_⟩
 unfold spIs at h
 split at h
 ·rename_i sb f n
  split at h
  ·rename_i B hB
   split at h
   ·rename_i vl c li wb k v wd wr hg
    split at h
    ·rename_i W hW
     cases h
     obtain⟨rfl,⟨h1,h2,h3,h4,h5⟩,hk⟩:=hob
     have h6:=h5 0 hk
     refine acalls_ofN (C:=C7) (nt:=24) C7ok Tryz.func26 rfl rfl ?_
     refine awalk_sound C7ok _ _ _ _ ?_
     have h7:0 < W.len:=by omega
     simp[go_sem,hB,hW,h1,h2,h6,h7,hk]
     exact⟨.inr rfl,_,_,rfl,trivial,rfl,rfl⟩
    ·cases h
   ·cases h
  ·cases h
 ·cases h
end Go.Proofs.YtjokedpaidmjoaaGreatDoor.Rf
