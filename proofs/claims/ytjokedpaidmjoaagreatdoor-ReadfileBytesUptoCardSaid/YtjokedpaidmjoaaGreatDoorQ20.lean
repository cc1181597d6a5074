/- A part of the proof. -/
import Derived.Test.YtjokedpaidmjoaaGreatDoorQ19
set_option linter.all false
namespace Go.Proofs.YtjokedpaidmjoaaGreatDoor.Rf
open Go Go.RowKit Go.Proofs.YtjokedpaidmjoaaGreatDoor.Am Go.Proofs.YtjokedpaidmjoaaGreatDoor.Pu Go.Proofs.YtjokedpaidmjoaaGreatDoor
attribute [local go_sem] areg aseq gstep gwant astep apick aop aslice alen aappend aappendS aconvS aconvB unw opTmps opnds tmpsOf aev Am.get ofConst ofConst1 putT strip abin aun initT AThen AIn ws_n ws_r ws_e ws_g aw_seq aw_reg aw_draw aw_cond aw_block aw_skip aw_ret aw_exit aw_goto aw_label aw_loop aw_scope ANoGoto AJ ares oneOr bound asInt fieldOf ldv setSeg AV.cells AV.whole AV.cell tys Ty.agg ty9 ty3 ty2 ty5 ty4 ty89 ty21 ty37 ty46 ty83 ty73 ty81 ty41 ty23 ty25 ty27 ty28 ty48 afill zeroRow litGet litCells adraw awit adchk pchk qchk gchk looks restr tfin Has hat_z hat_s hat_len hat_appL hat_appN hat_appK hat_setS hat_setN set_appL set_appN set_appK box_t bn aI aJ aK aM ax aN row_t bq aQ aC aR row_one aT
attribute [local go_sem] C7_ty C7_fn C7_ext C7_eqt fQ bY bA
attribute [local go_sem] List.set_set
set_option maxRecDepth 10000
def bI (n:Int):Blk:=boxBlk 2 1 [.int .i64 n]
def bB (b:Bool):Blk:=boxBlk 4 1 [.bool b]
def spNum1:Am.Spec:=fun args H=>match args with
 |[.str w,.ptr lb 0 0 0,.ptr mb 0 0 0,.ptr nb 0 0 0,.ptr kb 0 0 0]=>match hat H lb,hat H mb with
  |some L,some M=>match L.get 0,M.get 0 with
   |[.int .i64 l],[.int .i64 m]=>some (.bool ((numP w l m).2 == 0),(H.set nb (bI (numP w l m).1)).set kb (bB ((numP w l m).2 == 0)),w.size≤1000000000∧L=bI l∧M=bI m∧(∃ n0,hat H nb=some (bI n0))∧∃ k0,hat H kb=some (bB k0))
   |_,_=>none
  |_,_=>none
 |_=>none
theorem spNum1_ok:SpecOk Tryz.prog 76 spNum1:=by
 refine⟨⟨Tryz.f76,Tryz.func76,by kernel_rfl,by kernel_rfl⟩,fun args H v H1 ob h hob=>?_⟩
 unfold spNum1 at h
 split at h
 ·rename_i w lb mb nb kb
  split at h
  ·rename_i L M hL hM
   split at h
   ·rename_i l m hl hm
    cases h
    obtain⟨hw,rfl,rfl,⟨n0,hn⟩,k0,hk⟩:=hob
    refine acalls_ofN (C:=C7) (nt:=18) C7ok Tryz.func76 rfl rfl ?_
    refine awalk_sound C7ok _ _ _ _ ?_
    have hne:nb≠kb:=ne_of_t hn hk (by simp only[bI,bB,box_t];decide)
    have l1:=hat_lt hn
    have l2:=hat_lt hk
    simp only[go_sem,bI,bB] at hn hk hL hM
    simp[go_sem,bI,bB,hn,hk,hL,hM,hne,l1,l2,hw]
    exact⟨.inr rfl,_,_,rfl,trivial,rfl,rfl⟩
   ·cases h
  ·cases h
 ·cases h
def fT:Am.Spec:=fun args H=>match args with
 |[.ptr sb 0 0 0]=>match hat H sb with
  |some B=>match B.get 0 with
   |[vl,c,li,vw,wd,.int .i64 wr]=>some (.bool (wr == 0),H,B=boxBlk 81 6 [vl,c,li,vw,wd,.int .i64 wr])
   |_=>none
  |none=>none
 |_=>none
def spIs:Am.Spec:=fun args H=>match args with
 |[.ptr sb 0 0 0,.str f,.int .i64 n]=>match hat H sb with
  |some B=>match B.get 0 with
   |[vl,c,li,.sl wb 0 k v,wd,wr]=>match hat H wb with
    |some W=>some (.bool (((strAt W 0).toList == f.toList) && ((k:Int) == n)),H,B=boxBlk 81 6 [vl,c,li,.sl wb 0 k v,wd,wr]∧dh W k v∧0 < k)
    |none=>none
   |_=>none
  |none=>none
 |_=>none
theorem spGood_ok:SpecOk Tryz.prog 29 fT:=by
 refine⟨⟨Tryz.f29,Tryz.func29,by kernel_rfl,by kernel_rfl⟩,fun args H v H1 ob h hob=>?_⟩
 unfold fT at h
 split at h
 ·rename_i sb
  split at h
  ·rename_i B hB
   split at h
   ·rename_i vl c li vw wd wr hg
    cases h
    subst hob
    refine acalls_ofN (C:=C7) (nt:=8) C7ok Tryz.func29 rfl rfl ?_
    refine awalk_sound C7ok _ _ _ _ ?_
    simp[go_sem,hB]
    exact⟨.inr rfl,_,_,rfl,trivial,rfl,rfl⟩
   ·cases h
  ·cases h
 ·cases h
theorem spIs_ok:SpecOk Tryz.prog 26 spIs:=by
 refine⟨⟨Tryz.f26,Tryz.func26,by kernel_rfl,by kernel_rfl⟩,fun args H v H1 ob h hob=>?_⟩
 unfold spIs at h
 split at h
 ·rename_i sb f n
  split at h
  ·rename_i B hB
   split at h
   ·rename_i vl c li wb k v wd wr hg
    split at h
    ·rename_i W hW
     cases h
     obtain⟨rfl,⟨h1,h2,h3,h4,h5⟩,hk⟩:=hob
     have h6:=h5 0 hk
     refine acalls_ofN (C:=C7) (nt:=24) C7ok Tryz.func26 rfl rfl ?_
     refine awalk_sound C7ok _ _ _ _ ?_
     have h7:0 < W.len:=by omega
     simp[go_sem,hB,hW,h1,h2,h6,h7,hk]
     exact⟨.inr rfl,_,_,rfl,trivial,rfl,rfl⟩
    ·cases h
   ·cases h
  ·cases h
 ·cases h
end Go.Proofs.YtjokedpaidmjoaaGreatDoor.Rf
set_option linter.all false
namespace Go.Proofs.YtjokedpaidmjoaaGreatDoor.Rf
open Go Go.RowKit Go.Proofs.YtjokedpaidmjoaaGreatDoor.Am Go.Proofs.YtjokedpaidmjoaaGreatDoor.Pu Go.Proofs.YtjokedpaidmjoaaGreatDoor
attribute [local go_sem] areg aseq gstep gwant astep apick aop aslice alen aappend aappendS aconvS aconvB unw opTmps opnds tmpsOf aev Am.get ofConst ofConst1 putT strip abin aun initT AThen AIn ws_n ws_r ws_e ws_g aw_seq aw_reg aw_draw aw_cond aw_block aw_skip aw_ret aw_exit aw_goto aw_label aw_loop aw_scope ANoGoto AJ ares oneOr bound asInt fieldOf ldv setSeg AV.cells AV.whole AV.cell tys Ty.agg ty9 ty3 ty2 ty5 ty4 ty89 ty21 ty37 ty46 ty83 ty73 ty81 ty41 ty23 ty25 ty27 ty28 ty48 afill zeroRow litGet litCells adraw awit adchk pchk qchk gchk looks restr tfin Has hat_z hat_s hat_len hat_appL hat_appN hat_appK hat_setS hat_setN set_appL set_appN set_appK box_t bn aI aJ aK aM ax aN row_t bq aQ aC aR row_one aT
attribute [local go_sem] C7_ty C7_fn C7_ext C7_eqt fQ bY bA
attribute [local go_sem] List.set_set
set_option maxRecDepth 10000
structure Rd where
 slot:Int
 imp:Int
 exp:Int
 var:Int
 flag:Int
structure Fi where
 meter:ByteArray
 start:Int
 step:Int
 slots:Int
 mult:Int
 turn:Int
 reads:List Rd
def rdV (r:Rd):List AV:=[.int .i64 r.slot,.int .i64 r.imp,.int .i64 r.exp,.int .i64 r.var,.int .u8 r.flag]
def fiV (f:Fi) (vr:AV):List AV:=[.str f.meter,.int .i64 f.start,.int .i64 f.step,.int .i64 f.slots,.int .i64 f.mult,.int .i64 f.turn,vr]
def fiB (f:Fi) (vr:AV):Blk:=boxBlk 25 7 (fiV f vr)
def Rds (H:Heap) (vr:AV) (l:List Rd):Prop:=(vr = .nilsl∧l = [])∨∃ b v B,vr = .sl b 0 l.length v∧hat H b=some B∧B.ver=v∧B.own=true∧B.len=l.length∧B.t=41∧B.sz=5∧∀ i x,l[i]? = some x → B.get i=rdV x
def RdsG (H:Heap) (vr:AV) (l:List Rd):Prop:=(vr = .nilsl∧l = [])∨∃ b p v B,vr = .sl b p l.length v∧hat H b=some B∧B.ver=v∧p+l.length≤B.len∧B.t=41∧B.sz=5∧∀ i x,l[i]? = some x → B.get (p+i)=rdV x
theorem Rds.g {H:Heap} {vr:AV} {l:List Rd} (h:Rds H vr l):RdsG H vr l:=by
 rcases h with h|⟨b,v,B,h1,h2,h3,h4,h5,h6,h7,h8⟩
 ·exact .inl h
 ·exact .inr ⟨b,0,v,B,h1,h2,h3,by omega,h6,h7,fun i x h=>by rw[Nat.zero_add];exact h8 i x h⟩
theorem RdsG.cell {H:Heap} {vr:AV} {l:List Rd} (h:RdsG H vr l):vr.cell=true:=by
 rcases h with ⟨rfl,_⟩|⟨b,p,v,B,rfl,_⟩ <;> rfl
theorem RdsG.keep {ts:List Nat} {H H' : Heap} {vr:AV} {l:List Rd} (h:RdsG H vr l) (hf:Fr ts H H') (ht:41 ∉ ts):RdsG H' vr l:=by
 rcases h with h|⟨b,p,v,B,h1,h2,h3,h4,h6,h7,h8⟩
 ·exact .inl h
 ·exact .inr ⟨b,p,v,B,h1,hf.keep _ _ h2 (by rw[h6];exact ht),h3,h4,h6,h7,h8⟩
def bE (n:Int):Blk:=boxBlk 28 1 [.int .i64 n]
def spP1:Am.Spec:=fun args H=>match args with
 |[.str w,.ptr fb 0 0 0]=>match hat H fb with
  |some F=>match F.get 0 with
   |[a,b,c,d,e,g,.nilsl]=>some (.bool (w.toList == (txt 0).toList),H,F=boxBlk 25 7 [a,b,c,d,e,g,.nilsl])
   |[a,b,c,d,e,g,.sl rb 0 n v]=>match hat H rb with
    |some B=>some (.bool (w.toList == (txt n).toList),H,F=boxBlk 25 7 [a,b,c,d,e,g,.sl rb 0 n v]∧B.ver=v∧in64 n)
    |none=>none
   |_=>none
  |none=>none
 |_=>none
def spP2:Am.Spec:=fun args H=>match args with
 |[.str w,.ptr eb 0 0 0,.ptr nb 0 0 0]=>match hat H eb,hat H nb with
  |some E,some N=>match E.get 0,N.get 0 with
   |[.int .i64 e],[.int .i64 n]=>some (.bool (if e=0 then w.toList == (txt n).toList else false),H,E=bE e∧N=bI n∧in64 n)
   |_,_=>none
  |_,_=>none
 |_=>none
theorem spP1_ok:SpecOk Tryz.prog 32 spP1:=by
 refine⟨⟨Tryz.f32,Tryz.func32,by kernel_rfl,by kernel_rfl⟩,fun args H v H1 ob h hob=>?_⟩
 unfold spP1 at h
 split at h
 ·rename_i w fb
  split at h
  ·rename_i F hF
   split at h
   ·rename_i a b c d e g hg
    cases h
    subst hob
    refine acalls_ofN (C:=C7) (nt:=10) C7ok Tryz.func32 rfl rfl ?_
    refine awalk_sound C7ok _ _ _ _ ?_
    simp[go_sem,hF]
    exact⟨⟨by decide,by decide⟩,.inr rfl,_,_,rfl,trivial,rfl,rfl⟩
   ·rename_i a b c d e g rb n w hg
    split at h
    ·rename_i B hB
     cases h
     obtain⟨rfl,h1,h2⟩:=hob
     refine acalls_ofN (C:=C7) (nt:=10) C7ok Tryz.func32 rfl rfl ?_
     refine awalk_sound C7ok _ _ _ _ ?_
     simp[go_sem,hF,hB,h1]
     exact⟨h2,.inr rfl,_,_,rfl,trivial,rfl,rfl⟩
    ·cases h
   ·cases h
  ·cases h
 ·cases h
theorem spP2_ok:SpecOk Tryz.prog 34 spP2:=by
 refine⟨⟨Tryz.f34,Tryz.func34,by kernel_rfl,by kernel_rfl⟩,fun args H v H1 ob h hob=>?_⟩
 unfold spP2 at h
 split at h
 ·rename_i w eb nb
  split at h
  ·rename_i E N hE hN
   split at h
   ·rename_i e n he hn
    cases h
    obtain⟨rfl,rfl,h3⟩:=hob
    refine acalls_ofN (C:=C7) (nt:=13) C7ok Tryz.func34 rfl rfl ?_
    refine awalk_sound C7ok _ _ _ _ ?_
    simp only[bE,bI] at hE hN
    by_cases he:e=0
    ·subst he
     simp[go_sem,hE,hN]
     exact⟨h3,.inr rfl,_,_,rfl,trivial,rfl,rfl⟩
    ·simp[go_sem,hE,hN,he]
     refine⟨.inr rfl,_,_,rfl,trivial,?_,rfl⟩
     simp[go_sem,he]
   ·cases h
  ·cases h
 ·cases h
noncomputable def bC:FuncId → Option Am.Spec:=fun f=>match f with
 |76=>some spNum1
 |26=>some spIs
 |29=>some fT
 |32=>some spP1
 |34=>some spP2
 |f=>fQ f
noncomputable def C8:Ctx:={ P:=Tryz.prog,ty:=tys,fn:=bC,ext:=ext7 }
theorem C8ok:CtxOk C8:=by
 refine⟨tysOk,fun f s h=>?_,fun t K h=>(by cases h),dA⟩
 unfold C8 bC at h
 simp only at h
 split at h
 ·cases h;exact spNum1_ok
 ·cases h;exact spIs_ok
 ·cases h;exact spGood_ok
 ·cases h;exact spP1_ok
 ·cases h;exact spP2_ok
 ·exact C7ok.fn _ _ h
theorem C8_ty:C8.ty=tys:=rfl
theorem C8_fn:C8.fn=bC:=rfl
theorem C8_ext:C8.ext=ext7:=rfl
theorem C8_eqt:C8.eqt=fun _=>none:=rfl
theorem s8_num1:bC 76=some spNum1:=rfl
theorem s8_is:bC 26=some spIs:=rfl
theorem s8_good:bC 29=some fT:=rfl
theorem s8_p1:bC 32=some spP1:=rfl
theorem s8_p2:bC 34=some spP2:=rfl
theorem s8_name:bC 57=some dz:=rfl
theorem s8_cols:bC 60=some dS:=rfl
theorem s8_flag:bC 41=some spFlag:=rfl
theorem s8_step:bC 59=some bX:=rfl
theorem s8_words:bC 56=some dY:=rfl
theorem gB:bC 55=some dI:=rfl
theorem s8_text:bC 33=some bA:=rfl
theorem s8_last:bC 54=some spLast:=rfl
end Go.Proofs.YtjokedpaidmjoaaGreatDoor.Rf
