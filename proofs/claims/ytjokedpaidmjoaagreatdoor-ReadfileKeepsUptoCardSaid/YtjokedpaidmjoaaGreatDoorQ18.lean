/- A part of the proof. -/
import Derived.Test.YtjokedpaidmjoaaGreatDoorQ17
set_option linter.all false
namespace Go.Proofs.YtjokedpaidmjoaaGreatDoor.Rf
open Go Go.RowKit Go.Proofs.YtjokedpaidmjoaaGreatDoor.Am Go.Proofs.YtjokedpaidmjoaaGreatDoor.Pu Go.Proofs.YtjokedpaidmjoaaGreatDoor
section
variable (t:TypeId) (sz n i j:Nat) (cs vs:List AV) (g:Nat → List AV)
theorem box_t:(boxBlk t sz cs).t=t:=rfl
theorem bn:(boxBlk t sz cs).sz=sz:=rfl
theorem aD:(boxBlk t sz cs).ver=0:=rfl
theorem aG:(boxBlk t sz cs).len=1:=rfl
theorem aH:(boxBlk t sz cs).own=true:=rfl
theorem aI:(boxBlk t sz cs).one=true:=rfl
theorem ax:(boxBlk t sz cs).get i=cs:=rfl
theorem aJ:(boxBlk t sz cs).put i j vs=boxBlk t sz (setSeg cs j vs):=by simp[Blk.put,boxBlk]
theorem row_t:(newRowBlk t sz n g).t=t:=rfl
theorem bq:(newRowBlk t sz n g).sz=sz:=rfl
theorem aK:(newRowBlk t sz n g).ver=0:=rfl
theorem ay:(newRowBlk t sz n g).len=n:=rfl
theorem aM:(newRowBlk t sz n g).own=true:=rfl
theorem row_one:(newRowBlk t sz n g).one=false:=rfl
theorem aN:(newRowBlk t sz n g).get i=g i:=rfl
variable (l:List ByteArray) (z:List Int)
theorem aQ:(strB l).t=9:=rfl
theorem bu:(strB l).sz=1:=rfl
theorem aR:(strB l).ver=0:=rfl
theorem aT:(strB l).len=l.length:=rfl
theorem aU:(strB l).get i = [.str (l.getD i ⟨#[]⟩)]:=rfl
theorem intB_t:(intB z).t=3:=rfl
theorem eU:(intB z).sz=1:=rfl
theorem dQ:(intB z).ver=0:=rfl
theorem dR:(intB z).len=z.length:=rfl
theorem dS:(intB z).get i = [.int .i64 (z.getD i 0)]:=rfl
end
structure Sr where
 lines:List ByteArray
 cut:Bool
 line:Int
 words:List ByteArray
 word:Int
 wrong:Int
def srcB (lb:Nat) (vw:AV) (s:Sr):Blk:=boxBlk 81 6 [.sl lb 0 s.lines.length 0,.bool s.cut,.int .i64 s.line,vw,.int .i64 s.word,.int .i64 s.wrong]
structure Src (H:Heap) (sb:Nat) (s:Sr) (lb:Nat) (vw:AV):Prop where
 src:hat H sb=some (srcB lb vw s)
 lns:hat H lb=some (strB s.lines)
theorem Src.ne {H:Heap} {sb lb:Nat} {s:Sr} {vw:AV} (h:Src H sb s lb vw):sb≠lb:=ne_of_t h.src h.lns (by simp only[aQ,srcB,box_t];decide)
theorem Src.set {H:Heap} {sb lb:Nat} {s:Sr} {vw:AV} (h:Src H sb s lb vw) (s' : Sr) (vw' : AV) (hl:s'.lines=s.lines):Src (H.set sb (srcB lb vw' s')) sb s' lb vw':=
 ⟨hat_setS (hat_lt h.src),by rw[hat_setN h.ne,hl];exact h.lns⟩
theorem Src.app {H:Heap} {sb lb:Nat} {s:Sr} {vw:AV} (h:Src H sb s lb vw) (L:Heap):Src (H ++ L) sb s lb vw:=⟨hat_app h.src L,hat_app h.lns L⟩
theorem Src.fr {H:Heap} {sb lb:Nat} {s:Sr} {vw:AV} (h:Src H sb s lb vw) (X:Blk):Fr [81] H (H.set sb X):=Fr.set h.src (by simp only[srcB,box_t];decide) X
theorem Src.keep {ts:List Nat} {H H' : Heap} {sb lb:Nat} {s:Sr} {vw:AV} (h:Src H sb s lb vw) (hf:Fr ts H H') (h1:81 ∉ ts) (h2:9 ∉ ts):Src H' sb s lb vw:=⟨hf.keep _ _ h.src h1,hf.keep _ _ h.lns h2⟩
def Wds (H:Heap) (s:Sr) (vw:AV):Prop:=∃ wb,vw = .sl wb 0 s.words.length 0∧hat H wb=some (strB s.words)
theorem Wds.keep {ts:List Nat} {H H' : Heap} {s:Sr} {vw:AV} (h:Wds H s vw) (hf:Fr ts H H') (h2:9 ∉ ts):Wds H' s vw:=by
 obtain⟨wb,h0,h1⟩:=h
 exact⟨wb,h0,hf.keep _ _ h1 h2⟩
structure Lok (s:Sr):Prop where
 n:s.lines.length≤1048576
 l : ∀ a∈s.lines,a.size≤1048576
 k0:0≤s.line
 k:s.line≤1048577
attribute [local go_sem] areg aseq gstep gwant astep apick aop aslice alen aappend aappendS aconvS aconvB unw opTmps opnds tmpsOf aev Am.get ofConst ofConst1 putT strip abin aun initT AThen AIn ws_n ws_r ws_e ws_g aw_seq aw_reg aw_draw aw_cond aw_block aw_skip aw_ret aw_exit aw_goto aw_label aw_loop aw_scope ANoGoto AJ ares oneOr bound asInt fieldOf ldv setSeg AV.cells AV.whole AV.cell tys Ty.agg ty9 ty3 ty2 ty5 ty4 ty89 ty21 ty37 ty46 ty83 ty73 ty81 ty41 ty23 ty25 ty27 ty28 ty48 afill zeroRow litGet litCells adraw awit adchk pchk qchk gchk looks restr tfin Has hat_z hat_s hat_len hat_appL hat_appN hat_appK hat_setS hat_setN set_appL set_appN set_appK box_t bn aD aG aH aI ax aJ row_t bq aK ay aM row_one aN
attribute [local go_sem] aQ bu aR aT aU intB_t eU dQ dR dS
attribute [local go_sem] C7_ty C7_fn C7_ext C7_eqt fG dD dU
attribute [local go_sem] List.set_set
set_option maxRecDepth 10000
theorem av {n:Int} (h1 : -9223372036854775808≤n) (h2:n≤9223372036854775807):IntKind.i64.wrap n=n:=by rw[IntKind.wrap_i64];omega
def nextS (s:Sr):Sr × Bool:=
 if (s.lines.length:Int) < s.line+1 then ({ s with line:=s.line+1,word:=0,wrong:=1 },false)
 else ({ s with line:=s.line+1,word:=0,words:=(WS (s.lines[s.line.toNat]?.getD ⟨#[]⟩)).1,wrong:=(WS (s.lines[s.line.toNat]?.getD ⟨#[]⟩)).2.1 },(WS (s.lines[s.line.toNat]?.getD ⟨#[]⟩)).2.2 == 0)
theorem getD_le {l:List ByteArray} (h : ∀ a∈l,a.size≤1048576) (i:Nat):(l[i]?.getD ⟨#[]⟩).size≤4398046511104:=by
 cases hq:l[i]? with
 |none=>exact Nat.zero_le _
 |some a=>have:=h a (List.mem_of_getElem? hq);simp;omega
theorem next_calls {H:Heap} {sb lb:Nat} {s:Sr} {vw:AV} (hs:Src H sb s lb vw) (hk:Lok s) :
  ACalls Tryz.prog 25 [.ptr sb 0 0 0] H fun v H'=>v = .bool (nextS s).2∧(∃ vw',Src H' sb (nextS s).1 lb vw'∧(s.line < s.lines.length → Wds H' (nextS s).1 vw'))∧Fr [81] H H':=by
 have hsrc:=hs.src
 have hl:=hs.lns
 have hn:=hs.ne
 have hn' : lb≠sb:=fun e=>hn e.symm
 have k0:=hk.k0
 have k1:=hk.k
 have kl:=hk.l
 refine acalls_ofN (C:=C7) (nt:=54) C7ok Tryz.func25 rfl rfl ?_
 refine awalk_sound C7ok _ _ _ _ ?_
 have hw1:IntKind.i64.wrap (s.line+1)=s.line+1:=av (by omega) (by omega)
 have hw2:IntKind.i64.wrap (s.line+1 - 1)=s.line:=by rw[av (by omega) (by omega)];omega
 have l1:=hat_lt hsrc
 have l2:=hat_lt hl
 have hl3:(s.lines[s.line.toNat]?.getD ⟨#[]⟩).size≤4398046511104:=getD_le kl _
 simp only[go_sem,srcB] at hsrc
 simp[go_sem,hsrc,hl,hn,hn',l1,l2,hw1]
 refine awp_draw C7ok (by kernel_rfl) [0,1,3,7,0,16,48,112,240,511] [.quiet [0],.quiet [0],.quiet [0],.quiet [0],.quiet [0],.quiet [0],.quiet [0],.quiet [0],.quiet [0],.quiet [0]] 0 (by kernel_rfl) ?_
 simp[go_sem,hsrc,hl,hn,hn',l1,l2,hw1]
 refine⟨fun h=>?_,fun h=>?_⟩
 ·refine⟨.inr rfl,_,_,rfl,trivial,?_⟩
  have e:nextS s=({ s with line:=s.line+1,word:=0,wrong:=1 },false):=if_pos h
  rw[e]
  exact⟨rfl,⟨vw,hs.set { s with line:=s.line+1,word:=0,wrong:=1 } vw rfl,fun h'=>absurd h' (by omega)⟩,hs.fr _⟩
 ·refine awp_draw C7ok (by kernel_rfl) [0,0,0,4,12,28,0,64,192,448,960,2044,4092,8188,16380,32764,32764,32764,65533,327677,851965,1966079,4063231,8257535,16777215] [.quiet [0,1],.quiet [0,1,2],.quiet [0],.quiet [0],.quiet [0],.quiet [0],.quiet [0],.quiet [0],.quiet [0],.quiet [0],.quiet [0],.quiet [0],.quiet [0],.eff 0,.quiet [1],.quiet [1],.quiet [1,2],.quiet [1,2,3],.quiet [1],.quiet [1],.eff 1,.quiet [2],.quiet [2],.eff 2,.quiet [3]] 3 (by kernel_rfl) ?_
  have hw3:IntKind.i64.wrap s.line=s.line:=av (by omega) (by omega)
  simp[go_sem,hsrc,hl,hn,hn',l1,l2,hw1,hw2,hw3,hl3]
  refine⟨⟨⟨k0,by omega⟩,by omega⟩,.inr rfl,_,_,rfl,trivial,?_⟩
  unfold nextS
  rw[if_neg (by omega)]
  generalize WS (s.lines[s.line.toNat]?.getD ⟨#[]⟩)=r
  exact⟨rfl,⟨.sl H.length 0 r.1.length 0,(hs.set { s with line:=s.line+1,word:=0,words:=r.1,wrong:=r.2.1 } (.sl H.length 0 r.1.length 0) rfl).app [strB r.1],fun _=>⟨H.length,rfl,hat_appN (by simp)⟩⟩,(hs.fr _).trans (Fr.app _ _ _)⟩
end Go.Proofs.YtjokedpaidmjoaaGreatDoor.Rf
set_option linter.all false
namespace Go.Proofs.YtjokedpaidmjoaaGreatDoor.Rf
open Go Go.RowKit Go.Proofs.YtjokedpaidmjoaaGreatDoor.Am Go.Proofs.YtjokedpaidmjoaaGreatDoor.Pu Go.Proofs.YtjokedpaidmjoaaGreatDoor
attribute [local go_sem] areg aseq gstep gwant astep apick aop aslice alen aappend aappendS aconvS aconvB unw opTmps opnds tmpsOf aev Am.get ofConst ofConst1 putT strip abin aun initT AThen AIn ws_n ws_r ws_e ws_g aw_seq aw_reg aw_draw aw_cond aw_block aw_skip aw_ret aw_exit aw_goto aw_label aw_loop aw_scope ANoGoto AJ ares oneOr bound asInt fieldOf ldv setSeg AV.cells AV.whole AV.cell tys Ty.agg ty9 ty3 ty2 ty5 ty4 ty89 ty21 ty37 ty46 ty83 ty73 ty81 ty41 ty23 ty25 ty27 ty28 ty48 afill zeroRow litGet litCells adraw awit adchk pchk qchk gchk looks restr tfin Has hat_z hat_s hat_len hat_appL hat_appN hat_appK hat_setS hat_setN set_appL set_appN set_appK box_t bn aD aG aH aI ax aJ row_t bq aK ay aM row_one aN
attribute [local go_sem] C7_ty C7_fn C7_ext C7_eqt fG cB bG
attribute [local go_sem] List.set_set
set_option maxRecDepth 10000
def bI (n:Int):Blk:=boxBlk 2 1 [.int .i64 n]
def bB (b:Bool):Blk:=boxBlk 4 1 [.bool b]
def spNum1:Am.Spec:=fun args H=>match args with
 |[.str w,.ptr lb 0 0 0,.ptr mb 0 0 0,.ptr nb 0 0 0,.ptr kb 0 0 0]=>match hat H lb,hat H mb with
  |some L,some M=>match L.get 0,M.get 0 with
   |[.int .i64 l],[.int .i64 m]=>some (.bool ((numP w l m).2 == 0),(H.set nb (bI (numP w l m).1)).set kb (bB ((numP w l m).2 == 0)),w.size≤1000000000∧L=bI l∧M=bI m∧(∃ n0,hat H nb=some (bI n0))∧∃ k0,hat H kb=some (bB k0))
   |_,_=>none
  |_,_=>none
 |_=>none
theorem spNum1_ok:SpecOk Tryz.prog 76 spNum1:=by
 refine⟨⟨Tryz.f76,Tryz.func76,by kernel_rfl,by kernel_rfl⟩,fun args H v H1 ob h hob=>?_⟩
 unfold spNum1 at h
 split at h
 ·rename_i w lb mb nb kb
  split at h
  ·rename_i L M hL hM
   split at h
   ·rename_i l m hl hm
    cases h
    obtain⟨hw,rfl,rfl,⟨n0,hn⟩,k0,hk⟩:=hob
    refine acalls_ofN (C:=C7) (nt:=18) C7ok Tryz.func76 rfl rfl ?_
    refine awalk_sound C7ok _ _ _ _ ?_
    have hne:nb≠kb:=ne_of_t hn hk (by simp only[bI,bB,box_t];decide)
    have l1:=hat_lt hn
    have l2:=hat_lt hk
    simp only[go_sem,bI,bB] at hn hk hL hM
    simp[go_sem,bI,bB,hn,hk,hL,hM,hne,l1,l2,hw]
    exact⟨.inr rfl,_,_,rfl,trivial,rfl,rfl⟩
   ·cases h
  ·cases h
 ·cases h
def fI:Am.Spec:=fun args H=>match args with
 |[.ptr sb 0 0 0]=>match hat H sb with
  |some B=>match B.get 0 with
   |[vl,c,li,vw,wd,.int .i64 wr]=>some (.bool (wr == 0),H,B=boxBlk 81 6 [vl,c,li,vw,wd,.int .i64 wr])
   |_=>none
  |none=>none
 |_=>none
def spIs:Am.Spec:=fun args H=>match args with
 |[.ptr sb 0 0 0,.str f,.int .i64 n]=>match hat H sb with
  |some B=>match B.get 0 with
   |[vl,c,li,.sl wb 0 k v,wd,wr]=>match hat H wb with
    |some W=>some (.bool (((strAt W 0).toList == f.toList) && ((k:Int) == n)),H,B=boxBlk 81 6 [vl,c,li,.sl wb 0 k v,wd,wr]∧bZ W k v∧0 < k)
    |none=>none
   |_=>none
  |none=>none
 |_=>none
theorem spGood_ok:SpecOk Tryz.prog 29 fI:=by
 refine⟨⟨Tryz.f29,Tryz.func29,by kernel_rfl,by kernel_rfl⟩,fun args H v H1 ob h hob=>?_⟩
 unfold fI at h
 split at h
 ·rename_i sb
  split at h
  ·rename_i B hB
   split at h
   ·rename_i vl c li vw wd wr hg
    cases h
    subst hob
    refine acalls_ofN (C:=C7) (nt:=8) C7ok Tryz.func29 rfl rfl ?_
    refine awalk_sound C7ok _ _ _ _ ?_
    simp[go_sem,hB]
    exact⟨.inr rfl,_,_,rfl,trivial,rfl,rfl⟩
   ·cases h
  ·cases h
 ·cases h
theorem spIs_ok:SpecOk Tryz.prog 26 spIs:=by
 refine⟨⟨Tryz.f26,Tryz.func26,by kernel_rfl,by kernel_rfl⟩,fun args H v H1 ob h hob=>?_⟩
 unfold spIs at h
 split at h
 ·rename_i sb f n
  split at h
  ·rename_i B hB
   split at h
   ·rename_i vl c li wb k v wd wr hg
    split at h
    ·rename_i W hW
     cases h
     obtain⟨rfl,⟨h1,h2,h3,h4,h5⟩,hk⟩:=hob
     have h6:=h5 0 hk
     refine acalls_ofN (C:=C7) (nt:=24) C7ok Tryz.func26 rfl rfl ?_
     refine awalk_sound C7ok _ _ _ _ ?_
     have h7:0 < W.len:=by omega
     simp[go_sem,hB,hW,h1,h2,h6,h7,hk]
     exact⟨.inr rfl,_,_,rfl,trivial,rfl,rfl⟩
    ·cases h
   ·cases h
  ·cases h
 ·cases h
end Go.Proofs.YtjokedpaidmjoaaGreatDoor.Rf
set_option linter.all false
namespace Go.Proofs.YtjokedpaidmjoaaGreatDoor.Rf
open Go Go.RowKit Go.Proofs.YtjokedpaidmjoaaGreatDoor.Am Go.Proofs.YtjokedpaidmjoaaGreatDoor.Pu Go.Proofs.YtjokedpaidmjoaaGreatDoor
attribute [local go_sem] areg aseq gstep gwant astep apick aop aslice alen aappend aappendS aconvS aconvB unw opTmps opnds tmpsOf aev Am.get ofConst ofConst1 putT strip abin aun initT AThen AIn ws_n ws_r ws_e ws_g aw_seq aw_reg aw_draw aw_cond aw_block aw_skip aw_ret aw_exit aw_goto aw_label aw_loop aw_scope ANoGoto AJ ares oneOr bound asInt fieldOf ldv setSeg AV.cells AV.whole AV.cell tys Ty.agg ty9 ty3 ty2 ty5 ty4 ty89 ty21 ty37 ty46 ty83 ty73 ty81 ty41 ty23 ty25 ty27 ty28 ty48 afill zeroRow litGet litCells adraw awit adchk pchk qchk gchk looks restr tfin Has hat_z hat_s hat_len hat_appL hat_appN hat_appK hat_setS hat_setN set_appL set_appN set_appK box_t bn aD aG aH aI ax aJ row_t bq aK ay aM row_one aN
attribute [local go_sem] C7_ty C7_fn C7_ext C7_eqt fG cB bG
attribute [local go_sem] List.set_set
set_option maxRecDepth 10000
structure Rd where
 slot:Int
 imp:Int
 exp:Int
 var:Int
 flag:Int
structure Fi where
 meter:ByteArray
 start:Int
 step:Int
 slots:Int
 mult:Int
 turn:Int
 reads:List Rd
def rdV (r:Rd):List AV:=[.int .i64 r.slot,.int .i64 r.imp,.int .i64 r.exp,.int .i64 r.var,.int .u8 r.flag]
def fiV (f:Fi) (vr:AV):List AV:=[.str f.meter,.int .i64 f.start,.int .i64 f.step,.int .i64 f.slots,.int .i64 f.mult,.int .i64 f.turn,vr]
def fiB (f:Fi) (vr:AV):Blk:=boxBlk 25 7 (fiV f vr)
def Rds (H:Heap) (vr:AV) (l:List Rd):Prop:=(vr = .nilsl∧l = [])∨∃ b v B,vr = .sl b 0 l.length v∧hat H b=some B∧B.ver=v∧B.own=true∧B.len=l.length∧B.t=41∧B.sz=5∧∀ i x,l[i]? = some x → B.get i=rdV x
def RdsG (H:Heap) (vr:AV) (l:List Rd):Prop:=(vr = .nilsl∧l = [])∨∃ b p v B,vr = .sl b p l.length v∧hat H b=some B∧B.ver=v∧p+l.length≤B.len∧B.t=41∧B.sz=5∧∀ i x,l[i]? = some x → B.get (p+i)=rdV x
theorem Rds.g {H:Heap} {vr:AV} {l:List Rd} (h:Rds H vr l):RdsG H vr l:=by
 rcases h with h|⟨b,v,B,h1,h2,h3,h4,h5,h6,h7,h8⟩
 ·exact .inl h
 ·exact .inr ⟨b,0,v,B,h1,h2,h3,by omega,h6,h7,fun i x h=>by rw[Nat.zero_add];exact h8 i x h⟩
theorem RdsG.cell {H:Heap} {vr:AV} {l:List Rd} (h:RdsG H vr l):vr.cell=true:=by
 rcases h with ⟨rfl,_⟩|⟨b,p,v,B,rfl,_⟩ <;> rfl
theorem RdsG.keep {ts:List Nat} {H H' : Heap} {vr:AV} {l:List Rd} (h:RdsG H vr l) (hf:Fr ts H H') (ht:41 ∉ ts):RdsG H' vr l:=by
 rcases h with h|⟨b,p,v,B,h1,h2,h3,h4,h6,h7,h8⟩
 ·exact .inl h
 ·exact .inr ⟨b,p,v,B,h1,hf.keep _ _ h2 (by rw[h6];exact ht),h3,h4,h6,h7,h8⟩
def bE (n:Int):Blk:=boxBlk 28 1 [.int .i64 n]
def spP1:Am.Spec:=fun args H=>match args with
 |[.str w,.ptr fb 0 0 0]=>match hat H fb with
  |some F=>match F.get 0 with
   |[a,b,c,d,e,g,.nilsl]=>some (.bool (w.toList == (txt 0).toList),H,F=boxBlk 25 7 [a,b,c,d,e,g,.nilsl])
   |[a,b,c,d,e,g,.sl rb 0 n v]=>match hat H rb with
    |some B=>some (.bool (w.toList == (txt n).toList),H,F=boxBlk 25 7 [a,b,c,d,e,g,.sl rb 0 n v]∧B.ver=v∧in64 n)
    |none=>none
   |_=>none
  |none=>none
 |_=>none
def spP2:Am.Spec:=fun args H=>match args with
 |[.str w,.ptr eb 0 0 0,.ptr nb 0 0 0]=>match hat H eb,hat H nb with
  |some E,some N=>match E.get 0,N.get 0 with
   |[.int .i64 e],[.int .i64 n]=>some (.bool (if e=0 then w.toList == (txt n).toList else false),H,E=bE e∧N=bI n∧in64 n)
   |_,_=>none
  |_,_=>none
 |_=>none
theorem spP1_ok:SpecOk Tryz.prog 32 spP1:=by
 refine⟨⟨Tryz.f32,Tryz.func32,by kernel_rfl,by kernel_rfl⟩,fun args H v H1 ob h hob=>?_⟩
 unfold spP1 at h
 split at h
 ·rename_i w fb
  split at h
  ·rename_i F hF
   split at h
   ·rename_i a b c d e g hg
    cases h
    subst hob
    refine acalls_ofN (C:=C7) (nt:=10) C7ok Tryz.func32 rfl rfl ?_
    refine awalk_sound C7ok _ _ _ _ ?_
    simp[go_sem,hF]
    exact⟨⟨by decide,by decide⟩,.inr rfl,_,_,rfl,trivial,rfl,rfl⟩
   ·rename_i a b c d e g rb n w hg
    split at h
    ·rename_i B hB
     cases h
     obtain⟨rfl,h1,h2⟩:=hob
     refine acalls_ofN (C:=C7) (nt:=10) C7ok Tryz.func32 rfl rfl ?_
     refine awalk_sound C7ok _ _ _ _ ?_
     simp[go_sem,hF,hB,h1]
     exact⟨h2,.inr rfl,_,_,rfl,trivial,rfl,rfl⟩
    ·cases h
   ·cases h
  ·cases h
 ·cases h
theorem spP2_ok:SpecOk Tryz.prog 34 spP2:=by
 refine⟨⟨Tryz.f34,Tryz.func34,by kernel_rfl,by kernel_rfl⟩,fun args H v H1 ob h hob=>?_⟩
 unfold spP2 at h
 split at h
 ·rename_i w eb nb
  split at h
  ·rename_i E N hE hN
   split at h
   ·rename_i e n he hn
    cases h
    obtain⟨rfl,rfl,h3⟩:=hob
    refine acalls_ofN (C:=C7) (nt:=13) C7ok Tryz.func34 rfl rfl ?_
    refine awalk_sound C7ok _ _ _ _ ?_
    simp only[bE,bI] at hE hN
    by_cases he:e=0
    ·subst he
     simp[go_sem,hE,hN]
     exact⟨h3,.inr rfl,_,_,rfl,trivial,rfl,rfl⟩
    ·simp[go_sem,hE,hN,he]
     refine⟨.inr rfl,_,_,rfl,trivial,?_,rfl⟩
     simp[go_sem,he]
   ·cases h
  ·cases h
 ·cases h
noncomputable def bA:FuncId → Option Am.Spec:=fun f=>match f with
 |76=>some spNum1
 |26=>some spIs
 |29=>some fI
 |32=>some spP1
 |34=>some spP2
 |f=>fG f
noncomputable def C8:Ctx:={ P:=Tryz.prog,ty:=tys,fn:=bA,ext:=ext7 }
theorem C8ok:CtxOk C8:=by
 refine⟨tysOk,fun f s h=>?_,fun t K h=>(by cases h),dC⟩
 unfold C8 bA at h
 simp only at h
 split at h
 ·cases h;exact spNum1_ok
 ·cases h;exact spIs_ok
 ·cases h;exact spGood_ok
 ·cases h;exact spP1_ok
 ·cases h;exact spP2_ok
 ·exact C7ok.fn _ _ h
theorem C8_ty:C8.ty=tys:=rfl
theorem C8_fn:C8.fn=bA:=rfl
theorem C8_ext:C8.ext=ext7:=rfl
theorem C8_eqt:C8.eqt=fun _=>none:=rfl
theorem s8_num1:bA 76=some spNum1:=rfl
theorem s8_is:bA 26=some spIs:=rfl
theorem s8_good:bA 29=some fI:=rfl
theorem s8_p1:bA 32=some spP1:=rfl
theorem s8_p2:bA 34=some spP2:=rfl
theorem s8_name:bA 57=some dB:=rfl
theorem s8_cols:bA 60=some dU:=rfl
theorem s8_flag:bA 41=some spFlag:=rfl
theorem s8_step:bA 59=some cu:=rfl
theorem s8_words:bA 56=some dD:=rfl
theorem fZ:bA 55=some dm:=rfl
theorem s8_text:bA 33=some bG:=rfl
theorem s8_last:bA 54=some spLast:=rfl
end Go.Proofs.YtjokedpaidmjoaaGreatDoor.Rf
