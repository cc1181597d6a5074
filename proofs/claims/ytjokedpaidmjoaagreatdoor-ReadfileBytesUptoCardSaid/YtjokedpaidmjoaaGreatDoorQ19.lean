/- A part of the proof. -/
import Derived.Test.YtjokedpaidmjoaaGreatDoorQ18
set_option linter.all false
namespace Go.Proofs.YtjokedpaidmjoaaGreatDoor.Rf
open Go Go.RowKit Go.Proofs.YtjokedpaidmjoaaGreatDoor.Am Go.Proofs.YtjokedpaidmjoaaGreatDoor.Pu Go.Proofs.YtjokedpaidmjoaaGreatDoor
section
variable (t:TypeId) (sz n i j:Nat) (cs vs:List AV) (g:Nat → List AV)
theorem box_t:(boxBlk t sz cs).t=t:=rfl
theorem bn:(boxBlk t sz cs).sz=sz:=rfl
theorem aI:(boxBlk t sz cs).ver=0:=rfl
theorem aJ:(boxBlk t sz cs).len=1:=rfl
theorem aK:(boxBlk t sz cs).own=true:=rfl
theorem aM:(boxBlk t sz cs).one=true:=rfl
theorem ax:(boxBlk t sz cs).get i=cs:=rfl
theorem aN:(boxBlk t sz cs).put i j vs=boxBlk t sz (setSeg cs j vs):=by simp[Blk.put,boxBlk]
theorem row_t:(newRowBlk t sz n g).t=t:=rfl
theorem bq:(newRowBlk t sz n g).sz=sz:=rfl
theorem aQ:(newRowBlk t sz n g).ver=0:=rfl
theorem aC:(newRowBlk t sz n g).len=n:=rfl
theorem aR:(newRowBlk t sz n g).own=true:=rfl
theorem row_one:(newRowBlk t sz n g).one=false:=rfl
theorem aT:(newRowBlk t sz n g).get i=g i:=rfl
variable (l:List ByteArray) (z:List Int)
theorem aU:(strB l).t=9:=rfl
theorem aZ:(strB l).sz=1:=rfl
theorem aD:(strB l).ver=0:=rfl
theorem aG:(strB l).len=l.length:=rfl
theorem aH:(strB l).get i = [.str (l.getD i ⟨#[]⟩)]:=rfl
theorem intB_t:(intB z).t=3:=rfl
theorem fe:(intB z).sz=1:=rfl
theorem dP:(intB z).ver=0:=rfl
theorem dQ:(intB z).len=z.length:=rfl
theorem dR:(intB z).get i = [.int .i64 (z.getD i 0)]:=rfl
end
structure Sr where
 lines:List ByteArray
 cut:Bool
 line:Int
 words:List ByteArray
 word:Int
 wrong:Int
def srcB (lb:Nat) (vw:AV) (s:Sr):Blk:=boxBlk 81 6 [.sl lb 0 s.lines.length 0,.bool s.cut,.int .i64 s.line,vw,.int .i64 s.word,.int .i64 s.wrong]
structure Src (H:Heap) (sb:Nat) (s:Sr) (lb:Nat) (vw:AV):Prop where
 src:hat H sb=some (srcB lb vw s)
 lns:hat H lb=some (strB s.lines)
theorem Src.ne {H:Heap} {sb lb:Nat} {s:Sr} {vw:AV} (h:Src H sb s lb vw):sb≠lb:=ne_of_t h.src h.lns (by simp only[aU,srcB,box_t];decide)
theorem Src.set {H:Heap} {sb lb:Nat} {s:Sr} {vw:AV} (h:Src H sb s lb vw) (s' : Sr) (vw' : AV) (hl:s'.lines=s.lines):Src (H.set sb (srcB lb vw' s')) sb s' lb vw':=
 ⟨hat_setS (hat_lt h.src),by rw[hat_setN h.ne,hl];exact h.lns⟩
theorem Src.app {H:Heap} {sb lb:Nat} {s:Sr} {vw:AV} (h:Src H sb s lb vw) (L:Heap):Src (H ++ L) sb s lb vw:=⟨hat_app h.src L,hat_app h.lns L⟩
theorem Src.fr {H:Heap} {sb lb:Nat} {s:Sr} {vw:AV} (h:Src H sb s lb vw) (X:Blk):Fr [81] H (H.set sb X):=Fr.set h.src (by simp only[srcB,box_t];decide) X
theorem Src.keep {ts:List Nat} {H H' : Heap} {sb lb:Nat} {s:Sr} {vw:AV} (h:Src H sb s lb vw) (hf:Fr ts H H') (h1:81 ∉ ts) (h2:9 ∉ ts):Src H' sb s lb vw:=⟨hf.keep _ _ h.src h1,hf.keep _ _ h.lns h2⟩
def Wds (H:Heap) (s:Sr) (vw:AV):Prop:=∃ wb,vw = .sl wb 0 s.words.length 0∧hat H wb=some (strB s.words)
theorem Wds.keep {ts:List Nat} {H H' : Heap} {s:Sr} {vw:AV} (h:Wds H s vw) (hf:Fr ts H H') (h2:9 ∉ ts):Wds H' s vw:=by
 obtain⟨wb,h0,h1⟩:=h
 exact⟨wb,h0,hf.keep _ _ h1 h2⟩
structure Lok (s:Sr):Prop where
 n:s.lines.length≤1048576
 l : ∀ a∈s.lines,a.size≤1048576
 k0:0≤s.line
 k:s.line≤1048577
attribute [local go_sem] areg aseq gstep gwant astep apick aop aslice alen aappend aappendS aconvS aconvB unw opTmps opnds tmpsOf aev Am.get ofConst ofConst1 putT strip abin aun initT AThen AIn ws_n ws_r ws_e ws_g aw_seq aw_reg aw_draw aw_cond aw_block aw_skip aw_ret aw_exit aw_goto aw_label aw_loop aw_scope ANoGoto AJ ares oneOr bound asInt fieldOf ldv setSeg AV.cells AV.whole AV.cell tys Ty.agg ty9 ty3 ty2 ty5 ty4 ty89 ty21 ty37 ty46 ty83 ty73 ty81 ty41 ty23 ty25 ty27 ty28 ty48 afill zeroRow litGet litCells adraw awit adchk pchk qchk gchk looks restr tfin Has hat_z hat_s hat_len hat_appL hat_appN hat_appK hat_setS hat_setN set_appL set_appN set_appK box_t bn aI aJ aK aM ax aN row_t bq aQ aC aR row_one aT
attribute [local go_sem] aU aZ aD aG aH intB_t fe dP dQ dR
attribute [local go_sem] C7_ty C7_fn C7_ext C7_eqt fQ dY dS
attribute [local go_sem] List.set_set
set_option maxRecDepth 10000
theorem aA {n:Int} (h1 : -9223372036854775808≤n) (h2:n≤9223372036854775807):IntKind.i64.wrap n=n:=by rw[IntKind.wrap_i64];omega
def nextS (s:Sr):Sr × Bool:=
 if (s.lines.length:Int) < s.line+1 then ({ s with line:=s.line+1,word:=0,wrong:=1 },false)
 else ({ s with line:=s.line+1,word:=0,words:=(WS (s.lines[s.line.toNat]?.getD ⟨#[]⟩)).1,wrong:=(WS (s.lines[s.line.toNat]?.getD ⟨#[]⟩)).2.1 },(WS (s.lines[s.line.toNat]?.getD ⟨#[]⟩)).2.2 == 0)
theorem getD_le {l:List ByteArray} (h : ∀ a∈l,a.size≤1048576) (i:Nat):(l[i]?.getD ⟨#[]⟩).size≤4398046511104:=by
 cases hq:l[i]? with
 |none=>exact Nat.zero_le _
 |some a=>have:=h a (List.mem_of_getElem? hq);simp;omega
theorem next_calls {H:Heap} {sb lb:Nat} {s:Sr} {vw:AV} (hs:Src H sb s lb vw) (hk:Lok s) :
  ACalls Tryz.prog 25 [.ptr sb 0 0 0] H fun v H'=>v = .bool (nextS s).2∧(∃ vw',Src H' sb (nextS s).1 lb vw'∧(s.line < s.lines.length → Wds H' (nextS s).1 vw'))∧Fr [81] H H':=by
 have hsrc:=hs.src
 have hl:=hs.lns
 have hn:=hs.ne
 have hn' : lb≠sb:=fun e=>hn e.symm
 have k0:=hk.k0
 have k1:=hk.k
 have kl:=hk.l
 refine acalls_ofN (C:=C7) (nt:=54) C7ok Tryz.func25 rfl rfl ?_
 refine awalk_sound C7ok _ _ _ _ ?_
 have hw1:IntKind.i64.wrap (s.line+1)=s.line+1:=aA (by omega) (by omega)
 have hw2:IntKind.i64.wrap (s.line+1 - 1)=s.line:=by rw[aA (by omega) (by omega)];omega
 have l1:=hat_lt hsrc
 have l2:=hat_lt hl
 have hl3:(s.lines[s.line.toNat]?.getD ⟨#[]⟩).size≤4398046511104:=getD_le kl _
 simp only[go_sem,srcB] at hsrc
 simp[go_sem,hsrc,hl,hn,hn',l1,l2,hw1]
 refine awp_draw C7ok (by kernel_rfl) [0,1,3,7,0,16,48,112,240,511] [.quiet [0],.quiet [0],.quiet [0],.quiet [0],.quiet [0],.quiet [0],.quiet [0],.quiet [0],.quiet [0],.quiet [0]] 0 (by kernel_rfl) ?_
 simp[go_sem,hsrc,hl,hn,hn',l1,l2,hw1]
 refine⟨fun h=>?_,fun h=>?_⟩
 ·refine⟨.inr rfl,_,_,rfl,trivial,?_⟩
  have e:nextS s=({ s with line:=s.line+1,word:=0,wrong:=1 },false):=if_pos h
  rw[e]
  exact⟨rfl,⟨vw,hs.set { s with line:=s.line+1,word:=0,wrong:=1 } vw rfl,fun h'=>absurd h' (by omega)⟩,hs.fr _⟩
 ·refine awp_draw C7ok (by kernel_rfl) [0,0,0,4,12,28,0,64,192,448,960,2044,4092,8188,16380,32764,32764,32764,65533,327677,851965,1966079,4063231,8257535,16777215] [.quiet [0,1],.quiet [0,1,2],.quiet [0],.quiet [0],.quiet [0],.quiet [0],.quiet [0],.quiet [0],.quiet [0],.quiet [0],.quiet [0],.quiet [0],.quiet [0],.eff 0,.quiet [1],.quiet [1],.quiet [1,2],.quiet [1,2,3],.quiet [1],.quiet [1],.eff 1,.quiet [2],.quiet [2],.eff 2,.quiet [3]] 3 (by kernel_rfl) ?_
  have hw3:IntKind.i64.wrap s.line=s.line:=aA (by omega) (by omega)
  simp[go_sem,hsrc,hl,hn,hn',l1,l2,hw1,hw2,hw3,hl3]
  refine⟨⟨⟨k0,by omega⟩,by omega⟩,.inr rfl,_,_,rfl,trivial,?_⟩
  unfold nextS
  rw[if_neg (by omega)]
  generalize WS (s.lines[s.line.toNat]?.getD ⟨#[]⟩)=r
  exact⟨rfl,⟨.sl H.length 0 r.1.length 0,(hs.set { s with line:=s.line+1,word:=0,words:=r.1,wrong:=r.2.1 } (.sl H.length 0 r.1.length 0) rfl).app [strB r.1],fun _=>⟨H.length,rfl,hat_appN (by simp)⟩⟩,(hs.fr _).trans (Fr.app _ _ _)⟩
end Go.Proofs.YtjokedpaidmjoaaGreatDoor.Rf
