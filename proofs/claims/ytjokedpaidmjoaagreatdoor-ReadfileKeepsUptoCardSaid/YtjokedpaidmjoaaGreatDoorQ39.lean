/- A part of the proof. -/
import Derived.Test.YtjokedpaidmjoaaGreatDoorQ37
import Derived.Test.YtjokedpaidmjoaaGreatDoorQ38
import Derived.Lib.Builder
import Derived.Shelf.Strings.Builder1
set_option linter.all false
namespace Go.Proofs.YtjokedpaidmjoaaGreatDoor.Rf
open Go Go.RowKit Go.Proofs.YtjokedpaidmjoaaGreatDoor.Am Go.Proofs.YtjokedpaidmjoaaGreatDoor.Pu Go.Proofs.YtjokedpaidmjoaaGreatDoor
theorem bldPtr:Tryz.prog.underlying 65=some (.pointer 67):=by kernel_rfl
theorem bldUns:Tryz.prog.underlying 98=some .unsafePointer:=by kernel_rfl
theorem bldInfo : ∃ j,Tryz.prog.info? 67=some j∧j.size=2:=Option.map_eq_some_iff.1 (show(Tryz.prog.info? 67).map (·.size)=some 2 by kernel_rfl)
theorem bld_lies {cells:Nat} (h:2≤cells):liesAt Tryz.prog Tryz.prog.depth 67 (cells / Tryz.prog.cellsOf 67) 0 67 1=true:=by
 have hc:Tryz.prog.cellsOf 67=2:=by kernel_rfl
 rw[hc]
 have hn:1≤cells / 2:=by omega
 generalize cells / 2=count at hn
 have hd:Tryz.prog.depth=(2 * (Tryz.prog.types.size+Made.depth)+1)+1:=rfl
 rw[hd]
 simp only[liesAt,Bool.or_eq_true]
 left
 rw[hd]
 simp[rowAt,hc,hn,sameLayout]
set_option maxHeartbeats 1000000 in
set_option maxRecDepth 100000 in
theorem cc_used (b:Nat) (w:World) (h0:w.cell? ⟨b,0,none⟩=some (.pointer (some ⟨b,0,none⟩))) :
  Calls Tryz.prog 66 #[.pointer (some ⟨b,0,none⟩)] w fun e w'=>e = .returned (.tuple #[])∧w' = w:=by
 obtain⟨j,hj,hjs⟩:=bldInfo
 go_enter Tryz.func66,Tryz.ntmps66
 go_wp2
 rw[Lib.run_neq_ptr_same w _ bldPtr hj]
 go_wp2
 go_end0
 exact⟨rfl,rfl⟩
set_option maxHeartbeats 1000000 in
set_option maxRecDepth 100000 in
theorem cc_fresh (b:Nat) (w:World) (h0:w.cell? ⟨b,0,none⟩=some (.pointer none)) {cells:Nat} (hsh:w.shape? b=some (67,cells)) (hcl:2≤cells) (hfz:w.frozen? ⟨b,0,none⟩=false) :
  Calls Tryz.prog 66 #[.pointer (some ⟨b,0,none⟩)] w fun e w'=>e = .returned (.tuple #[])∧w' = w.setCell ⟨b,0,none⟩ (.pointer (some ⟨b,0,none⟩)):=by
 obtain⟨j,hj,hjs⟩:=bldInfo
 go_enter Tryz.func66,Tryz.ntmps66
 go_wp2
 rw[Lib.run_to_unsafe w ⟨b,0,none⟩ bldPtr bldUns hj (by rw[hjs];decide) hsh (show 0 < cells by omega)]
 simp only[Result.andThen]
 rw[Oper.upon_value]
 go_wp2
 rw[run_callFunc_extern Tryz.func80 (by kernel_rfl) (by kernel_rfl) (by kernel_rfl) (e:=Extern.AbiNoEscape.same) (by kernel_rfl)]
 rw[Lib.run_noEscape]
 simp only[Result.andThen]
 rw[Oper.upon_value]
 go_wp2
 rw[Lib.run_from_unsafe w ⟨b,0,none⟩ bldUns bldPtr hj hsh (bld_lies hcl)]
 simp only[Result.andThen]
 rw[Oper.upon_value]
 go_wp2
 go_end0
 exact⟨rfl,rfl⟩
def blB (p s:AV):Blk:=boxBlk 67 2 [p,s]
def spCC:Am.Spec:=fun args H=>match args with
 |[.ptr b 0 0 0]=>match hat H b with
  |some B=>match B.get 0 with
   |[.nilptr,s]=>some (.tup [],H.set b (blB (.ptr b 0 0 0) s),B=blB .nilptr s)
   |[.ptr b' 0 0 0,s]=>some (.tup [],H,B=blB (.ptr b' 0 0 0) s∧b' = b)
   |_=>none
  |none=>none
 |_=>none
theorem spCC_ok:SpecOk Tryz.prog 66 spCC:=by
 refine⟨⟨Tryz.f66,Tryz.func66,by kernel_rfl,by kernel_rfl⟩,fun args H v H1 ob h hob=>?_⟩
 unfold spCC at h
 split at h
 ·rename_i b
  split at h
  ·rename_i B hB
   split at h
   ·rename_i s hg
    cases h
    subst hob
    intro φ base W vs hS hvs
    obtain⟨u,us,rfl,hu,rfl⟩:=hvs
    have eu:=ptr_at hu hB rfl
    rcases hS.ow b _ hB rfl with q|⟨hnn,cur,c1,c2,c3,c4,c5,c6,c7⟩
    ·cases q.2
    obtain⟨x0,x1,x2,x3⟩:=c7 0 0 .nilptr (by show 0 < 1;decide) rfl
    obtain rfl:x0 = .pointer none:=x2
    obtain⟨y0,y1,y2,y3⟩:=c7 0 1 s (by show 0 < 1;decide) rfl
    have hb1:(blB .nilptr s).sz=2:=rfl
    have hlen:(blB .nilptr s).len=1:=rfl
    rw[hlen] at c4
    rw[hb1] at c3 x1 y1
    simp only[c2,Nat.zero_mul,Nat.add_zero] at eu
    subst eu
    have hsh:W.shape? (φ b).blk=some (67,cur.size):=by
     obtain⟨z,c1,_⟩:=c1
     simp[World.shape?,c1]
     rfl
    have hfz:W.frozen? ⟨(φ b).blk,0,none⟩=false:=by
     obtain⟨⟨lo,hi⟩,c1,hz⟩:=c1
     simp only[World.frozen?,c1,Bool.and_eq_false_iff,decide_eq_false_iff_not]
     rcases hz with hz|hz
     ·injection hz with h1 h2
      right
      omega
     ·left
      simp only at hz
      omega
    refine(cc_fresh (φ b).blk W (by rw[c1.cell];exact x1) hsh (by omega) hfz).mono ?_
    rintro e W' ⟨rfl,rfl⟩
    have hbl:b < H.length:=(List.getElem?_eq_some_iff.1 hB).1
    have eW:W.setCell ⟨(φ b).blk,0,none⟩ (.pointer (some ⟨(φ b).blk,0,none⟩))=W.setRow (φ b).blk (cur.setIfInBounds 0 (.pointer (some ⟨(φ b).blk,0,none⟩))):=by
     obtain⟨z,c1,_⟩:=c1
     exact setCell_eq_setRow W _ _ _ _ _ _ c1
    rw[eW]
    have hx' : Ext φ H φ (H.set b (blB (.ptr b 0 0 0) s)):=by
     intro k B0 hB0
     by_cases e:b=k
     ·subst e
      have hB' : H[b]? = some (blB .nilptr s):=hB
      rw[hB'] at hB0
      obtain rfl:=Option.some.inj hB0
      exact⟨_,List.getElem?_set_self hbl,rfl,rfl,rfl,Nat.le_refl _,fun _=>Nat.le_refl _,fun _=>rfl⟩
     ·exact⟨B0,by rw[List.getElem?_set_ne e];exact hB0,rfl,rfl,rfl,Nat.le_refl _,fun _=>Nat.le_refl _,fun _=>rfl⟩
    have hb:Below base W (W.setRow (φ b).blk (cur.setIfInBounds 0 (.pointer (some ⟨(φ b).blk,0,none⟩)))):=⟨rfl,rfl,rfl,by simp,fun k hk=>setRow_other W (φ b).blk k _ (by omega)⟩
    refine⟨φ,.tup [],_,_,rfl,⟨rfl,rfl⟩,hx',hS.step hx' hb b ?_ ?_,⟨_,rfl,rfl⟩,hb⟩
    ·intro k B0 hB0 hne
     rw[List.getElem?_set_ne (fun e=>hne e.symm)] at hB0
     refine⟨hB0,rfl,fun ho0 hn0=>setRow_other W _ _ _ ?_⟩
     exact hS.inj k b B0 _ hB0 hB ho0 rfl hn0 hnn hne
    ·intro B0 hB0
     rw[List.getElem?_set_self hbl] at hB0
     obtain rfl:=Option.some.inj hB0
     refine⟨rfl,.inr ⟨hnn,_,c1.set (by simp),c2,by rw[Array.size_setIfInBounds];exact c3,c4,c5,c6,?_⟩,fun i _=>rfl,fun _ k B0 hB0 ho0 hn0 hne=>?_⟩
     ·intro i j v hi hv
      have hi:i < 1:=hi
      obtain rfl:i=0:=by omega
      match j,hv with
      |0,hv=>
       obtain rfl:=Option.some.inj hv
       refine⟨.pointer (some ⟨(φ b).blk,0,none⟩),?_,⟨rfl,_,List.getElem?_set_self hbl,Nat.le_refl _,fun _=>?_⟩,rfl⟩
       ·rw[Nat.zero_mul,Nat.zero_add,Array.getElem?_setIfInBounds_self,if_pos (by omega)]
       ·rw[c2,Nat.zero_mul]
      |1,hv=>
       obtain rfl:=Option.some.inj hv
       refine⟨y0,?_,VRel.ext hx' _ _ y2,y3⟩
       rw[Nat.zero_mul,Nat.zero_add]
       rw[Array.getElem?_setIfInBounds_ne (by decide)]
       rw[Nat.zero_mul,Nat.zero_add] at y1
       exact y1
      |j+2,hv=>cases hv
     ·rw[List.getElem?_set_ne (fun e=>hne e.symm)] at hB0
      exact hS.inj k b B0 _ hB0 hB ho0 rfl hn0 hnn hne
   ·rename_i b' s hg
    cases h
    obtain⟨rfl,rfl⟩:=hob
    intro φ base W vs hS hvs
    obtain⟨u,us,rfl,hu,rfl⟩:=hvs
    have eu:=ptr_at hu hB rfl
    rcases hS.ow b' _ hB rfl with q|⟨hnn,cur,c1,c2,c3,c4,c5,c6,c7⟩
    ·cases q.2
    obtain⟨x0,x1,x2,x3⟩:=c7 0 0 (.ptr b' 0 0 0) (by show 0 < 1;decide) rfl
    have ex:=ptr_at x2 hB rfl
    simp only[c2,Nat.zero_mul,Nat.add_zero] at eu ex
    subst eu ex
    refine(cc_used (φ b').blk W (by rw[c1.cell];exact x1)).mono ?_
    rintro e W' ⟨rfl,rfl⟩
    exact⟨φ,.tup [],_,H,rfl,⟨rfl,rfl⟩,Ext.refl _ _,hS,⟨_,rfl,rfl⟩,Below.refl _ _⟩
   ·cases h
  ·cases h
 ·cases h
end Go.Proofs.YtjokedpaidmjoaaGreatDoor.Rf
set_option linter.all false
namespace Go.Proofs.YtjokedpaidmjoaaGreatDoor.Rf
open Go Go.RowKit Go.Proofs.YtjokedpaidmjoaaGreatDoor.Am Go.Proofs.YtjokedpaidmjoaaGreatDoor.Pu Go.Proofs.YtjokedpaidmjoaaGreatDoor
noncomputable def specs12:FuncId → Option Am.Spec:=fun f=>match f with
 |66=>some spCC
 |f=>bT f
noncomputable def C12:Ctx:={ P:=Tryz.prog,ty:=tysB,fn:=specs12,ext:=ext7,eqt:=eqs7 }
theorem C12ok:CtxOk C12:=by
 refine⟨tysBOk,fun f s h=>?_,eqs7_ok,dC⟩
 unfold C12 specs12 at h
 simp only at h
 split at h
 ·cases h;exact spCC_ok
 ·exact C10ok.fn _ _ h
theorem C12_ty:C12.ty=tysB:=rfl
theorem C12_fn:C12.fn=specs12:=rfl
theorem C12_ext:C12.ext=ext7:=rfl
theorem C12_eqt:C12.eqt=eqs7:=rfl
theorem s12_cc:specs12 66=some spCC:=rfl
attribute [local go_sem] areg aseq gstep gwant astep apick aop aslice alen aappend aappendS aconvS aconvB unw opTmps opnds tmpsOf aev Am.get ofConst ofConst1 putT strip abin aun initT AThen AIn ws_n ws_r ws_e ws_g aw_seq aw_reg aw_draw aw_cond aw_block aw_skip aw_ret aw_exit aw_goto aw_label aw_loop aw_scope ANoGoto AJ ares oneOr bound asInt fieldOf ldv setSeg AV.cells AV.whole AV.cell tys Ty.agg ty9 ty3 ty2 ty5 ty4 ty89 ty21 ty37 ty46 ty83 ty73 ty81 ty41 ty23 ty25 ty27 ty28 ty48 ty65 ty38 ty67 ty88 afill zeroRow litGet litCells adraw awit adchk pchk qchk gchk looks restr tfin Has hat_z hat_s hat_len hat_appL hat_appN hat_appK hat_setS hat_setN set_appL set_appN set_appK box_t bn aD aG aH aI ax aJ row_t bq aK ay aM row_one aN
attribute [local go_sem] aQ bu aR aT aU keepT tysB
attribute [local go_sem] C12_ty C12_fn C12_ext C12_eqt s12_cc spCC blB
attribute [local go_sem] List.set_set
set_option maxRecDepth 10000
def Bl (base:Nat) (H:Heap) (b:Nat) (s:ByteArray):Prop:=base≤b∧∃ p,(p = .nilptr∨p = .ptr b 0 0 0)∧((s=⟨#[]⟩∧hat H b=some (blB p .nilsl))∨∃ q v B,base≤q∧hat H b=some (blB p (.sl q 0 s.size v))∧hat H q=some B∧B.ver=v∧B.own=true∧B.len=s.size∧B.t=5∧B.sz=1∧∀ i,i < s.size → B.get i=strGet s i)
theorem Bl.keep {ts:List Nat} {base:Nat} {H H' : Heap} {b:Nat} {s:ByteArray} (h:Bl base H b s) (hf:Fr ts H H') (h1:67 ∉ ts) (h2:5 ∉ ts):Bl base H' b s:=by
 obtain⟨hb,p,hp,h|⟨q,v,B,k0,k1,k2,k3,k4,k5,k6,k7⟩⟩:=h
 ·exact⟨hb,p,hp,.inl ⟨h.1,hf.keep _ _ h.2 h1⟩⟩
 ·exact⟨hb,p,hp,.inr ⟨q,v,B,k0,hf.keep _ _ k1 h1,hf.keep _ _ k2 (by rw[k6];exact h2),k3,k4,k5,k6,k7⟩⟩
theorem strGet_app (s z:ByteArray) (i:Nat) (h:i < s.size):strGet (s ++ z) i=strGet s i:=by
 unfold strGet byteAt
 rw[Int.toNat_natCast,getElem?_pos s i h,getElem?_pos (s ++ z) i (by rw[ByteArray.size_append];omega),ByteArray.getElem_append_left]
theorem strGet_app2 (s z:ByteArray) (i:Nat) (h:s.size≤i) (h2:i < s.size+z.size):strGet (s ++ z) i=strGet z (i - s.size):=by
 unfold strGet byteAt
 rw[Int.toNat_natCast,Int.toNat_natCast,getElem?_pos z (i - s.size) (by omega),getElem?_pos (s ++ z) i (by rw[ByteArray.size_append];omega),ByteArray.getElem_append_right h]
def wr (H:Heap) (b:Nat) (z:ByteArray):Heap:=match hat H b with
 |some B=>match B.get 0 with
  |[_,.nilsl]=>H.set b (blB (.ptr b 0 0 0) (.sl H.length 0 z.size 0)) ++ [newRowBlk 5 1 z.size (strGet z)]
  |[_,.sl q 0 n v]=>match hat H q with
   |some Q=>(H.set q (appBlk Q z.size (strGet z))).set b (blB (.ptr b 0 0 0) (.sl q 0 (n+z.size) (v+1)))
   |none=>H
  |_=>H
 |none=>H
theorem wr_nil {H:Heap} {b:Nat} {p:AV} (z:ByteArray) (h:hat H b=some (blB p .nilsl)):wr H b z=H.set b (blB (.ptr b 0 0 0) (.sl H.length 0 z.size 0)) ++ [newRowBlk 5 1 z.size (strGet z)]:=by unfold wr;rw[h];rfl
theorem wr_row {H:Heap} {b q n v:Nat} {p:AV} {Q:Blk} (z:ByteArray) (h:hat H b=some (blB p (.sl q 0 n v))) (hq:hat H q=some Q):wr H b z=(H.set q (appBlk Q z.size (strGet z))).set b (blB (.ptr b 0 0 0) (.sl q 0 (n+z.size) (v+1))):=by
 unfold wr
 rw[h]
 show(match hat H q with|some Q=>(H.set q (appBlk Q z.size (strGet z))).set b (blB (.ptr b 0 0 0) (.sl q 0 (n+z.size) (v+1)))|none=>H)=_
 rw[hq]
theorem wr_bl {base:Nat} {H:Heap} {b:Nat} {s z:ByteArray} (h:Bl base H b s) (hbl:base≤H.length):Bl base (wr H b z) b (s ++ z)∧Fr [67,5] H (wr H b z):=by
 obtain⟨hb,p,hp,⟨rfl,k1⟩|⟨q,v,B,k0,k1,k2,k3,k4,k5,k6,k7,k8⟩⟩:=h
 ·have lb:=hat_lt k1
  have ez:(⟨#[]⟩ : ByteArray) ++ z=z:=by rw[show(⟨#[]⟩ : ByteArray)=ByteArray.empty from rfl];simp
  rw[wr_nil z k1,ez]
  refine⟨⟨hb,.ptr b 0 0 0,.inr rfl,.inr ⟨H.length,0,newRowBlk 5 1 z.size (strGet z),hbl,?_,hat_appN (by simp),rfl,rfl,rfl,rfl,rfl,fun i hi=>rfl⟩⟩,(Fr.set k1 (by simp[blB,box_t]) _).trans (Fr.app _ _ _)⟩
  rw[hat_appL (by simpa using lb),hat_setS lb]
 ·have lb:=hat_lt k1
  have lq:=hat_lt k2
  have nq:b≠q:=ne_of_t k1 k2 (by rw[k6];simp only[blB,box_t];decide)
  rw[wr_row z k1 k2]
  have hq:hat ((H.set q (appBlk B z.size (strGet z))).set b (blB (.ptr b 0 0 0) (.sl q 0 (s.size+z.size) (v+1)))) q=some (appBlk B z.size (strGet z)):=by
   rw[hat_setN nq,hat_setS lq]
  refine⟨⟨hb,.ptr b 0 0 0,.inr rfl,.inr ⟨q,v+1,appBlk B z.size (strGet z),k0,?_,hq,by show B.ver+1=_;rw[k3],rfl,?_,k6,k7,?_⟩⟩,?_⟩
  ·rw[hat_setS (by simpa using lb),ByteArray.size_append]
  ·rw[ByteArray.size_append,← k5]
   rfl
  ·intro i hi
   rw[ByteArray.size_append] at hi
   show(if i < B.len then B.get i else strGet z (i - B.len))=_
   rw[k5]
   split
   ·rename_i h1
    rw[k8 i h1,strGet_app s z i h1]
   ·rename_i h1
    rw[strGet_app2 s z i (by omega) hi]
  ·exact(Fr.set k2 (by rw[k6];simp) _).trans (Fr.set (B:=blB p (.sl q 0 s.size v)) (by rw[hat_setN nq.symm];exact k1) (by simp[blB,box_t]) _)
def WMid (base:Nat) (H:Heap) (b:Nat) (s z:ByteArray) (T:Tmps) (G:Heap):Prop:=wr H b z=wr G b z∧Am.get T 0 = .ptr b 0 0 0∧Am.get T 1 = .str z∧((s=⟨#[]⟩∧hat G b=some (blB (.ptr b 0 0 0) .nilsl))∨∃ q v B,base≤q∧hat G b=some (blB (.ptr b 0 0 0) (.sl q 0 s.size v))∧hat G q=some B∧B.ver=v∧B.own=true∧B.len=s.size∧B.t=5∧B.sz=1∧∀ i,i < s.size → B.get i=strGet s i)
set_option maxHeartbeats 4000000 in
theorem eG {base:Nat} {H:Heap} {b:Nat} {s z:ByteArray} (h:Bl base H b s) (hbl:base≤H.length) (hz:z.size≠0) (hs:s.size+z.size≤1099511627776):ACalls Tryz.prog 43 [.ptr b 0 0 0,.str z] H fun _ H'=>H' = wr H b z:=by
 refine acalls_ofN (C:=C12) (nt:=Tryz.f43.ntmps) C12ok Tryz.func43 rfl rfl ?_
 have ml:maxLen=9223372036854775807:=by decide
 have hbb:=h.1
 refine awp_step C12ok fun K hK=>?_
 simp[go_sem]
 rw[hK,athen_n]
 refine awp_live [0,1] ?_
 simp[go_sem]
 clear hK K
 refine awp_seq (awp_mono (R:=fun e T G=>e = .normal∧WMid base H b s z T G) ?_ ?_)
 ·refine awalk_sound C12ok _ _ _ _ ?_
  obtain⟨hb,p,rfl|rfl,⟨rfl,k1⟩|⟨q,v,B,k0,k1,k2,k3,k4,k5,k6,k7,k8⟩⟩:=h
  ·have lb:=hat_lt k1
   have k1':=k1
   simp only[blB] at k1
   simp[go_sem,k1]
   have e1:wr (H.set b (blB (.ptr b 0 0 0) .nilsl)) b z=wr H b z:=by
    rw[wr_nil z k1',wr_nil (p:=.ptr b 0 0 0) z (hat_setS lb),List.set_set,List.length_set]
   exact⟨e1.symm,rfl,rfl,.inl ⟨rfl,hat_setS lb⟩⟩
  ·have lb:=hat_lt k1
   have k1':=k1
   have nq:b≠q:=ne_of_t k1 k2 (by rw[k6];simp only[blB,box_t];decide)
   simp only[blB] at k1
   simp[go_sem,k1]
   have e1:wr (H.set b (blB (.ptr b 0 0 0) (.sl q 0 s.size v))) b z=wr H b z:=by
    rw[wr_row z k1' k2,wr_row (p:=.ptr b 0 0 0) z (hat_setS lb) (by rw[hat_setN nq];exact k2),List.set_comm _ _ nq,List.set_set]
   exact⟨e1.symm,rfl,rfl,.inr ⟨q,v,B,k0,hat_setS lb,by rw[hat_setN nq];exact k2,k3,k4,k5,k6,k7,k8⟩⟩
  ·have k1':=k1
   simp only[blB] at k1
   simp[go_sem,k1]
   exact⟨rfl,rfl,rfl,.inl ⟨rfl,k1'⟩⟩
  ·have k1':=k1
   simp only[blB] at k1
   simp[go_sem,k1]
   exact⟨rfl,rfl,rfl,.inr ⟨q,v,B,k0,k1',k2,k3,k4,k5,k6,k7,k8⟩⟩
 ·rintro e T G ⟨rfl,hF,t0,t1,hc⟩
  refine awp_live [0,1] ?_
  simp[go_sem,t0,t1]
  clear t0 t1 T
  refine awalk_sound C12ok _ _ _ _ ?_
  rcases hc with ⟨rfl,k1⟩|⟨q,v,B,k0,k1,k2,k3,k4,k5,k6,k7,k8⟩
  ·have lb:=hat_lt k1
   have k1':=k1
   have hs:z.size≤1099511627776:=by
    have:(⟨#[]⟩ : ByteArray).size=0:=rfl
    omega
   simp only[blB] at k1
   simp[go_sem,k1,lb]
   refine⟨⟨fun e=>hz (by rw[e];rfl),by rw[ml];omega,by omega⟩,.inr rfl,?_⟩
   simp[go_sem]
   exact⟨_,True,⟨rfl,trivial⟩,trivial,by rw[hF,wr_nil z k1'];rfl⟩
  ·have lb:=hat_lt k1
   have k1':=k1
   have lq:=hat_lt k2
   have nq:b≠q:=ne_of_t k1 k2 (by rw[k6];simp only[blB,box_t];decide)
   simp only[blB] at k1
   simp[go_sem,k1,lb,k2,k3,k4,k5,k6,k7,nq,nq.symm,lq]
   refine⟨⟨fun e=>hz (by rw[e];rfl),by rw[ml];omega,by omega⟩,.inr rfl,?_⟩
   simp[go_sem]
   exact⟨_,True,⟨rfl,trivial⟩,trivial,by rw[hF,wr_row z k1' k2];rfl⟩
theorem bytesAV_eq {B:Blk} {s:ByteArray} (h : ∀ i,i < s.size → B.get i=strGet s i):bytesAV B 0 s.size=s:=by
 apply ByteArray.ext
 apply Array.ext'
 show(List.range s.size).map _=s.data.toList
 apply List.ext_getElem
 ·simp
 ·intro i h1 h2
  have hi:i < s.size:=by simpa using h1
  rw[List.getElem_map,List.getElem_range,Nat.zero_add,h i hi]
  have hd:i < s.data.toList.length:=by rw[Array.length_toList];exact hi
  have e:((s[i]?).getD 0)=s.data.toList[i]:=by rw[getElem?_pos s i hi];rfl
  simp only[strGet,Am.byteOf,byteAt,Int.toNat_natCast]
  rw[e]
  simp
theorem strGet_u8 (s:ByteArray) (i:Nat) : ∃ c:UInt8,strGet s i = [.int .u8 c.toNat]:=⟨(s[(i:Int).toNat]?).getD 0,rfl⟩
set_option maxHeartbeats 4000000 in
theorem string_calls {base:Nat} {H:Heap} {b:Nat} {s:ByteArray} (h:Bl base H b s) (hz:s.size≠0):ACalls Tryz.prog 44 [.ptr b 0 0 0] H fun v H'=>v = .str s∧Fr [67,5] H H':=by
 refine acalls_ofN (C:=C12) (nt:=Tryz.f44.ntmps) C12ok Tryz.func44 rfl rfl ?_
 obtain⟨hb,p,hp,⟨rfl,k1⟩|⟨q,v,B,k0,k1,k2,k3,k4,k5,k6,k7,k8⟩⟩:=h
 ·exact absurd rfl hz
 have lb:=hat_lt k1
 have lq:=hat_lt k2
 have hs0:0 < s.size:=by omega
 have hbe:=bytesAV_eq k8
 have hby : ∀ i,i < s.size → ∃ c:UInt8,B.get i = [.int .u8 c.toNat]:=fun i hi=>by rw[k8 i hi];exact strGet_u8 s i
 simp only[blB] at k1
 refine awp_step C12ok fun K hK=>?_
 simp[go_sem]
 rw[hK,athen_n]
 refine awp_live [0] ?_
 simp[go_sem]
 clear hK K
 refine awp_seq ?_
 refine awp_draw C12ok (by kernel_rfl) [0,1,3,7,15,0,32,96,224,480,1023,2047] [.quiet [0],.quiet [0],.quiet [0],.quiet [0],.quiet [0],.quiet [0],.quiet [0],.quiet [0],.quiet [0],.quiet [0],.eff 0,.quiet [1]] 1 (by kernel_rfl) ?_
 simp[go_sem,k1,k2,k3,k4,k5,k6,k7,lb,lq]
 refine⟨⟨hs0,hby⟩,awp_ret ⟨.inr rfl,?_⟩⟩
 simp[go_sem]
 refine⟨_,True,⟨rfl,trivial⟩,trivial,by rw[hbe],Fr.set k2 (by rw[k6];simp) _⟩
end Go.Proofs.YtjokedpaidmjoaaGreatDoor.Rf
