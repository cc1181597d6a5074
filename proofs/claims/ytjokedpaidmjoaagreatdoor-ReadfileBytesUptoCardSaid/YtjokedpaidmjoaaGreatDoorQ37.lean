/- A part of the proof. -/
import Derived.Test.YtjokedpaidmjoaaGreatDoorQ36
set_option linter.all false
namespace Go.Proofs.YtjokedpaidmjoaaGreatDoor.Rf
open Go Go.RowKit Go.Proofs.YtjokedpaidmjoaaGreatDoor.Am Go.Proofs.YtjokedpaidmjoaaGreatDoor.Pu Go.Proofs.YtjokedpaidmjoaaGreatDoor
noncomputable def specs12:FuncId → Option Am.Spec:=fun f=>match f with
 |66=>some spCC
 |f=>cK f
noncomputable def C12:Ctx:={ P:=Tryz.prog,ty:=tysB,fn:=specs12,ext:=ext7,eqt:=eqs7 }
theorem C12ok:CtxOk C12:=by
 refine⟨tysBOk,fun f s h=>?_,eqs7_ok,dA⟩
 unfold C12 specs12 at h
 simp only at h
 split at h
 ·cases h;exact spCC_ok
 ·exact C10ok.fn _ _ h
theorem C12_ty:C12.ty=tysB:=rfl
theorem C12_fn:C12.fn=specs12:=rfl
theorem C12_ext:C12.ext=ext7:=rfl
theorem C12_eqt:C12.eqt=eqs7:=rfl
theorem s12_cc:specs12 66=some spCC:=rfl
attribute [local go_sem] areg aseq gstep gwant astep apick aop aslice alen aappend aappendS aconvS aconvB unw opTmps opnds tmpsOf aev Am.get ofConst ofConst1 putT strip abin aun initT AThen AIn ws_n ws_r ws_e ws_g aw_seq aw_reg aw_draw aw_cond aw_block aw_skip aw_ret aw_exit aw_goto aw_label aw_loop aw_scope ANoGoto AJ ares oneOr bound asInt fieldOf ldv setSeg AV.cells AV.whole AV.cell tys Ty.agg ty9 ty3 ty2 ty5 ty4 ty89 ty21 ty37 ty46 ty83 ty73 ty81 ty41 ty23 ty25 ty27 ty28 ty48 ty65 ty38 ty67 ty88 afill zeroRow litGet litCells adraw awit adchk pchk qchk gchk looks restr tfin Has hat_z hat_s hat_len hat_appL hat_appN hat_appK hat_setS hat_setN set_appL set_appN set_appK box_t bn aI aJ aK aM ax aN row_t bq aQ aC aR row_one aT
attribute [local go_sem] aU aZ aD aG aH keepT tysB
attribute [local go_sem] C12_ty C12_fn C12_ext C12_eqt s12_cc spCC blB
attribute [local go_sem] List.set_set
set_option maxRecDepth 10000
def Bl (base:Nat) (H:Heap) (b:Nat) (s:ByteArray):Prop:=base≤b∧∃ p,(p = .nilptr∨p = .ptr b 0 0 0)∧((s=⟨#[]⟩∧hat H b=some (blB p .nilsl))∨∃ q v B,base≤q∧hat H b=some (blB p (.sl q 0 s.size v))∧hat H q=some B∧B.ver=v∧B.own=true∧B.len=s.size∧B.t=5∧B.sz=1∧∀ i,i < s.size → B.get i=strGet s i)
theorem Bl.keep {ts:List Nat} {base:Nat} {H H' : Heap} {b:Nat} {s:ByteArray} (h:Bl base H b s) (hf:Fr ts H H') (h1:67 ∉ ts) (h2:5 ∉ ts):Bl base H' b s:=by
 obtain⟨hb,p,hp,h|⟨q,v,B,k0,k1,k2,k3,k4,k5,k6,k7⟩⟩:=h
 ·exact⟨hb,p,hp,.inl ⟨h.1,hf.keep _ _ h.2 h1⟩⟩
 ·exact⟨hb,p,hp,.inr ⟨q,v,B,k0,hf.keep _ _ k1 h1,hf.keep _ _ k2 (by rw[k6];exact h2),k3,k4,k5,k6,k7⟩⟩
theorem strGet_app (s z:ByteArray) (i:Nat) (h:i < s.size):strGet (s ++ z) i=strGet s i:=by
 unfold strGet byteAt
 rw[Int.toNat_natCast,getElem?_pos s i h,getElem?_pos (s ++ z) i (by rw[ByteArray.size_append];omega),ByteArray.getElem_append_left]
theorem strGet_app2 (s z:ByteArray) (i:Nat) (h:s.size≤i) (h2:i < s.size+z.size):strGet (s ++ z) i=strGet z (i - s.size):=by
 unfold strGet byteAt
 rw[Int.toNat_natCast,Int.toNat_natCast,getElem?_pos z (i - s.size) (by omega),getElem?_pos (s ++ z) i (by rw[ByteArray.size_append];omega),ByteArray.getElem_append_right h]
def wr (H:Heap) (b:Nat) (z:ByteArray):Heap:=match hat H b with
 |some B=>match B.get 0 with
  |[_,.nilsl]=>H.set b (blB (.ptr b 0 0 0) (.sl H.length 0 z.size 0)) ++ [newRowBlk 5 1 z.size (strGet z)]
  |[_,.sl q 0 n v]=>match hat H q with
   |some Q=>(H.set q (appBlk Q z.size (strGet z))).set b (blB (.ptr b 0 0 0) (.sl q 0 (n+z.size) (v+1)))
   |none=>H
  |_=>H
 |none=>H
theorem wr_nil {H:Heap} {b:Nat} {p:AV} (z:ByteArray) (h:hat H b=some (blB p .nilsl)):wr H b z=H.set b (blB (.ptr b 0 0 0) (.sl H.length 0 z.size 0)) ++ [newRowBlk 5 1 z.size (strGet z)]:=by unfold wr;rw[h];rfl
theorem wr_row {H:Heap} {b q n v:Nat} {p:AV} {Q:Blk} (z:ByteArray) (h:hat H b=some (blB p (.sl q 0 n v))) (hq:hat H q=some Q):wr H b z=(H.set q (appBlk Q z.size (strGet z))).set b (blB (.ptr b 0 0 0) (.sl q 0 (n+z.size) (v+1))):=by
 unfold wr
 rw[h]
 show(match hat H q with|some Q=>(H.set q (appBlk Q z.size (strGet z))).set b (blB (.ptr b 0 0 0) (.sl q 0 (n+z.size) (v+1)))|none=>H)=_
 rw[hq]
theorem wr_bl {base:Nat} {H:Heap} {b:Nat} {s z:ByteArray} (h:Bl base H b s) (hbl:base≤H.length):Bl base (wr H b z) b (s ++ z)∧Fr [67,5] H (wr H b z):=by
 obtain⟨hb,p,hp,⟨rfl,k1⟩|⟨q,v,B,k0,k1,k2,k3,k4,k5,k6,k7,k8⟩⟩:=h
 ·have lb:=hat_lt k1
  have ez:(⟨#[]⟩ : ByteArray) ++ z=z:=by rw[show(⟨#[]⟩ : ByteArray)=ByteArray.empty from rfl];simp
  rw[wr_nil z k1,ez]
  refine⟨⟨hb,.ptr b 0 0 0,.inr rfl,.inr ⟨H.length,0,newRowBlk 5 1 z.size (strGet z),hbl,?_,hat_appN (by simp),rfl,rfl,rfl,rfl,rfl,fun i hi=>rfl⟩⟩,(Fr.set k1 (by simp[blB,box_t]) _).trans (Fr.app _ _ _)⟩
  rw[hat_appL (by simpa using lb),hat_setS lb]
 ·have lb:=hat_lt k1
  have lq:=hat_lt k2
  have nq:b≠q:=ne_of_t k1 k2 (by rw[k6];simp only[blB,box_t];decide)
  rw[wr_row z k1 k2]
  have hq:hat ((H.set q (appBlk B z.size (strGet z))).set b (blB (.ptr b 0 0 0) (.sl q 0 (s.size+z.size) (v+1)))) q=some (appBlk B z.size (strGet z)):=by
   rw[hat_setN nq,hat_setS lq]
  refine⟨⟨hb,.ptr b 0 0 0,.inr rfl,.inr ⟨q,v+1,appBlk B z.size (strGet z),k0,?_,hq,by show B.ver+1=_;rw[k3],rfl,?_,k6,k7,?_⟩⟩,?_⟩
  ·rw[hat_setS (by simpa using lb),ByteArray.size_append]
  ·rw[ByteArray.size_append,← k5]
   rfl
  ·intro i hi
   rw[ByteArray.size_append] at hi
   show(if i < B.len then B.get i else strGet z (i - B.len))=_
   rw[k5]
   split
   ·rename_i h1
    rw[k8 i h1,strGet_app s z i h1]
   ·rename_i h1
    rw[strGet_app2 s z i (by omega) hi]
  ·exact(Fr.set k2 (by rw[k6];simp) _).trans (Fr.set (B:=blB p (.sl q 0 s.size v)) (by rw[hat_setN nq.symm];exact k1) (by simp[blB,box_t]) _)
def WMid (base:Nat) (H:Heap) (b:Nat) (s z:ByteArray) (T:Tmps) (G:Heap):Prop:=wr H b z=wr G b z∧Am.get T 0 = .ptr b 0 0 0∧Am.get T 1 = .str z∧((s=⟨#[]⟩∧hat G b=some (blB (.ptr b 0 0 0) .nilsl))∨∃ q v B,base≤q∧hat G b=some (blB (.ptr b 0 0 0) (.sl q 0 s.size v))∧hat G q=some B∧B.ver=v∧B.own=true∧B.len=s.size∧B.t=5∧B.sz=1∧∀ i,i < s.size → B.get i=strGet s i)
set_option maxHeartbeats 4000000 in
theorem eT {base:Nat} {H:Heap} {b:Nat} {s z:ByteArray} (h:Bl base H b s) (hbl:base≤H.length) (hz:z.size≠0) (hs:s.size+z.size≤1099511627776):ACalls Tryz.prog 43 [.ptr b 0 0 0,.str z] H fun _ H'=>H' = wr H b z:=by
 refine acalls_ofN (C:=C12) (nt:=Tryz.f43.ntmps) C12ok Tryz.func43 rfl rfl ?_
 have ml:maxLen=9223372036854775807:=by decide
 have hbb:=h.1
 refine awp_step C12ok fun K hK=>?_
 simp[go_sem]
 rw[hK,athen_n]
 refine awp_live [0,1] ?_
 simp[go_sem]
 clear hK K
 refine awp_seq (awp_mono (R:=fun e T G=>e = .normal∧WMid base H b s z T G) ?_ ?_)
 ·refine awalk_sound C12ok _ _ _ _ ?_
  obtain⟨hb,p,rfl|rfl,⟨rfl,k1⟩|⟨q,v,B,k0,k1,k2,k3,k4,k5,k6,k7,k8⟩⟩:=h
  ·have lb:=hat_lt k1
   have k1':=k1
   simp only[blB] at k1
   simp[go_sem,k1]
   have e1:wr (H.set b (blB (.ptr b 0 0 0) .nilsl)) b z=wr H b z:=by
    rw[wr_nil z k1',wr_nil (p:=.ptr b 0 0 0) z (hat_setS lb),List.set_set,List.length_set]
   exact⟨e1.symm,rfl,rfl,.inl ⟨rfl,hat_setS lb⟩⟩
  ·have lb:=hat_lt k1
   have k1':=k1
   have nq:b≠q:=ne_of_t k1 k2 (by rw[k6];simp only[blB,box_t];decide)
   simp only[blB] at k1
   simp[go_sem,k1]
   have e1:wr (H.set b (blB (.ptr b 0 0 0) (.sl q 0 s.size v))) b z=wr H b z:=by
    rw[wr_row z k1' k2,wr_row (p:=.ptr b 0 0 0) z (hat_setS lb) (by rw[hat_setN nq];exact k2),List.set_comm _ _ nq,List.set_set]
   exact⟨e1.symm,rfl,rfl,.inr ⟨q,v,B,k0,hat_setS lb,by rw[hat_setN nq];exact k2,k3,k4,k5,k6,k7,k8⟩⟩
  ·have k1':=k1
   simp only[blB] at k1
   simp[go_sem,k1]
   exact⟨rfl,rfl,rfl,.inl ⟨rfl,k1'⟩⟩
  ·have k1':=k1
   simp only[blB] at k1
   simp[go_sem,k1]
   exact⟨rfl,rfl,rfl,.inr ⟨q,v,B,k0,k1',k2,k3,k4,k5,k6,k7,k8⟩⟩
 ·rintro e T G ⟨rfl,hF,t0,t1,hc⟩
  refine awp_live [0,1] ?_
  simp[go_sem,t0,t1]
  clear t0 t1 T
  refine awalk_sound C12ok _ _ _ _ ?_
  rcases hc with ⟨rfl,k1⟩|⟨q,v,B,k0,k1,k2,k3,k4,k5,k6,k7,k8⟩
  ·have lb:=hat_lt k1
   have k1':=k1
   have hs:z.size≤1099511627776:=by
    have:(⟨#[]⟩ : ByteArray).size=0:=rfl
    omega
   simp only[blB] at k1
   simp[go_sem,k1,lb]
   refine⟨⟨fun e=>hz (by rw[e];rfl),by rw[ml];omega,by omega⟩,.inr rfl,?_⟩
   simp[go_sem]
   exact⟨_,True,⟨rfl,trivial⟩,trivial,by rw[hF,wr_nil z k1'];rfl⟩
  ·have lb:=hat_lt k1
   have k1':=k1
   have lq:=hat_lt k2
   have nq:b≠q:=ne_of_t k1 k2 (by rw[k6];simp only[blB,box_t];decide)
   simp only[blB] at k1
   simp[go_sem,k1,lb,k2,k3,k4,k5,k6,k7,nq,nq.symm,lq]
   refine⟨⟨fun e=>hz (by rw[e];rfl),by rw[ml];omega,by omega⟩,.inr rfl,?_⟩
   simp[go_sem]
   exact⟨_,True,⟨rfl,trivial⟩,trivial,by rw[hF,wr_row z k1' k2];rfl⟩
theorem bytesAV_eq {B:Blk} {s:ByteArray} (h : ∀ i,i < s.size → B.get i=strGet s i):bytesAV B 0 s.size=s:=by
 apply ByteArray.ext
 apply Array.ext'
 show(List.range s.size).map _=s.data.toList
 apply List.ext_getElem
 ·simp
 ·intro i h1 h2
  have hi:i < s.size:=by simpa using h1
  rw[List.getElem_map,List.getElem_range,Nat.zero_add,h i hi]
  have hd:i < s.data.toList.length:=by rw[Array.length_toList];exact hi
  have e:((s[i]?).getD 0)=s.data.toList[i]:=by rw[getElem?_pos s i hi];rfl
  simp only[strGet,Am.byteOf,byteAt,Int.toNat_natCast]
  rw[e]
  simp
theorem strGet_u8 (s:ByteArray) (i:Nat) : ∃ c:UInt8,strGet s i = [.int .u8 c.toNat]:=⟨(s[(i:Int).toNat]?).getD 0,rfl⟩
set_option maxHeartbeats 4000000 in
theorem string_calls {base:Nat} {H:Heap} {b:Nat} {s:ByteArray} (h:Bl base H b s) (hz:s.size≠0):ACalls Tryz.prog 44 [.ptr b 0 0 0] H fun v H'=>v = .str s∧Fr [67,5] H H':=by
 refine acalls_ofN (C:=C12) (nt:=Tryz.f44.ntmps) C12ok Tryz.func44 rfl rfl ?_
 obtain⟨hb,p,hp,⟨rfl,k1⟩|⟨q,v,B,k0,k1,k2,k3,k4,k5,k6,k7,k8⟩⟩:=h
 ·exact absurd rfl hz
 have lb:=hat_lt k1
 have lq:=hat_lt k2
 have hs0:0 < s.size:=by omega
 have hbe:=bytesAV_eq k8
 have hby : ∀ i,i < s.size → ∃ c:UInt8,B.get i = [.int .u8 c.toNat]:=fun i hi=>by rw[k8 i hi];exact strGet_u8 s i
 simp only[blB] at k1
 refine awp_step C12ok fun K hK=>?_
 simp[go_sem]
 rw[hK,athen_n]
 refine awp_live [0] ?_
 simp[go_sem]
 clear hK K
 refine awp_seq ?_
 refine awp_draw C12ok (by kernel_rfl) [0,1,3,7,15,0,32,96,224,480,1023,2047] [.quiet [0],.quiet [0],.quiet [0],.quiet [0],.quiet [0],.quiet [0],.quiet [0],.quiet [0],.quiet [0],.quiet [0],.eff 0,.quiet [1]] 1 (by kernel_rfl) ?_
 simp[go_sem,k1,k2,k3,k4,k5,k6,k7,lb,lq]
 refine⟨⟨hs0,hby⟩,awp_ret ⟨.inr rfl,?_⟩⟩
 simp[go_sem]
 refine⟨_,True,⟨rfl,trivial⟩,trivial,by rw[hbe],Fr.set k2 (by rw[k6];simp) _⟩
end Go.Proofs.YtjokedpaidmjoaaGreatDoor.Rf
