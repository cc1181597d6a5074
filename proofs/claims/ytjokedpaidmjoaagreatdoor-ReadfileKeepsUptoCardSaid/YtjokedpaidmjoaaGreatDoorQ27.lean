/- A part of the proof. -/
import Derived.Test.YtjokedpaidmjoaaGreatDoorQ26
set_option linter.all false
namespace Go.Proofs.YtjokedpaidmjoaaGreatDoor.Rf
open Go Go.RowKit Go.Proofs.YtjokedpaidmjoaaGreatDoor.Am Go.Proofs.YtjokedpaidmjoaaGreatDoor.Pu Go.Proofs.YtjokedpaidmjoaaGreatDoor
attribute [local go_sem] areg aseq gstep gwant astep apick aop aslice alen aappend aappendS aconvS aconvB unw opTmps opnds tmpsOf aev Am.get ofConst ofConst1 putT strip abin aun initT AThen AIn ws_n ws_r ws_e ws_g aw_seq aw_reg aw_draw aw_cond aw_block aw_skip aw_ret aw_exit aw_goto aw_label aw_loop aw_scope ANoGoto AJ ares oneOr bound asInt fieldOf ldv setSeg AV.cells AV.whole AV.cell tys Ty.agg ty9 ty3 ty2 ty5 ty4 ty89 ty21 ty37 ty46 ty83 ty73 ty81 ty41 ty23 ty25 ty27 ty28 ty48 afill zeroRow litGet litCells adraw awit adchk pchk qchk gchk looks restr tfin Has hat_z hat_s hat_len hat_appL hat_appN hat_appK hat_setS hat_setN set_appL set_appN set_appK box_t bn aD aG aH aI ax aJ row_t bq aK ay aM row_one aN
attribute [local go_sem] aQ bu aR aT aU intB_t eU dQ dR dS
attribute [local go_sem] C8_ty C8_fn C8_ext C8_eqt bA fG cB dU dm
attribute [local go_sem] List.set_set Am.asInt
set_option maxRecDepth 10000
def spAt:Am.Spec:=fun args H=>match args with
 |[.sl b 0 n v,.int .i64 k]=>match hat H b with
  |some B=>some (.int .i64 ((fF B n).getD k.toNat 0),H ++ [intB (fF B n)],bZ B n v∧tot ((strsOf B n).map Bs)≤900000000∧0≤k∧k < (fF B n).length)
  |none=>none
 |_=>none
def fH:Am.Spec:=fun args H=>match args with
 |[.sl b 0 n v,.int .i64 k,.int .i64 l,.int .i64 m]=>match hat H b with
  |some B=>some (.tup [.int .i64 (numP (strAt B k.toNat) l m).1,.bool ((numP (strAt B k.toNat) l m).2 == 0)],H,bZ B n v∧0≤k∧k < n∧(strAt B k.toNat).size≤1000000000)
  |none=>none
 |_=>none
theorem spAt_ok:SpecOk Tryz.prog 50 spAt:=by
 refine⟨⟨Tryz.f50,Tryz.func50,by kernel_rfl,by kernel_rfl⟩,fun args H v H1 ob h hob=>?_⟩
 unfold spAt at h
 split at h
 ·rename_i b n w k
  split at h
  ·rename_i B hB
   cases h
   obtain⟨h1,h2,h3,h4⟩:=hob
   refine acalls_ofN (C:=C8) (nt:=10) C8ok Tryz.func50 rfl rfl ?_
   refine awalk_sound C8ok _ _ _ _ ?_
   have hk:k.toNat < (fF B n).length:=by omega
   simp[go_sem,hB,h1,h2,h3,h4,hk]
   exact⟨.inr rfl,_,_,rfl,trivial,rfl,rfl⟩
  ·cases h
 ·cases h
theorem spRNum_ok:SpecOk Tryz.prog 51 fH:=by
 refine⟨⟨Tryz.f51,Tryz.func51,by kernel_rfl,by kernel_rfl⟩,fun args H v H1 ob h hob=>?_⟩
 unfold fH at h
 split at h
 ·rename_i b n w k l m
  split at h
  ·rename_i B hB
   cases h
   obtain⟨⟨q1,q2,q3,q4,q5⟩,h2,h3,h4⟩:=hob
   refine acalls_ofN (C:=C8) (nt:=25) C8ok Tryz.func51 rfl rfl ?_
   refine awalk_sound C8ok _ _ _ _ ?_
   have g:=q5 k.toNat (by omega)
   have hk:k.toNat < B.len:=by omega
   simp[go_sem,hB,q1,q2,g,h2,h3,h4,hk]
   exact⟨.inr rfl,_,_,rfl,trivial,rfl,rfl⟩
  ·cases h
 ·cases h
theorem s8_rlines:bA 47=some dm:=rfl
theorem byteAt_Bs {a:ByteArray} {k:Nat} (h:k < a.size):byteAt a ((k:Nat):Int)=10↔(Bs a)[k]? = some 10:=by
 have hl:k < (Bs a).length:=by rw[ai];exact h
 unfold byteAt
 rw[Int.toNat_natCast,List.getElem?_eq_getElem hl]
 have e:(a[k]?).getD 0=(Bs a)[k]:=by
  rw[show a[k]? = some a[k] from getElem?_pos a k h]
  rfl
 rw[e]
 constructor
 ·intro q
  congr 1
  exact UInt8.toNat_inj.1 (by rw[show(10:UInt8).toNat=10 from rfl];omega)
 ·intro q
  exact congrArg (fun c:UInt8=>(c.toNat:Int)) (Option.some.inj q)
theorem cut_step {a:ByteArray} {k:Nat} (h1:k+1≤a.size) (h2:cutN a≤k+1):(byteAt a ((k:Nat):Int)=10 → cutN a=k+1)∧(¬ byteAt a ((k:Nat):Int)=10 → cutN a≤k):=by
 rw[byteAt_Bs (by omega)]
 unfold cutN at h2 ⊢
 rcases fu a with ⟨h,g⟩|⟨i,g1,h,g2,g3⟩
 ·rw[h] at h2 ⊢
  exact⟨fun q=>absurd q (g k (by omega)),fun _=>by omega⟩
 ·rw[h] at h2 ⊢
  refine⟨fun q=>?_,fun q=>?_⟩
  ·have : ¬ i < k:=fun hik=>g3 k hik (by omega) q
   omega
  ·have:i≠k:=fun e=>q (by rw[← e];exact g2)
   omega
theorem split_calls {H:Heap} {a:ByteArray} (hs:a.size≤70368744177664) :
  ACalls Tryz.prog 19 [.str a] H fun v H'=>Fr [] H H'∧if 1048576 < a.size then v = .tup [.agg [.nilsl,.bool false],.int .i64 9] else ∃ lb,v = .tup [.agg [.sl lb 0 (aC a).length 0,.bool (decide (cutN a < a.size))],.int .i64 0]∧hat H' lb=some (strB (aC a))∧H.length≤lb:=by
 refine acalls_ofN (C:=C8) (nt:=39) C8ok Tryz.func19 rfl rfl ?_
 refine awalk_sound C8ok _ _ _ _ ?_
 have hc:=cutN_le a
 rw[aw_seq]
 generalize hK:WSeq _ _ _ _ _=K
 simp[go_sem]
 rw[← hK,ws_n,aw_seq,aw_seq]
 clear hK
 generalize hK:WSeq _ _ _ _ _=K
 simp[go_sem]
 rw[← hK,ws_n]
 clear hK
 generalize hK:WSeq _ _ _ _ _=K
 by_cases hl:1048576 < a.size
 ·have hl' : (1048576:Int) < a.size:=by omega
  simp[go_sem,hl']
  rw[← hK,ws_r]
  refine⟨.inr rfl,[.agg [.nilsl,.bool false],.int .i64 9],True,?_,trivial,Fr.app _ _ _,?_⟩
  ·simp[go_sem]
  ·rw[if_pos hl]
   rfl
 ·have hl' : ¬ (1048576:Int) < a.size:=by omega
  simp[go_sem,hl']
  rw[← hK,ws_n,aw_seq]
  clear hK
  generalize hK:WSeq _ _ _ _ _=K
  simp[go_sem]
  rw[← hK,ws_n,aw_seq,aw_block,aw_loop]
  clear hK
  generalize hKo:WSeq _ _ _ _ _=Ko
  have fin : ∀ T,Am.get T 0 = .str a → Am.get T 2 = .ptr H.length 0 0 0 → Am.get T 4 = .int .i64 (cutN a) → Ko .normal T (H ++ [boxBlk 48 2 [.nilsl,.bool false]]):=by
   intro T t0 t2 t4
   rw[← hKo,ws_n,aw_seq]
   generalize hK:WSeq _ _ _ _ _=K
   have e:=cut_ok a (by omega)
   have ek:(LS (a.extract 0 (cutN a))).1=aC a:=rfl
   simp[go_sem,t0,t4,s8_rlines,dm,e,ek]
   refine⟨hc,?_⟩
   rw[← hK,ws_n,aw_seq]
   clear hK
   generalize hK:WSeq _ _ _ _ _=K
   simp[go_sem,t0,t2,t4]
   rw[← hK,ws_n]
   simp[go_sem]
   refine⟨.inr rfl,[.agg [.sl (H.length+1) 0 (aC a).length 0,.bool (decide (cutN a < a.size))],.int .i64 0],True,?_,trivial,Fr.app _ _ _,?_⟩
   ·simp[go_sem,t2]
   ·rw[if_neg hl]
    exact⟨H.length+1,rfl,hat_appK 1 rfl,by omega⟩
  refine awp_loopW (fun k T H'=>H' = H ++ [boxBlk 48 2 [.nilsl,.bool false]]∧k≤a.size∧cutN a≤k∧T = [(4,.int .i64 k),(3,.int .i64 0),(2,.ptr H.length 0 0 0),(0,.str a)]) a.size _ _ ⟨?_,.inl rfl⟩ ⟨rfl,by omega,hc,rfl⟩ ?_
  ·simp[go_sem]
  rintro k T H' ⟨rfl,hk1,hk2,rfl⟩
  refine awalk_sound C8ok _ _ _ _ ?_
  rw[aw_seq,aw_seq]
  generalize hK:WSeq _ _ _ _ _=K
  simp[go_sem]
  cases k with
  |zero=>
   refine⟨by simp,?_⟩
   rw[← hK,ws_n]
   simp[go_sem]
   exact fin _ rfl rfl (by rw[show cutN a=0 by omega];rfl)
  |succ k=>
   have hw:IntKind.i64.wrap (((k+1:Nat):Int) - 1)=(k:Int):=by rw[av (by omega) (by omega)];omega
   obtain⟨c1,c2⟩:=cut_step hk1 hk2
   rw[hw]
   refine⟨fun _=>⟨by omega,by omega,by omega⟩,?_⟩
   rw[← hK,ws_n]
   by_cases hb:byteAt a (k:Int)=10
   ·have hbb:(byteAt a (k:Int) != 10)=false:=by simp[hb]
    rw[hbb]
    simp[go_sem]
    exact fin _ rfl rfl (by rw[c1 hb];rfl)
   ·have hbb:(byteAt a (k:Int) != 10)=true:=by simp[hb]
    rw[hbb]
    simp[go_sem]
    have hw2:IntKind.i64.wrap (k:Int)=k:=av (by omega) (by omega)
    exact⟨k,by omega,[(4,.int .i64 k),(3,.int .i64 0),(2,.ptr H.length 0 0 0),(0,.str a)],_,⟨⟨by rw[hw2];rfl,rfl,rfl,rfl,trivial⟩,.inl rfl⟩,rfl,by omega,c2 hb,rfl⟩
end Go.Proofs.YtjokedpaidmjoaaGreatDoor.Rf
