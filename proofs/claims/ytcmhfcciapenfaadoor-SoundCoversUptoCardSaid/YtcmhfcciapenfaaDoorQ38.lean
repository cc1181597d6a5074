/- A part of the proof. -/
import Derived.Test.YtcmhfcciapenfaaDoorQ37
set_option linter.all false
namespace Go.Proofs.YtcmhfcciapenfaaDoor.Pa
open Go Go.RowKit Go.Proofs.YtcmhfcciapenfaaDoorW.PrintWords Am
attribute [local go_sem] areg aseq gstep astep apick aop aslice alen aappend unw opTmps opnds tmpsOf aev Am.get ofConst ofConst1 putT strip abin aun initT AThen AIn ares oneOr bound asInt fieldOf ldv boxBlk setSeg Blk.put AV.cells AV.whole AV.cell tys ty33 ty26 ty41 ty28 ty45 ty29 ty48 ty70 ty49 ty3 ty2 ty4 ty9 ty35 Ty.agg
attribute [local go_sem] seaBlk winBlk blkBlk seaV winV blkV Has hget hget0 hat_z hat_s tarV_all tarV_len tarV_take tarV_15 tarV_16 tarV_17 tarV_18 tarH_0 tarH_1 tarH_2 tarH_3 specs9
theorem C9_ty:C9.ty=tys:=rfl
theorem C9_fn:C9.fn=specs9:=rfl
attribute [local go_sem] C9_ty C9_fn
set_option maxRecDepth 10000
theorem dU {n:Int} (h1 : -9223372036854775808≤n) (h2:n≤9223372036854775807):IntKind.i64.wrap n=n:=by rw[IntKind.wrap_i64];omega
def covS (d:Int):List S41 → Int → ByteArray → Int × ByteArray
 |[],n,m=>(n,m)
 |s :: r,n,m=>if holdsB s.f1 s.f2 d=true then covS d r (IntKind.i64.wrap (n+1)) s.f0 else covS d r n m
def covW (name:ByteArray) (kind minute:Int):List S45 → Int → ByteArray → Int × ByteArray
 |[],n,m=>(n,m)
 |w :: r,n,m=>if ((((w.f0.toList == name.toList) && (w.f1 == kind)) && decide (w.f2≤minute)) && decide (minute < w.f3))=true then covW name kind minute r (IntKind.i64.wrap (n+1)) w.f4 else covW name kind minute r n m
def covB (bucket:ByteArray):List S48 → Int → Int
 |[],n=>n
 |b :: r,n=>if (b.f0.toList == bucket.toList)=true then covB bucket r (IntKind.i64.wrap (n+1)) else covB bucket r n
noncomputable def covers (t:Tar) (day kind minute:Int):Bool:=
 let k:=IntKind.i64.wrap ((IntKind.u64.wrap kind).tmod 4)
 let m:=IntKind.i64.wrap ((IntKind.u64.wrap minute).tmod 1440)
 let s:=covS (mdR day) t.f15 0 ⟨#[]⟩
 let w:=covW s.2 k m t.f17 0 ⟨#[]⟩
 (s.1 == 1) && (w.1 == 1) && (covB w.2 t.f18 0 == 1)
theorem covers_calls (t:Tar) (day kind minute:Int) (n e:Int) (hl:TarLen t) (hcs:dO t=true) (hk : ∃ k,sCheck.f k t=some (n,e)) (h15 : ∀ s∈t.f15,in64 s.f1∧in64 s.f2) (hd:in64 (mdR day)) :
  ACalls Tryd.prog 9 [.agg (tarV t),.int .i64 day,.int .i64 kind,.int .i64 minute] (tarH t) fun v H'=>v = .bool (if e=0 then covers t day kind minute else (e == 2))∧H' = tarH t:=by
 refine acalls_of (C:=C9) (nt:=130) C9ok Tryd.func9 rfl rfl fun hclo=>?_
 refine awp_seq (awp_reg C9ok ?_)
 simp[go_sem]
 refine awp_seq (awp_seq (awp_reg C9ok ?_))
 simp[go_sem]
 refine awp_cond (b:=false) rfl (fun h=>by cases h) fun _=>awp_skip ?_
 simp[go_sem]
 refine awp_seq (awp_region (aops_pref C9ok 1 ?_))
 simp[go_sem]
 obtain⟨k,hk⟩:=hk
 refine aops_two (v:=.tup [.int .i64 n,.int .i64 e]) C9ok rfl rfl rfl rfl rfl rfl (by decide) (by decide) Tryd.func13 (by kernel_rfl) (by kernel_rfl) Tryd.func12 (by kernel_rfl) (by kernel_rfl) rfl (fun φ base W vs hS hv=>?_) ?_
 ·simp[go_sem] at hv
  obtain⟨u,us,rfl,hu,hus⟩:=cons_inv hv
  obtain rfl:=(show us = [] from hus)
  obtain⟨cs,rfl,hT⟩:=tar_K hS hu hl
  unfold dO at hcs
  simp only[Bool.and_eq_true,decide_eq_true_eq,List.all_eq_true] at hcs
  obtain⟨⟨⟨⟨s15,s16⟩,s17⟩,s18⟩,ss⟩:=hcs
  refine(copy9.calls t cs W hT s15 s16 s17 s18 ss).mono ?_
  rintro e1 W1 ⟨AS,cS,AH,cH,AW,cW,AB,cB,rfl,r15,r16,r17,r18,hb⟩
  refine⟨_,rfl,hb,?_⟩
  exact sCheck.calls k t _ n e W1 (kTar_ofR t r15 r16 r17 r18) hk
 refine aops_pref C9ok 5 ?_
 simp[go_sem]
 refine aops_nil ?_
 simp[go_sem]
 refine awp_seq (awp_seq (awp_reg C9ok ?_))
 simp[go_sem]
 refine awp_cond (b:=e != 0) rfl (fun he=>?_) fun he=>awp_skip ?_
 ·refine awp_seq (awp_reg C9ok ?_)
  simp[go_sem]
  refine awp_ret ⟨.inr rfl,_,_,rfl,trivial,tarH t,_,rfl,Nat.le_refl _,hclo,trivial,?_⟩
  have he:e≠0:=by simpa using he
  simp[go_sem,he]
 have he:e=0:=by simpa using he
 subst he
 simp[go_sem]
 refine awp_seq (awp_reg C9ok ?_)
 simp[go_sem]
 refine awp_seq (awp_reg C9ok ?_)
 simp[go_sem]
 refine awp_seq (awp_seq (awp_reg C9ok ?_))
 simp[go_sem]
 generalize hk' : IntKind.i64.wrap ((IntKind.u64.wrap kind).tmod 4)=kd
 generalize hm' : IntKind.i64.wrap ((IntKind.u64.wrap minute).tmod 1440)=mn
 have hbox:Closed (tarH t ++ [boxBlk 33 28 (tarV t)]):=hclo.app (fun B hB i _=>by
  simp at hB;subst hB
  show Smalls _ (tarV t)
  simp[tarV,Smalls,Small,tarH])
 refine awp_block (awp_loopW (fun k T H=>∃ (j:Nat) (c:Int) (m:ByteArray),k+j=t.f15.length∧covS (mdR day) (t.f15.drop j) c m=covS (mdR day) t.f15 0 ⟨#[]⟩∧H=tarH t ++ [boxBlk 33 28 (tarV t)]∧
   T = [(46,.int .i64 j),(45,.int .i64 t.f15.length),(13,.str m),(12,.int .i64 c),(11,.int .i64 (mdR day)),(4,.ptr (tarH t).length 0 0 0),(3,.int .i64 mn),(2,.int .i64 kd),(8,.bool false)]) t.f15.length _ _ ⟨?_,.inl rfl⟩ ⟨0,0,⟨#[]⟩,by omega,rfl,rfl,rfl⟩ ?_)
 ·simp[go_sem]
 rintro k T H ⟨j,c,m,hj,hcv,rfl,rfl⟩
 refine awp_seq (awp_reg C9ok ?_)
 simp[go_sem]
 refine awp_seq (awp_cond (b:=decide (j < t.f15.length)) (by simp[go_sem]) (fun h=>awp_skip ?_) fun h=>awp_exit ?_)
 ·have h:j < t.f15.length:=by simpa using h
  obtain⟨s,hs⟩ : ∃ s,t.f15[j]? = some s:=⟨_,List.getElem?_eq_getElem h⟩
  have hb:=h15 s (List.mem_of_getElem? hs)
  have hdr:t.f15.drop j=s :: t.f15.drop (j+1):=by
   rw[List.drop_eq_getElem_cons h]
   congr 1
   exact(List.getElem?_eq_some_iff.1 hs).2
  simp[go_sem]
  refine awp_seq (awp_block (awp_seq (awp_reg C9ok ?_)))
  simp[go_sem]
  refine awp_seq (awp_reg C9ok ?_)
  have hs' : t.f15[j]=s:=(List.getElem?_eq_some_iff.1 hs).2
  simp[go_sem,hs',hb,hd,h]
  refine awp_cond (b:=holdsB s.f1 s.f2 (mdR day)) rfl (fun hh=>?_) (fun hh=>awp_skip ?_)
  ·refine awp_seq (awp_reg C9ok ?_)
   simp[go_sem]
   refine awp_reg C9ok ?_
   simp[go_sem,hs',h]
   refine awp_reg C9ok ?_
   simp[go_sem]
   refine⟨k - 1,by omega,_,_,⟨?_,.inl rfl⟩,j+1,by omega,IntKind.i64.wrap (c+1),s.f0,?_,rfl,rfl⟩
   ·simp[go_sem]
    exact dU (by omega) (by have:=hl.l15;omega)
   ·rw[← hcv,hdr,covS,if_pos hh]
  ·simp[go_sem]
   refine awp_reg C9ok ?_
   simp[go_sem]
   refine⟨k - 1,by omega,_,_,⟨?_,.inl rfl⟩,j+1,by omega,c,m,?_,rfl,rfl⟩
   ·simp[go_sem]
    exact dU (by omega) (by have:=hl.l15;omega)
   ·rw[← hcv,hdr,covS,if_neg (by rw[hh];simp)]
 ·have h : ¬ j < t.f15.length:=by simpa using h
  have hdr:t.f15.drop j = []:=List.drop_eq_nil_of_le (by omega)
  rw[hdr] at hcv
  simp[go_sem]
  refine awp_seq (awp_reg C9ok ?_)
  simp[go_sem]
  refine awp_seq (awp_seq (awp_reg C9ok ?_))
  simp[go_sem]
  refine awp_block (awp_loopW (fun k T H=>∃ (j:Nat) (c2:Int) (m2:ByteArray),k+j=t.f17.length∧covW m kd mn (t.f17.drop j) c2 m2=covW m kd mn t.f17 0 ⟨#[]⟩∧H=tarH t ++ [boxBlk 33 28 (tarV t)]∧
   T = [(68,.int .i64 j),(67,.int .i64 t.f17.length),(16,.str m2),(15,.int .i64 c2),(13,.str m),(12,.int .i64 c),(4,.ptr (tarH t).length 0 0 0),(3,.int .i64 mn),(2,.int .i64 kd),(8,.bool false)]) t.f17.length _ _ ⟨?_,.inl rfl⟩ ⟨0,0,⟨#[]⟩,by omega,rfl,rfl,rfl⟩ ?_)
  ·simp[go_sem]
  rintro k T H ⟨j,c2,m2,hj,hcw,rfl,rfl⟩
  refine awp_seq (awp_reg C9ok ?_)
  simp[go_sem]
  refine awp_seq (awp_cond (b:=decide (j < t.f17.length)) (by simp[go_sem]) (fun h=>awp_skip ?_) fun h=>awp_exit ?_)
  ·have h:j < t.f17.length:=by simpa using h
   obtain⟨s,hs⟩ : ∃ s,t.f17[j]? = some s:=⟨_,List.getElem?_eq_getElem h⟩
   have hdr:t.f17.drop j=s :: t.f17.drop (j+1):=by
    rw[List.drop_eq_getElem_cons h]
    congr 1
    exact(List.getElem?_eq_some_iff.1 hs).2
   have hw1:IntKind.i64.wrap ((j:Int)+1)=(j:Int)+1:=dU (by omega) (by have:=hl.l17;omega)
   simp[go_sem]
   refine awp_seq (awp_block (awp_seq (awp_reg C9ok ?_)))
   simp[go_sem]
   refine awp_seq (awp_reg C9ok ?_)
   have hs' : t.f17[j]=s:=(List.getElem?_eq_some_iff.1 hs).2
   simp[go_sem,hs',h]
   refine awp_seq (awp_reg C9ok ?_)
   simp[go_sem]
   refine awp_cond (b:=((((s.f0.toList == m.toList) && (s.f1 == kd)) && decide (s.f2≤mn)) && decide (mn < s.f3))) (by simp[go_sem]) (fun hh=>?_) (fun hh=>awp_skip ?_)
   ·refine awp_seq (awp_reg C9ok ?_)
    simp[go_sem]
    refine awp_reg C9ok ?_
    simp[go_sem]
    refine awp_reg C9ok ?_
    simp[go_sem]
    refine⟨k - 1,by omega,_,_,⟨?_,.inr ⟨[_],(List.append_assoc _ [_] [_]).symm,by simp,hbox,?_⟩⟩,j+1,by omega,IntKind.i64.wrap (c2+1),s.f4,?_,rfl,rfl⟩
    ·simp[go_sem,hw1]
    ·simp[smallT,Small]
    ·rw[← hcw,hdr,covW,if_pos hh]
   ·simp[go_sem]
    refine awp_reg C9ok ?_
    simp[go_sem]
    refine⟨k - 1,by omega,_,_,⟨?_,.inr ⟨[_],(List.append_assoc _ [_] [_]).symm,by simp,hbox,?_⟩⟩,j+1,by omega,c2,m2,?_,rfl,rfl⟩
    ·simp[go_sem,hw1]
    ·simp[smallT,Small]
    ·rw[← hcw,hdr,covW,if_neg (by rw[hh];simp)]
  ·have h : ¬ j < t.f17.length:=by simpa using h
   have hdr:t.f17.drop j = []:=List.drop_eq_nil_of_le (by omega)
   rw[hdr] at hcw
   simp[go_sem]
   refine awp_seq (awp_reg C9ok ?_)
   simp[go_sem]
   refine awp_seq (awp_seq (awp_reg C9ok ?_))
   simp[go_sem]
   refine awp_block (awp_loopW (fun k T H=>∃ (j:Nat) (c3:Int),k+j=t.f18.length∧covB m2 (t.f18.drop j) c3=covB m2 t.f18 0∧H=tarH t ++ [boxBlk 33 28 (tarV t)]∧
    T = [(106,.int .i64 j),(105,.int .i64 t.f18.length),(19,.int .i64 c3),(16,.str m2),(15,.int .i64 c2),(12,.int .i64 c),(4,.ptr (tarH t).length 0 0 0),(8,.bool false)]) t.f18.length _ _ ⟨?_,.inl rfl⟩ ⟨0,0,by omega,rfl,rfl,rfl⟩ ?_)
   ·simp[go_sem]
   rintro k T H ⟨j,c3,hj,hcb,rfl,rfl⟩
   refine awp_seq (awp_reg C9ok ?_)
   simp[go_sem]
   refine awp_seq (awp_cond (b:=decide (j < t.f18.length)) (by simp[go_sem]) (fun h=>awp_skip ?_) fun h=>awp_exit ?_)
   ·have h:j < t.f18.length:=by simpa using h
    obtain⟨s,hs⟩ : ∃ s,t.f18[j]? = some s:=⟨_,List.getElem?_eq_getElem h⟩
    have hdr:t.f18.drop j=s :: t.f18.drop (j+1):=by
     rw[List.drop_eq_getElem_cons h]
     congr 1
     exact(List.getElem?_eq_some_iff.1 hs).2
    have hw1:IntKind.i64.wrap ((j:Int)+1)=(j:Int)+1:=dU (by omega) (by have:=hl.l18;omega)
    have hs' : t.f18[j]=s:=(List.getElem?_eq_some_iff.1 hs).2
    simp[go_sem]
    refine awp_seq (awp_block (awp_seq (awp_reg C9ok ?_)))
    simp[go_sem]
    refine awp_seq (awp_reg C9ok ?_)
    simp[go_sem,hs',h]
    refine awp_cond (b:=(s.f0.toList == m2.toList)) (by simp[go_sem]) (fun hh=>?_) (fun hh=>awp_skip ?_)
    ·refine awp_reg C9ok ?_
     simp[go_sem]
     refine awp_reg C9ok ?_
     simp[go_sem]
     refine⟨k - 1,by omega,_,_,⟨?_,.inl rfl⟩,j+1,by omega,IntKind.i64.wrap (c3+1),?_,rfl,rfl⟩
     ·simp[go_sem,hw1]
     ·rw[← hcb,hdr,covB,if_pos hh]
    ·simp[go_sem]
     refine awp_reg C9ok ?_
     simp[go_sem]
     refine⟨k - 1,by omega,_,_,⟨?_,.inl rfl⟩,j+1,by omega,c3,?_,rfl,rfl⟩
     ·simp[go_sem,hw1]
     ·rw[← hcb,hdr,covB,if_neg (by rw[hh];simp)]
   ·have h : ¬ j < t.f18.length:=by simpa using h
    have hdr:t.f18.drop j = []:=List.drop_eq_nil_of_le (by omega)
    rw[hdr] at hcb
    simp[go_sem]
    refine awp_seq (awp_reg C9ok ?_)
    simp[go_sem]
    refine awp_ret ⟨.inr rfl,_,_,rfl,trivial,tarH t,_,rfl,Nat.le_refl _,hclo,trivial,?_⟩
    have e1:covS (mdR day) t.f15 0 ⟨#[]⟩=(c,m):=by rw[← hcv];rfl
    have e2:covW m kd mn t.f17 0 ⟨#[]⟩=(c2,m2):=by rw[← hcw];rfl
    have e3:covB m2 t.f18 0=c3:=by rw[← hcb];rfl
    unfold covers
    simp only[hk',hm',e1,e2,e3]
    simp[go_sem]
end Go.Proofs.YtcmhfcciapenfaaDoor.Pa
