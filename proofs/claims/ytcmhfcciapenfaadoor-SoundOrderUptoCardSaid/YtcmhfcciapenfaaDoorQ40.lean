/- A part of the proof. -/
import Derived.Test.YtcmhfcciapenfaaDoorQ39
set_option linter.all false
namespace Go.Proofs.YtcmhfcciapenfaaDoor.Pa
open Go Go.RowKit Go.Proofs.YtcmhfcciapenfaaDoorW.PrintWords Am
attribute [local go_sem] areg aseq gstep astep apick aop aslice alen aappend unw opTmps opnds tmpsOf aev Am.get ofConst ofConst1 putT strip abin aun initT AThen AIn ares oneOr bound asInt fieldOf ldv boxBlk setSeg Blk.put AV.cells AV.whole AV.cell tys ty33 ty26 ty41 ty28 ty45 ty29 ty48 ty70 ty49 ty3 ty2 ty4 ty9 ty35 Ty.agg ty27 ty43 ty46 afill zeroRow newRowBlk litGet appBlk litCells
attribute [local go_sem] adraw awit adchk pchk qchk gchk looks restr tfin
attribute [local go_sem] seaBlk holBlk winBlk blkBlk fB seaV holV winV blkV stpV Has hget hget0 hat_z hat_s specs9 tarV_all tarV_len tarV_take tarV_15 tarV_16 tarV_17 tarV_18
attribute [local go_sem] C9_ty C9_fn
set_option maxRecDepth 10000
def revT (t:Tar):Tar:={ t with f15:=t.f15.reverse,f16:=t.f16.reverse,f17:=t.f17.reverse,f18:=t.f18.reverse }
theorem tarIn_mk (t:Tar) (L:Heap):TarIn t (tarH t ++ L) where
 g0 X:=rfl
 g1 X:=rfl
 g2 X:=rfl
 g3 X:=rfl
 g4 X i s h:=by
  unfold hat
  rw[List.append_assoc,List.getElem?_append_left (by have:=(List.getElem?_eq_some_iff.1 h).1;simp[tarH];omega)]
  simp[tarH,h]
theorem order_calls (t:Tar) (n e m f:Int) (hl:TarLen t) (hcs:dF t=true) (hk : ∃ k,sCheck.f k t=some (n,e)) (hk2 : ∃ k,sCheck.f k (revT t)=some (m,f)) :
  ACalls Tryd.prog 4 [.agg (tarV t)] (tarH t) fun v H'=>v = .bool ((n == m) && (e == f))∧H' = tarH t:=by
 refine acalls_of (C:=C9) (nt:=119) C9ok Tryd.func4 rfl rfl fun hclo=>?_
 refine awp_seq (awp_reg C9ok ?_)
 simp[go_sem]
 refine awp_seq (awp_seq (awp_reg C9ok ?_))
 simp[go_sem]
 refine awp_cond (b:=false) rfl (fun h=>by cases h) fun _=>awp_skip ?_
 simp[go_sem]
 refine awp_seq (awp_region (dL C9ok 1 ?_))
 simp[go_sem]
 obtain⟨k,hk⟩:=hk
 have hcs':=hcs
 unfold dF at hcs
 simp only[Bool.and_eq_true,decide_eq_true_eq,List.all_eq_true] at hcs
 obtain⟨⟨⟨⟨s15,s16⟩,s17⟩,s18⟩,ss⟩:=hcs
 refine aops_two (v:=.tup [.int .i64 n,.int .i64 e]) C9ok rfl rfl rfl rfl rfl rfl (by decide) (by decide) Tryd.func13 (by kernel_rfl) (by kernel_rfl) Tryd.func12 (by kernel_rfl) (by kernel_rfl) rfl (fun φ base W vs hS hv=>?_) ?_
 ·simp[go_sem] at hv
  obtain⟨u,us,rfl,hu,hus⟩:=cons_inv hv
  obtain rfl:=(show us = [] from hus)
  obtain⟨cs,rfl,hT⟩:=tar_K hS hu hl
  refine(copy9.calls t cs W hT s15 s16 s17 s18 ss).mono ?_
  rintro e1 W1 ⟨AS,cS,AH,cH,AW,cW,AB,cB,rfl,r15,r16,r17,r18,hb⟩
  refine⟨_,rfl,hb,?_⟩
  exact sCheck.calls k t _ n e W1 (kTar_ofR t r15 r16 r17 r18) hk
 refine dL C9ok 5 ?_
 simp[go_sem]
 refine aops_nil ?_
 simp[go_sem]
 obtain⟨H,hH⟩ : ∃ H,H=tarH t ++ [boxBlk 33 28 (tarV t)]:=⟨_,rfl⟩
 have hI:TarIn t H:=by rw[hH];exact tarIn_mk t _
 have gb : ∀ X,hat (H ++ X) (tarH t).length=some (boxBlk 33 28 (tarV t)):=fun X=>by
  rw[hH]
  simp[hget0,hat_z]
 have gb0:=gb []
 rw[List.append_nil] at gb0
 have hbl:(tarH t).length < H.length:=by rw[hH];simp
 refine awp_weak (T2:=[(4,.int .i64 e),(3,.int .i64 n),(1,.ptr (tarH t).length 0 0 0)]) (H2:=H) ⟨by simp[go_sem],.inl hH.symm⟩ ?_
 generalize (tarH t).length=b at gb gb0 hbl ⊢
 simp only[go_sem] at gb gb0
 refine awp_seq (awp_region (dL C9ok 1 ?_))
 simp[go_sem,gb0]
 refine aops_call rfl rfl rfl rfl Tryd.func13 (by kernel_rfl) (by kernel_rfl) (copy_calls t H hI hl hcs') ?_
 rintro v H1 ⟨c18,b0,b1,rest,rfl,rfl,hcp⟩
 refine⟨_,rfl,dL C9ok 2 ?_⟩
 have hc18:AV.cell c18=true:=by rcases hcp with ⟨_,rfl,_⟩|⟨_,_,_,_,_,_,rfl,_⟩ <;> rfl
 simp only[AV.cell] at hc18
 simp[go_sem,cpV,hc18]
 refine aops_nil ?_
 simp[go_sem]
 refine awp_seq (awp_seq (awp_reg C9ok ?_))
 have g0:=hI.g0
 have g1:=hI.g1
 have g2:=hI.g2
 have g3:=hI.g3
 have l15:=hl.l15
 have l16:=hl.l16
 have l17:=hl.l17
 have l18:=hl.l18
 simp[go_sem,gb,g0]
 generalize hp:H.length+(rest.length+1+1+1+1+1)=p
 let bU:Blk:=boxBlk 33 28 (cpV t H.length c18)
 have gp : ∀ (x0 x1 x2 x3 x4:Blk) (r:Heap),r.length=rest.length → hat (H ++ x0 :: x1 :: x2 :: x3 :: x4 :: (r ++ [bU])) p=some bU:=by
  intro x0 x1 x2 x3 x4 r hr
  unfold hat
  rw[← hp,List.getElem?_append_right (by omega)]
  simp[← hr]
 refine awp_block (awp_loopW (fun k T H'=>∃ (j:Nat) (g:Nat → List AV),k+j=t.f15.length∧(∀ i,i < t.f15.length → (g i).length=3)∧(∀ i x,i < j → t.f15.reverse[i]? = some x → g i=seaV x)∧
   H' = H ++ b0 :: b1 :: { t:=41,sz:=3,own:=true,ver:=1,len:=t.f15.length,get:=g } :: ohol t.f16 :: owin t.f17 :: (rest ++ [bU])∧
   T = [(25,.int .i64 j),(24,.int .i64 t.f15.length),(5,.ptr p 0 0 0),(4,.int .i64 e),(3,.int .i64 n),(1,.ptr b 0 0 0)]) t.f15.length _ _ ⟨?_,.inl rfl⟩ ⟨0,_,by omega,?_,fun i x hi=>absurd hi (by omega),rfl,rfl⟩ ?_)
 ·simp[go_sem]
 ·intro i hi;rfl
 rintro k T H' ⟨j,h0,hj,hgl0,hg0,rfl,rfl⟩
 refine awp_seq (awp_reg C9ok ?_)
 simp[go_sem]
 refine awp_seq (awp_cond (b:=decide (j < t.f15.length)) (by simp[go_sem]) (fun h=>awp_skip ?_) fun h=>awp_exit ?_)
 ·have h:j < t.f15.length:=by simpa using h
  have hw1:IntKind.i64.wrap ((j:Int)+1)=(j:Int)+1:=bX (by omega) (by omega)
  have hw2:IntKind.i64.wrap ((t.f15.length:Int) - 1)=(t.f15.length:Int) - 1:=bX (by omega) (by omega)
  have hw3:IntKind.i64.wrap ((t.f15.length:Int) - 1 - (j:Int))=((t.f15.length - 1 - j:Nat):Int):=by rw[bX (by omega) (by omega)];omega
  obtain⟨s,hs⟩ : ∃ s,t.f15[t.f15.length - 1 - j]? = some s:=⟨_,List.getElem?_eq_getElem (by omega)⟩
  have hs' : t.f15[t.f15.length - 1 - j]=s:=(List.getElem?_eq_some_iff.1 hs).2
  have gpx:=fun (x0 x1 x2 x3 x4:Blk)=>gp x0 x1 x2 x3 x4 rest rfl
  simp only[bU,go_sem,cpV] at gpx
  simp[go_sem]
  refine awp_seq (awp_block (awp_seq (awp_reg C9ok ?_)))
  simp[go_sem]
  refine awp_draw C9ok (by kernel_rfl) [0,1,0,0,8,0,32,96,224,0,992,2040,4088,8191,16383] [.quiet [0],.quiet [0],.quiet [0],.quiet [0],.quiet [0],.quiet [0],.quiet [0],.quiet [0],.quiet [0],.quiet [0],.quiet [0],.quiet [0],.quiet [0],.quiet [0],.eff 0] 1 (by kernel_rfl) ?_
  simp[go_sem,gpx,gb,g0,cpV,hw2,hw3,hs',h,bU]
  refine⟨by omega,?_⟩
  refine awp_reg C9ok ?_
  simp[go_sem]
  refine⟨k - 1,by omega,_,_,⟨?_,.inl rfl⟩,j+1,by omega,_,?_,?_,rfl,rfl⟩
  ·simp[go_sem,hw1]
  ·intro i hi
   have:=hgl0 i hi
   split <;> simp[this]
  ·intro i x hi hx
   by_cases hij:i=j
   ·subst hij
    have:x=s:=by
     rw[List.getElem?_reverse h] at hx
     exact Option.some.inj (hx.symm.trans hs)
    subst this
    have:=hgl0 i h
    simp[this,hs]
   ·rw[if_neg hij]
    exact hg0 i x (by omega) hx
 have hje0:t.f15.length≤j:=by have : ¬ j < t.f15.length:=(by simpa using h);omega
 replace hg0 : ∀ i x,t.f15.reverse[i]? = some x → h0 i=seaV x:=fun i x hx=>hg0 i x (by have:=(List.getElem?_eq_some_iff.1 hx).1;rw[List.length_reverse] at this;omega) hx
 clear hj hje0 h
 simp[go_sem]
 refine awp_seq (awp_seq (awp_reg C9ok ?_))
 simp[go_sem,gb,g1]
 refine awp_block (awp_loopW (fun k T H'=>∃ (j:Nat) (g:Nat → List AV),k+j=t.f16.length∧(∀ i,i < t.f16.length → (g i).length=4)∧(∀ i x,i < j → t.f16.reverse[i]? = some x → g i=holV x)∧
   H' = H ++ b0 :: b1 :: { t:=41,sz:=3,own:=true,ver:=1,len:=t.f15.length,get:=h0 } :: { t:=43,sz:=4,own:=true,ver:=1,len:=t.f16.length,get:=g } :: owin t.f17 :: (rest ++ [bU])∧
   T = [(46,.int .i64 j),(45,.int .i64 t.f16.length),(5,.ptr p 0 0 0),(4,.int .i64 e),(3,.int .i64 n),(1,.ptr b 0 0 0)]) t.f16.length _ _ ⟨?_,.inl rfl⟩ ⟨0,_,by omega,?_,fun i x hi=>absurd hi (by omega),rfl,rfl⟩ ?_)
 ·simp[go_sem]
 ·intro i hi;rfl
 rintro k T H' ⟨j,h1,hj,hgl1,hg1,rfl,rfl⟩
 refine awp_seq (awp_reg C9ok ?_)
 simp[go_sem]
 refine awp_seq (awp_cond (b:=decide (j < t.f16.length)) (by simp[go_sem]) (fun h=>awp_skip ?_) fun h=>awp_exit ?_)
 ·have h:j < t.f16.length:=by simpa using h
  have hw1:IntKind.i64.wrap ((j:Int)+1)=(j:Int)+1:=bX (by omega) (by omega)
  have hw2:IntKind.i64.wrap ((t.f16.length:Int) - 1)=(t.f16.length:Int) - 1:=bX (by omega) (by omega)
  have hw3:IntKind.i64.wrap ((t.f16.length:Int) - 1 - (j:Int))=((t.f16.length - 1 - j:Nat):Int):=by rw[bX (by omega) (by omega)];omega
  obtain⟨s,hs⟩ : ∃ s,t.f16[t.f16.length - 1 - j]? = some s:=⟨_,List.getElem?_eq_getElem (by omega)⟩
  have hs' : t.f16[t.f16.length - 1 - j]=s:=(List.getElem?_eq_some_iff.1 hs).2
  have gpx:=fun (x0 x1 x2 x3 x4:Blk)=>gp x0 x1 x2 x3 x4 rest rfl
  simp only[bU,go_sem,cpV] at gpx
  simp[go_sem]
  refine awp_seq (awp_block (awp_seq (awp_reg C9ok ?_)))
  simp[go_sem]
  refine awp_draw C9ok (by kernel_rfl) [0,1,0,0,8,0,32,96,224,0,992,2040,4088,8191,16383] [.quiet [0],.quiet [0],.quiet [0],.quiet [0],.quiet [0],.quiet [0],.quiet [0],.quiet [0],.quiet [0],.quiet [0],.quiet [0],.quiet [0],.quiet [0],.quiet [0],.eff 0] 1 (by kernel_rfl) ?_
  simp[go_sem,gpx,gb,g1,cpV,hw2,hw3,hs',h,bU]
  refine⟨by omega,?_⟩
  refine awp_reg C9ok ?_
  simp[go_sem]
  refine⟨k - 1,by omega,_,_,⟨?_,.inl rfl⟩,j+1,by omega,_,?_,?_,rfl,rfl⟩
  ·simp[go_sem,hw1]
  ·intro i hi
   have:=hgl1 i hi
   split <;> simp[this]
  ·intro i x hi hx
   by_cases hij:i=j
   ·subst hij
    have:x=s:=by
     rw[List.getElem?_reverse h] at hx
     exact Option.some.inj (hx.symm.trans hs)
    subst this
    have:=hgl1 i h
    simp[this,hs]
   ·rw[if_neg hij]
    exact hg1 i x (by omega) hx
 have hje1:t.f16.length≤j:=by have : ¬ j < t.f16.length:=(by simpa using h);omega
 replace hg1 : ∀ i x,t.f16.reverse[i]? = some x → h1 i=holV x:=fun i x hx=>hg1 i x (by have:=(List.getElem?_eq_some_iff.1 hx).1;rw[List.length_reverse] at this;omega) hx
 clear hj hje1 h
 simp[go_sem]
 refine awp_seq (awp_seq (awp_reg C9ok ?_))
 simp[go_sem,gb,g2]
 refine awp_block (awp_loopW (fun k T H'=>∃ (j:Nat) (g:Nat → List AV),k+j=t.f17.length∧(∀ i,i < t.f17.length → (g i).length=5)∧(∀ i x,i < j → t.f17.reverse[i]? = some x → g i=winV x)∧
   H' = H ++ b0 :: b1 :: { t:=41,sz:=3,own:=true,ver:=1,len:=t.f15.length,get:=h0 } :: { t:=43,sz:=4,own:=true,ver:=1,len:=t.f16.length,get:=h1 } :: { t:=45,sz:=5,own:=true,ver:=1,len:=t.f17.length,get:=g } :: (rest ++ [bU])∧
   T = [(67,.int .i64 j),(66,.int .i64 t.f17.length),(5,.ptr p 0 0 0),(4,.int .i64 e),(3,.int .i64 n),(1,.ptr b 0 0 0)]) t.f17.length _ _ ⟨?_,.inl rfl⟩ ⟨0,_,by omega,?_,fun i x hi=>absurd hi (by omega),rfl,rfl⟩ ?_)
 ·simp[go_sem]
 ·intro i hi;rfl
 rintro k T H' ⟨j,h2,hj,hgl2,hg2,rfl,rfl⟩
 refine awp_seq (awp_reg C9ok ?_)
 simp[go_sem]
 refine awp_seq (awp_cond (b:=decide (j < t.f17.length)) (by simp[go_sem]) (fun h=>awp_skip ?_) fun h=>awp_exit ?_)
 ·have h:j < t.f17.length:=by simpa using h
  have hw1:IntKind.i64.wrap ((j:Int)+1)=(j:Int)+1:=bX (by omega) (by omega)
  have hw2:IntKind.i64.wrap ((t.f17.length:Int) - 1)=(t.f17.length:Int) - 1:=bX (by omega) (by omega)
  have hw3:IntKind.i64.wrap ((t.f17.length:Int) - 1 - (j:Int))=((t.f17.length - 1 - j:Nat):Int):=by rw[bX (by omega) (by omega)];omega
  obtain⟨s,hs⟩ : ∃ s,t.f17[t.f17.length - 1 - j]? = some s:=⟨_,List.getElem?_eq_getElem (by omega)⟩
  have hs' : t.f17[t.f17.length - 1 - j]=s:=(List.getElem?_eq_some_iff.1 hs).2
  have gpx:=fun (x0 x1 x2 x3 x4:Blk)=>gp x0 x1 x2 x3 x4 rest rfl
  simp only[bU,go_sem,cpV] at gpx
  simp[go_sem]
  refine awp_seq (awp_block (awp_seq (awp_reg C9ok ?_)))
  simp[go_sem]
  refine awp_draw C9ok (by kernel_rfl) [0,1,0,0,8,0,32,96,224,0,992,2040,4088,8191,16383] [.quiet [0],.quiet [0],.quiet [0],.quiet [0],.quiet [0],.quiet [0],.quiet [0],.quiet [0],.quiet [0],.quiet [0],.quiet [0],.quiet [0],.quiet [0],.quiet [0],.eff 0] 1 (by kernel_rfl) ?_
  simp[go_sem,gpx,gb,g2,cpV,hw2,hw3,hs',h,bU]
  refine⟨by omega,?_⟩
  refine awp_reg C9ok ?_
  simp[go_sem]
  refine⟨k - 1,by omega,_,_,⟨?_,.inl rfl⟩,j+1,by omega,_,?_,?_,rfl,rfl⟩
  ·simp[go_sem,hw1]
  ·intro i hi
   have:=hgl2 i hi
   split <;> simp[this]
  ·intro i x hi hx
   by_cases hij:i=j
   ·subst hij
    have:x=s:=by
     rw[List.getElem?_reverse h] at hx
     exact Option.some.inj (hx.symm.trans hs)
    subst this
    have:=hgl2 i h
    simp[this,hs]
   ·rw[if_neg hij]
    exact hg2 i x (by omega) hx
 have hje2:t.f17.length≤j:=by have : ¬ j < t.f17.length:=(by simpa using h);omega
 replace hg2 : ∀ i x,t.f17.reverse[i]? = some x → h2 i=winV x:=fun i x hx=>hg2 i x (by have:=(List.getElem?_eq_some_iff.1 hx).1;rw[List.length_reverse] at this;omega) hx
 clear hj hje2 h
 simp[go_sem]
 refine awp_seq (awp_mono (R:=fun x T1 H1=>x = .normal∧∃ rest',Has T1 [(5,.ptr p 0 0 0),(4,.int .i64 e),(3,.int .i64 n)]∧H1=H ++ b0 :: b1 :: { t:=41,sz:=3,own:=true,ver:=1,len:=t.f15.length,get:=h0 } :: { t:=43,sz:=4,own:=true,ver:=1,len:=t.f16.length,get:=h1 } :: { t:=45,sz:=5,own:=true,ver:=1,len:=t.f17.length,get:=h2 } :: (rest' ++ [bU])∧rest'.length=rest.length∧RowIn H1 2 (blkE H1) t.f18.reverse c18) ?_ ?_)
 ·rcases hcp with ⟨hz,rfl,rfl⟩|⟨hz,S0,T0,g,Y,rfl,rfl,hcg⟩
  ·refine awp_seq (awp_reg C9ok ?_)
   simp[go_sem,gb,g3]
   refine awp_block (awp_loopW (fun k T H'=>H' = H ++ b0 :: b1 :: { t:=41,sz:=3,own:=true,ver:=1,len:=t.f15.length,get:=h0 } :: { t:=43,sz:=4,own:=true,ver:=1,len:=t.f16.length,get:=h1 } :: { t:=45,sz:=5,own:=true,ver:=1,len:=t.f17.length,get:=h2 } :: ([] ++ [bU])∧T = [(88,.int .i64 0),(87,.int .i64 t.f18.length),(5,.ptr p 0 0 0),(4,.int .i64 e),(3,.int .i64 n)]) 0 _ _ ⟨?_,.inl rfl⟩ ⟨rfl,rfl⟩ ?_)
   ·simp[go_sem]
   rintro k T H' ⟨rfl,rfl⟩
   refine awp_seq (awp_reg C9ok ?_)
   simp[go_sem]
   refine awp_seq (awp_cond (b:=false) (by simp[go_sem,hz]) (fun h=>by cases h) fun h=>awp_exit ?_)
   simp[go_sem]
   have hnil:t.f18 = []:=List.length_eq_zero_iff.1 hz
   rw[hnil]
   exact .inl ⟨rfl,rfl⟩
  ·refine awp_seq (awp_reg C9ok ?_)
   simp[go_sem,gb,g3]
   refine awp_block (awp_loopW (fun k T H'=>∃ (j:Nat) (g:Nat → List AV),k+j=t.f18.length∧(∀ i,i < t.f18.length → (g i).length=2)∧(∀ i x,i < j → t.f18.reverse[i]? = some x → g i = [.str x.f0,.sl (t.f18.length - 1 - i+4) 0 x.f1.length 0])∧
    H' = H ++ b0 :: b1 :: { t:=41,sz:=3,own:=true,ver:=1,len:=t.f15.length,get:=h0 } :: { t:=43,sz:=4,own:=true,ver:=1,len:=t.f16.length,get:=h1 } :: { t:=45,sz:=5,own:=true,ver:=1,len:=t.f17.length,get:=h2 } :: S0 :: T0 :: { t:=48,sz:=2,own:=true,ver:=t.f18.length - 1,len:=t.f18.length,get:=g } :: (Y ++ [bU])∧
    T = [(88,.int .i64 j),(87,.int .i64 t.f18.length),(5,.ptr p 0 0 0),(4,.int .i64 e),(3,.int .i64 n),(1,.ptr b 0 0 0)]) t.f18.length _ _ ⟨?_,.inl rfl⟩ ⟨0,_,by omega,?_,fun i x hi=>absurd hi (by omega),rfl,rfl⟩ ?_)
   ·simp[go_sem]
   ·intro i hi
    obtain⟨q,q1,_⟩:=hcg i t.f18[i] hi (List.getElem?_eq_getElem hi)
    rw[q1];rfl
   rintro k T H' ⟨j,h3,hj,hgl3,hg3,rfl,rfl⟩
   refine awp_seq (awp_reg C9ok ?_)
   simp[go_sem]
   refine awp_seq (awp_cond (b:=decide (j < t.f18.length)) (by simp[go_sem]) (fun h=>awp_skip ?_) fun h=>awp_exit ?_)
   ·have h:j < t.f18.length:=by simpa using h
    have hw1:IntKind.i64.wrap ((j:Int)+1)=(j:Int)+1:=bX (by omega) (by omega)
    have hw2:IntKind.i64.wrap ((t.f18.length:Int) - 1)=(t.f18.length:Int) - 1:=bX (by omega) (by omega)
    have hw3:IntKind.i64.wrap ((t.f18.length:Int) - 1 - (j:Int))=((t.f18.length - 1 - j:Nat):Int):=by rw[bX (by omega) (by omega)];omega
    obtain⟨s,hs⟩ : ∃ s,t.f18[t.f18.length - 1 - j]? = some s:=⟨_,List.getElem?_eq_getElem (by omega)⟩
    have hs' : t.f18[t.f18.length - 1 - j]=s:=(List.getElem?_eq_some_iff.1 hs).2
    have gpx:=fun (x0 x1 x2 x3 x4 x5 x6 x7:Blk)=>gp x0 x1 x2 x3 x4 (x5 :: x6 :: x7 :: Y) rfl
    simp only[bU,go_sem,cpV,List.cons_append] at gpx
    simp[go_sem]
    refine awp_seq (awp_block (awp_seq (awp_reg C9ok ?_)))
    simp[go_sem]
    refine awp_draw C9ok (by kernel_rfl) [0,1,0,0,8,0,32,96,224,0,992,2040,4088,8191,16383] [.quiet [0],.quiet [0],.quiet [0],.quiet [0],.quiet [0],.quiet [0],.quiet [0],.quiet [0],.quiet [0],.quiet [0],.quiet [0],.quiet [0],.quiet [0],.quiet [0],.eff 0] 1 (by kernel_rfl) ?_
    simp[go_sem,gpx,gb,g3,cpV,hw2,hw3,hs',h,bU]
    refine⟨by omega,?_⟩
    refine awp_reg C9ok ?_
    simp[go_sem]
    refine⟨k - 1,by omega,_,_,⟨?_,.inl rfl⟩,j+1,by omega,_,?_,?_,rfl,rfl⟩
    ·simp[go_sem,hw1]
    ·intro i hi
     have:=hgl3 i hi
     split <;> simp[this]
    ·intro i x hi hx
     by_cases hij:i=j
     ·subst hij
      have:x=s:=by
       rw[List.getElem?_reverse h] at hx
       exact Option.some.inj (hx.symm.trans hs)
      subst this
      have:=hgl3 i h
      simp[this,hs]
     ·rw[if_neg hij]
      exact hg3 i x (by omega) hx
   ·have h:t.f18.length≤j:=by have : ¬ j < t.f18.length:=(by simpa using h);omega
    simp[go_sem]
    refine⟨S0 :: T0 :: { t:=48,sz:=2,own:=true,ver:=t.f18.length - 1,len:=t.f18.length,get:=h3 } :: Y,rfl,rfl,?_⟩
    refine .inr ⟨H.length+7,t.f18.length - 1,{ t:=48,sz:=2,own:=true,ver:=t.f18.length - 1,len:=t.f18.length,get:=h3 },by rw[List.length_reverse],?_,rfl,by simp,rfl,fun i x hx=>⟨_,hg3 i x ?_ hx,.inr ⟨_,0,fB x.f1,rfl,?_,rfl,Nat.le_refl _,rfl,fun q y hy=>?_⟩⟩⟩
    ·rw[List.getElem?_append_right (by omega)]
     simp
    ·have:=(List.getElem?_eq_some_iff.1 hx).1
     rw[List.length_reverse] at this
     omega
    ·have hi:=(List.getElem?_eq_some_iff.1 hx).1
     rw[List.length_reverse] at hi
     rw[List.getElem?_reverse hi] at hx
     exact hI.g4 _ _ x hx
    ·show stpV (x.f1.getD q z70)=stpV y
     rw[List.getD_eq_getElem?_getD,hy];rfl
 ·rintro _ T1 H1 ⟨rfl,rest',hT,rfl,hlen,hr18⟩
  show AWp C9 119 (tarH t) _ _ T1 _
  refine awp_weak (T2:=[(5,.ptr p 0 0 0),(4,.int .i64 e),(3,.int .i64 n)]) ⟨hT,.inl rfl⟩ ?_
  have gpx:=fun (x0 x1 x2 x3 x4:Blk)=>gp x0 x1 x2 x3 x4 rest' hlen
  simp only[bU,go_sem,cpV] at gpx
  refine awp_seq (awp_region (dL C9ok 1 ?_))
  simp[go_sem,gpx,bU,cpV]
  have hrep:RepT (revT t) (H ++ b0 :: b1 :: { t:=41,sz:=3,own:=true,ver:=1,len:=t.f15.length,get:=h0 } :: { t:=43,sz:=4,own:=true,ver:=1,len:=t.f16.length,get:=h1 } :: { t:=45,sz:=5,own:=true,ver:=1,len:=t.f17.length,get:=h2 } :: (rest' ++ [bU])) (.sl (H.length+2) 0 t.f15.length 1) (.sl (H.length+3) 0 t.f16.length 1) (.sl (H.length+4) 0 t.f17.length 1) c18:=by
   refine⟨.inr ⟨H.length+2,1,{ t:=41,sz:=3,own:=true,ver:=1,len:=t.f15.length,get:=h0 },by simp[revT],by rw[List.getElem?_append_right (by omega)];simp,rfl,by simp[revT],rfl,fun i x hx=>hg0 i x hx⟩,.inr ⟨H.length+3,1,{ t:=43,sz:=4,own:=true,ver:=1,len:=t.f16.length,get:=h1 },by simp[revT],by rw[List.getElem?_append_right (by omega)];simp,rfl,by simp[revT],rfl,fun i x hx=>hg1 i x hx⟩,.inr ⟨H.length+4,1,{ t:=45,sz:=5,own:=true,ver:=1,len:=t.f17.length,get:=h2 },by simp[revT],by rw[List.getElem?_append_right (by omega)];simp,rfl,by simp[revT],rfl,fun i x hx=>hg2 i x hx⟩,hr18⟩
  have hl2:TarLen (revT t):=⟨by simp[revT];omega,by simp[revT];omega,by simp[revT];omega,by simp[revT];omega,fun b hb=>hl.ls b (List.mem_reverse.1 hb)⟩
  have hchk:=check_calls hrep hl2 hk2
  refine aops_call rfl rfl rfl rfl Tryd.func12 (by kernel_rfl) (by kernel_rfl) hchk ?_
  rintro v H1 ⟨rfl,rfl⟩
  refine⟨_,rfl,dL C9ok 5 ?_⟩
  simp[go_sem]
  refine aops_nil ?_
  simp[go_sem]
  refine awp_seq (awp_reg C9ok ?_)
  simp[go_sem]
  refine awp_ret ⟨.inr rfl,_,_,rfl,trivial,tarH t,?L,?eq,Nat.le_refl _,hclo,trivial,?post⟩
  case eq=>
   rw[hH]
   exact List.append_assoc _ _ _
  case post=>simp[go_sem]
end Go.Proofs.YtcmhfcciapenfaaDoor.Pa
