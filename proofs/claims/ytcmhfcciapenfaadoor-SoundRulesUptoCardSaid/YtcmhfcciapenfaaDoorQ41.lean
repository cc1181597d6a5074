/- A part of the proof. -/
import Derived.Test.YtcmhfcciapenfaaDoorQ40
set_option linter.all false
namespace Go.Proofs.YtcmhfcciapenfaaDoor.Pa
open Go Go.RowKit Go.Proofs.YtcmhfcciapenfaaDoorW.PrintWords Am
attribute [local go_sem] areg aseq gstep astep apick aop aslice alen aappend unw opTmps opnds tmpsOf aev Am.get ofConst ofConst1 putT strip abin aun initT AThen AIn ares oneOr bound asInt fieldOf ldv boxBlk setSeg Blk.put AV.cells AV.whole AV.cell tys ty33 ty26 ty41 ty28 ty45 ty29 ty48 ty70 ty49 ty3 ty2 ty4 ty9 ty35 Ty.agg ty27 ty43 ty46 afill zeroRow newRowBlk litGet appBlk litCells
attribute [local go_sem] adraw awit adchk pchk qchk gchk looks restr tfin
attribute [local go_sem] seaBlk holBlk winBlk blkBlk stpBlk seaV holV winV blkV stpV Has hget hget0 hat_z hat_s specs9 repV Am.asInt ty31 ty25 ty23 tarV_all tarV_len tarV_take tarV_15 tarV_16 tarV_17 tarV_18
attribute [local go_sem] C9_ty C9_fn
set_option maxRecDepth 10000
def modT (t:Tar):Nat → Tar
 |0=>{ t with f0:=⟨#[]⟩ }
 |1=>{ t with f1:=7 }
 |2=>{ t with f11:=0 }
 |3=>{ t with f13:=-1 }
 |4=>{ t with f14:=29 }
 |5=>{ t with f15:=t.f15 ++ [t.f15.getD 0 z41] }
 |6=>{ t with f15:=t.f15.drop 1 }
 |7=>{ t with f16:=⟨4,0,0,0⟩ :: t.f16 }
 |8=>{ t with f18:={ (t.f18.getD 0 z48) with f1:=[] } :: t.f18.drop 1 }
 |9=>{ t with f17:=t.f17.drop 1 }
 |10=>{ t with f17:={ (t.f17.getD 0 z45) with f4:=⟨#[110,111,45,115,117,99,104,45,98,117,99,107,101,116,45,97,116,45,97,108,108,45,104,101,114,101]⟩ } :: t.f17.drop 1 }
 |11=>{ t with f20:=45 }
 |12=>{ t with f24:=37 }
 |_=>{ t with f27:=100001 }
def ruleOf:Nat → Int
 |0=>1
 |1=>1
 |2=>2
 |3=>2
 |4=>3
 |5=>4
 |6=>4
 |7=>5
 |8=>6
 |9=>7
 |10=>7
 |11=>8
 |12=>9
 |_=>10
def RulPost (t:Tar) (p i:Nat):APost:=fun x T1 H2=>x = .normal∧∃ s15 s16 s17 s18,Has T1 [(8,.int .i64 (ruleOf i)),(7,.ptr p 0 0 0)]∧hat H2 p=some (boxBlk 33 28 (repV (modT t i) s15 s16 s17 s18))∧RepO (modT t i) H2 s15 s16 s17 s18∧∃ L,H2=tarH t ++ L
theorem rules_calls (t:Tar) (which n e m f:Int) (i:Nat) (hi:i < 14) (hw:IntKind.i64.wrap ((IntKind.u64.wrap which).tmod 14)=(i:Int)) (hl:eu t) (hcs:dS t=true) (hroom:t.f15.length * 32+32≤140737488355328∧t.f16.length * 32+32≤140737488355328) (hk : ∃ k,rCheck.f k t=some (n,e)) (hne:e=0 → t.f15≠[]∧t.f17≠[]∧t.f18≠[]) (hl2:eu (modT t i)) (hk2:e=0 → ∃ k,sCheck.f k (modT t i)=some (m,f)) :
  ACalls Tryd.prog 5 [.agg (tarV t),.int .i64 which] (tarH t) fun v H'=>v = .bool (if e=0 then (m == ruleOf i) && (f == 2) else true)∧H' = tarH t:=by
 have ml:maxLen=9223372036854775807:=by decide
 refine acalls_of (C:=C9) (nt:=105) C9ok Tryd.func5 rfl rfl fun hclo=>?_
 refine awp_seq (awp_reg C9ok ?_)
 simp[go_sem]
 refine awp_seq (awp_seq (awp_reg C9ok ?_))
 simp[go_sem]
 refine awp_cond (b:=false) rfl (fun h=>by cases h) fun _=>awp_skip ?_
 simp[go_sem]
 obtain⟨H,hH⟩ : ∃ H,H=tarH t ++ [boxBlk 33 28 (tarV t)]:=⟨_,rfl⟩
 have hI:TarIn t H:=by rw[hH];exact tarIn_mk0 t _
 have gb : ∀ X,hat (H ++ X) (tarH t).length=some (boxBlk 33 28 (tarV t)):=fun X=>by
  rw[hH]
  simp[hget0,hat_z]
 have gb0:=gb []
 rw[List.append_nil] at gb0
 refine awp_weak (T2:=[(2,.ptr (tarH t).length 0 0 0),(1,.int .i64 which)]) (H2:=H) ⟨by simp[go_sem],.inl hH.symm⟩ ?_
 generalize (tarH t).length=b at gb gb0 ⊢
 simp only[go_sem] at gb gb0
 have g0:=hI.g0
 have g1:=hI.g1
 have g2:=hI.g2
 have g3:=hI.g3
 have hrep:=(tarIn_repT hI []).repO
 rw[List.append_nil] at hrep
 have hchk:=rchk_calls hrep hl hk
 refine awp_seq (awp_region (dR C9ok 1 ?_))
 simp[go_sem,gb0]
 refine aops_call rfl rfl rfl rfl Tryd.func11 (by kernel_rfl) (by kernel_rfl) hchk ?_
 rintro v H1 ⟨rfl,rfl⟩
 refine⟨_,rfl,dR C9ok 5 ?_⟩
 simp[go_sem]
 refine aops_nil ?_
 simp[go_sem]
 refine awp_seq (awp_seq (awp_reg C9ok ?_))
 simp[go_sem]
 refine awp_cond (b:=e != 0) rfl (fun he=>?_) fun he=>awp_skip ?_
 ·have he:e≠0:=by simpa using he
  refine awp_seq (awp_reg C9ok ?_)
  simp[go_sem]
  refine awp_ret ⟨.inr rfl,_,_,rfl,trivial,tarH t,_,hH,Nat.le_refl _,hclo,trivial,?_⟩
  simp[go_sem,he]
 have he:e=0:=by simpa using he
 subst he
 obtain⟨n15,n17,n18⟩:=hne rfl
 have hk2:=hk2 rfl
 simp[go_sem]
 refine awp_seq (awp_region (dR C9ok 1 ?_))
 simp[go_sem,gb0]
 refine aops_call rfl rfl rfl rfl Tryd.func13 (by kernel_rfl) (by kernel_rfl) (copy_calls t H1 hI hl hcs) ?_
 rintro v H2 ⟨c18,b0,b1,rest,rfl,rfl,hcp⟩
 refine⟨_,rfl,dR C9ok 2 ?_⟩
 rcases hcp with ⟨hz,rfl,rfl⟩|⟨hz,S0,T0,g,Y,rfl,rfl,hcg⟩
 ·exact absurd (List.length_eq_zero_iff.1 hz) n18
 simp[go_sem,cpV,oblk]
 refine aops_nil ?_
 simp[go_sem]
 refine awp_seq (awp_reg C9ok ?_)
 simp[go_sem]
 refine awp_seq (awp_seq (awp_reg C9ok ?_))
 simp[go_sem,hw]
 have at2 : ∀ (x2 x3 x4 x7:Blk) (X:Heap),(H1 ++ b0 :: b1 :: x2 :: x3 :: x4 :: S0 :: T0 :: x7 :: (Y ++ X))[H1.length+2]? = some x2:=fun x2 x3 x4 x7 X=>by rw[List.getElem?_append_right (by omega)];simp
 have at3 : ∀ (x2 x3 x4 x7:Blk) (X:Heap),(H1 ++ b0 :: b1 :: x2 :: x3 :: x4 :: S0 :: T0 :: x7 :: (Y ++ X))[H1.length+3]? = some x3:=fun x2 x3 x4 x7 X=>by rw[List.getElem?_append_right (by omega)];simp
 have at4 : ∀ (x2 x3 x4 x7:Blk) (X:Heap),(H1 ++ b0 :: b1 :: x2 :: x3 :: x4 :: S0 :: T0 :: x7 :: (Y ++ X))[H1.length+4]? = some x4:=fun x2 x3 x4 x7 X=>by rw[List.getElem?_append_right (by omega)];simp
 have at7 : ∀ (x2 x3 x4 x7:Blk) (X:Heap),(H1 ++ b0 :: b1 :: x2 :: x3 :: x4 :: S0 :: T0 :: x7 :: (Y ++ X))[H1.length+7]? = some x7:=fun x2 x3 x4 x7 X=>by rw[List.getElem?_append_right (by omega)];simp
 have r15 : ∀ (x3 x4 x7:Blk) (X:Heap),RowO (H1 ++ b0 :: b1 :: osea t.f15 :: x3 :: x4 :: S0 :: T0 :: x7 :: (Y ++ X)) 3 seaE t.f15 (.sl (H1.length+2) 0 t.f15.length 1):=fun x3 x4 x7 X=>.inr ⟨H1.length+2,0,1,osea t.f15,rfl,at2 _ _ _ _ _,rfl,by rw[Nat.zero_add];exact Nat.le_refl _,rfl,fun i x hx=>by
  show seaV (t.f15.getD (0+i) z41)=seaV x
  rw[Nat.zero_add,List.getD_eq_getElem?_getD,hx];rfl⟩
 have r16 : ∀ (x2 x4 x7:Blk) (X:Heap),RowO (H1 ++ b0 :: b1 :: x2 :: ohol t.f16 :: x4 :: S0 :: T0 :: x7 :: (Y ++ X)) 4 holE t.f16 (.sl (H1.length+3) 0 t.f16.length 1):=fun x2 x4 x7 X=>.inr ⟨H1.length+3,0,1,ohol t.f16,rfl,at3 _ _ _ _ _,rfl,by rw[Nat.zero_add];exact Nat.le_refl _,rfl,fun i x hx=>by
  show holV (t.f16.getD (0+i) z43)=holV x
  rw[Nat.zero_add,List.getD_eq_getElem?_getD,hx];rfl⟩
 have r17 : ∀ (x2 x3 x7:Blk) (X:Heap),RowO (H1 ++ b0 :: b1 :: x2 :: x3 :: owin t.f17 :: S0 :: T0 :: x7 :: (Y ++ X)) 5 winE t.f17 (.sl (H1.length+4) 0 t.f17.length 1):=fun x2 x3 x7 X=>.inr ⟨H1.length+4,0,1,owin t.f17,rfl,at4 _ _ _ _ _,rfl,by rw[Nat.zero_add];exact Nat.le_refl _,rfl,fun i x hx=>by
  show winV (t.f17.getD (0+i) z45)=winV x
  rw[Nat.zero_add,List.getD_eq_getElem?_getD,hx];rfl⟩
 have stp : ∀ (x2 x3 x4 x7:Blk) (X:Heap) (i:Nat) (x:S48),t.f18[i]? = some x → ∃ s,g i = [.str x.f0,s]∧RowO (H1 ++ b0 :: b1 :: x2 :: x3 :: x4 :: S0 :: T0 :: x7 :: (Y ++ X)) 2 stpE x.f1 s:=by
  intro x2 x3 x4 x7 X i x hx
  obtain⟨q,q1,q2,q3⟩:=hcg i x (List.getElem?_eq_some_iff.1 hx).1 hx
  refine⟨_,q1,.inr ⟨H1.length+5+q,0,1,ostp x.f1,rfl,?_,rfl,by rw[Nat.zero_add];exact Nat.le_refl _,rfl,fun r y hy=>?_⟩⟩
  ·rw[List.getElem?_append_right (by omega),show H1.length+5+q - H1.length=q+5 by omega]
   match q,q2,q3 with
   |0,_,q3=>exact q3
   |1,_,q3=>exact q3
   |q+3,_,q3=>
    have q3:Y[q]? = some (ostp x.f1):=q3
    show(Y ++ _)[q]? = _
    rw[List.getElem?_append_left (List.getElem?_eq_some_iff.1 q3).1,q3]
  ·show stpV (x.f1.getD (0+r) z70)=stpV y
   rw[Nat.zero_add,List.getD_eq_getElem?_getD,hy];rfl
 have r18 : ∀ (x2 x3 x4:Blk) (X:Heap),RowO (H1 ++ b0 :: b1 :: x2 :: x3 :: x4 :: S0 :: T0 :: oblk g t.f18.length (t.f18.length - 1) :: (Y ++ X)) 2 (blkO (H1 ++ b0 :: b1 :: x2 :: x3 :: x4 :: S0 :: T0 :: oblk g t.f18.length (t.f18.length - 1) :: (Y ++ X))) t.f18 (.sl (H1.length+7) 0 t.f18.length (t.f18.length - 1)):=fun x2 x3 x4 X=>.inr ⟨H1.length+7,0,t.f18.length - 1,oblk g t.f18.length (t.f18.length - 1),rfl,at7 _ _ _ _ _,rfl,by rw[Nat.zero_add];exact Nat.le_refl _,rfl,fun i x hx=>by
  obtain⟨s,h1,h2⟩:=stp x2 x3 x4 (oblk g t.f18.length (t.f18.length - 1)) X i x hx
  exact⟨s,by show g (0+i)=_;rw[Nat.zero_add];exact h1,h2⟩⟩
 have gp : ∀ (x0 x1 x2 x3 x4 x5 x6 x7 bx:Blk) (X:Heap),hat (H1 ++ x0 :: x1 :: x2 :: x3 :: x4 :: x5 :: x6 :: x7 :: (Y ++ bx :: X)) (H1.length+(Y.length+1+1+1+1+1+1+1+1))=some bx:=by
  intro x0 x1 x2 x3 x4 x5 x6 x7 bx X
  simp[hget,hat_s,hget0,hat_z]
 refine awp_mono (R:=RulPost t (H1.length+(Y.length+1+1+1+1+1+1+1+1)) i) ?_ ?_
 ·refine awp_block ?_
  refine awp_seq (awp_reg C9ok ?_)
  simp[go_sem]
  refine awp_cond (b:=decide (i=0)) (by simp[go_sem];rw[Bool.eq_iff_iff];simp;try omega) (fun hc=>?_) fun hc0=>?_
  ·obtain rfl:i=0:=by simpa using hc
   refine awp_reg C9ok ?_
   simp[go_sem]
   exact⟨rfl,_,_,_,_,⟨rfl,rfl,trivial⟩,gp _ _ _ _ _ _ _ _ _ _,⟨r15 _ _ _ _,r16 _ _ _ _,r17 _ _ _ _,r18 _ _ _ _⟩,⟨_,by rw[hH,List.append_assoc]⟩⟩
  refine awp_seq (awp_reg C9ok ?_)
  simp[go_sem]
  refine awp_cond (b:=decide (i=1)) (by simp[go_sem];rw[Bool.eq_iff_iff];simp;try omega) (fun hc=>?_) fun hc1=>?_
  ·obtain rfl:i=1:=by simpa using hc
   refine awp_reg C9ok ?_
   simp[go_sem]
   exact⟨rfl,_,_,_,_,⟨rfl,rfl,trivial⟩,gp _ _ _ _ _ _ _ _ _ _,⟨r15 _ _ _ _,r16 _ _ _ _,r17 _ _ _ _,r18 _ _ _ _⟩,⟨_,by rw[hH,List.append_assoc]⟩⟩
  refine awp_seq (awp_reg C9ok ?_)
  simp[go_sem]
  refine awp_cond (b:=decide (i=2)) (by simp[go_sem];rw[Bool.eq_iff_iff];simp;try omega) (fun hc=>?_) fun hc2=>?_
  ·obtain rfl:i=2:=by simpa using hc
   refine awp_reg C9ok ?_
   simp[go_sem]
   exact⟨rfl,_,_,_,_,⟨rfl,rfl,trivial⟩,gp _ _ _ _ _ _ _ _ _ _,⟨r15 _ _ _ _,r16 _ _ _ _,r17 _ _ _ _,r18 _ _ _ _⟩,⟨_,by rw[hH,List.append_assoc]⟩⟩
  refine awp_seq (awp_reg C9ok ?_)
  simp[go_sem]
  refine awp_cond (b:=decide (i=3)) (by simp[go_sem];rw[Bool.eq_iff_iff];simp;try omega) (fun hc=>?_) fun hc3=>?_
  ·obtain rfl:i=3:=by simpa using hc
   refine awp_reg C9ok ?_
   simp[go_sem]
   exact⟨rfl,_,_,_,_,⟨rfl,rfl,trivial⟩,gp _ _ _ _ _ _ _ _ _ _,⟨r15 _ _ _ _,r16 _ _ _ _,r17 _ _ _ _,r18 _ _ _ _⟩,⟨_,by rw[hH,List.append_assoc]⟩⟩
  refine awp_seq (awp_reg C9ok ?_)
  simp[go_sem]
  refine awp_cond (b:=decide (i=4)) (by simp[go_sem];rw[Bool.eq_iff_iff];simp;try omega) (fun hc=>?_) fun hc4=>?_
  ·obtain rfl:i=4:=by simpa using hc
   refine awp_reg C9ok ?_
   simp[go_sem]
   exact⟨rfl,_,_,_,_,⟨rfl,rfl,trivial⟩,gp _ _ _ _ _ _ _ _ _ _,⟨r15 _ _ _ _,r16 _ _ _ _,r17 _ _ _ _,r18 _ _ _ _⟩,⟨_,by rw[hH,List.append_assoc]⟩⟩
  refine awp_seq (awp_reg C9ok ?_)
  simp[go_sem]
  refine awp_cond (b:=decide (i=5)) (by simp[go_sem];rw[Bool.eq_iff_iff];simp;try omega) (fun hc=>?_) fun hc5=>?_
  ·obtain rfl:i=5:=by simpa using hc
   have p15:0 < t.f15.length:=List.length_pos_iff.2 n15
   have p17:0 < t.f17.length:=List.length_pos_iff.2 n17
   refine awp_draw C9ok (by kernel_rfl) [0,1,0,4,12,28,60,127,255,511,1023] [.quiet [0,1],.quiet [0,1],.quiet [0],.quiet [0],.quiet [0],.quiet [0],.eff 0,.eff 1,.quiet [2],.eff 2,.quiet [3]] 3 (by kernel_rfl) ?_
   simp[go_sem,osea,p15]
   refine⟨⟨by omega,by omega⟩,rfl,_,_,_,_,⟨rfl,rfl,trivial⟩,gp _ _ _ _ _ _ _ _ _ _,⟨?_,r16 _ _ _ _,r17 _ _ _ _,r18 _ _ _ _⟩,⟨_,by rw[hH,List.append_assoc]⟩⟩
   refine .inr ⟨H1.length+2,0,2,_,?_,at2 _ _ _ _ _,rfl,?_,rfl,fun i x hx=>?_⟩
   ·show _=AV.sl _ 0 (t.f15 ++ [t.f15.getD 0 z41]).length 2
    rw[List.length_append];rfl
   ·show 0+(t.f15 ++ [t.f15.getD 0 z41]).length≤t.f15.length+1
    rw[List.length_append];simp
   ·have hx:(t.f15 ++ [t.f15.getD 0 z41])[i]? = some x:=hx
    have hil:=(List.getElem?_eq_some_iff.1 hx).1
    rw[List.length_append] at hil
    have hil:i < t.f15.length+1:=hil
    show seaE x (if 0+i < t.f15.length then _ else _)
    rw[Nat.zero_add]
    by_cases hlt:i < t.f15.length
    ·rw[if_pos hlt]
     rw[List.getElem?_append_left hlt] at hx
     rw[hx]
     rfl
    ·rw[if_neg hlt]
     obtain rfl:i=t.f15.length:=by omega
     rw[List.getElem?_append_right (Nat.le_refl _),Nat.sub_self] at hx
     obtain rfl:=Option.some.inj hx
     rw[Nat.sub_self,List.getD_eq_getElem?_getD,List.getElem?_eq_getElem p15]
     rfl
  refine awp_seq (awp_reg C9ok ?_)
  simp[go_sem]
  refine awp_cond (b:=decide (i=6)) (by simp[go_sem];rw[Bool.eq_iff_iff];simp;try omega) (fun hc=>?_) fun hc6=>?_
  ·obtain rfl:i=6:=by simpa using hc
   have p15:0 < t.f15.length:=List.length_pos_iff.2 n15
   have p17:0 < t.f17.length:=List.length_pos_iff.2 n17
   refine awp_reg C9ok ?_
   simp[go_sem,osea,owin,ohol,oblk,p15,p17,hz]
   refine⟨by omega,rfl,_,_,_,_,⟨rfl,rfl,trivial⟩,gp _ _ _ _ _ _ _ _ _ _,⟨?_,r16 _ _ _ _,r17 _ _ _ _,r18 _ _ _ _⟩,⟨_,by rw[hH,List.append_assoc]⟩⟩
   refine .inr ⟨H1.length+2,1,1,osea t.f15,?_,at2 _ _ _ _ _,rfl,?_,rfl,fun i x hx=>?_⟩
   ·show _=AV.sl _ 1 (t.f15.drop 1).length 1
    rw[List.length_drop]
   ·show 1+(t.f15.drop 1).length≤t.f15.length
    rw[List.length_drop];omega
   ·have hx:(t.f15.drop 1)[i]? = some x:=hx
    rw[List.getElem?_drop] at hx
    show seaV (t.f15.getD (1+i) z41)=seaV x
    rw[List.getD_eq_getElem?_getD,hx];rfl
  refine awp_seq (awp_reg C9ok ?_)
  simp[go_sem]
  refine awp_cond (b:=decide (i=7)) (by simp[go_sem];rw[Bool.eq_iff_iff];simp;try omega) (fun hc=>?_) fun hc7=>?_
  ·obtain rfl:i=7:=by simpa using hc
   have p15:0 < t.f15.length:=List.length_pos_iff.2 n15
   have p17:0 < t.f17.length:=List.length_pos_iff.2 n17
   refine awp_reg C9ok ?_
   simp[go_sem,osea,owin,ohol,oblk,p15,p17,hz]
   refine⟨⟨by omega,by omega⟩,rfl,_,_,_,_,⟨rfl,rfl,trivial⟩,gp _ _ _ _ _ _ _ _ _ _,⟨r15 _ _ _ _,?_,r17 _ _ _ _,r18 _ _ _ _⟩,⟨_,by rw[hH,List.append_assoc]⟩⟩
   refine .inr ⟨H1.length+(Y.length+1+1+1+1+1+1+1+1+1),0,1,{ t:=43,sz:=4,own:=true,ver:=1,len:=1+t.f16.length,get:=fun k=>if k=0 then List.take 4 (List.drop (k * 4) [AV.int .i64 4,.int .i64 0,.int .i64 0,.int .i64 0]) else holV (t.f16[k - 1]?.getD z43) },?_,(by rw[List.getElem?_append_right (by omega)];simp[holV]),rfl,?_,rfl,fun i x hx=>?_⟩
   ·show _=AV.sl _ 0 (t.f16.length+1) 1
    rw[Nat.add_comm 1]
   ·show 0+(t.f16.length+1)≤1+t.f16.length
    omega
   ·cases i with
    |zero=>
     obtain rfl:(⟨4,0,0,0⟩ : S43)=x:=Option.some.inj hx
     rfl
    |succ i=>
     have hx:t.f16[i]? = some x:=hx
     show(if 0+(i+1)=0 then List.take 4 (List.drop ((0+(i+1)) * 4) [AV.int .i64 4,.int .i64 0,.int .i64 0,.int .i64 0]) else holV (t.f16[0+(i+1) - 1]?.getD z43))=holV x
     rw[if_neg (by omega),show 0+(i+1) - 1=i by omega,hx]
     rfl
  refine awp_seq (awp_reg C9ok ?_)
  simp[go_sem]
  refine awp_cond (b:=decide (i=8)) (by simp[go_sem];rw[Bool.eq_iff_iff];simp;try omega) (fun hc=>?_) fun hc8=>?_
  ·obtain rfl:i=8:=by simpa using hc
   have p15:0 < t.f15.length:=List.length_pos_iff.2 n15
   have p17:0 < t.f17.length:=List.length_pos_iff.2 n17
   refine awp_reg C9ok ?_
   simp[go_sem,osea,owin,ohol,oblk,p15,p17,hz]
   refine⟨rfl,_,_,_,_,⟨rfl,rfl,trivial⟩,gp _ _ _ _ _ _ _ _ _ _,⟨r15 _ _ _ _,r16 _ _ _ _,r17 _ _ _ _,?_⟩,⟨_,by rw[hH,List.append_assoc]⟩⟩
   refine .inr ⟨H1.length+7,0,t.f18.length - 1,_,?_,at7 _ _ _ _ _,rfl,?_,rfl,fun i x hx=>?_⟩
   ·show _=AV.sl _ 0 ((t.f18.drop 1).length+1) _
    rw[List.length_drop,Nat.sub_add_cancel hz]
   ·show 0+((t.f18.drop 1).length+1)≤t.f18.length
    rw[List.length_drop];omega
   ·cases i with
    |zero=>
     obtain rfl:=Option.some.inj hx
     obtain⟨s1,h1,h2⟩:=stp (osea t.f15) (ohol t.f16) (owin t.f17) (oblk g t.f18.length (t.f18.length - 1)) [] 0 t.f18[0] (List.getElem?_eq_getElem hz)
     refine⟨.nilsl,?_,.inl ⟨rfl,rfl⟩⟩
     show(if 0+0=0 then List.take 1 (g (0+0)) ++ AV.nilsl :: List.drop 2 (g (0+0)) else g (0+0))=_
     rw[if_pos rfl,Nat.add_zero,h1,List.getD_eq_getElem?_getD,List.getElem?_eq_getElem hz]
     rfl
    |succ i=>
     have hx:(t.f18.drop 1)[i]? = some x:=hx
     rw[List.getElem?_drop] at hx
     refine Exists.imp (fun s1 h=>⟨?_,h.2⟩) (stp _ _ _ _ _ (1+i) x hx)
     show(if 0+(i+1)=0 then List.take 1 (g (0+(i+1))) ++ AV.nilsl :: List.drop 2 (g (0+(i+1))) else g (0+(i+1)))=_
     rw[if_neg (by omega),show 0+(i+1)=1+i by omega]
     exact h.1
  refine awp_seq (awp_reg C9ok ?_)
  simp[go_sem]
  refine awp_cond (b:=decide (i=9)) (by simp[go_sem];rw[Bool.eq_iff_iff];simp;try omega) (fun hc=>?_) fun hc9=>?_
  ·obtain rfl:i=9:=by simpa using hc
   have p15:0 < t.f15.length:=List.length_pos_iff.2 n15
   have p17:0 < t.f17.length:=List.length_pos_iff.2 n17
   refine awp_reg C9ok ?_
   simp[go_sem,osea,owin,ohol,oblk,p15,p17,hz]
   refine⟨by omega,rfl,_,_,_,_,⟨rfl,rfl,trivial⟩,gp _ _ _ _ _ _ _ _ _ _,⟨r15 _ _ _ _,r16 _ _ _ _,?_,r18 _ _ _ _⟩,⟨_,by rw[hH,List.append_assoc]⟩⟩
   refine .inr ⟨H1.length+4,1,1,owin t.f17,?_,at4 _ _ _ _ _,rfl,?_,rfl,fun i x hx=>?_⟩
   ·show _=AV.sl _ 1 (t.f17.drop 1).length 1
    rw[List.length_drop]
   ·show 1+(t.f17.drop 1).length≤t.f17.length
    rw[List.length_drop];omega
   ·have hx:(t.f17.drop 1)[i]? = some x:=hx
    rw[List.getElem?_drop] at hx
    show winV (t.f17.getD (1+i) z45)=winV x
    rw[List.getD_eq_getElem?_getD,hx];rfl
  refine awp_seq (awp_reg C9ok ?_)
  simp[go_sem]
  refine awp_cond (b:=decide (i=10)) (by simp[go_sem];rw[Bool.eq_iff_iff];simp;try omega) (fun hc=>?_) fun hc10=>?_
  ·obtain rfl:i=10:=by simpa using hc
   have p15:0 < t.f15.length:=List.length_pos_iff.2 n15
   have p17:0 < t.f17.length:=List.length_pos_iff.2 n17
   refine awp_reg C9ok ?_
   simp[go_sem,osea,owin,ohol,oblk,p15,p17,hz]
   refine⟨rfl,_,_,_,_,⟨rfl,rfl,trivial⟩,gp _ _ _ _ _ _ _ _ _ _,⟨r15 _ _ _ _,r16 _ _ _ _,?_,r18 _ _ _ _⟩,⟨_,by rw[hH,List.append_assoc]⟩⟩
   refine .inr ⟨H1.length+4,0,1,_,?_,at4 _ _ _ _ _,rfl,?_,rfl,fun i x hx=>?_⟩
   ·show _=AV.sl _ 0 ((t.f17.drop 1).length+1) _
    rw[List.length_drop,Nat.sub_add_cancel p17]
   ·show 0+((t.f17.drop 1).length+1)≤t.f17.length
    rw[List.length_drop];omega
   ·cases i with
    |zero=>
     obtain rfl:=Option.some.inj hx
     show(if 0+0=0 then [AV.str (t.f17[0+0]?.getD z45).f0,.int .i64 (t.f17[0+0]?.getD z45).f1,.int .i64 (t.f17[0+0]?.getD z45).f2,.int .i64 (t.f17[0+0]?.getD z45).f3,.str ⟨#[110,111,45,115,117,99,104,45,98,117,99,107,101,116,45,97,116,45,97,108,108,45,104,101,114,101]⟩] else [AV.str (t.f17[0+0]?.getD z45).f0,.int .i64 (t.f17[0+0]?.getD z45).f1,.int .i64 (t.f17[0+0]?.getD z45).f2,.int .i64 (t.f17[0+0]?.getD z45).f3,.str (t.f17[0+0]?.getD z45).f4])=winV _
     rw[if_pos rfl,Nat.add_zero,List.getD_eq_getElem?_getD]
     rfl
    |succ i=>
     have hx:(t.f17.drop 1)[i]? = some x:=hx
     rw[List.getElem?_drop] at hx
     show(if 0+(i+1)=0 then [AV.str (t.f17[0+(i+1)]?.getD z45).f0,.int .i64 (t.f17[0+(i+1)]?.getD z45).f1,.int .i64 (t.f17[0+(i+1)]?.getD z45).f2,.int .i64 (t.f17[0+(i+1)]?.getD z45).f3,.str ⟨#[110,111,45,115,117,99,104,45,98,117,99,107,101,116,45,97,116,45,97,108,108,45,104,101,114,101]⟩] else [AV.str (t.f17[0+(i+1)]?.getD z45).f0,.int .i64 (t.f17[0+(i+1)]?.getD z45).f1,.int .i64 (t.f17[0+(i+1)]?.getD z45).f2,.int .i64 (t.f17[0+(i+1)]?.getD z45).f3,.str (t.f17[0+(i+1)]?.getD z45).f4])=winV _
     rw[if_neg (by omega),show 0+(i+1)=1+i by omega,hx]
     rfl
  refine awp_seq (awp_reg C9ok ?_)
  simp[go_sem]
  refine awp_cond (b:=decide (i=11)) (by simp[go_sem];rw[Bool.eq_iff_iff];simp;try omega) (fun hc=>?_) fun hc11=>?_
  ·obtain rfl:i=11:=by simpa using hc
   refine awp_reg C9ok ?_
   simp[go_sem]
   exact⟨rfl,_,_,_,_,⟨rfl,rfl,trivial⟩,gp _ _ _ _ _ _ _ _ _ _,⟨r15 _ _ _ _,r16 _ _ _ _,r17 _ _ _ _,r18 _ _ _ _⟩,⟨_,by rw[hH,List.append_assoc]⟩⟩
  refine awp_seq (awp_reg C9ok ?_)
  simp[go_sem]
  refine awp_cond (b:=decide (i=12)) (by simp[go_sem];rw[Bool.eq_iff_iff];simp;try omega) (fun hc=>?_) fun hc12=>?_
  ·obtain rfl:i=12:=by simpa using hc
   refine awp_reg C9ok ?_
   simp[go_sem]
   exact⟨rfl,_,_,_,_,⟨rfl,rfl,trivial⟩,gp _ _ _ _ _ _ _ _ _ _,⟨r15 _ _ _ _,r16 _ _ _ _,r17 _ _ _ _,r18 _ _ _ _⟩,⟨_,by rw[hH,List.append_assoc]⟩⟩
  have hi13:i=13:=by have h0 : ¬ i=0:=(by simpa using hc0);have h1 : ¬ i=1:=(by simpa using hc1);have h2 : ¬ i=2:=(by simpa using hc2);have h3 : ¬ i=3:=(by simpa using hc3);have h4 : ¬ i=4:=(by simpa using hc4);have h5 : ¬ i=5:=(by simpa using hc5);have h6 : ¬ i=6:=(by simpa using hc6);have h7 : ¬ i=7:=(by simpa using hc7);have h8 : ¬ i=8:=(by simpa using hc8);have h9 : ¬ i=9:=(by simpa using hc9);have h10 : ¬ i=10:=(by simpa using hc10);have h11 : ¬ i=11:=(by simpa using hc11);have h12 : ¬ i=12:=(by simpa using hc12);omega
  subst hi13
  refine awp_reg C9ok ?_
  simp[go_sem]
  exact⟨rfl,_,_,_,_,⟨rfl,rfl,trivial⟩,gp _ _ _ _ _ _ _ _ _ _,⟨r15 _ _ _ _,r16 _ _ _ _,r17 _ _ _ _,r18 _ _ _ _⟩,⟨_,by rw[hH,List.append_assoc]⟩⟩
 ·rintro x T1 H2 ⟨rfl,s15',s16',s17',s18',hT,hp,hr,L,rfl⟩
  show AWp C9 105 (tarH t) _ _ T1 _
  refine awp_weak (T2:=[(8,.int .i64 (ruleOf i)),(7,.ptr (H1.length+(Y.length+1+1+1+1+1+1+1+1)) 0 0 0)]) ⟨hT,.inl rfl⟩ ?_
  simp only[boxBlk] at hp
  have hl2:eu (modT t i):=hl2
  have hchk2:=check_callsO hr hl2 hk2
  refine awp_seq (awp_region (dR C9ok 1 ?_))
  simp[go_sem,hp]
  refine aops_call rfl rfl rfl rfl Tryd.func12 (by kernel_rfl) (by kernel_rfl) hchk2 ?_
  rintro v H3 ⟨rfl,rfl⟩
  refine⟨_,rfl,dR C9ok 5 ?_⟩
  simp[go_sem]
  refine aops_nil ?_
  simp[go_sem]
  refine awp_seq (awp_reg C9ok ?_)
  simp[go_sem]
  refine awp_ret ⟨.inr rfl,_,_,rfl,trivial,tarH t,L,rfl,Nat.le_refl _,hclo,trivial,?_⟩
  simp[go_sem]
end Go.Proofs.YtcmhfcciapenfaaDoor.Pa
