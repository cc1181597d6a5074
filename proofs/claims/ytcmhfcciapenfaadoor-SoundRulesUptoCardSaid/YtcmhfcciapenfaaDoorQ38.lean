/- A part of the proof. -/
import Derived.Test.YtcmhfcciapenfaaDoorQ37
set_option linter.all false
namespace Go.Proofs.YtcmhfcciapenfaaDoor.Pa
open Go Go.RowKit Go.Proofs.YtcmhfcciapenfaaDoorW.PrintWords Am
attribute [local go_sem] areg aseq gstep astep apick aop aslice alen aappend unw opTmps opnds tmpsOf aev Am.get ofConst ofConst1 putT strip abin aun initT AThen AIn ares oneOr bound asInt fieldOf ldv boxBlk setSeg Blk.put AV.cells AV.whole AV.cell tys ty33 ty26 ty41 ty28 ty45 ty29 ty48 ty70 ty49 ty3 ty2 ty4 ty9 ty35 Ty.agg ty27 ty43 ty46 afill zeroRow newRowBlk litGet appBlk litCells
attribute [local go_sem] seaBlk holBlk winBlk blkBlk stpBlk seaV holV winV blkV stpV Has hget hget0 hat_z hat_s tarV
attribute [local go_sem] C9_ty C9_fn
set_option maxRecDepth 10000
structure TarIn (t:Tar) (H:Heap):Prop where
 g0 : ∀ X,hat (H ++ X) 0=some (seaBlk t.f15)
 g1 : ∀ X,hat (H ++ X) 1=some (holBlk t.f16)
 g2 : ∀ X,hat (H ++ X) 2=some (winBlk t.f17)
 g3 : ∀ X,hat (H ++ X) 3=some (blkBlk t.f18)
 g4 : ∀ X i s,t.f18[i]? = some s → hat (H ++ X) (i+4)=some (stpBlk s.f1)
def cpV (t:Tar) (n:Nat) (s18:AV):List AV:=[.str t.f0,.int .i64 t.f1,.int .i64 t.f2,.int .i64 t.f3,.int .i64 t.f4,.int .i64 t.f5,.int .i64 t.f6,.int .i64 t.f7,.int .i64 t.f8,.int .i64 t.f9,.int .i64 t.f10,.int .i64 t.f11,.int .i64 t.f12,.int .i64 t.f13,.int .i64 t.f14,.sl (n+2) 0 t.f15.length 1,.sl (n+3) 0 t.f16.length 1,.sl (n+4) 0 t.f17.length 1,s18,.int .i64 t.f19,.int .i64 t.f20,.int .i64 t.f21,.int .i64 t.f22,.int .i64 t.f23,.int .i64 t.f24,.int .i64 t.f25,.int .i64 t.f26,.int .i64 t.f27]
def osea (l:List S41):Blk:={ t:=41,sz:=3,own:=true,ver:=1,len:=l.length,get:=fun i=>seaV (l.getD i z41) }
def ohol (l:List S43):Blk:={ t:=43,sz:=4,own:=true,ver:=1,len:=l.length,get:=fun i=>holV (l.getD i z43) }
def owin (l:List S45):Blk:={ t:=45,sz:=5,own:=true,ver:=1,len:=l.length,get:=fun i=>winV (l.getD i z45) }
def ostp (l:List S70):Blk:={ t:=70,sz:=2,own:=true,ver:=1,len:=l.length,get:=fun i=>stpV (l.getD i z70) }
def oblk (g:Nat → List AV) (n v:Nat):Blk:={ t:=48,sz:=2,own:=true,ver:=v,len:=n,get:=g }
def CpRest (l:List S48) (n j:Nat) (s18:AV) (rest:Heap):Prop:=(j=0∧s18 = .nilsl∧rest = [])∨(0 < j∧∃ S0 T0 g Y,rest=S0 :: T0 :: oblk g j (j - 1) :: Y∧s18 = .sl (n+7) 0 j (j - 1)∧∀ i s,i < j → l[i]? = some s → ∃ q,g i = [.str s.f0,.sl (n+5+q) 0 s.f1.length 1]∧q≠2∧hat rest q=some (ostp s.f1))
def CopyPost (t:Tar) (H:Heap) (v:AV) (H' : Heap):Prop:=∃ s18 b0 b1 rest,v = .agg (cpV t H.length s18)∧H' = H ++ b0 :: b1 :: osea t.f15 :: ohol t.f16 :: owin t.f17 :: rest∧CpRest t.f18 H.length t.f18.length s18 rest
theorem copy_calls (t:Tar) (H:Heap) (hH:TarIn t H) (hl:eu t) (hcs:dS t=true) :
  ACalls Tryd.prog 13 [.agg (tarV t)] H (CopyPost t H):=by
 have g0:=hH.g0
 have g1:=hH.g1
 have g2:=hH.g2
 have g3:=hH.g3
 unfold dS at hcs
 simp only[Bool.and_eq_true,decide_eq_true_eq,List.all_eq_true] at hcs
 obtain⟨⟨⟨⟨s15,s16⟩,s17⟩,s18⟩,ss⟩:=hcs
 have l15:=hl.l15
 have l16:=hl.l16
 have l17:=hl.l17
 have l18:=hl.l18
 have ml:maxLen=9223372036854775807:=by decide
 refine acalls_of (C:=C9) (nt:=48) C9ok Tryd.func13 rfl rfl fun hclo=>?_
 refine awp_seq (awp_reg C9ok ?_)
 simp[go_sem]
 refine awp_seq (awp_reg C9ok ?_)
 simp[go_sem,g0]
 refine⟨⟨by omega,by omega⟩,?_⟩
 refine awp_seq (awp_reg C9ok ?_)
 simp[go_sem,g1]
 refine⟨⟨by omega,by omega⟩,?_⟩
 refine awp_seq (awp_reg C9ok ?_)
 simp[go_sem,g2]
 refine⟨⟨by omega,by omega⟩,?_⟩
 refine awp_seq (awp_reg C9ok ?_)
 simp[go_sem]
 refine awp_seq (awp_reg C9ok ?_)
 simp[go_sem]
 refine awp_seq (awp_seq (awp_reg C9ok ?_))
 simp[go_sem,g3]
 refine awp_block (awp_loopW (fun k T H'=>∃ (j:Nat) (s18:AV) (b1:Blk) (rest:Heap),k+j=t.f18.length∧CpRest t.f18 H.length j s18 rest∧b1=boxBlk 33 28 ty33.zero∧H' = H ++ boxBlk 33 28 (cpV t H.length s18) :: b1 :: osea t.f15 :: ohol t.f16 :: owin t.f17 :: rest∧
   T = [(25,.int .i64 j),(24,.int .i64 t.f18.length),(3,.sl 3 0 t.f18.length 0),(2,.ptr (H.length+1) 0 0 0),(1,.ptr H.length 0 0 0)]) t.f18.length _ _ ⟨?_,.inl ?_⟩ ⟨0,.nilsl,_,[],by omega,.inl ⟨rfl,rfl,rfl⟩,rfl,rfl,rfl⟩ ?_)
 ·simp[go_sem]
 ·simp[go_sem,cpV,osea,ohol,owin]
 rintro k T H' ⟨j,s18,b1,rest,hj,hcp,hb1,rfl,rfl⟩
 refine awp_seq (awp_reg C9ok ?_)
 simp[go_sem]
 refine awp_seq (awp_cond (b:=decide (j < t.f18.length)) (by simp[go_sem]) (fun h=>awp_skip ?_) fun h=>awp_exit ?_)
 ·have h:j < t.f18.length:=by simpa using h
  obtain⟨s,hs⟩ : ∃ s,t.f18[j]? = some s:=⟨_,List.getElem?_eq_getElem h⟩
  have hw1:IntKind.i64.wrap ((j:Int)+1)=(j:Int)+1:=i64_wrap (by omega) (by omega)
  have hs' : t.f18[j]=s:=(List.getElem?_eq_some_iff.1 hs).2
  have g4 : ∀ X,hat (H ++ X) (j+4)=some (stpBlk s.f1):=fun X=>hH.g4 X j s hs
  simp[go_sem]
  refine awp_seq (awp_block (awp_seq (awp_reg C9ok ?_)))
  simp[go_sem]
  rcases hcp with ⟨rfl,rfl,rfl⟩|⟨hj0,S0,T0,g,Y,rfl,rfl,hg⟩
  ·refine awp_draw C9ok (by kernel_rfl) [0,1,0,0,12,28,60,0,0,0,768,1792,3840,8064,16380,32764,65535,131071,262143] [.quiet [0,1,2,3],.quiet [0,1,2,3],.quiet [0,1,2],.quiet [0,1,2],.quiet [0,1,2],.quiet [0,1,2],.quiet [0,1,2],.eff 0,.quiet [0,1],.quiet [0,1],.quiet [0,1],.quiet [0,1],.quiet [0,1],.eff 1,.quiet [2],.eff 2,.eff 3,.quiet [4],.eff 4] 5 (by kernel_rfl) ?_
   simp[go_sem,adraw,awit,adchk,pchk,qchk,gchk,looks,restr,tfin,cpV,g3,hs',h,g4]
   have hss:=ss s (List.mem_of_getElem? hs)
   refine⟨⟨⟨by omega,by omega⟩,by omega⟩,?_⟩
   refine awp_reg C9ok ?_
   simp[go_sem]
   let L:List AV:=[.str s.f0,.sl (H.length+5) 0 s.f1.length 1]
   refine⟨k - 1,by omega,_,_,⟨?_,.inl rfl⟩,1,by omega,.sl (H.length+7) 0 1 0,_,[ostp s.f1,{ t:=48,sz:=2,own:=true,ver:=0,len:=1,get:=litGet 2 L },oblk (fun i=>List.take 2 (List.drop (i * 2) L)) 1 0],.inr ⟨by omega,_,_,_,[],rfl,rfl,fun i s' hi hs'=>?_⟩,rfl,?_,rfl⟩
   ·simp[go_sem]
    exact i64_wrap (by omega) (by omega)
   ·obtain rfl:i=0:=by omega
    have e:s' = s:=Option.some.inj (hs'.symm.trans hs)
    subst e
    exact⟨0,rfl,by omega,rfl⟩
   ·rw[hb1]
    simp[cpV,osea,ohol,owin,ostp,oblk,seaV,holV,winV,stpV,ty33,boxBlk,L]
  ·refine awp_draw C9ok (by kernel_rfl) [0,1,0,0,12,28,60,0,0,0,768,1792,3840,8064,16380,32764,65535,131071,262143] [.quiet [0,1,2,3],.quiet [0,1,2,3],.quiet [0,1,2],.quiet [0,1,2],.quiet [0,1,2],.quiet [0,1,2],.quiet [0,1,2],.eff 0,.quiet [0,1],.quiet [0,1],.quiet [0,1],.quiet [0,1],.quiet [0,1],.eff 1,.quiet [2],.eff 2,.eff 3,.quiet [4],.eff 4] 5 (by kernel_rfl) ?_
   simp[go_sem,adraw,awit,adchk,pchk,qchk,gchk,looks,restr,tfin,cpV,g3,hs',h,g4,oblk]
   have hss:=ss s (List.mem_of_getElem? hs)
   refine⟨⟨⟨by omega,by omega⟩,by omega,by omega⟩,?_⟩
   refine awp_reg C9ok ?_
   simp[go_sem]
   let L:List AV:=[.str s.f0,.sl (H.length+(Y.length+1+1+1+1+1+1+1+1)) 0 s.f1.length 1]
   have ej:j - 1+1=j:=by omega
   refine⟨k - 1,by omega,_,_,⟨?_,.inl rfl⟩,j+1,by omega,.sl (H.length+7) 0 (j+1) j,_,S0 :: T0 :: oblk (fun k=>if k < j then g k else List.take 2 (List.drop ((k - j) * 2) L)) (j+1) j :: (Y ++ [ostp s.f1,{ t:=48,sz:=2,own:=true,ver:=0,len:=1,get:=litGet 2 L }]),.inr ⟨by omega,_,_,_,_,rfl,rfl,fun i s' hi hsi=>?_⟩,rfl,?_,rfl⟩
   ·simp[go_sem,hw1]
   ·by_cases hij:i < j
    ·obtain⟨q,q1,q2,q3⟩:=hg i s' hij hsi
     refine⟨q,by rw[if_pos hij];exact q1,q2,?_⟩
     match q,q2,q3 with
     |0,_,q3=>exact q3
     |1,_,q3=>exact q3
     |q+3,_,q3=>
      have q3:Y[q]? = some (ostp s'.f1):=q3
      show(Y ++ _)[q]? = _
      rw[List.getElem?_append_left (List.getElem?_eq_some_iff.1 q3).1,q3]
    ·obtain rfl:i=j:=by omega
     have e:s' = s:=Option.some.inj (hsi.symm.trans hs)
     subst e
     refine⟨Y.length+3,?_,by omega,?_⟩
     ·rw[if_neg hij]
      have:H.length+5+(Y.length+3)=H.length+(Y.length+1+1+1+1+1+1+1+1):=by omega
      rw[this]
      simp[L]
     ·show(Y ++ _)[Y.length]? = _
      simp
   ·rw[hb1]
    simp[cpV,osea,ohol,owin,ostp,oblk,seaV,holV,winV,stpV,ty33,boxBlk,L,ej]
 ·have h : ¬ j < t.f18.length:=by simpa using h
  have hje:j=t.f18.length:=by omega
  subst hje
  subst hb1
  have hcp2:=hcp
  rcases hcp with ⟨_,rfl,rfl⟩|⟨_,S0,T0,g,Y,rfl,rfl,_⟩
  ·simp[go_sem]
   refine awp_seq (awp_reg C9ok ?_)
   simp[go_sem,cpV]
   refine awp_closed fun hcl _=>?_
   refine awp_ret (abody_of [.agg (cpV t H.length .nilsl)] (.inr rfl) ?_ (by simp) hcl ?_ ⟨_,_,_,_,rfl,rfl,hcp2⟩)
   ·simp[go_sem,cpV]
   ·simp[oneOr,cpV,Smalls,Small]
  ·simp[go_sem]
   refine awp_seq (awp_reg C9ok ?_)
   simp[go_sem,cpV]
   refine awp_closed fun hcl _=>?_
   refine awp_ret (abody_of [.agg (cpV t H.length (.sl (H.length+7) 0 t.f18.length (t.f18.length - 1)))] (.inr rfl) ?_ (by simp) hcl ?_ ⟨_,_,_,_,rfl,rfl,hcp2⟩)
   ·simp[go_sem,cpV]
   ·simp[oneOr,cpV,Smalls,Small]
    try omega
end Go.Proofs.YtcmhfcciapenfaaDoor.Pa
