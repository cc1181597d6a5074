/- A part of the proof. -/
import Derived.Test.YtcmhfcciapenfaaDoorQ38
import Derived.Test.YtcmhfcciapenfaaDoorQ36
set_option linter.all false
namespace Go.Proofs.YtcmhfcciapenfaaDoor.Pa
open Go Go.RowKit Go.Proofs.YtcmhfcciapenfaaDoorW.PrintWords Am
attribute [local go_sem] areg aseq gstep astep apick aop aslice alen aappend unw opTmps opnds tmpsOf aev Am.get ofConst ofConst1 putT strip abin aun initT AThen AIn ares oneOr bound asInt fieldOf ldv boxBlk setSeg Blk.put AV.cells AV.whole AV.cell tys ty33 ty26 ty41 ty28 ty45 ty29 ty48 ty70 ty49 ty3 ty2 ty4 ty9 ty35 Ty.agg ty27 ty43 ty46 afill zeroRow newRowBlk litGet appBlk litCells
attribute [local go_sem] adraw awit adchk pchk qchk gchk looks restr tfin
attribute [local go_sem] dX holBlk dY dZ stpBlk seaV holV winV blkV stpV Has hget hget0 hat_z hat_s leqs ceq fits eqs9 repV tarV_all tarV_len tarV_take tarV_15 tarV_16 tarV_17 tarV_18
set_option maxRecDepth 10000
def SameOb (cs ds:List AV) (H:Heap):Prop:=∃ t a15 a16 a17 a18 d15 d16 d17 d18,cs=repV t a15 a16 a17 a18∧ds=repV t d15 d16 d17 d18∧RepB t H a15 a16 a17 a18∧RepB t H d15 d16 d17 d18∧TarLen t
noncomputable def specs6:FuncId → Option Am.Spec:=fun f=>match f with
 |10=>some fun args H=>match args with
  |[]=>some (.bool true,H,True)
  |_=>none
 |14=>some fun args H=>match args with
  |[.agg cs,.agg ds]=>some (.bool true,H,SameOb cs ds H)
  |_=>none
 |_=>none
noncomputable def C6:Ctx:={ P:=Tryd.prog,ty:=tys,fn:=specs6,eqt:=eqs9 }
theorem C6ok:CtxOk C6:=by
 refine⟨tysOk,fun f s h=>?_,eqs9_ok⟩
 unfold C6 specs6 at h
 simp only at h
 split at h
 ·cases h
  refine⟨⟨Tryd.f10,Tryd.func10,by kernel_rfl,by kernel_rfl⟩,fun args H v H1 ob h hob=>?_⟩
  dsimp only at h
  split at h
  ·cases h
   exact dH (fun a ha=>by cases ha) rfl (fun W=>awake9.calls W)
  ·cases h
 ·cases h
  refine⟨⟨Tryd.f14,Tryd.func14,by kernel_rfl,by kernel_rfl⟩,fun args H v H1 ob h hob=>?_⟩
  dsimp only at h
  split at h
  ·cases h
   obtain⟨t,a15,a16,a17,a18,d15,d16,d17,d18,rfl,rfl,h1,h2,h3⟩:=hob
   exact same_calls h1 h2 h3
  ·cases h
 ·cases h
theorem C6_ty:C6.ty=tys:=rfl
theorem C6_eqt:C6.eqt=eqs9:=rfl
theorem C6_fn:C6.fn=specs6:=rfl
attribute [local go_sem] C6_ty C6_eqt C6_fn specs6 Am.asInt
structure KIn (t:Tar) (HT:Heap) (p b n15 n16 n17 n18 v16 v18:Nat) (g15 g17 g18:Nat → List AV) (H' : Heap):Prop where
 rep:RepB t H' (.sl n15 0 t.f15.length 2) (.sl n16 0 t.f16.length v16) (.sl n17 0 t.f17.length 2) (.sl n18 0 t.f18.length v18)
 tar:RepB t H' (.sl 0 0 t.f15.length 0) (.sl 1 0 t.f16.length 0) (.sl 2 0 t.f17.length 0) (.sl 3 0 t.f18.length 0)
 box:hat H' p=some (boxBlk 33 28 (repV t (.sl n15 0 t.f15.length 2) (.sl n16 0 t.f16.length v16) (.sl n17 0 t.f17.length 2) (.sl n18 0 t.f18.length v18)))
 inp:hat H' b=some (boxBlk 33 28 (repV t (.sl 0 0 t.f15.length 0) (.sl 1 0 t.f16.length 0) (.sl 2 0 t.f17.length 0) (.sl 3 0 t.f18.length 0)))
 h15:hat H' n15=some { t:=41,sz:=3,own:=true,ver:=2,len:=t.f15.length+1,get:=g15 }
 h17:hat H' n17=some { t:=45,sz:=5,own:=true,ver:=2,len:=t.f17.length+1,get:=g17 }
 h18:hat H' n18=some { t:=48,sz:=2,own:=true,ver:=v18,len:=t.f18.length+1,get:=g18 }
 e15:g15 t.f15.length = [.str ⟨#[115,112,97,114,101]⟩,.int .i64 0,.int .i64 0]
 e17:g17 t.f17.length = [.str ⟨#[]⟩,.int .i64 77,.int .i64 0,.int .i64 0,.str ⟨#[]⟩]
 e18:g18 t.f18.length = [.str ⟨#[115,112,97,114,101]⟩,.nilsl]
 i0:hat H' 0=some (dX t.f15)
 i2:hat H' 2=some (dY t.f17)
 i3:hat H' 3=some (dZ t.f18)
 pre : ∃ L,H' = HT ++ L
theorem KIn.of {t:Tar} {HT:Heap} {p b n15 n16 n17 n18 v18:Nat} {g15 g17 g18:Nat → List AV} {H' : Heap} (tar:RepB t H' (.sl 0 0 t.f15.length 0) (.sl 1 0 t.f16.length 0) (.sl 2 0 t.f17.length 0) (.sl 3 0 t.f18.length 0))
  (h15:hat H' n15=some { t:=41,sz:=3,own:=true,ver:=2,len:=t.f15.length+1,get:=g15 }) (h16:hat H' n16=some (ohol t.f16))
  (h17:hat H' n17=some { t:=45,sz:=5,own:=true,ver:=2,len:=t.f17.length+1,get:=g17 }) (h18:hat H' n18=some { t:=48,sz:=2,own:=true,ver:=v18,len:=t.f18.length+1,get:=g18 })
  (c15 : ∀ i x,t.f15[i]? = some x → g15 i=seaV x) (c17 : ∀ i x,t.f17[i]? = some x → g17 i=winV x) (c18 : ∀ i x,t.f18[i]? = some x → blkB H' x (g18 i))
  (box:hat H' p=some (boxBlk 33 28 (repV t (.sl n15 0 t.f15.length 2) (.sl n16 0 t.f16.length 1) (.sl n17 0 t.f17.length 2) (.sl n18 0 t.f18.length v18))))
  (inp:hat H' b=some (boxBlk 33 28 (tarV t))) (e15:g15 t.f15.length = [.str ⟨#[115,112,97,114,101]⟩,.int .i64 0,.int .i64 0]) (e17:g17 t.f17.length = [.str ⟨#[]⟩,.int .i64 77,.int .i64 0,.int .i64 0,.str ⟨#[]⟩]) (e18:g18 t.f18.length = [.str ⟨#[115,112,97,114,101]⟩,.nilsl])
  (i0:hat H' 0=some (dX t.f15)) (i2:hat H' 2=some (dY t.f17)) (i3:hat H' 3=some (dZ t.f18)) (pre : ∃ L,H' = HT ++ L):KIn t HT p b n15 n16 n17 n18 1 v18 g15 g17 g18 H' where
 rep:=⟨⟨n15,_,rfl,h15,Nat.le_succ _,rfl,c15⟩,⟨n16,_,rfl,h16,Nat.le_refl _,rfl,fun i x hx=>by show holV (t.f16.getD i z43)=holV x;rw[List.getD_eq_getElem?_getD,hx];rfl⟩,⟨n17,_,rfl,h17,Nat.le_succ _,rfl,c17⟩,⟨n18,_,rfl,h18,Nat.le_succ _,rfl,c18⟩⟩
 tar:=tar
 box:=box
 inp:=inp
 h15:=h15
 h17:=h17
 h18:=h18
 e15:=e15
 e17:=e17
 e18:=e18
 i0:=i0
 i2:=i2
 i3:=i3
 pre:=pre
theorem tarIn_repB {t:Tar} {H:Heap} (h:TarIn t H) (X:Heap):RepB t (H ++ X) (.sl 0 0 t.f15.length 0) (.sl 1 0 t.f16.length 0) (.sl 2 0 t.f17.length 0) (.sl 3 0 t.f18.length 0):=by
 refine⟨⟨0,_,rfl,h.g0 X,Nat.le_refl _,rfl,fun i x hx=>?_⟩,⟨1,_,rfl,h.g1 X,Nat.le_refl _,rfl,fun i x hx=>?_⟩,⟨2,_,rfl,h.g2 X,Nat.le_refl _,rfl,fun i x hx=>?_⟩,⟨3,_,rfl,h.g3 X,Nat.le_refl _,rfl,fun i x hx=>⟨_,?_,i+4,_,rfl,h.g4 X i x hx,Nat.le_refl _,rfl,fun q y hy=>?_⟩⟩⟩
 ·show seaV (t.f15.getD i z41)=seaV x
  rw[List.getD_eq_getElem?_getD,hx];rfl
 ·show holV (t.f16.getD i z43)=holV x
  rw[List.getD_eq_getElem?_getD,hx];rfl
 ·show winV (t.f17.getD i z45)=winV x
  rw[List.getD_eq_getElem?_getD,hx];rfl
 ·show blkV i (t.f18.getD i z48)=_
  rw[List.getD_eq_getElem?_getD,hx];rfl
 ·show stpV (x.f1.getD q z70)=stpV y
  rw[List.getD_eq_getElem?_getD,hy];rfl
theorem awp_gen {C:Ctx} {nt:Nat} {H0:Heap} {c:Code} {R:APost} {T:Tmps} {H:Heap} (Q:Heap → Prop) (hq:Q H) (h : ∀ H',Q H' → AWp C nt H0 c R T H'):AWp C nt H0 c R T H:=h H hq
set_option maxHeartbeats 4000000 in
theorem keeps_calls (t:Tar) (n e:Int) (hl:TarLen t) (hcs:dF t=true) (hroom:t.f15.length * 32+32≤140737488355328∧t.f17.length * 56+56≤140737488355328∧t.f18.length * 40+40≤140737488355328) (hk : ∃ k,sCheck.f k t=some (n,e)) :
  ACalls Tryd.prog 6 [.agg (tarV t)] (tarH t) fun v H'=>v = .bool true∧H' = tarH t:=by
 refine acalls_of (C:=C6) (nt:=113) C6ok Tryd.func6 rfl rfl fun hclo=>?_
 refine awp_seq (awp_reg C6ok ?_)
 simp[go_sem]
 refine awp_seq (awp_seq (awp_reg C6ok ?_))
 simp[go_sem]
 refine awp_cond (b:=false) rfl (fun h=>by cases h) fun _=>awp_skip ?_
 simp[go_sem]
 obtain⟨r15,r17,r18⟩:=hroom
 have l15:=hl.l15
 have l16:=hl.l16
 have l17:=hl.l17
 have l18:=hl.l18
 have ml:maxLen=9223372036854775807:=by decide
 obtain⟨H,hH⟩ : ∃ H,H=tarH t ++ [boxBlk 33 28 (tarV t)]:=⟨_,rfl⟩
 have hI:TarIn t H:=by rw[hH];exact tarIn_mk t _
 have gb : ∀ X,hat (H ++ X) (tarH t).length=some (boxBlk 33 28 (tarV t)):=fun X=>by
  rw[hH]
  simp[hget0,hat_z]
 have gb0:=gb []
 rw[List.append_nil] at gb0
 refine awp_weak (T2:=[(1,.ptr (tarH t).length 0 0 0)]) (H2:=H) ⟨by simp[go_sem],.inl hH.symm⟩ ?_
 generalize (tarH t).length=b at gb gb0 ⊢
 simp only[go_sem] at gb gb0
 have g0:=hI.g0
 have g1:=hI.g1
 have g2:=hI.g2
 have g3:=hI.g3
 refine awp_seq (awp_region (bT C6ok 1 ?_))
 simp[go_sem,gb0]
 refine aops_call rfl rfl rfl rfl Tryd.func13 (by kernel_rfl) (by kernel_rfl) (copy_calls t H hI hl hcs) ?_
 rintro v H1 ⟨c18,b0,b1,rest,rfl,rfl,hcp⟩
 refine⟨_,rfl,bT C6ok 2 ?_⟩
 rcases hcp with ⟨hz,rfl,rfl⟩|⟨hz,S0,T0,g,Y,rfl,rfl,hcg⟩
 ·have hnil:t.f18 = []:=List.length_eq_zero_iff.1 hz
  simp[go_sem,cpV]
  refine aops_nil ?_
  simp[go_sem]
  refine awp_seq (awp_draw C6ok (by kernel_rfl) [0,1,0,4,15,0,32,96,255,511,1023] [.quiet [0,1],.quiet [0,1],.quiet [0],.eff 0,.eff 1,.quiet [0,1,2],.quiet [0,1,2],.quiet [0,1,2],.quiet [2],.quiet [2],.eff 2] 3 (by kernel_rfl) ?_)
  simp[go_sem,gb,g0,osea]
  refine⟨⟨⟨by omega,by omega⟩,by omega⟩,?_⟩
  refine awp_seq (awp_draw C6ok (by kernel_rfl) [0,1,0,4,15,0,32,96,255,511,1023] [.quiet [0,1],.quiet [0,1],.quiet [0],.eff 0,.eff 1,.quiet [0,1,2],.quiet [0,1,2],.quiet [0,1,2],.quiet [2],.quiet [2],.eff 2] 3 (by kernel_rfl) ?_)
  simp[go_sem,gb,g2,owin]
  refine⟨⟨⟨by omega,by omega⟩,by omega⟩,?_⟩
  refine awp_seq (awp_draw C6ok (by kernel_rfl) [0,1,0,4,15,0,32,96,255,511,1023] [.quiet [0,1],.quiet [0,1],.quiet [0],.eff 0,.eff 1,.quiet [0,1,2],.quiet [0,1,2],.quiet [0,1,2],.quiet [2],.quiet [2],.eff 2] 3 (by kernel_rfl) ?_)
  simp[go_sem,gb,g3]
  refine⟨⟨by omega,by omega⟩,?_⟩
  refine awp_gen (fun H'=>∃ g15 g17 g18,KIn t (tarH t) (H.length+5) b (H.length+2) (H.length+3) (H.length+4) (H.length+9) 1 0 g15 g17 g18 H') ⟨(fun k=>if k < t.f15.length then seaV (t.f15[k]?.getD z41) else List.take 3 (List.drop ((k - t.f15.length) * 3) [AV.str ⟨#[115,112,97,114,101]⟩,.int .i64 0,.int .i64 0])),(fun k=>if k < t.f17.length then winV (t.f17[k]?.getD z45) else List.take 5 (List.drop ((k - t.f17.length) * 5) [.str ⟨#[]⟩,.int .i64 77,.int .i64 0,.int .i64 0,.str ⟨#[]⟩])),(fun i=>List.take 2 (List.drop (i * 2) [AV.str ⟨#[115,112,97,114,101]⟩,AV.nilsl])),?_⟩ ?_
  ·refine KIn.of (tarIn_repB hI _) ?_ ?_ ?_ ?_ ?_ ?_ ?_ ?_ ?_ ?_ ?_ ?_ (g0 _) (g2 _) (g3 _) ⟨_,by rw[hH,List.append_assoc]⟩
   ·simp[hget,hat_s,hat_z,seaV]
   ·simp[hget,hat_s,hat_z]
   ·simp[hget,hat_s,hat_z,winV]
   ·simp[hget,hat_s,hat_z,hz]
   ·intro i x hx
    have hi:=(List.getElem?_eq_some_iff.1 hx).1
    rw[if_pos hi,hx];rfl
   ·intro i x hx
    have hi:=(List.getElem?_eq_some_iff.1 hx).1
    rw[if_pos hi,hx];rfl
   ·intro i x hx
    rw[hnil] at hx
    cases hx
   ·simp[hget,hat_s,hat_z,hget0,boxBlk,repV]
   ·exact gb _
   ·simp
   ·simp
   ·simp[hz]
  rintro HK ⟨g15,g17,g18,K⟩
  have hrep:=K.rep.rep
  have kb:=K.box
  have ki:=K.inp
  have k15:=K.h15
  have k17:=K.h17
  have k18:=K.h18
  have k0:=K.i0
  have k2:=K.i2
  have k3:=K.i3
  have ke15:=K.e15
  have ke17:=K.e17
  have ke18:=K.e18
  obtain⟨L,hL⟩:=K.pre
  replace ki:hat HK b=some (boxBlk 33 28 (repV t (.sl 0 0 t.f15.length 0) (.sl 1 0 t.f16.length 0) (.sl 2 0 t.f17.length 0) (.sl 3 0 t.f18.length 0))):=ki
  simp only[boxBlk] at kb ki
  refine awp_seq (awp_region (bT C6ok 1 ?_))
  simp[go_sem,kb]
  refine aops_call rfl rfl rfl rfl Tryd.func12 (by kernel_rfl) (by kernel_rfl) (dJ hrep hl hk) ?_
  rintro v H1 ⟨rfl,rfl⟩
  refine⟨_,rfl,bT C6ok 5 ?_⟩
  simp[go_sem]
  refine aops_nil ?_
  simp[go_sem]
  refine awp_seq (awp_region (bT C6ok 1 ?_))
  simp[go_sem,kb]
  refine aops_call rfl rfl rfl rfl Tryd.func12 (by kernel_rfl) (by kernel_rfl) (dJ hrep hl hk) ?_
  rintro v H1 ⟨rfl,rfl⟩
  refine⟨_,rfl,bT C6ok 5 ?_⟩
  simp[go_sem]
  refine aops_nil ?_
  simp[go_sem]
  have hw15:IntKind.i64.wrap ((t.f15.length:Int)+1)=((t.f15.length+1:Nat):Int):=by rw[bR (by omega) (by omega)];omega
  have hw17:IntKind.i64.wrap ((t.f17.length:Int)+1)=((t.f17.length+1:Nat):Int):=by rw[bR (by omega) (by omega)];omega
  have hw18:IntKind.i64.wrap ((t.f18.length:Int)+1)=((t.f18.length+1:Nat):Int):=by rw[bR (by omega) (by omega)];omega
  refine awp_seq (awp_draw C6ok (by kernel_rfl) [0,0,3,7,15,15,63,127,255,511,511,2047,4095,8191,16383,32767,16383,81919,212991,475135,1048575,16383,2113535,6307839,16777215,33554431,67108863,134217727,268435455,536870911,1073741823,2147483647,1073741823,5368709119,13958643711,31138512895,68719476735,1073741823,138512695295,413390602239,1099511627775,2199023255551,4398046511103,8796093022207,17592186044415,35184372088831,70368744177663,140737488355327,70368744177663,351843720888319,914793674309631,2040693581152255,4503599627370495,70368744177663,9077567998918655,27091966508400639,72057594037927935,144115188075855871,288230376151711743,576460752303423487,1152921504606846975,2305843009213693951] [.quiet [0],.quiet [0],.quiet [0],.quiet [0],.quiet [0],.quiet [0],.quiet [0],.quiet [0],.quiet [0],.quiet [0],.quiet [0],.quiet [0],.quiet [0],.quiet [0],.quiet [0],.quiet [0],.quiet [0],.quiet [0],.quiet [0],.quiet [0],.quiet [0],.quiet [0],.quiet [0],.quiet [0],.quiet [0],.quiet [0],.quiet [0],.quiet [0],.quiet [0],.quiet [0],.quiet [0],.quiet [0],.quiet [0],.quiet [0],.quiet [0],.quiet [0],.quiet [0],.quiet [0],.quiet [0],.quiet [0],.quiet [0],.quiet [0],.quiet [0],.quiet [0],.quiet [0],.quiet [0],.quiet [0],.quiet [0],.quiet [0],.quiet [0],.quiet [0],.quiet [0],.quiet [0],.quiet [0],.quiet [0],.quiet [0],.quiet [0],.quiet [0],.quiet [0],.quiet [0],.quiet [0],.quiet [0]] 0 (by kernel_rfl) ?_)
  simp[go_sem,kb,ki,k15,k17,k18,k0,k2,k3,ke15,ke17,ke18,hw15,hw17,hw18]
  refine⟨⟨⟨t,_,_,_,_,_,_,_,_,rfl,rfl,K.rep,K.tar,hl⟩,by omega,by omega,by omega,by omega,by omega,by omega⟩,?_⟩
  refine awp_ret ⟨.inr rfl,_,_,rfl,trivial,tarH t,L,hL,Nat.le_refl _,hclo,trivial,?_⟩
  simp[go_sem]
 ·skip
  simp[go_sem,cpV,oblk]
  refine aops_nil ?_
  simp[go_sem]
  refine awp_seq (awp_draw C6ok (by kernel_rfl) [0,1,0,4,15,0,32,96,255,511,1023] [.quiet [0,1],.quiet [0,1],.quiet [0],.eff 0,.eff 1,.quiet [0,1,2],.quiet [0,1,2],.quiet [0,1,2],.quiet [2],.quiet [2],.eff 2] 3 (by kernel_rfl) ?_)
  simp[go_sem,gb,g0,osea]
  refine⟨⟨⟨by omega,by omega⟩,by omega⟩,?_⟩
  refine awp_seq (awp_draw C6ok (by kernel_rfl) [0,1,0,4,15,0,32,96,255,511,1023] [.quiet [0,1],.quiet [0,1],.quiet [0],.eff 0,.eff 1,.quiet [0,1,2],.quiet [0,1,2],.quiet [0,1,2],.quiet [2],.quiet [2],.eff 2] 3 (by kernel_rfl) ?_)
  simp[go_sem,gb,g2,owin]
  refine⟨⟨⟨by omega,by omega⟩,by omega⟩,?_⟩
  refine awp_seq (awp_draw C6ok (by kernel_rfl) [0,1,0,4,15,0,32,96,255,511,1023] [.quiet [0,1],.quiet [0,1],.quiet [0],.eff 0,.eff 1,.quiet [0,1,2],.quiet [0,1,2],.quiet [0,1,2],.quiet [2],.quiet [2],.eff 2] 3 (by kernel_rfl) ?_)
  simp[go_sem,gb,g3]
  refine⟨⟨⟨by omega,by omega⟩,by omega⟩,?_⟩
  refine awp_gen (fun H'=>∃ g15 g17 g18,KIn t (tarH t) (H.length+(Y.length+1+1+1+1+1+1+1+1)) b (H.length+2) (H.length+3) (H.length+4) (H.length+7) 1 (t.f18.length - 1+1) g15 g17 g18 H') ⟨(fun k=>if k < t.f15.length then seaV (t.f15[k]?.getD z41) else List.take 3 (List.drop ((k - t.f15.length) * 3) [AV.str ⟨#[115,112,97,114,101]⟩,.int .i64 0,.int .i64 0])),(fun k=>if k < t.f17.length then winV (t.f17[k]?.getD z45) else List.take 5 (List.drop ((k - t.f17.length) * 5) [.str ⟨#[]⟩,.int .i64 77,.int .i64 0,.int .i64 0,.str ⟨#[]⟩])),(fun k=>if k < t.f18.length then g k else List.take 2 (List.drop ((k - t.f18.length) * 2) [AV.str ⟨#[115,112,97,114,101]⟩,AV.nilsl])),?_⟩ ?_
  ·refine KIn.of (tarIn_repB hI _) ?_ ?_ ?_ ?_ ?_ ?_ ?_ ?_ ?_ ?_ ?_ ?_ (g0 _) (g2 _) (g3 _) ⟨_,by rw[hH,List.append_assoc]⟩
   ·simp[hget,hat_s,hat_z,seaV]
   ·simp[hget,hat_s,hat_z]
   ·simp[hget,hat_s,hat_z,winV]
   ·simp[hget,hat_s,hat_z]
   ·intro i x hx
    have hi:=(List.getElem?_eq_some_iff.1 hx).1
    rw[if_pos hi,hx];rfl
   ·intro i x hx
    have hi:=(List.getElem?_eq_some_iff.1 hx).1
    rw[if_pos hi,hx];rfl
   ·intro i x hx
    have hi:=(List.getElem?_eq_some_iff.1 hx).1
    obtain⟨q,q1,q2,q3⟩:=hcg i x hi hx
    refine⟨.sl (H.length+5+q) 0 x.f1.length 1,?_,H.length+5+q,ostp x.f1,rfl,?_,Nat.le_refl _,rfl,fun r y hy=>?_⟩
    ·rw[if_pos hi];exact q1
    ·rw[List.getElem?_append_right (by omega),show H.length+5+q - H.length=q+5 by omega]
     match q,q2,q3 with
     |0,_,q3=>exact q3
     |1,_,q3=>exact q3
     |q+3,_,q3=>
      have q3:Y[q]? = some (ostp x.f1):=q3
      show(Y ++ _)[q]? = _
      rw[List.getElem?_append_left (List.getElem?_eq_some_iff.1 q3).1,q3]
    ·show stpV (x.f1.getD r z70)=stpV y
     rw[List.getD_eq_getElem?_getD,hy];rfl
   ·simp[hget,hat_s,hat_z,hget0,boxBlk,repV]
   ·exact gb _
   ·simp
   ·simp
   ·simp
  rintro HK ⟨g15,g17,g18,K⟩
  have hrep:=K.rep.rep
  have kb:=K.box
  have ki:=K.inp
  have k15:=K.h15
  have k17:=K.h17
  have k18:=K.h18
  have k0:=K.i0
  have k2:=K.i2
  have k3:=K.i3
  have ke15:=K.e15
  have ke17:=K.e17
  have ke18:=K.e18
  obtain⟨L,hL⟩:=K.pre
  replace ki:hat HK b=some (boxBlk 33 28 (repV t (.sl 0 0 t.f15.length 0) (.sl 1 0 t.f16.length 0) (.sl 2 0 t.f17.length 0) (.sl 3 0 t.f18.length 0))):=ki
  simp only[boxBlk] at kb ki
  refine awp_seq (awp_region (bT C6ok 1 ?_))
  simp[go_sem,kb]
  refine aops_call rfl rfl rfl rfl Tryd.func12 (by kernel_rfl) (by kernel_rfl) (dJ hrep hl hk) ?_
  rintro v H1 ⟨rfl,rfl⟩
  refine⟨_,rfl,bT C6ok 5 ?_⟩
  simp[go_sem]
  refine aops_nil ?_
  simp[go_sem]
  refine awp_seq (awp_region (bT C6ok 1 ?_))
  simp[go_sem,kb]
  refine aops_call rfl rfl rfl rfl Tryd.func12 (by kernel_rfl) (by kernel_rfl) (dJ hrep hl hk) ?_
  rintro v H1 ⟨rfl,rfl⟩
  refine⟨_,rfl,bT C6ok 5 ?_⟩
  simp[go_sem]
  refine aops_nil ?_
  simp[go_sem]
  have hw15:IntKind.i64.wrap ((t.f15.length:Int)+1)=((t.f15.length+1:Nat):Int):=by rw[bR (by omega) (by omega)];omega
  have hw17:IntKind.i64.wrap ((t.f17.length:Int)+1)=((t.f17.length+1:Nat):Int):=by rw[bR (by omega) (by omega)];omega
  have hw18:IntKind.i64.wrap ((t.f18.length:Int)+1)=((t.f18.length+1:Nat):Int):=by rw[bR (by omega) (by omega)];omega
  refine awp_seq (awp_draw C6ok (by kernel_rfl) [0,0,3,7,15,15,63,127,255,511,511,2047,4095,8191,16383,32767,16383,81919,212991,475135,1048575,16383,2113535,6307839,16777215,33554431,67108863,134217727,268435455,536870911,1073741823,2147483647,1073741823,5368709119,13958643711,31138512895,68719476735,1073741823,138512695295,413390602239,1099511627775,2199023255551,4398046511103,8796093022207,17592186044415,35184372088831,70368744177663,140737488355327,70368744177663,351843720888319,914793674309631,2040693581152255,4503599627370495,70368744177663,9077567998918655,27091966508400639,72057594037927935,144115188075855871,288230376151711743,576460752303423487,1152921504606846975,2305843009213693951] [.quiet [0],.quiet [0],.quiet [0],.quiet [0],.quiet [0],.quiet [0],.quiet [0],.quiet [0],.quiet [0],.quiet [0],.quiet [0],.quiet [0],.quiet [0],.quiet [0],.quiet [0],.quiet [0],.quiet [0],.quiet [0],.quiet [0],.quiet [0],.quiet [0],.quiet [0],.quiet [0],.quiet [0],.quiet [0],.quiet [0],.quiet [0],.quiet [0],.quiet [0],.quiet [0],.quiet [0],.quiet [0],.quiet [0],.quiet [0],.quiet [0],.quiet [0],.quiet [0],.quiet [0],.quiet [0],.quiet [0],.quiet [0],.quiet [0],.quiet [0],.quiet [0],.quiet [0],.quiet [0],.quiet [0],.quiet [0],.quiet [0],.quiet [0],.quiet [0],.quiet [0],.quiet [0],.quiet [0],.quiet [0],.quiet [0],.quiet [0],.quiet [0],.quiet [0],.quiet [0],.quiet [0],.quiet [0]] 0 (by kernel_rfl) ?_)
  simp[go_sem,kb,ki,k15,k17,k18,k0,k2,k3,ke15,ke17,ke18,hw15,hw17,hw18]
  refine⟨⟨⟨t,_,_,_,_,_,_,_,_,rfl,rfl,K.rep,K.tar,hl⟩,by omega,by omega,by omega,by omega,by omega,by omega⟩,?_⟩
  refine awp_ret ⟨.inr rfl,_,_,rfl,trivial,tarH t,L,hL,Nat.le_refl _,hclo,trivial,?_⟩
  simp[go_sem]
end Go.Proofs.YtcmhfcciapenfaaDoor.Pa
