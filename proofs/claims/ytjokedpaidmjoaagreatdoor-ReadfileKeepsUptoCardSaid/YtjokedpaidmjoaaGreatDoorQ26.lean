/- A part of the proof. -/
import Derived.Test.YtjokedpaidmjoaaGreatDoorQ24
import Derived.Test.YtjokedpaidmjoaaGreatDoorQ25
set_option linter.all false
namespace Go.Proofs.YtjokedpaidmjoaaGreatDoor.Rf
open Go Go.RowKit Go.Proofs.YtjokedpaidmjoaaGreatDoor.Am Go.Proofs.YtjokedpaidmjoaaGreatDoorW.PrintWords Go.Proofs.YtjokedpaidmjoaaGreatDoor.Pa Go.Proofs.YtjokedpaidmjoaaGreatDoor.Pu Go.Proofs.YtjokedpaidmjoaaGreatDoor
attribute [local go_sem] areg aseq gstep gwant astep apick aop aslice alen aappend aappendS aconvS aconvB unw opTmps opnds tmpsOf aev Am.get ofConst ofConst1 putT strip abin aun initT AThen AIn ws_n ws_r ws_e ws_g aw_seq aw_reg aw_draw aw_cond aw_block aw_skip aw_ret aw_exit aw_goto aw_label aw_loop aw_scope ANoGoto AJ ares oneOr bound asInt fieldOf ldv setSeg AV.cells AV.whole AV.cell tys Ty.agg ty9 ty3 ty2 ty5 ty4 ty89 ty21 ty37 ty46 ty83 ty73 ty81 ty41 ty23 ty25 ty27 ty28 ty48 afill zeroRow litGet litCells adraw awit adchk pchk qchk gchk looks restr tfin Has hat_z hat_s hat_len hat_appL hat_appN hat_appK hat_setS hat_setN set_appL set_appN set_appK box_t bn aD aG aH aI ax aJ row_t bq aK ay aM row_one aN
attribute [local go_sem] aQ bu aR aT aU
attribute [local go_sem] C8_ty C8_fn C8_ext C8_eqt s8_is s8_good s8_p1 s8_p2 spIs fI
attribute [local go_sem] List.set_set
set_option maxRecDepth 10000
theorem aops_gcall {nt:Nat} {H H0:Heap} {T:Tmps} {ops:Array Oper} {R:APost} {r:List Oper} {o:Oper} {c:Call} {x:Operand} {f:FuncId} {caps:List AV} {j d:Nat} {want:Bool} (hg:o.guard=some (j,want)) (hd:(ops[j]?).bind (·.dst)=some d) (hgd:gwant T d want=some true) (ho:o.op = .call c) (hc:c.callee = .value x) (hx:Am.aev T x = .fn f caps) {F:Func} (hf:C8.P.funcs[f]? = some F) (hn:(F.name == "runtime.NumGoroutine")=false) (hb:F.body.isNone=false) {post:AV → Heap → Prop} (h:ACalls C8.P f (c.args.toList.map (Am.aev T) ++ caps) H post)
  (hr : ∀ v H1,post v H1 → ∃ T1,putT nt T o.dst (.opt true v)=some T1∧AOps C8 nt H0 ops R r T1 H1):AOps C8 nt H0 ops R (o :: r) T H:=by
 intro φ0 φ base W0 W a hx0 hb0 hS hT hd0
 refine wpList_step fun K hK=>?_
 rw[wanted_of hT hg hd hgd,if_pos rfl]
 refine l_call ho hc hS hT hx hf hn hb h ?_
 intro v H1 hp φ1 W1 u k1 k2 k3 k4
 obtain⟨T1,q1,q2⟩:=hr v H1 hp
 have k5:VRel φ1 H1 (AV.opt true v) u:=And.intro (fun _=>k3) (fun e=>by cases e)
 obtain⟨p1,p2⟩:=putT_rel q1 (TRel.ext k1 hT) k5
 exact hK _ _ (q2 φ0 φ1 base W0 W1 (a.put o.dst u) (hx0.trans k1) (hb0.trans k4) k2 p1 (p2.trans hd0))
theorem aops_opt {nt:Nat} {H H0:Heap} {T:Tmps} {ops:Array Oper} {R:APost} {l:List Oper} {d:Nat} {v:AV} (h:Am.get T d = .opt true v) (hr:AOps C8 nt H0 ops R l ((d,v) :: T) H):AOps C8 nt H0 ops R l T H:=by
 intro φ0 φ b0 W0 W a hx0 hb hS hT hd
 refine hr φ0 φ b0 W0 W a hx0 hb hS ⟨hT.1,fun t=>?_⟩ hd
 by_cases e:d=t
 ·subst e
  have h2:=hT.2 d
  rw[h] at h2
  rw[show Am.get ((d,v) :: T) d=v from if_pos rfl]
  exact h2.1 rfl
 ·rw[show Am.get ((d,v) :: T) t=Am.get T t from if_neg e]
  exact hT.2 t
inductive POut where
 |good (f:Fi)
 |bad (line col:Int)
 |large
def f0:Fi:=⟨⟨#[]⟩,0,0,0,0,0,[]⟩
def isW (s:Sr) (w:List UInt8) (n:Nat):Bool:=((s.words[0]?.getD (⟨#[]⟩ : ByteArray)).toList == w) && ((s.words.length:Int) == (n:Int))
def dG:List UInt8:=[109,101,116,101,114]
def wEnd:List UInt8:=[101,110,100]
def wRead:List UInt8:=[114,101,97,100]
def tl1 (s:Sr) (f:Fi):Sr:=takeS s ((s.words[(s.word+1).toNat]?.getD (⟨#[]⟩ : ByteArray)).toList == (txt f.reads.length).toList)
def tl2 (s:Sr) (f:Fi):Sr:=takeS (tl1 s f) (if (sumR (sumL f.reads)).2=0 then ((tl1 s f).words[((tl1 s f).word+1).toNat]?.getD (⟨#[]⟩ : ByteArray)).toList == (txt (sumR (sumL f.reads)).1).toList else false)
def endP (s:Sr) (f:Fi):POut:=
 if (tl2 s f).wrong=0 then (if (restS (tl2 s f)).2 then .good f else .bad (restS (tl2 s f)).1.line (restS (tl2 s f)).1.wrong)
 else .bad (tl2 s f).line (tl2 s f).wrong
def readL:Nat → Sr → Fi → POut
 |0,s,_=>.bad s.line s.wrong
 |n+1,s,f=>
  if (nextS s).2=false then .bad (nextS s).1.line (nextS s).1.wrong
  else if isW (nextS s).1 wEnd 3 then endP (nextS s).1 f
  else if isW (nextS s).1 wRead 6=false∨(f.reads.length:Int)=f.slots then .bad (nextS s).1.line 1
  else if (rd5 (nextS s).1 f.slots).wrong=0 then readL n (rd5 (nextS s).1 f.slots) { f with reads:=f.reads ++ [rdR (nextS s).1 f.slots] }
  else .bad (rd5 (nextS s).1 f.slots).line (rd5 (nextS s).1 f.slots).wrong
def pS (a:ByteArray):POut:=
 if 1048576 < a.size then .large
 else if (nextS (opS a)).2=false then .bad (nextS (opS a)).1.line (nextS (opS a)).1.wrong
 else if isW (nextS (opS a)).1 dG 7=false then .bad (nextS (opS a)).1.line 1
 else if (hd9 (nextS (opS a)).1).wrong=0 then readL ((aC a).length+1) (hd9 (nextS (opS a)).1) (hdF (nextS (opS a)).1 f0)
 else .bad (hd9 (nextS (opS a)).1).line (hd9 (nextS (opS a)).1).wrong
structure PA (H G:Heap) (T:Tmps) (c2 c3 fb nb sb lb eb:Nat) (s:Sr) (f:Fi) (vr vw:AV) (nv ev:Int):Prop where
 src:Src G sb s lb vw
 fil:hat G fb=some (fiB f vr)
 rds:Rds G vr f.reads
 k2:hat G c2=some (fiB f0 .nilsl)
 k3:hat G c3=some (boxBlk 27 2 [.int .i64 0,.int .i64 0])
 kn:hat G nb=some (bI nv)
 ke:hat G eb=some (bE ev)
 t2:Am.get T 2 = .ptr c2 0 0 0
 t3:Am.get T 3 = .ptr c3 0 0 0
 t5:Am.get T 5 = .ptr fb 0 0 0
 t6:Am.get T 6 = .ptr nb 0 0 0
 t7:Am.get T 7 = .ptr sb 0 0 0
 t8:Am.get T 8 = .ptr eb 0 0 0
 n2:c2≠fb
 new:H.length≤fb
 m2:H.length≤c2
 m3:H.length≤c3
 mn:H.length≤nb
 me:H.length≤eb
 row : ∀ b n v,vr = .sl b 0 n v → H.length≤b
 old:Fr [81] H G
theorem PA.call {H G G' : Heap} {T T' : Tmps} {c2 c3 fb nb sb lb eb:Nat} {s s' : Sr} {f:Fi} {vr vw vw' : AV} {nv ev:Int} (h:PA H G T c2 c3 fb nb sb lb eb s f vr vw nv ev) (hs:Src G' sb s' lb vw') (hf:Fr [81] G G') (hT : ∀ i,i < 9 → Am.get T' i=Am.get T i):PA H G' T' c2 c3 fb nb sb lb eb s' f vr vw' nv ev:=
 ⟨hs,hf.keep _ _ h.fil (by simp only[fiB,box_t];decide),h.rds.keep hf (by decide),hf.keep _ _ h.k2 (by simp only[fiB,box_t];decide),hf.keep _ _ h.k3 (by simp only[box_t];decide),hf.keep _ _ h.kn (by simp only[bI,box_t];decide),hf.keep _ _ h.ke (by simp only[bE,box_t];decide),
  (hT 2 (by omega)).trans h.t2,(hT 3 (by omega)).trans h.t3,(hT 5 (by omega)).trans h.t5,(hT 6 (by omega)).trans h.t6,(hT 7 (by omega)).trans h.t7,(hT 8 (by omega)).trans h.t8,h.n2,h.new,h.m2,h.m3,h.mn,h.me,h.row,h.old.trans hf⟩
theorem PA.sum {H G:Heap} {T T' : Tmps} {c2 c3 fb nb sb lb eb:Nat} {s:Sr} {f:Fi} {vr vw:AV} {nv ev:Int} (h:PA H G T c2 c3 fb nb sb lb eb s f vr vw nv ev) (x y:Int) (hT : ∀ i,i < 9 → Am.get T' i=Am.get T i):PA H ((G.set nb (bI x)).set eb (bE y)) T' c2 c3 fb nb sb lb eb s f vr vw x y:=by
 have ne:eb≠nb:=ne_of_t h.ke h.kn (by simp only[bI,bE,box_t];decide)
 have f1:Fr [2,28] G ((G.set nb (bI x)).set eb (bE y)):=(Fr.set h.kn (by simp[bI,box_t]) _).trans (Fr.set (B:=bE ev) (by rw[hat_setN ne.symm];exact h.ke) (by simp[bE,box_t]) _)
 exact⟨h.src.keep f1 (by decide) (by decide),f1.keep _ _ h.fil (by simp only[fiB,box_t];decide),h.rds.keep f1 (by decide),f1.keep _ _ h.k2 (by simp only[fiB,box_t];decide),f1.keep _ _ h.k3 (by simp only[box_t];decide),by rw[hat_setN ne];exact hat_setS (hat_lt h.kn),hat_setS (by simp;exact hat_lt h.ke),
  (hT 2 (by omega)).trans h.t2,(hT 3 (by omega)).trans h.t3,(hT 5 (by omega)).trans h.t5,(hT 6 (by omega)).trans h.t6,(hT 7 (by omega)).trans h.t7,(hT 8 (by omega)).trans h.t8,h.n2,h.new,h.m2,h.m3,h.mn,h.me,h.row,Fr.set' (Fr.set' h.old h.mn) h.me⟩
theorem PA.frm {H G G' : Heap} {T T' : Tmps} {c2 c3 fb nb sb lb eb:Nat} {s:Sr} {f:Fi} {vr vw:AV} {nv ev:Int} (h:PA H G T c2 c3 fb nb sb lb eb s f vr vw nv ev) (hf:Fr [] G G') (hT : ∀ i,i < 9 → Am.get T' i=Am.get T i):PA H G' T' c2 c3 fb nb sb lb eb s f vr vw nv ev:=
 h.call (h.src.keep hf (by decide) (by decide)) (hf.mono (by simp)) hT
def scopeIn:Code → Code
 |.scope c=>c
 |c=>c
noncomputable def pC:Code:=scopeIn (tln 1 (dA Tryz.f11))
noncomputable def labC (l:Nat):Code:=(findLabel pC l).getD .skip
def PJ (a:ByteArray) (H:Heap) (l n:Nat) (T:Tmps) (G:Heap):Prop:=∃ c2 c3 fb nb sb lb eb s f vr vw nv ev,PA H G T c2 c3 fb nb sb lb eb s f vr vw nv ev∧((l=0∧n=0∧pS a = .bad s.line s.wrong)∨
 (l=1∧∃ k,n=k+2∧pS a=readL k s f∧Lok s∧(s.lines.length:Int) - s.line < k∧s.line≤s.lines.length∧(f.reads.length:Int)≤s.line∧∀ r∈f.reads,RdW r)∨
 (l=2∧n=1∧pS a=endP s f∧Lok s∧Wds G s vw∧Wok s∧s.words.length=3∧s.word=0∧s.wrong=0∧f.reads.length≤1048577∧∀ r∈f.reads,RdW r))
theorem PJ.weak {a:ByteArray} {H G:Heap} {l n:Nat} {T:Tmps} (h:PJ a H l n T G) : ∃ T2 G2,Weak H T G T2 G2∧PJ a H l n T2 G2:=by
 obtain⟨c2,c3,fb,nb,sb,lb,eb,s,f,vr,vw,nv,ev,h1,h2⟩:=h
 refine⟨[(2,.ptr c2 0 0 0),(3,.ptr c3 0 0 0),(5,.ptr fb 0 0 0),(6,.ptr nb 0 0 0),(7,.ptr sb 0 0 0),(8,.ptr eb 0 0 0)],G,⟨⟨h1.t2,h1.t3,h1.t5,h1.t6,h1.t7,h1.t8,trivial⟩,.inl rfl⟩,c2,c3,fb,nb,sb,lb,eb,s,f,vr,vw,nv,ev,?_,h2⟩
 exact⟨h1.src,h1.fil,h1.rds,h1.k2,h1.k3,h1.kn,h1.ke,rfl,rfl,rfl,rfl,rfl,rfl,h1.n2,h1.new,h1.m2,h1.m3,h1.mn,h1.me,h1.row,h1.old⟩
def pPost (a:ByteArray) (H:Heap):AV → Heap → Prop:=fun v H'=>Fr [81] H H'∧match pS a with
   |.large=>v = .tup [.agg (fiV f0 .nilsl),.agg [.int .i64 0,.int .i64 0],.int .i64 9]
   |.bad l c=>v = .tup [.agg (fiV f0 .nilsl),.agg [.int .i64 l,.int .i64 c],.int .i64 1]
   |.good f=>∃ vr,v = .tup [.agg (fiV f vr),.agg [.int .i64 0,.int .i64 0],.int .i64 0]∧Rds H' vr f.reads∧∀ b n v,vr = .sl b 0 n v → H.length≤b
theorem parse_0 {a:ByteArray} {H G:Heap} {T:Tmps} {n:Nat} (h:PJ a H 0 n T G) {R:APost} (hR : ∀ T G,ABodyN C8 Tryz.f11 (pPost a H) .ret T G → R .ret T G):awalk C8 76 H (tl (labC 0)) R T G:=by
 obtain⟨c2,c3,fb,nb,sb,lb,eb,s,f,vr,vw,nv,ev,h1,h2⟩:=h
 have hp:pS a = .bad s.line s.wrong:=by
  rcases h2 with ⟨_,_,h⟩|⟨h,_⟩|⟨h,_⟩
  ·exact h
  ·cases h
  ·cases h
 clear h2
 simp only[labC,pC,dA,Tryz.f11,tln,tl,scopeIn,Option.getD_some]
 simp[findLabel,tl]
 rw[aw_seq]
 generalize hK:WSeq _ _ _ _ _=K
 simp[go_sem,h1.t7]
 refine awp_region (aops_pref C8ok 2 ?_)
 simp[go_sem,h1.t7]
 refine aops_call rfl rfl rfl rfl Tryz.func36 (by kernel_rfl) (by kernel_rfl) (place_calls h1.src) ?_
 rintro v G1 ⟨rfl,f1⟩
 have g2:=f1.keep _ _ h1.k2 (by simp)
 have g3:=f1.keep _ _ h1.k3 (by simp)
 have n23:c2≠c3:=ne_of_t h1.k2 h1.k3 (by simp only[fiB,box_t];decide)
 have l2:=hat_lt g2
 have l3:=hat_lt g3
 simp only[go_sem,fiB,fiV,f0] at g2 g3
 refine⟨_,rfl,aops_pref C8ok 3 ?_⟩
 simp[go_sem,h1.t2,h1.t3,g2,g3,n23,n23.symm,l2,l3]
 refine aops_nil ?_
 rw[← hK,ws_n,aw_ret]
 refine hR _ _ ⟨.inr rfl,?_⟩
 simp[go_sem,h1.t2,h1.t3,g2,g3,n23,n23.symm,l2,l3]
 refine⟨_,True,⟨rfl,trivial⟩,trivial,?_⟩
 refine⟨?_,?_⟩
 ·have:=h1.old
  refine⟨by have:=h1.old.len;have:=f1.len;simp;omega,fun b B hb ht=>?_⟩
  have q1:=f1.keep _ _ (h1.old.keep _ _ hb ht) (by simp)
  have q2:=hat_lt hb
  rw[hat_setN (by have:=h1.m3;omega),hat_setN (by have:=h1.m2;omega)]
  exact q1
 ·rw[hp]
  rfl
theorem getN {k i:Nat} {v:AV} {T:Tmps} (h:k≠i):Am.get ((k,v) :: T) i=Am.get T i:=if_neg h
theorem p1_sp {H:Heap} {fb:Nat} {f:Fi} {vr:AV} (w:ByteArray) (hf:hat H fb=some (fiB f vr)) (hr:Rds H vr f.reads) (hn:f.reads.length≤1048577) : ∃ ob,spP1 [.str w,.ptr fb 0 0 0] H=some (.bool (w.toList == (txt f.reads.length).toList),H,ob)∧ob:=by
 rcases hr with ⟨rfl,h0⟩|⟨b,v,B,rfl,h2,h3,h4,h5,h6,h7,h8⟩
 ·apply Exists.intro
  apply And.intro
  ·unfold spP1
   simp only[hf,fiB,fiV,ax,h0]
   rfl
  ·trivial
 ·apply Exists.intro
  apply And.intro
  ·unfold spP1
   simp only[hf,fiB,fiV,ax,h2]
   rfl
  ·exact⟨trivial,h3,by unfold in64;omega⟩
theorem sumR_in (l:List Int):in64 (sumR l).1:=by
 unfold sumR
 split
 ·assumption
 ·exact⟨by decide,by decide⟩
theorem p2_sp {H:Heap} {eb nb:Nat} {e n:Int} (w:ByteArray) (he:hat H eb=some (bE e)) (hn:hat H nb=some (bI n)) (hi:in64 n) : ∃ ob,spP2 [.str w,.ptr eb 0 0 0,.ptr nb 0 0 0] H=some (.bool (if e=0 then w.toList == (txt n).toList else false),H,ob)∧ob:=by
 apply Exists.intro
 apply And.intro
 ·unfold spP2
  simp only[he,hn,bE,bI,ax]
  rfl
 ·exact⟨trivial,trivial,hi⟩
theorem s8_rest:bA 35=none:=rfl
theorem e7_rest:ext7 35=none:=rfl
theorem parse_2 {a:ByteArray} {H G:Heap} {T:Tmps} {n:Nat} (h:PJ a H 2 n T G) {R:APost} (hR : ∀ T G,ABodyN C8 Tryz.f11 (pPost a H) .ret T G → R .ret T G):awalk C8 76 H (tl (labC 2)) R T G:=by
 obtain⟨c2,c3,fb,nb,sb,lb,eb,s,f,vr,vw,nv,ev,h1,h2⟩:=h
 obtain⟨hp,hk,hw,hwk,h3,h0,hz,hrl,hrd⟩ : pS a=endP s f∧Lok s∧Wds G s vw∧Wok s∧s.words.length=3∧s.word=0∧s.wrong=0∧f.reads.length≤1048577∧∀ r∈f.reads,RdW r:=by
  rcases h2 with ⟨h,_⟩|⟨h,_⟩|⟨_,_,h⟩
  ·cases h
  ·cases h
  ·exact h
 clear h2
 simp only[labC,pC,dA,Tryz.f11,tln,tl,scopeIn,Option.getD_some]
 simp[findLabel,tl]
 rw[aw_seq]
 generalize hK:WSeq _ _ _ _ _=K
 have fl:=h1.fil
 have hcell:=h1.rds.cell
 simp only[go_sem,fiB,fiV] at fl
 simp only[AV.cell] at hcell
 simp[go_sem,h1.t5,fl,hcell]
 refine awp_region (aops_pref C8ok 1 ?_)
 simp[go_sem,h1.t5,fl,hcell]
 refine aops_call rfl rfl rfl rfl Tryz.func17 (by kernel_rfl) (by kernel_rfl) (dO h1.rds.g hrd hrl) ?_
 rintro v G1 ⟨rfl,f1⟩
 have p1:=h1.frm f1 (fun _ _=>rfl)
 have kn:=p1.kn
 have ke:=p1.ke
 have ne:nb≠eb:=ne_of_t kn ke (by simp only[bI,bE,box_t];decide)
 have ln:=hat_lt kn
 have le:=hat_lt ke
 simp only[bI,bE] at kn ke
 refine⟨_,rfl,aops_pref C8ok 5 ?_⟩
 simp[go_sem,h1.t6,h1.t8,kn,ke,ne,ne.symm,ln,le]
 refine aops_nil ?_
 suffices hsuf : ∀ T2 G2,PA H G2 T2 c2 c3 fb nb sb lb eb s f vr vw (sumR (sumL f.reads)).1 (sumR (sumL f.reads)).2 → Wds G2 s vw → K .normal T2 G2 from hsuf _ _ (p1.sum _ _ (fun i hi=>by
  repeat(rw[getN (by omega)]))) ((hw.keep f1 (by simp)).keep (ts:=[2,28]) ((Fr.set (B:=bI nv) p1.kn (by simp[bI,box_t]) _).trans (Fr.set (B:=bE ev) (by rw[hat_setN ne];exact p1.ke) (by simp[bE,box_t]) _)) (by decide))
 clear h1 hw fl f1 p1 kn ke ne ln le
 intro T G h1 hw
 rw[← hK,ws_n,aw_seq]
 clear hK
 generalize hK:WSeq _ _ _ _ _=K
 simp[go_sem,h1.t5,h1.t7]
 refine awp_region (aops_pref C8ok 2 ?_)
 simp[go_sem,h1.t5,h1.t7]
 obtain⟨wb,rfl,hwb⟩:=hw
 obtain⟨ob1,e1,q1⟩:=p1_sp (s.words[(s.word+1).toNat]?.getD ⟨#[]⟩) (H:=G.set sb (srcB lb (.sl wb 0 s.words.length 0) { s with word:=s.word+1 })) (fb:=fb) (f:=f) (vr:=vr) ((h1.src.fr _).keep _ _ h1.fil (by simp only[fiB,box_t];decide)) (h1.rds.keep (h1.src.fr _) (by decide)) hrl
 refine aops_call rfl rfl rfl rfl Tryz.func31 (by kernel_rfl) (by kernel_rfl) (dY h1.src hwb hwk (by omega) s8_p1 e1 (fun _=>q1)) ?_
 rintro v G1 ⟨rfl,g1,f1⟩
 refine⟨_,rfl,aops_nil ?_⟩
 rw[show takeS s ((s.words[(s.word+1).toNat]?.getD (⟨#[]⟩ : ByteArray)).toList == (txt f.reads.length).toList)=tl1 s f from rfl] at g1
 have hw1:=f1.keep _ _ hwb (by rw[aQ];decide)
 suffices hsuf : ∀ T2 G2,PA H G2 T2 c2 c3 fb nb sb lb eb (tl1 s f) f vr (.sl wb 0 s.words.length 0) (sumR (sumL f.reads)).1 (sumR (sumL f.reads)).2 → hat G2 wb=some (strB s.words) → K .normal T2 G2 from hsuf _ _ (h1.call g1 f1 (fun i hi=>by
  repeat(rw[getN (by omega)]))) hw1
 clear h1 hwb f1 g1 hw1 e1 q1 ob1
 intro T G h1 hwb
 have hwk1:Wok (tl1 s f):=hwk.take _ (by omega)
 have w1:(tl1 s f).word=1:=by show s.word+1=1;omega
 have ws1:(tl1 s f).words=s.words:=rfl
 rw[← hK,ws_n,aw_seq]
 clear hK
 generalize hK:WSeq _ _ _ _ _=K
 simp[go_sem,h1.t6,h1.t8,h1.t7]
 refine awp_region (aops_pref C8ok 2 ?_)
 simp[go_sem,h1.t6,h1.t8,h1.t7]
 obtain⟨ob1,e1,q1⟩:=p2_sp ((tl1 s f).words[((tl1 s f).word+1).toNat]?.getD ⟨#[]⟩) (H:=G.set sb (srcB lb (.sl wb 0 (tl1 s f).words.length 0) { (tl1 s f) with word:=(tl1 s f).word+1 })) (eb:=eb) (nb:=nb) ((h1.src.fr _).keep _ _ h1.ke (by simp only[bE,box_t];decide)) ((h1.src.fr _).keep _ _ h1.kn (by simp only[bI,box_t];decide)) (sumR_in _)
 refine aops_call rfl rfl rfl rfl Tryz.func31 (by kernel_rfl) (by kernel_rfl) (dY h1.src hwb hwk1 (by rw[ws1];omega) s8_p2 e1 (fun _=>q1)) ?_
 rintro v G1 ⟨rfl,g1,f1⟩
 refine⟨_,rfl,aops_nil ?_⟩
 rw[show takeS (tl1 s f) (if (sumR (sumL f.reads)).2=0 then ((tl1 s f).words[((tl1 s f).word+1).toNat]?.getD (⟨#[]⟩ : ByteArray)).toList == (txt (sumR (sumL f.reads)).1).toList else false)=tl2 s f from rfl] at g1
 suffices hsuf : ∀ T2 G2,PA H G2 T2 c2 c3 fb nb sb lb eb (tl2 s f) f vr (.sl wb 0 s.words.length 0) (sumR (sumL f.reads)).1 (sumR (sumL f.reads)).2 → K .normal T2 G2 from hsuf _ _ (h1.call g1 f1 (fun i hi=>by
  repeat(rw[getN (by omega)])))
 clear h1 hwb f1 g1 e1 q1 ob1
 intro T G h1
 have sr:=h1.src.src
 simp only[srcB] at sr
 have lk2:Lok (tl2 s f):=⟨hk.n,hk.l,hk.k0,hk.k⟩
 unfold endP at hp
 generalize tl2 s f=s2 at h1 sr hp lk2
 by_cases hw2:s2.wrong=0
 ·rw[if_pos hw2] at hp
  rw[← hK,ws_n,aw_seq,aw_seq]
  clear hK
  generalize hK:WSeq _ _ _ _ _=K
  have hb:(s2.wrong == 0)=true:=by simp[hw2]
  simp[go_sem,h1.t7,sr,hw2,hb,s8_rest,e7_rest]
  refine awp_region (aops_pref C8ok 4 ?_)
  simp[go_sem,h1.t7,sr,hw2,hb]
  refine aops_opt (d:=68) (v:=.ptr sb 0 0 0) rfl ?_
  refine aops_gcall rfl rfl rfl rfl rfl rfl Tryz.func35 (by kernel_rfl) (by kernel_rfl) (rest_calls h1.src lk2) ?_
  rintro v G1 ⟨rfl,g1,f1⟩
  refine⟨_,rfl,aops_pref C8ok 1 ?_⟩
  simp[go_sem]
  refine aops_nil ?_
  suffices hsuf : ∀ T2 G2,PA H G2 T2 c2 c3 fb nb sb lb eb (restS s2).1 f vr (.sl wb 0 s.words.length 0) (sumR (sumL f.reads)).1 (sumR (sumL f.reads)).2 → Am.get T2 70 = .bool (restS s2).2 → K .normal T2 G2 from hsuf _ _ (h1.call g1 f1 (fun i hi=>by
   repeat(rw[getN (by omega)]))) rfl
  clear h1 g1 f1 sr
  intro T G h1 t70
  rw[← hK,ws_n]
  by_cases hr:(restS s2).2=true
  ·rw[if_pos hr] at hp
   have fl:=h1.fil
   have hcell:=h1.rds.cell
   simp only[go_sem,fiB,fiV] at fl
   simp only[AV.cell] at hcell
   have g2:=h1.k2
   have g3:=h1.k3
   have n23:c2≠c3:=ne_of_t h1.k2 h1.k3 (by simp only[fiB,box_t];decide)
   have nf3:fb≠c3:=ne_of_t h1.fil h1.k3 (by simp only[fiB,box_t];decide)
   have l2:=hat_lt g2
   have l3:=hat_lt g3
   simp only[go_sem,fiB,fiV,f0] at g2 g3
   generalize hK2:WSeq _ _ _ _ _=K2
   simp[go_sem,t70,hr,h1.t2,h1.t3,h1.t5,fl,hcell,g2,g3,n23,n23.symm,l2,l3]
   rw[← hK2,ws_r]
   refine hR _ _ ⟨.inr rfl,?_⟩
   simp[go_sem,h1.t2,h1.t3,g2,g3,n23,n23.symm,l2,l3]
   refine⟨_,True,⟨rfl,trivial⟩,trivial,?_⟩
   refine⟨⟨by have:=h1.old.len;simp;omega,fun b B hb ht=>?_⟩,?_⟩
   ·have q1:=h1.old.keep _ _ hb ht
    have q2:=hat_lt hb
    rw[hat_setN (by have:=h1.m3;omega),hat_setN (by have:=h1.m2;omega)]
    exact q1
   ·rw[hp]
    refine⟨vr,rfl,?_,h1.row⟩
    have f2:Fr [25,27] G ((List.set G c2 (boxBlk 25 7 (fiV f vr))).set c3 (boxBlk 27 2 [.int .i64 0,.int .i64 0])):=(Fr.set h1.k2 (by simp[fiB,box_t]) _).trans (Fr.set (B:=boxBlk 27 2 [.int .i64 0,.int .i64 0]) (by rw[hat_setN n23];exact h1.k3) (by simp[box_t]) _)
    exact h1.rds.keep f2 (by decide)
  ·rw[if_neg hr] at hp
   have hr:(restS s2).2=false:=by simpa using hr
   generalize hK2:WSeq _ _ _ _ _=K2
   simp[go_sem,t70,hr]
   rw[← hK2,ws_n,aw_seq,aw_label,ws_n]
   exact parse_0 (n:=0) ⟨_,_,_,_,_,_,_,_,_,_,_,_,_,h1,.inl ⟨rfl,rfl,hp⟩⟩ hR
 ·rw[if_neg hw2] at hp
  have hb:(s2.wrong == 0)=false:=by simp[hw2]
  rw[← hK,ws_n,aw_seq,aw_seq]
  clear hK
  generalize hK:WSeq _ _ _ _ _=K
  simp[go_sem,h1.t7,sr,hw2,hb,s8_rest,e7_rest]
  suffices hsuf : ∀ T2 G2,PA H G2 T2 c2 c3 fb nb sb lb eb s2 f vr (.sl wb 0 s.words.length 0) (sumR (sumL f.reads)).1 (sumR (sumL f.reads)).2 → Am.get T2 70 = .bool false → K .normal T2 G2 from hsuf _ _ (h1.frm (Fr.refl _ _) (fun i hi=>by
   repeat(rw[getN (by omega)]))) rfl
  clear h1 sr
  intro T G h1 t70
  rw[← hK,ws_n]
  generalize hK2:WSeq _ _ _ _ _=K2
  simp[go_sem,t70]
  rw[← hK2,ws_n,aw_seq,aw_label,ws_n]
  exact parse_0 (n:=0) ⟨_,_,_,_,_,_,_,_,_,_,_,_,_,h1,.inl ⟨rfl,rfl,hp⟩⟩ hR
theorem next_line (s:Sr):(nextS s).1.lines=s.lines∧(nextS s).1.cut=s.cut∧(nextS s).1.line=s.line+1∧(nextS s).1.word=0:=by
 unfold nextS;split <;> exact⟨rfl,rfl,rfl,rfl⟩
theorem next_ok {s:Sr} (hk:Lok s) (h:(nextS s).2=true):s.line < s.lines.length∧Wok (nextS s).1∧(nextS s).1.wrong=0∧(nextS s).1.words≠[]:=by
 unfold nextS at h ⊢
 split at h
 ·cases h
 ·rename_i hl
  rw[if_neg hl]
  have hsz:(s.lines[s.line.toNat]?.getD ⟨#[]⟩).size≤1048576:=by
   cases hq:s.lines[s.line.toNat]? with
   |none=>exact Nat.zero_le _
   |some a=>exact hk.l a (List.mem_of_getElem? hq)
  generalize s.lines[s.line.toNat]?.getD ⟨#[]⟩=a at h hsz ⊢
  obtain⟨h1,h2,h3,h4,h5⟩:=ws_ok (a:=a) (by simpa using h)
  refine⟨by omega,⟨by show(WS a).1.length≤_;omega,fun w hw=>?_,by show tot ((WS a).1.map Bs)≤_;omega,by show(0:Int)≤0;decide,by show(0:Int) < 100000000;decide⟩,h2,h1⟩
  have:=h5 w hw
  exact⟨by omega,this.2⟩
theorem numP_in {w:ByteArray} (hw:w.size≤1048576) (l m:Int) (hl : -9223372036854775808≤l) (hm:m≤9223372036854775807):in64 (numP w l m).1:=by
 unfold numP scan_Number.f
 obtain⟨n,e,h,h1,h2⟩:=read_some w (by omega)
 rw[h]
 simp only[Option.bind_some]
 unfold in64
 split
 ·split
  ·simp
  ·split
   ·simp
   ·simp only[Option.getD_some];omega
 ·rename_i he
  simp only[Option.getD_some] at he ⊢
  rcases h1 with h1|⟨_,h1⟩|⟨_,h1⟩
  ·exact absurd h1 he
  ·omega
  ·omega
theorem numS_in {s:Sr} (hk : ∀ i:Nat,(s.words[i]?.getD (⟨#[]⟩ : ByteArray)).size≤1048576) (l m:Int) (hl : -9223372036854775808≤l) (hm:m≤9223372036854775807):in64 (numS s l m).1:=by
 unfold numS
 split
 ·exact numP_in (hk _) l m hl hm
 ·exact⟨by decide,by decide⟩
theorem rdR_in {s:Sr} (hk : ∀ i:Nat,(s.words[i]?.getD (⟨#[]⟩ : ByteArray)).size≤1048576) {sl:Int} : RdW (rdR s sl):=
 ⟨numS_in (s:=s) hk _ _ (by decide) (by rw[IntKind.wrap_i64];omega),numS_in (s:=rd1 s sl) hk _ _ (by decide) (by decide),numS_in (s:=rd2 s sl) hk _ _ (by decide) (by decide),numS_in (s:=rd3 s sl) hk _ _ (by decide) (by decide)⟩
theorem Src.cells {H:Heap} {sb lb wb:Nat} {s:Sr} (h:Src H sb s lb (.sl wb 0 s.words.length 0)):hat H sb=some (boxBlk 81 6 [.sl lb 0 s.lines.length 0,.bool s.cut,.int .i64 s.line,.sl wb 0 s.words.length 0,.int .i64 s.word,.int .i64 s.wrong]):=h.src
theorem parse_1 {a:ByteArray} {H G:Heap} {T:Tmps} {n:Nat} (h:PJ a H 1 n T G) {R:APost} (hR : ∀ T G,ABodyN C8 Tryz.f11 (pPost a H) .ret T G → R .ret T G) (hJ : ∀ l n' T G,n' < n → PJ a H l n' T G → R (.goto l) T G):awalk C8 76 H (tl (labC 1)) R T G:=by
 obtain⟨c2,c3,fb,nb,sb,lb,eb,s,f,vr,vw,nv,ev,h1,h2⟩:=h
 obtain⟨k,rfl,hp,hk,hlt,hle,hrl,hrd⟩ : ∃ k,n=k+2∧pS a=readL k s f∧Lok s∧(s.lines.length:Int) - s.line < k∧s.line≤s.lines.length∧(f.reads.length:Int)≤s.line∧∀ r∈f.reads,RdW r:=by
  rcases h2 with ⟨h,_⟩|⟨_,h⟩|⟨h,_⟩
  ·cases h
  ·exact h
  ·cases h
 clear h2
 obtain⟨k,rfl⟩ : ∃ m,k=m+1:=by
  cases k with
  |zero=>exact absurd hlt (by omega)
  |succ m=>exact⟨m,rfl⟩
 simp only[labC,pC,dA,Tryz.f11,tln,tl,scopeIn,Option.getD_some]
 simp[findLabel,tl]
 rw[aw_seq,aw_seq]
 generalize hK:WSeq _ _ _ _ _=K
 simp[go_sem,h1.t7]
 refine awp_region (aops_pref C8ok 1 ?_)
 simp[go_sem,h1.t7]
 refine aops_call rfl rfl rfl rfl Tryz.func25 (by kernel_rfl) (by kernel_rfl) (next_calls h1.src hk) ?_
 rintro v G1 ⟨rfl,⟨vw',g1,gw⟩,f1⟩
 refine⟨_,rfl,aops_pref C8ok 1 ?_⟩
 simp[go_sem]
 refine aops_nil ?_
 suffices hsuf : ∀ T2 G2,PA H G2 T2 c2 c3 fb nb sb lb eb (nextS s).1 f vr vw' nv ev → (s.line < s.lines.length → Wds G2 (nextS s).1 vw') → Am.get T2 34 = .bool (!(nextS s).2) → K .normal T2 G2 from hsuf _ _ (h1.call g1 f1 (fun i hi=>by
  repeat(rw[getN (by omega)]))) gw (by simp[Am.get])
 clear h1 g1 gw f1
 intro T G h1 gw t34
 obtain⟨nl1,nl2,nl3,nl4⟩:=next_line s
 rw[readL] at hp
 rw[← hK,ws_n]
 clear hK
 generalize hK:WSeq _ _ _ _ _=K
 by_cases hn:(nextS s).2=false
 ·rw[if_pos hn] at hp
  simp[go_sem,t34,hn]
  rw[← hK,ws_g]
  exact hJ 0 0 _ _ (by omega) ⟨_,_,_,_,_,_,_,_,_,_,_,_,_,h1,.inl ⟨rfl,rfl,hp⟩⟩
 rw[if_neg hn] at hp
 have hn:(nextS s).2=true:=by simpa using hn
 obtain⟨o1,o2,o3,o4⟩:=next_ok hk hn
 obtain⟨wb,rfl,hwb⟩:=gw o1
 have hk2:Lok (nextS s).1:=⟨by rw[nl1];exact hk.n,by rw[nl1];exact hk.l,by have:=hk.k0;omega,by have:=hk.n;omega⟩
 simp[go_sem,t34,hn]
 generalize (nextS s).1=s1 at *
 rw[← hK,ws_n,aw_seq,aw_seq]
 clear hK
 generalize hK:WSeq _ _ _ _ _=K
 have wl:0 < s1.words.length:=List.length_pos_iff.2 o4
 simp[go_sem,h1.t7,h1.src.cells,hwb,wl]
 have hrow:bZ (strB s1.words) s1.words.length 0:=bK (by have:=o2.n;omega)
 refine⟨hrow,?_⟩
 rw[show(((strAt (strB s1.words) 0).toList == [101,110,100]) && ((s1.words.length:Int) == 3))=isW s1 wEnd 3 from rfl]
 suffices hsuf : ∀ T2 G2,PA H G2 T2 c2 c3 fb nb sb lb eb s1 f vr (.sl wb 0 s1.words.length 0) nv ev → hat G2 wb=some (strB s1.words) → Am.get T2 36 = .bool (isW s1 wEnd 3) → K .normal T2 G2 from hsuf _ _ (h1.frm (Fr.refl _ _) (fun i hi=>by
  repeat(rw[getN (by omega)]))) hwb rfl
 clear h1 hwb t34
 intro T G h1 hwb t36
 rw[← hK,ws_n]
 clear hK
 generalize hK:WSeq _ _ _ _ _=K
 by_cases he:isW s1 wEnd 3=true
 ·rw[if_pos he] at hp
  simp[go_sem,t36,he]
  rw[← hK,ws_g]
  refine hJ 2 1 _ _ (by omega) ⟨_,_,_,_,_,_,_,_,_,_,_,_,_,h1,.inr (.inr ⟨rfl,rfl,hp,hk2,⟨wb,rfl,hwb⟩,o2,?_,nl4,o3,by have:=hk.n;omega,hrd⟩)⟩
  unfold isW at he
  simp at he
  omega
 rw[if_neg he] at hp
 have he:isW s1 wEnd 3=false:=by simpa using he
 simp[go_sem,t36,he]
 rw[← hK,ws_n,aw_seq,aw_seq]
 clear hK
 generalize hK:WSeq _ _ _ _ _=K
 have fl:=h1.fil
 have hcell:=h1.rds.cell
 simp only[go_sem,fiB,fiV] at fl
 simp only[AV.cell] at hcell
 have hrl2:f.reads.length≤1048577:=by have:=hk.n;omega
 suffices hsuf : ∀ T2,PA H G T2 c2 c3 fb nb sb lb eb s1 f vr (.sl wb 0 s1.words.length 0) nv ev → Am.get T2 47 = .bool (!(isW s1 wRead 6) || decide ((f.reads.length:Int)=f.slots)) → K .normal T2 G by
  have hre:(((strAt (strB s1.words) 0).toList == [114,101,97,100]) && ((s1.words.length:Int) == 6))=isW s1 wRead 6:=rfl
  rcases h1.rds with ⟨rfl,r0⟩|⟨b,v,B,rfl,r2,r3,r4,r5,r6,r7,r8⟩
  ·simp[go_sem,h1.t5,h1.t7,h1.src.cells,hwb,wl,hrow,fl,hre]
   refine hsuf _ (h1.frm (Fr.refl _ _) (fun i hi=>by
    repeat(rw[getN (by omega)]))) ?_
   show AV.bool _=_
   rw[r0]
   rfl
  ·simp[go_sem,h1.t5,h1.t7,h1.src.cells,hwb,wl,hrow,fl,hre,r2,r3,r5]
   refine hsuf _ (h1.frm (Fr.refl _ _) (fun i hi=>by
    repeat(rw[getN (by omega)]))) ?_
   rfl
 clear t36 h1
 intro T h1 t47
 rw[← hK,ws_n]
 clear hK
 generalize hK:WSeq _ _ _ _ _=K
 by_cases hr:isW s1 wRead 6=false∨(f.reads.length:Int)=f.slots
 ·rw[if_pos hr] at hp
  have hb:(!(isW s1 wRead 6) || decide ((f.reads.length:Int)=f.slots))=true:=by
   rcases hr with h|h <;> simp[h]
  simp[go_sem,t47,hb]
  refine awp_region (aops_pref C8ok 1 ?_)
  simp[go_sem,h1.t7]
  refine aops_call rfl rfl rfl rfl Tryz.func27 (by kernel_rfl) (by kernel_rfl) (fault_calls h1.src) ?_
  rintro v G1 ⟨rfl,g1,f1⟩
  refine⟨_,rfl,aops_nil ?_⟩
  rw[ws_n,aw_goto,← hK,ws_g]
  exact hJ 0 0 _ _ (by omega) ⟨_,_,_,_,_,_,_,_,_,_,_,_,_,h1.call g1 f1 (fun i hi=>by
   repeat(rw[getN (by omega)])),.inl ⟨rfl,rfl,hp⟩⟩
 rw[if_neg hr] at hp
 have hb:(!(isW s1 wRead 6) || decide ((f.reads.length:Int)=f.slots))=false:=by
  simp at hr
  simp[hr]
 have h6:s1.words.length=6:=by
  simp at hr
  have:=hr.1
  unfold isW at this
  simp at this
  omega
 simp[go_sem,t47,hb]
 rw[← hK,ws_n,aw_seq]
 clear hK
 generalize hK:WSeq _ _ _ _ _=K
 simp[go_sem,h1.t5,h1.t7]
 refine awp_region (aops_pref C8ok 1 ?_)
 simp[go_sem,h1.t5,h1.t7]
 have hrc:=record_calls ⟨h1.src,hwb,h1.fil⟩ h1.rds hrl2 o2 h6 nl4
 rw[← h1.t5] at hrc
 refine aops_call rfl rfl rfl rfl Tryz.func30 (by kernel_rfl) (by kernel_rfl) hrc ?_
 rintro v G1 ⟨rfl,vr',ha,hr',hF,hKR⟩
 refine⟨_,rfl,aops_nil ?_⟩
 suffices hsuf : ∀ T2,PA H G1 T2 c2 c3 fb nb sb lb eb (rd5 s1 f.slots) { f with reads:=f.reads ++ [rdR s1 f.slots] } vr' (.sl wb 0 (rd5 s1 f.slots).words.length 0) nv ev → K .normal T2 G1 by
  refine hsuf _ ⟨ha.src,ha.fil,hr',hKR.fil _ _ h1.k2 (by simp only[fiB,box_t]) h1.n2,hF.keep _ _ h1.k3 (by simp only[box_t];decide),hF.keep _ _ h1.kn (by simp only[bI,box_t];decide),hF.keep _ _ h1.ke (by simp only[bE,box_t];decide),(by repeat(rw[getN (by omega)]);exact h1.t2),(by repeat(rw[getN (by omega)]);exact h1.t3),(by repeat(rw[getN (by omega)]);exact h1.t5),(by repeat(rw[getN (by omega)]);exact h1.t6),(by repeat(rw[getN (by omega)]);exact h1.t7),(by repeat(rw[getN (by omega)]);exact h1.t8),h1.n2,h1.new,h1.m2,h1.m3,h1.mn,h1.me,?_,?_⟩
  ·intro b n v e
   rcases hKR.new b n v e with ⟨n',v',e'⟩|h
   ·exact h1.row _ _ _ e'
   ·have:=h1.old.len;omega
  ·refine⟨by have:=h1.old.len;have:=hF.len;omega,fun b B hb ht=>?_⟩
   have q1:=h1.old.keep _ _ hb ht
   have q2:=hat_lt hb
   by_cases t1:B.t=25
   ·exact hKR.fil _ _ q1 t1 (by have:=h1.new;omega)
   by_cases t2:B.t=41
   ·exact hKR.old _ _ q1 t2 (fun n v e=>by have:=h1.row _ _ _ e;omega)
   ·exact hF.keep _ _ q1 (by simp only[List.mem_cons,List.not_mem_nil,or_false] at ht ⊢;intro h;rcases h with h|h|h;exact ht h;exact t1 h;exact t2 h)
 have rdw : ∀ r∈f.reads ++ [rdR s1 f.slots],RdW r:=by
  intro r hr
  rcases List.mem_append.1 hr with hr|hr
  ·exact hrd r hr
  ·rw[List.mem_singleton.1 hr]
   exact rdR_in (fun i=>word_small o2 i)
 have lk5:Lok (rd5 s1 f.slots):=⟨hk2.n,hk2.l,hk2.k0,hk2.k⟩
 have ln5:(rd5 s1 f.slots).line=s.line+1:=nl3
 have ll5:(rd5 s1 f.slots).lines=s.lines:=nl1
 generalize rd5 s1 f.slots=s2 at *
 generalize rdR s1 f.slots=r2 at *
 clear h1 ha hF hKR hr'
 intro T h1
 rw[← hK,ws_n,aw_seq,aw_seq]
 clear hK
 generalize hK:WSeq _ _ _ _ _=K
 simp[go_sem,h1.t7,h1.src.cells]
 suffices hsuf : ∀ T2,PA H G1 T2 c2 c3 fb nb sb lb eb s2 { f with reads:=f.reads ++ [r2] } vr' (.sl wb 0 s2.words.length 0) nv ev → Am.get T2 53 = .bool (s2.wrong == 0) → K .normal T2 G1 from hsuf _ (h1.frm (Fr.refl _ _) (fun i hi=>by
  repeat(rw[getN (by omega)]))) rfl
 clear h1
 intro T h1 t53
 rw[← hK,ws_n]
 clear hK
 generalize hK:WSeq _ _ _ _ _=K
 by_cases hw:s2.wrong=0
 ·rw[if_pos hw] at hp
  simp[go_sem,t53,hw]
  rw[← hK,ws_g]
  exact hJ 1 (k+2) _ _ (by omega) ⟨_,_,_,_,_,_,_,_,_,_,_,_,_,h1,.inr (.inl ⟨rfl,k,rfl,hp,lk5,by rw[ll5,ln5];omega,by rw[ll5,ln5];omega,by rw[ln5];simp;omega,rdw⟩)⟩
 ·rw[if_neg hw] at hp
  have hb:(s2.wrong == 0)=false:=by simp[hw]
  simp[go_sem,t53,hw,hb]
  rw[← hK,ws_n,aw_seq,aw_goto,ws_g]
  exact hJ 0 0 _ _ (by omega) ⟨_,_,_,_,_,_,_,_,_,_,_,_,_,h1,.inl ⟨rfl,rfl,hp⟩⟩
theorem bU (s:Sr) (b:Bool):(takeS s b).lines=s.lines:=rfl
theorem hd9_lines (s:Sr):(hd9 s).lines=s.lines:=by
 unfold hd9;rw[bU];unfold hd8;rw[bU];unfold hd7;dsimp only;unfold hd6;rw[bU];unfold hd5;dsimp only;unfold hd4;dsimp only;unfold hd3;rw[bU];unfold hd2;rw[bU];unfold hd1;rw[bU]
theorem cK (s:Sr) (b:Bool):(takeS s b).line=s.line:=rfl
theorem hd9_line (s:Sr):(hd9 s).line=s.line:=by
 unfold hd9;rw[cK];unfold hd8;rw[cK];unfold hd7;dsimp only;unfold hd6;rw[cK];unfold hd5;dsimp only;unfold hd4;dsimp only;unfold hd3;rw[cK];unfold hd2;rw[cK];unfold hd1;rw[cK]
theorem parse_s {a:ByteArray} {H G:Heap} {T:Tmps} (hs:a.size≤70368744177664) {c2 c3:Nat} (t0:Am.get T 0 = .str a) (t2:Am.get T 2 = .ptr c2 0 0 0) (t3:Am.get T 3 = .ptr c3 0 0 0) (k2:hat G c2=some (fiB f0 .nilsl)) (k3:hat G c3=some (boxBlk 27 2 [.int .i64 0,.int .i64 0])) (m2:H.length≤c2) (m3:H.length≤c3) (hf:Fr [] H G)
  {R:APost} (hR : ∀ T G,ABodyN C8 Tryz.f11 (pPost a H) .ret T G → R .ret T G) (hJ : ∀ l n T G,PJ a H l n T G → R (.goto l) T G):awalk C8 76 H pC R T G:=by
 simp only[pC,dA,Tryz.f11,tln,tl,scopeIn,Option.getD_some]
 rw[aw_seq]
 generalize hK:WSeq _ _ _ _ _=K
 simp[go_sem]
 rw[← hK,ws_n,aw_seq]
 clear hK
 generalize hK:WSeq _ _ _ _ _=K
 simp[go_sem]
 rw[← hK,ws_n,aw_seq]
 clear hK
 generalize hK:WSeq _ _ _ _ _=K
 simp[go_sem,t0]
 refine awp_region (aops_pref C8ok 1 ?_)
 simp[go_sem,t0]
 have hop:=open_calls (H:=G ++ [boxBlk 25 7 [.str ⟨#[]⟩,.int .i64 0,.int .i64 0,.int .i64 0,.int .i64 0,.int .i64 0,.nilsl],boxBlk 2 1 [.int .i64 0]]) (a:=a) hs
 refine aops_call rfl rfl rfl rfl Tryz.func24 (by kernel_rfl) (by kernel_rfl) hop ?_
 rintro v G1 ⟨f1,hv⟩
 by_cases hl:1048576 < a.size
 ·rw[if_pos hl] at hv
  subst hv
  refine⟨_,rfl,aops_pref C8ok 6 ?_⟩
  simp[go_sem]
  refine aops_nil ?_
  have kf:=f1.keep _ _ (hat_appN (L:=[boxBlk 25 7 [.str ⟨#[]⟩,.int .i64 0,.int .i64 0,.int .i64 0,.int .i64 0,.int .i64 0,.nilsl],boxBlk 2 1 [.int .i64 0]]) (H:=G) rfl) (by simp)
  have k2':=f1.keep _ _ (hat_app k2 _) (by simp)
  have k3':=f1.keep _ _ (hat_app k3 _) (by simp)
  suffices hsuf : ∀ T2 G2 eb,hat G2 G.length=some (fiB f0 .nilsl) → hat G2 c2=some (fiB f0 .nilsl) → hat G2 c3=some (boxBlk 27 2 [.int .i64 0,.int .i64 0]) → hat G2 eb=some (bE 9) → Fr [] H G2 → Am.get T2 2 = .ptr c2 0 0 0 → Am.get T2 3 = .ptr c3 0 0 0 → Am.get T2 5 = .ptr G.length 0 0 0 → Am.get T2 8 = .ptr eb 0 0 0 → K .normal T2 G2 from
   hsuf _ _ G1.length (hat_app kf _) (hat_app k2' _) (hat_app k3' _) (hat_new _ _) (((hf.trans (Fr.app _ _ _)).trans f1).trans (Fr.app _ _ _)) (by repeat(rw[getN (by omega)]);exact t2) (by repeat(rw[getN (by omega)]);exact t3) rfl rfl
  have n2f:c2≠G.length:=by have:=hat_lt k2;omega
  clear kf k2' k3' k2 k3 t0 t2 t3 hf f1
  intro T G2 eb kf k2 k3 ke hf t2 t3 t5 t8
  have n23:c2≠c3:=ne_of_t k2 k3 (by simp only[fiB,box_t];decide)
  have l2:=hat_lt k2
  have l3:=hat_lt k3
  have n2e:c2≠eb:=ne_of_t k2 ke (by simp only[fiB,bE,box_t];decide)
  have n3e:c3≠eb:=ne_of_t k3 ke (by simp only[bE,box_t];decide)
  have n3f:c3≠G.length:=ne_of_t k3 kf (by simp only[fiB,box_t];decide)
  simp only[go_sem,fiB,fiV,f0,bE] at kf k2 k3 ke
  rw[← hK,ws_n,aw_seq,aw_seq]
  clear hK
  generalize hK:WSeq _ _ _ _ _=K
  simp[go_sem,t8,ke]
  rw[← hK,ws_n]
  clear hK
  generalize hK:WSeq _ _ _ _ _=K
  simp[go_sem]
  refine awp_draw C8ok (by kernel_rfl) [0,0,0,1,11,31] [.quiet [0],.quiet [0,1],.quiet [0,1,2],.eff 0,.eff 1,.quiet [2]] 2 (by kernel_rfl) ?_
  simp[go_sem,t2,t3,t5,t8,kf,k2,k3,ke,n23,n23.symm,l2,l3,n2e,n2e.symm,n3e,n3e.symm,n2f,n2f.symm,n3f,n3f.symm]
  rw[← hK,ws_r]
  refine hR _ _ ⟨.inr rfl,?_⟩
  simp[go_sem,t2,t3,k2,k3,n23,n23.symm,l2,l3]
  refine⟨_,True,⟨rfl,trivial⟩,trivial,⟨by have:=hf.len;simp;omega,fun b B hb ht=>?_⟩,?_⟩
  ·have q1:=hf.keep _ _ hb (by simp)
   have q2:=hat_lt hb
   rw[hat_setN (by omega),hat_setN (by omega)]
   exact q1
  ·have hp:pS a = .large:=if_pos hl
   rw[hp]
   rfl
 ·rw[if_neg hl] at hv
  obtain⟨sb,lb,rfl,hsrc,hnew⟩:=hv
  refine⟨_,rfl,aops_pref C8ok 6 ?_⟩
  simp[go_sem]
  refine aops_nil ?_
  have kf:=f1.keep _ _ (hat_appN (L:=[boxBlk 25 7 [.str ⟨#[]⟩,.int .i64 0,.int .i64 0,.int .i64 0,.int .i64 0,.int .i64 0,.nilsl],boxBlk 2 1 [.int .i64 0]]) (H:=G) rfl) (by simp)
  have kn:=f1.keep _ _ (hat_appK (L:=[boxBlk 25 7 [.str ⟨#[]⟩,.int .i64 0,.int .i64 0,.int .i64 0,.int .i64 0,.int .i64 0,.nilsl],boxBlk 2 1 [.int .i64 0]]) (H:=G) 1 rfl) (by simp)
  have k2':=f1.keep _ _ (hat_app k2 _) (by simp)
  have k3':=f1.keep _ _ (hat_app k3 _) (by simp)
  have l2:=hat_lt k2
  have hfl:=hf.len
  have f1l:=f1.len
  simp at f1l
  suffices hsuf : ∀ T2 G2 fb nb eb,PA H G2 T2 c2 c3 fb nb sb lb eb (opS a) f0 .nilsl .nilsl 0 0 → K .normal T2 G2 from
   hsuf _ _ G.length (G.length+1) G1.length ⟨hsrc.app _,hat_app kf _,.inl ⟨rfl,rfl⟩,hat_app k2' _,hat_app k3' _,hat_app kn _,hat_new _ _,(by repeat(rw[getN (by omega)]);exact t2),(by repeat(rw[getN (by omega)]);exact t3),rfl,rfl,rfl,rfl,(by omega),(by omega),m2,m3,(by omega),(by omega),fun b n v e=>(by cases e),(((hf.trans (Fr.app _ _ _)).trans f1).trans (Fr.app _ _ _)).mono (by simp)⟩
  clear kf kn k2' k3' k2 k3 t0 t2 t3 hf f1 l2 hfl f1l
  intro T G fb nb eb h1
  have ke:=h1.ke
  simp only[bE] at ke
  rw[← hK,ws_n,aw_seq,aw_seq]
  clear hK
  generalize hK:WSeq _ _ _ _ _=K
  simp[go_sem,h1.t8,ke]
  suffices hsuf : ∀ T2,PA H G T2 c2 c3 fb nb sb lb eb (opS a) f0 .nilsl .nilsl 0 0 → Am.get T2 15 = .bool false → K .normal T2 G from hsuf _ (h1.frm (Fr.refl _ _) (fun i hi=>by
   repeat(rw[getN (by omega)]))) rfl
  clear h1 ke
  intro T h1 t15
  rw[← hK,ws_n]
  clear hK
  generalize hK:WSeq _ _ _ _ _=K
  simp[go_sem,t15]
  clear t15
  have hk:Lok (opS a):=⟨(dH a (by omega)).1,(dH a (by omega)).2,by show(0:Int)≤0;decide,by show(0:Int)≤1048577;decide⟩
  have hp:pS a=if 1048576 < a.size then .large else _:=rfl
  rw[if_neg hl] at hp
  have hf0:f0.reads = []:=rfl
  have hl0:(opS a).line=0:=rfl
  have hll:(opS a).lines=aC a:=rfl
  obtain⟨nl1,nl2,nl3,nl4⟩:=next_line (opS a)
  rw[← hK,ws_n,aw_seq,aw_seq]
  clear hK
  generalize hK:WSeq _ _ _ _ _=K
  simp[go_sem,h1.t7]
  refine awp_region (aops_pref C8ok 1 ?_)
  simp[go_sem,h1.t7]
  refine aops_call rfl rfl rfl rfl Tryz.func25 (by kernel_rfl) (by kernel_rfl) (next_calls h1.src hk) ?_
  rintro v G1 ⟨rfl,⟨vw',g1,gw⟩,f1⟩
  refine⟨_,rfl,aops_pref C8ok 1 ?_⟩
  simp[go_sem]
  refine aops_nil ?_
  generalize hs1:opS a=s at *
  suffices hsuf : ∀ T2 G2,PA H G2 T2 c2 c3 fb nb sb lb eb (nextS s).1 f0 .nilsl vw' 0 0 → (s.line < s.lines.length → Wds G2 (nextS s).1 vw') → Am.get T2 21 = .bool (!(nextS s).2) → K .normal T2 G2 from hsuf _ _ (h1.call g1 f1 (fun i hi=>by
   repeat(rw[getN (by omega)]))) gw rfl
  clear h1 g1 gw f1
  intro T G h1 gw t21
  rw[← hK,ws_n]
  clear hK
  generalize hK:WSeq _ _ _ _ _=K
  by_cases hn:(nextS s).2=false
  ·rw[if_pos hn] at hp
   simp[go_sem,t21,hn]
   rw[← hK,ws_g]
   exact hJ 0 0 _ _ ⟨_,_,_,_,_,_,_,_,_,_,_,_,_,h1,.inl ⟨rfl,rfl,hp⟩⟩
  rw[if_neg hn] at hp
  have hn:(nextS s).2=true:=by simpa using hn
  obtain⟨o1,o2,o3,o4⟩:=next_ok hk hn
  obtain⟨wb,rfl,hwb⟩:=gw o1
  have hk2:Lok (nextS s).1:=⟨by rw[nl1];exact hk.n,by rw[nl1];exact hk.l,by have:=hk.k0;omega,by have:=hk.n;omega⟩
  simp[go_sem,t21,hn]
  generalize (nextS s).1=s1 at *
  rw[← hK,ws_n,aw_seq,aw_seq]
  clear hK
  generalize hK:WSeq _ _ _ _ _=K
  have wl:0 < s1.words.length:=List.length_pos_iff.2 o4
  have hrow:bZ (strB s1.words) s1.words.length 0:=bK (by have:=o2.n;omega)
  have hre:(((strAt (strB s1.words) 0).toList == [109,101,116,101,114]) && ((s1.words.length:Int) == 7))=isW s1 dG 7:=rfl
  simp[go_sem,h1.t7,h1.src.cells,hwb,wl,hrow,hre]
  suffices hsuf : ∀ T2,PA H G T2 c2 c3 fb nb sb lb eb s1 f0 .nilsl (.sl wb 0 s1.words.length 0) 0 0 → Am.get T2 24 = .bool (!(isW s1 dG 7)) → K .normal T2 G from hsuf _ (h1.frm (Fr.refl _ _) (fun i hi=>by
   repeat(rw[getN (by omega)]))) rfl
  clear h1 t21
  intro T h1 t24
  rw[← hK,ws_n]
  clear hK
  generalize hK:WSeq _ _ _ _ _=K
  by_cases hm:isW s1 dG 7=false
  ·rw[if_pos hm] at hp
   simp[go_sem,t24,hm]
   refine awp_region (aops_pref C8ok 1 ?_)
   simp[go_sem,h1.t7]
   refine aops_call rfl rfl rfl rfl Tryz.func27 (by kernel_rfl) (by kernel_rfl) (fault_calls h1.src) ?_
   rintro v G1 ⟨rfl,g1,f1⟩
   refine⟨_,rfl,aops_nil ?_⟩
   rw[ws_n,aw_goto,← hK,ws_g]
   exact hJ 0 0 _ _ ⟨_,_,_,_,_,_,_,_,_,_,_,_,_,h1.call g1 f1 (fun i hi=>by
    repeat(rw[getN (by omega)])),.inl ⟨rfl,rfl,hp⟩⟩
  rw[if_neg hm] at hp
  have hm:isW s1 dG 7=true:=by simpa using hm
  have h7:s1.words.length=7:=by
   unfold isW at hm
   simp at hm
   omega
  simp[go_sem,t24,hm]
  rw[← hK,ws_n,aw_seq]
  clear hK
  generalize hK:WSeq _ _ _ _ _=K
  simp[go_sem,h1.t5,h1.t7]
  refine awp_region (aops_pref C8ok 1 ?_)
  simp[go_sem,h1.t5,h1.t7]
  have hhc:=head_calls ⟨h1.src,hwb,h1.fil⟩ rfl o2 h7 nl4 o3
  rw[← h1.t5] at hhc
  refine aops_call rfl rfl rfl rfl Tryz.func28 (by kernel_rfl) (by kernel_rfl) hhc ?_
  rintro v G1 ⟨rfl,ha,hF⟩
  refine⟨_,rfl,aops_nil ?_⟩
  suffices hsuf : ∀ T2,PA H G1 T2 c2 c3 fb nb sb lb eb (hd9 s1) (hdF s1 f0) .nilsl (.sl wb 0 (hd9 s1).words.length 0) 0 0 → K .normal T2 G1 by
   refine hsuf _ ⟨ha.src,ha.fil,.inl ⟨rfl,rfl⟩,hF.fil _ _ h1.k2 (by simp only[fiB,box_t]) h1.n2,hF.fr.keep _ _ h1.k3 (by simp only[box_t];decide),hF.fr.keep _ _ h1.kn (by simp only[bI,box_t];decide),hF.fr.keep _ _ h1.ke (by simp only[bE,box_t];decide),(by repeat(rw[getN (by omega)]);exact h1.t2),(by repeat(rw[getN (by omega)]);exact h1.t3),(by repeat(rw[getN (by omega)]);exact h1.t5),(by repeat(rw[getN (by omega)]);exact h1.t6),(by repeat(rw[getN (by omega)]);exact h1.t7),(by repeat(rw[getN (by omega)]);exact h1.t8),h1.n2,h1.new,h1.m2,h1.m3,h1.mn,h1.me,fun b n v e=>(by cases e),?_⟩
   refine⟨by have:=h1.old.len;have:=hF.fr.len;omega,fun b B hb ht=>?_⟩
   have q1:=h1.old.keep _ _ hb ht
   have q2:=hat_lt hb
   by_cases t1:B.t=25
   ·exact hF.fil _ _ q1 t1 (by have:=h1.new;omega)
   ·exact hF.fr.keep _ _ q1 (by simp only[List.mem_cons,List.not_mem_nil,or_false] at ht ⊢;intro h;rcases h with h|h;exact ht h;exact t1 h)
  have ln5:(hd9 s1).line=s1.line:=hd9_line s1
  have ll5:(hd9 s1).lines=s1.lines:=hd9_lines s1
  have lk5:Lok (hd9 s1):=⟨by rw[ll5];exact hk2.n,by rw[ll5];exact hk2.l,by rw[ln5];exact hk2.k0,by rw[ln5];exact hk2.k⟩
  have hr5:(hdF s1 f0).reads = []:=rfl
  generalize hd9 s1=s2 at *
  generalize hdF s1 f0=f2 at *
  clear h1 ha hF hhc
  intro T h1
  rw[← hK,ws_n,aw_seq,aw_seq]
  clear hK
  generalize hK:WSeq _ _ _ _ _=K
  simp[go_sem,h1.t7,h1.src.cells]
  suffices hsuf : ∀ T2,PA H G1 T2 c2 c3 fb nb sb lb eb s2 f2 .nilsl (.sl wb 0 s2.words.length 0) 0 0 → Am.get T2 31 = .bool (!(s2.wrong == 0)) → K .normal T2 G1 from hsuf _ (h1.frm (Fr.refl _ _) (fun i hi=>by
   repeat(rw[getN (by omega)]))) rfl
  clear h1
  intro T h1 t31
  rw[← hK,ws_n]
  clear hK
  generalize hK:WSeq _ _ _ _ _=K
  by_cases hw:s2.wrong=0
  ·rw[if_pos hw] at hp
   have hb:(s2.wrong == 0)=true:=by simp[hw]
   simp[go_sem,t31,hw,hb]
   rw[← hK,ws_n,aw_seq,aw_label,ws_n]
   have hlll:s.lines.length=(aC a).length:=by rw[hll]
   have hpj:PJ a H 1 ((aC a).length+1+2) T G1:=⟨_,_,_,_,_,_,_,_,_,_,_,_,_,h1,.inr (.inl ⟨rfl,_,rfl,hp,lk5,by rw[ll5,ln5,nl1,nl3];omega,by rw[ll5,ln5,nl1,nl3];omega,by rw[ln5,hr5,nl3];simp;omega,by rw[hr5];simp⟩)⟩
   refine(congrArg (fun c=>awalk C8 76 H c R T G1) ?_).mp (parse_1 hpj hR fun l n' T G _ q=>hJ l n' T G q)
   kernel_rfl
  ·rw[if_neg hw] at hp
   have hb:(s2.wrong == 0)=false:=by simp[hw]
   simp[go_sem,t31,hw,hb]
   rw[← hK,ws_g]
   exact hJ 0 0 _ _ ⟨_,_,_,_,_,_,_,_,_,_,_,_,_,h1,.inl ⟨rfl,rfl,hp⟩⟩
theorem eH {H:Heap} {a:ByteArray} (hs:a.size≤70368744177664):ACalls Tryz.prog 11 [.str a] H (pPost a H):=by
 refine acalls_ofN (C:=C8) (nt:=76) C8ok Tryz.func11 rfl rfl ?_
 refine awalk_sound C8ok _ _ _ _ ?_
 rw[aw_seq]
 generalize hK:WSeq _ _ _ _ _=K
 simp[go_sem]
 rw[← hK,ws_n]
 clear hK
 change AWp C8 76 H (.scope pC) _ _ _
 refine awp_labels (fun l n T G=>PJ a H l n T G) ?_ ?_
 rotate_left
 ·intro n l T G h
  have hl:l=0∨l=1∨l=2:=by
   obtain⟨_,_,_,_,_,_,_,_,_,_,_,_,_,_,h|h|h⟩:=h
   ·exact .inl h.1
   ·exact .inr (.inl h.1)
   ·exact .inr (.inr h.1)
  rcases hl with rfl|rfl|rfl
  ·refine⟨.seq .skip (tl (labC 0)),by kernel_rfl,awp_seq (awp_skip (awalk_sound C8ok _ _ _ _ (parse_0 h fun T G q=>q)))⟩
  ·refine⟨.seq .skip (tl (labC 1)),by kernel_rfl,awp_seq (awp_skip (awalk_sound C8ok _ _ _ _ (parse_1 h (fun T G q=>q) fun l n' T G hn q=>?_)))⟩
   obtain⟨T2,G2,q1,q2⟩:=q.weak
   exact⟨n',T2,G2,hn,q1,q2⟩
  ·refine⟨.seq .skip (tl (labC 2)),by kernel_rfl,awp_seq (awp_skip (awalk_sound C8ok _ _ _ _ (parse_2 h fun T G q=>q)))⟩
 refine awalk_sound C8ok _ _ _ _ (parse_s hs (c2:=H.length) (c3:=H.length+1) rfl rfl rfl (hat_appN rfl) (hat_appK 1 rfl) (by omega) (by omega) (Fr.app _ _ _) (fun T G q=>q) fun l n T G q=>?_)
 obtain⟨T2,G2,q1,q2⟩:=q.weak
 exact⟨n,T2,G2,q1,q2⟩
end Go.Proofs.YtjokedpaidmjoaaGreatDoor.Rf
