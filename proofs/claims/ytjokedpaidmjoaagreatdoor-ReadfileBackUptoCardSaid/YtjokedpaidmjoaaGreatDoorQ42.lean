/- A part of the proof. -/
import Derived.Test.YtjokedpaidmjoaaGreatDoorQ41
set_option linter.all false
namespace Go.Proofs.YtjokedpaidmjoaaGreatDoor.Rf
open Go Go.RowKit Go.Proofs.YtjokedpaidmjoaaGreatDoor.Am Go.Proofs.YtjokedpaidmjoaaGreatDoor.Pu Go.Proofs.YtjokedpaidmjoaaGreatDoor
attribute [local go_sem] areg aseq gstep gwant astep apick aop aslice alen aappend aappendS aconvS aconvB unw opTmps opnds tmpsOf aev Am.get ofConst ofConst1 putT strip abin aun initT AThen AIn ws_n ws_r ws_e ws_g aw_seq aw_reg aw_draw aw_cond aw_block aw_skip aw_ret aw_exit aw_goto aw_label aw_loop aw_scope ANoGoto AJ ares oneOr bound asInt fieldOf ldv setSeg AV.cells AV.whole AV.cell tys Ty.agg ty9 ty3 ty2 ty5 ty4 ty89 ty21 ty37 ty46 ty83 ty73 ty81 ty41 ty23 ty25 ty27 ty28 ty48 ty65 ty38 ty67 ty88 afill zeroRow litGet litCells adraw awit adchk pchk qchk gchk looks restr tfin Has hat_z hat_s hat_len hat_appL hat_appN hat_appK hat_setS hat_setN set_appL set_appN set_appK box_t bn aH aI aJ aK ay aM row_t bq aN az aQ row_one aR
attribute [local go_sem] aU bi aA aC aD keepT tysB
attribute [local go_sem] C13_ty C13_fn C13_ext C13_eqt
attribute [local go_sem] List.set_set
set_option maxRecDepth 10000
theorem s13_rname:bN 49=some dm:=rfl
theorem s13_rstep:bN 52=some bV:=rfl
theorem s13_rtext:bN 53=some bG:=rfl
attribute [local go_sem] s13_rname s13_rstep s13_rtext dm bV bG
theorem spN_ok:SpecOk Tryz.prog 37 bG:=by
 refine⟨⟨Tryz.f37,Tryz.func37,by kernel_rfl,by kernel_rfl⟩,fun args H v H1 ob h hob=>?_⟩
 unfold bG at h
 split at h
 ·cases h
  refine acalls_ofN (C:=C13) (nt:=Tryz.f37.ntmps) C13ok Tryz.func37 rfl rfl ?_
  refine awalk_sound C13ok _ _ _ _ ?_
  simp[go_sem]
  exact⟨hob,.inr rfl,_,_,rfl,trivial,rfl,rfl⟩
 ·cases h
set_option maxHeartbeats 4000000 in
theorem rheader_calls {H:Heap} {f:Fi} {vr:AV} (hc:vr.cell=true) (hm:f.meter.size≤1099511627776):ACalls Tryz.prog 45 [.agg (fiV f vr)] H fun v H'=>v = .bool (hdrOk f)∧H' = H ++ [fiB f vr]:=by
 refine acalls_ofN (C:=C13) (nt:=Tryz.f45.ntmps) C13ok Tryz.func45 rfl rfl ?_
 have cc:=hc
 simp only[AV.cell] at hc
 refine awp_step C13ok fun K hK=>?_
 simp[go_sem,fiV,hc]
 rw[hK,athen_n]
 refine awp_live [1] ?_
 simp[go_sem]
 clear hK K
 refine awp_seq ?_
 refine awp_seq ?_
 refine awalk_sound C13ok _ _ _ _ ?_
 simp[go_sem]
 refine⟨⟨by omega,fun h1 h2 h3 h4=>⟨⟨⟨⟨h1,h2⟩,h3⟩,h4⟩,step_ne h2⟩⟩,?_⟩
 refine awp_live [1,31] ?_
 simp[go_sem]
 generalize hb1:(!nameL (Bs f.meter) || !stepB f.step || decide (f.start < 0) || decide (253402300799 < f.start) || f.start.tmod (IntKind.i64.wrap (60 * f.step)) != 0)=b1
 refine awalk_sound C13ok _ _ _ _ ?_
 cases b1 with
 |true=>
  simp[go_sem]
  refine⟨.inr rfl,?_⟩
  simp[go_sem]
  refine⟨_,True,⟨rfl,trivial⟩,trivial,?_,rfl⟩
  have:hdrOk f=false:=by
   cases hq:hdrOk f with
   |false=>rfl
   |true=>
    unfold hdrOk at hq
    simp at hq hb1
    grind
  rw[this]
 |false=>
  simp[go_sem]
  refine awp_seq ?_
  refine awp_seq ?_
  refine awalk_sound C13ok _ _ _ _ ?_
  simp[go_sem]
  refine awp_live [1,52] ?_
  simp[go_sem]
  generalize hb2:(decide (f.slots < 1) || decide (40000 < f.slots) || decide (253402300799 < IntKind.i64.wrap (IntKind.i64.wrap (f.start+IntKind.i64.wrap (IntKind.i64.wrap (60 * f.step) * f.slots)) - 1)))=b2
  refine awalk_sound C13ok _ _ _ _ ?_
  cases b2 with
  |true=>
   simp[go_sem]
   refine⟨.inr rfl,?_⟩
   simp[go_sem]
   refine⟨_,True,⟨rfl,trivial⟩,trivial,?_,rfl⟩
   have:hdrOk f=false:=by
    cases hq:hdrOk f with
    |false=>rfl
    |true=>
     unfold hdrOk at hq
     simp at hq hb2
     grind
   rw[this]
  |false=>
   simp[go_sem]
   refine awalk_sound C13ok _ _ _ _ ?_
   simp[go_sem]
   refine⟨.inr rfl,?_⟩
   simp[go_sem]
   refine⟨_,True,⟨rfl,trivial⟩,trivial,?_,rfl⟩
   have:hdrOk f=(decide (1≤f.mult) && decide (f.mult≤1000) && decide (0≤f.turn) && decide (f.turn≤3)):=by
    unfold hdrOk
    simp at hb1 hb2
    have x1:nameL (Bs f.meter)=true:=by grind
    have x2:stepB f.step=true:=by grind
    have x3:0≤f.start:=by grind
    have x4:f.start≤253402300799:=by grind
    have x5:f.start.tmod (IntKind.i64.wrap (60 * f.step))=0:=by grind
    have x6:1≤f.slots:=by grind
    have x7:f.slots≤40000:=by grind
    have x8:IntKind.i64.wrap (IntKind.i64.wrap (f.start+IntKind.i64.wrap (IntKind.i64.wrap (60 * f.step) * f.slots)) - 1)≤253402300799:=by grind
    simp[x1,x2,x3,x4,x5,x6,x7,x8]
   rw[this]
theorem flag_dec {r:Rd} (h:0≤r.flag∧r.flag≤255):flagB (flT r.flag)=(r.flag == 65 || r.flag == 69 || r.flag == 83):=by
 obtain⟨n,hn⟩ : ∃ n:Nat,r.flag=n:=⟨r.flag.toNat,by omega⟩
 have hl:n < 256:=by omega
 rw[hn]
 have key : ∀ n:Fin 256,flagB (flT ((n.val:Nat):Int))=(((n.val:Nat):Int) == 65 || ((n.val:Nat):Int) == 69 || ((n.val:Nat):Int) == 83):=by decide +kernel
 exact key ⟨n,hl⟩
noncomputable def eO:FuncId → Option Am.Spec:=fun f=>match f with
 |37=>some bG
 |f=>bN f
noncomputable def C14:Ctx:={ P:=Tryz.prog,ty:=tysB,fn:=eO,ext:=ext7,eqt:=eqs7 }
theorem C14ok:CtxOk C14:=by
 refine⟨tysBOk,fun f s h=>?_,eqs7_ok,dn⟩
 unfold C14 eO at h
 simp only at h
 split at h
 ·cases h;exact spN_ok
 ·exact C13ok.fn _ _ h
theorem C14_ty:C14.ty=tysB:=rfl
theorem C14_fn:C14.fn=eO:=rfl
theorem C14_ext:C14.ext=ext7:=rfl
theorem C14_eqt:C14.eqt=eqs7:=rfl
theorem s14_n:eO 37=some bG:=rfl
attribute [local go_sem] C14_ty C14_fn C14_ext C14_eqt s14_n
set_option maxHeartbeats 8000000 in
theorem can_calls {H:Heap} {f:Fi} {vr:AV} (hr:RdsG H vr f.reads) (hd : ∀ r∈f.reads,0≤r.flag∧r.flag≤255) (hn:f.reads.length≤1048577) (hm:f.meter.size≤1048576):ACalls Tryz.prog 16 [.agg (fiV f vr)] H fun v H'=>v = .bool (bz f)∧Fr [] H H':=by
 refine acalls_ofN (C:=C14) (nt:=Tryz.f16.ntmps) C14ok Tryz.func16 rfl rfl ?_
 have cc:=hr.cell
 have hc:=cc
 simp only[AV.cell] at hc
 refine awp_step C14ok fun K hK=>?_
 simp[go_sem,fiV,hc]
 rw[hK,athen_n]
 refine awp_live [1] ?_
 simp[go_sem]
 clear hK K
 change AWp C14 _ H _ _ _ (H ++ [fiB f vr])
 obtain⟨G,hG⟩ : ∃ G,G=H ++ [fiB f vr]:=⟨_,rfl⟩
 have hP:PF H G H.length f vr:=by rw[hG];exact⟨hat_new _ _,hr.keep (Fr.app [] _ _) (by simp)⟩
 have hF:Fr [] H G:=hG ▸ Fr.app _ _ _
 rw[← hG]
 clear hG
 obtain⟨fb,hfb⟩ : ∃ fb,fb=H.length:=⟨_,rfl⟩
 rw[← hfb] at hP ⊢
 have fil:=hP.fil
 simp only[fiB,fiV] at fil
 refine awp_seq ?_
 refine awp_seq (awp_mono (R:=fun e T G2=>e = .normal∧G2=G ++ [fiB f vr]∧Has T [(1,.ptr fb 0 0 0),(15,.bool (!hdrOk f || decide (f.slots < (f.reads.length:Int))))]) (awp_region (aops_pref C14ok 1 ?_)) ?_)
 ·simp[go_sem,fil,hc]
  refine aops_call rfl rfl rfl rfl Tryz.func45 (by kernel_rfl) (by kernel_rfl) (rheader_calls cc (by omega)) ?_
  rintro v G1 ⟨rfl,rfl⟩
  refine⟨_,rfl,aops_pref C14ok 9 ?_⟩
  have hP:=hP.keep (Fr.app [] G [fiB f vr]) (by simp) (by simp)
  generalize G ++ [fiB f vr]=G at *
  have fil:=hP.fil
  simp only[fiB,fiV] at fil
  rcases hP.rds with ⟨rfl,h0⟩|⟨b,p,v,B,rfl,h2,h3,h5,h6,h7,h8⟩
  ·simp[go_sem,fil,h0]
   exact aops_nil ⟨rfl,rfl,rfl,rfl⟩
  ·simp[go_sem,fil,h2,h3]
   exact aops_nil ⟨rfl,rfl,rfl,rfl⟩
 rintro e T G2 ⟨rfl,rfl,hT⟩
 have hP:=hP.keep (Fr.app [] G [fiB f vr]) (by simp) (by simp)
 have hF:=hF.trans (Fr.app [] G [fiB f vr])
 generalize G ++ [fiB f vr]=G at *
 have fil:=hP.fil
 simp only[fiB,fiV] at fil
 refine awp_weak ⟨hT,.inl rfl⟩ ?_
 clear hT T
 by_cases hbad:(!hdrOk f || decide (f.slots < (f.reads.length:Int)))=true
 ·rw[hbad]
  refine awalk_sound C14ok _ _ _ _ ?_
  simp[go_sem]
  refine⟨.inr rfl,?_⟩
  simp[go_sem]
  refine⟨_,True,⟨rfl,trivial⟩,trivial,?_,hF⟩
  have:bz f=false:=by unfold bz;rw[hbad];simp
  rw[this]
 ·have hb' : (!hdrOk f || decide (f.slots < (f.reads.length:Int)))=false:=by simpa using hbad
  rw[hb']
  refine awalk_sound C14ok _ _ _ _ ?_
  simp[go_sem]
  refine awp_seq ?_
  refine awp_seq (awp_mono (R:=fun e T G2=>e = .normal∧G2=G∧Has T [(1,.ptr fb 0 0 0),(18,.int .i64 f.reads.length),(19,.int .i64 ((0:Nat):Int))]) ?_ ?_)
  ·refine awalk_sound C14ok _ _ _ _ ?_
   rcases hP.rds with ⟨rfl,h0⟩|⟨b,p,v,B,rfl,h2,h3,h5,h6,h7,h8⟩
   ·simp[go_sem,fil,h0]
   ·simp[go_sem,fil,h2,h3]
  rintro e T G2 ⟨rfl,rfl,hT⟩
  refine awp_weak ⟨hT,.inl rfl⟩ ?_
  clear hT T
  refine awp_block (awp_loopQ (fun k T G=>∃ j:Nat,k+j=f.reads.length∧PF H G fb f vr∧Fr [] H G∧(f.reads.take j).all (fun r=>!rdBad f.slots r)=true∧T = [(1,.ptr fb 0 0 0),(18,.int .i64 f.reads.length),(19,.int .i64 j)]) f.reads.length ⟨0,by omega,hP,hF,rfl,rfl⟩ ?_)
  clear hP hF fil hbad G2
  rintro k T G ⟨j,hj,hP,hF,hall,rfl⟩ Q hN hX
  have fil:=hP.fil
  simp only[fiB,fiV] at fil
  refine awp_step C14ok fun K hK=>?_
  simp[go_sem]
  rw[hK,athen_n]
  refine awp_live [1,18,19,20] ?_
  simp[go_sem]
  clear hK K
  refine awp_step C14ok fun K hK=>?_
  simp[go_sem]
  refine⟨fun hjn=>?_,fun hjn=>?_⟩
  ·rw[hK,athen_n]
   refine awp_live [1,18,19] ?_
   simp[go_sem]
   clear hK K
   have hw:IntKind.i64.wrap ((j:Int)+1)=(j:Int)+1:=aG (by omega) (by omega)
   have hxj:f.reads[j]? = some f.reads[j]:=List.getElem?_eq_getElem hjn
   have hst:(f.reads.take (j+1)).all (fun r=>!rdBad f.slots r)=((f.reads.take j).all (fun r=>!rdBad f.slots r) && !rdBad f.slots f.reads[j]):=by
    rw[List.take_succ_eq_append_getElem hjn,List.all_append]
    simp
   have hrd:=hd _ (List.getElem_mem hjn)
   generalize f.reads[j]=r at *
   rcases hP.rds with ⟨rfl,h0⟩|⟨b,p,v,B,rfl,h2,h3,h5,h6,h7,h8⟩
   ·rw[h0] at hjn;simp at hjn
   have hg:=h8 j r hxj
   have hjl:p+j < B.len:=by omega
   simp only[rdV] at hg
   refine awp_seq (awp_block ?_)
   refine awp_step C14ok fun K hK=>?_
   simp[go_sem]
   rw[hK,athen_n]
   refine awp_live [1,3,18,19] ?_
   simp[go_sem]
   clear hK K
   refine awp_step C14ok fun K hK=>?_
   simp[go_sem,fil,h2,h3,h7,hg,hjl,hjn]
   rw[hK,athen_n]
   refine awp_live [1,4,18,19] ?_
   simp[go_sem]
   clear hK K
   have hP:=hP.keep (Fr.app [] G [boxBlk 41 5 [.int .i64 r.slot,.int .i64 r.imp,.int .i64 r.exp,.int .i64 r.var,.int .u8 r.flag]]) (by simp) (by simp)
   have hF:=hF.trans (Fr.app [] G [boxBlk 41 5 [.int .i64 r.slot,.int .i64 r.imp,.int .i64 r.exp,.int .i64 r.var,.int .u8 r.flag]])
   have hbx:=hat_new G (boxBlk 41 5 [.int .i64 r.slot,.int .i64 r.imp,.int .i64 r.exp,.int .i64 r.var,.int .u8 r.flag])
   generalize G ++ [boxBlk 41 5 [.int .i64 r.slot,.int .i64 r.imp,.int .i64 r.exp,.int .i64 r.var,.int .u8 r.flag]]=G2 at *
   generalize G.length=q at *
   have fil:=hP.fil
   simp only[fiB,fiV] at fil
   refine awp_step C14ok fun K hK=>?_
   simp[go_sem,fil,hbx]
   refine⟨⟨by intros;omega,by intros;omega⟩,?_⟩
   have hbq:(decide (r.slot < 0) || decide (f.slots≤r.slot) || decide (r.imp < 0) || decide (10000000 < r.imp) || decide (r.exp < 0) || decide (10000000 < r.exp) || decide (r.var < -10000000) || decide (10000000 < r.var) || r.flag != 65 && r.flag != 69 && r.flag != 83)=rdBad f.slots r:=by
    unfold rdBad
    rw[flag_dec hrd,Bool.eq_iff_iff]
    simp
    omega
   rw[hbq,hK,athen_n]
   refine awp_live [1,18,19,81] ?_
   simp[go_sem]
   clear hK K hbq
   refine awalk_sound C14ok _ _ _ _ ?_
   cases hbr:rdBad f.slots r with
   |true=>
    simp[go_sem,hbr]
    refine hX .ret _ _ (by simp) ?_
    refine⟨.inr rfl,?_⟩
    simp[go_sem]
    refine⟨_,True,⟨rfl,trivial⟩,trivial,?_,hF⟩
    have:bz f=false:=by
     cases q:bz f with
     |false=>rfl
     |true=>
      unfold bz at q
      have q2:=(Bool.and_eq_true_iff.1 q).2
      have:=List.all_eq_true.1 q2 r (List.mem_of_getElem? hxj)
      rw[hbr] at this
      cases this
    rw[this]
   |false=>
    simp[go_sem,hbr]
    refine awalk_sound C14ok _ _ _ _ ?_
    simp[go_sem,hw]
    exact hN (k - 1) _ _ (T2:=[(1,.ptr fb 0 0 0),(18,.int .i64 f.reads.length),(19,.int .i64 ((j+1:Nat):Int))]) (by omega) ⟨rfl,rfl,rfl,trivial⟩ ⟨j+1,by omega,hP,hF,by rw[hst,hall,hbr];rfl,rfl⟩
  ·rw[hK]
   refine hX (.exit 0) _ _ (by simp) ?_
   show AWp _ _ _ _ _ _ _
   refine awalk_sound C14ok _ _ _ _ ?_
   rw[List.take_of_length_le hjn] at hall
   have hok:bz f=true:=by unfold bz;rw[hb',hall];rfl
   simp[go_sem]
   refine⟨.inr rfl,?_⟩
   simp[go_sem]
   exact⟨_,True,⟨rfl,trivial⟩,trivial,by rw[hok],hF⟩
end Go.Proofs.YtjokedpaidmjoaaGreatDoor.Rf
