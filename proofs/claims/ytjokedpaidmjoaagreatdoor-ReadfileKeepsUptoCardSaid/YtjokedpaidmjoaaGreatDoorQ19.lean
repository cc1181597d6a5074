/- A part of the proof. -/
import Derived.Test.YtjokedpaidmjoaaGreatDoorQ18
set_option linter.all false
namespace Go.Proofs.YtjokedpaidmjoaaGreatDoor.Rf
open Go Go.RowKit Go.Proofs.YtjokedpaidmjoaaGreatDoor.Am Go.Proofs.YtjokedpaidmjoaaGreatDoor.Pu Go.Proofs.YtjokedpaidmjoaaGreatDoor
attribute [local go_sem] areg aseq gstep gwant astep apick aop aslice alen aappend aappendS aconvS aconvB unw opTmps opnds tmpsOf aev Am.get ofConst ofConst1 putT strip abin aun initT AThen AIn ws_n ws_r ws_e ws_g aw_seq aw_reg aw_draw aw_cond aw_block aw_skip aw_ret aw_exit aw_goto aw_label aw_loop aw_scope ANoGoto AJ ares oneOr bound asInt fieldOf ldv setSeg AV.cells AV.whole AV.cell tys Ty.agg ty9 ty3 ty2 ty5 ty4 ty89 ty21 ty37 ty46 ty83 ty73 ty81 ty41 ty23 ty25 ty27 ty28 ty48 afill zeroRow litGet litCells adraw awit adchk pchk qchk gchk looks restr tfin Has hat_z hat_s hat_len hat_appL hat_appN hat_appK hat_setS hat_setN set_appL set_appN set_appK box_t bn aD aG aH aI ax aJ row_t bq aK ay aM row_one aN
attribute [local go_sem] aQ bu aR aT aU intB_t eU dQ dR dS
attribute [local go_sem] C8_ty C8_fn C8_ext C8_eqt s8_num1 s8_is s8_good s8_name s8_cols s8_flag s8_step s8_words fZ s8_text s8_last dU fI spIs
attribute [local go_sem] List.set_set
set_option maxRecDepth 10000
def colP (ws:List ByteArray) (k:Int):Int:=(cf 1 (ws.map Bs)).getD k.toNat 0
structure Wok (s:Sr):Prop where
 n:s.words.length≤1048577
 w : ∀ a∈s.words,a.size≤1048576∧a.size≠0
 t:tot (s.words.map Bs)≤900000000
 k0:0≤s.word
 k:s.word < 100000000
def takeS (s:Sr) (b:Bool):Sr:={ s with word:=s.word+1,wrong:=if s.wrong=0∧b=false then colP s.words (s.word+1) else s.wrong }
theorem takeS_bad {s:Sr} (hz:s.wrong=0):takeS s false = { s with word:=s.word+1,wrong:=colP s.words (s.word+1) }:=by unfold takeS;rw[if_pos ⟨hz,rfl⟩]
theorem takeS_ok (s:Sr):takeS s true = { s with word:=s.word+1 }:=by unfold takeS;rw[if_neg (by simp)]
theorem eZ {s:Sr} (b:Bool) (hz : ¬ s.wrong=0):takeS s b = { s with word:=s.word+1 }:=by unfold takeS;rw[if_neg (fun q=>hz q.1)]
theorem Wds.ne {H:Heap} {sb lb wb:Nat} {s:Sr} {vw:AV} (hs:Src H sb s lb vw) (hw:hat H wb=some (strB s.words)):sb≠wb:=ne_of_t hs.src hw (by simp only[aQ,srcB,box_t];decide)
theorem fe (ws:List ByteArray):(cf 1 (ws.map Bs)).length=ws.length:=by rw[cf_length,List.length_map]
theorem cZ (l:List ByteArray):fF (strB l) l.length=cf 1 (l.map Bs):=by unfold fF;rw[bV]
theorem take_calls {H H2:Heap} {sb lb wb:Nat} {s:Sr} {f:FuncId} {caps:List AV} {sp:Am.Spec} {b:Bool} {ob:Prop} {ts:List Nat} (hs:Src H sb s lb (.sl wb 0 s.words.length 0)) (hw:hat H wb=some (strB s.words)) (hk:Wok s) (hi:s.word+1 < s.words.length) (hf:bA f=some sp)
  (hsp:sp (.str (s.words[(s.word+1).toNat]?.getD ⟨#[]⟩) :: caps) (H.set sb (srcB lb (.sl wb 0 s.words.length 0) { s with word:=s.word+1 }))=some (.bool b,H2,ob)) (hob:s.wrong=0 → ob) (hfr:Fr ts (H.set sb (srcB lb (.sl wb 0 s.words.length 0) { s with word:=s.word+1 })) H2) (h1:81 ∉ ts) (h2:9 ∉ ts) :
  ACalls Tryz.prog 62 [.ptr sb 0 0 0,.fn f caps] H fun v H'=>v = .tup []∧Src H' sb (takeS s b) lb (.sl wb 0 s.words.length 0)∧Fr [81] (if s.wrong=0 then H2 else H.set sb (srcB lb (.sl wb 0 s.words.length 0) { s with word:=s.word+1 })) H':=by
 have hsrc:=hs.src
 have hl:=hs.lns
 have hn:=hs.ne
 have hm:=Wds.ne hs hw
 have k0:=hk.k0
 have k1:=hk.k
 have l1:=hat_lt hsrc
 have l2:=hat_lt hw
 have hw1:IntKind.i64.wrap (s.word+1)=s.word+1:=av (by omega) (by omega)
 have hS1:=hs.set { s with word:=s.word+1 } (.sl wb 0 s.words.length 0) rfl
 have hW1:hat (H.set sb (srcB lb (.sl wb 0 s.words.length 0) { s with word:=s.word+1 })) wb=some (strB s.words):=by rw[hat_setN hm];exact hw
 have hS2:=hS1.keep hfr h1 h2
 have hW2:=hfr.keep _ _ hW1 h2
 simp only[go_sem,srcB] at hsrc hsp
 refine acalls_ofN (C:=C8) (nt:=45) C8ok Tryz.func62 rfl rfl ?_
 refine awalk_sound C8ok _ _ _ _ ?_
 have hin:(s.word+1).toNat < s.words.length:=by omega
 have hp:0≤s.word+1:=by omega
 have hwd:s.words[(s.word+1).toNat]?.getD ⟨#[]⟩=s.words[(s.word+1).toNat]:=by simp[hin]
 rw[hwd] at hsp
 by_cases hz:s.wrong=0
 ·have hob:=hob hz
  rw[hz] at hsp hsrc
  simp[go_sem,hsrc,hw,hn,hm,l1,l2,hw1,hz]
  refine awp_draw C8ok (by kernel_rfl) [0,1,3,7,15,31,63,63,191,447,959,63,2111,6207,14399,32703,65471,131071,262143,524287] [.quiet [0],.quiet [0],.quiet [0],.quiet [0],.quiet [0],.quiet [0],.quiet [0],.quiet [0],.quiet [0],.quiet [0],.quiet [0],.quiet [0],.quiet [0],.quiet [0],.quiet [0],.quiet [0],.quiet [0],.eff 0,.quiet [1],.quiet [1]] 1 (by kernel_rfl) ?_
  simp[go_sem,hsrc,hw,hn,hm,l1,l2,hw1,hf,hsp,hob,hin,hp,hi]
  have hn2:=hS2.ne
  have m1:=hat_lt hS2.src
  have m2:=hat_lt hW2
  have hm2:=Wds.ne hS2 hW2
  refine⟨fun hb=>?_,fun hb=>?_⟩
  ·subst hb
   have hs2:=hS2.src
   have hc:(s.word+1).toNat < (cf 1 (s.words.map Bs)).length:=by rw[fe];exact hin
   have hrow:bZ (strB s.words) s.words.length 0:=bK (by have:=hk.n;omega)
   simp only[go_sem,srcB,hz] at hs2
   refine awp_draw C8ok (by kernel_rfl) [0,0,2,6,14,30,0,64,192,448,1022,2046,4095,8191,16383] [.quiet [0,1],.quiet [0],.quiet [0],.quiet [0],.quiet [0],.eff 0,.quiet [0,1],.quiet [0,1],.quiet [0,1],.quiet [0,1],.quiet [1],.quiet [1],.quiet [1],.quiet [1],.eff 1] 2 (by kernel_rfl) ?_
   simp[go_sem,hs2,hW2,hn2,hm2,m1,m2,hrow,cZ,bV,hk.t,hin,hp,hi,fe]
   refine⟨.inl rfl,_,_,rfl,trivial,rfl,?_,?_⟩
   ·rw[takeS_bad hz]
    have:=(hS2.set { s with word:=s.word+1,wrong:=colP s.words (s.word+1) } (.sl wb 0 s.words.length 0) rfl).app [intB (cf 1 (s.words.map Bs))]
    simpa [srcB,colP,hc] using this
   ·exact(hS2.fr _).trans (Fr.app _ _ _)
  ·subst hb
   refine⟨.inl rfl,_,_,rfl,trivial,rfl,?_,Fr.refl _ _⟩
   rw[takeS_ok]
   exact hS2
 ·have hz' : (s.wrong == 0)=false:=by simpa using hz
  simp[go_sem,hsrc,hw,hn,hm,l1,l2,hw1,hz,hz']
  refine awp_draw C8ok (by kernel_rfl) [0,1,3,7,15,31,63,63,191,447,959,63,2111,6207,14399,32703,65471,131071,262143,524287] [.quiet [0],.quiet [0],.quiet [0],.quiet [0],.quiet [0],.quiet [0],.quiet [0],.quiet [0],.quiet [0],.quiet [0],.quiet [0],.quiet [0],.quiet [0],.quiet [0],.quiet [0],.quiet [0],.quiet [0],.eff 0,.quiet [1],.quiet [1]] 1 (by kernel_rfl) ?_
  simp[go_sem,hsrc,hw,hn,hm,l1,l2,hw1,hf,hsp,hin,hp,hi,hz,hz']
  refine⟨.inl rfl,_,_,rfl,trivial,rfl,?_,Fr.refl _ _⟩
  rw[eZ b hz]
  exact hS1
theorem Fr.set' {ts:List Nat} {H0 H:Heap} {b:Nat} {X:Blk} (h:Fr ts H0 H) (hb:H0.length≤b):Fr ts H0 (H.set b X):=⟨by have:=h.len;simp;exact this,fun b' B' hb' ht=>by
 rw[hat_ne (fun e=>by subst e;have:=hat_lt hb';omega)]
 exact h.keep b' B' hb' ht⟩
theorem dY {H:Heap} {sb lb wb:Nat} {s:Sr} {f:FuncId} {caps:List AV} {sp:Am.Spec} {b:Bool} {ob:Prop} (hs:Src H sb s lb (.sl wb 0 s.words.length 0)) (hw:hat H wb=some (strB s.words)) (hk:Wok s) (hi:s.word+1 < s.words.length) (hf:bA f=some sp)
  (hsp:sp (.str (s.words[(s.word+1).toNat]?.getD ⟨#[]⟩) :: caps) (H.set sb (srcB lb (.sl wb 0 s.words.length 0) { s with word:=s.word+1 }))=some (.bool b,H.set sb (srcB lb (.sl wb 0 s.words.length 0) { s with word:=s.word+1 }),ob)) (hob:s.wrong=0 → ob) :
  ACalls Tryz.prog 31 [.ptr sb 0 0 0,.fn f caps] H fun v H'=>v = .str (s.words[(s.word+1).toNat]?.getD ⟨#[]⟩)∧Src H' sb (takeS s b) lb (.sl wb 0 s.words.length 0)∧Fr [81] H H':=by
 have hsrc:=hs.src
 have hin:(s.word+1).toNat < s.words.length:=by have:=hk.k0;omega
 have hp:0≤s.word+1:=by have:=hk.k0;omega
 simp only[go_sem,srcB] at hsrc
 refine acalls_ofN (C:=C8) (nt:=18) C8ok Tryz.func31 rfl rfl ?_
 refine awalk_sound C8ok _ _ _ _ ?_
 simp[go_sem,hsrc]
 refine awp_region (aops_pref C8ok 2 ?_)
 simp[go_sem,hsrc]
 refine aops_call rfl rfl rfl rfl Tryz.func62 (by kernel_rfl) (by kernel_rfl) (take_calls (ts:=[]) hs hw hk hi hf hsp hob (Fr.refl _ _) (by simp) (by simp)) ?_
 rintro v H1 ⟨rfl,h1,h2⟩
 have h2:Fr [81] (H.set sb (srcB lb (.sl wb 0 s.words.length 0) { s with word:=s.word+1 })) H1:=by
  split at h2 <;> exact h2
 have hF:=(hs.fr _).trans h2
 have hw1:=hF.keep _ _ hw (by rw[aQ];decide)
 have hs1:=h1.src
 have hword:(takeS s b).word=s.word+1:=rfl
 simp only[go_sem,srcB,hword] at hs1
 refine⟨_,rfl,aops_nil ?_⟩
 simp[go_sem,hs1,hw1]
 refine awp_draw C8ok (by kernel_rfl) [0,1,3,7,0,16,48,112,255,511,1023] [.quiet [0],.quiet [0],.quiet [0],.quiet [0],.quiet [0],.quiet [0],.quiet [0],.quiet [0],.quiet [0],.quiet [0],.quiet [0]] 0 (by kernel_rfl) ?_
 simp[go_sem,hs1,hw1,hin,hp,hi]
 exact⟨.inr rfl,_,_,rfl,trivial,rfl,h1,hF⟩
def badS (s:Sr):Sr:={ s with wrong:=if s.wrong=0 then colP s.words s.word else s.wrong }
theorem bad_calls {H:Heap} {sb lb wb:Nat} {s:Sr} (hs:Src H sb s lb (.sl wb 0 s.words.length 0)) (hw:hat H wb=some (strB s.words)) (hk:Wok s) (hi:s.word < s.words.length) :
  ACalls Tryz.prog 61 [.ptr sb 0 0 0] H fun v H'=>v = .tup []∧Src H' sb (badS s) lb (.sl wb 0 s.words.length 0)∧Fr [81] H H':=by
 have hsrc:=hs.src
 have hn:=hs.ne
 have hm:=Wds.ne hs hw
 have k0:=hk.k0
 have l1:=hat_lt hsrc
 have l2:=hat_lt hw
 have hin:s.word.toNat < s.words.length:=by omega
 have hc:s.word.toNat < (cf 1 (s.words.map Bs)).length:=by rw[fe];exact hin
 have hrow:bZ (strB s.words) s.words.length 0:=bK (by have:=hk.n;omega)
 simp only[go_sem,srcB] at hsrc
 refine acalls_ofN (C:=C8) (nt:=21) C8ok Tryz.func61 rfl rfl ?_
 refine awalk_sound C8ok _ _ _ _ ?_
 by_cases hz:s.wrong=0
 ·rw[hz] at hsrc
  simp[go_sem,hsrc,hz]
  refine awp_draw C8ok (by kernel_rfl) [0,0,2,6,14,30,0,64,192,448,1022,2046,4095,8191,16383] [.quiet [0,1],.quiet [0],.quiet [0],.quiet [0],.quiet [0],.eff 0,.quiet [0,1],.quiet [0,1],.quiet [0,1],.quiet [0,1],.quiet [1],.quiet [1],.quiet [1],.quiet [1],.eff 1] 2 (by kernel_rfl) ?_
  simp[go_sem,hsrc,hw,hn,hm,l1,l2,hrow,cZ,bV,hk.t,hin,k0,hi,fe]
  refine⟨.inl rfl,_,_,rfl,trivial,rfl,?_,(hs.fr _).trans (Fr.app _ _ _)⟩
  have e:badS s = { s with wrong:=colP s.words s.word }:=by unfold badS;rw[if_pos hz]
  rw[e]
  have:=(hs.set { s with wrong:=colP s.words s.word } (.sl wb 0 s.words.length 0) rfl).app [intB (cf 1 (s.words.map Bs))]
  simpa [srcB,colP,hc] using this
 ·simp[go_sem,hsrc,hz]
  refine⟨.inl rfl,_,_,rfl,trivial,rfl,?_,Fr.refl _ _⟩
  have e:badS s=s:=by unfold badS;rw[if_neg hz]
  rw[e]
  exact hs
theorem fault_calls {H:Heap} {sb lb:Nat} {s:Sr} {vw:AV} (hs:Src H sb s lb vw) :
  ACalls Tryz.prog 27 [.ptr sb 0 0 0] H fun v H'=>v = .tup []∧Src H' sb { s with wrong:=1 } lb vw∧Fr [81] H H':=by
 have hsrc:=hs.src
 have l1:=hat_lt hsrc
 simp only[go_sem,srcB] at hsrc
 refine acalls_ofN (C:=C8) (nt:=5) C8ok Tryz.func27 rfl rfl ?_
 refine awalk_sound C8ok _ _ _ _ ?_
 simp[go_sem,hsrc]
 exact⟨.inl rfl,_,_,rfl,trivial,rfl,hs.set { s with wrong:=1 } vw rfl,hs.fr _⟩
def restS (s:Sr):Sr × Bool:=if s.line=s.lines.length∧s.cut=false then (s,true) else ({ s with line:=s.line+1,wrong:=1 },false)
theorem rest_calls {H:Heap} {sb lb:Nat} {s:Sr} {vw:AV} (hs:Src H sb s lb vw) (hk:Lok s) :
  ACalls Tryz.prog 35 [.ptr sb 0 0 0] H fun v H'=>v = .bool (restS s).2∧Src H' sb (restS s).1 lb vw∧Fr [81] H H':=by
 have hsrc:=hs.src
 have hl:=hs.lns
 have hn:=hs.ne
 have k0:=hk.k0
 have k1:=hk.k
 have l1:=hat_lt hsrc
 have hw1:IntKind.i64.wrap (s.line+1)=s.line+1:=av (by omega) (by omega)
 simp only[go_sem,srcB] at hsrc
 refine acalls_ofN (C:=C8) (nt:=30) C8ok Tryz.func35 rfl rfl ?_
 refine awalk_sound C8ok _ _ _ _ ?_
 simp[go_sem,hsrc]
 refine awp_draw C8ok (by kernel_rfl) [0,1,3,7,0,16,48,112,240,511,1023,2047,4095,8191,16383,32767,65535] [.quiet [0],.quiet [0],.quiet [0],.quiet [0],.quiet [0],.quiet [0],.quiet [0],.quiet [0],.quiet [0],.quiet [0],.quiet [0],.quiet [0],.quiet [0],.quiet [0],.quiet [0],.quiet [0],.quiet [0]] 0 (by kernel_rfl) ?_
 simp[go_sem,hsrc,hl,hn,l1,hw1]
 refine⟨fun h1 h2=>?_,fun h=>?_⟩
 ·refine⟨.inr rfl,_,_,rfl,trivial,?_⟩
  have e:restS s=(s,true):=if_pos ⟨h1,h2⟩
  rw[e]
  exact⟨rfl,hs,Fr.refl _ _⟩
 ·refine⟨.inr rfl,_,_,rfl,trivial,?_⟩
  have e:restS s=({ s with line:=s.line+1,wrong:=1 },false):=if_neg (fun q=>by have:=h q.1;rw[q.2] at this;cases this)
  rw[e]
  exact⟨rfl,hs.set { s with line:=s.line+1,wrong:=1 } vw rfl,hs.fr _⟩
theorem place_calls {H:Heap} {sb lb:Nat} {s:Sr} {vw:AV} (hs:Src H sb s lb vw) :
  ACalls Tryz.prog 36 [.ptr sb 0 0 0] H fun v H'=>v = .agg [.int .i64 s.line,.int .i64 s.wrong]∧Fr [] H H':=by
 have hsrc:=hs.src
 have l1:=hat_lt hsrc
 simp only[go_sem,srcB] at hsrc
 refine acalls_ofN (C:=C8) (nt:=12) C8ok Tryz.func36 rfl rfl ?_
 refine awalk_sound C8ok _ _ _ _ ?_
 simp[go_sem,hsrc]
 refine awp_draw C8ok (by kernel_rfl) [0,1,3,7,0,16,48,112,255,511] [.quiet [0],.quiet [0],.quiet [0],.quiet [0],.quiet [0],.quiet [0],.quiet [0],.quiet [0],.quiet [0],.eff 0] 1 (by kernel_rfl) ?_
 simp[go_sem,hsrc,l1]
 refine⟨.inr rfl,?_⟩
 show ∃ vs ob,ares C8 _ _ [.cell 2 27]=some (vs,ob)∧ob∧_
 simp[go_sem]
 exact⟨_,True,⟨rfl,trivial⟩,trivial,rfl,Fr.app _ _ _⟩
theorem spNum1_at {HX:Heap} {a b n k:Nat} {w:ByteArray} {l m:Int} (e0:hat HX a=some (bI l)) (e1:hat HX b=some (bI m)):spNum1 [.str w,.ptr a 0 0 0,.ptr b 0 0 0,.ptr n 0 0 0,.ptr k 0 0 0] HX=some (.bool ((numP w l m).2 == 0),(HX.set n (bI (numP w l m).1)).set k (bB ((numP w l m).2 == 0)),w.size≤1000000000∧bI l=bI l∧bI m=bI m∧(∃ n0,hat HX n=some (bI n0))∧∃ k0,hat HX k=some (bB k0)):=by
 simp[spNum1,e0,e1,bI,ax]
def numS (s:Sr) (l m:Int):Int × Bool:=if s.wrong=0 then ((numP (s.words[(s.word+1).toNat]?.getD ⟨#[]⟩) l m).1,(numP (s.words[(s.word+1).toNat]?.getD ⟨#[]⟩) l m).2 == 0) else (0,false)
theorem bg {H:Heap} {sb lb wb:Nat} {s:Sr} (l m:Int) (hs:Src H sb s lb (.sl wb 0 s.words.length 0)) (hw:hat H wb=some (strB s.words)) (hk:Wok s) (hi:s.word+1 < s.words.length) :
  ACalls Tryz.prog 58 [.ptr sb 0 0 0,.int .i64 l,.int .i64 m] H fun v H'=>v = .tup [.int .i64 (numS s l m).1,.bool (numS s l m).2]∧Src H' sb (takeS s (numS s l m).2) lb (.sl wb 0 s.words.length 0)∧Fr [81] H H':=by
 have k0:=hk.k0
 have hin:(s.word+1).toNat < s.words.length:=by omega
 refine acalls_ofN (C:=C8) (nt:=13) C8ok Tryz.func58 rfl rfl ?_
 refine awalk_sound C8ok _ _ _ _ ?_
 simp[go_sem]
 refine awp_region (aops_pref C8ok 2 ?_)
 simp[go_sem]
 obtain⟨H1,hH1⟩ : ∃ H1,H1=H ++ [bI l,bI m,bI 0,bB false]:=⟨_,rfl⟩
 have hs1:Src H1 sb s lb (.sl wb 0 s.words.length 0):=by rw[hH1];exact hs.app _
 have hw1:hat H1 wb=some (strB s.words):=by rw[hH1];exact hat_app hw _
 obtain⟨HX,hHX⟩ : ∃ HX,HX=H1.set sb (srcB lb (.sl wb 0 s.words.length 0) { s with word:=s.word+1 }):=⟨_,rfl⟩
 have lsb:=hat_lt hs.src
 have hlen1:H1.length=H.length+4:=by rw[hH1];simp
 have hlen:HX.length=H.length+4:=by rw[hHX];simpa using hlen1
 have e0:hat HX H.length=some (bI l):=by rw[hHX,hat_setN (by omega),hH1,hat_appN rfl];rfl
 have e1:hat HX (H.length+1)=some (bI m):=by rw[hHX,hat_setN (by omega),hH1,hat_appK 1 rfl];rfl
 have e2:hat HX (H.length+2)=some (bI 0):=by rw[hHX,hat_setN (by omega),hH1,hat_appK 2 rfl];rfl
 have e3:hat HX (H.length+3)=some (bB false):=by rw[hHX,hat_setN (by omega),hH1,hat_appK 3 rfl];rfl
 have hF0:Fr [81] H HX:=by
  rw[hHX]
  exact(by rw[hH1];exact Fr.app _ _ _:Fr _ H H1).trans (hs1.fr _)
 generalize hwd:s.words[(s.word+1).toNat]?.getD ⟨#[]⟩=w
 have hwz:w.size≤1000000000:=by
  rw[← hwd]
  simp[hin]
  have:=(hk.w _ (List.getElem_mem hin)).1
  omega
 have hsp:spNum1 (.str w :: [.ptr H.length 0 0 0,.ptr (H.length+1) 0 0 0,.ptr (H.length+2) 0 0 0,.ptr (H.length+3) 0 0 0]) HX=some (.bool ((numP w l m).2 == 0),(HX.set (H.length+2) (bI (numP w l m).1)).set (H.length+3) (bB ((numP w l m).2 == 0)),w.size≤1000000000∧bI l=bI l∧bI m=bI m∧(∃ n0,hat HX (H.length+2)=some (bI n0))∧∃ k0,hat HX (H.length+3)=some (bB k0)):=by
  exact spNum1_at e0 e1
 have hfr:Fr [2,4] HX ((HX.set (H.length+2) (bI (numP w l m).1)).set (H.length+3) (bB ((numP w l m).2 == 0))):=by
  refine(Fr.set e2 (by decide) _).trans (Fr.set (B:=bB false) ?_ (by decide) _)
  rw[hat_setN (by omega)]
  exact e3
 rw[← hwd,hHX] at hsp
 show AOps C8 13 H _ _ _ _ (H ++ [bI l,bI m,bI 0,bB false])
 rw[← hH1]
 refine aops_call rfl rfl rfl rfl Tryz.func62 (by kernel_rfl) (by kernel_rfl) (take_calls (ts:=[2,4]) hs1 hw1 hk hi s8_num1 hsp (fun _=>by rw[← hHX,hwd];exact⟨hwz,rfl,rfl,⟨_,e2⟩,_,e3⟩) (by rw[← hHX,hwd];exact hfr) (by decide) (by decide)) ?_
 rintro v H' ⟨rfl,hs2,hf2⟩
 have k2:Src H' sb (takeS s ((numP w l m).2 == 0)) lb (.sl wb 0 s.words.length 0):=by rw[← hwd];exact hs2
 have hword:takeS s ((numP w l m).2 == 0)=takeS s (numS s l m).2:=by
  unfold numS
  rw[hwd]
  by_cases hz:s.wrong=0
  ·rw[if_pos hz]
  ·rw[if_neg hz,eZ _ hz,eZ _ hz]
 have hboth:Fr [81] H H'∧hat H' (H.length+2)=some (bI (numS s l m).1)∧hat H' (H.length+3)=some (bB (numS s l m).2):=by
  unfold numS
  rw[hwd]
  split at hf2
  ·rename_i hz
   rw[if_pos hz]
   rw[← hHX,hwd] at hf2
   refine⟨(Fr.set' (Fr.set' hF0 (by omega)) (by omega)).trans hf2,hf2.keep _ _ ?_ (by simp[bI,box_t]),hf2.keep _ _ ?_ (by simp[bB,box_t])⟩
   ·rw[hat_setN (by omega),hat_setS (by omega)]
   ·rw[hat_setS (by simp;omega)]
  ·rename_i hz
   rw[if_neg hz]
   rw[← hHX] at hf2
   exact⟨hF0.trans hf2,hf2.keep _ _ e2 (by simp[bI,box_t]),hf2.keep _ _ e3 (by simp[bB,box_t])⟩
 obtain⟨hF,f2,f3⟩:=hboth
 rw[hword] at k2
 have l2:=hat_lt f2
 have l3:=hat_lt f3
 simp only[go_sem,bI,bB] at f2 f3
 refine⟨_,rfl,aops_nil ?_⟩
 simp[go_sem]
 refine awp_draw C8ok (by kernel_rfl) [0,0,1,7] [.quiet [0],.quiet [0,1],.eff 0,.eff 1] 2 (by kernel_rfl) ?_
 simp[go_sem,f2,f3,l2,l3]
 refine⟨.inr rfl,?_⟩
 show ∃ vs ob,ares C8 _ _ [.cell 6 2,.cell 7 4]=some (vs,ob)∧ob∧_
 simp[go_sem,f2,f3,l2,l3]
 have g3:hat (H'.set (H.length+2) (bI (numS s l m).1)) (H.length+3)=some (bB (numS s l m).2):=by rw[hat_setN (by omega)];exact f3
 refine⟨_,True,⟨rfl,trivial⟩,trivial,rfl,?_,Fr.set' (Fr.set' hF (by omega)) (by omega)⟩
 exact(k2.keep (Fr.set (ts:=[2]) f2 (by simp[box_t]) _) (by decide) (by decide)).keep (Fr.set (ts:=[4]) g3 (by simp[bB,box_t]) _) (by decide) (by decide)
end Go.Proofs.YtjokedpaidmjoaaGreatDoor.Rf
