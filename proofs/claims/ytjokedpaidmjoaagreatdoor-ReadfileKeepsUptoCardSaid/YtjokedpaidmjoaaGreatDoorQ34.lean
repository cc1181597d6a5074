/- A part of the proof. -/
import Derived.Test.YtjokedpaidmjoaaGreatDoorQ33
set_option linter.all false
namespace Go.Proofs.YtjokedpaidmjoaaGreatDoor.Rf
open Go Go.RowKit Go.Proofs.YtjokedpaidmjoaaGreatDoor.Am Go.Proofs.YtjokedpaidmjoaaGreatDoor.Pu Go.Proofs.YtjokedpaidmjoaaGreatDoor
theorem bz {s:Sr} (b:Bool) (h : ¬ s.wrong=0):(takeS s b).wrong=s.wrong:=by rw[eZ b h]
theorem aX (s:Sr):(takeS s true).wrong=s.wrong:=by rw[takeS_ok]
theorem aW {s:Sr} (h:s.wrong=0):(takeS s false).wrong=colP s.words (s.word+1):=by rw[takeS_bad h]
theorem hdL8 {s:Sr} (h : ¬ (hd8 s).wrong=0):(hd9 s).wrong=(hd8 s).wrong:=bz _ h
theorem hdL7 {s:Sr} (h : ¬ (hd7 s).wrong=0):(hd9 s).wrong=(hd7 s).wrong:=by
 have e:(hd8 s).wrong=(hd7 s).wrong:=bz _ h
 rw[hdL8 (by rw[e];exact h),e]
theorem hdL6 {s:Sr} (h : ¬ (hd6 s).wrong=0):(hd9 s).wrong=(hd6 s).wrong:=by
 have e:(hd7 s).wrong=(hd6 s).wrong:=by
  have hd:hdD s=false:=by unfold hdD;simp[h]
  show(if hdD s=true then _ else _)=_
  rw[hd,if_neg (by decide)]
 rw[hdL7 (by rw[e];exact h),e]
theorem hdL5 {s:Sr} (h : ¬ (hd5 s).wrong=0):(hd9 s).wrong=(hd5 s).wrong:=by
 have e:(hd6 s).wrong=(hd5 s).wrong:=bz _ h
 rw[hdL6 (by rw[e];exact h),e]
theorem hdL4 {s:Sr} (h : ¬ (hd4 s).wrong=0):(hd9 s).wrong=(hd4 s).wrong:=by
 have e:(hd5 s).wrong=(hd4 s).wrong:=by
  show(if df s=true then _ else (badS (hd4 s)).wrong)=_
  split
  ·rfl
  ·unfold badS
   rw[if_neg h]
 rw[hdL5 (by rw[e];exact h),e]
theorem step_ok {s:Sr} {l m:Int} (h:(numS s l m).2=true):s.wrong=0:=by
 unfold numS at h
 split at h
 ·assumption
 ·cases h
theorem hdL3 {s:Sr} (h : ¬ (hd3 s).wrong=0):(hd9 s).wrong=(hd3 s).wrong:=by
 have hf:df s=false:=by
  cases hq:(bF s).2 with
  |false=>unfold df;rw[hq];rfl
  |true=>
   refine absurd ?_ h
   unfold hd3
   rw[hq,aX]
   exact step_ok hq
 have hc:hdC s=false:=by unfold hdC;rw[hf];simp
 have e:(hd4 s).wrong=(hd3 s).wrong:=by
  show(if hdC s=true then _ else _)=_
  rw[hc,if_neg (by decide)]
 rw[hdL4 (by rw[e];exact h),e]
theorem hdL2 {s:Sr} (h : ¬ (hd2 s).wrong=0):(hd9 s).wrong=(hd2 s).wrong:=by
 have e:(hd3 s).wrong=(hd2 s).wrong:=bz _ h
 rw[hdL3 (by rw[e];exact h),e]
theorem hdL1 {s:Sr} (h : ¬ (hd1 s).wrong=0):(hd9 s).wrong=(hd1 s).wrong:=by
 have e:(hd2 s).wrong=(hd1 s).wrong:=bz _ h
 rw[hdL2 (by rw[e];exact h),e]
theorem eX {s:Sr} {ws:List ByteArray} (hw:s.words=ws) (h:s.wrong=0) {k:Nat} (hk:s.word+1=k) (l m:Int):numS s l m=rNum ws k l m:=by
 unfold numS rNum wAt
 rw[if_pos h,hk,hw,Int.toNat_natCast]
set_option maxHeartbeats 2000000 in
theorem hd_same {s:Sr} (h0:s.word=0) (hz:s.wrong=0) (h7:s.words.length=7) (f:Fi):(hd9 s).wrong=rhCol s.words∧(rhCol s.words=0 → hdF s f=rhF s.words f):=by
 obtain⟨ws,hws⟩ : ∃ ws,ws=s.words:=⟨_,rfl⟩
 have cpos : ∀ k:Int,0≤k → k < 7 → ¬ colP ws k=0:=by
  intro k h1 h2 h
  have:=bN (ws:=ws) (k:=k) h1 (by rw[hws];omega)
  omega
 have w1:s.words[(s.word+1).toNat]?.getD ⟨#[]⟩=wAt ws 1:=by rw[h0,hws];rfl
 have s1:(hd1 s).words=ws:=hws.symm
 have s2:(hd2 s).words=ws:=hws.symm
 have s3:(hd3 s).words=ws:=hws.symm
 have s4:(hd4 s).words=ws:=hws.symm
 have s5:(hd5 s).words=ws:=hws.symm
 have s6:(hd6 s).words=ws:=hws.symm
 have s7:(hd7 s).words=ws:=hws.symm
 have s8:(hd8 s).words=ws:=hws.symm
 have k1:(hd1 s).word=1:=by show s.word+1=1;omega
 have k2:(hd2 s).word=2:=by show(hd1 s).word+1=2;omega
 have k3:(hd3 s).word=3:=by show(hd2 s).word+1=3;omega
 have k4:(hd4 s).word=3:=k3
 have k5:(hd5 s).word=3:=k4
 have k6:(hd6 s).word=4:=by show(hd5 s).word+1=4;omega
 have k7:(hd7 s).word=4:=k6
 have k8:(hd8 s).word=5:=by show(hd7 s).word+1=5;omega
 rw[← hws]
 by_cases c1:nameL (Bs (wAt ws 1))=false
 ·have e1:(hd1 s).wrong=colP ws 1:=by unfold hd1;rw[w1,c1,aW hz,h0,hws];rfl
  have er:rhCol ws=colP ws 1:=by unfold rhCol;rw[if_pos c1]
  have ne:=cpos 1 (by omega) (by omega)
  exact⟨by rw[hdL1 (by rw[e1];exact ne),e1,er],fun q=>absurd (er ▸ q) ne⟩
 have c1' : nameL (Bs (wAt ws 1))=true:=by simpa using c1
 have e1:(hd1 s).wrong=0:=by unfold hd1;rw[w1,c1',aX,hz]
 have q2:bL s=bQ ws:=eX s1 e1 (by rw[k1];rfl) _ _
 by_cases c2:(bQ ws).2=false
 ·have e2:(hd2 s).wrong=colP ws 2:=by unfold hd2;rw[q2,c2,aW e1,k1,s1];rfl
  have er:rhCol ws=colP ws 2:=by unfold rhCol;rw[if_neg c1,if_pos (by unfold rC2;rw[c2];rfl)]
  have ne:=cpos 2 (by omega) (by omega)
  exact⟨by rw[hdL2 (by rw[e2];exact ne),e2,er],fun q=>absurd (er ▸ q) ne⟩
 have c2' : (bQ ws).2=true:=by simpa using c2
 have e2:(hd2 s).wrong=0:=by unfold hd2;rw[q2,c2',aX,e1]
 have q3:bF s=rStep ws:=eX s2 e2 (by rw[k2];rfl) _ _
 have qf:df s=rFine ws:=by unfold df rFine;rw[q3]
 by_cases cf:rFine ws=false
 ·have hc:hdC s=false:=by unfold hdC;rw[qf,cf];simp
  have c2f:rC2 ws=false:=by unfold rC2;rw[c2',cf];rfl
  have er:rhCol ws=colP ws 3:=by unfold rhCol;rw[if_neg c1,if_neg (by rw[c2f];decide),if_pos cf]
  have ne:=cpos 3 (by omega) (by omega)
  cases c3:(rStep ws).2 with
  |false=>
   have e3:(hd3 s).wrong=colP ws 3:=by unfold hd3;rw[q3,c3,aW e2,k2,s2];rfl
   exact⟨by rw[hdL3 (by rw[e3];exact ne),e3,er],fun q=>absurd (er ▸ q) ne⟩
  |true=>
   have e3:(hd3 s).wrong=0:=by unfold hd3;rw[q3,c3,aX,e2]
   have e4:(hd4 s).wrong=0:=by
    show(if hdC s=true then _ else (hd3 s).wrong)=0
    rw[hc,if_neg (by decide),e3]
   have e5:(hd5 s).wrong=colP ws 3:=by
    show(if df s=true then _ else (badS (hd4 s)).wrong)=_
    rw[qf,cf,if_neg (by decide)]
    unfold badS
    rw[if_pos e4,s4,k4]
   exact⟨by rw[hdL5 (by rw[e5];exact ne),e5,er],fun q=>absurd (er ▸ q) ne⟩
 have cf' : rFine ws=true:=by simpa using cf
 have c3:(rStep ws).2=true:=by unfold rFine at cf';simp at cf';exact cf'.1
 have e3:(hd3 s).wrong=0:=by unfold hd3;rw[q3,c3,aX,e2]
 have hcE:hdC s=rC2 ws:=by unfold hdC rC2;rw[q2,q3,qf,c2',cf'];simp
 by_cases c2c:rC2 ws=true
 ·have e4:(hd4 s).wrong=colP ws 2:=by
   show(if hdC s=true then colP s.words 2 else _)=_
   rw[hcE,c2c,if_pos rfl,hws]
  have er:rhCol ws=colP ws 2:=by unfold rhCol;rw[if_neg c1,if_pos c2c]
  have ne:=cpos 2 (by omega) (by omega)
  exact⟨by rw[hdL4 (by rw[e4];exact ne),e4,er],fun q=>absurd (er ▸ q) ne⟩
 have e4:(hd4 s).wrong=0:=by
  show(if hdC s=true then _ else (hd3 s).wrong)=0
  rw[hcE,if_neg c2c,e3]
 have e5:(hd5 s).wrong=0:=by
  show(if df s=true then (hd4 s).wrong else _)=0
  rw[qf,cf',if_pos rfl,e4]
 have q4:dV s=bY ws:=eX s5 e5 (by rw[k5];rfl) _ _
 by_cases c4:(bY ws).2=false
 ·have e6:(hd6 s).wrong=colP ws 4:=by unfold hd6;rw[q4,c4,aW e5,k5,s5];rfl
  have er:rhCol ws=colP ws 4:=by unfold rhCol;rw[if_neg c1,if_neg c2c,if_neg cf,if_pos (by unfold rC4;rw[c4];rfl)]
  have ne:=cpos 4 (by omega) (by omega)
  exact⟨by rw[hdL6 (by rw[e6];exact ne),e6,er],fun q=>absurd (er ▸ q) ne⟩
 have c4' : (bY ws).2=true:=by simpa using c4
 have e6:(hd6 s).wrong=0:=by unfold hd6;rw[q4,c4',aX,e5]
 have hdE:hdD s=rC4 ws:=by unfold hdD rC4;rw[q2,q3,q4,c4',e6];simp
 by_cases c4c:rC4 ws=true
 ·have e7:(hd7 s).wrong=colP ws 4:=by
   show(if hdD s=true then (badS (hd6 s)).wrong else _)=_
   rw[hdE,c4c,if_pos rfl]
   unfold badS
   rw[if_pos e6,s6,k6]
  have er:rhCol ws=colP ws 4:=by unfold rhCol;rw[if_neg c1,if_neg c2c,if_neg cf,if_pos c4c]
  have ne:=cpos 4 (by omega) (by omega)
  exact⟨by rw[hdL7 (by rw[e7];exact ne),e7,er],fun q=>absurd (er ▸ q) ne⟩
 have e7:(hd7 s).wrong=0:=by
  show(if hdD s=true then _ else (hd6 s).wrong)=0
  rw[hdE,if_neg c4c,e6]
 have q5:hdMult s=rMult ws:=eX s7 e7 (by rw[k7];rfl) _ _
 by_cases c5:(rMult ws).2=false
 ·have e8:(hd8 s).wrong=colP ws 5:=by unfold hd8;rw[q5,c5,aW e7,k7,s7];rfl
  have er:rhCol ws=colP ws 5:=by unfold rhCol;rw[if_neg c1,if_neg c2c,if_neg cf,if_neg c4c,if_pos c5]
  have ne:=cpos 5 (by omega) (by omega)
  exact⟨by rw[hdL8 (by rw[e8];exact ne),e8,er],fun q=>absurd (er ▸ q) ne⟩
 have c5' : (rMult ws).2=true:=by simpa using c5
 have e8:(hd8 s).wrong=0:=by unfold hd8;rw[q5,c5',aX,e7]
 have q6:hdTurn s=rTurn ws:=eX s8 e8 (by rw[k8];rfl) _ _
 by_cases c6:(rTurn ws).2=false
 ·have e9:(hd9 s).wrong=colP ws 6:=by unfold hd9;rw[q6,c6,aW e8,k8,s8];rfl
  have er:rhCol ws=colP ws 6:=by unfold rhCol;rw[if_neg c1,if_neg c2c,if_neg cf,if_neg c4c,if_neg c5,if_pos c6]
  have ne:=cpos 6 (by omega) (by omega)
  exact⟨by rw[e9,er],fun q=>absurd (er ▸ q) ne⟩
 have c6' : (rTurn ws).2=true:=by simpa using c6
 have e9:(hd9 s).wrong=0:=by unfold hd9;rw[q6,c6',aX,e8]
 have er:rhCol ws=0:=by unfold rhCol;rw[if_neg c1,if_neg c2c,if_neg cf,if_neg c4c,if_neg c5,if_neg c6]
 refine⟨by rw[e9,er],fun _=>?_⟩
 unfold hdF rhF
 rw[w1,q2,q3,q4,q5,q6]
theorem rcL4 {s:Sr} {sl:Int} (h : ¬ (rd4 s sl).wrong=0):(rd5 s sl).wrong=(rd4 s sl).wrong:=bz _ h
theorem rcL3 {s:Sr} {sl:Int} (h : ¬ (rd3 s sl).wrong=0):(rd5 s sl).wrong=(rd3 s sl).wrong:=by
 have e:(rd4 s sl).wrong=(rd3 s sl).wrong:=bz _ h
 rw[rcL4 (by rw[e];exact h),e]
theorem rcL2 {s:Sr} {sl:Int} (h : ¬ (rd2 s sl).wrong=0):(rd5 s sl).wrong=(rd2 s sl).wrong:=by
 have e:(rd3 s sl).wrong=(rd2 s sl).wrong:=bz _ h
 rw[rcL3 (by rw[e];exact h),e]
theorem rcL1 {s:Sr} {sl:Int} (h : ¬ (rd1 s sl).wrong=0):(rd5 s sl).wrong=(rd1 s sl).wrong:=by
 have e:(rd2 s sl).wrong=(rd1 s sl).wrong:=bz _ h
 rw[rcL2 (by rw[e];exact h),e]
set_option maxHeartbeats 2000000 in
theorem rd_same {s:Sr} (sl:Int) (h0:s.word=0) (hz:s.wrong=0) (h6:s.words.length=6):(rd5 s sl).wrong=rrCol s.words sl∧(rrCol s.words sl=0 → rdR s sl=rrR s.words sl):=by
 obtain⟨ws,hws⟩ : ∃ ws,ws=s.words:=⟨_,rfl⟩
 have cpos : ∀ k:Int,0≤k → k < 6 → ¬ colP ws k=0:=by
  intro k h1 h2 h
  have:=bN (ws:=ws) (k:=k) h1 (by rw[hws];omega)
  omega
 have s1:(rd1 s sl).words=ws:=hws.symm
 have s2:(rd2 s sl).words=ws:=hws.symm
 have s3:(rd3 s sl).words=ws:=hws.symm
 have s4:(rd4 s sl).words=ws:=hws.symm
 have k1:(rd1 s sl).word=1:=by show s.word+1=1;omega
 have k2:(rd2 s sl).word=2:=by show(rd1 s sl).word+1=2;omega
 have k3:(rd3 s sl).word=3:=by show(rd2 s sl).word+1=3;omega
 have k4:(rd4 s sl).word=4:=by show(rd3 s sl).word+1=4;omega
 have w5:rdW s sl=wAt ws 5:=by unfold rdW wAt;rw[k4,hws];rfl
 have q1:rdN1 s sl=bH ws sl:=eX hws.symm hz (by rw[h0];rfl) _ _
 rw[← hws]
 by_cases c1:(bH ws sl).2=false
 ·have e1:(rd1 s sl).wrong=colP ws 1:=by unfold rd1;rw[q1,c1,aW hz,h0,hws];rfl
  have er:rrCol ws sl=colP ws 1:=by unfold rrCol;rw[if_pos c1]
  have ne:=cpos 1 (by omega) (by omega)
  exact⟨by rw[rcL1 (by rw[e1];exact ne),e1,er],fun q=>absurd (er ▸ q) ne⟩
 have c1' : (bH ws sl).2=true:=by simpa using c1
 have e1:(rd1 s sl).wrong=0:=by unfold rd1;rw[q1,c1',aX,hz]
 have q2:rdN2 s sl=rqIn ws:=eX s1 e1 (by rw[k1];rfl) _ _
 by_cases c2:(rqIn ws).2=false
 ·have e2:(rd2 s sl).wrong=colP ws 2:=by unfold rd2;rw[q2,c2,aW e1,k1,s1];rfl
  have er:rrCol ws sl=colP ws 2:=by unfold rrCol;rw[if_neg c1,if_pos c2]
  have ne:=cpos 2 (by omega) (by omega)
  exact⟨by rw[rcL2 (by rw[e2];exact ne),e2,er],fun q=>absurd (er ▸ q) ne⟩
 have c2' : (rqIn ws).2=true:=by simpa using c2
 have e2:(rd2 s sl).wrong=0:=by unfold rd2;rw[q2,c2',aX,e1]
 have q3:rdN3 s sl=rqOut ws:=eX s2 e2 (by rw[k2];rfl) _ _
 by_cases c3:(rqOut ws).2=false
 ·have e3:(rd3 s sl).wrong=colP ws 3:=by unfold rd3;rw[q3,c3,aW e2,k2,s2];rfl
  have er:rrCol ws sl=colP ws 3:=by unfold rrCol;rw[if_neg c1,if_neg c2,if_pos c3]
  have ne:=cpos 3 (by omega) (by omega)
  exact⟨by rw[rcL3 (by rw[e3];exact ne),e3,er],fun q=>absurd (er ▸ q) ne⟩
 have c3' : (rqOut ws).2=true:=by simpa using c3
 have e3:(rd3 s sl).wrong=0:=by unfold rd3;rw[q3,c3',aX,e2]
 have q4:rdN4 s sl=rqVar ws:=eX s3 e3 (by rw[k3];rfl) _ _
 by_cases c4:(rqVar ws).2=false
 ·have e4:(rd4 s sl).wrong=colP ws 4:=by unfold rd4;rw[q4,c4,aW e3,k3,s3];rfl
  have er:rrCol ws sl=colP ws 4:=by unfold rrCol;rw[if_neg c1,if_neg c2,if_neg c3,if_pos c4]
  have ne:=cpos 4 (by omega) (by omega)
  exact⟨by rw[rcL4 (by rw[e4];exact ne),e4,er],fun q=>absurd (er ▸ q) ne⟩
 have c4' : (rqVar ws).2=true:=by simpa using c4
 have e4:(rd4 s sl).wrong=0:=by unfold rd4;rw[q4,c4',aX,e3]
 by_cases c5:flagB (wAt ws 5)=false
 ·have e5:(rd5 s sl).wrong=colP ws 5:=by unfold rd5;rw[w5,c5,aW e4,k4,s4];rfl
  have er:rrCol ws sl=colP ws 5:=by unfold rrCol;rw[if_neg c1,if_neg c2,if_neg c3,if_neg c4,if_pos c5]
  have ne:=cpos 5 (by omega) (by omega)
  exact⟨by rw[e5,er],fun q=>absurd (er ▸ q) ne⟩
 have c5' : flagB (wAt ws 5)=true:=by simpa using c5
 have e5:(rd5 s sl).wrong=0:=by unfold rd5;rw[w5,c5',aX,e4]
 have er:rrCol ws sl=0:=by unfold rrCol;rw[if_neg c1,if_neg c2,if_neg c3,if_neg c4,if_neg c5]
 refine⟨by rw[e5,er],fun _=>?_⟩
 unfold rdR rrR
 rw[q1,q2,q3,q4,w5]
theorem tl_same {s:Sr} (f:Fi) (h0:s.word=0) (hz:s.wrong=0) (h3:s.words.length=3):(tl2 s f).wrong=rtCol s.words f:=by
 obtain⟨ws,hws⟩ : ∃ ws,ws=s.words:=⟨_,rfl⟩
 have cpos : ∀ k:Int,0≤k → k < 3 → ¬ colP ws k=0:=by
  intro k h1 h2 h
  have:=bN (ws:=ws) (k:=k) h1 (by rw[hws];omega)
  omega
 have w1:s.words[(s.word+1).toNat]?.getD ⟨#[]⟩=wAt ws 1:=by rw[h0,hws];rfl
 have k1:(tl1 s f).word=1:=by show s.word+1=1;omega
 have w2:(tl1 s f).words[((tl1 s f).word+1).toNat]?.getD ⟨#[]⟩=wAt ws 2:=by rw[k1,hws];rfl
 have s1:(tl1 s f).words=ws:=hws.symm
 rw[← hws]
 by_cases c1:((wAt ws 1).toList == (txt f.reads.length).toList)=false
 ·have e1:(tl1 s f).wrong=colP ws 1:=by unfold tl1;rw[w1,c1,aW hz,h0,hws];rfl
  have ne:=cpos 1 (by omega) (by omega)
  have e2:(tl2 s f).wrong=(tl1 s f).wrong:=bz _ (by rw[e1];exact ne)
  rw[e2,e1]
  unfold rtCol
  rw[if_pos c1]
 have c1' : ((wAt ws 1).toList == (txt f.reads.length).toList)=true:=by simpa using c1
 have e1:(tl1 s f).wrong=0:=by unfold tl1;rw[w1,c1',aX,hz]
 unfold rtCol
 rw[if_neg c1]
 have eb:(if (sumR (sumL f.reads)).2=0 then ((tl1 s f).words[((tl1 s f).word+1).toNat]?.getD (⟨#[]⟩ : ByteArray)).toList == (txt (sumR (sumL f.reads)).1).toList else false)=(decide ((sumR (sumL f.reads)).2=0) && ((wAt ws 2).toList == (txt (sumR (sumL f.reads)).1).toList)):=by
  rw[w2]
  by_cases h:(sumR (sumL f.reads)).2=0
  ·simp[h]
  ·simp[h]
 unfold tl2
 rw[eb]
 cases hb:(decide ((sumR (sumL f.reads)).2=0) && ((wAt ws 2).toList == (txt (sumR (sumL f.reads)).1).toList)) with
 |false=>
  rw[aW e1,k1,s1,if_pos rfl]
  rfl
 |true=>
  rw[aX,e1,if_neg (by decide)]
end Go.Proofs.YtjokedpaidmjoaaGreatDoor.Rf
