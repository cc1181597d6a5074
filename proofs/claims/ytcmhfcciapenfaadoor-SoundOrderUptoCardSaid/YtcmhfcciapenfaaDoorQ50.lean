/- A part of the proof. -/
import Derived.Test.YtcmhfcciapenfaaDoorQ49
namespace Go.Proofs.YtcmhfcciapenfaaDoor.Pu
open Go.RowKit Go.Proofs.YtcmhfcciapenfaaDoorW.PrintWords Go.Proofs.YtcmhfcciapenfaaDoor.Pa
theorem seaOk_nodup (l:List SeaT) : ∀ ns,seaOk l ns=true↔(∀ s∈l,dP s=true)∧(l.map snm).Nodup∧∀ s∈l,snm s ∉ ns:=by
 induction l with
 |nil=>intro ns;simp[seaOk]
 |cons b t ih=>
  intro ns
  simp only[seaOk,Bool.and_eq_true,Bool.not_eq_true',decide_eq_false_iff_not,ih,List.map_cons,List.nodup_cons,List.mem_cons,List.mem_map]
  constructor
  ·rintro⟨⟨h1,h2⟩,h3,h4,h5⟩
   refine⟨fun s hs=>hs.elim (fun e=>e ▸ h2) (h3 s),⟨?_,h4⟩,fun s hs=>hs.elim (fun e=>e ▸ h1) (fun hs q=>h5 s hs (.inr q))⟩
   rintro⟨s,hs,e⟩
   exact h5 s hs (.inl e)
  ·rintro⟨h1,⟨h2,h3⟩,h4⟩
   refine⟨⟨h4 b (.inl rfl),h1 b (.inl rfl)⟩,fun s hs=>h1 s (.inr hs),h3,fun s hs q=>?_⟩
   rcases q with q|q
   ·exact h2 ⟨s,hs,q⟩
   ·exact h4 s (.inr hs) q
theorem goOk_nodup (l:List BlkT) : ∀ ns,goOk l ns=true↔(∀ s∈l,blkGood s=true)∧(l.map bnm).Nodup∧∀ s∈l,bnm s ∉ ns:=by
 induction l with
 |nil=>intro ns;simp[goOk]
 |cons b t ih=>
  intro ns
  simp only[goOk,Bool.and_eq_true,Bool.not_eq_true',decide_eq_false_iff_not,ih,List.map_cons,List.nodup_cons,List.mem_cons,List.mem_map]
  constructor
  ·rintro⟨⟨h1,h2⟩,h3,h4,h5⟩
   refine⟨fun s hs=>hs.elim (fun e=>e ▸ h2) (h3 s),⟨?_,h4⟩,fun s hs=>hs.elim (fun e=>e ▸ h1) (fun hs q=>h5 s hs (.inr q))⟩
   rintro⟨s,hs,e⟩
   exact h5 s hs (.inl e)
  ·rintro⟨h1,⟨h2,h3⟩,h4⟩
   refine⟨⟨h4 b (.inl rfl),h1 b (.inl rfl)⟩,fun s hs=>h1 s (.inr hs),h3,fun s hs q=>?_⟩
   rcases q with q|q
   ·exact h2 ⟨s,hs,q⟩
   ·exact h4 s (.inr hs) q
theorem nodup_rev {α:Type} (l:List α):l.reverse.Nodup↔l.Nodup:=(List.reverse_perm l).nodup_iff
theorem seaOk_rev (l:List SeaT):seaOk l.reverse []=seaOk l []:=by
 rw[Bool.eq_iff_iff,seaOk_nodup,seaOk_nodup,List.map_reverse,nodup_rev]
 simp
theorem goOk_rev (l:List BlkT):goOk l.reverse []=goOk l []:=by
 rw[Bool.eq_iff_iff,goOk_nodup,goOk_nodup,List.map_reverse,nodup_rev]
 simp
theorem seasonsOk_rev (l:List SeaT):dO l.reverse=dO l:=by
 unfold dO
 rw[seaOk_rev,List.length_reverse]
 congr 2
 funext d
 unfold seaHeld
 rw[List.countP_reverse]
theorem blocksOk_rev (l:List BlkT):dY l.reverse=dY l:=by
 unfold dY
 rw[goOk_rev,List.length_reverse]
theorem holsOk_rev (l:List HolT):holsOk l.reverse=holsOk l:=by
 unfold holsOk
 rw[List.all_reverse,List.length_reverse]
theorem good_rev (ls:List S41) (lb:List S48) (x:S45):sound_windows.good ls.reverse lb.reverse x=sound_windows.good ls lb x:=by
 unfold sound_windows.good sound_windows.keyed
 rw[List.any_reverse,List.any_reverse]
theorem runs_fine {ls:List S41} {lb:List S48} {lw:List S45} (hg:lw.all (sound_windows.good ls lb)=true) (q:DK) : ∀ r∈sound_windows.runs lw q,0≤r.f0∧r.f0 < r.f1∧r.f1≤1440:=by
 intro r hr
 unfold sound_windows.runs at hr
 obtain⟨x,hxm,rfl⟩:=List.mem_map.1 hr
 have hx:=List.all_eq_true.1 hg x (List.mem_filter.1 hxm).1
 unfold sound_windows.good sound_windows.bad at hx
 simp at hx
 dsimp only
 omega
theorem fD {ls:List S41} {lb:List S48} {lw:List S45} (hg:lw.all (sound_windows.good ls lb)=true) (q:DK):sound_windows.full lw.reverse q=sound_windows.full lw q:=by
 have hp:(sound_windows.runs lw.reverse q).Perm (sound_windows.runs lw q):=by
  unfold sound_windows.runs
  rw[List.filter_reverse,List.map_reverse]
  exact List.reverse_perm _
 have h1:=runs_fine hg q
 have h2 : ∀ r∈sound_windows.runs lw.reverse q,0≤r.f0∧r.f0 < r.f1∧r.f1≤1440:=fun r hr=>h1 r (hp.mem_iff.1 hr)
 unfold sound_windows.full
 rw[Bool.eq_iff_iff,eX _ 1440 (by omega) h1,eX _ 1440 (by omega) h2]
 simp only[held_perm hp]
theorem windowsOk_rev (t:Tar):dN (revT t)=dN t:=by
 unfold dN revT
 dsimp only
 rw[List.all_reverse,List.all_reverse,List.length_reverse]
 have e:(t.f17.all (sound_windows.good t.f15.reverse t.f18.reverse))=t.f17.all (sound_windows.good t.f15 t.f18):=by
  congr 1
  funext x
  exact good_rev _ _ x
 rw[e]
 by_cases hg:t.f17.all (sound_windows.good t.f15 t.f18)=true
 ·rw[hg]
  congr 2
  congr 1
  funext s
  unfold sound_windows.fullS
  rw[fD hg,fD hg,fD hg,fD hg]
 ·have:t.f17.all (sound_windows.good t.f15 t.f18)=false:=by simpa using hg
  rw[this]
  rfl
theorem rules_rev (t:Tar):rules (revT t)=rules t:=by
 unfold rules
 rw[windowsOk_rev]
 unfold revT
 dsimp only
 rw[seasonsOk_rev,holsOk_rev,blocksOk_rev]
theorem sum_rev {α:Type} (b:α → Nat) (l:List α):(l.reverse.map b).sum=(l.map b).sum:=by
 rw[List.map_reverse,List.sum_reverse]
theorem tarB_rev (t:Tar):tarB (revT t)=tarB t:=by
 unfold tarB revT
 dsimp only
 rw[sum_rev,sum_rev,sum_rev,sum_rev]
theorem wf_rev {t:Tar} (w:TarWf t):TarWf (revT t) where
 w0:=w.w0
 w1:=w.w1
 w2:=w.w2
 w3:=w.w3
 w4:=w.w4
 w5:=w.w5
 w6:=w.w6
 w7:=w.w7
 w8:=w.w8
 w9:=w.w9
 w10:=w.w10
 w11:=w.w11
 w12:=w.w12
 w13:=w.w13
 w14:=w.w14
 w15 x hx:=w.w15 x (List.mem_reverse.1 hx)
 w16 x hx:=w.w16 x (List.mem_reverse.1 hx)
 w17 x hx:=w.w17 x (List.mem_reverse.1 hx)
 w18 x hx:=w.w18 x (List.mem_reverse.1 hx)
 w19:=w.w19
 w20:=w.w20
 w21:=w.w21
 w22:=w.w22
 w23:=w.w23
 w24:=w.w24
 w25:=w.w25
 w26:=w.w26
 w27:=w.w27
theorem soundOrder (t:Tar) (w:TarWf t) (hb:tarB t≤1048576) : ∃ k,pylonlaw09_SoundOrder.f k t=some true:=by
 have hs:=small_of hb
 have hb2:tarB (revT t)≤1048576:=by rw[tarB_rev];exact hb
 obtain⟨K1,h1⟩:=scheck_ev t (fine_of w hs)
 obtain⟨K2,h2⟩:=scheck_ev (revT t) (fine_of (wf_rev w) (small_of hb2))
 have h1:=h1 (K1+K2) (by omega)
 have h2:=h2 (K1+K2) (by omega)
 dsimp only at h1 h2
 refine⟨K1+K2,?_⟩
 have s15:=hs.s15
 have s16:=hs.s16
 have s17:=hs.s17
 have s18:=hs.s18
 unfold pylonlaw09_SoundOrder.f
 rw[if_pos ⟨⟨by omega,by omega,by omega,by omega,fun b hb=>by have:=s18.2 b hb;omega⟩,copySmall_of hs⟩,h1,h2,rules_rev]
 simp only[Option.bind_some,beq_self_eq_true,Bool.and_self]
end Go.Proofs.YtcmhfcciapenfaaDoor.Pu
