/- A part of the proof. -/
import Derived.Test.YtcmhfcciapenfaaDoorQ47
namespace Go.Proofs.YtcmhfcciapenfaaDoor.Pu
open Go.RowKit Go.Proofs.YtcmhfcciapenfaaDoorW.PrintWords Go.Proofs.YtcmhfcciapenfaaDoor.Pa
theorem cov_one {α β:Type} (p:α → Bool) (v:α → β) (F:List α → Int → β → Int × β) (h0 : ∀ n m,F [] n m=(n,m)) (h1 : ∀ s r n m,F (s :: r) n m=if p s=true then F r (IntKind.i64.wrap (n+1)) (v s) else F r n m) :
  ∀ l,(l.countP p=0 → ∀ n m,F l n m=(n,m))∧(l.countP p=1 → ∀ m,∃ s∈l,p s=true∧F l 0 m=(1,v s)):=by
 intro l
 induction l with
 |nil=>exact⟨fun _ n m=>h0 n m,fun h=>by cases h⟩
 |cons s r ih=>
  rw[List.countP_cons]
  by_cases hp:p s=true
  ·rw[if_pos hp]
   refine⟨fun h=>by omega,fun h m=>⟨s,List.mem_cons_self,hp,?_⟩⟩
   rw[h1,if_pos hp]
   exact ih.1 (by omega) _ _
  ·rw[if_neg hp]
   refine⟨fun h n m=>?_,fun h m=>?_⟩
   ·rw[h1,if_neg hp]
    exact ih.1 (by omega) n m
   ·obtain⟨x,hx,hpx,e⟩:=ih.2 (by omega) m
    exact⟨x,List.mem_cons_of_mem _ hx,hpx,by rw[h1,if_neg hp];exact e⟩
theorem first_all : ∀ (l:List Bool) (n:Nat),((sCheck.first l n).2=0∧∀ b∈l,b=true)∨(sCheck.first l n).2=2
 |[],n=>.inl ⟨rfl,fun b hb=>by cases hb⟩
 |b :: r,n=>by
  unfold sCheck.first
  cases b with
  |true=>
   rw[if_pos rfl]
   rcases first_all r (n+1) with ⟨h1,h2⟩|h
   ·exact .inl ⟨h1,fun b hb=>by
     cases hb with
     |head=>rfl
     |tail _ hb=>exact h2 b hb⟩
   ·exact .inr h
  |false=>exact .inr rfl
theorem goOk_in (l:List BlkT) : ∀ (ns:List (List UInt8)),goOk l ns=true → ∀ n,(n∈ns → l.countP (fun b=>b.f0.toList == n)=0)∧l.countP (fun b=>b.f0.toList == n)≤1:=by
 induction l with
 |nil=>intro ns _ n;exact⟨fun _=>rfl,Nat.zero_le _⟩
 |cons b t ih=>
  intro ns h n
  simp only[goOk,Bool.and_eq_true,Bool.not_eq_true',decide_eq_false_iff_not] at h
  obtain⟨⟨h1,_⟩,h3⟩:=h
  have e:bnm b=b.f0.toList:=(dB b.f0).symm
  have i1:=ih _ h3 n
  rw[List.countP_cons]
  by_cases hb:(b.f0.toList == n)=true
  ·have hb' : bnm b=n:=by rw[e];exact beq_iff_eq.1 hb
   have:=i1.1 (hb' ▸ List.mem_cons_self)
   rw[if_pos hb,this]
   exact⟨fun hn=>absurd (hb' ▸ hn) h1,by omega⟩
  ·rw[if_neg hb]
   exact⟨fun hn=>by rw[i1.1 (List.mem_cons_of_mem _ hn)],by omega⟩
theorem mdR_fine (a:Int) : ∃ n:Nat,n < 366∧dayR (mdR a)=((n:Int)+1,0)∧101≤mdR a∧mdR a≤1231:=
 have h:=(md_ev a).choose_spec.choose_spec
 ⟨_,h.1,h.2.2⟩
theorem covers_true (t:Tar) (day kind minute:Int) (hs:dP t.f15=true) (hw:dN t=true) (hb:eG t.f18=true):covers t day kind minute=true:=by
 obtain⟨n,hn,hd,_⟩:=mdR_fine day
 unfold dP at hs
 unfold dN at hw
 unfold eG at hb
 simp only[Bool.and_eq_true,List.all_eq_true] at hs hw hb
 obtain⟨⟨hs1,_⟩,hs3⟩:=hs
 obtain⟨⟨hw1,hw2⟩,_⟩:=hw
 obtain⟨hb1,_⟩:=hb
 have c1:t.f15.countP (fun s=>holdsB s.f1 s.f2 (mdR day))=1:=by
  have h:=hs3 n (List.mem_range.2 hn)
  rw[beq_iff_eq] at h
  unfold seaHeld at h
  rw[← h]
  refine List.countP_congr fun s hsm=>?_
  have hg:=seaOk_good _ _ hs1 s hsm
  unfold dJ at hg
  simp only[Bool.and_eq_true,decide_eq_true_eq] at hg
  unfold holdsB holdsR pylonref09_seasons.inside
  rw[hd]
  dsimp only
  rw[if_pos ⟨rfl,hg.1.1,hg.1.2⟩]
  split
  ·rename_i hle
   rw[decide_eq_true hle,decide_eq_false (show ¬ (dayR s.f2).1 < (dayR s.f1).1 by omega)]
   simp
  ·rename_i hle
   rw[decide_eq_false hle,decide_eq_true (show(dayR s.f2).1 < (dayR s.f1).1 by omega)]
   simp
 obtain⟨s,hsm,_,e1⟩:=((cov_one (fun s:S41=>holdsB s.f1 s.f2 (mdR day)) (fun s=>s.f0) (covS (mdR day)) (fun _ _=>rfl) (fun _ _ _ _=>rfl) t.f15).2 c1 ⟨#[]⟩)
 have hk0 : ∃ k:Nat,k < 4∧IntKind.i64.wrap ((IntKind.u64.wrap kind).tmod 4)=(k:Int):=by
  have h0:0≤IntKind.u64.wrap kind:=by rw[IntKind.wrap_u64];omega
  rw[Int.tmod_eq_emod_of_nonneg h0]
  refine⟨(IntKind.u64.wrap kind % 4).toNat,by omega,?_⟩
  rw[dU (by omega) (by omega)]
  omega
 have hm0 : ∃ m:Nat,m < 1440∧IntKind.i64.wrap ((IntKind.u64.wrap minute).tmod 1440)=(m:Int):=by
  have h0:0≤IntKind.u64.wrap minute:=by rw[IntKind.wrap_u64];omega
  rw[Int.tmod_eq_emod_of_nonneg h0]
  refine⟨(IntKind.u64.wrap minute % 1440).toNat,by omega,?_⟩
  rw[dU (by omega) (by omega)]
  omega
 obtain⟨k,hk,ek⟩:=hk0
 obtain⟨m,hm,em⟩:=hm0
 have hfull:sound_windows.full t.f17 (s.f0.data.toList,(k:Int))=true:=by
  have h:=hw2 s hsm
  unfold sound_windows.fullS at h
  simp only[Bool.and_eq_true] at h
  obtain⟨⟨⟨a0,a1⟩,a2⟩,a3⟩:=h
  match k,hk with
  |0,_=>exact a0
  |1,_=>exact a1
  |2,_=>exact a2
  |3,_=>exact a3
 have hgood:t.f17.all (sound_windows.good t.f15 t.f18)=true:=List.all_eq_true.2 hw1
 have hheld:held (sound_windows.runs t.f17 (s.f0.data.toList,(k:Int))) (m:Int)=1:=by
  unfold sound_windows.full at hfull
  refine(tiles_held _ 1440 (by omega) (fun r hr=>?_)).1 hfull m (by omega) (by omega)
  unfold sound_windows.runs at hr
  obtain⟨x,hxm,rfl⟩:=List.mem_map.1 hr
  have hx:=List.all_eq_true.1 hgood x (List.mem_filter.1 hxm).1
  unfold sound_windows.good sound_windows.bad at hx
  simp at hx
  dsimp only
  omega
 have c2:t.f17.countP (fun w=>(((w.f0.toList == s.f0.toList) && (w.f1 == (k:Int))) && decide (w.f2≤(m:Int))) && decide ((m:Int) < w.f3))=1:=by
  rw[← hheld]
  unfold held sound_windows.runs
  rw[List.countP_map,List.countP_filter]
  refine List.countP_congr fun x hx=>?_
  unfold inRun
  rw[dB,dB]
  simp[Bs]
  constructor
  ·rintro⟨⟨⟨h1,h2⟩,h3⟩,h4⟩;exact⟨⟨h3,h4⟩,h1,h2⟩
  ·rintro⟨⟨h3,h4⟩,h1,h2⟩;exact⟨⟨⟨h1,h2⟩,h3⟩,h4⟩
 obtain⟨w,hwm,_,e2⟩:=((cov_one (fun w:S45=>(((w.f0.toList == s.f0.toList) && (w.f1 == (k:Int))) && decide (w.f2≤(m:Int))) && decide ((m:Int) < w.f3)) (fun w=>w.f4) (covW s.f0 k m) (fun _ _=>rfl) (fun _ _ _ _=>rfl) t.f17).2 c2 ⟨#[]⟩)
 have c3:t.f18.countP (fun b=>b.f0.toList == w.f4.toList)=1:=by
  have h1:=(goOk_in t.f18 [] hb1 w.f4.toList).2
  have h2:=hw1 w hwm
  unfold sound_windows.good at h2
  simp only[Bool.and_eq_true,List.any_eq_true,decide_eq_true_eq] at h2
  obtain⟨⟨_,b,hbm,hbe⟩,_⟩:=h2
  have:0 < t.f18.countP (fun b=>b.f0.toList == w.f4.toList):=List.countP_pos_iff.2 ⟨b,hbm,by rw[dB,dB];exact beq_iff_eq.2 hbe⟩
  have h1:t.f18.countP (fun b=>b.f0.toList == w.f4.toList)≤1:=Nat.le_trans (Nat.le_of_eq (List.countP_congr fun x _=>by simp)) h1
  omega
 obtain⟨b,_,_,e3⟩:=((cov_one (fun b:S48=>b.f0.toList == w.f4.toList) (fun _=>()) (fun l n u=>(covB w.f4 l n,u)) (fun _ _=>rfl) (fun x r n u=>by
  show(covB w.f4 (x :: r) n,u)=_
  rw[covB]
  split <;> rfl) t.f18).2 c3 ())
 have e3:covB w.f4 t.f18 0=1:=congrArg Prod.fst e3
 unfold covers
 simp only[ek,em,e1,e2,e3]
 rfl
theorem soundCovers (t:Tar) (day kind minute:Int) (w:TarWf t) (_:(Lit.int .i64 day).wf=true) (_:(Lit.int .i64 kind).wf=true) (_:(Lit.int .i64 minute).wf=true) (hb:tarB t≤1048576) : ∃ k,pylonlaw09_SoundCovers.f k t day kind minute=some true:=by
 have hs:=small_of hb
 have hF:=fine_of w hs
 obtain⟨K,h2⟩:=scheck_ev t hF
 have h2:=h2 K (Nat.le_refl _)
 dsimp only at h2
 refine⟨K,?_⟩
 obtain⟨_,_,_,b1,b2⟩:=mdR_fine day
 have s15:=hs.s15
 have s16:=hs.s16
 have s17:=hs.s17
 have s18:=hs.s18
 unfold pylonlaw09_SoundCovers.f
 rw[if_pos ⟨⟨by omega,by omega,by omega,by omega,fun b hb=>by have:=s18.2 b hb;omega⟩,copySmall_of hs,fun s hs=>⟨i64_lo (w.w15 s hs).2.1,i64_lo (w.w15 s hs).2.2⟩,⟨by omega,by omega⟩⟩,h2]
 simp only[Option.bind_some]
 congr 1
 rcases first_all (rules t) 1 with ⟨h,ha⟩|h
 ·rw[if_pos h]
  exact covers_true t day kind minute (ha _ (by simp[rules])) (ha _ (by simp[rules])) (ha _ (by simp[rules]))
 ·rw[h]
  rfl
end Go.Proofs.YtcmhfcciapenfaaDoor.Pu
