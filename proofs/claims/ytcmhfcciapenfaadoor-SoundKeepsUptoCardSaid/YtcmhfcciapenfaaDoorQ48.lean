/- A part of the proof. -/
import Derived.Test.YtcmhfcciapenfaaDoorQ47
import Derived.Test.YtcmhfcciapenfaaDoorQ40
namespace Go.Proofs.YtcmhfcciapenfaaDoor.Pu
open Go.RowKit Go.Proofs.YtcmhfcciapenfaaDoorW.PrintWords Go.Proofs.YtcmhfcciapenfaaDoor.Pa
def i64 (n:Int):Prop:=(Lit.int .i64 n).wf=true
structure TarWf (t:Tar):Prop where
 w0:t.f0.size≤maxLen
 w1:i64 t.f1
 w2:i64 t.f2
 w3:i64 t.f3
 w4:i64 t.f4
 w5:i64 t.f5
 w6:i64 t.f6
 w7:i64 t.f7
 w8:i64 t.f8
 w9:i64 t.f9
 w10:i64 t.f10
 w11:i64 t.f11
 w12:i64 t.f12
 w13:i64 t.f13
 w14:i64 t.f14
 w15 : ∀ x∈t.f15,x.f0.size≤maxLen∧i64 x.f1∧i64 x.f2
 w16 : ∀ x∈t.f16,i64 x.f0∧i64 x.f1∧i64 x.f2∧i64 x.f3
 w17 : ∀ x∈t.f17,x.f0.size≤maxLen∧i64 x.f1∧i64 x.f2∧i64 x.f3∧x.f4.size≤maxLen
 w18 : ∀ x∈t.f18,x.f0.size≤maxLen∧∀ y∈x.f1,i64 y.f0∧i64 y.f1
 w19:i64 t.f19
 w20:i64 t.f20
 w21:i64 t.f21
 w22:i64 t.f22
 w23:i64 t.f23
 w24:i64 t.f24
 w25:i64 t.f25
 w26:i64 t.f26
 w27:i64 t.f27
def ruleB:Nat:=(1+(1+(1+1)))+1
def zoneB:Nat:=(1+(1+(ruleB+ruleB)))+1
def seaB (s:S41):Nat:=((s.f0.size+1)+(1+1))+1
def holB (_:S43):Nat:=(1+(1+(1+1)))+1
def winB (s:S45):Nat:=((s.f0.size+1)+(1+(1+(1+(s.f4.size+1)))))+1
def stepB (_:S70):Nat:=(1+1)+1
def blkB (s:S48):Nat:=((s.f0.size+1)+((s.f1.map stepB).sum+1))+1
def tarB (t:Tar):Nat:=((t.f0.size+1)+(zoneB+(1+(1+(1+(1+(((t.f15.map seaB).sum+1)+(((t.f16.map holB).sum+1)+(((t.f17.map winB).sum+1)+(((t.f18.map blkB).sum+1)+(((1+(1+(1+1)))+1)+(1+(1+(1+(1+1)))))))))))))))+1
theorem sum_mem {α:Type} (b:α → Nat) (l:List α) (x:α) (h:x∈l):b x≤(l.map b).sum:=by
 induction l with
 |nil=>cases h
 |cons y r ih=>
  rw[List.map_cons,List.sum_cons]
  cases h with
  |head=>omega
  |tail _ h=>have:=ih h;omega
theorem sum_len {α:Type} (b:α → Nat) (n:Nat) (hb : ∀ x,n≤b x) (l:List α):l.length * n≤(l.map b).sum:=by
 induction l with
 |nil=>simp
 |cons y r ih=>
  rw[List.map_cons,List.sum_cons,List.length_cons]
  have:=hb y
  have e:(r.length+1) * n=r.length * n+n:=by rw[Nat.add_mul,Nat.one_mul]
  omega
structure TarSmall (t:Tar):Prop where
 s0:t.f0.size≤1048576
 s15:t.f15.length * 4≤1048576∧∀ x∈t.f15,x.f0.size≤1048576
 s16:t.f16.length * 4≤1048576
 s17:t.f17.length * 4≤1048576∧∀ x∈t.f17,x.f0.size≤1048576∧x.f4.size≤1048576
 s18:t.f18.length * 2≤1048576∧∀ x∈t.f18,x.f0.size≤1048576∧x.f1.length * 3≤1048576
theorem small_of {t:Tar} (h:tarB t≤1048576):TarSmall t:=by
 unfold tarB at h
 have a1:=sum_len seaB 4 (fun x=>by unfold seaB;omega) t.f15
 have a2:=sum_len holB 4 (fun x=>by unfold holB;omega) t.f16
 have a3:=sum_len winB 4 (fun x=>by unfold winB;omega) t.f17
 have a4:=sum_len blkB 2 (fun x=>by unfold blkB;omega) t.f18
 refine⟨by omega,⟨by omega,fun x hx=>?_⟩,by omega,⟨by omega,fun x hx=>?_⟩,⟨by omega,fun x hx=>?_⟩⟩
 ·have:((x.f0.size+1)+(1+1))+1≤(t.f15.map seaB).sum:=sum_mem seaB _ x hx
  omega
 ·have:((x.f0.size+1)+(1+(1+(1+(x.f4.size+1)))))+1≤(t.f17.map winB).sum:=sum_mem winB _ x hx
  omega
 ·have:((x.f0.size+1)+((x.f1.map stepB).sum+1))+1≤(t.f18.map blkB).sum:=sum_mem blkB _ x hx
  have h2:=sum_len stepB 3 (fun x=>by unfold stepB;omega) x.f1
  omega
theorem fine_of {t:Tar} (w:TarWf t) (h:TarSmall t):Fine t:=by
 have s15:=h.s15
 have s16:=h.s16
 have s17:=h.s17
 have s18:=h.s18
 have s0:=h.s0
 refine⟨by omega,⟨by omega,fun s hs=>?_⟩,by omega,⟨by omega,fun b hb=>?_,fun b hb=>?_⟩,?_⟩
 ·have h1:=w.w15 s hs
  have h2:=s15.2 s hs
  exact⟨i64_lo h1.2.1,i64_lo h1.2.2,by omega⟩
 ·have:=s18.2 b hb
  omega
 ·have:=s18.2 b hb
  omega
 ·unfold sound_windows.small sound_windows.fitsX sound_windows.fits
  simp only[Bool.and_eq_true,List.all_eq_true,decide_eq_true_eq]
  refine⟨⟨⟨⟨⟨by omega,by omega⟩,by omega⟩,fun s hs=>?_⟩,fun b hb=>?_⟩,fun x hx=>?_⟩
  ·have:=s15.2 s hs
   omega
  ·have:=s18.2 b hb
   omega
  ·have:=s17.2 x hx
   have h1:=i64_lo (w.w17 x hx).2.1
   refine⟨⟨⟨by omega,by omega⟩,h1.1⟩,?_⟩
   omega
theorem copySmall_of {t:Tar} (h:TarSmall t):dF t=true:=by
 have s15:=h.s15
 have s16:=h.s16
 have s17:=h.s17
 have s18:=h.s18
 unfold dF
 simp only[Bool.and_eq_true,List.all_eq_true,decide_eq_true_eq]
 refine⟨⟨⟨⟨by omega,by omega⟩,by omega⟩,by omega⟩,fun b hb=>?_⟩
 have:=s18.2 b hb
 omega
end Go.Proofs.YtcmhfcciapenfaaDoor.Pu
