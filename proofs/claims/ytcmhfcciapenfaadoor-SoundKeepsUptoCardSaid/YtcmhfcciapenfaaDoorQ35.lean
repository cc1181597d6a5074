/- A part of the proof. -/
import Derived.Test.YtcmhfcciapenfaaDoorQ34
set_option linter.all false
namespace Go.Proofs.YtcmhfcciapenfaaDoor.Pa
open Go Go.RowKit Go.Proofs.YtcmhfcciapenfaaDoorW.PrintWords Am
def RowIn {α:Type} (H:Heap) (sz:Nat) (E:α → List AV → Prop) (l:List α) (s:AV):Prop:=(s = .nilsl∧l = [])∨∃ b v B,s = .sl b 0 l.length v∧H[b]? = some B∧B.ver=v∧l.length≤B.len∧B.sz=sz∧∀ i x,l[i]? = some x → E x (B.get i)
def seaE (x:S41) (c:List AV):Prop:=c=seaV x
def holE (x:S43) (c:List AV):Prop:=c=holV x
def winE (x:S45) (c:List AV):Prop:=c=winV x
def stpE (x:S70) (c:List AV):Prop:=c=stpV x
def blkE (H:Heap) (x:S48) (c:List AV):Prop:=∃ s,c = [.str x.f0,s]∧RowIn H 2 stpE x.f1 s
structure RepT (t:Tar) (H:Heap) (s15 s16 s17 s18:AV):Prop where
 r15:RowIn H 3 seaE t.f15 s15
 r16:RowIn H 4 holE t.f16 s16
 r17:RowIn H 5 winE t.f17 s17
 r18:RowIn H 2 (blkE H) t.f18 s18
def repV (t:Tar) (s15 s16 s17 s18:AV):List AV:=[.str t.f0,.int .i64 t.f1,.int .i64 t.f2,.int .i64 t.f3,.int .i64 t.f4,.int .i64 t.f5,.int .i64 t.f6,.int .i64 t.f7,.int .i64 t.f8,.int .i64 t.f9,.int .i64 t.f10,.int .i64 t.f11,.int .i64 t.f12,.int .i64 t.f13,.int .i64 t.f14,s15,s16,s17,s18,.int .i64 t.f19,.int .i64 t.f20,.int .i64 t.f21,.int .i64 t.f22,.int .i64 t.f23,.int .i64 t.f24,.int .i64 t.f25,.int .i64 t.f26,.int .i64 t.f27]
theorem dz {α:Type} {R:α → List Value → Prop} {E:α → List AV → Prop} {φ:Emb} {H:Heap} {base:Nat} {W:World} {sz:Nat} {s:AV} {u:Value} {xs:List α} (hS:Sim φ H base W) (h:RowIn H sz E xs s) (hx:VRel φ H s u) (hn:xs.length≤9223372036854775807)
  (hR : ∀ x a c,x∈xs → E x a → VRels φ H a c → R x c) : ∃ A c,u = .slice A xs.length c∧xs.length≤c∧bA R sz W A xs.length xs:=by
 rcases h with ⟨rfl,rfl⟩|⟨b,v,B,rfl,hB,hv,hl,rfl,hE⟩
 ·obtain rfl:=(show u = .slice none 0 0 from hx)
  exact⟨none,0,rfl,Nat.le_refl _,rfl,by simp,fun h=>absurd h (by simp)⟩
 ·exact reads_of hS hx hB hv hl rfl hn (fun i x c hi hr=>hR x _ c (List.mem_of_getElem? hi) (hE i x hi) hr)
theorem repT_K {φ:Emb} {H:Heap} {base:Nat} {W:World} {t:Tar} {s15 s16 s17 s18:AV} {u:Value} (hS:Sim φ H base W) (hr:RepT t H s15 s16 s17 s18) (hx:VRel φ H (.agg (repV t s15 s16 s17 s18)) u) (hl:TarLen t) : ∃ cs:List Value,u = .agg cs.toArray∧kTar.K W t cs:=by
 obtain⟨vs,rfl,h⟩:=hx
 refine⟨vs.toList,by simp,?_⟩
 unfold repV at h
 generalize vs.toList=us at h ⊢
 iterate 15 (obtain⟨_,_,rfl,rfl,h_⟩:=cons_inv h;clear h;have h:=h_;clear h_)
 obtain⟨_,_,rfl,q15,h_⟩:=cons_inv h;clear h;have h:=h_;clear h_
 obtain⟨_,_,rfl,q16,h_⟩:=cons_inv h;clear h;have h:=h_;clear h_
 obtain⟨_,_,rfl,q17,h_⟩:=cons_inv h;clear h;have h:=h_;clear h_
 obtain⟨_,_,rfl,q18,h_⟩:=cons_inv h;clear h;have h:=h_;clear h_
 iterate 9 (obtain⟨_,_,rfl,rfl,h_⟩:=cons_inv h;clear h;have h:=h_;clear h_)
 obtain rfl:=(show _ = [] from h)
 obtain⟨A15,c15,rfl,l15,g15⟩:=dz (R:=k41.K W) hS hr.r15 q15 hl.l15 (fun x a c _ ha hr=>by
  unfold seaE at ha;subst ha
  obtain⟨_,_,rfl,rfl,hr_⟩:=cons_inv hr;clear hr;have hr:=hr_;clear hr_
  obtain⟨_,_,rfl,rfl,hr_⟩:=cons_inv hr;clear hr;have hr:=hr_;clear hr_
  obtain⟨_,_,rfl,rfl,hr_⟩:=cons_inv hr;clear hr;have hr:=hr_;clear hr_
  obtain rfl:=(show _ = [] from hr)
  exact k41_mk W x)
 obtain⟨A16,c16,rfl,l16,g16⟩:=dz (R:=k43.K W) hS hr.r16 q16 hl.l16 (fun x a c _ ha hr=>by
  unfold holE at ha;subst ha
  obtain⟨_,_,rfl,rfl,hr_⟩:=cons_inv hr;clear hr;have hr:=hr_;clear hr_
  obtain⟨_,_,rfl,rfl,hr_⟩:=cons_inv hr;clear hr;have hr:=hr_;clear hr_
  obtain⟨_,_,rfl,rfl,hr_⟩:=cons_inv hr;clear hr;have hr:=hr_;clear hr_
  obtain⟨_,_,rfl,rfl,hr_⟩:=cons_inv hr;clear hr;have hr:=hr_;clear hr_
  obtain rfl:=(show _ = [] from hr)
  exact k43_mk W x)
 obtain⟨A17,c17,rfl,l17,g17⟩:=dz (R:=k45.K W) hS hr.r17 q17 hl.l17 (fun x a c _ ha hr=>by
  unfold winE at ha;subst ha
  obtain⟨_,_,rfl,rfl,hr_⟩:=cons_inv hr;clear hr;have hr:=hr_;clear hr_
  obtain⟨_,_,rfl,rfl,hr_⟩:=cons_inv hr;clear hr;have hr:=hr_;clear hr_
  obtain⟨_,_,rfl,rfl,hr_⟩:=cons_inv hr;clear hr;have hr:=hr_;clear hr_
  obtain⟨_,_,rfl,rfl,hr_⟩:=cons_inv hr;clear hr;have hr:=hr_;clear hr_
  obtain⟨_,_,rfl,rfl,hr_⟩:=cons_inv hr;clear hr;have hr:=hr_;clear hr_
  obtain rfl:=(show _ = [] from hr)
  exact k45_mk W x)
 obtain⟨A18,c18,rfl,l18,g18⟩:=dz (R:=k48.K W) hS hr.r18 q18 hl.l18 (fun x a c hm ha hr=>by
  obtain⟨s,rfl,hs⟩:=ha
  obtain⟨_,_,rfl,rfl,hr_⟩:=cons_inv hr;clear hr;have hr:=hr_;clear hr_
  obtain⟨_,_,rfl,q,hr_⟩:=cons_inv hr;clear hr;have hr:=hr_;clear hr_
  obtain rfl:=(show _ = [] from hr)
  obtain⟨A1,c1,rfl,e1,e2⟩:=dz (R:=k70.K W) hS hs q (hl.ls x hm) (fun y a d _ ha hr=>by
   unfold stpE at ha;subst ha
   obtain⟨_,_,rfl,rfl,hr_⟩:=cons_inv hr;clear hr;have hr:=hr_;clear hr_
   obtain⟨_,_,rfl,rfl,hr_⟩:=cons_inv hr;clear hr;have hr:=hr_;clear hr_
   obtain rfl:=(show _ = [] from hr)
   exact k70_mk W y)
  exact k48_mk W x e1 e2)
 exact kTar_mk t l15 g15 l16 g16 l17 g17 l18 g18
theorem dJ {t:Tar} {H:Heap} {s15 s16 s17 s18:AV} {n e:Int} (hr:RepT t H s15 s16 s17 s18) (hl:TarLen t) (hk : ∃ k,sCheck.f k t=some (n,e)):ACalls Tryd.prog 12 [.agg (repV t s15 s16 s17 s18)] H fun v H'=>v = .tup [.int .i64 n,.int .i64 e]∧H' = H:=by
 intro φ base W vs hS hv
 obtain⟨u,us,rfl,hu,hus⟩:=cons_inv hv
 obtain rfl:=(show us = [] from hus)
 obtain⟨cs,rfl,hK⟩:=repT_K hS hr hu hl
 obtain⟨k,hk⟩:=hk
 refine(sCheck.calls k t cs n e W hK hk).mono ?_
 rintro e1 W' ⟨rfl,hb⟩
 obtain⟨h1,h2⟩:=Sim.below_heap hS hb
 exact⟨φ,.tup [.int .i64 n,.int .i64 e],_,H,rfl,⟨rfl,rfl⟩,Ext.refl _ _,h1,concD_rel (a:=.tup [.int .i64 n,.int .i64 e]) rfl,h2⟩
end Go.Proofs.YtcmhfcciapenfaaDoor.Pa
