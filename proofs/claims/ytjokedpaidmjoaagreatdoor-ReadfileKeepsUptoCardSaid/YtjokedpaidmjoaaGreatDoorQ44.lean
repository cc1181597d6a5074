/- A part of the proof. -/
import Derived.Test.YtjokedpaidmjoaaGreatDoorQ42
import Derived.Test.YtjokedpaidmjoaaGreatDoorQ43
set_option linter.all false
namespace Go.Proofs.YtjokedpaidmjoaaGreatDoor.Rf
open Go Go.RowKit Go.Proofs.YtjokedpaidmjoaaGreatDoor.Am Go.Proofs.YtjokedpaidmjoaaGreatDoor.Pu Go.Proofs.YtjokedpaidmjoaaGreatDoor Go.Proofs.YtjokedpaidmjoaaGreatDoorW.PrintWords Go.Proofs.YtjokedpaidmjoaaGreatDoor.Pa
def plcOf (A:Option Addr):Plc:=match A with
 |some ad=>⟨ad.block,ad.off,0,false⟩
 |none=>⟨0,0,0,false⟩
def rdOf (s:S41):Rd:=⟨s.f0,s.f1,s.f2,s.f3,s.f4⟩
def fiOf (t:Tar):Fi:=⟨t.f0,t.f1,t.f2,t.f3,t.f4,t.f5,t.f6.map rdOf⟩
def rdRow (l:List Rd):Blk:={ t:=41,sz:=5,own:=false,ver:=0,len:=l.length,get:=fun i=>rdV (l.getD i ⟨0,0,0,0,0⟩) }
theorem rdRow_g (l:List Rd):RdsG [rdRow l] (.sl 0 0 l.length 0) l:=by
 refine .inr ⟨0,0,0,rdRow l,rfl,rfl,rfl,by show 0+l.length≤l.length;omega,rfl,rfl,fun i x hx=>?_⟩
 show rdV (l.getD (0+i) _)=_
 rw[Nat.zero_add,List.getD_eq_getElem?_getD,hx]
 rfl
theorem bJ {φ:Emb} {H:Heap} {a:AV} {u:Value} {l:List AV} {us:List Value} (h:VRel φ H a u) (k:VRels φ H l us):VRels φ H (a :: l) (u :: us):=⟨u,us,rfl,h,k⟩
theorem spot_none {w:World} {ad:Addr} {k:Nat} {u:Value} (h:w.cell? (ad.add k)=some u) (h0:k=0):ad.spot=none:=by
 subst h0
 unfold Addr.add at h
 rw[if_pos rfl] at h
 unfold World.cell? at h
 split at h
 ·split at h
  ·cases h
  ·rename_i q;simpa using q
 ·cases h
theorem cell_add {w:World} {ad:Addr} {k:Nat} {u:Value} (h:w.cell? (ad.add k)=some u):w.cell? ⟨ad.block,ad.off+k,none⟩=some u:=by
 by_cases h0:k=0
 ·have hs:=spot_none h h0
  subst h0
  unfold Addr.add at h
  rw[if_pos rfl] at h
  obtain⟨b,f,s⟩:=ad
  simp only at hs
  subst hs
  exact h
 ·unfold Addr.add at h
  rw[if_neg h0] at h
  exact h
theorem file_sim {w:World} {t:Tar} {cs:List Value} (hT:kTar.K w t cs) (hg:GIv w.heap.size w) : ∃ φ,Sim φ [rdRow (fiOf t).reads] w.heap.size w∧VRel φ [rdRow (fiOf t).reads] (.agg (fiV (fiOf t) (.sl 0 0 (fiOf t).reads.length 0))) (.agg cs.toArray):=by
 obtain⟨A,c,rfl,hc,hl,_,hr⟩:=kTar_open hT
 have hlen:(fiOf t).reads.length=t.f6.length:=by simp[fiOf]
 have hel : ∀ (i:Nat) x,t.f6[i]? = some x → (fiOf t).reads[i]? = some (rdOf x):=fun i x hx=>by simp[fiOf,hx]
 have hblk : ∀ (b:Nat) B,[rdRow (fiOf t).reads][b]? = some B → b=0∧B=rdRow (fiOf t).reads:=by
  intro b B hB
  match b,hB with
  |0,hB=>exact⟨rfl,(Option.some.inj hB).symm⟩
 refine⟨fun _=>plcOf A,⟨?_,fun b B hB ho=>?_,fun b b' B B' hB _ ho=>?_,?_,Nat.le_refl _,hg⟩,_,rfl,?_⟩
 ·intro b B hB ho i j u hi hu
  obtain⟨rfl,rfl⟩:=hblk b B hB
  have hi:i < (fiOf t).reads.length:=hi
  obtain⟨ad,rfl,hcl⟩:=hr (by omega)
  obtain⟨cc,c1,c2,c3⟩:=hcl i _ (List.getElem?_eq_getElem (by omega))
  have e1:=k41_open c2
  have e2:=hel i _ (List.getElem?_eq_getElem (by omega))
  have hg2:(rdRow (fiOf t).reads).get i=rdV (rdOf t.f6[i]):=by
   show rdV ((fiOf t).reads.getD i _)=_
   rw[List.getD_eq_getElem?_getD,e2]
   rfl
  rw[hg2] at hu
  have h5 : ∀ j u,cc[j]? = some u → w.cell? ⟨ad.block,ad.off+(i * 5+j),none⟩=some u:=fun j u hu=>cell_add (c3 j u hu)
  have hv:VRels (fun _=>plcOf (some ad)) [rdRow (fiOf t).reads] (rdV (rdOf t.f6[i])) cc:=by
   rw[e1]
   exact bJ rfl (bJ rfl (bJ rfl (bJ rfl (bJ rfl rfl))))
  obtain⟨x,x1,x2⟩:=VRels.get hv j u hu
  refine⟨x,h5 j x x1,x2,?_,World.block_lt_of_cell? w ⟨ad.block,ad.off+(i * 5+j),none⟩ (h5 j x x1)⟩
  rw[e1] at x1
  have:=List.mem_of_getElem? x1
  simp at this
  rcases this with rfl|rfl|rfl|rfl|rfl <;> rfl
 ·obtain⟨_,rfl⟩:=hblk b B hB
  cases ho
 ·obtain⟨_,rfl⟩:=hblk b B hB
  cases ho
 ·intro b B hB i hi
  obtain⟨_,rfl⟩:=hblk b B hB
  rfl
 ·have hsl:VRel (fun _=>plcOf A) [rdRow (fiOf t).reads] (.sl 0 0 (fiOf t).reads.length 0) (.slice A t.f6.length c):=by
   rw[← hlen]
   refine sl_mk (B:=rdRow (fiOf t).reads) rfl rfl (by show 0+_≤(fiOf t).reads.length;omega) (.inr ⟨fun q=>(by cases q),by omega,fun q=>?_,fun q=>(by cases q)⟩)
   have hn:t.f6.length≠0:=by
    rcases q with q|q
    ·omega
    ·cases q.1
   obtain⟨ad,rfl,hcl⟩:=hr (by omega)
   obtain⟨cc,c1,c2,c3⟩:=hcl 0 _ (List.getElem?_eq_getElem (by omega))
   have e1:=k41_open c2
   have h0:=c3 0 (.int .i64 t.f6[0].f0) (by rw[e1];rfl)
   have hs:=spot_none h0 (by omega)
   obtain⟨b,f,s⟩:=ad
   simp only at hs
   subst hs
   show some _=some (⟨b,f+0 * _,none⟩ : Addr)
   rw[Nat.zero_mul,Nat.add_zero]
  exact bJ rfl (bJ rfl (bJ rfl (bJ rfl (bJ rfl (bJ rfl (bJ hsl rfl))))))
def i64w (n:Int):Prop:=(Lit.int .i64 n).wf=true
structure TarWf (t:Tar):Prop where
 w0:t.f0.size≤maxLen
 w1:i64w t.f1
 w2:i64w t.f2
 w3:i64w t.f3
 w4:i64w t.f4
 w5:i64w t.f5
 w6 : ∀ x∈t.f6,i64w x.f0∧i64w x.f1∧i64w x.f2∧i64w x.f3∧(Lit.int .u8 x.f4).wf=true
def rdBk (_:S41):Nat:=(1+(1+(1+(1+1))))+1
def tarB (t:Tar):Nat:=((t.f0.size+1)+(1+(1+(1+(1+(1+((t.f6.map rdBk).sum+1)))))))+1
theorem dP {n:Int} (h:i64w n):in64 n:=by
 unfold i64w Lit.wf at h
 have e1:IntKind.i64.min = -9223372036854775808:=by decide
 have e2:IntKind.i64.max=9223372036854775807:=by decide
 simp only[Bool.and_eq_true,decide_eq_true_eq] at h
 unfold in64
 omega
theorem u8w_in {n:Int} (h:(Lit.int .u8 n).wf=true):0≤n∧n≤255:=by
 unfold Lit.wf at h
 have e1:IntKind.u8.min=0:=by decide
 have e2:IntKind.u8.max=255:=by decide
 simp only[Bool.and_eq_true,decide_eq_true_eq] at h
 omega
structure FiFit (f:Fi):Prop where
 rd : ∀ r∈f.reads,RdW r∧0≤r.flag∧r.flag≤255
 len:f.reads.length≤1048577
 met:f.meter.size≤1048576
 num:in64 f.start∧in64 f.step∧in64 f.slots∧in64 f.mult∧in64 f.turn
theorem FiFit.rw {f:Fi} (h:FiFit f) : ∀ r∈f.reads,RdW r:=fun r hr=>(h.rd r hr).1
theorem sum_len7 (b:S41 → Nat) (hb : ∀ x,1≤b x) (l:List S41):l.length≤(l.map b).sum:=by
 induction l with
 |nil=>simp
 |cons y r ih=>
  rw[List.map_cons,List.sum_cons,List.length_cons]
  have:=hb y
  omega
theorem fit_of {t:Tar} (w:TarWf t) (h:tarB t≤1048576):FiFit (fiOf t):=by
 unfold tarB at h
 have h1:=sum_len7 rdBk (fun x=>by unfold rdBk;omega) t.f6
 refine⟨fun r hr=>?_,by simp[fiOf];omega,by show t.f0.size≤_;omega,dP w.w1,dP w.w2,dP w.w3,dP w.w4,dP w.w5⟩
 obtain⟨x,hx,rfl⟩:=List.mem_map.1 hr
 obtain⟨a,b,c,d,e⟩:=w.w6 x hx
 exact⟨⟨dP a,dP b,dP c,dP d⟩,u8w_in e⟩
end Go.Proofs.YtjokedpaidmjoaaGreatDoor.Rf
