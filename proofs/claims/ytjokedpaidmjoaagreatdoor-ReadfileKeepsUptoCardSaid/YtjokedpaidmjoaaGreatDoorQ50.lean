/- A part of the proof. -/
import Derived.Test.YtjokedpaidmjoaaGreatDoorRows
import Derived.Test.YtjokedpaidmjoaaGreatDoorQ00
import Derived.ChangeArms
import Derived.ChangeSlices
import Derived.DataReads
set_option linter.all false
namespace Go.Proofs.YtjokedpaidmjoaaGreatDoor
open Go.RowKit Go.Proofs.YtjokedpaidmjoaaGreatDoorW.PrintWords
theorem mem_range_list {α:Type} {n:Nat} {Q:Nat → α → Prop} (h : ∀ i,i < n → ∃ x,Q i x) : ∃ xs:List α,xs.length=n∧∀ (i:Nat) (x:α),xs[i]? = some x → Q i x:=by
 induction n with
 |zero=>exact⟨[],rfl,fun i x hx=>by simp at hx⟩
 |succ n ih=>
  obtain⟨xs,hl,hq⟩:=ih (fun i hi=>h i (by omega))
  obtain⟨y,hy⟩:=h n (by omega)
  refine⟨xs ++ [y],by simp[hl],fun i x hx=>?_⟩
  by_cases hi:i < xs.length
  ·rw[List.getElem?_append_left hi] at hx
   exact hq i x hx
  ·rw[List.getElem?_append_right (by omega)] at hx
   have hj:i - xs.length < 1:=by
    have:=(List.getElem?_eq_some_iff.1 hx).1
    simpa using this
   have hi2:i=n:=by omega
   subst hi2
   rw[hl,Nat.sub_self] at hx
   simp at hx
   rw[← hx]
   exact hy
theorem sum_le_bulk {H α:Type} {b:α → Nat} {xs:List α} {es:List (DataW H)} (hl:xs.length=es.length) (h : ∀ (i:Nat) x e,xs[i]? = some x → es[i]? = some e → b x≤Rows.uptoBulk e):(xs.map b).sum≤Rows.uptoBulkAll es:=by
 induction xs generalizing es with
 |nil=>simp
 |cons x r ih=>
  cases es with
  |nil=>simp at hl
  |cons e es=>
   simp only[List.map_cons,List.sum_cons,Rows.uptoBulkAll]
   have h0:=h 0 x e rfl rfl
   have h1:=ih (es:=es) (by simpa using hl) (fun i x e hx he=>h (i+1) x e (by simpa using hx) (by simpa using he))
   omega
structure Opens (P:Program) (t:TypeId) {α:Type} (d:Kd α) (wf:α → Prop) (b:α → Nat):Prop where
 len:d.sz=P.cellsOf t
 op : ∀ {H:Type} {enc:TypeId × Value → H} {W:World} {base fuel:Nat} {sp:Nat → Bool} {held:Bool} {cs:List Value} {x:DataW H × List MemPlace},DataW.trod enc P W base sp held fuel t cs=some x → ∃ a,d.K W a cs∧wf a∧b a≤Rows.uptoBulk x.1
structure OpensF (P:Program) (off:Nat) (fs:List Field) {α:Type} (d:Kd α) (wf:α → Prop) (b:α → Nat):Prop where
 op : ∀ {H:Type} {enc:TypeId × Value → H} {W:World} {base fuel:Nat} {sp:Nat → Bool} {held:Bool} {cs:List Value} {xs:List (DataW H × List MemPlace)},xs.length=fs.length → off+d.sz≤cs.length →
  (∀ (i:Nat) (f:Field),fs[i]? = some f → DataW.trod enc P W base sp held fuel f.type ((cs.drop f.offset).take (P.cellsOf f.type))=xs[i]?) → ∃ a,d.K W a ((cs.drop off).take d.sz)∧wf a∧b a≤Rows.uptoBulkAll (xs.map (·.1))
namespace Opens
variable {P:Program} {t:TypeId}
theorem int {k:IntKind} (ht:P.underlying t=some (.int k)) (hc:P.cellsOf t=1):Opens P t (Kd.int k) (fun n=>(Lit.int k n).wf=true) (fun _=>1):=
 ⟨hc.symm,fun h=>by
  obtain⟨n,rfl,rfl,hw⟩:=DataW.trod_int ht h
  exact⟨n,rfl,hw,Nat.le_refl _⟩⟩
theorem bool (ht:P.underlying t=some .bool) (hc:P.cellsOf t=1):Opens P t Kd.bool (fun _=>True) (fun _=>1):=
 ⟨hc.symm,fun h=>by
  obtain⟨n,rfl,rfl⟩:=DataW.trod_bool ht h
  exact⟨n,rfl,trivial,Nat.le_refl _⟩⟩
theorem string (ht:P.underlying t=some .string) (hc:P.cellsOf t=1):Opens P t Kd.string (fun a=>a.size≤maxLen) (fun a=>a.size+1):=
 ⟨hc.symm,fun h=>by
  obtain⟨n,rfl,rfl,hw⟩:=DataW.trod_string ht h
  exact⟨n,rfl,hw,by simp only[Rows.uptoBulk,Array.length_toList];exact Nat.le_refl _⟩⟩
theorem slice {α:Type} {d:Kd α} {wf:α → Prop} {b:α → Nat} {e:TypeId} (e' : Nat) (ht:P.underlying t=some (.slice e)) (hc:P.cellsOf t=1) (hd:Opens P e d wf b) :
  Opens P t (Kd.slice e' d) (fun xs=>∀ x∈xs,wf x) (fun xs=>(xs.map b).sum+1):=
 ⟨hc.symm,fun {H enc W base fuel sp held cs x} h=>by
  rcases DataW.trod_slice ht h with ⟨rfl,rfl⟩|⟨a,len,cap,elems,rest,n,rfl,rfl,rfl,hb,hl,hm,hlen,hel,hsp,hns⟩
  ·exact⟨[],⟨none,0,rfl,Nat.le_refl _,rfl,Nat.zero_le _,fun h=>absurd h (by simp)⟩,fun x hx=>by simp at hx,by simp[Rows.uptoBulk]⟩
  ·have each : ∀ i,i < len → ∃ p:α,∃ c y,elems[i]? = some y∧d.K W p c∧(∀ j u,c[j]? = some u → W.cell? ((a.add (i * P.cellsOf e)).add j)=some u)∧wf p∧b p≤Rows.uptoBulk y.1:=by
    intro i hi
    have hE:=hel i hi
    rw[List.getElem?_eq_getElem (by omega)] at hE
    rw[Option.bind_eq_some_iff] at hE
    obtain⟨c,hcs,hy⟩:=hE
    obtain⟨p,hp,hw,hbk⟩:=hd.op hy
    obtain⟨_,hcl,hcell⟩:=World.cells?_some hcs
    refine⟨p,c,_,List.getElem?_eq_getElem (by omega),hp,fun j u hu=>?_,hw,hbk⟩
    have hj:=(List.getElem?_eq_some_iff.1 hu).1
    rw[hcell j (by omega),hu]
   obtain⟨xs,hxl,hxs⟩:=mem_range_list each
   refine⟨xs,⟨some a,cap,by rw[hxl],by omega,rfl,by unfold maxLen at hm;omega,fun _=>⟨a,rfl,fun j p hj=>?_⟩⟩,fun x hx=>?_,?_⟩
   ·obtain⟨c,y,_,hk,hcell,_,_⟩:=hxs j p hj
    refine⟨c,d.K_len hk,hk,fun i u hu=>?_⟩
    have:=hcell i u hu
    rw[hd.len]
    rw[Addr.add_add] at this
    exact this
   ·obtain⟨i,hi⟩:=List.getElem?_of_mem hx
    obtain⟨c,y,_,_,_,hw,_⟩:=hxs i x hi
    exact hw
   ·simp only[Rows.uptoBulk]
    have:=sum_le_bulk (b:=b) (xs:=xs) (es:=elems.map (·.1)) (by simp[hxl,hlen]) (fun i x e hx he=>by
     obtain⟨c,y,hy,_,_,_,hbk⟩:=hxs i x hx
     rw[List.getElem?_map,hy] at he
     simp at he
     rw[← he]
     exact hbk)
    omega⟩
theorem iso {α β:Type} {d:Kd α} {wf:α → Prop} {b:α → Nat} (f:β → α) (g:α → β) (hfg : ∀ a,f (g a)=a) (hd:Opens P t d wf b):Opens P t (Kd.iso d f) (fun x=>wf (f x)) (fun x=>b (f x)):=
 ⟨hd.len,fun h=>by
  obtain⟨a,hk,hw,hb⟩:=hd.op h
  exact⟨g a,by show d.K _ (f (g a)) _;rw[hfg];exact hk,by rw[hfg];exact hw,by rw[hfg];exact hb⟩⟩
theorem last {α:Type} {d:Kd α} {wf:α → Prop} {b:α → Nat} {off:Nat} {f:Field} (ho:f.offset=off) (hd:Opens P f.type d wf b):OpensF P off [f] d wf b:=
 ⟨fun {H enc W base fuel sp held cs xs} hl _ h=>by
  match xs,hl with
  |[x],_=>
   have h0:=h 0 f rfl
   rw[ho,← hd.len] at h0
   obtain⟨a,hk,hw,hb⟩:=hd.op h0
   exact⟨a,hk,hw,by simpa [Rows.uptoBulkAll] using hb⟩⟩
theorem cons {α β:Type} {d:Kd α} {wf:α → Prop} {b:α → Nat} {d2:Kd β} {wf2:β → Prop} {b2:β → Nat} {off:Nat} {f:Field} {fs:List Field} (ho:f.offset=off) (hd:Opens P f.type d wf b)
  (h2:OpensF P (off+P.cellsOf f.type) fs d2 wf2 b2):OpensF P off (f :: fs) (Kd.pair d d2) (fun p=>wf p.1∧wf2 p.2) (fun p=>b p.1+b2 p.2):=
 ⟨fun {H enc W base fuel sp held cs xs} hl hlen h=>by
  match xs,hl with
  |x :: xs,hl=>
   have h0:=h 0 f rfl
   rw[ho,← hd.len] at h0
   obtain⟨a,hk,hw,hb⟩:=hd.op h0
   have hsz:(Kd.pair d d2).sz=d.sz+d2.sz:=rfl
   obtain⟨a2,hk2,hw2,hb2⟩:=h2.op (cs:=cs) (xs:=xs) (by simpa using hl) (by rw[hsz] at hlen;rw[← hd.len];omega) (fun i f' hf=>by
    have:=h (i+1) f' (by simpa using hf)
    simpa using this)
   refine⟨(a,a2),⟨_,_,?_,hk,hk2⟩,⟨hw,hw2⟩,?_⟩
   ·rw[hsz,List.take_add,← hd.len,List.drop_drop]
   ·simp only[List.map_cons,Rows.uptoBulkAll]
    show b a+b2 a2≤_
    omega⟩
theorem struct {α:Type} {d:Kd α} {wf:α → Prop} {b:α → Nat} {fs:Array Field} (ht:P.underlying t=some (.struct fs)) (hs:d.sz=P.cellsOf t) (h:OpensF P 0 fs.toList d wf b):Opens P t d wf (fun x=>b x+1):=
 ⟨hs,fun {H enc W base fuel sp held cs x} h1=>by
  obtain⟨xs,n,rfl,rfl,hl,hxl,hf⟩:=DataW.trod_struct ht h1
  obtain⟨a,hk,hw,hb⟩:=h.op (cs:=cs) (xs:=xs) (by simpa using hxl) (by omega) (fun i f hi=>hf i f (by simpa using hi))
  rw[List.drop_zero,hs,← hl,List.take_length] at hk
  exact⟨a,hk,hw,by simp only[Rows.uptoBulk];omega⟩⟩
end Opens
end Go.Proofs.YtjokedpaidmjoaaGreatDoor
