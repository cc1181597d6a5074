/- A part of the proof. -/
import Derived.Test.YtcmhfcciapenfaaDoorAm
import Derived.Test.YtcmhfcciapenfaaDoorQ06
set_option linter.all false
namespace Go.Proofs.YtcmhfcciapenfaaDoor.Pa
open Go Go.RowKit Go.Proofs.YtcmhfcciapenfaaDoorW.PrintWords Am
def plcOf (A:Option Addr):Plc:=match A with
 |some ad=>⟨ad.block,ad.off,0,false⟩
 |none=>⟨0,0,0,false⟩
theorem dx {α:Type} {R:α → List Value → Prop} {sz n:Nat} {w:World} {A:Option Addr} {xs:List α} {φ:Emb} {H:Heap} (h:bF R sz w A n xs) (hone : ∀ x c,R x c → ∀ u∈c,u.oneCell' = true) (enc:Nat → List AV)
  (henc : ∀ i x c,xs[i]? = some x → R x c → (∀ j u,c[j]? = some u → w.cell? ⟨(plcOf A).blk,(plcOf A).off+(i * sz+j),none⟩=some u) → VRels φ H (enc i) c) :
  ∀ i j u,i < n → (enc i)[j]? = some u → ∃ x,w.cell? ⟨(plcOf A).blk,(plcOf A).off+(i * sz+j),none⟩=some x∧VRel φ H u x∧x.oneCell' = true∧(plcOf A).blk < w.heap.size:=by
 intro i j u hi hu
 obtain⟨hl,_,hr⟩:=h
 obtain⟨ad,rfl,hc⟩:=hr (by omega)
 obtain⟨c,c1,c2,c3⟩:=hc i _ (List.getElem?_eq_getElem (by omega))
 have hcell : ∀ j u,c[j]? = some u → w.cell? ⟨ad.block,ad.off+(i * sz+j),none⟩=some u:=by
  intro j u hu
  have h1:=c3 j u hu
  unfold Addr.add at h1
  split at h1
  ·rename_i h0
   rw[h0,Nat.add_zero]
   have hs:ad.spot=none:=by
    unfold World.cell? at h1
    split at h1
    ·split at h1
     ·cases h1
     ·rename_i q;simpa using q
    ·cases h1
   obtain⟨b,f,s⟩:=ad
   simp only at hs
   subst hs
   exact h1
  ·exact h1
 have hv:=henc i _ c (List.getElem?_eq_getElem (by omega)) c2 hcell
 obtain⟨x,x1,x2⟩:=VRels.get hv j u hu
 exact⟨x,hcell j x x1,x2,hone _ _ c2 x (List.mem_of_getElem? x1),World.block_lt_of_cell? w ⟨ad.block,ad.off+(i * sz+j),none⟩ (hcell j x x1)⟩
def seaV (s:S41):List AV:=[.str s.f0,.int .i64 s.f1,.int .i64 s.f2]
def holV (s:S43):List AV:=[.int .i64 s.f0,.int .i64 s.f1,.int .i64 s.f2,.int .i64 s.f3]
def winV (s:S45):List AV:=[.str s.f0,.int .i64 s.f1,.int .i64 s.f2,.int .i64 s.f3,.str s.f4]
def stpV (s:S70):List AV:=[.int .i64 s.f0,.int .i64 s.f1]
def blkV (i:Nat) (s:S48):List AV:=[.str s.f0,.sl (i+4) 0 s.f1.length 0]
def seaBlk (l:List S41):Blk:={ t:=41,sz:=3,own:=false,ver:=0,len:=l.length,get:=fun i=>seaV (l.getD i z41) }
def holBlk (l:List S43):Blk:={ t:=43,sz:=4,own:=false,ver:=0,len:=l.length,get:=fun i=>holV (l.getD i z43) }
def winBlk (l:List S45):Blk:={ t:=45,sz:=5,own:=false,ver:=0,len:=l.length,get:=fun i=>winV (l.getD i z45) }
def stpBlk (l:List S70):Blk:={ t:=70,sz:=2,own:=false,ver:=0,len:=l.length,get:=fun i=>stpV (l.getD i z70) }
def blkBlk (l:List S48):Blk:={ t:=48,sz:=2,own:=false,ver:=0,len:=l.length,get:=fun i=>blkV i (l.getD i z48) }
def tarH (t:Tar):Heap:=seaBlk t.f15 :: holBlk t.f16 :: winBlk t.f17 :: blkBlk t.f18 :: t.f18.map fun b=>stpBlk b.f1
def tarV (t:Tar):List AV:=[.str t.f0,.int .i64 t.f1,.int .i64 t.f2,.int .i64 t.f3,.int .i64 t.f4,.int .i64 t.f5,.int .i64 t.f6,.int .i64 t.f7,.int .i64 t.f8,.int .i64 t.f9,.int .i64 t.f10,.int .i64 t.f11,.int .i64 t.f12,.int .i64 t.f13,.int .i64 t.f14,.sl 0 0 t.f15.length 0,.sl 1 0 t.f16.length 0,.sl 2 0 t.f17.length 0,.sl 3 0 t.f18.length 0,.int .i64 t.f19,.int .i64 t.f20,.int .i64 t.f21,.int .i64 t.f22,.int .i64 t.f23,.int .i64 t.f24,.int .i64 t.f25,.int .i64 t.f26,.int .i64 t.f27]
theorem bO {φ:Emb} {H:Heap} {a:AV} {u:Value} {l:List AV} {us:List Value} (h:VRel φ H a u) (k:VRels φ H l us):VRels φ H (a :: l) (u :: us):=⟨u,us,rfl,h,k⟩
theorem sl_ro {φ:Emb} {H:Heap} {b n c:Nat} {B:Blk} {A:Option Addr} {α:Type} {R:α → List Value → Prop} {sz:Nat} {w:World} {xs:List α} (hB:H[b]? = some B) (hv:B.ver=0) (ho:B.own=false) (hl:B.len=n) (hc:n≤c) (hp:φ b=plcOf A) (h:bF R sz w A n xs) (hs:0 < sz) (hx:xs.length=n):VRel φ H (.sl b 0 n 0) (.slice A n c):=by
 refine sl_mk hB hv (by omega) (.inr ⟨fun q=>(by rw[ho] at q;cases q),hc,fun q=>?_,fun q=>(by rw[ho] at q;cases q)⟩)
 have hn:n≠0:=by
  rcases q with q|q
  ·exact q
  ·rw[ho] at q;cases q.1
 obtain⟨ad,rfl,hcell⟩:=h.2.2 (by omega)
 obtain⟨c0,c1,_,c3⟩:=hcell 0 _ (List.getElem?_eq_getElem (by omega))
 have h0:=c3 0 _ (List.getElem?_eq_getElem (by omega))
 rw[Nat.zero_mul,Nat.add_zero] at h0
 have hsp:ad.spot=none:=by
  unfold Addr.add at h0
  rw[if_pos rfl] at h0
  unfold World.cell? at h0
  split at h0
  ·split at h0
   ·cases h0
   ·rename_i q;simpa using q
  ·cases h0
 rw[hp,Nat.zero_mul,Nat.add_zero]
 obtain⟨b,f,s⟩:=ad
 simp only at hsp
 subst hsp
 rfl
theorem tar_sim {w:World} {t:Tar} {cs:List Value} (hT:kTar.K w t cs) : ∃ φ,Sim φ (tarH t) w.heap.size w∧VRel φ (tarH t) (.agg (tarV t)) (.agg cs.toArray):=by
 obtain⟨A15,c15,A16,c16,A17,c17,A18,c18,rfl,l15,g15,l16,g16,l17,g17,l18,g18⟩:=eF hT
 let inner:Nat → Option Addr:=fun i=>match w.cell? ⟨(plcOf A18).blk,(plcOf A18).off+(i * 2+1),none⟩ with
  |some (.slice A _ _)=>A
  |_=>none
 let φ:Emb:=fun n=>match n with
  |0=>plcOf A15
  |1=>plcOf A16
  |2=>plcOf A17
  |3=>plcOf A18
  |j+4=>plcOf (inner j)
 have hH : ∀ j b,t.f18[j]? = some b → (tarH t)[j+4]? = some (stpBlk b.f1):=by
  intro j b hb
  simp[tarH,hb]
 have hin : ∀ (i:Nat) (x:S48) (c:List Value),t.f18[i]? = some x → k48.K w x c → (∀ j u,c[j]? = some u → w.cell? ⟨(plcOf A18).blk,(plcOf A18).off+(i * 2+j),none⟩=some u) → ∃ c1,c = [.string x.f0,.slice (inner i) x.f1.length c1]∧x.f1.length≤c1∧k70.C w (inner i) x.f1.length x.f1:=by
  intro i x c _ hk hcell
  obtain⟨A1,c1,rfl,e1,e2⟩:=k48_open hk
  have h1:=hcell 1 _ rfl
  have:inner i=A1:=by
   show(match w.cell? ⟨(plcOf A18).blk,(plcOf A18).off+(i * 2+1),none⟩ with|some (.slice A _ _)=>A|_=>none)=A1
   rw[h1]
  rw[this]
  exact⟨c1,rfl,e1,e2⟩
 have hS:Sim φ (tarH t) w.heap.size w:=by
  have hown : ∀ (b:Nat) (B:Blk),(tarH t)[b]? = some B → B.own=false:=by
   intro b B hB
   match b,hB with
   |0,hB=>simp[tarH] at hB;subst hB;rfl
   |1,hB=>simp[tarH] at hB;subst hB;rfl
   |2,hB=>simp[tarH] at hB;subst hB;rfl
   |3,hB=>simp[tarH] at hB;subst hB;rfl
   |j+4,hB=>simp[tarH] at hB;obtain⟨x,_,rfl⟩:=hB;rfl
  refine⟨?_,fun b B hB ho=>(by rw[hown b B hB] at ho;cases ho),fun b b' B B' hB _ ho=>(by rw[hown b B hB] at ho;cases ho),?_,Nat.le_refl _⟩
  ·intro b B hB _
   match b,hB with
   |0,hB=>
    simp[tarH] at hB;subst hB
    exact dx g15 (fun x c h=>k41.K_one h) (fun i=>seaV (t.f15.getD i z41)) (fun i x c hx hk _=>by
     rw[k41_open hk,List.getD_eq_getElem?_getD,hx]
     exact bO rfl (bO rfl (bO rfl rfl)))
   |1,hB=>
    simp[tarH] at hB;subst hB
    exact dx g16 (fun x c h=>k43.K_one h) (fun i=>holV (t.f16.getD i z43)) (fun i x c hx hk _=>by
     rw[k43_open hk,List.getD_eq_getElem?_getD,hx]
     exact bO rfl (bO rfl (bO rfl (bO rfl rfl))))
   |2,hB=>
    simp[tarH] at hB;subst hB
    exact dx g17 (fun x c h=>k45.K_one h) (fun i=>winV (t.f17.getD i z45)) (fun i x c hx hk _=>by
     rw[k45_open hk,List.getD_eq_getElem?_getD,hx]
     exact bO rfl (bO rfl (bO rfl (bO rfl (bO rfl rfl)))))
   |3,hB=>
    simp[tarH] at hB;subst hB
    exact dx g18 (fun x c h=>k48.K_one h) (fun i=>blkV i (t.f18.getD i z48)) (fun i x c hx hk hcell=>by
     obtain⟨c1,rfl,e1,e2⟩:=hin i x c hx hk hcell
     rw[List.getD_eq_getElem?_getD,hx]
     exact bO rfl (bO (sl_ro (φ:=φ) (hH i x hx) rfl rfl rfl e1 rfl e2 (by decide) rfl) rfl))
   |j+4,hB=>
    simp[tarH] at hB
    obtain⟨x,hx,rfl⟩:=hB
    intro i k u hi hu
    obtain⟨hl,_,hr⟩:=g18
    obtain⟨ad,hA,hc⟩:=hr (by have:=(List.getElem?_eq_some_iff.1 hx).1;omega)
    have g18:bF (k48.K w) k48.sz w A18 t.f18.length t.f18:=⟨hl,by assumption,hr⟩
    have : ∃ c1,x.f1.length≤c1∧k70.C w (inner j) x.f1.length x.f1:=by
     have hlt:=(List.getElem?_eq_some_iff.1 hx).1
     have key:=dx (φ:=φ) (H:=tarH t) g18 (fun x c h=>k48.K_one h) (fun _=>[AV.undef,AV.undef]) (fun i y c hy hk hcell=>by
      obtain⟨c1,rfl,_,_⟩:=hin i y c hy hk hcell
      exact bO trivial (bO trivial rfl))
     obtain⟨c,_,hk,hcell⟩:=hc j x hx
     have hcell2 : ∀ k u,c[k]? = some u → w.cell? ⟨(plcOf A18).blk,(plcOf A18).off+(j * 2+k),none⟩=some u:=by
      intro k u hu
      have hklt:k < 2:=by
       obtain⟨A1,c1,rfl,_,_⟩:=k48_open hk
       have:=(List.getElem?_eq_some_iff.1 hu).1
       simpa using this
      obtain⟨y,y1,_⟩:=key j k .undef hlt (by match k,hklt with|0,_=>rfl|1,_=>rfl)
      have h1:=hcell k u hu
      have h2:w.cell? (ad.add (j * k48.sz+k))=w.cell? ⟨(plcOf A18).blk,(plcOf A18).off+(j * 2+k),none⟩:=by
       rw[hA] at y1 ⊢
       show w.cell? (ad.add (j * 2+k))=w.cell? ⟨ad.block,ad.off+(j * 2+k),none⟩
       unfold Addr.add
       split
       ·rename_i h0
        unfold Addr.add at h1
        have h00:j * k48.sz+k=0:=h0
        rw[if_pos h00] at h1
        have hsp:ad.spot=none:=by
         unfold World.cell? at h1
         split at h1
         ·split at h1
          ·cases h1
          ·rename_i q;simpa using q
         ·cases h1
        rw[h0,Nat.add_zero]
        obtain⟨b,f,s⟩:=ad
        simp only at hsp
        subst hsp
        rfl
       ·rfl
      rw[← h2]
      exact h1
     obtain⟨c1,_,e1,e2⟩:=hin j x c hx hk hcell2
     exact⟨c1,e1,e2⟩
    obtain⟨_,_,e2⟩:=this
    exact dx e2 (fun x c h=>k70.K_one h) (fun i=>stpV (x.f1.getD i z70)) (fun i y c hy hk _=>by
     rw[k70_open hk,List.getD_eq_getElem?_getD,hy]
     exact bO rfl (bO rfl rfl)) i k u hi hu
  ·intro b B hB i hi
   match b,hB with
   |0,hB=>simp[tarH] at hB;subst hB;rfl
   |1,hB=>simp[tarH] at hB;subst hB;rfl
   |2,hB=>simp[tarH] at hB;subst hB;rfl
   |3,hB=>simp[tarH] at hB;subst hB;rfl
   |j+4,hB=>simp[tarH] at hB;obtain⟨x,_,rfl⟩:=hB;rfl
 refine⟨φ,hS,_,rfl,?_⟩
 have s15:=sl_ro (φ:=φ) (H:=tarH t) (b:=0) (B:=seaBlk t.f15) rfl rfl rfl rfl l15 rfl g15 (by decide) rfl
 have s16:=sl_ro (φ:=φ) (H:=tarH t) (b:=1) (B:=holBlk t.f16) rfl rfl rfl rfl l16 rfl g16 (by decide) rfl
 have s17:=sl_ro (φ:=φ) (H:=tarH t) (b:=2) (B:=winBlk t.f17) rfl rfl rfl rfl l17 rfl g17 (by decide) rfl
 have s18:=sl_ro (φ:=φ) (H:=tarH t) (b:=3) (B:=blkBlk t.f18) rfl rfl rfl rfl l18 rfl g18 (by decide) rfl
 unfold tarV
 repeat first
  |exact rfl
  |refine bO ?_ ?_
  |exact s15
  |exact s16
  |exact s17
  |exact s18
end Go.Proofs.YtcmhfcciapenfaaDoor.Pa
