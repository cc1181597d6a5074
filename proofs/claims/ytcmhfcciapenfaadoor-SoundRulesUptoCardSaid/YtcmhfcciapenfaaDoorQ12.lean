/- A part of the proof. -/
import Derived.Test.YtcmhfcciapenfaaDoorQ00
import Derived.Test.YtcmhfcciapenfaaDoorQ11
set_option linter.all false
namespace Go.Proofs.YtcmhfcciapenfaaDoor.Pa
open Go.RowKit Go.Proofs.YtcmhfcciapenfaaDoorW.PrintWords Go.Proofs.YtcmhfcciapenfaaDoorW.PrintLast Go.Proofs.YtcmhfcciapenfaaDoorW.PrintMore
attribute [local go_sem] bJ bL bU bV bA bB bM bN
def sound_tiles.chain:List S79 → Int → Int → Bool
 |[],a,n=>a == n
 |r :: t,a,n=>if r.f0=a then sound_tiles.chain t r.f1 n else false
def sound_tiles.le (a b:S79):Bool:=decide (a.f0≤b.f0)
def sound_tiles.f (l:List S79) (n:Int):Option Bool:=if l.length < 4398046511104∧l.all (fun r=>decide (r.f0 < r.f1))=true then some (sound_tiles.chain (l.mergeSort sound_tiles.le) 0 n) else none
instance:Inhabited S79:=⟨z79⟩
def sound_tiles.enc (p:S79):List Value:=[.int .i64 p.f0,.int .i64 p.f1]
def sound_tiles.lt (a b:S79):Bool:=decide (a.f0 < b.f0)
theorem sound_tiles.swo:Sort.SWO sound_tiles.lt where
 irrefl:=fun x=>by simp[sound_tiles.lt]
 trans:=fun x y z h1 h2=>by simp[sound_tiles.lt] at *;omega
 ntrans:=fun x y z h1 h2=>by simp[sound_tiles.lt] at *;omega
theorem sound_tiles.chain_lt : ∀ (l:List S79) (a n:Int),(∀ r∈l,r.f0 < r.f1) → sound_tiles.chain l a n=true → l.Pairwise (fun x y=>x.f0 < y.f0)∧∀ x∈l,a≤x.f0
 |[],_,_,_,_=>⟨List.Pairwise.nil,by simp⟩
 |r :: t,a,n,hp,h=>by
  unfold sound_tiles.chain at h
  by_cases hr:r.f0=a
  ·rw[if_pos hr] at h
   obtain⟨h1,h2⟩:=sound_tiles.chain_lt t r.f1 n (fun x hx=>hp x (List.mem_cons_of_mem _ hx)) h
   have h0:=hp r (List.mem_cons_self)
   refine⟨List.pairwise_cons.2 ⟨fun y hy=>by have:=h2 y hy;omega,h1⟩,fun x hx=>?_⟩
   rcases List.mem_cons.1 hx with rfl|hx
   ·omega
   ·have:=h2 x hx
    omega
  ·rw[if_neg hr] at h
   cases h
theorem sound_tiles.sorted_eq : ∀ (l l' : List S79),l.Perm l' → l.Pairwise (fun x y=>x.f0 < y.f0) → l'.Pairwise (fun x y=>x.f0≤y.f0) → l=l'
 |[],l',hp,_,_=>by rw[List.nil_perm.1 hp]
 |x :: t,[],hp,_,_=>by simp at hp
 |x :: t,y :: u,hp,h1,h2=>by
  have h1':=List.pairwise_cons.1 h1
  have h2':=List.pairwise_cons.1 h2
  have e:x=y:=by
   rcases List.mem_cons.1 (hp.mem_iff.1 (List.mem_cons_self:x∈x :: t)) with e|hx
   ·exact e
   rcases List.mem_cons.1 (hp.mem_iff.2 (List.mem_cons_self:y∈y :: u)) with e|hy
   ·exact e.symm
   have:=h1'.1 y hy
   have:=h2'.1 x hx
   omega
  subst e
  rw[sound_tiles.sorted_eq t u (List.Perm.cons_inv hp) h1'.2 h2'.2]
theorem sound_tiles.any_order (l d:List S79) (n:Int) (hp : ∀ r∈l,r.f0 < r.f1) (hd:d.Perm l) (hs:d.Pairwise (fun x y=>x.f0≤y.f0)):sound_tiles.chain d 0 n=sound_tiles.chain (l.mergeSort sound_tiles.le) 0 n:=by
 have hm:(l.mergeSort sound_tiles.le).Perm l:=List.mergeSort_perm _ _
 have hms:(l.mergeSort sound_tiles.le).Pairwise (fun x y=>x.f0≤y.f0):=by
  have:=List.pairwise_mergeSort (le:=sound_tiles.le) (fun a b c=>by simp[sound_tiles.le];omega) (fun a b=>by simp[sound_tiles.le];omega) l
  exact this.imp (fun h=>by simpa [sound_tiles.le] using h)
 generalize l.mergeSort sound_tiles.le=m at hm hms
 have hpd : ∀ r∈d,r.f0 < r.f1:=fun r hr=>hp r (hd.mem_iff.1 hr)
 have hpm : ∀ r∈m,r.f0 < r.f1:=fun r hr=>hp r (hm.mem_iff.1 hr)
 have hdm:d.Perm m:=hd.trans hm.symm
 cases h1:sound_tiles.chain d 0 n
 ·cases h2:sound_tiles.chain m 0 n
  ·rfl
  ·have:=sound_tiles.sorted_eq m d hdm.symm (sound_tiles.chain_lt m 0 n hpm h2).1 hs
   rw[this] at h2
   rw[h1] at h2
   cases h2
 ·have:=sound_tiles.sorted_eq d m hdm (sound_tiles.chain_lt d 0 n hpd h1).1 hms
  rw[← this,h1]
noncomputable def sound_tiles.svT:TypeInfo:=(Tryd.prog.info? 77).get (by kernel_rfl)
noncomputable def sound_tiles.svE:TypeInfo:=(Tryd.prog.info? 79).get (by kernel_rfl)
theorem sound_tiles.svK (n:Nat) (h2:2≤n):Lib.swapperK n sound_tiles.svE 25=9:=by
 have a:sound_tiles.svE.hasPointers=false:=by kernel_rfl
 have b:sound_tiles.svE.bytes=16:=by kernel_rfl
 have c:(n == 0)=false:=by simp;omega
 have d:(n == 1)=false:=by simp;omega
 simp[Lib.swapperK,a,b,c,d]
set_option maxHeartbeats 2000000 in
theorem sound_tiles.less (blk off c Bs size:Nat) (W:World) (G:Nat → Int) (hs:W.cell? ⟨Bs,0,none⟩=some (.slice (some ⟨blk,off,none⟩) size c))
  (hc : ∀ t,t < size → W.cell? ⟨blk,off+t * 2,none⟩=some (.int .i64 (G t))) (i j:Nat) (hi:i < size) (hj:j < size) (_hsz:size < 4611686018427387904) :
  Calls Tryd.prog 53 #[.int .i64 i,.int .i64 j,.pointer (some ⟨Bs,0,none⟩)] W fun e w'=>e = .returned (.bool (decide (G i < G j)))∧∃ q,w' = W.drewN q:=by
 have ci:=hc i hi
 have cj:=hc j hj
 go_enter Tryd.func53,Tryd.ntmps53
 go_wp2
 go_quiet (fail)
 go_wp2
 go_ret
 exact⟨rfl,nq,rfl⟩
theorem sound_tiles.sorts (blk off c Bs:Nat) (d:Array S79) (h2:2≤d.size) (hsz:d.size < 4611686018427387904) (w:World) (hH:Sort.HoldsK sound_tiles.enc 2 w blk off d) (hblk:blk < w.heap.size)
  (hBs:w.cell? ⟨Bs,0,none⟩=some (.slice (some ⟨blk,off,none⟩) d.size c)) (hB1:Bs < w.heap.size) (hB2:Bs≠blk) :
  Calls Tryd.prog 52 #[.iface 77 (.slice (some ⟨blk,off,none⟩) d.size c),.func (.func 53) #[] #[.pointer (some ⟨Bs,0,none⟩)]] w fun e w'=>
   e = .returned (.tuple #[])∧∃ d' n os,Sort.PermIn 0 d.size d d'∧Sort.SortedIn sound_tiles.lt 0 d.size d'∧w' = Sort.grow (Sort.putRowK sound_tiles.enc 2 (Sort.ahead w n) blk off d') os:=by
 have hless:LessReadsK Tryd.prog 53 #[.pointer (some ⟨Bs,0,none⟩)] sound_tiles.enc 2 sound_tiles.lt blk off d.size w:=by
  intro m os dk hs i j hi hj
  have e:sortWorldK sound_tiles.enc 2 w blk off m dk os=Sort.putRowK sound_tiles.enc 2 (Sort.grow (Sort.ahead w m) os) blk off dk:=by
   unfold sortWorldK;rw[Sort.putRowK_grow _ _ (Sort.ahead w m) _ blk off _ hblk]
  have hHg:Sort.HoldsK sound_tiles.enc 2 (Sort.grow (Sort.ahead w m) os) blk off d:=Sort.holdsK_grow _ _ _ _ blk off d hblk (Sort.holdsK_ahead _ _ _ _ _ _ _ hH)
  refine sound_tiles.less blk off c Bs d.size _ (fun t=>dk[t]!.f0) ?_ (fun t ht=>?_) i j hi hj (by omega)
  ·rw[e,Sort.cell?_putRowK_other _ _ _ blk off dk _ (by exact hB2),Sort.cell?_grow _ _ _ (by exact hB1)];exact hBs
  ·rw[e];exact((Sort.holdsK_putRowK _ _ _ blk off d dk hHg hs).cell (i:=t) (c:=0) (by omega) (by omega)).1
 exact Any.sort_Slice_cells_sorted Tryd.sl6 77 79 sound_tiles.svT sound_tiles.svE (by kernel_rfl) (by kernel_rfl) (by kernel_rfl) (by kernel_rfl) 25 (fun _=>by kernel_rfl) sound_tiles.enc 2 (fun _=>rfl) (by kernel_rfl) (fun _=>by kernel_rfl)
  (fun x v hv=>by simp[sound_tiles.enc] at hv;rcases hv with rfl|rfl <;> rfl) sound_tiles.lt sound_tiles.swo 53 _
  (enters_of Tryd.func53 (by kernel_rfl) rfl) blk off c d h2 hsz 83 (by rw[sound_tiles.svK _ h2];kernel_rfl) false
  (fun args W=>run_callFunc_extern Tryd.func83 (by kernel_rfl) (by kernel_rfl) (by kernel_rfl) (e:=Extern.ReflectliteSwapper.swap false) (by kernel_rfl) args W) w hless hH hblk
theorem sound_tiles.sorted_list {d d' : Array S79} (hp:Sort.PermIn 0 d.size d d') (hs:Sort.SortedIn sound_tiles.lt 0 d.size d'):d'.toList.Perm d.toList∧d'.toList.Pairwise (fun x y=>x.f0≤y.f0):=by
 obtain⟨h1,_,h3⟩:=hp
 refine⟨by have e1:d'.toList.take d.size=d'.toList:=List.take_of_length_le (by simp[h1]);simpa [e1] using h3,?_⟩
 rw[List.pairwise_iff_getElem]
 intro i j hi hj hij
 have hi' : i < d'.size:=by simpa using hi
 have hj' : j < d'.size:=by simpa using hj
 have:=hs i j (Nat.zero_le _) hij (by omega)
 rw[getElem!_pos d' j hj',getElem!_pos d' i hi'] at this
 simp only[sound_tiles.lt,decide_eq_false_iff_not] at this
 simp only[Array.getElem_toList]
 omega
theorem sound_tiles.grown (w:World) (blk n:Nat) (d' : Array S79) (os:Array Obj):w.grownBy (Sort.grow (Sort.putRowK sound_tiles.enc 2 (Sort.ahead w n) blk 0 d') os) (some blk):=by
 refine⟨rfl,rfl,rfl,by simp[Sort.putRowK,Sort.ahead],fun k hk hne=>?_⟩
 rw[Sort.heap_grow_old _ _ (by simpa [Sort.putRowK,Sort.ahead] using hk)]
 have:blk≠k:=fun e=>hne (by rw[e])
 simp[Sort.putRowK,Sort.putRow,Sort.mapBlock,Sort.ahead,Array.getElem?_modify,this]
theorem sound_tiles.grown_grow (w:World) (os:Array Obj) (row:Option Nat):w.grownBy (Sort.grow w os) row:=by
 refine⟨rfl,rfl,rfl,by simp,fun k hk hne=>?_⟩
 rw[Sort.heap_grow_old _ _ hk]
theorem sound_tiles.holds {w:World} {base:Nat} {ok:Nat → Prop} {g cap:Nat} {xs:List S79} (h:Kd.R k79 79 w base ok (.slice (some ⟨g,0,none⟩) xs.length cap) xs):Sort.HoldsK sound_tiles.enc 2 w g 0 xs.toArray:=by
 obtain⟨_,_,hC⟩:=Kd.dz h
 obtain⟨inner,ho⟩:=Kd.R_own h
 obtain⟨cells,hc⟩:=fA ho g (by simp[Value.ownBlock])
 intro t ht
 rw[Sort.size_flatK] at ht
 have ht' : t < xs.length * 2:=by simpa using ht
 have hj:t / 2 < xs.length:=by omega
 refine⟨?_,by rw[Nat.zero_add];exact ai hc t⟩
 obtain⟨ad,e,hcell⟩:=hC.2.2 (by omega)
 cases e
 obtain⟨c,hl,hK,hu⟩:=hcell (t / 2) _ (List.getElem?_eq_getElem hj)
 obtain rfl:=cB hK
 replace hu : ∀ (i:Nat) (u:Value),[Value.int IntKind.i64 xs[t / 2].f0,Value.int IntKind.i64 xs[t / 2].f1][i]? = some u → w.cell? ⟨g,0+(t / 2 * 2+i),none⟩=some u:=fun i u hi=>by rw[← add_at];exact hu i u hi
 have e1:(xs.toArray[t / 2]!)=xs[t / 2]:=by rw[getElem!_pos xs.toArray (t / 2) (by simpa using hj)];simp
 rw[Sort.get_flatK _ _ _ _ (by simpa using ht'),e1]
 have h2:t % 2=0∨t % 2=1:=by omega
 have e3:t / 2 * 2+t % 2=t:=by omega
 rcases h2 with h2|h2
 ·have h4:=hu 0 _ rfl
  rw[show t / 2 * 2+0=t by omega] at h4
  rw[h4,h2]
  rfl
 ·have h4:=hu 1 _ rfl
  rw[show t / 2 * 2+1=t by omega] at h4
  rw[h4,h2]
  rfl
theorem sound_tiles.reads {w:World} {g:Nat} {d:Array S79} (hd:d.size < 4611686018427387904) (h:Sort.HoldsK sound_tiles.enc 2 w g 0 d):Kd.C k79 w (some ⟨g,0,none⟩) d.toList.length d.toList:=by
 refine⟨rfl,by simp;omega,fun _=>⟨_,rfl,fun j p hj=>⟨[.int .i64 p.f0,.int .i64 p.f1],rfl,k79_mk _ _,fun i u hi=>?_⟩⟩⟩
 obtain⟨hl,hp⟩:=List.getElem?_eq_some_iff.1 hj
 have hl' : j < d.size:=by simpa using hl
 have e1:d[j]! = p:=by rw[getElem!_pos d j hl',← hp];simp
 match i,hi with
 |0,hi=>
  have:=(h.cell (i:=j) (c:=0) hl' (by omega)).1
  rw[e1] at this
  cases hi
  rw[add_at]
  exact this
 |1,hi=>
  have:=(h.cell (i:=j) (c:=1) hl' (by omega)).1
  rw[e1] at this
  cases hi
  rw[add_at]
  exact this
theorem sound_tiles.done {w w1 w2:World} {A:Option Addr} {n c:Nat} {o:Obj} (hg:(w.alloc o).grownBy w1 (Value.slice A n c).ownBlock) (hb:Below w1.heap.size w1 w2):w.grownBy w2 (Value.slice A n c).ownBlock:=by
 have h1:=(World.grownBy_alloc w o (Value.slice A n c).ownBlock).trans hg
 exact h1.trans ⟨hb.os,hb.tape,hb.output,hb.size,fun k hk _=>hb.block k hk⟩
theorem sound_tiles.sorted_call (xs:List S79) (A:Option Addr) (c:Nat) (w:World) (base:Nat) (ok:Nat → Prop) (hR:Kd.R k79 79 w base ok (.slice A xs.length c) xs) (hl:xs.length < 4398046511104) (Bs:Nat) (hBs:w.cell? ⟨Bs,0,none⟩=some (.slice A xs.length c)) (hB2:some Bs≠(Value.slice A xs.length c).ownBlock) :
  Calls Tryd.prog 52 #[.iface 77 (.slice A xs.length c),.func (.func 53) #[] #[.pointer (some ⟨Bs,0,none⟩)]] w fun e w'=>
   e = .returned (.tuple #[])∧w.grownBy w' (Value.slice A xs.length c).ownBlock∧∃ d:List S79,d.Perm xs∧d.Pairwise (fun x y=>x.f0≤y.f0)∧Kd.C k79 w' A d.length d:=by
 have hC:=(Kd.dz hR).2.2
 have hB1:=World.block_lt_of_cell? w _ hBs
 by_cases h2:2≤xs.length
 ·obtain⟨g,cap,he,hb,hlt,cells,hc⟩:=Kd.R_form hR (by omega)
  injection he with e1 e2 e3
  subst e1 e3
  have hne:Bs≠g:=fun e=>hB2 (by rw[e];simp[Value.ownBlock])
  refine(sound_tiles.sorts g 0 c Bs xs.toArray (by simpa using h2) (by simp;omega) w (sound_tiles.holds hR) hlt (by simpa using hBs) hB1 hne).mono ?_
  rintro e w' ⟨rfl,d',n,os,hp,hs,rfl⟩
  obtain⟨h3,h4⟩:=sound_tiles.sorted_list hp hs
  refine⟨rfl,?_,d'.toList,by simpa using h3,h4,?_⟩
  ·have:=sound_tiles.grown w g n d' os
   simpa [Value.ownBlock] using this
  ·have hz:d'.size=xs.length:=by simpa using hp.1
   refine Kd.bg (w:=Sort.putRowK sound_tiles.enc 2 (Sort.ahead w n) g 0 d') (sound_tiles.reads (by omega) ?_) ?_
   ·exact Sort.holdsK_putRowK _ _ (Sort.ahead w n) g 0 xs.toArray d' (Sort.holdsK_ahead _ _ _ _ _ _ _ (sound_tiles.holds hR)) (by simpa using hz)
   ·exact⟨rfl,rfl,rfl,by simp,fun k hk=>Sort.heap_grow_old _ _ hk⟩
 ·have hk:Tryd.prog.funcs.findIdx? (·.name == "internal/reflectlite" ++ ".Swapper$" ++ toString (Lib.swapperK xs.length sound_tiles.svE 25))=some (if xs.length=0 then 75 else 76):=by
   have k0:Tryd.prog.funcs.findIdx? (·.name == "internal/reflectlite" ++ ".Swapper$" ++ toString (Lib.swapperK 0 sound_tiles.svE 25))=some 75:=by kernel_rfl
   have k1:Tryd.prog.funcs.findIdx? (·.name == "internal/reflectlite" ++ ".Swapper$" ++ toString (Lib.swapperK 1 sound_tiles.svE 25))=some 76:=by kernel_rfl
   have:xs.length=0∨xs.length=1:=by omega
   rcases this with e|e
   ·rw[e]
    exact k0
   ·rw[e]
    exact k1
  refine(Any.sort_Slice_tiny Tryd.sl6 77 79 sound_tiles.svT sound_tiles.svE (by kernel_rfl) (by kernel_rfl) (by kernel_rfl) (by kernel_rfl) 25 (fun _=>by kernel_rfl) A xs.length c (by omega) _ hk (.func 53) #[] #[.pointer (some ⟨Bs,0,none⟩)] w).mono ?_
  rintro e w' ⟨rfl,os,rfl⟩
  refine⟨rfl,sound_tiles.grown_grow _ _ _,xs,List.Perm.refl _,?_,?_⟩
  ·match xs,h2 with
   |[],_=>exact List.Pairwise.nil
   |[x],_=>exact List.pairwise_singleton _ _
   |x :: y :: t,h2=>simp at h2
  ·exact Kd.bg hC ⟨rfl,rfl,rfl,by simp,fun k hk=>Sort.heap_grow_old _ _ hk⟩
set_option maxHeartbeats 8000000 in
set_option maxRecDepth 100000 in
theorem sound_tiles.calls (xs:List S79) (n:Int) (r:Bool) (w:World) (v:Value) (base:Nat) (ok:Nat → Prop) (hR:Kd.R k79 79 w base ok v xs) (h:sound_tiles.f xs n=some r) :
  Calls Tryd.prog 44 #[v,.int .i64 n] w fun e w'=>e = .returned (.bool r)∧w.grownBy w' v.ownBlock:=by
 have hu79:=Tryd.underlying79
 unfold sound_tiles.f at h
 by_cases hp:xs.length < 4398046511104∧xs.all (fun r=>decide (r.f0 < r.f1))=true
 ·rw[if_pos hp] at h
  have H0:=ag.mk (Option.some.inj h)
  clear h
  obtain⟨hl,hpos⟩:=hp
  have hpos' : ∀ r∈xs,r.f0 < r.f1:=fun x hx=>by simpa using List.all_eq_true.1 hpos x hx
  have HP:=ag.mk hpos'
  clear hpos hpos'
  obtain⟨A,c,rfl⟩:=Kd.fG hR
  have hR1:=ag.mk (Kd.bz hR (.cells #[.slice A xs.length c] 77))
  have HLT:=ag.mk (Kd.R_lt hR)
  clear hR
  have hc0:(w.alloc (.cells #[.slice A xs.length c] 77)).cell? ⟨w.heap.size,0,none⟩=some (.slice A xs.length c):=by simp
  have hne:some w.heap.size≠(Value.slice A xs.length c).ownBlock:=fun e=>by have:=HLT.o w.heap.size e.symm;omega
  have hcall:=sound_tiles.sorted_call xs A c (w.alloc (.cells #[.slice A xs.length c] 77)) base ok hR1.o hl w.heap.size hc0 hne
  go_enter Tryd.func44,Tryd.ntmps44
  go_wp2_with (first|(go_at_call 52;refine hcall.mono ?_;rintro e w1 ⟨rfl,hg,d,hd,hs,hC⟩;have hb1:=hg.cell hc0 hne;have HG:=ag.mk hg;clear hg;have HD:=ag.mk hd;have HS:=ag.mk hs;have HC:=ag.mk hC;clear hd hs hC))
  have H1:=ag.mk (sound_tiles.any_order xs d n HP.o HD.o HS.o)
  have HL:=ag.mk HD.o.length_eq
  go_loopg [5,14] xs.length (fun kq v5 v14 w'=>∃ (i:Nat) (x5:Int),v14 = .int .i64 (i:Int)∧v5 = .int .i64 x5∧i≤xs.length∧ag (kq=xs.length - i)∧ag (sound_tiles.chain (d.drop i) x5 n=r)∧ag (Below w1.heap.size w1 w'))
  case atStart=>exact⟨0,0,by first|rfl|simp,rfl,Nat.zero_le _,⟨rfl⟩,⟨by rw[List.drop_zero,H1.o];exact H0.o⟩,⟨Below.refl _ _⟩⟩
  case round=>
   obtain⟨i,x5,rfl,rfl,hi,HK,HA,HB⟩:=hrel
   by_cases hlt:i < xs.length
   ·have c0:decide ((i:Int) < (xs.length:Int))=true:=decide_eq_true (by omega)
    have hlt' : i < d.length:=by have:=HL.o;omega
    have HA2:=HA.o
    rw[List.drop_eq_getElem_cons hlt'] at HA2
    obtain⟨ad,e,hx0,hx1⟩:=at_T79 HC.o (i:Int) (by omega) (by omega)
    have erd:rd_T79 d (i:Int)=d[i]:=by unfold rd_T79;rw[Int.toNat_natCast,List.getD_eq_getElem?_getD,List.getElem?_eq_getElem hlt'];rfl
    rw[erd,Int.toNat_natCast] at hx0 hx1
    clear erd
    obtain rfl:=e
    replace hx0:=cqq HB.o hx0
    replace hx1:=cqq HB.o hx1
    have p0:0≤(i:Int):=by omega
    have q0:(i:Int) < (xs.length:Int):=by omega
    replace p0:=eq_true p0
    replace q0:=eq_true q0
    generalize d[i]=rn at hx0 hx1 HA2
    unfold sound_tiles.chain at HA2
    by_cases hr:rn.f0=x5
    ·rw[if_pos hr] at HA2
     have HA3:=ag.mk HA2
     have c1:(rn.f0 != x5)=false:=by simp[hr]
     clear hr HA2
     go_wp2_with (first|((with_reducible refine aI (N:=7) rfl ?_);refine aH ?hg (N:=7) ?hd (cs:=#[.int .i64 0,.int .i64 0]) (t:=79) ?hr ?_;(case hd=>rfl);(case hg=>rfl);(case hr=>first|(go_simp;done)|(go_simp;rfl));intro gb hg_ w7 hbox hb_;have n0_:=ag.mk (aj (by repeat(first|(with_reducible first|exact HB.o|apply ae|apply aa|apply af)|exact HB.o)) hb_);have n1_:=ag.mk (hbox);have n2_:=ag.mk ((by rw[hg_];exact(ak (by repeat(first|(with_reducible first|exact HB.o|apply ae|apply aa|apply af)|exact HB.o)))):w1.heap.size≤gb);clear HB;have HB:=n0_;have BKb:=n1_;have GEb:=n2_;clear n0_ n1_ n2_;clear hb_ hbox hg_;have hcb_0:w7.cell? ⟨gb,0,none⟩=some (.int .i64 0):=(ah BKb.o 0).trans rfl;have hcb_1:w7.cell? ⟨gb,1,none⟩=some (.int .i64 0):=(ah BKb.o 1).trans rfl;have hfb_0:=ai BKb.o 0;have hfb_1:=ai BKb.o 1))
     go_roundg (xs.length - (i+1))
     case measure=>have:=HK.o;omega
     case rel=>exact⟨i+1,_,(by first|rfl|go_num),rfl,hlt,⟨rfl⟩,HA3,⟨(by repeat(first|(with_reducible first|exact HB.o|apply ae|apply aa|apply af|refine ax ?_ GEb.o)|exact HB.o))⟩⟩
    ·rw[if_neg hr] at HA2
     subst HA2
     have c1:(rn.f0 != x5)=true:=by simp[hr]
     clear hr
     go_wp2_with (first|((with_reducible refine aI (N:=7) rfl ?_);refine aH ?hg (N:=7) ?hd (cs:=#[.int .i64 0,.int .i64 0]) (t:=79) ?hr ?_;(case hd=>rfl);(case hg=>rfl);(case hr=>first|(go_simp;done)|(go_simp;rfl));intro gb hg_ w7 hbox hb_;have n0_:=ag.mk (aj (by repeat(first|(with_reducible first|exact HB.o|apply ae|apply aa|apply af)|exact HB.o)) hb_);have n1_:=ag.mk (hbox);have n2_:=ag.mk ((by rw[hg_];exact(ak (by repeat(first|(with_reducible first|exact HB.o|apply ae|apply aa|apply af)|exact HB.o)))):w1.heap.size≤gb);clear HB;have HB:=n0_;have BKb:=n1_;have GEb:=n2_;clear n0_ n1_ n2_;clear hb_ hbox hg_;have hcb_0:w7.cell? ⟨gb,0,none⟩=some (.int .i64 0):=(ah BKb.o 0).trans rfl;have hcb_1:w7.cell? ⟨gb,1,none⟩=some (.int .i64 0):=(ah BKb.o 1).trans rfl;have hfb_0:=ai BKb.o 0;have hfb_1:=ai BKb.o 1))
     go_ret
     exact⟨rfl,sound_tiles.done HG.o (by repeat(first|(with_reducible first|exact HB.o|apply ae|apply aa|apply af|refine ax ?_ GEb.o)|exact HB.o))⟩
   ·have c0:decide ((i:Int) < (xs.length:Int))=false:=decide_eq_false (by omega)
    have HA2:=HA.o
    rw[List.drop_of_length_le (by have:=HL.o;omega)] at HA2
    have HA3:(x5 == n)=r:=HA2
    clear HA2
    subst HA3
    go_wp2
    go_ret
    exact⟨rfl,sound_tiles.done HG.o HB.o⟩
 ·rw[if_neg hp] at h
  cases h
def sound_seasons.go:List S41 → List (List UInt8) → List S79 → Option (Option (List S79))
 |[],_,rs=>some (some rs)
 |s :: t,ns,rs=>(sound_Day.f s.f1).bind fun a=>(sound_Day.f s.f2).bind fun b=>if a.2≠0 then some none else if b.2≠0 then some none else if s.f0.size≤140737488355328 then if s.f0.data.toList∈ns then some none else (scan_Name.f s.f0).bind fun g=>if g=false then some none else
   if a.1≤b.1 then sound_seasons.go t (s.f0.data.toList :: ns) (rs ++ [⟨wrap64 (a.1 - 1),b.1⟩]) else sound_seasons.go t (s.f0.data.toList :: ns) (rs ++ [⟨wrap64 (a.1 - 1),366⟩,⟨0,b.1⟩]) else none
def sound_seasons.f (l0:List S41):Option Bool:=if l0.length≤4398046511104 then (sound_seasons.go l0 [] []).bind fun o=>match o with
 |none=>some false
 |some rs=>(sound_within.f (l0.length:Int) 1 64).bind fun g=>if g=true then sound_tiles.f rs 366 else some false
 else none
theorem sound_seasons.new1 (w W:World) (a:S79):bF (k79.K w) k79.sz (W.alloc (.cells #[.int .i64 a.f0,.int .i64 a.f1] 79)) (some ⟨W.heap.size,0,none⟩) 1 [a]:=by
 refine⟨rfl,by decide,fun _=>⟨_,rfl,fun j p hj=>?_⟩⟩
 have hb:=dE W (.cells #[.int .i64 a.f0,.int .i64 a.f1] 79)
 match j,hj with
 |0,hj=>
  cases hj
  refine⟨_,rfl,k79_mk _ _,fun i u hi=>?_⟩
  rw[add_plain]
  match i,hi with
  |0,hi=>cases hi;exact ah hb 0
  |1,hi=>cases hi;exact ah hb 1
theorem sound_seasons.new2 (w W:World) (a b:S79):bF (k79.K w) k79.sz (W.alloc (.cells #[.int .i64 a.f0,.int .i64 a.f1,.int .i64 b.f0,.int .i64 b.f1] 79)) (some ⟨W.heap.size,0,none⟩) 2 [a,b]:=by
 refine⟨rfl,by decide,fun _=>⟨_,rfl,fun j p hj=>?_⟩⟩
 have hb:=dE W (.cells #[.int .i64 a.f0,.int .i64 a.f1,.int .i64 b.f0,.int .i64 b.f1] 79)
 match j,hj with
 |0,hj=>
  cases hj
  refine⟨_,rfl,k79_mk _ _,fun i u hi=>?_⟩
  rw[add_plain]
  match i,hi with
  |0,hi=>cases hi;exact ah hb 0
  |1,hi=>cases hi;exact ah hb 1
 |1,hj=>
  cases hj
  refine⟨_,rfl,k79_mk _ _,fun i u hi=>?_⟩
  rw[add_plain]
  match i,hi with
  |0,hi=>cases hi;exact ah hb 2
  |1,hi=>cases hi;exact ah hb 3
set_option maxHeartbeats 8000000 in
set_option maxRecDepth 100000 in
theorem sound_seasons.calls (A0:Option Addr) (c0:Nat) (l0:List S41) (r:Bool) (w:World) (hr0:Kd.C k41 w A0 l0.length l0) (hc0:l0.length≤c0) (h:sound_seasons.f l0=some r) :
  Calls Tryd.prog 31 #[.slice A0 l0.length c0] w fun e w'=>e = .returned (.bool r)∧Below w.heap.size w w':=by
 have hu41:=Tryd.underlying41
 have hu79:=Tryd.underlying79
 have HR0:=ag.mk hr0
 have HC0:=ag.mk hc0
 clear hr0 hc0
 unfold sound_seasons.f at h
 by_cases hl:l0.length≤4398046511104
 ·rw[if_pos hl] at h
  obtain⟨g,H,h⟩:=Option.bind_eq_some_iff.mp h
  have H':=ag.mk H
  clear H
  have h':=ag.mk h
  clear h
  have HBS:=ag.mk (ae (Below.refl w.heap.size w) (.map #[] 0))
  have HMS:=ag.mk (MSet.made w)
  have hmm:=@run_makeMap Tryd.prog
  go_enter Tryd.func31,Tryd.ntmps31
  go_wp2
  go_loopg [4,14] l0.length (fun kq v4 v14 wr=>∃ (i:Nat) (ns:List (List UInt8)) (rs:List S79) (x4:Value),x4=v4∧v14 = .int .i64 (i:Int)∧i≤l0.length∧ag (kq=l0.length - i)∧ag (ns.length=i)∧ag (rs.length≤2 * i)∧ag (sound_seasons.go (l0.drop i) ns rs=some g)∧ag (MSet wr w.heap.size ns)∧ag (Kd.R k79 79 wr w.heap.size (fun k=>w.heap.size+1≤k) v4 rs)∧ag (Below w.heap.size w wr))
  case atStart=>exact⟨0,[],[],_,rfl,by first|rfl|simp,Nat.zero_le _,⟨rfl⟩,⟨rfl⟩,⟨Nat.zero_le _⟩,H',HMS,⟨Kd.R_nil _ _ _ _ _⟩,HBS⟩
  case round=>
   clear HBS HMS H'
   obtain⟨i,ns,rs,x4,rfl,rfl,hi,HK,HN,HQ,HA,HM,HO,HB0⟩:=hrel
   by_cases hlt:i < l0.length
   ·have b0:decide ((i:Int) < (l0.length:Int))=true:=decide_eq_true (by omega)
    have HA2:=HA.o
    clear HA
    rw[List.drop_eq_getElem_cons hlt] at HA2
    obtain⟨ad,e,hx0,hx1,hx2⟩:=at_T41 HR0.o (i:Int) (by omega) (by omega)
    have erd:dw l0 (i:Int)=l0[i]:=by unfold dw;rw[Int.toNat_natCast,List.getD_eq_getElem?_getD,List.getElem?_eq_getElem hlt];rfl
    rw[← erd] at HA2
    obtain rfl:=e
    rw[Int.toNat_natCast] at hx0 hx1 hx2
    replace hx0:=(HB0.o.cell (World.block_lt_of_cell? w _ hx0)).trans hx0
    replace hx1:=(HB0.o.cell (World.block_lt_of_cell? w _ hx1)).trans hx1
    replace hx2:=(HB0.o.cell (World.block_lt_of_cell? w _ hx2)).trans hx2
    have p0:0≤(i:Int):=by omega
    have q0:(i:Int) < (l0.length:Int):=by omega
    replace p0:=eq_true p0
    replace q0:=eq_true q0
    clear erd
    generalize dw l0 (i:Int)=bn at hx0 hx1 hx2 HA2
    have HB:=ag.mk (Below.refl wr.heap.size wr)
    unfold sound_seasons.go at HA2
    obtain⟨⟨a1,a2⟩,A1,HA2⟩:=Option.bind_eq_some_iff.mp HA2
    obtain⟨⟨b1,b2⟩,A2,HA2⟩:=Option.bind_eq_some_iff.mp HA2
    replace A1:=ag.mk A1
    replace A2:=ag.mk A2
    replace HA2:(if a2≠0 then some none else if b2≠0 then some none else if bn.f0.size≤140737488355328 then if bn.f0.data.toList∈ns then some none else (scan_Name.f bn.f0).bind fun g=>if g=false then some none else if a1≤b1 then sound_seasons.go (l0.drop (i+1)) (bn.f0.data.toList :: ns) (rs ++ [⟨wrap64 (a1 - 1),b1⟩]) else sound_seasons.go (l0.drop (i+1)) (bn.f0.data.toList :: ns) (rs ++ [⟨wrap64 (a1 - 1),366⟩,⟨0,b1⟩]) else none)=some g:=HA2
    by_cases ha:a2=0
    ·subst ha
     rw[if_neg (by simp)] at HA2
     by_cases hb:b2=0
     ·subst hb
      rw[if_neg (by simp)] at HA2
      by_cases hz:bn.f0.size≤140737488355328
      ·rw[if_pos hz] at HA2
       have HZ:=ag.mk hz
       clear hz
       by_cases hm:bn.f0.data.toList∈ns
       ·rw[if_pos hm] at HA2
        have hmb:decide (bn.f0.data.toList∈ns)=true:=decide_eq_true hm
        cases HA2
        have hr:=Option.some.inj (show some false=some r from h'.o)
        subst hr
        clear hm
        go_wp2_with (first|((with_reducible refine aI (N:=6) rfl ?_);refine aH ?hg (N:=6) ?hd (cs:=#[.string ⟨#[]⟩,.int .i64 0,.int .i64 0]) (t:=41) ?hr ?_;(case hd=>rfl);(case hg=>rfl);(case hr=>first|(go_simp;done)|(go_simp;rfl));intro gb hg_ w7 hbox hb_;have n0_:=ag.mk (aj (by repeat(first|(with_reducible first|exact HB.o|apply ae|apply aa|apply af)|exact HB.o)) hb_);have n1_:=ag.mk (hbox);have n2_:=ag.mk ((by rw[hg_];exact(ak (by repeat(first|(with_reducible first|exact HB.o|apply ae|apply aa|apply af)|exact HB.o)))):wr.heap.size≤gb);clear HB;have HB:=n0_;have BKb:=n1_;have GEb:=n2_;clear n0_ n1_ n2_;clear hb_ hbox hg_;have hcb_0:w7.cell? ⟨gb,0,none⟩=some (.string ⟨#[]⟩):=(ah BKb.o 0).trans rfl;have hcb_1:w7.cell? ⟨gb,1,none⟩=some (.int .i64 0):=(ah BKb.o 1).trans rfl;have hcb_2:w7.cell? ⟨gb,2,none⟩=some (.int .i64 0):=(ah BKb.o 2).trans rfl;have hfb_0:=ai BKb.o 0;have hfb_1:=ai BKb.o 1;have hfb_2:=ai BKb.o 2)|(go_at_call 16;(with_reducible refine(sound_Day.calls bn.f1 _ _ _ A1.o).mono ?_);rintro e w8 ⟨rfl,hb⟩;have n1_:=ag.mk (aN (g:=gb) (o:=.cells #[.string bn.f0,.int .i64 bn.f1,.int .i64 bn.f2] 41 (0,0)) (by (with_reducible repeat(first|refine av ?_ _|refine aA ?_|refine au ?_ _));refine aX (cs:=#[.string bn.f0,.int .i64 bn.f1,.int .i64 0]) ?_ 2 _ rfl;(with_reducible repeat(first|refine av ?_ _|refine aA ?_|refine au ?_ _));refine aX (cs:=#[.string bn.f0,.int .i64 0,.int .i64 0]) ?_ 1 _ rfl;(with_reducible repeat(first|refine av ?_ _|refine aA ?_|refine au ?_ _));refine aX (cs:=#[.string ⟨#[]⟩,.int .i64 0,.int .i64 0]) ?_ 0 _ rfl;(with_reducible repeat(first|refine av ?_ _|refine aA ?_|refine au ?_ _));exact BKb.o) hb);have n0_:=ag.mk (aj (by repeat(first|(with_reducible first|exact HB.o|apply ae|apply aa|apply af|refine ax ?_ GEb.o)|exact HB.o)) hb);clear HB BKb;have HB:=n0_;have BKb:=n1_;clear n0_ n1_;have hcw8b_0:w8.cell? ⟨gb,0,none⟩=some (.string bn.f0):=(ah BKb.o 0).trans rfl;have hcw8b_1:w8.cell? ⟨gb,1,none⟩=some (.int .i64 bn.f1):=(ah BKb.o 1).trans rfl;have hcw8b_2:w8.cell? ⟨gb,2,none⟩=some (.int .i64 bn.f2):=(ah BKb.o 2).trans rfl;(try clear hb);(try clear hb2);(try clear hk);(try clear hi))|(go_at_call 16;(with_reducible refine(sound_Day.calls bn.f2 _ _ _ A2.o).mono ?_);rintro e w9 ⟨rfl,hb⟩;have n1_:=ag.mk (aN (g:=gb) (o:=.cells #[.string bn.f0,.int .i64 bn.f1,.int .i64 bn.f2] 41 (0,0)) (by (with_reducible repeat(first|refine av ?_ _|refine aA ?_|refine au ?_ _));exact BKb.o) hb);have n0_:=ag.mk (aj (by repeat(first|(with_reducible first|exact HB.o|apply ae|apply aa|apply af|refine ax ?_ GEb.o)|exact HB.o)) hb);clear HB BKb;have HB:=n0_;have BKb:=n1_;clear n0_ n1_;have hcw9b_0:w9.cell? ⟨gb,0,none⟩=some (.string bn.f0):=(ah BKb.o 0).trans rfl;have hcw9b_1:w9.cell? ⟨gb,1,none⟩=some (.int .i64 bn.f1):=(ah BKb.o 1).trans rfl;have hcw9b_2:w9.cell? ⟨gb,2,none⟩=some (.int .i64 bn.f2):=(ah BKb.o 2).trans rfl;(try clear hb);(try clear hb2);(try clear hk);(try clear hi))|(at_lookup;refine aU _ (by rfl) _ _ rfl w.heap.size ns bn.f0 HZ.o rfl (HM.o.below (by repeat(first|(with_reducible first|exact HB.o|apply ae|apply aa|apply af|refine ax ?_ GEb.o)|exact HB.o))) rfl ?_))
        go_ret
        exact⟨rfl,aj HB0.o (by repeat(first|(with_reducible first|exact HB.o|apply ae|apply aa|apply af|refine ax ?_ GEb.o)|exact HB.o))⟩
       ·rw[if_neg hm] at HA2
        have hmb:decide (bn.f0.data.toList∈ns)=false:=decide_eq_false hm
        clear hm
        obtain⟨t1,A3,HA2⟩:=Option.bind_eq_some_iff.mp HA2
        replace A3:=ag.mk A3
        cases t1 with
        |false=>
         rw[if_pos rfl] at HA2
         cases HA2
         have hr:=Option.some.inj (show some false=some r from h'.o)
         subst hr
         go_wp2_with (first|((with_reducible refine aI (N:=6) rfl ?_);refine aH ?hg (N:=6) ?hd (cs:=#[.string ⟨#[]⟩,.int .i64 0,.int .i64 0]) (t:=41) ?hr ?_;(case hd=>rfl);(case hg=>rfl);(case hr=>first|(go_simp;done)|(go_simp;rfl));intro gb hg_ w7 hbox hb_;have n0_:=ag.mk (aj (by repeat(first|(with_reducible first|exact HB.o|apply ae|apply aa|apply af)|exact HB.o)) hb_);have n1_:=ag.mk (hbox);have n2_:=ag.mk ((by rw[hg_];exact(ak (by repeat(first|(with_reducible first|exact HB.o|apply ae|apply aa|apply af)|exact HB.o)))):wr.heap.size≤gb);clear HB;have HB:=n0_;have BKb:=n1_;have GEb:=n2_;clear n0_ n1_ n2_;clear hb_ hbox hg_;have hcb_0:w7.cell? ⟨gb,0,none⟩=some (.string ⟨#[]⟩):=(ah BKb.o 0).trans rfl;have hcb_1:w7.cell? ⟨gb,1,none⟩=some (.int .i64 0):=(ah BKb.o 1).trans rfl;have hcb_2:w7.cell? ⟨gb,2,none⟩=some (.int .i64 0):=(ah BKb.o 2).trans rfl;have hfb_0:=ai BKb.o 0;have hfb_1:=ai BKb.o 1;have hfb_2:=ai BKb.o 2)|(go_at_call 16;(with_reducible refine(sound_Day.calls bn.f1 _ _ _ A1.o).mono ?_);rintro e w8 ⟨rfl,hb⟩;have n1_:=ag.mk (aN (g:=gb) (o:=.cells #[.string bn.f0,.int .i64 bn.f1,.int .i64 bn.f2] 41 (0,0)) (by (with_reducible repeat(first|refine av ?_ _|refine aA ?_|refine au ?_ _));refine aX (cs:=#[.string bn.f0,.int .i64 bn.f1,.int .i64 0]) ?_ 2 _ rfl;(with_reducible repeat(first|refine av ?_ _|refine aA ?_|refine au ?_ _));refine aX (cs:=#[.string bn.f0,.int .i64 0,.int .i64 0]) ?_ 1 _ rfl;(with_reducible repeat(first|refine av ?_ _|refine aA ?_|refine au ?_ _));refine aX (cs:=#[.string ⟨#[]⟩,.int .i64 0,.int .i64 0]) ?_ 0 _ rfl;(with_reducible repeat(first|refine av ?_ _|refine aA ?_|refine au ?_ _));exact BKb.o) hb);have n0_:=ag.mk (aj (by repeat(first|(with_reducible first|exact HB.o|apply ae|apply aa|apply af|refine ax ?_ GEb.o)|exact HB.o)) hb);clear HB BKb;have HB:=n0_;have BKb:=n1_;clear n0_ n1_;have hcw8b_0:w8.cell? ⟨gb,0,none⟩=some (.string bn.f0):=(ah BKb.o 0).trans rfl;have hcw8b_1:w8.cell? ⟨gb,1,none⟩=some (.int .i64 bn.f1):=(ah BKb.o 1).trans rfl;have hcw8b_2:w8.cell? ⟨gb,2,none⟩=some (.int .i64 bn.f2):=(ah BKb.o 2).trans rfl;(try clear hb);(try clear hb2);(try clear hk);(try clear hi))|(go_at_call 16;(with_reducible refine(sound_Day.calls bn.f2 _ _ _ A2.o).mono ?_);rintro e w9 ⟨rfl,hb⟩;have n1_:=ag.mk (aN (g:=gb) (o:=.cells #[.string bn.f0,.int .i64 bn.f1,.int .i64 bn.f2] 41 (0,0)) (by (with_reducible repeat(first|refine av ?_ _|refine aA ?_|refine au ?_ _));exact BKb.o) hb);have n0_:=ag.mk (aj (by repeat(first|(with_reducible first|exact HB.o|apply ae|apply aa|apply af|refine ax ?_ GEb.o)|exact HB.o)) hb);clear HB BKb;have HB:=n0_;have BKb:=n1_;clear n0_ n1_;have hcw9b_0:w9.cell? ⟨gb,0,none⟩=some (.string bn.f0):=(ah BKb.o 0).trans rfl;have hcw9b_1:w9.cell? ⟨gb,1,none⟩=some (.int .i64 bn.f1):=(ah BKb.o 1).trans rfl;have hcw9b_2:w9.cell? ⟨gb,2,none⟩=some (.int .i64 bn.f2):=(ah BKb.o 2).trans rfl;(try clear hb);(try clear hb2);(try clear hk);(try clear hi))|(at_lookup;refine aU _ (by rfl) _ _ rfl w.heap.size ns bn.f0 HZ.o rfl (HM.o.below (by repeat(first|(with_reducible first|exact HB.o|apply ae|apply aa|apply af|refine ax ?_ GEb.o)|exact HB.o))) rfl ?_)|(go_at_call 28;(with_reducible refine(scan_Name.calls bn.f0 _ _ A3.o).mono ?_);rintro e w10 ⟨rfl,hb⟩;have n1_:=ag.mk (aN (g:=gb) (o:=.cells #[.string bn.f0,.int .i64 bn.f1,.int .i64 bn.f2] 41 (0,0)) (by (with_reducible repeat(first|refine av ?_ _|refine aA ?_|refine au ?_ _));exact BKb.o) hb);have n0_:=ag.mk (aj (by repeat(first|(with_reducible first|exact HB.o|apply ae|apply aa|apply af|refine ax ?_ GEb.o)|exact HB.o)) hb);clear HB BKb;have HB:=n0_;have BKb:=n1_;clear n0_ n1_;have hcw10b_0:w10.cell? ⟨gb,0,none⟩=some (.string bn.f0):=(ah BKb.o 0).trans rfl;have hcw10b_1:w10.cell? ⟨gb,1,none⟩=some (.int .i64 bn.f1):=(ah BKb.o 1).trans rfl;have hcw10b_2:w10.cell? ⟨gb,2,none⟩=some (.int .i64 bn.f2):=(ah BKb.o 2).trans rfl;(try clear hb);(try clear hb2);(try clear hk);(try clear hi)))
         go_ret
         exact⟨rfl,aj HB0.o (by repeat(first|(with_reducible first|exact HB.o|apply ae|apply aa|apply af|refine ax ?_ GEb.o)|exact HB.o))⟩
        |true=>
         rw[if_neg (by simp)] at HA2
         by_cases hle:a1≤b1
         ·rw[if_pos hle] at HA2
          have HA3:=ag.mk HA2
          have hleb:decide (a1≤b1)=true:=decide_eq_true hle
          clear HA2 hle
          go_wp2_with (first|((with_reducible refine aI (N:=6) rfl ?_);refine aH ?hg (N:=6) ?hd (cs:=#[.string ⟨#[]⟩,.int .i64 0,.int .i64 0]) (t:=41) ?hr ?_;(case hd=>rfl);(case hg=>rfl);(case hr=>first|(go_simp;done)|(go_simp;rfl));intro gb hg_ w7 hbox hb_;have n0_:=ag.mk (aj (by repeat(first|(with_reducible first|exact HB.o|apply ae|apply aa|apply af)|exact HB.o)) hb_);have n1_:=ag.mk (hbox);have n2_:=ag.mk ((by rw[hg_];exact(ak (by repeat(first|(with_reducible first|exact HB.o|apply ae|apply aa|apply af)|exact HB.o)))):wr.heap.size≤gb);clear HB;have HB:=n0_;have BKb:=n1_;have GEb:=n2_;clear n0_ n1_ n2_;clear hb_ hbox hg_;have hcb_0:w7.cell? ⟨gb,0,none⟩=some (.string ⟨#[]⟩):=(ah BKb.o 0).trans rfl;have hcb_1:w7.cell? ⟨gb,1,none⟩=some (.int .i64 0):=(ah BKb.o 1).trans rfl;have hcb_2:w7.cell? ⟨gb,2,none⟩=some (.int .i64 0):=(ah BKb.o 2).trans rfl;have hfb_0:=ai BKb.o 0;have hfb_1:=ai BKb.o 1;have hfb_2:=ai BKb.o 2)|(go_at_call 16;(with_reducible refine(sound_Day.calls bn.f1 _ _ _ A1.o).mono ?_);rintro e w8 ⟨rfl,hb⟩;have n1_:=ag.mk (aN (g:=gb) (o:=.cells #[.string bn.f0,.int .i64 bn.f1,.int .i64 bn.f2] 41 (0,0)) (by (with_reducible repeat(first|refine av ?_ _|refine aA ?_|refine au ?_ _));refine aX (cs:=#[.string bn.f0,.int .i64 bn.f1,.int .i64 0]) ?_ 2 _ rfl;(with_reducible repeat(first|refine av ?_ _|refine aA ?_|refine au ?_ _));refine aX (cs:=#[.string bn.f0,.int .i64 0,.int .i64 0]) ?_ 1 _ rfl;(with_reducible repeat(first|refine av ?_ _|refine aA ?_|refine au ?_ _));refine aX (cs:=#[.string ⟨#[]⟩,.int .i64 0,.int .i64 0]) ?_ 0 _ rfl;(with_reducible repeat(first|refine av ?_ _|refine aA ?_|refine au ?_ _));exact BKb.o) hb);have n0_:=ag.mk (aj (by repeat(first|(with_reducible first|exact HB.o|apply ae|apply aa|apply af|refine ax ?_ GEb.o)|exact HB.o)) hb);clear HB BKb;have HB:=n0_;have BKb:=n1_;clear n0_ n1_;have hcw8b_0:w8.cell? ⟨gb,0,none⟩=some (.string bn.f0):=(ah BKb.o 0).trans rfl;have hcw8b_1:w8.cell? ⟨gb,1,none⟩=some (.int .i64 bn.f1):=(ah BKb.o 1).trans rfl;have hcw8b_2:w8.cell? ⟨gb,2,none⟩=some (.int .i64 bn.f2):=(ah BKb.o 2).trans rfl;(try clear hb);(try clear hb2);(try clear hk);(try clear hi))|(go_at_call 16;(with_reducible refine(sound_Day.calls bn.f2 _ _ _ A2.o).mono ?_);rintro e w9 ⟨rfl,hb⟩;have n1_:=ag.mk (aN (g:=gb) (o:=.cells #[.string bn.f0,.int .i64 bn.f1,.int .i64 bn.f2] 41 (0,0)) (by (with_reducible repeat(first|refine av ?_ _|refine aA ?_|refine au ?_ _));exact BKb.o) hb);have n0_:=ag.mk (aj (by repeat(first|(with_reducible first|exact HB.o|apply ae|apply aa|apply af|refine ax ?_ GEb.o)|exact HB.o)) hb);clear HB BKb;have HB:=n0_;have BKb:=n1_;clear n0_ n1_;have hcw9b_0:w9.cell? ⟨gb,0,none⟩=some (.string bn.f0):=(ah BKb.o 0).trans rfl;have hcw9b_1:w9.cell? ⟨gb,1,none⟩=some (.int .i64 bn.f1):=(ah BKb.o 1).trans rfl;have hcw9b_2:w9.cell? ⟨gb,2,none⟩=some (.int .i64 bn.f2):=(ah BKb.o 2).trans rfl;(try clear hb);(try clear hb2);(try clear hk);(try clear hi))|(at_lookup;refine aU _ (by rfl) _ _ rfl w.heap.size ns bn.f0 HZ.o rfl (HM.o.below (by repeat(first|(with_reducible first|exact HB.o|apply ae|apply aa|apply af|refine ax ?_ GEb.o)|exact HB.o))) rfl ?_)|(go_at_call 28;(with_reducible refine(scan_Name.calls bn.f0 _ _ A3.o).mono ?_);rintro e w10 ⟨rfl,hb⟩;have n1_:=ag.mk (aN (g:=gb) (o:=.cells #[.string bn.f0,.int .i64 bn.f1,.int .i64 bn.f2] 41 (0,0)) (by (with_reducible repeat(first|refine av ?_ _|refine aA ?_|refine au ?_ _));exact BKb.o) hb);have n0_:=ag.mk (aj (by repeat(first|(with_reducible first|exact HB.o|apply ae|apply aa|apply af|refine ax ?_ GEb.o)|exact HB.o)) hb);clear HB BKb;have HB:=n0_;have BKb:=n1_;clear n0_ n1_;have hcw10b_0:w10.cell? ⟨gb,0,none⟩=some (.string bn.f0):=(ah BKb.o 0).trans rfl;have hcw10b_1:w10.cell? ⟨gb,1,none⟩=some (.int .i64 bn.f1):=(ah BKb.o 1).trans rfl;have hcw10b_2:w10.cell? ⟨gb,2,none⟩=some (.int .i64 bn.f2):=(ah BKb.o 2).trans rfl;(try clear hb);(try clear hb2);(try clear hk);(try clear hi))|(at_mapUpdate;refine bS _ rfl _ _ _ rfl w.heap.size ns bn.f0 HZ.o rfl (HM.o.below (by repeat(first|(with_reducible first|exact HB.o|apply ae|apply aa|apply af|refine ax ?_ GEb.o)|exact HB.o))) (by have:=HN.o;omega) rfl rfl ?_;intro w11 hm2 hg2;have HM2:=ag.mk hm2;have HB2:=ag.mk ((aj HB0.o (by repeat(first|(with_reducible first|exact HB.o|apply ae|apply aa|apply af|refine ax ?_ GEb.o)|exact HB.o))).grown hg2 (ak (aj HB0.o (by repeat(first|(with_reducible first|exact HB.o|apply ae|apply aa|apply af|refine ax ?_ GEb.o)|exact HB.o)))) (fun k hk=>by cases hk;exact Nat.le_refl _));have HO2:=ag.mk (Kd.bQ (Kd.eZ HO.o (by repeat(first|(with_reducible first|exact HB.o|apply ae|apply aa|apply af|refine ax ?_ GEb.o)|exact HB.o))) hg2 (fun k hk e=>by injection e with e;omega));clear hm2 hg2)|(at_builtin;refine Kd.bI k79 (Rr:=k79.K w) (w0:=w) w.heap.size rfl _ _ 77 79 (.agg #[.int .i64 0,.int .i64 0]) 16 rfl Tryd.underlying77 eT rfl (by decide) (by decide) x4 rs [⟨wrap64 (a1 - 1),b1⟩] (some ⟨w11.heap.size,0,none⟩) 1 1 (fun k=>w.heap.size+1≤k) (fun _=>False) rfl rfl (Kd.bz HO2.o _) (sound_seasons.new1 w w11 ⟨wrap64 (a1 - 1),b1⟩) (fun x cs hx=>by obtain rfl:=cB hx;exact dD _ _ _ x) (fun _ hk=>hk.elim) (fun k hk=>HM2.o.fresh hk) (ae HB2.o _) (ak (ae HB2.o _)) (by have:=HQ.o;have:=HN.o;omega) ?_;intro v1 w12 ho hb3 hg3 hat;have HO3:=ag.mk ho;have HB3:=ag.mk hb3;have HM3:=ag.mk ((HM2.o.below (ae (Below.refl _ _) _)).kept hg3 (fun e=>by have:=HO2.o.1 w.heap.size e.symm;omega));clear ho hb3 hg3 hat))
          go_roundg (l0.length - (i+1))
          case measure=>have:=HK.o;omega
          case rel=>exact⟨i+1,_,_,_,rfl,(by first|rfl|go_num),hlt,⟨rfl⟩,⟨by have:=HN.o;simp[this]⟩,⟨by have:=HQ.o;simp;omega⟩,HA3,HM3,HO3,HB3⟩
         ·rw[if_neg hle] at HA2
          have HA3:=ag.mk HA2
          have hleb:decide (a1≤b1)=false:=decide_eq_false hle
          clear HA2 hle
          go_wp2_with (first|((with_reducible refine aI (N:=6) rfl ?_);refine aH ?hg (N:=6) ?hd (cs:=#[.string ⟨#[]⟩,.int .i64 0,.int .i64 0]) (t:=41) ?hr ?_;(case hd=>rfl);(case hg=>rfl);(case hr=>first|(go_simp;done)|(go_simp;rfl));intro gb hg_ w7 hbox hb_;have n0_:=ag.mk (aj (by repeat(first|(with_reducible first|exact HB.o|apply ae|apply aa|apply af)|exact HB.o)) hb_);have n1_:=ag.mk (hbox);have n2_:=ag.mk ((by rw[hg_];exact(ak (by repeat(first|(with_reducible first|exact HB.o|apply ae|apply aa|apply af)|exact HB.o)))):wr.heap.size≤gb);clear HB;have HB:=n0_;have BKb:=n1_;have GEb:=n2_;clear n0_ n1_ n2_;clear hb_ hbox hg_;have hcb_0:w7.cell? ⟨gb,0,none⟩=some (.string ⟨#[]⟩):=(ah BKb.o 0).trans rfl;have hcb_1:w7.cell? ⟨gb,1,none⟩=some (.int .i64 0):=(ah BKb.o 1).trans rfl;have hcb_2:w7.cell? ⟨gb,2,none⟩=some (.int .i64 0):=(ah BKb.o 2).trans rfl;have hfb_0:=ai BKb.o 0;have hfb_1:=ai BKb.o 1;have hfb_2:=ai BKb.o 2)|(go_at_call 16;(with_reducible refine(sound_Day.calls bn.f1 _ _ _ A1.o).mono ?_);rintro e w8 ⟨rfl,hb⟩;have n1_:=ag.mk (aN (g:=gb) (o:=.cells #[.string bn.f0,.int .i64 bn.f1,.int .i64 bn.f2] 41 (0,0)) (by (with_reducible repeat(first|refine av ?_ _|refine aA ?_|refine au ?_ _));refine aX (cs:=#[.string bn.f0,.int .i64 bn.f1,.int .i64 0]) ?_ 2 _ rfl;(with_reducible repeat(first|refine av ?_ _|refine aA ?_|refine au ?_ _));refine aX (cs:=#[.string bn.f0,.int .i64 0,.int .i64 0]) ?_ 1 _ rfl;(with_reducible repeat(first|refine av ?_ _|refine aA ?_|refine au ?_ _));refine aX (cs:=#[.string ⟨#[]⟩,.int .i64 0,.int .i64 0]) ?_ 0 _ rfl;(with_reducible repeat(first|refine av ?_ _|refine aA ?_|refine au ?_ _));exact BKb.o) hb);have n0_:=ag.mk (aj (by repeat(first|(with_reducible first|exact HB.o|apply ae|apply aa|apply af|refine ax ?_ GEb.o)|exact HB.o)) hb);clear HB BKb;have HB:=n0_;have BKb:=n1_;clear n0_ n1_;have hcw8b_0:w8.cell? ⟨gb,0,none⟩=some (.string bn.f0):=(ah BKb.o 0).trans rfl;have hcw8b_1:w8.cell? ⟨gb,1,none⟩=some (.int .i64 bn.f1):=(ah BKb.o 1).trans rfl;have hcw8b_2:w8.cell? ⟨gb,2,none⟩=some (.int .i64 bn.f2):=(ah BKb.o 2).trans rfl;(try clear hb);(try clear hb2);(try clear hk);(try clear hi))|(go_at_call 16;(with_reducible refine(sound_Day.calls bn.f2 _ _ _ A2.o).mono ?_);rintro e w9 ⟨rfl,hb⟩;have n1_:=ag.mk (aN (g:=gb) (o:=.cells #[.string bn.f0,.int .i64 bn.f1,.int .i64 bn.f2] 41 (0,0)) (by (with_reducible repeat(first|refine av ?_ _|refine aA ?_|refine au ?_ _));exact BKb.o) hb);have n0_:=ag.mk (aj (by repeat(first|(with_reducible first|exact HB.o|apply ae|apply aa|apply af|refine ax ?_ GEb.o)|exact HB.o)) hb);clear HB BKb;have HB:=n0_;have BKb:=n1_;clear n0_ n1_;have hcw9b_0:w9.cell? ⟨gb,0,none⟩=some (.string bn.f0):=(ah BKb.o 0).trans rfl;have hcw9b_1:w9.cell? ⟨gb,1,none⟩=some (.int .i64 bn.f1):=(ah BKb.o 1).trans rfl;have hcw9b_2:w9.cell? ⟨gb,2,none⟩=some (.int .i64 bn.f2):=(ah BKb.o 2).trans rfl;(try clear hb);(try clear hb2);(try clear hk);(try clear hi))|(at_lookup;refine aU _ (by rfl) _ _ rfl w.heap.size ns bn.f0 HZ.o rfl (HM.o.below (by repeat(first|(with_reducible first|exact HB.o|apply ae|apply aa|apply af|refine ax ?_ GEb.o)|exact HB.o))) rfl ?_)|(go_at_call 28;(with_reducible refine(scan_Name.calls bn.f0 _ _ A3.o).mono ?_);rintro e w10 ⟨rfl,hb⟩;have n1_:=ag.mk (aN (g:=gb) (o:=.cells #[.string bn.f0,.int .i64 bn.f1,.int .i64 bn.f2] 41 (0,0)) (by (with_reducible repeat(first|refine av ?_ _|refine aA ?_|refine au ?_ _));exact BKb.o) hb);have n0_:=ag.mk (aj (by repeat(first|(with_reducible first|exact HB.o|apply ae|apply aa|apply af|refine ax ?_ GEb.o)|exact HB.o)) hb);clear HB BKb;have HB:=n0_;have BKb:=n1_;clear n0_ n1_;have hcw10b_0:w10.cell? ⟨gb,0,none⟩=some (.string bn.f0):=(ah BKb.o 0).trans rfl;have hcw10b_1:w10.cell? ⟨gb,1,none⟩=some (.int .i64 bn.f1):=(ah BKb.o 1).trans rfl;have hcw10b_2:w10.cell? ⟨gb,2,none⟩=some (.int .i64 bn.f2):=(ah BKb.o 2).trans rfl;(try clear hb);(try clear hb2);(try clear hk);(try clear hi))|(at_mapUpdate;refine bS _ rfl _ _ _ rfl w.heap.size ns bn.f0 HZ.o rfl (HM.o.below (by repeat(first|(with_reducible first|exact HB.o|apply ae|apply aa|apply af|refine ax ?_ GEb.o)|exact HB.o))) (by have:=HN.o;omega) rfl rfl ?_;intro w11 hm2 hg2;have HM2:=ag.mk hm2;have HB2:=ag.mk ((aj HB0.o (by repeat(first|(with_reducible first|exact HB.o|apply ae|apply aa|apply af|refine ax ?_ GEb.o)|exact HB.o))).grown hg2 (ak (aj HB0.o (by repeat(first|(with_reducible first|exact HB.o|apply ae|apply aa|apply af|refine ax ?_ GEb.o)|exact HB.o)))) (fun k hk=>by cases hk;exact Nat.le_refl _));have HO2:=ag.mk (Kd.bQ (Kd.eZ HO.o (by repeat(first|(with_reducible first|exact HB.o|apply ae|apply aa|apply af|refine ax ?_ GEb.o)|exact HB.o))) hg2 (fun k hk e=>by injection e with e;omega));clear hm2 hg2)|(at_builtin;refine Kd.bI k79 (Rr:=k79.K w) (w0:=w) w.heap.size rfl _ _ 77 79 (.agg #[.int .i64 0,.int .i64 0]) 16 rfl Tryd.underlying77 eT rfl (by decide) (by decide) x4 rs [⟨wrap64 (a1 - 1),366⟩,⟨0,b1⟩] (some ⟨w11.heap.size,0,none⟩) 2 2 (fun k=>w.heap.size+1≤k) (fun _=>False) rfl rfl (Kd.bz HO2.o _) (sound_seasons.new2 w w11 ⟨wrap64 (a1 - 1),366⟩ ⟨0,b1⟩) (fun x cs hx=>by obtain rfl:=cB hx;exact dD _ _ _ x) (fun _ hk=>hk.elim) (fun k hk=>HM2.o.fresh hk) (ae HB2.o _) (ak (ae HB2.o _)) (by have:=HQ.o;have:=HN.o;omega) ?_;intro v1 w12 ho hb3 hg3 hat;have HO3:=ag.mk ho;have HB3:=ag.mk hb3;have HM3:=ag.mk ((HM2.o.below (ae (Below.refl _ _) _)).kept hg3 (fun e=>by have:=HO2.o.1 w.heap.size e.symm;omega));clear ho hb3 hg3 hat))
          go_roundg (l0.length - (i+1))
          case measure=>have:=HK.o;omega
          case rel=>exact⟨i+1,_,_,_,rfl,(by first|rfl|go_num),hlt,⟨rfl⟩,⟨by have:=HN.o;simp[this]⟩,⟨by have:=HQ.o;simp;omega⟩,HA3,HM3,HO3,HB3⟩
      ·rw[if_neg hz] at HA2
       cases HA2
     ·rw[if_pos hb] at HA2
      have hbb:(b2 != 0)=true:=bne_iff_ne.mpr hb
      cases HA2
      have hr:=Option.some.inj (show some false=some r from h'.o)
      subst hr
      clear hb
      go_wp2_with (first|((with_reducible refine aI (N:=6) rfl ?_);refine aH ?hg (N:=6) ?hd (cs:=#[.string ⟨#[]⟩,.int .i64 0,.int .i64 0]) (t:=41) ?hr ?_;(case hd=>rfl);(case hg=>rfl);(case hr=>first|(go_simp;done)|(go_simp;rfl));intro gb hg_ w7 hbox hb_;have n0_:=ag.mk (aj (by repeat(first|(with_reducible first|exact HB.o|apply ae|apply aa|apply af)|exact HB.o)) hb_);have n1_:=ag.mk (hbox);have n2_:=ag.mk ((by rw[hg_];exact(ak (by repeat(first|(with_reducible first|exact HB.o|apply ae|apply aa|apply af)|exact HB.o)))):wr.heap.size≤gb);clear HB;have HB:=n0_;have BKb:=n1_;have GEb:=n2_;clear n0_ n1_ n2_;clear hb_ hbox hg_;have hcb_0:w7.cell? ⟨gb,0,none⟩=some (.string ⟨#[]⟩):=(ah BKb.o 0).trans rfl;have hcb_1:w7.cell? ⟨gb,1,none⟩=some (.int .i64 0):=(ah BKb.o 1).trans rfl;have hcb_2:w7.cell? ⟨gb,2,none⟩=some (.int .i64 0):=(ah BKb.o 2).trans rfl;have hfb_0:=ai BKb.o 0;have hfb_1:=ai BKb.o 1;have hfb_2:=ai BKb.o 2)|(go_at_call 16;(with_reducible refine(sound_Day.calls bn.f1 _ _ _ A1.o).mono ?_);rintro e w8 ⟨rfl,hb⟩;have n1_:=ag.mk (aN (g:=gb) (o:=.cells #[.string bn.f0,.int .i64 bn.f1,.int .i64 bn.f2] 41 (0,0)) (by (with_reducible repeat(first|refine av ?_ _|refine aA ?_|refine au ?_ _));refine aX (cs:=#[.string bn.f0,.int .i64 bn.f1,.int .i64 0]) ?_ 2 _ rfl;(with_reducible repeat(first|refine av ?_ _|refine aA ?_|refine au ?_ _));refine aX (cs:=#[.string bn.f0,.int .i64 0,.int .i64 0]) ?_ 1 _ rfl;(with_reducible repeat(first|refine av ?_ _|refine aA ?_|refine au ?_ _));refine aX (cs:=#[.string ⟨#[]⟩,.int .i64 0,.int .i64 0]) ?_ 0 _ rfl;(with_reducible repeat(first|refine av ?_ _|refine aA ?_|refine au ?_ _));exact BKb.o) hb);have n0_:=ag.mk (aj (by repeat(first|(with_reducible first|exact HB.o|apply ae|apply aa|apply af|refine ax ?_ GEb.o)|exact HB.o)) hb);clear HB BKb;have HB:=n0_;have BKb:=n1_;clear n0_ n1_;have hcw8b_0:w8.cell? ⟨gb,0,none⟩=some (.string bn.f0):=(ah BKb.o 0).trans rfl;have hcw8b_1:w8.cell? ⟨gb,1,none⟩=some (.int .i64 bn.f1):=(ah BKb.o 1).trans rfl;have hcw8b_2:w8.cell? ⟨gb,2,none⟩=some (.int .i64 bn.f2):=(ah BKb.o 2).trans rfl;(try clear hb);(try clear hb2);(try clear hk);(try clear hi))|(go_at_call 16;(with_reducible refine(sound_Day.calls bn.f2 _ _ _ A2.o).mono ?_);rintro e w9 ⟨rfl,hb⟩;have n1_:=ag.mk (aN (g:=gb) (o:=.cells #[.string bn.f0,.int .i64 bn.f1,.int .i64 bn.f2] 41 (0,0)) (by (with_reducible repeat(first|refine av ?_ _|refine aA ?_|refine au ?_ _));exact BKb.o) hb);have n0_:=ag.mk (aj (by repeat(first|(with_reducible first|exact HB.o|apply ae|apply aa|apply af|refine ax ?_ GEb.o)|exact HB.o)) hb);clear HB BKb;have HB:=n0_;have BKb:=n1_;clear n0_ n1_;have hcw9b_0:w9.cell? ⟨gb,0,none⟩=some (.string bn.f0):=(ah BKb.o 0).trans rfl;have hcw9b_1:w9.cell? ⟨gb,1,none⟩=some (.int .i64 bn.f1):=(ah BKb.o 1).trans rfl;have hcw9b_2:w9.cell? ⟨gb,2,none⟩=some (.int .i64 bn.f2):=(ah BKb.o 2).trans rfl;(try clear hb);(try clear hb2);(try clear hk);(try clear hi)))
      go_ret
      exact⟨rfl,aj HB0.o (by repeat(first|(with_reducible first|exact HB.o|apply ae|apply aa|apply af|refine ax ?_ GEb.o)|exact HB.o))⟩
    ·rw[if_pos ha] at HA2
     have hab:(a2 != 0)=true:=bne_iff_ne.mpr ha
     cases HA2
     have hr:=Option.some.inj (show some false=some r from h'.o)
     subst hr
     clear ha
     go_wp2_with (first|((with_reducible refine aI (N:=6) rfl ?_);refine aH ?hg (N:=6) ?hd (cs:=#[.string ⟨#[]⟩,.int .i64 0,.int .i64 0]) (t:=41) ?hr ?_;(case hd=>rfl);(case hg=>rfl);(case hr=>first|(go_simp;done)|(go_simp;rfl));intro gb hg_ w7 hbox hb_;have n0_:=ag.mk (aj (by repeat(first|(with_reducible first|exact HB.o|apply ae|apply aa|apply af)|exact HB.o)) hb_);have n1_:=ag.mk (hbox);have n2_:=ag.mk ((by rw[hg_];exact(ak (by repeat(first|(with_reducible first|exact HB.o|apply ae|apply aa|apply af)|exact HB.o)))):wr.heap.size≤gb);clear HB;have HB:=n0_;have BKb:=n1_;have GEb:=n2_;clear n0_ n1_ n2_;clear hb_ hbox hg_;have hcb_0:w7.cell? ⟨gb,0,none⟩=some (.string ⟨#[]⟩):=(ah BKb.o 0).trans rfl;have hcb_1:w7.cell? ⟨gb,1,none⟩=some (.int .i64 0):=(ah BKb.o 1).trans rfl;have hcb_2:w7.cell? ⟨gb,2,none⟩=some (.int .i64 0):=(ah BKb.o 2).trans rfl;have hfb_0:=ai BKb.o 0;have hfb_1:=ai BKb.o 1;have hfb_2:=ai BKb.o 2)|(go_at_call 16;(with_reducible refine(sound_Day.calls bn.f1 _ _ _ A1.o).mono ?_);rintro e w8 ⟨rfl,hb⟩;have n1_:=ag.mk (aN (g:=gb) (o:=.cells #[.string bn.f0,.int .i64 bn.f1,.int .i64 bn.f2] 41 (0,0)) (by (with_reducible repeat(first|refine av ?_ _|refine aA ?_|refine au ?_ _));refine aX (cs:=#[.string bn.f0,.int .i64 bn.f1,.int .i64 0]) ?_ 2 _ rfl;(with_reducible repeat(first|refine av ?_ _|refine aA ?_|refine au ?_ _));refine aX (cs:=#[.string bn.f0,.int .i64 0,.int .i64 0]) ?_ 1 _ rfl;(with_reducible repeat(first|refine av ?_ _|refine aA ?_|refine au ?_ _));refine aX (cs:=#[.string ⟨#[]⟩,.int .i64 0,.int .i64 0]) ?_ 0 _ rfl;(with_reducible repeat(first|refine av ?_ _|refine aA ?_|refine au ?_ _));exact BKb.o) hb);have n0_:=ag.mk (aj (by repeat(first|(with_reducible first|exact HB.o|apply ae|apply aa|apply af|refine ax ?_ GEb.o)|exact HB.o)) hb);clear HB BKb;have HB:=n0_;have BKb:=n1_;clear n0_ n1_;have hcw8b_0:w8.cell? ⟨gb,0,none⟩=some (.string bn.f0):=(ah BKb.o 0).trans rfl;have hcw8b_1:w8.cell? ⟨gb,1,none⟩=some (.int .i64 bn.f1):=(ah BKb.o 1).trans rfl;have hcw8b_2:w8.cell? ⟨gb,2,none⟩=some (.int .i64 bn.f2):=(ah BKb.o 2).trans rfl;(try clear hb);(try clear hb2);(try clear hk);(try clear hi))|(go_at_call 16;(with_reducible refine(sound_Day.calls bn.f2 _ _ _ A2.o).mono ?_);rintro e w9 ⟨rfl,hb⟩;have n1_:=ag.mk (aN (g:=gb) (o:=.cells #[.string bn.f0,.int .i64 bn.f1,.int .i64 bn.f2] 41 (0,0)) (by (with_reducible repeat(first|refine av ?_ _|refine aA ?_|refine au ?_ _));exact BKb.o) hb);have n0_:=ag.mk (aj (by repeat(first|(with_reducible first|exact HB.o|apply ae|apply aa|apply af|refine ax ?_ GEb.o)|exact HB.o)) hb);clear HB BKb;have HB:=n0_;have BKb:=n1_;clear n0_ n1_;have hcw9b_0:w9.cell? ⟨gb,0,none⟩=some (.string bn.f0):=(ah BKb.o 0).trans rfl;have hcw9b_1:w9.cell? ⟨gb,1,none⟩=some (.int .i64 bn.f1):=(ah BKb.o 1).trans rfl;have hcw9b_2:w9.cell? ⟨gb,2,none⟩=some (.int .i64 bn.f2):=(ah BKb.o 2).trans rfl;(try clear hb);(try clear hb2);(try clear hk);(try clear hi)))
     go_ret
     exact⟨rfl,aj HB0.o (by repeat(first|(with_reducible first|exact HB.o|apply ae|apply aa|apply af|refine ax ?_ GEb.o)|exact HB.o))⟩
   ·have b0:decide ((i:Int) < (l0.length:Int))=false:=decide_eq_false (by omega)
    have HA2:=HA.o
    rw[List.drop_of_length_le (by omega)] at HA2
    have hg:some rs=g:=Option.some.inj HA2
    subst hg
    have h3:((sound_within.f (l0.length:Int) 1 64).bind fun g=>if g=true then sound_tiles.f rs 366 else some false)=some r:=h'.o
    obtain⟨t1,A4,h3⟩:=Option.bind_eq_some_iff.mp h3
    replace A4:=ag.mk A4
    cases t1 with
    |false=>
     rw[if_neg (by simp)] at h3
     have hr:=Option.some.inj h3
     subst hr
     go_wp2_with (first|(go_at_call 30;(with_reducible refine(sound_within.calls (l0.length:Int) 1 64 _ _ A4.o).mono ?_);rintro e w13 ⟨rfl,⟨nd9,rfl⟩⟩))
     go_ret
     exact⟨rfl,by repeat(first|exact HB0.o|apply ae|apply aa|apply af)⟩
    |true=>
     rw[if_pos rfl] at h3
     have h2:=ag.mk h3
     clear h3
     go_wp2_with (first|(go_at_call 30;(with_reducible refine(sound_within.calls (l0.length:Int) 1 64 _ _ A4.o).mono ?_);rintro e w13 ⟨rfl,⟨nd9,rfl⟩⟩)|(go_at_call 44;(with_reducible refine(sound_tiles.calls rs 366 r _ x4 w.heap.size (fun k=>w.heap.size+1≤k) (Kd.eZ HO.o (by repeat(first|exact Below.refl _ _|apply ae|apply aa|apply af))) h2.o).mono ?_);rintro e w14 ⟨rfl,hg⟩))
     go_ret
     exact⟨rfl,(show Below w.heap.size w (wr.drewN nd9) from by repeat(first|exact HB0.o|apply ae|apply aa|apply af)).grown hg (ak (by repeat(first|exact HB0.o|apply ae|apply aa|apply af))) (fun k hk=>by have:=HO.o.1 k hk;omega)⟩
 ·rw[if_neg hl] at h
  cases h
def sound_steps.l0:Nat → List (S70) → Int → List (S70) → Int → Int → Option (Bool)
 |0,_,_,_,_,_=>none
 |k+1,x0,x3,x7,x8,x9=>if x9 < x8 then (if 0≤x9 then (if x9 < (x7.length:Int) then (if ((x9 == (wrap64 ((x0.length:Int) - 1))) != (((aV x7 x9).f0) == 0))=true then (some false) else (if (x9=(wrap64 ((x0.length:Int) - 1))) then ((sound_within.f ((aV x7 x9).f1) (-10000000) 10000000).bind fun t124=>(if t124=true then (sound_steps.l0 k x0 ((aV x7 x9).f0) x7 x8 (wrap64 (x9+1))) else (some false))) else (if ((aV x7 x9).f0)≤x3 then (some false) else (if ((aV x7 x9).f0) > 500000000000000 then (some false) else ((sound_within.f ((aV x7 x9).f1) (-10000000) 10000000).bind fun t125=>(if t125=true then (sound_steps.l0 k x0 ((aV x7 x9).f0) x7 x8 (wrap64 (x9+1))) else (some false))))))) else (none)) else (none)) else ((sound_within.f (x0.length:Int) 1 64).bind fun t126=>(some t126))
def sound_steps.f (k:Nat) (l0:List (S70)):Option (Bool):=sound_steps.l0 k l0 0 l0 (l0.length:Int) 0
theorem sound_steps.mono_l : ∀ k,(∀ y0 y1 y2 y3 y4,LeO (sound_steps.l0 k y0 y1 y2 y3 y4) (sound_steps.l0 (k+1) y0 y1 y2 y3 y4))
 |0=>fun _ _ _ _ _ r h=>by simp[sound_steps.l0] at h
 |k+1=>by
  have ih0:=sound_steps.mono_l k
  ·intro y0 y1 y2 y3 y4
   unfold sound_steps.l0
   repeat' first
   |(with_reducible exact ih0 _ _ _ _ _)
   |(with_reducible exact LeO.refl _)
   |(with_reducible exact LeO.none _)
   |(with_reducible refine LeO.ite ?_ ?_)
   |(with_reducible refine LeO.bind ?_ (fun _=>?_))
   |exact ih0 _ _ _ _ _
   |exact LeO.none _
   |refine LeO.ite ?_ ?_
   |refine LeO.bind ?_ (fun _=>?_)
theorem sound_steps.mono : ∀ a0 k,LeO (sound_steps.f k a0) (sound_steps.f (k+1) a0):=by
 intro a0 k
 have ih0:=sound_steps.mono_l k
 unfold sound_steps.f
 repeat' first
   |(with_reducible exact ih0 _ _ _ _ _)
   |(with_reducible exact LeO.refl _)
   |(with_reducible exact LeO.none _)
   |(with_reducible refine LeO.ite ?_ ?_)
   |(with_reducible refine LeO.bind ?_ (fun _=>?_))
   |exact ih0 _ _ _ _ _
   |exact LeO.none _
   |refine LeO.ite ?_ ?_
   |refine LeO.bind ?_ (fun _=>?_)
set_option maxHeartbeats 8000000 in
set_option maxRecDepth 100000 in
theorem sound_steps.calls (k:Nat) (A0:Option Addr) (c0:Nat) (l0:List (S70)) (r:Bool) (w:World) (hr0:Kd.C k70 w A0 l0.length l0) (hc0:l0.length≤c0) (h:sound_steps.f k l0=some r) :
  Calls Tryd.prog 46 #[.slice A0 l0.length c0] w fun e w'=>e = .returned (.bool r)∧Below w.heap.size w w':=by
 have hu70:=Tryd.underlying70
 have HR0:=ag.mk hr0
 have HC0:=ag.mk hc0
 clear hr0 hc0
 have HB:=ag.mk (Below.refl w.heap.size w)
 have H:(sound_steps.l0 k l0 0 l0 (l0.length:Int) 0)=some r:=h
 clear h
 have H':=ag.mk H
 clear H
 go_enter Tryd.func46,Tryd.ntmps46
 go_wp2
 go_loopg [3,9] k (fun kq v3 v9 w'=>∃ (x3_1:Int) (x9_1:Int),v3 = .int .i64 x3_1∧v9 = .int .i64 x9_1∧ag (sound_steps.l0 kq l0 x3_1 l0 (l0.length:Int) x9_1=some r)∧ag (kq≤k)∧ag (Below w.heap.size w w'))
 case atStart=>exact⟨(0),(0),(by first|rfl|(simp;done)|(simp[*];done)|(simp[aJ];done)|(simp[aK];done)),(by first|rfl|(simp;done)|(simp[*];done)|(simp[aJ];done)|(simp[aK];done)),H',⟨Nat.le_refl _⟩,⟨by repeat(first|(with_reducible first|exact HB.o|apply ae|apply aa|apply af)|exact HB.o)⟩⟩
 case round=>
  clear H'
  obtain⟨x3_1,x9_1,rfl,rfl,HA,HK1,HB⟩:=hrel
  cases gk with
  |zero=>exact absurd HA.o (by simp[sound_steps.l0])
  |succ k1=>
   have H:=HA.o
   clear HA
   simp only[sound_steps.l0] at H
   by_cases c2:x9_1 < (l0.length:Int)
   ·rw[if_pos c2] at H
    have c2b0:decide (x9_1 < (l0.length:Int))=true:=decide_eq_true c2
    clear c2
    by_cases c3:0≤x9_1
    ·rw[if_pos c3] at H
     have c3b0:decide (0≤x9_1)=true:=decide_eq_true c3
     clear c3
     by_cases c4:x9_1 < (l0.length:Int)
     ·rw[if_pos c4] at H
      have c4b0:decide (x9_1 < (l0.length:Int))=true:=decide_eq_true c4
      clear c4
      by_cases c5:((x9_1 == (wrap64 ((l0.length:Int) - 1))) != (((aV l0 x9_1).f0) == 0))=true
      ·rw[if_pos c5] at H
       have c5b0:((x9_1 == (wrap64 ((l0.length:Int) - 1))) != (((aV l0 x9_1).f0) == 0))=true:=c5
       (try (have c5b1:decide ((x9_1 == (wrap64 ((l0.length:Int) - 1)))=(((aV l0 x9_1).f0) == 0))=false:=by simpa using c5))
       (try (have c5b2:((x9_1 == (wrap64 ((l0.length:Int) - 1))) == (((aV l0 x9_1).f0) == 0))=false:=by simpa using c5))
       (try (have c5b3 : ¬ ((x9_1 == (wrap64 ((l0.length:Int) - 1)))=(((aV l0 x9_1).f0) == 0)):=by simpa using c5))
       clear c5
       obtain rfl:=Option.some.inj H
       have p122:0≤(x9_1:Int):=of_decide_eq_true (by first|(with_reducible assumption)|assumption)
       have q122:x9_1 < (l0.length:Int):=of_decide_eq_true (by first|(with_reducible assumption)|assumption)
       obtain⟨ad122,e122,hx122_0,hx122_1⟩:=fK HR0.o x9_1 p122 q122
       cases e122
       replace hx122_0:=cqq HB.o hx122_0
       replace hx122_1:=cqq HB.o hx122_1
       replace p122:=eq_true p122
       replace q122:=eq_true q122
       go_wp2_with (first|((with_reducible refine aI (N:=5) rfl ?_);refine aH ?hg (N:=5) ?hd (cs:=#[.int .i64 0,.int .i64 0]) (t:=70) ?hr ?_;(case hd=>rfl);(case hg=>rfl);(case hr=>first|(go_simp;done)|(go_simp;rfl));intro gb123 hg w6 hbox hb;have n0_:=ag.mk (aj (by repeat(first|(with_reducible first|exact HB.o|apply ae|apply aa|apply af)|exact HB.o)) hb);have n1_:=ag.mk (hbox);have n2_:=ag.mk ((by rw[hg];exact(ak (by repeat(first|(with_reducible first|exact HB.o|apply ae|apply aa|apply af)|exact HB.o))):w.heap.size≤gb123));have n3_:=ag.mk ((by rw[hg];exact(ak (by repeat(first|(with_reducible first|exact HB.o|apply ae|apply aa|apply af)|exact HB.o))):w.heap.size≤gb123));clear HB;have HB:=n0_;have BK123:=n1_;have GW123:=n2_;have GE123:=n3_;clear n0_ n1_ n2_ n3_;clear hb hbox hg;have hcz7_0:w6.cell? ⟨gb123,0,none⟩=some (.int .i64 0):=(ah BK123.o 0).trans rfl;have hcz7_1:w6.cell? ⟨gb123,1,none⟩=some (.int .i64 0):=(ah BK123.o 1).trans rfl;have hfz7_0:=ai BK123.o 0;have hfz7_1:=ai BK123.o 1))
       go_ret
       exact⟨by first|rfl|(simp[ay,az] <;> rfl)|(simp[*,ay,az] <;> rfl),by repeat(first|(with_reducible first|exact HB.o|apply ae|apply aa|apply af|refine ax ?_ GE123.o)|exact HB.o)⟩
      ·rw[if_neg c5] at H
       have c5b0:((x9_1 == (wrap64 ((l0.length:Int) - 1))) != (((aV l0 x9_1).f0) == 0))=false:=by simpa using c5
       (try (have c5b1:decide ((x9_1 == (wrap64 ((l0.length:Int) - 1)))=(((aV l0 x9_1).f0) == 0))=true:=by simpa using c5))
       (try (have c5b2:((x9_1 == (wrap64 ((l0.length:Int) - 1))) == (((aV l0 x9_1).f0) == 0))=true:=by simpa using c5))
       clear c5
       by_cases c8:(x9_1=(wrap64 ((l0.length:Int) - 1)))
       ·rw[if_pos c8] at H
        have c8b0:(x9_1 == (wrap64 ((l0.length:Int) - 1)))=true:=beq_iff_eq.mpr c8
        have c8d0:(((aV l0 x9_1).f0) == 0)=true:=by (have h_:=c5b0;rw[c8b0] at h_;revert h_;generalize (((aV l0 x9_1).f0) == 0)=y_;cases y_ <;> decide)
        have c8b1:(x9_1 != (wrap64 ((l0.length:Int) - 1)))=false:=bne_eq_false_iff_eq.mpr c8
        clear c8
        replace H:=Option.bind_eq_some_iff.mp H
        obtain⟨t124,A90,H⟩:=H
        replace H:(if t124=true then (sound_steps.l0 k1 l0 ((aV l0 x9_1).f0) l0 (l0.length:Int) (wrap64 (x9_1+1))) else (some false))=some r:=H
        have A9:=ag.mk A90
        clear A90
        by_cases c10:t124=true
        ·subst c10
         have H1:(sound_steps.l0 k1 l0 ((aV l0 x9_1).f0) l0 (l0.length:Int) (wrap64 (x9_1+1)))=some r:=by rw[if_pos rfl] at H;exact H
         clear H
         have H:=H1
         clear H1
         have H':=ag.mk H
         clear H
         have p122:0≤(x9_1:Int):=of_decide_eq_true (by first|(with_reducible assumption)|assumption)
         have q122:x9_1 < (l0.length:Int):=of_decide_eq_true (by first|(with_reducible assumption)|assumption)
         obtain⟨ad122,e122,hx122_0,hx122_1⟩:=fK HR0.o x9_1 p122 q122
         cases e122
         replace hx122_0:=cqq HB.o hx122_0
         replace hx122_1:=cqq HB.o hx122_1
         replace p122:=eq_true p122
         replace q122:=eq_true q122
         go_wp2_with (first|((with_reducible refine aI (N:=5) rfl ?_);refine aH ?hg (N:=5) ?hd (cs:=#[.int .i64 0,.int .i64 0]) (t:=70) ?hr ?_;(case hd=>rfl);(case hg=>rfl);(case hr=>first|(go_simp;done)|(go_simp;rfl));intro gb123 hg w11 hbox hb;have n0_:=ag.mk (aj (by repeat(first|(with_reducible first|exact HB.o|apply ae|apply aa|apply af)|exact HB.o)) hb);have n1_:=ag.mk (hbox);have n2_:=ag.mk ((by rw[hg];exact(ak (by repeat(first|(with_reducible first|exact HB.o|apply ae|apply aa|apply af)|exact HB.o))):w.heap.size≤gb123));have n3_:=ag.mk ((by rw[hg];exact(ak (by repeat(first|(with_reducible first|exact HB.o|apply ae|apply aa|apply af)|exact HB.o))):w.heap.size≤gb123));clear HB;have HB:=n0_;have BK123:=n1_;have GW123:=n2_;have GE123:=n3_;clear n0_ n1_ n2_ n3_;clear hb hbox hg;have hcz12_0:w11.cell? ⟨gb123,0,none⟩=some (.int .i64 0):=(ah BK123.o 0).trans rfl;have hcz12_1:w11.cell? ⟨gb123,1,none⟩=some (.int .i64 0):=(ah BK123.o 1).trans rfl;have hfz12_0:=ai BK123.o 0;have hfz12_1:=ai BK123.o 1)|(go_at_call 30;(with_reducible refine(sound_within.calls ((aV l0 x9_1).f1) (-10000000) 10000000 true _ A9.o).mono ?_);rintro e w' ⟨rfl,⟨nd,rfl⟩⟩))
         go_roundg k1
         case measure=>have:=HK1.o;omega
         case rel=>exact⟨((aV l0 x9_1).f0),(wrap64 (x9_1+1)),(by first|rfl|(simp;done)|(simp[*];done)|(simp[aJ];done)|(simp[aK];done)),(by first|rfl|(simp;done)|(simp[*];done)|(simp[aJ];done)|(simp[aK];done)),H',⟨by have:=HK1.o;omega⟩,⟨by repeat(first|(with_reducible first|exact HB.o|apply ae|apply aa|apply af|refine ax ?_ GE123.o)|exact HB.o)⟩⟩
        ·replace c10:=Bool.eq_false_iff.mpr c10
         subst c10
         have H1:(some false)=some r:=by rw[if_neg (show ¬ (false=true) by decide)] at H;exact H
         clear H
         have H:=H1
         clear H1
         obtain rfl:=Option.some.inj H
         have p122:0≤(x9_1:Int):=of_decide_eq_true (by first|(with_reducible assumption)|assumption)
         have q122:x9_1 < (l0.length:Int):=of_decide_eq_true (by first|(with_reducible assumption)|assumption)
         obtain⟨ad122,e122,hx122_0,hx122_1⟩:=fK HR0.o x9_1 p122 q122
         cases e122
         replace hx122_0:=cqq HB.o hx122_0
         replace hx122_1:=cqq HB.o hx122_1
         replace p122:=eq_true p122
         replace q122:=eq_true q122
         go_wp2_with (first|((with_reducible refine aI (N:=5) rfl ?_);refine aH ?hg (N:=5) ?hd (cs:=#[.int .i64 0,.int .i64 0]) (t:=70) ?hr ?_;(case hd=>rfl);(case hg=>rfl);(case hr=>first|(go_simp;done)|(go_simp;rfl));intro gb123 hg w13 hbox hb;have n0_:=ag.mk (aj (by repeat(first|(with_reducible first|exact HB.o|apply ae|apply aa|apply af)|exact HB.o)) hb);have n1_:=ag.mk (hbox);have n2_:=ag.mk ((by rw[hg];exact(ak (by repeat(first|(with_reducible first|exact HB.o|apply ae|apply aa|apply af)|exact HB.o))):w.heap.size≤gb123));have n3_:=ag.mk ((by rw[hg];exact(ak (by repeat(first|(with_reducible first|exact HB.o|apply ae|apply aa|apply af)|exact HB.o))):w.heap.size≤gb123));clear HB;have HB:=n0_;have BK123:=n1_;have GW123:=n2_;have GE123:=n3_;clear n0_ n1_ n2_ n3_;clear hb hbox hg;have hcz14_0:w13.cell? ⟨gb123,0,none⟩=some (.int .i64 0):=(ah BK123.o 0).trans rfl;have hcz14_1:w13.cell? ⟨gb123,1,none⟩=some (.int .i64 0):=(ah BK123.o 1).trans rfl;have hfz14_0:=ai BK123.o 0;have hfz14_1:=ai BK123.o 1)|(go_at_call 30;(with_reducible refine(sound_within.calls ((aV l0 x9_1).f1) (-10000000) 10000000 false _ A9.o).mono ?_);rintro e w' ⟨rfl,⟨nd,rfl⟩⟩))
         go_ret
         exact⟨by first|rfl|(simp[ay,az] <;> rfl)|(simp[*,ay,az] <;> rfl),by repeat(first|(with_reducible first|exact HB.o|apply ae|apply aa|apply af|refine ax ?_ GE123.o)|exact HB.o)⟩
       ·rw[if_neg c8] at H
        have c8b0:(x9_1 == (wrap64 ((l0.length:Int) - 1)))=false:=beq_eq_false_iff_ne.mpr c8
        have c8d0:(((aV l0 x9_1).f0) == 0)=false:=by (have h_:=c5b0;rw[c8b0] at h_;revert h_;generalize (((aV l0 x9_1).f0) == 0)=y_;cases y_ <;> decide)
        have c8b1:(x9_1 != (wrap64 ((l0.length:Int) - 1)))=true:=bne_iff_ne.mpr c8
        by_cases c15:((aV l0 x9_1).f0)≤x3_1
        ·rw[if_pos c15] at H
         have c15b0:decide (((aV l0 x9_1).f0)≤x3_1)=true:=decide_eq_true c15
         clear c15
         obtain rfl:=Option.some.inj H
         have p122:0≤(x9_1:Int):=of_decide_eq_true (by first|(with_reducible assumption)|assumption)
         have q122:x9_1 < (l0.length:Int):=of_decide_eq_true (by first|(with_reducible assumption)|assumption)
         obtain⟨ad122,e122,hx122_0,hx122_1⟩:=fK HR0.o x9_1 p122 q122
         cases e122
         replace hx122_0:=cqq HB.o hx122_0
         replace hx122_1:=cqq HB.o hx122_1
         replace p122:=eq_true p122
         replace q122:=eq_true q122
         go_wp2_with (first|((with_reducible refine aI (N:=5) rfl ?_);refine aH ?hg (N:=5) ?hd (cs:=#[.int .i64 0,.int .i64 0]) (t:=70) ?hr ?_;(case hd=>rfl);(case hg=>rfl);(case hr=>first|(go_simp;done)|(go_simp;rfl));intro gb123 hg w16 hbox hb;have n0_:=ag.mk (aj (by repeat(first|(with_reducible first|exact HB.o|apply ae|apply aa|apply af)|exact HB.o)) hb);have n1_:=ag.mk (hbox);have n2_:=ag.mk ((by rw[hg];exact(ak (by repeat(first|(with_reducible first|exact HB.o|apply ae|apply aa|apply af)|exact HB.o))):w.heap.size≤gb123));have n3_:=ag.mk ((by rw[hg];exact(ak (by repeat(first|(with_reducible first|exact HB.o|apply ae|apply aa|apply af)|exact HB.o))):w.heap.size≤gb123));clear HB;have HB:=n0_;have BK123:=n1_;have GW123:=n2_;have GE123:=n3_;clear n0_ n1_ n2_ n3_;clear hb hbox hg;have hcz17_0:w16.cell? ⟨gb123,0,none⟩=some (.int .i64 0):=(ah BK123.o 0).trans rfl;have hcz17_1:w16.cell? ⟨gb123,1,none⟩=some (.int .i64 0):=(ah BK123.o 1).trans rfl;have hfz17_0:=ai BK123.o 0;have hfz17_1:=ai BK123.o 1))
         go_ret
         exact⟨by first|rfl|(simp[ay,az] <;> rfl)|(simp[*,ay,az] <;> rfl),by repeat(first|(with_reducible first|exact HB.o|apply ae|apply aa|apply af|refine ax ?_ GE123.o)|exact HB.o)⟩
        ·rw[if_neg c15] at H
         have c15b0:decide (((aV l0 x9_1).f0)≤x3_1)=false:=decide_eq_false c15
         clear c15
         by_cases c18:((aV l0 x9_1).f0) > 500000000000000
         ·rw[if_pos c18] at H
          have c18b0:decide (500000000000000 < ((aV l0 x9_1).f0))=true:=decide_eq_true c18
          clear c18
          obtain rfl:=Option.some.inj H
          have p122:0≤(x9_1:Int):=of_decide_eq_true (by first|(with_reducible assumption)|assumption)
          have q122:x9_1 < (l0.length:Int):=of_decide_eq_true (by first|(with_reducible assumption)|assumption)
          obtain⟨ad122,e122,hx122_0,hx122_1⟩:=fK HR0.o x9_1 p122 q122
          cases e122
          replace hx122_0:=cqq HB.o hx122_0
          replace hx122_1:=cqq HB.o hx122_1
          replace p122:=eq_true p122
          replace q122:=eq_true q122
          go_wp2_with (first|((with_reducible refine aI (N:=5) rfl ?_);refine aH ?hg (N:=5) ?hd (cs:=#[.int .i64 0,.int .i64 0]) (t:=70) ?hr ?_;(case hd=>rfl);(case hg=>rfl);(case hr=>first|(go_simp;done)|(go_simp;rfl));intro gb123 hg w19 hbox hb;have n0_:=ag.mk (aj (by repeat(first|(with_reducible first|exact HB.o|apply ae|apply aa|apply af)|exact HB.o)) hb);have n1_:=ag.mk (hbox);have n2_:=ag.mk ((by rw[hg];exact(ak (by repeat(first|(with_reducible first|exact HB.o|apply ae|apply aa|apply af)|exact HB.o))):w.heap.size≤gb123));have n3_:=ag.mk ((by rw[hg];exact(ak (by repeat(first|(with_reducible first|exact HB.o|apply ae|apply aa|apply af)|exact HB.o))):w.heap.size≤gb123));clear HB;have HB:=n0_;have BK123:=n1_;have GW123:=n2_;have GE123:=n3_;clear n0_ n1_ n2_ n3_;clear hb hbox hg;have hcz20_0:w19.cell? ⟨gb123,0,none⟩=some (.int .i64 0):=(ah BK123.o 0).trans rfl;have hcz20_1:w19.cell? ⟨gb123,1,none⟩=some (.int .i64 0):=(ah BK123.o 1).trans rfl;have hfz20_0:=ai BK123.o 0;have hfz20_1:=ai BK123.o 1))
          go_ret
          exact⟨by first|rfl|(simp[ay,az] <;> rfl)|(simp[*,ay,az] <;> rfl),by repeat(first|(with_reducible first|exact HB.o|apply ae|apply aa|apply af|refine ax ?_ GE123.o)|exact HB.o)⟩
         ·rw[if_neg c18] at H
          have c18b0:decide (500000000000000 < ((aV l0 x9_1).f0))=false:=decide_eq_false c18
          clear c18
          replace H:=Option.bind_eq_some_iff.mp H
          obtain⟨t125,A210,H⟩:=H
          replace H:(if t125=true then (sound_steps.l0 k1 l0 ((aV l0 x9_1).f0) l0 (l0.length:Int) (wrap64 (x9_1+1))) else (some false))=some r:=H
          have A21:=ag.mk A210
          clear A210
          by_cases c22:t125=true
          ·subst c22
           have H1:(sound_steps.l0 k1 l0 ((aV l0 x9_1).f0) l0 (l0.length:Int) (wrap64 (x9_1+1)))=some r:=by rw[if_pos rfl] at H;exact H
           clear H
           have H:=H1
           clear H1
           have H':=ag.mk H
           clear H
           have p122:0≤(x9_1:Int):=of_decide_eq_true (by first|(with_reducible assumption)|assumption)
           have q122:x9_1 < (l0.length:Int):=of_decide_eq_true (by first|(with_reducible assumption)|assumption)
           obtain⟨ad122,e122,hx122_0,hx122_1⟩:=fK HR0.o x9_1 p122 q122
           cases e122
           replace hx122_0:=cqq HB.o hx122_0
           replace hx122_1:=cqq HB.o hx122_1
           replace p122:=eq_true p122
           replace q122:=eq_true q122
           go_wp2_with (first|((with_reducible refine aI (N:=5) rfl ?_);refine aH ?hg (N:=5) ?hd (cs:=#[.int .i64 0,.int .i64 0]) (t:=70) ?hr ?_;(case hd=>rfl);(case hg=>rfl);(case hr=>first|(go_simp;done)|(go_simp;rfl));intro gb123 hg w23 hbox hb;have n0_:=ag.mk (aj (by repeat(first|(with_reducible first|exact HB.o|apply ae|apply aa|apply af)|exact HB.o)) hb);have n1_:=ag.mk (hbox);have n2_:=ag.mk ((by rw[hg];exact(ak (by repeat(first|(with_reducible first|exact HB.o|apply ae|apply aa|apply af)|exact HB.o))):w.heap.size≤gb123));have n3_:=ag.mk ((by rw[hg];exact(ak (by repeat(first|(with_reducible first|exact HB.o|apply ae|apply aa|apply af)|exact HB.o))):w.heap.size≤gb123));clear HB;have HB:=n0_;have BK123:=n1_;have GW123:=n2_;have GE123:=n3_;clear n0_ n1_ n2_ n3_;clear hb hbox hg;have hcz24_0:w23.cell? ⟨gb123,0,none⟩=some (.int .i64 0):=(ah BK123.o 0).trans rfl;have hcz24_1:w23.cell? ⟨gb123,1,none⟩=some (.int .i64 0):=(ah BK123.o 1).trans rfl;have hfz24_0:=ai BK123.o 0;have hfz24_1:=ai BK123.o 1)|(go_at_call 30;(with_reducible refine(sound_within.calls ((aV l0 x9_1).f1) (-10000000) 10000000 true _ A21.o).mono ?_);rintro e w' ⟨rfl,⟨nd,rfl⟩⟩))
           go_roundg k1
           case measure=>have:=HK1.o;omega
           case rel=>exact⟨((aV l0 x9_1).f0),(wrap64 (x9_1+1)),(by first|rfl|(simp;done)|(simp[*];done)|(simp[aJ];done)|(simp[aK];done)),(by first|rfl|(simp;done)|(simp[*];done)|(simp[aJ];done)|(simp[aK];done)),H',⟨by have:=HK1.o;omega⟩,⟨by repeat(first|(with_reducible first|exact HB.o|apply ae|apply aa|apply af|refine ax ?_ GE123.o)|exact HB.o)⟩⟩
          ·replace c22:=Bool.eq_false_iff.mpr c22
           subst c22
           have H1:(some false)=some r:=by rw[if_neg (show ¬ (false=true) by decide)] at H;exact H
           clear H
           have H:=H1
           clear H1
           obtain rfl:=Option.some.inj H
           have p122:0≤(x9_1:Int):=of_decide_eq_true (by first|(with_reducible assumption)|assumption)
           have q122:x9_1 < (l0.length:Int):=of_decide_eq_true (by first|(with_reducible assumption)|assumption)
           obtain⟨ad122,e122,hx122_0,hx122_1⟩:=fK HR0.o x9_1 p122 q122
           cases e122
           replace hx122_0:=cqq HB.o hx122_0
           replace hx122_1:=cqq HB.o hx122_1
           replace p122:=eq_true p122
           replace q122:=eq_true q122
           go_wp2_with (first|((with_reducible refine aI (N:=5) rfl ?_);refine aH ?hg (N:=5) ?hd (cs:=#[.int .i64 0,.int .i64 0]) (t:=70) ?hr ?_;(case hd=>rfl);(case hg=>rfl);(case hr=>first|(go_simp;done)|(go_simp;rfl));intro gb123 hg w25 hbox hb;have n0_:=ag.mk (aj (by repeat(first|(with_reducible first|exact HB.o|apply ae|apply aa|apply af)|exact HB.o)) hb);have n1_:=ag.mk (hbox);have n2_:=ag.mk ((by rw[hg];exact(ak (by repeat(first|(with_reducible first|exact HB.o|apply ae|apply aa|apply af)|exact HB.o))):w.heap.size≤gb123));have n3_:=ag.mk ((by rw[hg];exact(ak (by repeat(first|(with_reducible first|exact HB.o|apply ae|apply aa|apply af)|exact HB.o))):w.heap.size≤gb123));clear HB;have HB:=n0_;have BK123:=n1_;have GW123:=n2_;have GE123:=n3_;clear n0_ n1_ n2_ n3_;clear hb hbox hg;have hcz26_0:w25.cell? ⟨gb123,0,none⟩=some (.int .i64 0):=(ah BK123.o 0).trans rfl;have hcz26_1:w25.cell? ⟨gb123,1,none⟩=some (.int .i64 0):=(ah BK123.o 1).trans rfl;have hfz26_0:=ai BK123.o 0;have hfz26_1:=ai BK123.o 1)|(go_at_call 30;(with_reducible refine(sound_within.calls ((aV l0 x9_1).f1) (-10000000) 10000000 false _ A21.o).mono ?_);rintro e w' ⟨rfl,⟨nd,rfl⟩⟩))
           go_ret
           exact⟨by first|rfl|(simp[ay,az] <;> rfl)|(simp[*,ay,az] <;> rfl),by repeat(first|(with_reducible first|exact HB.o|apply ae|apply aa|apply af|refine ax ?_ GE123.o)|exact HB.o)⟩
     ·rw[if_neg c4] at H
      exact absurd H (by simp)
    ·rw[if_neg c3] at H
     exact absurd H (by simp)
   ·rw[if_neg c2] at H
    have c2b0:decide (x9_1 < (l0.length:Int))=false:=decide_eq_false c2
    clear c2
    replace H:=Option.bind_eq_some_iff.mp H
    obtain⟨t126,A270,H⟩:=H
    replace H:(some t126)=some r:=H
    have A27:=ag.mk A270
    clear A270
    obtain rfl:=Option.some.inj H
    go_wp2_with (first|((with_reducible refine aR (f:=30) rfl ?_);refine aZ (some 50) rfl rfl Tryd.func30 (by kernel_rfl) rfl #[.int .i64 (l0.length:Int),.int .i64 1,.int .i64 64] rfl (by (try simp only[List.map_toArray,List.map_cons,List.map_nil]);first|done|rfl|(simp only[List.length_drop,List.length_take];rfl)) ?_;(with_reducible refine(sound_within.calls (l0.length:Int) 1 64 t126 _ A27.o).mono ?_);rintro e w' ⟨rfl,⟨nd,rfl⟩⟩;refine⟨_,rfl,?_⟩))
    go_ret
    exact⟨by first|rfl|(simp[ay,az] <;> rfl)|(simp[*,ay,az] <;> rfl),by repeat(first|(with_reducible first|exact HB.o|apply ae|apply aa|apply af)|exact HB.o)⟩
def sound_blocks.go:Nat → List S48 → List (List UInt8) → Option Bool
 |_,[],_=>some true
 |k,b :: t,ns=>if b.f0.size≤140737488355328 then if b.f0.data.toList∈ns then some false else (scan_Name.f b.f0).bind fun g=>if g=false then some false else (sound_steps.f k b.f1).bind fun g2=>if g2=false then some false else sound_blocks.go k t (b.f0.data.toList :: ns) else none
def sound_blocks.f (k:Nat) (l0:List S48):Option Bool:=if l0.length≤4398046511104 then (sound_blocks.go k l0 []).bind fun g=>if g=true then sound_within.f (l0.length:Int) 1 64 else some false else none
set_option maxHeartbeats 8000000 in
set_option maxRecDepth 100000 in
theorem sound_blocks.calls (k:Nat) (A0:Option Addr) (c0:Nat) (l0:List S48) (r:Bool) (w:World) (hr0:Kd.C k48 w A0 l0.length l0) (hc0:l0.length≤c0) (h:sound_blocks.f k l0=some r) :
  Calls Tryd.prog 33 #[.slice A0 l0.length c0] w fun e w'=>e = .returned (.bool r)∧Below w.heap.size w w':=by
 have hu48:=Tryd.underlying48
 have HR0:=ag.mk hr0
 have HC0:=ag.mk hc0
 clear hr0 hc0
 unfold sound_blocks.f at h
 by_cases hl:l0.length≤4398046511104
 ·rw[if_pos hl] at h
  obtain⟨g,H,h⟩:=Option.bind_eq_some_iff.mp h
  have H':=ag.mk H
  clear H
  have h':=ag.mk h
  clear h
  have HBS:=ag.mk (ae (Below.refl w.heap.size w) (.map #[] 0))
  have HMS:=ag.mk (MSet.made w)
  have hmm:=@run_makeMap Tryd.prog
  go_enter Tryd.func33,Tryd.ntmps33
  go_wp2
  go_loopg [9] l0.length (fun kq v9 wr=>∃ (i:Nat) (ns:List (List UInt8)),v9 = .int .i64 (i:Int)∧i≤l0.length∧ag (kq=l0.length - i)∧ag (ns.length=i)∧ag (sound_blocks.go k (l0.drop i) ns=some g)∧ag (MSet wr w.heap.size ns)∧ag (Below w.heap.size w wr))
  case atStart=>exact⟨0,[],by first|rfl|simp,Nat.zero_le _,⟨rfl⟩,⟨rfl⟩,H',HMS,HBS⟩
  case round=>
   clear HBS HMS H'
   obtain⟨i,ns,rfl,hi,HK,HN,HA,HM,HB0⟩:=hrel
   by_cases hlt:i < l0.length
   ·have b0:decide ((i:Int) < (l0.length:Int))=true:=decide_eq_true (by omega)
    have HA2:=HA.o
    clear HA
    rw[List.drop_eq_getElem_cons hlt] at HA2
    obtain⟨ad,A1_,c1_,e,hx0,hx1,l1,g1⟩:=ek HR0.o (i:Int) (by omega) (by omega)
    have erd:bu l0 (i:Int)=l0[i]:=by unfold bu;rw[Int.toNat_natCast,List.getD_eq_getElem?_getD,List.getElem?_eq_getElem hlt];rfl
    rw[← erd] at HA2
    obtain rfl:=e
    rw[Int.toNat_natCast] at hx0 hx1
    replace hx0:=(HB0.o.cell (World.block_lt_of_cell? w _ hx0)).trans hx0
    replace hx1:=(HB0.o.cell (World.block_lt_of_cell? w _ hx1)).trans hx1
    replace g1:=ag.mk g1
    have p0:0≤(i:Int):=by omega
    have q0:(i:Int) < (l0.length:Int):=by omega
    replace p0:=eq_true p0
    replace q0:=eq_true q0
    clear erd
    generalize bu l0 (i:Int)=bn at hx0 hx1 HA2 l1 g1
    have HB:=ag.mk (Below.refl wr.heap.size wr)
    unfold sound_blocks.go at HA2
    by_cases hz:bn.f0.size≤140737488355328
    ·rw[if_pos hz] at HA2
     have HZ:=ag.mk hz
     clear hz
     by_cases hm:bn.f0.data.toList∈ns
     ·rw[if_pos hm] at HA2
      have hmb:decide (bn.f0.data.toList∈ns)=true:=decide_eq_true hm
      cases HA2
      have hr:=Option.some.inj (show some false=some r from h'.o)
      subst hr
      clear hm
      go_wp2_with (first|((with_reducible refine aI (N:=5) rfl ?_);refine aH ?hg (N:=5) ?hd (cs:=#[.string ⟨#[]⟩,.slice none 0 0]) (t:=48) ?hr ?_;(case hd=>rfl);(case hg=>rfl);(case hr=>first|(go_simp;done)|(go_simp;rfl));intro gb hg_ w7 hbox hb_;have n0_:=ag.mk (aj (by repeat(first|(with_reducible first|exact HB.o|apply ae|apply aa|apply af)|exact HB.o)) hb_);have n1_:=ag.mk (hbox);have n2_:=ag.mk ((by rw[hg_];exact(ak (by repeat(first|(with_reducible first|exact HB.o|apply ae|apply aa|apply af)|exact HB.o)))):wr.heap.size≤gb);clear HB;have HB:=n0_;have BKb:=n1_;have GEb:=n2_;clear n0_ n1_ n2_;clear hb_ hbox hg_;have hcb_0:w7.cell? ⟨gb,0,none⟩=some (.string ⟨#[]⟩):=(ah BKb.o 0).trans rfl;have hcb_1:w7.cell? ⟨gb,1,none⟩=some (.slice none 0 0):=(ah BKb.o 1).trans rfl;have hfb_0:=ai BKb.o 0;have hfb_1:=ai BKb.o 1)|(at_lookup;refine aU _ (by rfl) _ _ rfl w.heap.size ns bn.f0 HZ.o rfl (HM.o.below (by repeat(first|(with_reducible first|exact HB.o|apply ae|apply aa|apply af|refine ax ?_ GEb.o)|exact HB.o))) rfl ?_))
      go_ret
      exact⟨rfl,aj HB0.o (by repeat(first|(with_reducible first|exact HB.o|apply ae|apply aa|apply af|refine ax ?_ GEb.o)|exact HB.o))⟩
     ·rw[if_neg hm] at HA2
      have hmb:decide (bn.f0.data.toList∈ns)=false:=decide_eq_false hm
      clear hm
      obtain⟨t1,A1,HA2⟩:=Option.bind_eq_some_iff.mp HA2
      replace A1:=ag.mk A1
      cases t1 with
      |false=>
       rw[if_pos rfl] at HA2
       cases HA2
       have hr:=Option.some.inj (show some false=some r from h'.o)
       subst hr
       go_wp2_with (first|((with_reducible refine aI (N:=5) rfl ?_);refine aH ?hg (N:=5) ?hd (cs:=#[.string ⟨#[]⟩,.slice none 0 0]) (t:=48) ?hr ?_;(case hd=>rfl);(case hg=>rfl);(case hr=>first|(go_simp;done)|(go_simp;rfl));intro gb hg_ w7 hbox hb_;have n0_:=ag.mk (aj (by repeat(first|(with_reducible first|exact HB.o|apply ae|apply aa|apply af)|exact HB.o)) hb_);have n1_:=ag.mk (hbox);have n2_:=ag.mk ((by rw[hg_];exact(ak (by repeat(first|(with_reducible first|exact HB.o|apply ae|apply aa|apply af)|exact HB.o)))):wr.heap.size≤gb);clear HB;have HB:=n0_;have BKb:=n1_;have GEb:=n2_;clear n0_ n1_ n2_;clear hb_ hbox hg_;have hcb_0:w7.cell? ⟨gb,0,none⟩=some (.string ⟨#[]⟩):=(ah BKb.o 0).trans rfl;have hcb_1:w7.cell? ⟨gb,1,none⟩=some (.slice none 0 0):=(ah BKb.o 1).trans rfl;have hfb_0:=ai BKb.o 0;have hfb_1:=ai BKb.o 1)|(at_lookup;refine aU _ (by rfl) _ _ rfl w.heap.size ns bn.f0 HZ.o rfl (HM.o.below (by repeat(first|(with_reducible first|exact HB.o|apply ae|apply aa|apply af|refine ax ?_ GEb.o)|exact HB.o))) rfl ?_)|(go_at_call 28;(with_reducible refine(scan_Name.calls bn.f0 _ _ A1.o).mono ?_);rintro e w8 ⟨rfl,hb⟩;have n1_:=ag.mk (aN (g:=gb) (o:=.cells #[.string bn.f0,.slice A1_ bn.f1.length c1_] 48 (0,0)) (by (with_reducible repeat(first|refine av ?_ _|refine aA ?_|refine au ?_ _));refine aX (cs:=#[.string bn.f0,.slice none 0 0]) ?_ 1 _ rfl;(with_reducible repeat(first|refine av ?_ _|refine aA ?_|refine au ?_ _));refine aX (cs:=#[.string ⟨#[]⟩,.slice none 0 0]) ?_ 0 _ rfl;(with_reducible repeat(first|refine av ?_ _|refine aA ?_|refine au ?_ _));exact BKb.o) hb);have n0_:=ag.mk (aj (by repeat(first|(with_reducible first|exact HB.o|apply ae|apply aa|apply af|refine ax ?_ GEb.o)|exact HB.o)) hb);clear HB BKb;have HB:=n0_;have BKb:=n1_;clear n0_ n1_;have hcw8b_0:w8.cell? ⟨gb,0,none⟩=some (.string bn.f0):=(ah BKb.o 0).trans rfl;have hcw8b_1:w8.cell? ⟨gb,1,none⟩=some (.slice A1_ bn.f1.length c1_):=(ah BKb.o 1).trans rfl;(try clear hb);(try clear hb2);(try clear hk);(try clear hi)))
       go_ret
       exact⟨rfl,aj HB0.o (by repeat(first|(with_reducible first|exact HB.o|apply ae|apply aa|apply af|refine ax ?_ GEb.o)|exact HB.o))⟩
      |true=>
       rw[if_neg (by simp)] at HA2
       obtain⟨t2,A2,HA2⟩:=Option.bind_eq_some_iff.mp HA2
       replace A2:=ag.mk A2
       cases t2 with
       |false=>
        rw[if_pos rfl] at HA2
        cases HA2
        have hr:=Option.some.inj (show some false=some r from h'.o)
        subst hr
        go_wp2_with (first|((with_reducible refine aI (N:=5) rfl ?_);refine aH ?hg (N:=5) ?hd (cs:=#[.string ⟨#[]⟩,.slice none 0 0]) (t:=48) ?hr ?_;(case hd=>rfl);(case hg=>rfl);(case hr=>first|(go_simp;done)|(go_simp;rfl));intro gb hg_ w7 hbox hb_;have n0_:=ag.mk (aj (by repeat(first|(with_reducible first|exact HB.o|apply ae|apply aa|apply af)|exact HB.o)) hb_);have n1_:=ag.mk (hbox);have n2_:=ag.mk ((by rw[hg_];exact(ak (by repeat(first|(with_reducible first|exact HB.o|apply ae|apply aa|apply af)|exact HB.o)))):wr.heap.size≤gb);clear HB;have HB:=n0_;have BKb:=n1_;have GEb:=n2_;clear n0_ n1_ n2_;clear hb_ hbox hg_;have hcb_0:w7.cell? ⟨gb,0,none⟩=some (.string ⟨#[]⟩):=(ah BKb.o 0).trans rfl;have hcb_1:w7.cell? ⟨gb,1,none⟩=some (.slice none 0 0):=(ah BKb.o 1).trans rfl;have hfb_0:=ai BKb.o 0;have hfb_1:=ai BKb.o 1)|(at_lookup;refine aU _ (by rfl) _ _ rfl w.heap.size ns bn.f0 HZ.o rfl (HM.o.below (by repeat(first|(with_reducible first|exact HB.o|apply ae|apply aa|apply af|refine ax ?_ GEb.o)|exact HB.o))) rfl ?_)|(go_at_call 28;(with_reducible refine(scan_Name.calls bn.f0 _ _ A1.o).mono ?_);rintro e w8 ⟨rfl,hb⟩;have n1_:=ag.mk (aN (g:=gb) (o:=.cells #[.string bn.f0,.slice A1_ bn.f1.length c1_] 48 (0,0)) (by (with_reducible repeat(first|refine av ?_ _|refine aA ?_|refine au ?_ _));refine aX (cs:=#[.string bn.f0,.slice none 0 0]) ?_ 1 _ rfl;(with_reducible repeat(first|refine av ?_ _|refine aA ?_|refine au ?_ _));refine aX (cs:=#[.string ⟨#[]⟩,.slice none 0 0]) ?_ 0 _ rfl;(with_reducible repeat(first|refine av ?_ _|refine aA ?_|refine au ?_ _));exact BKb.o) hb);have n0_:=ag.mk (aj (by repeat(first|(with_reducible first|exact HB.o|apply ae|apply aa|apply af|refine ax ?_ GEb.o)|exact HB.o)) hb);clear HB BKb;have HB:=n0_;have BKb:=n1_;clear n0_ n1_;have hcw8b_0:w8.cell? ⟨gb,0,none⟩=some (.string bn.f0):=(ah BKb.o 0).trans rfl;have hcw8b_1:w8.cell? ⟨gb,1,none⟩=some (.slice A1_ bn.f1.length c1_):=(ah BKb.o 1).trans rfl;(try clear hb);(try clear hb2);(try clear hk);(try clear hi))|(go_at_call 46;(with_reducible refine(sound_steps.calls k A1_ c1_ bn.f1 _ _ (Kd.bg g1.o (aj HB0.o (by repeat(first|(with_reducible first|exact HB.o|apply ae|apply aa|apply af|refine ax ?_ GEb.o)|exact HB.o)))) l1 A2.o).mono ?_);rintro e w9 ⟨rfl,hb⟩;have n1_:=ag.mk (aN (g:=gb) (o:=.cells #[.string bn.f0,.slice A1_ bn.f1.length c1_] 48 (0,0)) (by (with_reducible repeat(first|refine av ?_ _|refine aA ?_|refine au ?_ _));exact BKb.o) hb);have n0_:=ag.mk (aj (by repeat(first|(with_reducible first|exact HB.o|apply ae|apply aa|apply af|refine ax ?_ GEb.o)|exact HB.o)) hb);clear HB BKb;have HB:=n0_;have BKb:=n1_;clear n0_ n1_;have hcw9b_0:w9.cell? ⟨gb,0,none⟩=some (.string bn.f0):=(ah BKb.o 0).trans rfl;have hcw9b_1:w9.cell? ⟨gb,1,none⟩=some (.slice A1_ bn.f1.length c1_):=(ah BKb.o 1).trans rfl;(try clear hb);(try clear hb2);(try clear hk);(try clear hi)))
        go_ret
        exact⟨rfl,aj HB0.o (by repeat(first|(with_reducible first|exact HB.o|apply ae|apply aa|apply af|refine ax ?_ GEb.o)|exact HB.o))⟩
       |true=>
        rw[if_neg (by simp)] at HA2
        have HA3:=ag.mk HA2
        clear HA2
        go_wp2_with (first|((with_reducible refine aI (N:=5) rfl ?_);refine aH ?hg (N:=5) ?hd (cs:=#[.string ⟨#[]⟩,.slice none 0 0]) (t:=48) ?hr ?_;(case hd=>rfl);(case hg=>rfl);(case hr=>first|(go_simp;done)|(go_simp;rfl));intro gb hg_ w7 hbox hb_;have n0_:=ag.mk (aj (by repeat(first|(with_reducible first|exact HB.o|apply ae|apply aa|apply af)|exact HB.o)) hb_);have n1_:=ag.mk (hbox);have n2_:=ag.mk ((by rw[hg_];exact(ak (by repeat(first|(with_reducible first|exact HB.o|apply ae|apply aa|apply af)|exact HB.o)))):wr.heap.size≤gb);clear HB;have HB:=n0_;have BKb:=n1_;have GEb:=n2_;clear n0_ n1_ n2_;clear hb_ hbox hg_;have hcb_0:w7.cell? ⟨gb,0,none⟩=some (.string ⟨#[]⟩):=(ah BKb.o 0).trans rfl;have hcb_1:w7.cell? ⟨gb,1,none⟩=some (.slice none 0 0):=(ah BKb.o 1).trans rfl;have hfb_0:=ai BKb.o 0;have hfb_1:=ai BKb.o 1)|(at_lookup;refine aU _ (by rfl) _ _ rfl w.heap.size ns bn.f0 HZ.o rfl (HM.o.below (by repeat(first|(with_reducible first|exact HB.o|apply ae|apply aa|apply af|refine ax ?_ GEb.o)|exact HB.o))) rfl ?_)|(go_at_call 28;(with_reducible refine(scan_Name.calls bn.f0 _ _ A1.o).mono ?_);rintro e w8 ⟨rfl,hb⟩;have n1_:=ag.mk (aN (g:=gb) (o:=.cells #[.string bn.f0,.slice A1_ bn.f1.length c1_] 48 (0,0)) (by (with_reducible repeat(first|refine av ?_ _|refine aA ?_|refine au ?_ _));refine aX (cs:=#[.string bn.f0,.slice none 0 0]) ?_ 1 _ rfl;(with_reducible repeat(first|refine av ?_ _|refine aA ?_|refine au ?_ _));refine aX (cs:=#[.string ⟨#[]⟩,.slice none 0 0]) ?_ 0 _ rfl;(with_reducible repeat(first|refine av ?_ _|refine aA ?_|refine au ?_ _));exact BKb.o) hb);have n0_:=ag.mk (aj (by repeat(first|(with_reducible first|exact HB.o|apply ae|apply aa|apply af|refine ax ?_ GEb.o)|exact HB.o)) hb);clear HB BKb;have HB:=n0_;have BKb:=n1_;clear n0_ n1_;have hcw8b_0:w8.cell? ⟨gb,0,none⟩=some (.string bn.f0):=(ah BKb.o 0).trans rfl;have hcw8b_1:w8.cell? ⟨gb,1,none⟩=some (.slice A1_ bn.f1.length c1_):=(ah BKb.o 1).trans rfl;(try clear hb);(try clear hb2);(try clear hk);(try clear hi))|(go_at_call 46;(with_reducible refine(sound_steps.calls k A1_ c1_ bn.f1 _ _ (Kd.bg g1.o (aj HB0.o (by repeat(first|(with_reducible first|exact HB.o|apply ae|apply aa|apply af|refine ax ?_ GEb.o)|exact HB.o)))) l1 A2.o).mono ?_);rintro e w9 ⟨rfl,hb⟩;have n1_:=ag.mk (aN (g:=gb) (o:=.cells #[.string bn.f0,.slice A1_ bn.f1.length c1_] 48 (0,0)) (by (with_reducible repeat(first|refine av ?_ _|refine aA ?_|refine au ?_ _));exact BKb.o) hb);have n0_:=ag.mk (aj (by repeat(first|(with_reducible first|exact HB.o|apply ae|apply aa|apply af|refine ax ?_ GEb.o)|exact HB.o)) hb);clear HB BKb;have HB:=n0_;have BKb:=n1_;clear n0_ n1_;have hcw9b_0:w9.cell? ⟨gb,0,none⟩=some (.string bn.f0):=(ah BKb.o 0).trans rfl;have hcw9b_1:w9.cell? ⟨gb,1,none⟩=some (.slice A1_ bn.f1.length c1_):=(ah BKb.o 1).trans rfl;(try clear hb);(try clear hb2);(try clear hk);(try clear hi))|(at_mapUpdate;refine bS _ rfl _ _ _ rfl w.heap.size ns bn.f0 HZ.o rfl (HM.o.below (by repeat(first|(with_reducible first|exact HB.o|apply ae|apply aa|apply af|refine ax ?_ GEb.o)|exact HB.o))) (by have:=HN.o;omega) rfl rfl ?_;intro w10 hm2 hg2;have HM2:=ag.mk hm2;have HB2:=ag.mk ((aj HB0.o (by repeat(first|(with_reducible first|exact HB.o|apply ae|apply aa|apply af|refine ax ?_ GEb.o)|exact HB.o))).grown hg2 (ak (aj HB0.o (by repeat(first|(with_reducible first|exact HB.o|apply ae|apply aa|apply af|refine ax ?_ GEb.o)|exact HB.o)))) (fun k hk=>by cases hk;exact Nat.le_refl _));clear hm2 hg2))
        go_roundg (l0.length - (i+1))
        case measure=>have:=HK.o;omega
        case rel=>exact⟨i+1,_,(by first|rfl|go_num),hlt,⟨rfl⟩,⟨by have:=HN.o;simp[this]⟩,HA3,HM2,HB2⟩
    ·rw[if_neg hz] at HA2
     cases HA2
   ·have b0:decide ((i:Int) < (l0.length:Int))=false:=decide_eq_false (by omega)
    have HA2:=HA.o
    rw[List.drop_of_length_le (by omega)] at HA2
    have hg:true=g:=Option.some.inj HA2
    subst hg
    have A4:=ag.mk (show sound_within.f (l0.length:Int) 1 64=some r from h'.o)
    go_wp2_with (first|(go_at_call 30;(with_reducible refine(sound_within.calls (l0.length:Int) 1 64 r _ A4.o).mono ?_);rintro e w11 ⟨rfl,⟨nd9,rfl⟩⟩))
    go_ret
    exact⟨rfl,by repeat(first|exact HB0.o|apply ae|apply aa|apply af)⟩
 ·rw[if_neg hl] at h
  cases h
def civil_Weekday.f (a0_0:Int) (a0_1:Int) (a0_2:Int):Option (Int × Int):=(civil_Days.f a0_0 a0_1 a0_2).bind fun bt128=>(if bt128.2=0 then (some (Int.tmod (wrap64 ((Int.tmod (wrap64 (bt128.1+3)) 7)+7)) 7,0)) else (some (0,bt128.2)))
set_option maxHeartbeats 8000000 in
set_option maxRecDepth 100000 in
theorem civil_Weekday.calls (a0_0:Int) (a0_1:Int) (a0_2:Int) (r1:Int) (r2:Int) (w:World) (h:civil_Weekday.f a0_0 a0_1 a0_2=some (r1,r2)) :
  Calls Tryd.prog 64 #[.agg #[.int .i64 a0_0,.int .i64 a0_1,.int .i64 a0_2]] w fun e w'=>e = .returned (.tuple #[.int .i64 r1,.int .i64 r2])∧Below w.heap.size w w':=by
 have hu68:=Tryd.underlying68
 have HB:=ag.mk (Below.refl w.heap.size w)
 have H:((civil_Days.f a0_0 a0_1 a0_2).bind fun bt128=>(if bt128.2=0 then (some (Int.tmod (wrap64 ((Int.tmod (wrap64 (bt128.1+3)) 7)+7)) 7,0)) else (some (0,bt128.2))))=some (r1,r2):=h
 clear h
 replace H:=Option.bind_eq_some_iff.mp H
 obtain⟨⟨t128,t129⟩,A20,H⟩:=H
 replace H:(if t129=0 then (some (Int.tmod (wrap64 ((Int.tmod (wrap64 (t128+3)) 7)+7)) 7,0)) else (some (0,t129)))=some (r1,r2):=H
 have A2:=ag.mk A20
 clear A20
 by_cases c3:t129=0
 ·rw[if_pos c3] at H
  have c3b0:(t129 == 0)=true:=beq_iff_eq.mpr c3
  have c3b1:(t129 != 0)=false:=bne_eq_false_iff_eq.mpr c3
  clear c3
  simp only[Option.some.injEq,Prod.mk.injEq] at H
  obtain⟨rfl,rfl⟩:=H
  go_enter Tryd.func64,Tryd.ntmps64
  go_wp2_with (first|((with_reducible refine aI (N:=1) rfl ?_);refine aH ?hg (N:=1) ?hd (cs:=#[.int .i64 a0_0,.int .i64 a0_1,.int .i64 a0_2]) (t:=68) ?hr ?_;(case hd=>rfl);(case hg=>rfl);(case hr=>first|(go_simp;done)|(go_simp;rfl));intro gb127 hg w4 hbox hb;have n0_:=ag.mk (aj (by repeat(first|(with_reducible first|exact HB.o|apply ae|apply aa|apply af)|exact HB.o)) hb);have n1_:=ag.mk (hbox);have n2_:=ag.mk ((by rw[hg];exact(ak (by repeat(first|(with_reducible first|exact HB.o|apply ae|apply aa|apply af)|exact HB.o))):w.heap.size≤gb127));have n3_:=ag.mk ((by rw[hg];exact(ak (by repeat(first|(with_reducible first|exact HB.o|apply ae|apply aa|apply af)|exact HB.o))):w.heap.size≤gb127));clear HB;have HB:=n0_;have BK127:=n1_;have GW127:=n2_;have GE127:=n3_;clear n0_ n1_ n2_ n3_;clear hb hbox hg;have hcz5_0:w4.cell? ⟨gb127,0,none⟩=some (.int .i64 a0_0):=(ah BK127.o 0).trans rfl;have hcz5_1:w4.cell? ⟨gb127,1,none⟩=some (.int .i64 a0_1):=(ah BK127.o 1).trans rfl;have hcz5_2:w4.cell? ⟨gb127,2,none⟩=some (.int .i64 a0_2):=(ah BK127.o 2).trans rfl;have hfz5_0:=ai BK127.o 0;have hfz5_1:=ai BK127.o 1;have hfz5_2:=ai BK127.o 2)|((with_reducible refine aR (f:=49) rfl ?_);refine aZ (some 8) rfl rfl Tryd.func49 (by kernel_rfl) rfl #[.agg #[.int .i64 a0_0,.int .i64 a0_1,.int .i64 a0_2]] rfl (by (try simp only[List.map_toArray,List.map_cons,List.map_nil]);first|done|rfl|(simp only[List.length_drop,List.length_take];rfl)) ?_;(with_reducible refine(civil_Days.calls a0_0 a0_1 a0_2 t128 t129 _ A2.o).mono ?_);rintro e w6 ⟨rfl,hb⟩;refine⟨_,rfl,?_⟩;have n0_:=ag.mk (aN (g:=gb127) (o:=.cells #[.int .i64 a0_0,.int .i64 a0_1,.int .i64 a0_2] 68 (0,0)) (by (with_reducible repeat(first|refine av ?_ _|refine aA ?_|refine au ?_ _));exact BK127.o) hb);have n1_:=ag.mk (aj (by repeat(first|(with_reducible first|exact HB.o|apply ae|apply aa|apply af|refine ax ?_ GE127.o)|exact HB.o)) hb);clear BK127;clear HB;have BK127:=n0_;have HB:=n1_;clear n0_ n1_;(try clear hb);(try clear hb2);(try clear hk);(try clear hi)))
  go_ret2
  exact⟨by first|rfl|(simp[ay,az] <;> rfl)|(simp[*,ay,az] <;> rfl),by repeat(first|(with_reducible first|exact HB.o|apply ae|apply aa|apply af|refine ax ?_ GE127.o)|exact HB.o)⟩
 ·rw[if_neg c3] at H
  have c3b0:(t129 == 0)=false:=beq_eq_false_iff_ne.mpr c3
  have c3b1:(t129 != 0)=true:=bne_iff_ne.mpr c3
  simp only[Option.some.injEq,Prod.mk.injEq] at H
  obtain⟨rfl,rfl⟩:=H
  go_enter Tryd.func64,Tryd.ntmps64
  go_wp2_with (first|((with_reducible refine aI (N:=1) rfl ?_);refine aH ?hg (N:=1) ?hd (cs:=#[.int .i64 a0_0,.int .i64 a0_1,.int .i64 a0_2]) (t:=68) ?hr ?_;(case hd=>rfl);(case hg=>rfl);(case hr=>first|(go_simp;done)|(go_simp;rfl));intro gb127 hg w7 hbox hb;have n0_:=ag.mk (aj (by repeat(first|(with_reducible first|exact HB.o|apply ae|apply aa|apply af)|exact HB.o)) hb);have n1_:=ag.mk (hbox);have n2_:=ag.mk ((by rw[hg];exact(ak (by repeat(first|(with_reducible first|exact HB.o|apply ae|apply aa|apply af)|exact HB.o))):w.heap.size≤gb127));have n3_:=ag.mk ((by rw[hg];exact(ak (by repeat(first|(with_reducible first|exact HB.o|apply ae|apply aa|apply af)|exact HB.o))):w.heap.size≤gb127));clear HB;have HB:=n0_;have BK127:=n1_;have GW127:=n2_;have GE127:=n3_;clear n0_ n1_ n2_ n3_;clear hb hbox hg;have hcz8_0:w7.cell? ⟨gb127,0,none⟩=some (.int .i64 a0_0):=(ah BK127.o 0).trans rfl;have hcz8_1:w7.cell? ⟨gb127,1,none⟩=some (.int .i64 a0_1):=(ah BK127.o 1).trans rfl;have hcz8_2:w7.cell? ⟨gb127,2,none⟩=some (.int .i64 a0_2):=(ah BK127.o 2).trans rfl;have hfz8_0:=ai BK127.o 0;have hfz8_1:=ai BK127.o 1;have hfz8_2:=ai BK127.o 2)|((with_reducible refine aR (f:=49) rfl ?_);refine aZ (some 8) rfl rfl Tryd.func49 (by kernel_rfl) rfl #[.agg #[.int .i64 a0_0,.int .i64 a0_1,.int .i64 a0_2]] rfl (by (try simp only[List.map_toArray,List.map_cons,List.map_nil]);first|done|rfl|(simp only[List.length_drop,List.length_take];rfl)) ?_;(with_reducible refine(civil_Days.calls a0_0 a0_1 a0_2 t128 t129 _ A2.o).mono ?_);rintro e w9 ⟨rfl,hb⟩;refine⟨_,rfl,?_⟩;have n0_:=ag.mk (aN (g:=gb127) (o:=.cells #[.int .i64 a0_0,.int .i64 a0_1,.int .i64 a0_2] 68 (0,0)) (by (with_reducible repeat(first|refine av ?_ _|refine aA ?_|refine au ?_ _));exact BK127.o) hb);have n1_:=ag.mk (aj (by repeat(first|(with_reducible first|exact HB.o|apply ae|apply aa|apply af|refine ax ?_ GE127.o)|exact HB.o)) hb);clear BK127;clear HB;have BK127:=n0_;have HB:=n1_;clear n0_ n1_;(try clear hb);(try clear hb2);(try clear hk);(try clear hi)))
  go_ret2
  exact⟨by first|rfl|(simp[ay,az] <;> rfl)|(simp[*,ay,az] <;> rfl),by repeat(first|(with_reducible first|exact HB.o|apply ae|apply aa|apply af|refine ax ?_ GE127.o)|exact HB.o)⟩
end Go.Proofs.YtcmhfcciapenfaaDoor.Pa
