/- A part of the proof. -/
import Derived.Test.YtjokedpaidmjoaaGreatDoorQ01
import Derived.Test.YtjokedpaidmjoaaGreatDoorQ10
import Derived.Test.YtjokedpaidmjoaaGreatDoorQ11
import Derived.Test.YtjokedpaidmjoaaGreatDoorQ14
import Derived.Test.YtjokedpaidmjoaaGreatDoorQ16
set_option linter.all false
namespace Go.Proofs.YtjokedpaidmjoaaGreatDoor.Rf
open Go Go.RowKit Go.Proofs.YtjokedpaidmjoaaGreatDoor.Am Go.Proofs.YtjokedpaidmjoaaGreatDoorW.PrintWords Go.Proofs.YtjokedpaidmjoaaGreatDoor.Pa Go.Proofs.YtjokedpaidmjoaaGreatDoor.Pu Go.Proofs.YtjokedpaidmjoaaGreatDoor
def strB (l:List ByteArray):Blk:=newRowBlk 9 1 l.length (fun i=>[.str (l.getD i ⟨#[]⟩)])
def intB (l:List Int):Blk:=newRowBlk 3 1 l.length (fun i=>[.int .i64 (l.getD i 0)])
theorem fV {α:Type} {enc:α → Value} {h1 : ∀ x,(enc x).oneCell' = true} {e:Nat} {φ:Emb} {H:Heap} {base:Nat} {W W' : World} {v:Value} {l:List α} (d:α) (E:α → AV) (hE : ∀ (φ:Emb) (H:Heap) x,VRel φ H (E x) (enc x)) (hS:Sim φ H base W) (hR:Kd.R (Kd.scalar enc h1) e W' W.heap.size (fun _=>True) v l) (hb:Below W.heap.size W W') :
  ∃ φ',Ext φ H φ' (H ++ [newRowBlk e 1 l.length (fun i=>[E (l.getD i d)])])∧Sim φ' (H ++ [newRowBlk e 1 l.length (fun i=>[E (l.getD i d)])]) base W'∧VRel φ' (H ++ [newRowBlk e 1 l.length (fun i=>[E (l.getD i d)])]) (.sl H.length 0 l.length 0) v:=by
 obtain⟨_,inner,ho,hl,hr⟩:=hR
 have ho:W'.ownsRow W.heap.size e 1 v l.length inner:=ho
 refine Sim.adopt hS hb ho _ (fun i _=>rfl) (fun i j u hi hu=>?_)
 have hj:j=0:=by
  have:=(List.getElem?_eq_some_iff.1 hu).1
  simpa using this
 subst hj
 have hu:some (E (l.getD i d))=some u:=hu
 obtain rfl:=Option.some.inj hu
 have hg:l[i]? = some l[i]:=List.getElem?_eq_getElem hi
 have h2:(inner.drop (i * 1)).take 1 = [enc l[i]]:=hr i _ hg
 refine⟨enc l[i],?_,?_,h1 _⟩
 ·have h3:((inner.drop (i * 1)).take 1)[0]? = some (enc l[i]):=by rw[h2];rfl
  rw[List.getElem?_take_of_lt (by omega),List.getElem?_drop] at h3
  simpa using h3
 ·rw[List.getD_eq_getElem?_getD,hg]
  exact hE φ H _
theorem adopt_str {φ:Emb} {H:Heap} {base:Nat} {W W' : World} {v:Value} {l:List ByteArray} (hS:Sim φ H base W) (hR:Kd.R Kd.string 9 W' W.heap.size (fun _=>True) v l) (hb:Below W.heap.size W W') : ∃ φ',Ext φ H φ' (H ++ [strB l])∧Sim φ' (H ++ [strB l]) base W'∧VRel φ' (H ++ [strB l]) (.sl H.length 0 l.length 0) v:=
 fV (⟨#[]⟩ : ByteArray) AV.str (fun _ _ _=>rfl) hS hR hb
theorem adopt_int {φ:Emb} {H:Heap} {base:Nat} {W W' : World} {v:Value} {l:List Int} (hS:Sim φ H base W) (hR:Kd.R (Kd.int .i64) 3 W' W.heap.size (fun _=>True) v l) (hb:Below W.heap.size W W') : ∃ φ',Ext φ H φ' (H ++ [intB l])∧Sim φ' (H ++ [intB l]) base W'∧VRel φ' (H ++ [intB l]) (.sl H.length 0 l.length 0) v:=
 fV (0:Int) (AV.int .i64) (fun _ _ _=>rfl) hS hR hb
theorem reads_of {α:Type} {R:α → List Value → Prop} {φ:Emb} {H:Heap} {base:Nat} {W:World} {b n v:Nat} {B:Blk} {u:Value} {xs:List α} (hS:Sim φ H base W) (hx:VRel φ H (.sl b 0 n v) u) (hB:H[b]? = some B) (hv:B.ver=v) (hl:n≤B.len) (hxs:xs.length=n) (hn:n≤9223372036854775807)
  (hR : ∀ i x c,xs[i]? = some x → VRels φ H (B.get i) c → R x c) : ∃ A c,u = .slice A n c∧n≤c∧dw R B.sz W A n xs:=by
 obtain⟨A,c,e1,e2,e3⟩:=sl_val hS hx hB hv
 refine⟨A,c,e1,e2,hxs,hn,fun h0=>⟨_,e3 (by omega),fun j p hj=>?_⟩⟩
 have hlt:j < B.len:=by have:=(List.getElem?_eq_some_iff.1 hj).1;omega
 obtain⟨us,u1,u2,u3,u4⟩:=cells_at hS hB hlt B.sz 0 (by omega)
 have hw:=hS.wf b B hB j hlt
 rw[List.drop_zero,← hw,List.take_length] at u2
 refine⟨us,u1,hR j p us hj u2,fun i y hy=>?_⟩
 rw[Am.add_at,Nat.zero_mul,Nat.add_zero]
 have:=u3 i y hy
 rw[Nat.add_zero,Nat.add_assoc] at this
 exact this
def strAt (B:Blk) (i:Nat):ByteArray:=match B.get i with
 |[.str s]=>s
 |_=>⟨#[]⟩
def strsOf (B:Blk) (n:Nat):List ByteArray:=(List.range n).map (strAt B)
def dh (B:Blk) (n v:Nat):Prop:=B.ver=v∧B.sz=1∧n≤B.len∧n≤9223372036854775807∧∀ i,i < n → B.get i = [.str (strAt B i)]
def numAt (B:Blk) (i:Nat):Int:=match B.get i with
 |[.int .i64 s]=>s
 |_=>0
def numsOf (B:Blk) (n:Nat):List Int:=(List.range n).map (numAt B)
def NumRow (B:Blk) (n v:Nat):Prop:=B.ver=v∧B.sz=1∧n≤B.len∧n≤9223372036854775807∧∀ i,i < n → B.get i = [.int .i64 (numAt B i)]
theorem range_get {α:Type} (l:List α) (d:α):(List.range l.length).map (fun i=>l.getD i d)=l:=by
 apply List.ext_getElem?
 intro i
 rw[List.getElem?_map]
 by_cases h:i < l.length
 ·rw[List.getElem?_range h,List.getElem?_eq_getElem h]
  simp[h]
 ·rw[List.getElem?_eq_none (by simpa using h),List.getElem?_eq_none (by omega)]
  rfl
theorem dm (l:List ByteArray):strsOf (strB l) l.length=l:=range_get l ⟨#[]⟩
theorem dn {l:List ByteArray} (h:l.length≤9223372036854775807):dh (strB l) l.length 0:=⟨rfl,rfl,Nat.le_refl _,h,fun _ _=>rfl⟩
theorem str_reads {φ:Emb} {H:Heap} {base:Nat} {W:World} {b n v:Nat} {B:Blk} {u:Value} (hS:Sim φ H base W) (hx:VRel φ H (.sl b 0 n v) u) (hB:H[b]? = some B) (h:dh B n v) : ∃ A c,u = .slice A (strsOf B n).length c∧(strsOf B n).length≤c∧Kd.C Kd.string W A (strsOf B n).length (strsOf B n):=by
 obtain⟨h1,h2,h3,h4,h5⟩:=h
 have hl:(strsOf B n).length=n:=by simp[strsOf]
 obtain⟨A,c,e1,e2,e3⟩:=reads_of (R:=Kd.string.K W) (xs:=strsOf B n) hS hx hB h1 h3 hl h4 (fun i x c hi hr=>by
  unfold strsOf at hi
  have hlt:i < n:=by
   have:=(List.getElem?_eq_some_iff.1 hi).1
   simpa using this
  rw[List.getElem?_map,List.getElem?_range hlt] at hi
  obtain rfl:=Option.some.inj hi
  rw[h5 i hlt] at hr
  obtain⟨u,us,rfl,hu,hus⟩:=cons_inv hr
  obtain rfl:=(show us = [] from hus)
  obtain rfl:=(show u=_ from hu)
  rfl)
 rw[h2] at e3
 exact⟨A,c,by rw[hl];exact e1,by rw[hl];exact e2,by rw[hl];exact e3⟩
theorem fF {f:FuncId} {a:ByteArray} {l:List ByteArray} {x y:Int} {H:Heap} (h : ∀ W,Calls Tryz.prog f #[.string a] W fun e w'=>∃ v0_:Value,e = .returned (.tuple #[v0_,.int .i64 x,.int .i64 y])∧Kd.R Kd.string 9 w' W.heap.size (fun _=>True) v0_ l∧Below W.heap.size W w') :
  ACalls Tryz.prog f [.str a] H fun v' H'=>v' = .tup [.sl H.length 0 l.length 0,.int .i64 x,.int .i64 y]∧H' = H ++ [strB l]:=by
 intro φ base W vs hS hv
 obtain⟨u,us,rfl,hu,hus⟩:=cons_inv hv
 obtain rfl:=(show us = [] from hus)
 obtain rfl:=(show u=_ from hu)
 refine(h W).mono ?_
 rintro e W' ⟨v0,rfl,hR,hb⟩
 obtain⟨φ',k1,k2,k3⟩:=adopt_str hS hR hb
 exact⟨φ',_,_,_,rfl,⟨rfl,rfl⟩,k1,k2,⟨_,rfl,v0,_,rfl,k3,_,_,rfl,rfl,_,_,rfl,rfl,rfl⟩,hb.mono hS.big⟩
theorem spec_cols {f:FuncId} {b n v:Nat} {B:Blk} {l:List Int} {H:Heap} (hB:hat H b=some B) (hr:dh B n v) (h : ∀ W A c,Kd.C Kd.string W A (strsOf B n).length (strsOf B n) → (strsOf B n).length≤c → Calls Tryz.prog f #[.slice A (strsOf B n).length c] W fun e w'=>∃ v0_:Value,e = .returned v0_∧Kd.R (Kd.int .i64) 3 w' W.heap.size (fun _=>True) v0_ l∧Below W.heap.size W w') :
  ACalls Tryz.prog f [.sl b 0 n v] H fun v' H'=>v' = .sl H.length 0 l.length 0∧H' = H ++ [intB l]:=by
 intro φ base W vs hS hv
 obtain⟨u,us,rfl,hu,hus⟩:=cons_inv hv
 obtain rfl:=(show us = [] from hus)
 obtain⟨A,c,rfl,hc,hC⟩:=str_reads hS hu hB hr
 refine(h W A c hC hc).mono ?_
 rintro e W' ⟨v0,rfl,hR,hb⟩
 obtain⟨φ',k1,k2,k3⟩:=adopt_int hS hR hb
 exact⟨φ',_,v0,_,rfl,⟨rfl,rfl⟩,k1,k2,k3,hb.mono hS.big⟩
theorem bu {f:FuncId} {args:List AV} {H:Heap} {v:AV} (ha : ∀ a∈args,flatD a=true) (hv:flatD v=true) (h : ∀ W,GInv W → Calls Tryz.prog f (args.map concD).toArray W fun e W'=>e = .returned (concD v)∧Below W.heap.size W W'):ACalls Tryz.prog f args H fun v' H'=>v' = v∧H' = H:=
 acalls_flat ha hv fun base W hg=>h W hg.ginv
def numP (w:ByteArray) (l m:Int):Int × Int:=(scan_Number.f w l m).getD (0,1)
end Go.Proofs.YtjokedpaidmjoaaGreatDoor.Rf
