/- A part of the proof. -/
import Derived.Test.YtjokedpaidmjoaaGreatDoorQ01
import Derived.Test.YtjokedpaidmjoaaGreatDoorQ10
import Derived.Test.YtjokedpaidmjoaaGreatDoorQ11
import Derived.Test.YtjokedpaidmjoaaGreatDoorQ14
import Derived.Test.YtjokedpaidmjoaaGreatDoorQ16
set_option linter.all false
namespace Go.Proofs.YtjokedpaidmjoaaGreatDoor.Rf
open Go Go.RowKit Go.Proofs.YtjokedpaidmjoaaGreatDoor.Am Go.Proofs.YtjokedpaidmjoaaGreatDoorW.PrintWords Go.Proofs.YtjokedpaidmjoaaGreatDoor.Pa Go.Proofs.YtjokedpaidmjoaaGreatDoor.Pu Go.Proofs.YtjokedpaidmjoaaGreatDoor
def strB (l:List ByteArray):Blk:=newRowBlk 9 1 l.length (fun i=>[.str (l.getD i ⟨#[]⟩)])
def intB (l:List Int):Blk:=newRowBlk 3 1 l.length (fun i=>[.int .i64 (l.getD i 0)])
theorem fM {α:Type} {enc:α → Value} {h1 : ∀ x,(enc x).oneCell' = true} {e:Nat} {φ:Emb} {H:Heap} {base:Nat} {W W' : World} {v:Value} {l:List α} (d:α) (E:α → AV) (hE : ∀ (φ:Emb) (H:Heap) x,VRel φ H (E x) (enc x)) (hS:Sim φ H base W) (hR:Kd.R (Kd.scalar enc h1) e W' W.heap.size (fun _=>True) v l) (hb:Below W.heap.size W W') :
  ∃ φ',Ext φ H φ' (H ++ [newRowBlk e 1 l.length (fun i=>[E (l.getD i d)])])∧Sim φ' (H ++ [newRowBlk e 1 l.length (fun i=>[E (l.getD i d)])]) base W'∧VRel φ' (H ++ [newRowBlk e 1 l.length (fun i=>[E (l.getD i d)])]) (.sl H.length 0 l.length 0) v:=by
 obtain⟨_,inner,ho,hl,hr⟩:=hR
 have ho:W'.ownsRow W.heap.size e 1 v l.length inner:=ho
 refine Sim.adopt hS hb ho _ (fun i _=>rfl) (fun i j u hi hu=>?_)
 have hj:j=0:=by
  have:=(List.getElem?_eq_some_iff.1 hu).1
  simpa using this
 subst hj
 have hu:some (E (l.getD i d))=some u:=hu
 obtain rfl:=Option.some.inj hu
 have hg:l[i]? = some l[i]:=List.getElem?_eq_getElem hi
 have h2:(inner.drop (i * 1)).take 1 = [enc l[i]]:=hr i _ hg
 refine⟨enc l[i],?_,?_,h1 _⟩
 ·have h3:((inner.drop (i * 1)).take 1)[0]? = some (enc l[i]):=by rw[h2];rfl
  rw[List.getElem?_take_of_lt (by omega),List.getElem?_drop] at h3
  simpa using h3
 ·rw[List.getD_eq_getElem?_getD,hg]
  exact hE φ H _
theorem adopt_str {φ:Emb} {H:Heap} {base:Nat} {W W' : World} {v:Value} {l:List ByteArray} (hS:Sim φ H base W) (hR:Kd.R Kd.string 9 W' W.heap.size (fun _=>True) v l) (hb:Below W.heap.size W W') : ∃ φ',Ext φ H φ' (H ++ [strB l])∧Sim φ' (H ++ [strB l]) base W'∧VRel φ' (H ++ [strB l]) (.sl H.length 0 l.length 0) v:=
 fM (⟨#[]⟩ : ByteArray) AV.str (fun _ _ _=>rfl) hS hR hb
theorem adopt_int {φ:Emb} {H:Heap} {base:Nat} {W W' : World} {v:Value} {l:List Int} (hS:Sim φ H base W) (hR:Kd.R (Kd.int .i64) 3 W' W.heap.size (fun _=>True) v l) (hb:Below W.heap.size W W') : ∃ φ',Ext φ H φ' (H ++ [intB l])∧Sim φ' (H ++ [intB l]) base W'∧VRel φ' (H ++ [intB l]) (.sl H.length 0 l.length 0) v:=
 fM (0:Int) (AV.int .i64) (fun _ _ _=>rfl) hS hR hb
theorem reads_of {α:Type} {R:α → List Value → Prop} {φ:Emb} {H:Heap} {base:Nat} {W:World} {b n v:Nat} {B:Blk} {u:Value} {xs:List α} (hS:Sim φ H base W) (hx:VRel φ H (.sl b 0 n v) u) (hB:H[b]? = some B) (hv:B.ver=v) (hl:n≤B.len) (hxs:xs.length=n) (hn:n≤9223372036854775807)
  (hR : ∀ i x c,xs[i]? = some x → VRels φ H (B.get i) c → R x c) : ∃ A c,u = .slice A n c∧n≤c∧dz R B.sz W A n xs:=by
 obtain⟨A,c,e1,e2,e3⟩:=sl_val hS hx hB hv
 refine⟨A,c,e1,e2,hxs,hn,fun h0=>⟨_,e3 (by omega),fun j p hj=>?_⟩⟩
 have hlt:j < B.len:=by have:=(List.getElem?_eq_some_iff.1 hj).1;omega
 obtain⟨us,u1,u2,u3,u4⟩:=cells_at hS hB hlt B.sz 0 (by omega)
 have hw:=hS.wf b B hB j hlt
 rw[List.drop_zero,← hw,List.take_length] at u2
 refine⟨us,u1,hR j p us hj u2,fun i y hy=>?_⟩
 rw[Am.add_at,Nat.zero_mul,Nat.add_zero]
 have:=u3 i y hy
 rw[Nat.add_zero,Nat.add_assoc] at this
 exact this
def strAt (B:Blk) (i:Nat):ByteArray:=match B.get i with
 |[.str s]=>s
 |_=>⟨#[]⟩
def strsOf (B:Blk) (n:Nat):List ByteArray:=(List.range n).map (strAt B)
def bZ (B:Blk) (n v:Nat):Prop:=B.ver=v∧B.sz=1∧n≤B.len∧n≤9223372036854775807∧∀ i,i < n → B.get i = [.str (strAt B i)]
def numAt (B:Blk) (i:Nat):Int:=match B.get i with
 |[.int .i64 s]=>s
 |_=>0
def numsOf (B:Blk) (n:Nat):List Int:=(List.range n).map (numAt B)
def NumRow (B:Blk) (n v:Nat):Prop:=B.ver=v∧B.sz=1∧n≤B.len∧n≤9223372036854775807∧∀ i,i < n → B.get i = [.int .i64 (numAt B i)]
theorem range_get {α:Type} (l:List α) (d:α):(List.range l.length).map (fun i=>l.getD i d)=l:=by
 apply List.ext_getElem?
 intro i
 rw[List.getElem?_map]
 by_cases h:i < l.length
 ·rw[List.getElem?_range h,List.getElem?_eq_getElem h]
  simp[h]
 ·rw[List.getElem?_eq_none (by simpa using h),List.getElem?_eq_none (by omega)]
  rfl
theorem bV (l:List ByteArray):strsOf (strB l) l.length=l:=range_get l ⟨#[]⟩
theorem bK {l:List ByteArray} (h:l.length≤9223372036854775807):bZ (strB l) l.length 0:=⟨rfl,rfl,Nat.le_refl _,h,fun _ _=>rfl⟩
theorem str_reads {φ:Emb} {H:Heap} {base:Nat} {W:World} {b n v:Nat} {B:Blk} {u:Value} (hS:Sim φ H base W) (hx:VRel φ H (.sl b 0 n v) u) (hB:H[b]? = some B) (h:bZ B n v) : ∃ A c,u = .slice A (strsOf B n).length c∧(strsOf B n).length≤c∧Kd.C Kd.string W A (strsOf B n).length (strsOf B n):=by
 obtain⟨h1,h2,h3,h4,h5⟩:=h
 have hl:(strsOf B n).length=n:=by simp[strsOf]
 obtain⟨A,c,e1,e2,e3⟩:=reads_of (R:=Kd.string.K W) (xs:=strsOf B n) hS hx hB h1 h3 hl h4 (fun i x c hi hr=>by
  unfold strsOf at hi
  have hlt:i < n:=by
   have:=(List.getElem?_eq_some_iff.1 hi).1
   simpa using this
  rw[List.getElem?_map,List.getElem?_range hlt] at hi
  obtain rfl:=Option.some.inj hi
  rw[h5 i hlt] at hr
  obtain⟨u,us,rfl,hu,hus⟩:=cons_inv hr
  obtain rfl:=(show us = [] from hus)
  obtain rfl:=(show u=_ from hu)
  rfl)
 rw[h2] at e3
 exact⟨A,c,by rw[hl];exact e1,by rw[hl];exact e2,by rw[hl];exact e3⟩
theorem fA {f:FuncId} {a:ByteArray} {l:List ByteArray} {x y:Int} {H:Heap} (h : ∀ W,Calls Tryz.prog f #[.string a] W fun e w'=>∃ v0_:Value,e = .returned (.tuple #[v0_,.int .i64 x,.int .i64 y])∧Kd.R Kd.string 9 w' W.heap.size (fun _=>True) v0_ l∧Below W.heap.size W w') :
  ACalls Tryz.prog f [.str a] H fun v' H'=>v' = .tup [.sl H.length 0 l.length 0,.int .i64 x,.int .i64 y]∧H' = H ++ [strB l]:=by
 intro φ base W vs hS hv
 obtain⟨u,us,rfl,hu,hus⟩:=cons_inv hv
 obtain rfl:=(show us = [] from hus)
 obtain rfl:=(show u=_ from hu)
 refine(h W).mono ?_
 rintro e W' ⟨v0,rfl,hR,hb⟩
 obtain⟨φ',k1,k2,k3⟩:=adopt_str hS hR hb
 exact⟨φ',_,_,_,rfl,⟨rfl,rfl⟩,k1,k2,⟨_,rfl,v0,_,rfl,k3,_,_,rfl,rfl,_,_,rfl,rfl,rfl⟩,hb.mono hS.big⟩
theorem spec_cols {f:FuncId} {b n v:Nat} {B:Blk} {l:List Int} {H:Heap} (hB:hat H b=some B) (hr:bZ B n v) (h : ∀ W A c,Kd.C Kd.string W A (strsOf B n).length (strsOf B n) → (strsOf B n).length≤c → Calls Tryz.prog f #[.slice A (strsOf B n).length c] W fun e w'=>∃ v0_:Value,e = .returned v0_∧Kd.R (Kd.int .i64) 3 w' W.heap.size (fun _=>True) v0_ l∧Below W.heap.size W w') :
  ACalls Tryz.prog f [.sl b 0 n v] H fun v' H'=>v' = .sl H.length 0 l.length 0∧H' = H ++ [intB l]:=by
 intro φ base W vs hS hv
 obtain⟨u,us,rfl,hu,hus⟩:=cons_inv hv
 obtain rfl:=(show us = [] from hus)
 obtain⟨A,c,rfl,hc,hC⟩:=str_reads hS hu hB hr
 refine(h W A c hC hc).mono ?_
 rintro e W' ⟨v0,rfl,hR,hb⟩
 obtain⟨φ',k1,k2,k3⟩:=adopt_int hS hR hb
 exact⟨φ',_,v0,_,rfl,⟨rfl,rfl⟩,k1,k2,k3,hb.mono hS.big⟩
theorem bv {f:FuncId} {args:List AV} {H:Heap} {v:AV} (ha : ∀ a∈args,flatD a=true) (hv:flatD v=true) (h : ∀ W,GInv W → Calls Tryz.prog f (args.map concD).toArray W fun e W'=>e = .returned (concD v)∧Below W.heap.size W W'):ACalls Tryz.prog f args H fun v' H'=>v' = v∧H' = H:=
 acalls_flat ha hv fun base W hg=>h W hg.ginv
def numP (w:ByteArray) (l m:Int):Int × Int:=(scan_Number.f w l m).getD (0,1)
end Go.Proofs.YtjokedpaidmjoaaGreatDoor.Rf
set_option linter.all false
namespace Go.Proofs.YtjokedpaidmjoaaGreatDoor.Rf
open Go Go.RowKit Go.Proofs.YtjokedpaidmjoaaGreatDoor.Am Go.Proofs.YtjokedpaidmjoaaGreatDoorW.PrintWords Go.Proofs.YtjokedpaidmjoaaGreatDoor.Pa Go.Proofs.YtjokedpaidmjoaaGreatDoor.Pu Go.Proofs.YtjokedpaidmjoaaGreatDoor
def in64 (a:Int):Prop:=-9223372036854775808≤a∧a≤9223372036854775807
def stepB (n:Int):Bool:=n == 15 || n == 30 || n == 60
def flagB (w:ByteArray):Bool:=Bs w == [65] || Bs w == [69] || Bs w == [83]
def txt (n:Int):ByteArray:=toB (Lib.itoa n)
def fF (B:Blk) (n:Nat):List Int:=cf 1 ((strsOf B n).map Bs)
def exT:ByteArray:=(pylonlaw07_example.f).getD ⟨#[]⟩
def dB:Am.Spec:=fun args H=>match args with
 |[.str a]=>some (.bool (nameL (Bs a)),H,a.size≤9223372036854775806)
 |_=>none
def cB:Am.Spec:=fun args H=>match args with
 |[.str a,.int .i64 l,.int .i64 m]=>some (.tup [.int .i64 (numP a l m).1,.int .i64 (numP a l m).2],H,a.size≤1000000000)
 |_=>none
def dD:Am.Spec:=fun args H=>match args with
 |[.str a]=>some (.tup [.sl H.length 0 (WS a).1.length 0,.int .i64 (WS a).2.1,.int .i64 (WS a).2.2],H ++ [strB (WS a).1],a.size≤4398046511104)
 |_=>none
def dm:Am.Spec:=fun args H=>match args with
 |[.str a]=>some (.tup [.sl H.length 0 (LS a).1.length 0,.int .i64 (LS a).2.1,.int .i64 (LS a).2.2],H ++ [strB (LS a).1],True)
 |_=>none
def dU:Am.Spec:=fun args H=>match args with
 |[.sl b 0 n v]=>match hat H b with
  |some B=>some (.sl H.length 0 (fF B n).length 0,H ++ [intB (fF B n)],bZ B n v∧tot ((strsOf B n).map Bs)≤900000000)
  |none=>none
 |_=>none
def bG:Am.Spec:=fun args H=>match args with
 |[.int .i64 n]=>some (.str (txt n),H,in64 n)
 |_=>none
def cu:Am.Spec:=fun args H=>match args with
 |[.int .i64 n]=>some (.bool (stepB n),H,True)
 |_=>none
def spFlag:Am.Spec:=fun args H=>match args with
 |[.str w]=>some (.bool (flagB w),H,True)
 |_=>none
def spLast:Am.Spec:=fun args H=>match args with
 |[.str a,.int .u8 c]=>some (.int .i64 (Lib.lastIndexByte a c),H,a.size < 4611686018427387904)
 |_=>none
def spEx:Am.Spec:=fun args H=>match args with
 |[]=>some (.str exT,H,True)
 |_=>none
def spDist:Am.Spec:=fun args H=>match args with
 |[.int .i64 n]=>some (.int .i64 (IntKind.i64.wrap (n.natAbs:Int)),H,in64 n)
 |_=>none
def spMag:Am.Spec:=fun args H=>match args with
 |[.int .i64 n]=>some (.int .u64 (n.natAbs:Int),H,in64 n)
 |_=>none
def fG:FuncId → Option Am.Spec:=fun f=>match f with
 |57=>some dB
 |49=>some dB
 |77=>some cB
 |70=>some cB
 |56=>some dD
 |20=>some dD
 |55=>some dm
 |47=>some dm
 |60=>some dU
 |69=>some dU
 |33=>some bG
 |59=>some cu
 |52=>some cu
 |41=>some spFlag
 |54=>some spLast
 |18=>some spEx
 |64=>some spDist
 |71=>some spMag
 |_=>none
def ext7:FuncId → Option (List AV → Option (AV × Prop)):=fun f=>match f with
 |67=>some fun args=>match args with
  |[.int .u64 x,.int .u64 y,.int .u64 c]=>some (.tup [.int .u64 ((x+y+c) % 18446744073709551616),.int .u64 ((x+y+c) / 18446744073709551616)],0≤x∧0≤y∧0≤c∧c≤1)
  |_=>none
 |_=>none
noncomputable def C7:Ctx:={ P:=Tryz.prog,ty:=tys,fn:=fG,ext:=ext7 }
theorem flat1 {a:AV} (h:a.flat=true) : ∀ x∈[a],flatD x=true:=by
 intro x hx
 simp at hx
 subst hx
 cases x <;> first|rfl|cases h
theorem spName_ok1:SpecOk Tryz.prog 57 dB:=by
 refine⟨⟨Tryz.f57,Tryz.func57,by kernel_rfl,by kernel_rfl⟩,fun args H v H1 ob h hob=>?_⟩
 unfold dB at h
 split at h
 ·rename_i a
  cases h
  exact bv (flat1 rfl) rfl fun W _=>scan_Name.calls a _ W (name_at a (Nat.le_trans hob (by decide)))
 ·cases h
theorem spName_ok2:SpecOk Tryz.prog 49 dB:=by
 refine⟨⟨Tryz.f49,Tryz.func49,by kernel_rfl,by kernel_rfl⟩,fun args H v H1 ob h hob=>?_⟩
 unfold dB at h
 split at h
 ·rename_i a
  cases h
  obtain⟨K,hK⟩:=refName_ev a hob
  exact bv (flat1 rfl) rfl fun W _=>(pylonref06_Name.calls K a _ W (hK K (Nat.le_refl _))).mono fun e w' ⟨h1,h2⟩=>⟨h1,h2.below⟩
 ·cases h
theorem spNumber_ok1:SpecOk Tryz.prog 77 cB:=by
 refine⟨⟨Tryz.f77,Tryz.func77,by kernel_rfl,by kernel_rfl⟩,fun args H v H1 ob h hob=>?_⟩
 unfold cB at h
 split at h
 ·rename_i a l m
  cases h
  obtain⟨q,h1,h2⟩:=number_same a hob l m
  refine bv (by intro x hx;simp at hx;rcases hx with rfl|rfl|rfl <;> rfl) rfl fun W hV=>?_
  refine scan_Number.calls a l m _ _ W hV ?_
  unfold numP
  rw[h1]
  rfl
 ·cases h
theorem spNumber_ok2:SpecOk Tryz.prog 70 cB:=by
 refine⟨⟨Tryz.f70,Tryz.func70,by kernel_rfl,by kernel_rfl⟩,fun args H v H1 ob h hob=>?_⟩
 unfold cB at h
 split at h
 ·rename_i a l m
  cases h
  obtain⟨q,h1,K,hK⟩:=number_same a hob l m
  refine bv (by intro x hx;simp at hx;rcases hx with rfl|rfl|rfl <;> rfl) rfl fun W hV=>?_
  refine(pylonref06_Number.calls K a l m _ _ W ?_).mono fun e w' ⟨h1,h2⟩=>⟨h1,h2.below⟩
  have:=hK K (Nat.le_refl _)
  unfold numP
  rw[h1]
  exact this
 ·cases h
theorem spWords_ok1:SpecOk Tryz.prog 56 dD:=by
 refine⟨⟨Tryz.f56,Tryz.func56,by kernel_rfl,by kernel_rfl⟩,fun args H v H1 ob h hob=>?_⟩
 unfold dD at h
 split at h
 ·rename_i a
  cases h
  obtain⟨K,hK⟩:=words_ev a hob
  exact fA fun W=>scan_Words.calls K a _ _ _ W (hK K (Nat.le_refl _))
 ·cases h
theorem spWords_ok2:SpecOk Tryz.prog 20 dD:=by
 refine⟨⟨Tryz.f20,Tryz.func20,by kernel_rfl,by kernel_rfl⟩,fun args H v H1 ob h hob=>?_⟩
 unfold dD at h
 split at h
 ·rename_i a
  cases h
  obtain⟨K,hK⟩:=refWords_ev a hob
  exact fA fun W=>pylonref06_Words.calls K a _ _ _ W (hK K (Nat.le_refl _))
 ·cases h
theorem spLines_ok1:SpecOk Tryz.prog 55 dm:=by
 refine⟨⟨Tryz.f55,Tryz.func55,by kernel_rfl,by kernel_rfl⟩,fun args H v H1 ob h hob=>?_⟩
 unfold dm at h
 split at h
 ·rename_i a
  cases h
  obtain⟨K,hK⟩:=lines_ev a
  exact fA fun W=>scan_Lines.calls K a _ _ _ W (hK K (Nat.le_refl _))
 ·cases h
theorem spLines_ok2:SpecOk Tryz.prog 47 dm:=by
 refine⟨⟨Tryz.f47,Tryz.func47,by kernel_rfl,by kernel_rfl⟩,fun args H v H1 ob h hob=>?_⟩
 unfold dm at h
 split at h
 ·rename_i a
  cases h
  obtain⟨K,hK⟩:=refLines_ev a
  exact fA fun W=>pylonref06_Lines.calls K a _ _ _ W (hK K (Nat.le_refl _))
 ·cases h
theorem spCols_ok1:SpecOk Tryz.prog 60 dU:=by
 refine⟨⟨Tryz.f60,Tryz.func60,by kernel_rfl,by kernel_rfl⟩,fun args H v H1 ob h hob=>?_⟩
 unfold dU at h
 split at h
 ·rename_i b n w
  split at h
  ·rename_i B hB
   cases h
   obtain⟨K,hK⟩:=columns_ev ((strsOf B n).map Bs) hob.2
   exact spec_cols hB hob.1 fun W A c hC hc=>scan_Columns.calls K A c _ _ W hC hc (by have:=hK K (Nat.le_refl _);rwa [map_toB] at this)
  ·cases h
 ·cases h
theorem spCols_ok2:SpecOk Tryz.prog 69 dU:=by
 refine⟨⟨Tryz.f69,Tryz.func69,by kernel_rfl,by kernel_rfl⟩,fun args H v H1 ob h hob=>?_⟩
 unfold dU at h
 split at h
 ·rename_i b n w
  split at h
  ·rename_i B hB
   cases h
   obtain⟨K,hK⟩:=refColumns_ev ((strsOf B n).map Bs) hob.2
   exact spec_cols hB hob.1 fun W A c hC hc=>pylonref06_Columns.calls K A c _ _ W hC hc (by have:=hK K (Nat.le_refl _);rwa [map_toB] at this)
  ·cases h
 ·cases h
theorem spText_ok:SpecOk Tryz.prog 33 bG:=by
 refine⟨⟨Tryz.f33,Tryz.func33,by kernel_rfl,by kernel_rfl⟩,fun args H v H1 ob h hob=>?_⟩
 unfold bG at h
 split at h
 ·rename_i n
  cases h
  refine bv (flat1 rfl) rfl fun W hV=>fix_Text.calls n _ W hV ?_
  unfold fix_Text.f strconv_FormatInt.f
  rw[if_pos ⟨hob,rfl⟩]
  rfl
 ·cases h
theorem spStep_ok1:SpecOk Tryz.prog 59 cu:=by
 refine⟨⟨Tryz.f59,Tryz.func59,by kernel_rfl,by kernel_rfl⟩,fun args H v H1 ob h hob=>?_⟩
 unfold cu at h
 split at h
 ·rename_i n
  cases h
  refine bv (flat1 rfl) rfl fun W hV=>(readfile_isStep.calls n _ W ?_).mono fun e w' ⟨h1,h2⟩=>⟨h1,h2.below⟩
  unfold readfile_isStep.f stepB
  split
  ·rename_i h;simp[h]
  ·split
   ·rename_i h;simp[h]
   ·rename_i h1 h2;simp[h1,h2]
 ·cases h
theorem spStep_ok2:SpecOk Tryz.prog 52 cu:=by
 refine⟨⟨Tryz.f52,Tryz.func52,by kernel_rfl,by kernel_rfl⟩,fun args H v H1 ob h hob=>?_⟩
 unfold cu at h
 split at h
 ·rename_i n
  cases h
  refine bv (flat1 rfl) rfl fun W hV=>(pylonref07_Step.calls n _ W ?_).mono fun e w' ⟨h1,h2⟩=>⟨h1,h2.below⟩
  unfold pylonref07_Step.f stepB
  split
  ·rename_i h;simp[h]
  ·split
   ·rename_i h;simp[h]
   ·rename_i h1 h2;simp[h1,h2]
 ·cases h
theorem spFlag_ok:SpecOk Tryz.prog 41 spFlag:=by
 refine⟨⟨Tryz.f41,Tryz.func41,by kernel_rfl,by kernel_rfl⟩,fun args H v H1 ob h hob=>?_⟩
 unfold spFlag at h
 split at h
 ·rename_i n
  cases h
  refine bv (flat1 rfl) rfl fun W hV=>(readfile_isFlag.calls n _ W ?_).mono fun e w' ⟨h1,h2⟩=>⟨h1,h2.below⟩
  unfold readfile_isFlag.f flagB
  rw[aY]
  split
  ·rename_i h;simp[h]
  ·split
   ·rename_i h;simp[h]
   ·rename_i h1 h2;simp[h1,h2]
 ·cases h
theorem spLast_ok:SpecOk Tryz.prog 54 spLast:=by
 refine⟨⟨Tryz.f54,Tryz.func54,by kernel_rfl,by kernel_rfl⟩,fun args H v H1 ob h hob=>?_⟩
 unfold spLast at h
 split at h
 ·rename_i a c
  cases h
  refine bv (by intro x hx;simp at hx;rcases hx with rfl|rfl <;> rfl) rfl fun W hV=>(strings_LastIndexByte.calls a c _ W ?_).mono fun e w' ⟨h1,h2⟩=>⟨h1,h2.below⟩
  unfold strings_LastIndexByte.f
  rw[if_pos hob]
 ·cases h
theorem spEx_ok:SpecOk Tryz.prog 18 spEx:=by
 refine⟨⟨Tryz.f18,Tryz.func18,by kernel_rfl,by kernel_rfl⟩,fun args H v H1 ob h hob=>?_⟩
 unfold spEx at h
 split at h
 ·cases h
  exact bv (by intro x hx;cases hx) rfl fun W hV=>(pylonlaw07_example.calls _ W rfl).mono fun e w' ⟨h1,h2⟩=>⟨h1,h2.below⟩
 ·cases h
theorem dist_at (n:Int) (b1 : -9223372036854775808≤n) (b2:n≤9223372036854775807):pylonref07_distance.f n=some (IntKind.i64.wrap (n.natAbs:Int)):=by
 unfold pylonref07_distance.f
 by_cases h:n < 0
 ·have e:(n.natAbs:Int) = -n:=by omega
  rw[if_pos h,e,IntKind.wrap_i64]
  unfold wrap64
  rfl
 ·have e:(n.natAbs:Int)=n:=by omega
  rw[if_neg h,e,IntKind.wrap_i64]
  congr 1
  have:(n+9223372036854775808) % 18446744073709551616=n+9223372036854775808:=Int.emod_eq_of_lt (by omega) (by omega)
  rw[this]
  omega
theorem spDist_ok:SpecOk Tryz.prog 64 spDist:=by
 refine⟨⟨Tryz.f64,Tryz.func64,by kernel_rfl,by kernel_rfl⟩,fun args H v H1 ob h hob=>?_⟩
 unfold spDist at h
 split at h
 ·rename_i n
  cases h
  obtain⟨b1,b2⟩:=hob
  refine bv (flat1 rfl) rfl fun W hV=>(pylonref07_distance.calls n _ W ?_).mono fun e w' ⟨h1,h2⟩=>⟨h1,h2.below⟩
  exact dist_at n b1 b2
 ·cases h
theorem wrap_small {m:Int} (h0:0≤m) (h1:m < 18446744073709551616):IntKind.u64.wrap m=m:=by
 rw[IntKind.wrap_u64]
 exact Int.emod_eq_of_lt h0 h1
theorem mag_at (n:Int) (b1 : -9223372036854775808≤n) (b2:n≤9223372036854775807):pylonref01_mag.f n=some (n.natAbs:Int):=by
 unfold pylonref01_mag.f
 by_cases h:n < 0
 ·rw[if_pos h,w64 (x:=n+1) (by omega) (by omega),w64 (x:=-(n+1)) (by omega) (by omega),wrap_small (m:=-(n+1)) (by omega) (by omega),wrap_small (by omega) (by omega)]
  congr 1
  omega
 ·rw[if_neg h,wrap_small (by omega) (by omega)]
  congr 1
  omega
theorem spMag_ok:SpecOk Tryz.prog 71 spMag:=by
 refine⟨⟨Tryz.f71,Tryz.func71,by kernel_rfl,by kernel_rfl⟩,fun args H v H1 ob h hob=>?_⟩
 unfold spMag at h
 split at h
 ·rename_i n
  cases h
  obtain⟨b1,b2⟩:=hob
  refine bv (flat1 rfl) rfl fun W hV=>(pylonref01_mag.calls n _ W ?_).mono fun e w' ⟨h1,h2⟩=>⟨h1,h2.below⟩
  exact mag_at n b1 b2
 ·cases h
theorem dC : ∀ f s,ext7 f=some s → ExtOk Tryz.prog f s:=by
 intro f s h
 unfold ext7 at h
 split at h
 ·cases h
  intro args v ob h hob φ H us W hus
  dsimp only at h
  split at h
  ·rename_i x y c
   cases h
   obtain⟨_,_,rfl,hx,hus⟩:=cons_inv hus
   obtain⟨_,_,rfl,hy,hus⟩:=cons_inv hus
   obtain⟨_,_,rfl,hc,hus⟩:=cons_inv hus
   obtain rfl:=(show _ = [] from hus)
   obtain rfl:=(show _=Value.int .u64 x from hx)
   obtain rfl:=(show _=Value.int .u64 y from hy)
   obtain rfl:=(show _=Value.int .u64 c from hc)
   refine⟨_,?_,⟨_,rfl,_,_,rfl,rfl,_,_,rfl,rfl,rfl⟩⟩
   rw[run_callFunc_extern Tryz.func67 (by kernel_rfl) (by kernel_rfl) (by kernel_rfl) (e:=add64Entry) (by kernel_rfl),run_add64 x y c hob.1 hob.2.1 hob.2.2.1 hob.2.2.2]
   rfl
  ·cases h
 ·cases h
theorem C7ok:CtxOk C7:=by
 refine⟨tysOk,fun f s h=>?_,fun t K h=>(by cases h),dC⟩
 unfold C7 fG at h
 simp only at h
 split at h
 ·cases h;exact spName_ok1
 ·cases h;exact spName_ok2
 ·cases h;exact spNumber_ok1
 ·cases h;exact spNumber_ok2
 ·cases h;exact spWords_ok1
 ·cases h;exact spWords_ok2
 ·cases h;exact spLines_ok1
 ·cases h;exact spLines_ok2
 ·cases h;exact spCols_ok1
 ·cases h;exact spCols_ok2
 ·cases h;exact spText_ok
 ·cases h;exact spStep_ok1
 ·cases h;exact spStep_ok2
 ·cases h;exact spFlag_ok
 ·cases h;exact spLast_ok
 ·cases h;exact spEx_ok
 ·cases h;exact spDist_ok
 ·cases h;exact spMag_ok
 ·cases h
theorem C7_ty:C7.ty=tys:=rfl
theorem C7_fn:C7.fn=fG:=rfl
theorem C7_ext:C7.ext=ext7:=rfl
theorem C7_eqt:C7.eqt=fun _=>none:=rfl
end Go.Proofs.YtjokedpaidmjoaaGreatDoor.Rf
