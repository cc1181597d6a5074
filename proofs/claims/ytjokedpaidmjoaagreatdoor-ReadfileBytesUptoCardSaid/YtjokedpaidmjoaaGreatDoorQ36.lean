/- A part of the proof. -/
import Derived.Test.YtjokedpaidmjoaaGreatDoorQ34
import Derived.Test.YtjokedpaidmjoaaGreatDoorQ35
import Derived.Lib.Builder
import Derived.Shelf.Strings.Builder1
set_option linter.all false
namespace Go.Proofs.YtjokedpaidmjoaaGreatDoor.Rf
open Go Go.RowKit Go.Proofs.YtjokedpaidmjoaaGreatDoor.Am Go.Proofs.YtjokedpaidmjoaaGreatDoor.Pu Go.Proofs.YtjokedpaidmjoaaGreatDoor
theorem bldPtr:Tryz.prog.underlying 65=some (.pointer 67):=by kernel_rfl
theorem bldUns:Tryz.prog.underlying 98=some .unsafePointer:=by kernel_rfl
theorem bldInfo : ∃ j,Tryz.prog.info? 67=some j∧j.size=2:=Option.map_eq_some_iff.1 (show(Tryz.prog.info? 67).map (·.size)=some 2 by kernel_rfl)
theorem bld_lies {cells:Nat} (h:2≤cells):liesAt Tryz.prog Tryz.prog.depth 67 (cells / Tryz.prog.cellsOf 67) 0 67 1=true:=by
 have hc:Tryz.prog.cellsOf 67=2:=by kernel_rfl
 rw[hc]
 have hn:1≤cells / 2:=by omega
 generalize cells / 2=count at hn
 have hd:Tryz.prog.depth=(2 * (Tryz.prog.types.size+Made.depth)+1)+1:=rfl
 rw[hd]
 simp only[liesAt,Bool.or_eq_true]
 left
 rw[hd]
 simp[rowAt,hc,hn,sameLayout]
set_option maxHeartbeats 1000000 in
set_option maxRecDepth 100000 in
theorem cc_used (b:Nat) (w:World) (h0:w.cell? ⟨b,0,none⟩=some (.pointer (some ⟨b,0,none⟩))) :
  Calls Tryz.prog 66 #[.pointer (some ⟨b,0,none⟩)] w fun e w'=>e = .returned (.tuple #[])∧w' = w:=by
 obtain⟨j,hj,hjs⟩:=bldInfo
 go_enter Tryz.func66,Tryz.ntmps66
 go_wp2
 rw[Lib.run_neq_ptr_same w _ bldPtr hj]
 go_wp2
 go_end0
 exact⟨rfl,rfl⟩
set_option maxHeartbeats 1000000 in
set_option maxRecDepth 100000 in
theorem cc_fresh (b:Nat) (w:World) (h0:w.cell? ⟨b,0,none⟩=some (.pointer none)) {cells:Nat} (hsh:w.shape? b=some (67,cells)) (hcl:2≤cells) (hfz:w.frozen? ⟨b,0,none⟩=false) :
  Calls Tryz.prog 66 #[.pointer (some ⟨b,0,none⟩)] w fun e w'=>e = .returned (.tuple #[])∧w' = w.setCell ⟨b,0,none⟩ (.pointer (some ⟨b,0,none⟩)):=by
 obtain⟨j,hj,hjs⟩:=bldInfo
 go_enter Tryz.func66,Tryz.ntmps66
 go_wp2
 rw[Lib.run_to_unsafe w ⟨b,0,none⟩ bldPtr bldUns hj (by rw[hjs];decide) hsh (show 0 < cells by omega)]
 simp only[Result.andThen]
 rw[Oper.upon_value]
 go_wp2
 rw[run_callFunc_extern Tryz.func80 (by kernel_rfl) (by kernel_rfl) (by kernel_rfl) (e:=Extern.AbiNoEscape.same) (by kernel_rfl)]
 rw[Lib.run_noEscape]
 simp only[Result.andThen]
 rw[Oper.upon_value]
 go_wp2
 rw[Lib.run_from_unsafe w ⟨b,0,none⟩ bldUns bldPtr hj hsh (bld_lies hcl)]
 simp only[Result.andThen]
 rw[Oper.upon_value]
 go_wp2
 go_end0
 exact⟨rfl,rfl⟩
def blB (p s:AV):Blk:=boxBlk 67 2 [p,s]
def spCC:Am.Spec:=fun args H=>match args with
 |[.ptr b 0 0 0]=>match hat H b with
  |some B=>match B.get 0 with
   |[.nilptr,s]=>some (.tup [],H.set b (blB (.ptr b 0 0 0) s),B=blB .nilptr s)
   |[.ptr b' 0 0 0,s]=>some (.tup [],H,B=blB (.ptr b' 0 0 0) s∧b' = b)
   |_=>none
  |none=>none
 |_=>none
theorem spCC_ok:SpecOk Tryz.prog 66 spCC:=by
 refine⟨⟨Tryz.f66,Tryz.func66,by kernel_rfl,by kernel_rfl⟩,fun args H v H1 ob h hob=>?_⟩
 unfold spCC at h
 split at h
 ·rename_i b
  split at h
  ·rename_i B hB
   split at h
   ·rename_i s hg
    cases h
    subst hob
    intro φ base W vs hS hvs
    obtain⟨u,us,rfl,hu,rfl⟩:=hvs
    have eu:=ptr_at hu hB rfl
    rcases hS.ow b _ hB rfl with q|⟨hnn,cur,c1,c2,c3,c4,c5,c6,c7⟩
    ·cases q.2
    obtain⟨x0,x1,x2,x3⟩:=c7 0 0 .nilptr (by show 0 < 1;decide) rfl
    obtain rfl:x0 = .pointer none:=x2
    obtain⟨y0,y1,y2,y3⟩:=c7 0 1 s (by show 0 < 1;decide) rfl
    have hb1:(blB .nilptr s).sz=2:=rfl
    have hlen:(blB .nilptr s).len=1:=rfl
    rw[hlen] at c4
    rw[hb1] at c3 x1 y1
    simp only[c2,Nat.zero_mul,Nat.add_zero] at eu
    subst eu
    have hsh:W.shape? (φ b).blk=some (67,cur.size):=by
     obtain⟨z,c1,_⟩:=c1
     simp[World.shape?,c1]
     rfl
    have hfz:W.frozen? ⟨(φ b).blk,0,none⟩=false:=by
     obtain⟨⟨lo,hi⟩,c1,hz⟩:=c1
     simp only[World.frozen?,c1,Bool.and_eq_false_iff,decide_eq_false_iff_not]
     rcases hz with hz|hz
     ·injection hz with h1 h2
      right
      omega
     ·left
      simp only at hz
      omega
    refine(cc_fresh (φ b).blk W (by rw[c1.cell];exact x1) hsh (by omega) hfz).mono ?_
    rintro e W' ⟨rfl,rfl⟩
    have hbl:b < H.length:=(List.getElem?_eq_some_iff.1 hB).1
    have eW:W.setCell ⟨(φ b).blk,0,none⟩ (.pointer (some ⟨(φ b).blk,0,none⟩))=W.setRow (φ b).blk (cur.setIfInBounds 0 (.pointer (some ⟨(φ b).blk,0,none⟩))):=by
     obtain⟨z,c1,_⟩:=c1
     exact setCell_eq_setRow W _ _ _ _ _ _ c1
    rw[eW]
    have hx' : Ext φ H φ (H.set b (blB (.ptr b 0 0 0) s)):=by
     intro k B0 hB0
     by_cases e:b=k
     ·subst e
      have hB' : H[b]? = some (blB .nilptr s):=hB
      rw[hB'] at hB0
      obtain rfl:=Option.some.inj hB0
      exact⟨_,List.getElem?_set_self hbl,rfl,rfl,rfl,Nat.le_refl _,fun _=>Nat.le_refl _,fun _=>rfl⟩
     ·exact⟨B0,by rw[List.getElem?_set_ne e];exact hB0,rfl,rfl,rfl,Nat.le_refl _,fun _=>Nat.le_refl _,fun _=>rfl⟩
    have hb:Below base W (W.setRow (φ b).blk (cur.setIfInBounds 0 (.pointer (some ⟨(φ b).blk,0,none⟩)))):=⟨rfl,rfl,rfl,by simp,fun k hk=>setRow_other W (φ b).blk k _ (by omega)⟩
    refine⟨φ,.tup [],_,_,rfl,⟨rfl,rfl⟩,hx',hS.step hx' hb b ?_ ?_,⟨_,rfl,rfl⟩,hb⟩
    ·intro k B0 hB0 hne
     rw[List.getElem?_set_ne (fun e=>hne e.symm)] at hB0
     refine⟨hB0,rfl,fun ho0 hn0=>setRow_other W _ _ _ ?_⟩
     exact hS.inj k b B0 _ hB0 hB ho0 rfl hn0 hnn hne
    ·intro B0 hB0
     rw[List.getElem?_set_self hbl] at hB0
     obtain rfl:=Option.some.inj hB0
     refine⟨rfl,.inr ⟨hnn,_,c1.set (by simp),c2,by rw[Array.size_setIfInBounds];exact c3,c4,c5,c6,?_⟩,fun i _=>rfl,fun _ k B0 hB0 ho0 hn0 hne=>?_⟩
     ·intro i j v hi hv
      have hi:i < 1:=hi
      obtain rfl:i=0:=by omega
      match j,hv with
      |0,hv=>
       obtain rfl:=Option.some.inj hv
       refine⟨.pointer (some ⟨(φ b).blk,0,none⟩),?_,⟨rfl,_,List.getElem?_set_self hbl,Nat.le_refl _,fun _=>?_⟩,rfl⟩
       ·rw[Nat.zero_mul,Nat.zero_add,Array.getElem?_setIfInBounds_self,if_pos (by omega)]
       ·rw[c2,Nat.zero_mul]
      |1,hv=>
       obtain rfl:=Option.some.inj hv
       refine⟨y0,?_,VRel.ext hx' _ _ y2,y3⟩
       rw[Nat.zero_mul,Nat.zero_add]
       rw[Array.getElem?_setIfInBounds_ne (by decide)]
       rw[Nat.zero_mul,Nat.zero_add] at y1
       exact y1
      |j+2,hv=>cases hv
     ·rw[List.getElem?_set_ne (fun e=>hne e.symm)] at hB0
      exact hS.inj k b B0 _ hB0 hB ho0 rfl hn0 hnn hne
   ·rename_i b' s hg
    cases h
    obtain⟨rfl,rfl⟩:=hob
    intro φ base W vs hS hvs
    obtain⟨u,us,rfl,hu,rfl⟩:=hvs
    have eu:=ptr_at hu hB rfl
    rcases hS.ow b' _ hB rfl with q|⟨hnn,cur,c1,c2,c3,c4,c5,c6,c7⟩
    ·cases q.2
    obtain⟨x0,x1,x2,x3⟩:=c7 0 0 (.ptr b' 0 0 0) (by show 0 < 1;decide) rfl
    have ex:=ptr_at x2 hB rfl
    simp only[c2,Nat.zero_mul,Nat.add_zero] at eu ex
    subst eu ex
    refine(cc_used (φ b').blk W (by rw[c1.cell];exact x1)).mono ?_
    rintro e W' ⟨rfl,rfl⟩
    exact⟨φ,.tup [],_,H,rfl,⟨rfl,rfl⟩,Ext.refl _ _,hS,⟨_,rfl,rfl⟩,Below.refl _ _⟩
   ·cases h
  ·cases h
 ·cases h
end Go.Proofs.YtjokedpaidmjoaaGreatDoor.Rf
