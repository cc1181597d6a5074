/- A part of the proof. -/
import Derived.Test.YtjokedpaidmjoaaGreatDoorQ46
set_option linter.all false
namespace Go.Proofs.YtjokedpaidmjoaaGreatDoor.Rf
open Go Go.RowKit Go.Proofs.YtjokedpaidmjoaaGreatDoor.Am Go.Proofs.YtjokedpaidmjoaaGreatDoorW.PrintWords Go.Proofs.YtjokedpaidmjoaaGreatDoor.Pa Go.Proofs.YtjokedpaidmjoaaGreatDoor.Pu Go.Proofs.YtjokedpaidmjoaaGreatDoor
theorem WS_bad {l:ByteArray} (h : ¬ (WS l).2.2=0):1≤(WS l).2.1:=by
 unfold WS at h ⊢
 cases hw:wd (Bs l) none 0 with
 |error c=>
  have:=(wd_err _ _ _ _ hw).1
  show 1≤(c:Int)
  omega
 |ok vs=>rw[hw] at h;simp[res] at h
theorem dA {ws:List ByteArray} {k:Nat} {n:Nat} (hl:ws.length=n) (hk:k < n):1≤colP ws (k:Int):=dX (by omega) (by omega)
theorem rhCol_ge {ws:List ByteArray} (hl:ws.length=7) (h : ¬ rhCol ws=0):1≤rhCol ws:=by
 unfold rhCol at h ⊢
 split at h
 ·rename_i c;rw[if_pos c];exact dA hl (k:=1) (by omega)
 rename_i c;rw[if_neg c]
 split at h
 ·rename_i c;rw[if_pos c];exact dA hl (k:=2) (by omega)
 rename_i c;rw[if_neg c]
 split at h
 ·rename_i c;rw[if_pos c];exact dA hl (k:=3) (by omega)
 rename_i c;rw[if_neg c]
 split at h
 ·rename_i c;rw[if_pos c];exact dA hl (k:=4) (by omega)
 rename_i c;rw[if_neg c]
 split at h
 ·rename_i c;rw[if_pos c];exact dA hl (k:=5) (by omega)
 rename_i c;rw[if_neg c]
 split at h
 ·rename_i c;rw[if_pos c];exact dA hl (k:=6) (by omega)
 exact absurd rfl h
theorem rrCol_ge {ws:List ByteArray} {sl:Int} (hl:ws.length=6) (h : ¬ rrCol ws sl=0):1≤rrCol ws sl:=by
 unfold rrCol at h ⊢
 split at h
 ·rename_i c;rw[if_pos c];exact dA hl (k:=1) (by omega)
 rename_i c;rw[if_neg c]
 split at h
 ·rename_i c;rw[if_pos c];exact dA hl (k:=2) (by omega)
 rename_i c;rw[if_neg c]
 split at h
 ·rename_i c;rw[if_pos c];exact dA hl (k:=3) (by omega)
 rename_i c;rw[if_neg c]
 split at h
 ·rename_i c;rw[if_pos c];exact dA hl (k:=4) (by omega)
 rename_i c;rw[if_neg c]
 split at h
 ·rename_i c;rw[if_pos c];exact dA hl (k:=5) (by omega)
 exact absurd rfl h
theorem rtCol_ge {ws:List ByteArray} {f:Fi} (hl:ws.length=3) (h : ¬ rtCol ws f=0):1≤rtCol ws f:=by
 unfold rtCol at h ⊢
 split at h
 ·rename_i c;rw[if_pos c];exact dA hl (k:=1) (by omega)
 rename_i c;rw[if_neg c]
 split at h
 ·rename_i c;rw[if_pos c];exact dA hl (k:=2) (by omega)
 exact absurd rfl h
theorem rLine_ge {ws:List ByteArray} {i:Int} {f:Fi} (h : ¬ (rLine i ws f).1=0):1≤(rLine i ws f).1:=by
 unfold rLine at h ⊢
 split at h
 ·rename_i c
  rw[if_pos c]
  exact rhCol_ge (bK c.2) h
 rename_i c
 rw[if_neg c]
 split at h
 ·rename_i c
  rw[if_pos c]
  exact rrCol_ge (bK c.2.1) h
 rename_i c
 rw[if_neg c]
 split at h
 ·rename_i c
  rw[if_pos c]
  exact rtCol_ge (bK c.2) h
 rename_i c
 rw[if_neg c]
 exact Int.le_refl _
theorem rL_bad (cut:Bool) : ∀ (ls:List ByteArray) (i:Int) (f:Fi) (d:Bool) (l c:Int),rL cut ls i f d = .bad l c → i+1≤l∧l≤i+1+ls.length∧1≤c
 |[],i,f,d,l,c,h=>by
  unfold rL at h
  split at h
  ·cases h
   simp
  ·cases h
 |x :: r,i,f,d,l,c,h=>by
  rw[List.length_cons]
  unfold rL at h
  split at h
  ·cases h
   omega
  split at h
  ·rename_i hw
   cases h
   have:=WS_bad hw
   omega
  split at h
  ·have:=rL_bad cut r _ _ _ l c h
   omega
  ·rename_i hc
   cases h
   have:=rLine_ge hc
   omega
theorem flat_count (ls:List (List UInt8)):ls.length≤(flat ls).count 10:=by
 induction ls with
 |nil=>simp
 |cons l r ih=>
  rw[flat_cons,List.count_append,List.count_cons_self,List.length_cons]
  omega
theorem lines_count (a:ByteArray) (hs:a.size≤1048576):(bC a).length≤(Bs a).count 10:=by
 have hz:(a.extract 0 (cutN a)).size≤1048576:=by
  rw[ByteArray.size_extract]
  have:=cutN_le a
  omega
 have hb:Bs (a.extract 0 (cutN a))=(Bs a).take (cutN a):=by
  rw[bH,List.drop_zero,Nat.sub_zero]
 have hk:=cut_ok a hs
 unfold bC
 unfold LS at hk ⊢
 rw[if_neg (by omega)] at hk ⊢
 cases e:lf (Bs (a.extract 0 (cutN a))) [] with
 |error n=>simp[lres]
 |ok ls=>
  have h1:=lf_back _ _ _ e
  rw[List.nil_append,hb] at h1
  have h2:=flat_count ls
  rw[← h1] at h2
  have h3:((Bs a).take (cutN a)).count 10≤(Bs a).count 10:=List.Sublist.count_le 10 (List.take_sublist _ _)
  simp only[lres,List.nil_append,List.length_map]
  omega
theorem bad_law {a:ByteArray} {l c:Int} (h:pR a = .bad l c):1≤l∧l≤1+((Bs a).count 10:Int)∧1≤c:=by
 unfold pR at h
 split at h
 ·cases h
 ·have h1:=rL_bad _ _ _ _ _ _ _ h
  have h2:=lines_count a (by omega)
  omega
end Go.Proofs.YtjokedpaidmjoaaGreatDoor.Rf
