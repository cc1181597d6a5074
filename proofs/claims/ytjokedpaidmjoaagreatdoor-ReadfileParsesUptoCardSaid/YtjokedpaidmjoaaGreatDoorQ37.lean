/- A part of the proof. -/
import Derived.Test.YtjokedpaidmjoaaGreatDoorQ36
set_option linter.all false
namespace Go.Proofs.YtjokedpaidmjoaaGreatDoor.Rf
open Go Go.RowKit Go.Proofs.YtjokedpaidmjoaaGreatDoor.Am Go.Proofs.YtjokedpaidmjoaaGreatDoor.Pu Go.Proofs.YtjokedpaidmjoaaGreatDoor
theorem s10_dist:bU 64=some spDist:=rfl
attribute [local go_sem] areg aseq gstep gwant astep apick aop aslice alen aappend unw opTmps opnds tmpsOf aev Am.get ofConst ofConst1 putT strip abin aun initT AThen AIn ws_n ws_r ws_e ws_g aw_seq aw_reg aw_draw aw_cond aw_block aw_skip aw_ret aw_exit aw_goto aw_label aw_loop aw_scope ANoGoto AJ ares oneOr bound asInt fieldOf ldv setSeg AV.cells AV.whole AV.cell tys Ty.agg ty9 ty3 ty2 ty5 ty4 ty89 ty21 ty37 ty46 ty83 ty73 ty81 ty41 ty23 ty25 ty27 ty28 ty48 afill zeroRow litGet litCells adraw awit adchk pchk qchk gchk looks restr tfin Has hat_z hat_s hat_len hat_appL hat_appN hat_appK hat_setS hat_setN set_appL set_appN set_appK box_t bz aM aN aQ aR aA aT row_t bA aU aC aV row_one aW
attribute [local go_sem] C10_ty C10_fn eG eH s10_dist spDist
attribute [local go_sem] List.set_set
set_option maxRecDepth 10000
def rdL2 (r:Rd):List Int:=[r.slot,r.imp,r.exp] ++ (if r.var = -9223372036854775808 then [9223372036854775807,1] else [IntKind.i64.wrap (r.var.natAbs:Int)])
def sumL2 (l:List Rd):List Int:=l.flatMap rdL2
theorem rdL2_sum {r:Rd} (h:RdW r):(rdL2 r).sum=(rdL r).sum:=by
 obtain⟨_,_,_,h4⟩:=h
 unfold in64 at h4
 unfold rdL2 rdL
 rw[List.sum_append,List.sum_append]
 congr 1
 by_cases h1:r.var = -9223372036854775808
 ·rw[if_pos h1,if_pos (by omega),h1]
  decide
 ·rw[if_neg h1,av (n:=(r.var.natAbs:Int)) (by omega) (by omega)]
  by_cases h2:r.var < 0
  ·rw[if_pos h2,av (n:=r.var+1) (by omega) (by omega),av (n:=-(r.var+1)) (by omega) (by omega)]
   simp
   omega
  ·rw[if_neg h2]
   simp
   omega
theorem sumL2_sum {l:List Rd} (h : ∀ r∈l,RdW r):(sumL2 l).sum=(sumL l).sum:=by
 unfold sumL2 sumL
 induction l with
 |nil=>rfl
 |cons a r ih=>
  simp only[List.flatMap_cons,List.sum_append]
  rw[ih (fun x hx=>h x (by simp[hx])),rdL2_sum (h a (by simp))]
theorem sumR_same {l m:List Int} (h:l.sum=m.sum):sumR l=sumR m:=by unfold sumR;rw[h]
theorem rdL2_in {r:Rd} (h:RdW r) : ∀ x∈rdL2 r,in64 x:=by
 obtain⟨h1,h2,h3,h4⟩:=h
 intro x hx
 unfold rdL2 at hx
 unfold in64 at h4
 split at hx
 ·simp at hx
  rcases hx with rfl|rfl|rfl|rfl|rfl
  ·exact h1
  ·exact h2
  ·exact h3
  ·exact⟨by decide,by decide⟩
  ·exact⟨by decide,by decide⟩
 ·simp at hx
  rcases hx with rfl|rfl|rfl|rfl
  ·exact h1
  ·exact h2
  ·exact h3
  ·rename_i hne
   rw[av (by omega) (by omega)]
   exact⟨by omega,by omega⟩
theorem sumL2_in {l:List Rd} (h : ∀ r∈l,RdW r) : ∀ x∈sumL2 l,in64 x:=by
 intro x hx
 unfold sumL2 at hx
 obtain⟨r,hr,hx⟩:=List.mem_flatMap.1 hx
 exact rdL2_in (h r hr) x hx
theorem sumL2_len (l:List Rd):(sumL2 l).length≤5 * l.length:=by
 unfold sumL2
 induction l with
 |nil=>simp
 |cons a r ih=>
  have:(rdL2 a).length≤5:=by unfold rdL2;split <;> simp
  simp only[List.flatMap_cons,List.length_append,List.length_cons]
  omega
end Go.Proofs.YtjokedpaidmjoaaGreatDoor.Rf
