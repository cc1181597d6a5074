/- A part of the proof. -/
import Derived.Test.YtcmhfcciapenfaaDoorQ34
set_option linter.all false
namespace Go.Proofs.YtcmhfcciapenfaaDoor.Pa
open Go Go.RowKit Go.Proofs.YtcmhfcciapenfaaDoorW.PrintWords Am
theorem fits_int {k:IntKind} {r:List CK} {xs:List AV} (h:fits (.int k :: r) xs) : ∃ n l,xs = .int k n :: l∧fits r l:=by
 cases xs with
 |nil=>exact h.elim
 |cons a l=>cases a <;> first|exact⟨_,_,by rw[h.1],h.2⟩|exact h.elim
theorem dN {r:List CK} {xs:List AV} (h:fits (.str :: r) xs) : ∃ n l,xs = .str n :: l∧fits r l:=by
 cases xs with
 |nil=>exact h.elim
 |cons a l=>cases a <;> first|exact⟨_,_,rfl,h⟩|exact h.elim
theorem bU {xs:List AV} (h:fits [] xs):xs = []:=by
 cases xs with
 |nil=>rfl
 |cons a l=>exact h.elim
theorem eqB70 (d:Nat) (w:World) (x0 y0:Int) (x1 y1:Int):(Op.equalIn (d+2) 70 (.agg #[.int .i64 x0,.int .i64 x1]) (.agg #[.int .i64 y0,.int .i64 y1])).run Tryd.prog w = .ok ((x0 == y0) && (x1 == y1)) w:=by
 refine eP Tryd.underlying70 (by kernel_rfl) ?_
 refine bE (by rfl) (by go_simp;rfl) (by go_simp;rfl) (by go_simp) ?_
 exact dA (by rfl) (by go_simp;rfl) (by go_simp;rfl) (by go_simp)
theorem eqOk70:EqOk Tryd.prog 70 [.int .i64,.int .i64]:=by
 refine⟨by kernel_rfl,fun w xs ys hx hy=>?_⟩
 obtain⟨x0,l,rfl,h_⟩:=fits_int hx;clear hx;have hx:=h_;clear h_
 obtain⟨x1,l,rfl,h_⟩:=fits_int hx;clear hx;have hx:=h_;clear h_
 obtain rfl:=bU hx
 obtain⟨y0,l,rfl,h_⟩:=fits_int hy;clear hy;have hy:=h_;clear h_
 obtain⟨y1,l,rfl,h_⟩:=fits_int hy;clear hy;have hy:=h_;clear h_
 obtain rfl:=bU hy
 show(Op.equalIn 10000 70 (.agg #[.int .i64 x0,.int .i64 x1]) (.agg #[.int .i64 y0,.int .i64 y1])).run Tryd.prog w=_
 rw[eqB70 9998 w x0 y0 x1 y1]
 simp[leqs,ceq,Bool.and_assoc]
theorem eqB41 (d:Nat) (w:World) (x0 y0:ByteArray) (x1 y1:Int) (x2 y2:Int):(Op.equalIn (d+2) 41 (.agg #[.string x0,.int .i64 x1,.int .i64 x2]) (.agg #[.string y0,.int .i64 y1,.int .i64 y2])).run Tryd.prog w = .ok ((x0.toList == y0.toList) && ((x1 == y1) && (x2 == y2))) w:=by
 refine eP Tryd.underlying41 (by kernel_rfl) ?_
 refine bE (by rfl) (by go_simp;rfl) (by go_simp;rfl) (by go_simp;try rw[beq_toListBytes]) ?_
 refine bE (by rfl) (by go_simp;rfl) (by go_simp;rfl) (by go_simp) ?_
 exact dA (by rfl) (by go_simp;rfl) (by go_simp;rfl) (by go_simp)
theorem eqOk41:EqOk Tryd.prog 41 [.str,.int .i64,.int .i64]:=by
 refine⟨by kernel_rfl,fun w xs ys hx hy=>?_⟩
 obtain⟨x0,l,rfl,h_⟩:=dN hx;clear hx;have hx:=h_;clear h_
 obtain⟨x1,l,rfl,h_⟩:=fits_int hx;clear hx;have hx:=h_;clear h_
 obtain⟨x2,l,rfl,h_⟩:=fits_int hx;clear hx;have hx:=h_;clear h_
 obtain rfl:=bU hx
 obtain⟨y0,l,rfl,h_⟩:=dN hy;clear hy;have hy:=h_;clear h_
 obtain⟨y1,l,rfl,h_⟩:=fits_int hy;clear hy;have hy:=h_;clear h_
 obtain⟨y2,l,rfl,h_⟩:=fits_int hy;clear hy;have hy:=h_;clear h_
 obtain rfl:=bU hy
 show(Op.equalIn 10000 41 (.agg #[.string x0,.int .i64 x1,.int .i64 x2]) (.agg #[.string y0,.int .i64 y1,.int .i64 y2])).run Tryd.prog w=_
 rw[eqB41 9998 w x0 y0 x1 y1 x2 y2]
 simp[leqs,ceq,Bool.and_assoc]
theorem eqB43 (d:Nat) (w:World) (x0 y0:Int) (x1 y1:Int) (x2 y2:Int) (x3 y3:Int):(Op.equalIn (d+2) 43 (.agg #[.int .i64 x0,.int .i64 x1,.int .i64 x2,.int .i64 x3]) (.agg #[.int .i64 y0,.int .i64 y1,.int .i64 y2,.int .i64 y3])).run Tryd.prog w = .ok ((x0 == y0) && ((x1 == y1) && ((x2 == y2) && (x3 == y3)))) w:=by
 refine eP Tryd.underlying43 (by kernel_rfl) ?_
 refine bE (by rfl) (by go_simp;rfl) (by go_simp;rfl) (by go_simp) ?_
 refine bE (by rfl) (by go_simp;rfl) (by go_simp;rfl) (by go_simp) ?_
 refine bE (by rfl) (by go_simp;rfl) (by go_simp;rfl) (by go_simp) ?_
 exact dA (by rfl) (by go_simp;rfl) (by go_simp;rfl) (by go_simp)
theorem eqOk43:EqOk Tryd.prog 43 [.int .i64,.int .i64,.int .i64,.int .i64]:=by
 refine⟨by kernel_rfl,fun w xs ys hx hy=>?_⟩
 obtain⟨x0,l,rfl,h_⟩:=fits_int hx;clear hx;have hx:=h_;clear h_
 obtain⟨x1,l,rfl,h_⟩:=fits_int hx;clear hx;have hx:=h_;clear h_
 obtain⟨x2,l,rfl,h_⟩:=fits_int hx;clear hx;have hx:=h_;clear h_
 obtain⟨x3,l,rfl,h_⟩:=fits_int hx;clear hx;have hx:=h_;clear h_
 obtain rfl:=bU hx
 obtain⟨y0,l,rfl,h_⟩:=fits_int hy;clear hy;have hy:=h_;clear h_
 obtain⟨y1,l,rfl,h_⟩:=fits_int hy;clear hy;have hy:=h_;clear h_
 obtain⟨y2,l,rfl,h_⟩:=fits_int hy;clear hy;have hy:=h_;clear h_
 obtain⟨y3,l,rfl,h_⟩:=fits_int hy;clear hy;have hy:=h_;clear h_
 obtain rfl:=bU hy
 show(Op.equalIn 10000 43 (.agg #[.int .i64 x0,.int .i64 x1,.int .i64 x2,.int .i64 x3]) (.agg #[.int .i64 y0,.int .i64 y1,.int .i64 y2,.int .i64 y3])).run Tryd.prog w=_
 rw[eqB43 9998 w x0 y0 x1 y1 x2 y2 x3 y3]
 simp[leqs,ceq,Bool.and_assoc]
theorem eqB45 (d:Nat) (w:World) (x0 y0:ByteArray) (x1 y1:Int) (x2 y2:Int) (x3 y3:Int) (x4 y4:ByteArray):(Op.equalIn (d+2) 45 (.agg #[.string x0,.int .i64 x1,.int .i64 x2,.int .i64 x3,.string x4]) (.agg #[.string y0,.int .i64 y1,.int .i64 y2,.int .i64 y3,.string y4])).run Tryd.prog w = .ok ((x0.toList == y0.toList) && ((x1 == y1) && ((x2 == y2) && ((x3 == y3) && (x4.toList == y4.toList))))) w:=by
 refine eP Tryd.underlying45 (by kernel_rfl) ?_
 refine bE (by rfl) (by go_simp;rfl) (by go_simp;rfl) (by go_simp;try rw[beq_toListBytes]) ?_
 refine bE (by rfl) (by go_simp;rfl) (by go_simp;rfl) (by go_simp) ?_
 refine bE (by rfl) (by go_simp;rfl) (by go_simp;rfl) (by go_simp) ?_
 refine bE (by rfl) (by go_simp;rfl) (by go_simp;rfl) (by go_simp) ?_
 exact dA (by rfl) (by go_simp;rfl) (by go_simp;rfl) (by go_simp;try rw[beq_toListBytes])
theorem eqOk45:EqOk Tryd.prog 45 [.str,.int .i64,.int .i64,.int .i64,.str]:=by
 refine⟨by kernel_rfl,fun w xs ys hx hy=>?_⟩
 obtain⟨x0,l,rfl,h_⟩:=dN hx;clear hx;have hx:=h_;clear h_
 obtain⟨x1,l,rfl,h_⟩:=fits_int hx;clear hx;have hx:=h_;clear h_
 obtain⟨x2,l,rfl,h_⟩:=fits_int hx;clear hx;have hx:=h_;clear h_
 obtain⟨x3,l,rfl,h_⟩:=fits_int hx;clear hx;have hx:=h_;clear h_
 obtain⟨x4,l,rfl,h_⟩:=dN hx;clear hx;have hx:=h_;clear h_
 obtain rfl:=bU hx
 obtain⟨y0,l,rfl,h_⟩:=dN hy;clear hy;have hy:=h_;clear h_
 obtain⟨y1,l,rfl,h_⟩:=fits_int hy;clear hy;have hy:=h_;clear h_
 obtain⟨y2,l,rfl,h_⟩:=fits_int hy;clear hy;have hy:=h_;clear h_
 obtain⟨y3,l,rfl,h_⟩:=fits_int hy;clear hy;have hy:=h_;clear h_
 obtain⟨y4,l,rfl,h_⟩:=dN hy;clear hy;have hy:=h_;clear h_
 obtain rfl:=bU hy
 show(Op.equalIn 10000 45 (.agg #[.string x0,.int .i64 x1,.int .i64 x2,.int .i64 x3,.string x4]) (.agg #[.string y0,.int .i64 y1,.int .i64 y2,.int .i64 y3,.string y4])).run Tryd.prog w=_
 rw[eqB45 9998 w x0 y0 x1 y1 x2 y2 x3 y3 x4 y4]
 simp[leqs,ceq,Bool.and_assoc]
theorem eqB31 (d:Nat) (w:World) (x0 y0:Int) (x1 y1:Int) (x2 y2:Int) (x3 y3:Int):(Op.equalIn (d+2) 31 (.agg #[.int .i64 x0,.int .i64 x1,.int .i64 x2,.int .i64 x3]) (.agg #[.int .i64 y0,.int .i64 y1,.int .i64 y2,.int .i64 y3])).run Tryd.prog w = .ok ((x0 == y0) && ((x1 == y1) && ((x2 == y2) && (x3 == y3)))) w:=by
 refine eP Tryd.underlying31 (by kernel_rfl) ?_
 refine bE (by rfl) (by go_simp;rfl) (by go_simp;rfl) (by go_simp) ?_
 refine bE (by rfl) (by go_simp;rfl) (by go_simp;rfl) (by go_simp) ?_
 refine bE (by rfl) (by go_simp;rfl) (by go_simp;rfl) (by go_simp) ?_
 exact dA (by rfl) (by go_simp;rfl) (by go_simp;rfl) (by go_simp)
theorem eqOk31:EqOk Tryd.prog 31 [.int .i64,.int .i64,.int .i64,.int .i64]:=by
 refine⟨by kernel_rfl,fun w xs ys hx hy=>?_⟩
 obtain⟨x0,l,rfl,h_⟩:=fits_int hx;clear hx;have hx:=h_;clear h_
 obtain⟨x1,l,rfl,h_⟩:=fits_int hx;clear hx;have hx:=h_;clear h_
 obtain⟨x2,l,rfl,h_⟩:=fits_int hx;clear hx;have hx:=h_;clear h_
 obtain⟨x3,l,rfl,h_⟩:=fits_int hx;clear hx;have hx:=h_;clear h_
 obtain rfl:=bU hx
 obtain⟨y0,l,rfl,h_⟩:=fits_int hy;clear hy;have hy:=h_;clear h_
 obtain⟨y1,l,rfl,h_⟩:=fits_int hy;clear hy;have hy:=h_;clear h_
 obtain⟨y2,l,rfl,h_⟩:=fits_int hy;clear hy;have hy:=h_;clear h_
 obtain⟨y3,l,rfl,h_⟩:=fits_int hy;clear hy;have hy:=h_;clear h_
 obtain rfl:=bU hy
 show(Op.equalIn 10000 31 (.agg #[.int .i64 x0,.int .i64 x1,.int .i64 x2,.int .i64 x3]) (.agg #[.int .i64 y0,.int .i64 y1,.int .i64 y2,.int .i64 y3])).run Tryd.prog w=_
 rw[eqB31 9998 w x0 y0 x1 y1 x2 y2 x3 y3]
 simp[leqs,ceq,Bool.and_assoc]
theorem eqB23 (d:Nat) (w:World) (x0 y0:Int) (x1 y1:Int) (x2 y2:Int) (x3 y3:Int):(Op.equalIn (d+2) 23 (.agg #[.int .i64 x0,.int .i64 x1,.int .i64 x2,.int .i64 x3]) (.agg #[.int .i64 y0,.int .i64 y1,.int .i64 y2,.int .i64 y3])).run Tryd.prog w = .ok ((x0 == y0) && ((x1 == y1) && ((x2 == y2) && (x3 == y3)))) w:=by
 refine eP Tryd.underlying23 (by kernel_rfl) ?_
 refine bE (by rfl) (by go_simp;rfl) (by go_simp;rfl) (by go_simp) ?_
 refine bE (by rfl) (by go_simp;rfl) (by go_simp;rfl) (by go_simp) ?_
 refine bE (by rfl) (by go_simp;rfl) (by go_simp;rfl) (by go_simp) ?_
 exact dA (by rfl) (by go_simp;rfl) (by go_simp;rfl) (by go_simp)
theorem eqB25 (d:Nat) (w:World) (x0 y0:Int) (x1 y1:Int) (x2 y2:Int) (x3 y3:Int) (x4 y4:Int) (x5 y5:Int) (x6 y6:Int) (x7 y7:Int) (x8 y8:Int) (x9 y9:Int):(Op.equalIn (d+3) 25 (.agg #[.int .i64 x0,.int .i64 x1,.int .i64 x2,.int .i64 x3,.int .i64 x4,.int .i64 x5,.int .i64 x6,.int .i64 x7,.int .i64 x8,.int .i64 x9]) (.agg #[.int .i64 y0,.int .i64 y1,.int .i64 y2,.int .i64 y3,.int .i64 y4,.int .i64 y5,.int .i64 y6,.int .i64 y7,.int .i64 y8,.int .i64 y9])).run Tryd.prog w = .ok ((x0 == y0) && ((x1 == y1) && (((x2 == y2) && ((x3 == y3) && ((x4 == y4) && (x5 == y5)))) && ((x6 == y6) && ((x7 == y7) && ((x8 == y8) && (x9 == y9))))))) w:=by
 refine eP Tryd.underlying25 (by kernel_rfl) ?_
 refine bE (by rfl) (by go_simp;rfl) (by go_simp;rfl) (by go_simp) ?_
 refine bE (by rfl) (by go_simp;rfl) (by go_simp;rfl) (by go_simp) ?_
 refine bE (by rfl) (by go_simp) (by go_simp) (eqB23 d w _ _ _ _ _ _ _ _) ?_
 exact dA (by rfl) (by go_simp) (by go_simp) (eqB23 d w _ _ _ _ _ _ _ _)
theorem eqOk25:EqOk Tryd.prog 25 [.int .i64,.int .i64,.int .i64,.int .i64,.int .i64,.int .i64,.int .i64,.int .i64,.int .i64,.int .i64]:=by
 refine⟨by kernel_rfl,fun w xs ys hx hy=>?_⟩
 obtain⟨x0,l,rfl,h_⟩:=fits_int hx;clear hx;have hx:=h_;clear h_
 obtain⟨x1,l,rfl,h_⟩:=fits_int hx;clear hx;have hx:=h_;clear h_
 obtain⟨x2,l,rfl,h_⟩:=fits_int hx;clear hx;have hx:=h_;clear h_
 obtain⟨x3,l,rfl,h_⟩:=fits_int hx;clear hx;have hx:=h_;clear h_
 obtain⟨x4,l,rfl,h_⟩:=fits_int hx;clear hx;have hx:=h_;clear h_
 obtain⟨x5,l,rfl,h_⟩:=fits_int hx;clear hx;have hx:=h_;clear h_
 obtain⟨x6,l,rfl,h_⟩:=fits_int hx;clear hx;have hx:=h_;clear h_
 obtain⟨x7,l,rfl,h_⟩:=fits_int hx;clear hx;have hx:=h_;clear h_
 obtain⟨x8,l,rfl,h_⟩:=fits_int hx;clear hx;have hx:=h_;clear h_
 obtain⟨x9,l,rfl,h_⟩:=fits_int hx;clear hx;have hx:=h_;clear h_
 obtain rfl:=bU hx
 obtain⟨y0,l,rfl,h_⟩:=fits_int hy;clear hy;have hy:=h_;clear h_
 obtain⟨y1,l,rfl,h_⟩:=fits_int hy;clear hy;have hy:=h_;clear h_
 obtain⟨y2,l,rfl,h_⟩:=fits_int hy;clear hy;have hy:=h_;clear h_
 obtain⟨y3,l,rfl,h_⟩:=fits_int hy;clear hy;have hy:=h_;clear h_
 obtain⟨y4,l,rfl,h_⟩:=fits_int hy;clear hy;have hy:=h_;clear h_
 obtain⟨y5,l,rfl,h_⟩:=fits_int hy;clear hy;have hy:=h_;clear h_
 obtain⟨y6,l,rfl,h_⟩:=fits_int hy;clear hy;have hy:=h_;clear h_
 obtain⟨y7,l,rfl,h_⟩:=fits_int hy;clear hy;have hy:=h_;clear h_
 obtain⟨y8,l,rfl,h_⟩:=fits_int hy;clear hy;have hy:=h_;clear h_
 obtain⟨y9,l,rfl,h_⟩:=fits_int hy;clear hy;have hy:=h_;clear h_
 obtain rfl:=bU hy
 show(Op.equalIn 10000 25 (.agg #[.int .i64 x0,.int .i64 x1,.int .i64 x2,.int .i64 x3,.int .i64 x4,.int .i64 x5,.int .i64 x6,.int .i64 x7,.int .i64 x8,.int .i64 x9]) (.agg #[.int .i64 y0,.int .i64 y1,.int .i64 y2,.int .i64 y3,.int .i64 y4,.int .i64 y5,.int .i64 y6,.int .i64 y7,.int .i64 y8,.int .i64 y9])).run Tryd.prog w=_
 rw[eqB25 9997 w x0 y0 x1 y1 x2 y2 x3 y3 x4 y4 x5 y5 x6 y6 x7 y7 x8 y8 x9 y9]
 simp[leqs,ceq,Bool.and_assoc]
def eqs9:TypeId → Option (List CK)
 |70=>some [.int .i64,.int .i64]
 |41=>some [.str,.int .i64,.int .i64]
 |43=>some [.int .i64,.int .i64,.int .i64,.int .i64]
 |45=>some [.str,.int .i64,.int .i64,.int .i64,.str]
 |31=>some [.int .i64,.int .i64,.int .i64,.int .i64]
 |25=>some [.int .i64,.int .i64,.int .i64,.int .i64,.int .i64,.int .i64,.int .i64,.int .i64,.int .i64,.int .i64]
 |_=>none
theorem eqs9_ok : ∀ t K,eqs9 t=some K → EqOk Tryd.prog t K:=by
 intro t K h
 unfold eqs9 at h
 split at h
 ·cases h;exact eqOk70
 ·cases h;exact eqOk41
 ·cases h;exact eqOk43
 ·cases h;exact eqOk45
 ·cases h;exact eqOk31
 ·cases h;exact eqOk25
 ·cases h
end Go.Proofs.YtcmhfcciapenfaaDoor.Pa
