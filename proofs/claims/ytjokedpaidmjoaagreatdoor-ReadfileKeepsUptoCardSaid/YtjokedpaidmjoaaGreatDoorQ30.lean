/- A part of the proof. -/
import Derived.Test.YtjokedpaidmjoaaGreatDoorQ29
set_option linter.all false
namespace Go.Proofs.YtjokedpaidmjoaaGreatDoor.Rf
open Go Go.RowKit Go.Proofs.YtjokedpaidmjoaaGreatDoor.Am Go.Proofs.YtjokedpaidmjoaaGreatDoor.Pu Go.Proofs.YtjokedpaidmjoaaGreatDoor
theorem s9_mag:fq 71=some spMag:=rfl
attribute [local go_sem] areg aseq gstep gwant astep apick aop aslice alen aappend aappendS aconvS aconvB unw opTmps opnds tmpsOf aev Am.get ofConst ofConst1 putT strip abin aun initT AThen AIn ws_n ws_r ws_e ws_g aw_seq aw_reg aw_draw aw_cond aw_block aw_skip aw_ret aw_exit aw_goto aw_label aw_loop aw_scope ANoGoto AJ ares oneOr bound asInt fieldOf ldv setSeg AV.cells AV.whole AV.cell tys Ty.agg ty9 ty3 ty2 ty5 ty4 ty89 ty21 ty37 ty46 ty83 ty73 ty81 ty41 ty23 ty25 ty27 ty28 ty48 afill zeroRow litGet litCells adraw awit adchk pchk qchk gchk looks restr tfin Has hat_z hat_s hat_len hat_appL hat_appN hat_appK hat_setS hat_setN set_appL set_appN set_appK box_t bn aD aG aH aI ax aJ row_t bq aK ay aM row_one aN
attribute [local go_sem] C9_ty C9_fn C9_ext C9_eqt s9_mag spMag
set_option maxRecDepth 10000
def TxS (M:Nat) (m:Nat) (s:ByteArray):Prop:=(s=⟨#[]⟩∧m=M)∨(s≠⟨#[]⟩∧((m=0∧Bs s=Lib.decDigits M)∨(m≠0∧Lib.decDigits m ++ Bs s=Lib.decDigits M)))
theorem enc_digit (m:Nat):Utf8.encode (IntKind.i32.wrap (IntKind.u64.wrap (48+(m:Int).tmod 10)))=toB [UInt8.ofNat (48+m % 10)]:=by
 have e:(m:Int).tmod 10=((m % 10:Nat):Int):=by rw[Int.tmod_eq_emod_of_nonneg (by omega)];omega
 rw[e]
 have hd:m % 10 < 10:=by omega
 generalize m % 10=d at hd
 have hd:d=0∨d=1∨d=2∨d=3∨d=4∨d=5∨d=6∨d=7∨d=8∨d=9:=by omega
 rcases hd with rfl|rfl|rfl|rfl|rfl|rfl|rfl|rfl|rfl|rfl <;> decide
theorem TxS.step {M m:Nat} {s:ByteArray} (h:TxS M m s) (hc:0 < m∨s=⟨#[]⟩):TxS M (m / 10) (toB [UInt8.ofNat (48+m % 10)] ++ s):=by
 have hne:toB [UInt8.ofNat (48+m % 10)] ++ s≠⟨#[]⟩:=by
  intro q
  have:=congrArg ByteArray.size q
  have e0:(⟨#[]⟩ : ByteArray).size=0:=rfl
  have e1:(toB [UInt8.ofNat (48+m % 10)]).size=1:=rfl
  rw[ByteArray.size_append,e0,e1] at this
  omega
 have hbs:Bs (toB [UInt8.ofNat (48+m % 10)] ++ s)=UInt8.ofNat (48+m % 10) :: Bs s:=by rw[Bs_append,toB_Bs'];rfl
 refine .inr ⟨hne,?_⟩
 have key:Lib.decDigits m ++ Bs s=Lib.decDigits M:=by
  rcases h with ⟨rfl,rfl⟩|⟨h,⟨rfl,q⟩|⟨_,q⟩⟩
  ·show _ ++ []=_
   simp
  ·rcases hc with hc|hc
   ·omega
   ·exact absurd hc h
  ·exact q
 rw[hbs]
 by_cases h10:m < 10
 ·refine .inl ⟨by omega,?_⟩
  rw[Lib.decDigits_one h10] at key
  rw[show m % 10=m by omega]
  exact key
 ·refine .inr ⟨by omega,?_⟩
  rw[Lib.decDigits,dif_neg h10] at key
  rw[← key]
  simp
theorem rtext_calls {H:Heap} {n:Int} (hn:in64 n) :
  ACalls Tryz.prog 53 [.int .i64 n] H fun v H'=>v = .str (txt n)∧H' = H:=by
 refine acalls_ofN (C:=C9) (nt:=27) C9ok Tryz.func53 rfl rfl ?_
 refine awalk_sound C9ok _ _ _ _ ?_
 have h1:=hn.1
 have h2:=hn.2
 rw[aw_seq]
 generalize hK:WSeq _ _ _ _ _=K
 simp[go_sem]
 rw[← hK,ws_n,aw_seq]
 clear hK
 generalize hK:WSeq _ _ _ _ _=K
 simp[go_sem]
 refine⟨hn,?_⟩
 rw[← hK,ws_n,aw_seq]
 clear hK
 generalize hK:WSeq _ _ _ _ _=K
 simp[go_sem]
 rw[← hK,ws_n,aw_seq,aw_block,aw_loop]
 clear hK
 generalize hKo:WSeq _ _ _ _ _=Ko
 have fin : ∀ T s,Am.get T 0 = .int .i64 n → Am.get T 4 = .str s → s.size≤1000 → Bs s=Lib.decDigits n.natAbs → Ko .normal T H:=by
  intro T s t0 t4 hs hb
  rw[← hKo,ws_n]
  simp[go_sem,t0,t4]
  refine⟨fun h=>⟨by omega,.inr rfl,_,_,rfl,trivial,?_,rfl⟩,fun h=>⟨.inr rfl,_,_,rfl,trivial,?_,rfl⟩⟩
  ·show AV.str _=_
   congr 1
   apply Bs_inj
   rw[Bs_append,hb]
   unfold txt Lib.itoa
   rw[if_pos h]
   rfl
  ·show AV.str _=_
   congr 1
   apply Bs_inj
   rw[hb]
   unfold txt Lib.itoa
   rw[if_neg (by omega),show n.toNat=n.natAbs by omega]
   rfl
 refine awp_loopW (fun k T H'=>H' = H∧∃ (m:Nat) (s:ByteArray),k=m+(if s=⟨#[]⟩ then 1 else 0)∧m≤n.natAbs∧s.size≤20∧m < 10 ^ (20 - s.size)∧TxS n.natAbs m s∧T = [(4,.str s),(3,.int .u64 m),(0,.int .i64 n)]) (n.natAbs+1) _ _ ⟨?_,.inl rfl⟩ ⟨rfl,n.natAbs,⟨#[]⟩,rfl,by omega,by decide,by show n.natAbs < 10 ^ 20;omega,.inl ⟨rfl,rfl⟩,rfl⟩ ?_
 ·simp[go_sem]
 rintro k T H' ⟨rfl,m,s,hk,hmn,hsz,hm,hx,rfl⟩
 refine awalk_sound C9ok _ _ _ _ ?_
 rw[aw_seq,aw_seq]
 generalize hK:WSeq _ _ _ _ _=K
 simp[go_sem]
 have hem:s.toList.isEmpty=decide (s=⟨#[]⟩):=by
  rw[aY]
  by_cases h:s=⟨#[]⟩
  ·subst h;rfl
  ·have:Bs s≠[]:=fun q=>h (Bs_inj (by rw[q];rfl))
   cases hq:Bs s with
   |nil=>exact absurd hq this
   |cons c r=>simp[h]
 rw[hem]
 rw[← hK,ws_n]
 clear hK
 by_cases hc:0 < m∨s=⟨#[]⟩
 ·have hb:(decide (0 < m) || decide (s=⟨#[]⟩))=true:=by simpa using hc
  rw[hb]
  simp[go_sem]
  rw[enc_digit]
  have hx2:=hx.step hc
  have e2:(toB [UInt8.ofNat (48+m % 10)]).size=1:=rfl
  have e1:(toB [UInt8.ofNat (48+m % 10)] ++ s).size=s.size+1:=by rw[ByteArray.size_append,e2];omega
  have hlt:s.size < 20:=by
   rcases hc with hc|hc
   ·rcases Nat.lt_or_ge s.size 20 with h|h
    ·exact h
    ·rw[show 20 - s.size=0 by omega] at hm
     simp at hm
     omega
   ·subst hc;decide
  have hm2:m / 10 < 10 ^ (20 - (s.size+1)):=by
   rw[show 20 - s.size=(20 - (s.size+1))+1 by omega,Nat.pow_succ] at hm
   omega
  have hmw:IntKind.u64.wrap ((m:Int) / 10)=((m / 10:Nat):Int):=by
   rw[IntKind.wrap_u64]
   omega
  refine⟨by omega,m / 10,?_,[(4,.str (toB [UInt8.ofNat (48+m % 10)] ++ s)),(3,.int .u64 ((m / 10:Nat):Int)),(0,.int .i64 n)],_,⟨⟨rfl,by rw[hmw];rfl,rfl,trivial⟩,.inl rfl⟩,rfl,m / 10,toB [UInt8.ofNat (48+m % 10)] ++ s,?_,by omega,by omega,by rw[e1];exact hm2,hx2,rfl⟩
  ·rcases hc with hc|hc
   ·omega
   ·rw[if_pos hc] at hk
    omega
  ·rw[if_neg]
   ·rfl
   ·intro q
    have e0:(⟨#[]⟩ : ByteArray).size=0:=rfl
    rw[q,e0] at e1
    omega
 ·have hb:(decide (0 < m) || decide (s=⟨#[]⟩))=false:=by simpa using hc
  rw[hb]
  simp[go_sem]
  refine fin _ s rfl rfl (by omega) ?_
  rcases hx with ⟨h,_⟩|⟨h,⟨_,q⟩|⟨q,_⟩⟩
  ·exact absurd (.inr h) hc
  ·exact q
  ·exact absurd (.inl (by omega)) hc
end Go.Proofs.YtjokedpaidmjoaaGreatDoor.Rf
