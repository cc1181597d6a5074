/- A part of the proof. -/
import Derived.Test.YtcmhfcciapenfaaDoorQ36
set_option linter.all false
namespace Go.Proofs.YtcmhfcciapenfaaDoor.Pa
open Go Go.RowKit Go.Proofs.YtcmhfcciapenfaaDoorW.PrintWords Am
attribute [local go_sem] areg aseq gstep astep apick aop aslice alen aappend unw opTmps opnds tmpsOf aev Am.get ofConst ofConst1 putT strip abin aun initT AThen AIn ares oneOr bound asInt fieldOf ldv boxBlk setSeg Blk.put AV.cells AV.whole AV.cell tys ty33 ty26 ty41 ty28 ty45 ty29 ty48 ty70 ty49 ty3 ty2 ty4 ty9 ty35 Ty.agg
set_option maxRecDepth 10000
theorem dR {C:Ctx} {nt:Nat} {H0:Heap} {ops:Array Oper} {T:Tmps} {H:Heap} {R:APost} {l:List Oper} (hC:CtxOk C) (n:Nat) (h:match aseq C nt ops (l.take n) T H with|some (T1,H1,ob)=>ob∧AOps C nt H0 ops R (l.drop n) T1 H1|none=>False):AOps C nt H0 ops R l T H:=by
 induction n generalizing l T H with
 |zero=>simpa [aseq] using h
 |succ n ih=>
  cases l with
  |nil=>simpa [aseq] using h
  |cons o r=>
   simp only[List.take_succ_cons,List.drop_succ_cons,aseq] at h
   split at h
   ·rename_i T1 H1 ob hq
    split at hq
    ·rename_i v H2 ob1 h1
     split at hq
     ·rename_i T2 h2
      split at hq
      ·rename_i T3 H3 ob3 h3
       cases hq
       exact aops_step hC h1 h2 h.1.1 (ih (by rw[h3];exact⟨h.1.2,h.2⟩))
      ·cases hq
     ·cases hq
    ·cases hq
   ·exact h.elim
section
theorem hget (L0 L:Heap) (k:Nat):hat (L0 ++ L) (L0.length+k)=hat L k:=by
 unfold hat
 rw[List.getElem?_append_right (by omega)];congr 1;omega
theorem hat_z (B:Blk) (L:Heap):hat (B :: L) 0=some B:=rfl
theorem hat_s (B:Blk) (L:Heap) (n:Nat):hat (B :: L) (n+1)=hat L n:=rfl
theorem hget0 (L0 L:Heap):hat (L0 ++ L) L0.length=hat L 0:=by
 unfold hat
 rw[List.getElem?_append_right (Nat.le_refl _),Nat.sub_self]
variable (t:Tar) (L:Heap)
theorem tarV_all:(tarV t).all AV.cell=true:=rfl
theorem tarV_len:(tarV t).length=28:=rfl
theorem tarV_take:List.take 28 (tarV t)=tarV t:=rfl
theorem tarV_15:(tarV t)[15]? = some (.sl 0 0 t.f15.length 0):=rfl
theorem tarV_16:(tarV t)[16]? = some (.sl 1 0 t.f16.length 0):=rfl
theorem tarV_17:(tarV t)[17]? = some (.sl 2 0 t.f17.length 0):=rfl
theorem tarV_18:(tarV t)[18]? = some (.sl 3 0 t.f18.length 0):=rfl
end
noncomputable def mdR (a:Int):Int:=(Pu.md_ev a).choose_spec.choose
theorem mdR_ev (a:Int):Ev (fun k=>pylonlaw09_md.f k a) (mdR a):=(Pu.md_ev a).choose_spec.choose_spec.2.1
def holdsB (a b d:Int):Bool:=Pu.holdsR (Pu.dayR a) (Pu.dayR b) (Pu.dayR d)
def in64 (a:Int):Prop:=-9223372036854775808≤a∧a≤9223372036854775807
noncomputable def specs9:FuncId → Option Am.Spec:=fun f=>match f with
 |10=>some fun args H=>match args with
  |[]=>some (.bool true,H,True)
  |_=>none
 |19=>some fun args H=>match args with
  |[.int .i64 n]=>some (.int .i64 (mdR n),H,True)
  |_=>none
 |17=>some fun args H=>match args with
  |[.agg [.str _,.int .i64 a,.int .i64 b],.int .i64 d]=>some (.bool (holdsB a b d),H,in64 a∧in64 b∧in64 d)
  |_=>none
 |_=>none
noncomputable def C9:Ctx:={ P:=Tryd.prog,ty:=tys,fn:=specs9 }
theorem C9ok:CtxOk C9:=by
 refine⟨tysOk,fun f s h=>?_,fun t K h=>by cases h⟩
 unfold C9 specs9 at h
 simp only at h
 split at h
 ·cases h
  refine⟨⟨Tryd.f10,Tryd.func10,by kernel_rfl,by kernel_rfl⟩,fun args H v H1 ob h hob=>?_⟩
  dsimp only at h
  split at h
  ·cases h
   exact eU (fun a ha=>by cases ha) rfl (fun W=>awake9.calls W)
  ·cases h
 ·cases h
  refine⟨⟨Tryd.f19,Tryd.func19,by kernel_rfl,by kernel_rfl⟩,fun args H v H1 ob h hob=>?_⟩
  dsimp only at h
  split at h
  ·rename_i n
   cases h
   obtain⟨k,hk⟩:=mdR_ev n
   exact eU (fun a ha=>by simp at ha;subst ha;rfl) rfl (fun W=>(pylonlaw09_md.calls k n _ W (hk k (Nat.le_refl _))).mono fun e W' ⟨h1,h2⟩=>⟨h1,h2.below⟩)
  ·cases h
 ·cases h
  refine⟨⟨Tryd.f17,Tryd.func17,by kernel_rfl,by kernel_rfl⟩,fun args H v H1 ob h hob=>?_⟩
  dsimp only at h
  split at h
  ·rename_i n a b d
   cases h
   obtain⟨k,hk⟩:=Pu.holds_ev n a b d hob.1 hob.2.1 hob.2.2
   exact eU (fun a ha=>by simp at ha;rcases ha with rfl|rfl <;> rfl) rfl (fun W=>sound_Holds.calls k n a b d _ W (hk k (Nat.le_refl _)))
  ·cases h
 ·cases h
theorem C9_ty:C9.ty=tys:=rfl
theorem C9_fn:C9.fn=specs9:=rfl
theorem i64_wrap {n:Int} (h1 : -9223372036854775808≤n) (h2:n≤9223372036854775807):IntKind.i64.wrap n=n:=by rw[IntKind.wrap_i64];omega
end Go.Proofs.YtcmhfcciapenfaaDoor.Pa
