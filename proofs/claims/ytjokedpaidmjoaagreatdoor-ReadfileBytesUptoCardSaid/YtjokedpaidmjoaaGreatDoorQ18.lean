/- A part of the proof. -/
import Derived.Test.YtjokedpaidmjoaaGreatDoorQ17
set_option linter.all false
namespace Go.Proofs.YtjokedpaidmjoaaGreatDoor.Rf
open Go Go.RowKit Go.Proofs.YtjokedpaidmjoaaGreatDoor.Am Go.Proofs.YtjokedpaidmjoaaGreatDoorW.PrintWords Go.Proofs.YtjokedpaidmjoaaGreatDoor.Pa Go.Proofs.YtjokedpaidmjoaaGreatDoor.Pu Go.Proofs.YtjokedpaidmjoaaGreatDoor
def in64 (a:Int):Prop:=-9223372036854775808≤a∧a≤9223372036854775807
def stepB (n:Int):Bool:=n == 15 || n == 30 || n == 60
def flagB (w:ByteArray):Bool:=Bs w == [65] || Bs w == [69] || Bs w == [83]
def txt (n:Int):ByteArray:=toB (Lib.itoa n)
def fP (B:Blk) (n:Nat):List Int:=cf 1 ((strsOf B n).map Bs)
def exT:ByteArray:=(pylonlaw07_example.f).getD ⟨#[]⟩
def dz:Am.Spec:=fun args H=>match args with
 |[.str a]=>some (.bool (nameL (Bs a)),H,a.size≤9223372036854775806)
 |_=>none
def bY:Am.Spec:=fun args H=>match args with
 |[.str a,.int .i64 l,.int .i64 m]=>some (.tup [.int .i64 (numP a l m).1,.int .i64 (numP a l m).2],H,a.size≤1000000000)
 |_=>none
def dY:Am.Spec:=fun args H=>match args with
 |[.str a]=>some (.tup [.sl H.length 0 (WS a).1.length 0,.int .i64 (WS a).2.1,.int .i64 (WS a).2.2],H ++ [strB (WS a).1],a.size≤4398046511104)
 |_=>none
def dI:Am.Spec:=fun args H=>match args with
 |[.str a]=>some (.tup [.sl H.length 0 (LS a).1.length 0,.int .i64 (LS a).2.1,.int .i64 (LS a).2.2],H ++ [strB (LS a).1],True)
 |_=>none
def dS:Am.Spec:=fun args H=>match args with
 |[.sl b 0 n v]=>match hat H b with
  |some B=>some (.sl H.length 0 (fP B n).length 0,H ++ [intB (fP B n)],dh B n v∧tot ((strsOf B n).map Bs)≤900000000)
  |none=>none
 |_=>none
def bA:Am.Spec:=fun args H=>match args with
 |[.int .i64 n]=>some (.str (txt n),H,in64 n)
 |_=>none
def bX:Am.Spec:=fun args H=>match args with
 |[.int .i64 n]=>some (.bool (stepB n),H,True)
 |_=>none
def spFlag:Am.Spec:=fun args H=>match args with
 |[.str w]=>some (.bool (flagB w),H,True)
 |_=>none
def spLast:Am.Spec:=fun args H=>match args with
 |[.str a,.int .u8 c]=>some (.int .i64 (Lib.lastIndexByte a c),H,a.size < 4611686018427387904)
 |_=>none
def spEx:Am.Spec:=fun args H=>match args with
 |[]=>some (.str exT,H,True)
 |_=>none
def spDist:Am.Spec:=fun args H=>match args with
 |[.int .i64 n]=>some (.int .i64 (IntKind.i64.wrap (n.natAbs:Int)),H,in64 n)
 |_=>none
def spMag:Am.Spec:=fun args H=>match args with
 |[.int .i64 n]=>some (.int .u64 (n.natAbs:Int),H,in64 n)
 |_=>none
def fQ:FuncId → Option Am.Spec:=fun f=>match f with
 |57=>some dz
 |49=>some dz
 |77=>some bY
 |70=>some bY
 |56=>some dY
 |20=>some dY
 |55=>some dI
 |47=>some dI
 |60=>some dS
 |69=>some dS
 |33=>some bA
 |59=>some bX
 |52=>some bX
 |41=>some spFlag
 |54=>some spLast
 |18=>some spEx
 |64=>some spDist
 |71=>some spMag
 |_=>none
def ext7:FuncId → Option (List AV → Option (AV × Prop)):=fun f=>match f with
 |67=>some fun args=>match args with
  |[.int .u64 x,.int .u64 y,.int .u64 c]=>some (.tup [.int .u64 ((x+y+c) % 18446744073709551616),.int .u64 ((x+y+c) / 18446744073709551616)],0≤x∧0≤y∧0≤c∧c≤1)
  |_=>none
 |_=>none
noncomputable def C7:Ctx:={ P:=Tryz.prog,ty:=tys,fn:=fQ,ext:=ext7 }
theorem flat1 {a:AV} (h:a.flat=true) : ∀ x∈[a],flatD x=true:=by
 intro x hx
 simp at hx
 subst hx
 cases x <;> first|rfl|cases h
theorem spName_ok1:SpecOk Tryz.prog 57 dz:=by
 refine⟨⟨Tryz.f57,Tryz.func57,by kernel_rfl,by kernel_rfl⟩,fun args H v H1 ob h hob=>?_⟩
 unfold dz at h
 split at h
 ·rename_i a
  cases h
  exact bu (flat1 rfl) rfl fun W _=>scan_Name.calls a _ W (name_at a (Nat.le_trans hob (by decide)))
 ·cases h
theorem spName_ok2:SpecOk Tryz.prog 49 dz:=by
 refine⟨⟨Tryz.f49,Tryz.func49,by kernel_rfl,by kernel_rfl⟩,fun args H v H1 ob h hob=>?_⟩
 unfold dz at h
 split at h
 ·rename_i a
  cases h
  obtain⟨K,hK⟩:=refName_ev a hob
  exact bu (flat1 rfl) rfl fun W _=>(pylonref06_Name.calls K a _ W (hK K (Nat.le_refl _))).mono fun e w' ⟨h1,h2⟩=>⟨h1,h2.below⟩
 ·cases h
theorem spNumber_ok1:SpecOk Tryz.prog 77 bY:=by
 refine⟨⟨Tryz.f77,Tryz.func77,by kernel_rfl,by kernel_rfl⟩,fun args H v H1 ob h hob=>?_⟩
 unfold bY at h
 split at h
 ·rename_i a l m
  cases h
  obtain⟨q,h1,h2⟩:=number_same a hob l m
  refine bu (by intro x hx;simp at hx;rcases hx with rfl|rfl|rfl <;> rfl) rfl fun W hV=>?_
  refine scan_Number.calls a l m _ _ W hV ?_
  unfold numP
  rw[h1]
  rfl
 ·cases h
theorem spNumber_ok2:SpecOk Tryz.prog 70 bY:=by
 refine⟨⟨Tryz.f70,Tryz.func70,by kernel_rfl,by kernel_rfl⟩,fun args H v H1 ob h hob=>?_⟩
 unfold bY at h
 split at h
 ·rename_i a l m
  cases h
  obtain⟨q,h1,K,hK⟩:=number_same a hob l m
  refine bu (by intro x hx;simp at hx;rcases hx with rfl|rfl|rfl <;> rfl) rfl fun W hV=>?_
  refine(pylonref06_Number.calls K a l m _ _ W ?_).mono fun e w' ⟨h1,h2⟩=>⟨h1,h2.below⟩
  have:=hK K (Nat.le_refl _)
  unfold numP
  rw[h1]
  exact this
 ·cases h
theorem spWords_ok1:SpecOk Tryz.prog 56 dY:=by
 refine⟨⟨Tryz.f56,Tryz.func56,by kernel_rfl,by kernel_rfl⟩,fun args H v H1 ob h hob=>?_⟩
 unfold dY at h
 split at h
 ·rename_i a
  cases h
  obtain⟨K,hK⟩:=words_ev a hob
  exact fF fun W=>scan_Words.calls K a _ _ _ W (hK K (Nat.le_refl _))
 ·cases h
theorem spWords_ok2:SpecOk Tryz.prog 20 dY:=by
 refine⟨⟨Tryz.f20,Tryz.func20,by kernel_rfl,by kernel_rfl⟩,fun args H v H1 ob h hob=>?_⟩
 unfold dY at h
 split at h
 ·rename_i a
  cases h
  obtain⟨K,hK⟩:=refWords_ev a hob
  exact fF fun W=>pylonref06_Words.calls K a _ _ _ W (hK K (Nat.le_refl _))
 ·cases h
theorem spLines_ok1:SpecOk Tryz.prog 55 dI:=by
 refine⟨⟨Tryz.f55,Tryz.func55,by kernel_rfl,by kernel_rfl⟩,fun args H v H1 ob h hob=>?_⟩
 unfold dI at h
 split at h
 ·rename_i a
  cases h
  obtain⟨K,hK⟩:=lines_ev a
  exact fF fun W=>scan_Lines.calls K a _ _ _ W (hK K (Nat.le_refl _))
 ·cases h
theorem spLines_ok2:SpecOk Tryz.prog 47 dI:=by
 refine⟨⟨Tryz.f47,Tryz.func47,by kernel_rfl,by kernel_rfl⟩,fun args H v H1 ob h hob=>?_⟩
 unfold dI at h
 split at h
 ·rename_i a
  cases h
  obtain⟨K,hK⟩:=refLines_ev a
  exact fF fun W=>pylonref06_Lines.calls K a _ _ _ W (hK K (Nat.le_refl _))
 ·cases h
theorem spCols_ok1:SpecOk Tryz.prog 60 dS:=by
 refine⟨⟨Tryz.f60,Tryz.func60,by kernel_rfl,by kernel_rfl⟩,fun args H v H1 ob h hob=>?_⟩
 unfold dS at h
 split at h
 ·rename_i b n w
  split at h
  ·rename_i B hB
   cases h
   obtain⟨K,hK⟩:=columns_ev ((strsOf B n).map Bs) hob.2
   exact spec_cols hB hob.1 fun W A c hC hc=>scan_Columns.calls K A c _ _ W hC hc (by have:=hK K (Nat.le_refl _);rwa [map_toB] at this)
  ·cases h
 ·cases h
theorem spCols_ok2:SpecOk Tryz.prog 69 dS:=by
 refine⟨⟨Tryz.f69,Tryz.func69,by kernel_rfl,by kernel_rfl⟩,fun args H v H1 ob h hob=>?_⟩
 unfold dS at h
 split at h
 ·rename_i b n w
  split at h
  ·rename_i B hB
   cases h
   obtain⟨K,hK⟩:=refColumns_ev ((strsOf B n).map Bs) hob.2
   exact spec_cols hB hob.1 fun W A c hC hc=>pylonref06_Columns.calls K A c _ _ W hC hc (by have:=hK K (Nat.le_refl _);rwa [map_toB] at this)
  ·cases h
 ·cases h
theorem spText_ok:SpecOk Tryz.prog 33 bA:=by
 refine⟨⟨Tryz.f33,Tryz.func33,by kernel_rfl,by kernel_rfl⟩,fun args H v H1 ob h hob=>?_⟩
 unfold bA at h
 split at h
 ·rename_i n
  cases h
  refine bu (flat1 rfl) rfl fun W hV=>fix_Text.calls n _ W hV ?_
  unfold fix_Text.f strconv_FormatInt.f
  rw[if_pos ⟨hob,rfl⟩]
  rfl
 ·cases h
theorem spStep_ok1:SpecOk Tryz.prog 59 bX:=by
 refine⟨⟨Tryz.f59,Tryz.func59,by kernel_rfl,by kernel_rfl⟩,fun args H v H1 ob h hob=>?_⟩
 unfold bX at h
 split at h
 ·rename_i n
  cases h
  refine bu (flat1 rfl) rfl fun W hV=>(readfile_isStep.calls n _ W ?_).mono fun e w' ⟨h1,h2⟩=>⟨h1,h2.below⟩
  unfold readfile_isStep.f stepB
  split
  ·rename_i h;simp[h]
  ·split
   ·rename_i h;simp[h]
   ·rename_i h1 h2;simp[h1,h2]
 ·cases h
theorem spStep_ok2:SpecOk Tryz.prog 52 bX:=by
 refine⟨⟨Tryz.f52,Tryz.func52,by kernel_rfl,by kernel_rfl⟩,fun args H v H1 ob h hob=>?_⟩
 unfold bX at h
 split at h
 ·rename_i n
  cases h
  refine bu (flat1 rfl) rfl fun W hV=>(pylonref07_Step.calls n _ W ?_).mono fun e w' ⟨h1,h2⟩=>⟨h1,h2.below⟩
  unfold pylonref07_Step.f stepB
  split
  ·rename_i h;simp[h]
  ·split
   ·rename_i h;simp[h]
   ·rename_i h1 h2;simp[h1,h2]
 ·cases h
theorem spFlag_ok:SpecOk Tryz.prog 41 spFlag:=by
 refine⟨⟨Tryz.f41,Tryz.func41,by kernel_rfl,by kernel_rfl⟩,fun args H v H1 ob h hob=>?_⟩
 unfold spFlag at h
 split at h
 ·rename_i n
  cases h
  refine bu (flat1 rfl) rfl fun W hV=>(readfile_isFlag.calls n _ W ?_).mono fun e w' ⟨h1,h2⟩=>⟨h1,h2.below⟩
  unfold readfile_isFlag.f flagB
  rw[av]
  split
  ·rename_i h;simp[h]
  ·split
   ·rename_i h;simp[h]
   ·rename_i h1 h2;simp[h1,h2]
 ·cases h
theorem spLast_ok:SpecOk Tryz.prog 54 spLast:=by
 refine⟨⟨Tryz.f54,Tryz.func54,by kernel_rfl,by kernel_rfl⟩,fun args H v H1 ob h hob=>?_⟩
 unfold spLast at h
 split at h
 ·rename_i a c
  cases h
  refine bu (by intro x hx;simp at hx;rcases hx with rfl|rfl <;> rfl) rfl fun W hV=>(strings_LastIndexByte.calls a c _ W ?_).mono fun e w' ⟨h1,h2⟩=>⟨h1,h2.below⟩
  unfold strings_LastIndexByte.f
  rw[if_pos hob]
 ·cases h
theorem spEx_ok:SpecOk Tryz.prog 18 spEx:=by
 refine⟨⟨Tryz.f18,Tryz.func18,by kernel_rfl,by kernel_rfl⟩,fun args H v H1 ob h hob=>?_⟩
 unfold spEx at h
 split at h
 ·cases h
  exact bu (by intro x hx;cases hx) rfl fun W hV=>(pylonlaw07_example.calls _ W rfl).mono fun e w' ⟨h1,h2⟩=>⟨h1,h2.below⟩
 ·cases h
theorem dist_at (n:Int) (b1 : -9223372036854775808≤n) (b2:n≤9223372036854775807):pylonref07_distance.f n=some (IntKind.i64.wrap (n.natAbs:Int)):=by
 unfold pylonref07_distance.f
 by_cases h:n < 0
 ·have e:(n.natAbs:Int) = -n:=by omega
  rw[if_pos h,e,IntKind.wrap_i64]
  unfold wrap64
  rfl
 ·have e:(n.natAbs:Int)=n:=by omega
  rw[if_neg h,e,IntKind.wrap_i64]
  congr 1
  have:(n+9223372036854775808) % 18446744073709551616=n+9223372036854775808:=Int.emod_eq_of_lt (by omega) (by omega)
  rw[this]
  omega
theorem spDist_ok:SpecOk Tryz.prog 64 spDist:=by
 refine⟨⟨Tryz.f64,Tryz.func64,by kernel_rfl,by kernel_rfl⟩,fun args H v H1 ob h hob=>?_⟩
 unfold spDist at h
 split at h
 ·rename_i n
  cases h
  obtain⟨b1,b2⟩:=hob
  refine bu (flat1 rfl) rfl fun W hV=>(pylonref07_distance.calls n _ W ?_).mono fun e w' ⟨h1,h2⟩=>⟨h1,h2.below⟩
  exact dist_at n b1 b2
 ·cases h
theorem wrap_small {m:Int} (h0:0≤m) (h1:m < 18446744073709551616):IntKind.u64.wrap m=m:=by
 rw[IntKind.wrap_u64]
 exact Int.emod_eq_of_lt h0 h1
theorem mag_at (n:Int) (b1 : -9223372036854775808≤n) (b2:n≤9223372036854775807):pylonref01_mag.f n=some (n.natAbs:Int):=by
 unfold pylonref01_mag.f
 by_cases h:n < 0
 ·rw[if_pos h,w64 (x:=n+1) (by omega) (by omega),w64 (x:=-(n+1)) (by omega) (by omega),wrap_small (m:=-(n+1)) (by omega) (by omega),wrap_small (by omega) (by omega)]
  congr 1
  omega
 ·rw[if_neg h,wrap_small (by omega) (by omega)]
  congr 1
  omega
theorem spMag_ok:SpecOk Tryz.prog 71 spMag:=by
 refine⟨⟨Tryz.f71,Tryz.func71,by kernel_rfl,by kernel_rfl⟩,fun args H v H1 ob h hob=>?_⟩
 unfold spMag at h
 split at h
 ·rename_i n
  cases h
  obtain⟨b1,b2⟩:=hob
  refine bu (flat1 rfl) rfl fun W hV=>(pylonref01_mag.calls n _ W ?_).mono fun e w' ⟨h1,h2⟩=>⟨h1,h2.below⟩
  exact mag_at n b1 b2
 ·cases h
theorem dA : ∀ f s,ext7 f=some s → ExtOk Tryz.prog f s:=by
 intro f s h
 unfold ext7 at h
 split at h
 ·cases h
  intro args v ob h hob φ H us W hus
  dsimp only at h
  split at h
  ·rename_i x y c
   cases h
   obtain⟨_,_,rfl,hx,hus⟩:=cons_inv hus
   obtain⟨_,_,rfl,hy,hus⟩:=cons_inv hus
   obtain⟨_,_,rfl,hc,hus⟩:=cons_inv hus
   obtain rfl:=(show _ = [] from hus)
   obtain rfl:=(show _=Value.int .u64 x from hx)
   obtain rfl:=(show _=Value.int .u64 y from hy)
   obtain rfl:=(show _=Value.int .u64 c from hc)
   refine⟨_,?_,⟨_,rfl,_,_,rfl,rfl,_,_,rfl,rfl,rfl⟩⟩
   rw[run_callFunc_extern Tryz.func67 (by kernel_rfl) (by kernel_rfl) (by kernel_rfl) (e:=add64Entry) (by kernel_rfl),run_add64 x y c hob.1 hob.2.1 hob.2.2.1 hob.2.2.2]
   rfl
  ·cases h
 ·cases h
theorem C7ok:CtxOk C7:=by
 refine⟨tysOk,fun f s h=>?_,fun t K h=>(by cases h),dA⟩
 unfold C7 fQ at h
 simp only at h
 split at h
 ·cases h;exact spName_ok1
 ·cases h;exact spName_ok2
 ·cases h;exact spNumber_ok1
 ·cases h;exact spNumber_ok2
 ·cases h;exact spWords_ok1
 ·cases h;exact spWords_ok2
 ·cases h;exact spLines_ok1
 ·cases h;exact spLines_ok2
 ·cases h;exact spCols_ok1
 ·cases h;exact spCols_ok2
 ·cases h;exact spText_ok
 ·cases h;exact spStep_ok1
 ·cases h;exact spStep_ok2
 ·cases h;exact spFlag_ok
 ·cases h;exact spLast_ok
 ·cases h;exact spEx_ok
 ·cases h;exact spDist_ok
 ·cases h;exact spMag_ok
 ·cases h
theorem C7_ty:C7.ty=tys:=rfl
theorem C7_fn:C7.fn=fQ:=rfl
theorem C7_ext:C7.ext=ext7:=rfl
theorem C7_eqt:C7.eqt=fun _=>none:=rfl
end Go.Proofs.YtjokedpaidmjoaaGreatDoor.Rf
