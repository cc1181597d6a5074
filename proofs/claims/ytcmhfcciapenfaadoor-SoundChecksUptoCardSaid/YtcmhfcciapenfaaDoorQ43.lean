/- A part of the proof. -/
import Derived.Test.YtcmhfcciapenfaaDoorQ41
import Derived.Test.YtcmhfcciapenfaaDoorQ42
import Derived.Test.YtcmhfcciapenfaaDoorQ20
import Derived.Test.YtcmhfcciapenfaaDoorQ34
namespace Go.Proofs.YtcmhfcciapenfaaDoor.Pu
open Go.RowKit Go.Proofs.YtcmhfcciapenfaaDoorW.PrintWords Go.Proofs.YtcmhfcciapenfaaDoor.Pa
def wi (x a b:Int):Bool:=decide (a≤x) && decide (x≤b)
theorem rwithin_at (x a b:Int):pylonref09_within.f x a b=some (wi x a b):=by
 unfold pylonref09_within.f wi
 by_cases h:x≥a
 ·rw[if_pos h,decide_eq_true (show a≤x from h)];simp
 ·rw[if_neg h,decide_eq_false (show ¬ a≤x by omega)];simp
theorem swithin_at (x a b:Int):sound_within.f x a b=some (wi x a b):=within_at x a b
def rules (t:Tar):List Bool:=[(nameL (Bs t.f0) && fP t.f1 t.f2 t.f3 t.f4 t.f5 t.f6 t.f7 t.f8 t.f9 t.f10),((wi t.f11 1 10000000 && wi t.f12 0 10000000) && wi t.f13 0 40000),wi t.f14 1 28,ek t.f15,holsOk t.f16,fD t.f18,d9 t,(((wi t.f19 0 10000000 && (((t.f20 == 15) || (t.f20 == 30)) || (t.f20 == 60))) && wi t.f21 0 100) && wi t.f22 0 36),(wi t.f23 0 10000000 && wi t.f24 0 36),((wi t.f25 0 1000000000000 && wi t.f26 0 1000000000000) && wi t.f27 0 100000)]
structure Fine (t:Tar):Prop where
 name:t.f0.size≤140737488355328
 sea:t.f15.length≤1000000∧∀ s∈t.f15,i64s s
 hol:t.f16.length≤1000000
 blk:t.f18.length≤1000000∧(∀ b∈t.f18,b.f0.size≤140737488355328)∧∀ b∈t.f18,b.f1.length≤1000000
 win:sound_windows.small t=true
theorem scheck_ev (t:Tar) (h:Fine t):Ev (fun k=>sCheck.f k t) (sCheck.first (rules t) 1):=by
 obtain⟨K1,h1⟩:=zone_ev t.f1 t.f2 t.f3 t.f4 t.f5 t.f6 t.f7 t.f8 t.f9 t.f10
 obtain⟨K2,h2⟩:=hols_ev t.f16 (by have:=h.hol;omega)
 obtain⟨K3,h3⟩:=blocks_ev t.f18 (by have:=h.blk.1;omega) h.blk.2.1 (fun b hb=>by have:=h.blk.2.2 b hb;omega)
 refine⟨K1+K2+K3,fun k hk=>?_⟩
 have h1:=h1 k (by omega)
 have h2:=h2 k (by omega)
 have h3:=h3 k (by omega)
 dsimp only at h1 h2 h3 ⊢
 unfold sCheck.f rules
 simp only[name_at t.f0 (by have:=h.name;omega),h1,h2,h3,swithin_at,seasons_at t.f15 (by have:=h.sea.1;omega) h.sea.2,windows_at t h.win,Option.bind_some]
 have ez:((if fP t.f1 t.f2 t.f3 t.f4 t.f5 t.f6 t.f7 t.f8 t.f9 t.f10=true then (0:Int) else 8) == 0)=fP t.f1 t.f2 t.f3 t.f4 t.f5 t.f6 t.f7 t.f8 t.f9 t.f10:=by
  cases fP t.f1 t.f2 t.f3 t.f4 t.f5 t.f6 t.f7 t.f8 t.f9 t.f10 <;> rfl
 rw[ez]
theorem rcheck_ev (t:Tar) (h:Fine t):Ev (fun k=>rCheck.f k t) (sCheck.first (rules t) 1):=by
 obtain⟨K0,h0⟩:=gy t.f0 (by have:=h.name;omega)
 obtain⟨K1,h1⟩:=rzone_ev t.f1 t.f2 t.f3 t.f4 t.f5 t.f6 t.f7 t.f8 t.f9 t.f10
 obtain⟨K2,h2⟩:=rhols_ev t.f16 (by have:=h.hol;omega)
 obtain⟨K3,h3⟩:=rblocks_ev t.f18 h.blk.1 h.blk.2.1
 obtain⟨K4,h4⟩:=rseasons_ev t.f15 (fun s hs=>(h.sea.2 s hs).2.2)
 refine⟨K0+K1+K2+K3+K4,fun k hk=>?_⟩
 have h0:=h0 k (by omega)
 have h1:=h1 k (by omega)
 have h2:=h2 k (by omega)
 have h3:=h3 k (by omega)
 have h4:=h4 k (by omega)
 dsimp only at h0 h1 h2 h3 h4 ⊢
 unfold rCheck.f rules
 simp only[h0,h1,h2,h3,h4,rwithin_at,rwindows_at,Option.bind_some]
 have hm:(t.f20≠15∧t.f20≠30∧t.f20≠60)↔(((t.f20 == 15) || (t.f20 == 30)) || (t.f20 == 60))=false:=by
  simp only[Bool.or_eq_false_iff,beq_eq_false_iff_ne,and_assoc]
 simp only[hm]
 generalize (((t.f20 == 15) || (t.f20 == 30)) || (t.f20 == 60))=m
 generalize nameL (Bs t.f0)=a1
 generalize fP t.f1 t.f2 t.f3 t.f4 t.f5 t.f6 t.f7 t.f8 t.f9 t.f10=a2
 cases a1
 ·rfl
 cases a2
 ·rfl
 generalize wi t.f11 1 10000000=a3
 cases a3
 ·rfl
 generalize wi t.f12 0 10000000=a4
 cases a4
 ·rfl
 generalize wi t.f13 0 40000=a5
 cases a5
 ·rfl
 generalize wi t.f14 1 28=a6
 cases a6
 ·rfl
 generalize ek t.f15=a7
 cases a7
 ·rfl
 generalize holsOk t.f16=a8
 cases a8
 ·rfl
 generalize fD t.f18=a9
 cases a9
 ·rfl
 generalize d9 t=a10
 cases a10
 ·rfl
 generalize wi t.f19 0 10000000=a11
 cases a11
 ·rfl
 cases m
 ·rfl
 generalize wi t.f21 0 100=a12
 cases a12
 ·rfl
 generalize wi t.f22 0 36=a13
 cases a13
 ·rfl
 generalize wi t.f23 0 10000000=a14
 cases a14
 ·rfl
 generalize wi t.f24 0 36=a15
 cases a15
 ·rfl
 generalize wi t.f25 0 1000000000000=a16
 cases a16
 ·rfl
 generalize wi t.f26 0 1000000000000=a17
 cases a17
 ·rfl
 generalize wi t.f27 0 100000=a18
 cases a18
 ·rfl
 rfl
end Go.Proofs.YtcmhfcciapenfaaDoor.Pu
