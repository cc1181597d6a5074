/- A part of the proof. -/
import Derived.Test.YtcmhfcciapenfaaDoorQ45
import Derived.Test.YtcmhfcciapenfaaDoorQ46
import Derived.Test.YtcmhfcciapenfaaDoorQ17
namespace Go.Proofs.YtcmhfcciapenfaaDoor.Pu
open Go.RowKit Go.Proofs.YtcmhfcciapenfaaDoorW.PrintWords Go.Proofs.YtcmhfcciapenfaaDoor.Pa
def wi (x a b:Int):Bool:=decide (a≤x) && decide (x≤b)
theorem swithin_at (x a b:Int):sound_within.f x a b=some (wi x a b):=within_at x a b
def rules (t:Tar):List Bool:=[(nameL (Bs t.f0) && zoneOk t.f1 t.f2 t.f3 t.f4 t.f5 t.f6 t.f7 t.f8 t.f9 t.f10),((wi t.f11 1 10000000 && wi t.f12 0 10000000) && wi t.f13 0 40000),wi t.f14 1 28,seasonsOk t.f15,holsOk t.f16,blocksOk t.f18,windowsOk t,(((wi t.f19 0 10000000 && (((t.f20 == 15) || (t.f20 == 30)) || (t.f20 == 60))) && wi t.f21 0 100) && wi t.f22 0 36),(wi t.f23 0 10000000 && wi t.f24 0 36),((wi t.f25 0 1000000000000 && wi t.f26 0 1000000000000) && wi t.f27 0 100000)]
structure Fine (t:Tar):Prop where
 name:t.f0.size≤140737488355328
 sea:t.f15.length≤1000000∧∀ s∈t.f15,i64s s
 hol:t.f16.length≤1000000
 blk:t.f18.length≤1000000∧(∀ b∈t.f18,b.f0.size≤140737488355328)∧∀ b∈t.f18,b.f1.length≤1000000
 win:sound_windows.small t=true
theorem scheck_ev (t:Tar) (h:Fine t):Ev (fun k=>sCheck.f k t) (sCheck.first (rules t) 1):=by
 obtain⟨K1,h1⟩:=zone_ev t.f1 t.f2 t.f3 t.f4 t.f5 t.f6 t.f7 t.f8 t.f9 t.f10
 obtain⟨K2,h2⟩:=hols_ev t.f16 (by have:=h.hol;omega)
 obtain⟨K3,h3⟩:=blocks_ev t.f18 (by have:=h.blk.1;omega) h.blk.2.1 (fun b hb=>by have:=h.blk.2.2 b hb;omega)
 refine⟨K1+K2+K3,fun k hk=>?_⟩
 have h1:=h1 k (by omega)
 have h2:=h2 k (by omega)
 have h3:=h3 k (by omega)
 dsimp only at h1 h2 h3 ⊢
 unfold sCheck.f rules
 simp only[name_at t.f0 (by have:=h.name;omega),h1,h2,h3,swithin_at,seasons_at t.f15 (by have:=h.sea.1;omega) h.sea.2,windows_at t h.win,Option.bind_some]
 have ez:((if zoneOk t.f1 t.f2 t.f3 t.f4 t.f5 t.f6 t.f7 t.f8 t.f9 t.f10=true then (0:Int) else 8) == 0)=zoneOk t.f1 t.f2 t.f3 t.f4 t.f5 t.f6 t.f7 t.f8 t.f9 t.f10:=by
  cases zoneOk t.f1 t.f2 t.f3 t.f4 t.f5 t.f6 t.f7 t.f8 t.f9 t.f10 <;> rfl
 rw[ez]
end Go.Proofs.YtcmhfcciapenfaaDoor.Pu
