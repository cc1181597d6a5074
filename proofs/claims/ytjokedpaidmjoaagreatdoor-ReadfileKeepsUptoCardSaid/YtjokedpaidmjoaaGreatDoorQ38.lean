/- A part of the proof. -/
import Derived.Test.YtjokedpaidmjoaaGreatDoorQ01
set_option linter.all false
namespace Go.Proofs.YtjokedpaidmjoaaGreatDoor.Rf
open Go Go.RowKit Go.Proofs.YtjokedpaidmjoaaGreatDoor.Am
def ty65:Ty:=⟨1,8,[.nilptr],.ptr 67⟩
theorem tyOk65:TyOk Tryz.prog 65 ty65:=⟨by kernel_rfl,(show Tryz.prog.underlying 65=some (.pointer 67) from by kernel_rfl),rfl,rfl,fun _=>rfl⟩
def ty38:Ty:=⟨1,24,[.nilsl],.slice 5⟩
theorem tyOk38:TyOk Tryz.prog 38 ty38:=⟨by kernel_rfl,(show Tryz.prog.underlying 38=some (.slice 5) from by kernel_rfl),rfl,rfl,fun _=>rfl⟩
def ty67:Ty:=⟨2,32,[.nilptr,.nilsl],.struct [(0,1,65),(1,1,38)]⟩
theorem tyOk67:TyOk Tryz.prog 67 ty67:=⟨by kernel_rfl,⟨_,Tryz.underlying67,by kernel_rfl,rfl⟩,rfl,rfl,fun h=>by cases h⟩
def ty88:Ty:=⟨1,8,[.nilptr],.ptr 5⟩
theorem tyOk88:TyOk Tryz.prog 88 ty88:=⟨by kernel_rfl,(show Tryz.prog.underlying 88=some (.pointer 5) from by kernel_rfl),rfl,rfl,fun _=>rfl⟩
def tysB:Env:=fun t=>match t with
 |65=>some ty65
 |38=>some ty38
 |67=>some ty67
 |88=>some ty88
 |t=>tys t
theorem tysBOk:EnvOk Tryz.prog tysB:=by
 intro t i h
 unfold tysB at h
 split at h
 ·cases h;exact tyOk65
 ·cases h;exact tyOk38
 ·cases h;exact tyOk67
 ·cases h;exact tyOk88
 ·exact tysOk _ _ h
end Go.Proofs.YtjokedpaidmjoaaGreatDoor.Rf
