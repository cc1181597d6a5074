/- A part of the proof. -/
import Derived.Test.YtjokedpaidmjoaaGreatDoorAm
set_option linter.all false
namespace Go.Proofs.YtjokedpaidmjoaaGreatDoor.Rf
open Go Go.RowKit Go.Proofs.YtjokedpaidmjoaaGreatDoor.Am
def ty9:Ty:=⟨1,16,[.str ⟨#[]⟩],.str⟩
theorem tyOk9:TyOk Tryz.prog 9 ty9:=⟨by kernel_rfl,(show Tryz.prog.underlying 9=some (.string) from by kernel_rfl),rfl,rfl,fun _=>rfl⟩
def ty3:Ty:=⟨1,8,[.int .i64 0],.int .i64⟩
theorem tyOk3:TyOk Tryz.prog 3 ty3:=⟨by kernel_rfl,(show Tryz.prog.underlying 3=some (.int .i64) from by kernel_rfl),rfl,rfl,fun _=>rfl⟩
def ty2:Ty:=⟨1,8,[.int .i64 0],.int .i64⟩
theorem tyOk2:TyOk Tryz.prog 2 ty2:=⟨by kernel_rfl,(show Tryz.prog.underlying 2=some (.int .i64) from by kernel_rfl),rfl,rfl,fun _=>rfl⟩
def ty5:Ty:=⟨1,1,[.int .u8 0],.int .u8⟩
theorem tyOk5:TyOk Tryz.prog 5 ty5:=⟨by kernel_rfl,(show Tryz.prog.underlying 5=some (.int .u8) from by kernel_rfl),rfl,rfl,fun _=>rfl⟩
def ty4:Ty:=⟨1,1,[.bool false],.bool⟩
theorem tyOk4:TyOk Tryz.prog 4 ty4:=⟨by kernel_rfl,(show Tryz.prog.underlying 4=some (.bool) from by kernel_rfl),rfl,rfl,fun _=>rfl⟩
def ty89:Ty:=⟨1,8,[.int .u64 0],.int .u64⟩
theorem tyOk89:TyOk Tryz.prog 89 ty89:=⟨by kernel_rfl,(show Tryz.prog.underlying 89=some (.int .u64) from by kernel_rfl),rfl,rfl,fun _=>rfl⟩
def ty21:Ty:=⟨1,4,[.int .i32 0],.int .i32⟩
theorem tyOk21:TyOk Tryz.prog 21 ty21:=⟨by kernel_rfl,(show Tryz.prog.underlying 21=some (.int .i32) from by kernel_rfl),rfl,rfl,fun _=>rfl⟩
def ty37:Ty:=⟨1,8,[.int .u64 0],.int .u64⟩
theorem tyOk37:TyOk Tryz.prog 37 ty37:=⟨by kernel_rfl,(show Tryz.prog.underlying 37=some (.int .u64) from by kernel_rfl),rfl,rfl,fun _=>rfl⟩
def ty46:Ty:=⟨1,24,[.nilsl],.slice 9⟩
theorem tyOk46:TyOk Tryz.prog 46 ty46:=⟨by kernel_rfl,(show Tryz.prog.underlying 46=some (.slice 9) from by kernel_rfl),rfl,rfl,fun _=>rfl⟩
def ty83:Ty:=⟨1,24,[.nilsl],.slice 3⟩
theorem tyOk83:TyOk Tryz.prog 83 ty83:=⟨by kernel_rfl,(show Tryz.prog.underlying 83=some (.slice 3) from by kernel_rfl),rfl,rfl,fun _=>rfl⟩
def ty73:Ty:=⟨1,24,[.nilsl],.slice 2⟩
theorem tyOk73:TyOk Tryz.prog 73 ty73:=⟨by kernel_rfl,(show Tryz.prog.underlying 73=some (.slice 2) from by kernel_rfl),rfl,rfl,fun _=>rfl⟩
def ty81:Ty:=⟨6,80,[.nilsl,.bool false,.int .i64 0,.nilsl,.int .i64 0,.int .i64 0],.struct [(0,1,46),(1,1,4),(2,1,3),(3,1,46),(4,1,3),(5,1,3)]⟩
theorem tyOk81:TyOk Tryz.prog 81 ty81:=⟨by kernel_rfl,⟨_,Tryz.underlying81,by kernel_rfl,rfl⟩,rfl,rfl,fun h=>by cases h⟩
def ty41:Ty:=⟨5,40,[.int .i64 0,.int .i64 0,.int .i64 0,.int .i64 0,.int .u8 0],.struct [(0,1,3),(1,1,2),(2,1,2),(3,1,2),(4,1,5)]⟩
theorem tyOk41:TyOk Tryz.prog 41 ty41:=⟨by kernel_rfl,⟨_,Tryz.underlying41,by kernel_rfl,rfl⟩,rfl,rfl,fun h=>by cases h⟩
def ty23:Ty:=⟨1,24,[.nilsl],.slice 41⟩
theorem tyOk23:TyOk Tryz.prog 23 ty23:=⟨by kernel_rfl,(show Tryz.prog.underlying 23=some (.slice 41) from by kernel_rfl),rfl,rfl,fun _=>rfl⟩
def ty25:Ty:=⟨7,80,[.str ⟨#[]⟩,.int .i64 0,.int .i64 0,.int .i64 0,.int .i64 0,.int .i64 0,.nilsl],.struct [(0,1,9),(1,1,2),(2,1,3),(3,1,3),(4,1,2),(5,1,3),(6,1,23)]⟩
theorem tyOk25:TyOk Tryz.prog 25 ty25:=⟨by kernel_rfl,⟨_,Tryz.underlying25,by kernel_rfl,rfl⟩,rfl,rfl,fun h=>by cases h⟩
def ty27:Ty:=⟨2,16,[.int .i64 0,.int .i64 0],.struct [(0,1,3),(1,1,3)]⟩
theorem tyOk27:TyOk Tryz.prog 27 ty27:=⟨by kernel_rfl,⟨_,Tryz.underlying27,by kernel_rfl,rfl⟩,rfl,rfl,fun h=>by cases h⟩
def ty28:Ty:=⟨1,8,[.int .i64 0],.int .i64⟩
theorem tyOk28:TyOk Tryz.prog 28 ty28:=⟨by kernel_rfl,(show Tryz.prog.underlying 28=some (.int .i64) from by kernel_rfl),rfl,rfl,fun _=>rfl⟩
def ty48:Ty:=⟨2,32,[.nilsl,.bool false],.struct [(0,1,46),(1,1,4)]⟩
theorem tyOk48:TyOk Tryz.prog 48 ty48:=⟨by kernel_rfl,⟨_,Tryz.underlying48,by kernel_rfl,rfl⟩,rfl,rfl,fun h=>by cases h⟩
def tys:Env:=fun t=>match t with
 |9=>some ty9
 |3=>some ty3
 |2=>some ty2
 |5=>some ty5
 |4=>some ty4
 |89=>some ty89
 |21=>some ty21
 |37=>some ty37
 |46=>some ty46
 |83=>some ty83
 |73=>some ty73
 |81=>some ty81
 |41=>some ty41
 |23=>some ty23
 |25=>some ty25
 |27=>some ty27
 |28=>some ty28
 |48=>some ty48
 |_=>none
theorem tysOk:EnvOk Tryz.prog tys:=by
 intro t i h
 unfold tys at h
 split at h
 ·cases h;exact tyOk9
 ·cases h;exact tyOk3
 ·cases h;exact tyOk2
 ·cases h;exact tyOk5
 ·cases h;exact tyOk4
 ·cases h;exact tyOk89
 ·cases h;exact tyOk21
 ·cases h;exact tyOk37
 ·cases h;exact tyOk46
 ·cases h;exact tyOk83
 ·cases h;exact tyOk73
 ·cases h;exact tyOk81
 ·cases h;exact tyOk41
 ·cases h;exact tyOk23
 ·cases h;exact tyOk25
 ·cases h;exact tyOk27
 ·cases h;exact tyOk28
 ·cases h;exact tyOk48
 ·cases h
end Go.Proofs.YtjokedpaidmjoaaGreatDoor.Rf
