/- A part of the proof. -/
import Derived.Test.YtcmhfcciapenfaaDoorQ33
set_option linter.all false
namespace Go.Proofs.YtcmhfcciapenfaaDoor.Pa
open Go Go.RowKit Am
def ty9:Ty:=⟨1,16,[.str ⟨#[]⟩],.str⟩
theorem tyOk9:TyOk Tryd.prog 9 ty9:=⟨by kernel_rfl,(show Tryd.prog.underlying 9=some (.string) from by kernel_rfl),rfl,rfl,fun _=>rfl⟩
def ty3:Ty:=⟨1,8,[.int .i64 0],.int .i64⟩
theorem tyOk3:TyOk Tryd.prog 3 ty3:=⟨by kernel_rfl,(show Tryd.prog.underlying 3=some (.int .i64) from by kernel_rfl),rfl,rfl,fun _=>rfl⟩
def ty23:Ty:=⟨4,32,[.int .i64 0,.int .i64 0,.int .i64 0,.int .i64 0],.struct [(0,1,3),(1,1,3),(2,1,3),(3,1,3)]⟩
theorem tyOk23:TyOk Tryd.prog 23 ty23:=⟨by kernel_rfl,⟨_,Tryd.underlying23,by kernel_rfl,rfl⟩,rfl,rfl,fun h=>by cases h⟩
def ty25:Ty:=⟨10,80,[.int .i64 0,.int .i64 0,.int .i64 0,.int .i64 0,.int .i64 0,.int .i64 0,.int .i64 0,.int .i64 0,.int .i64 0,.int .i64 0],.struct [(0,1,3),(1,1,3),(2,4,23),(6,4,23)]⟩
theorem tyOk25:TyOk Tryd.prog 25 ty25:=⟨by kernel_rfl,⟨_,Tryd.underlying25,by kernel_rfl,rfl⟩,rfl,rfl,fun h=>by cases h⟩
def ty2:Ty:=⟨1,8,[.int .i64 0],.int .i64⟩
theorem tyOk2:TyOk Tryd.prog 2 ty2:=⟨by kernel_rfl,(show Tryd.prog.underlying 2=some (.int .i64) from by kernel_rfl),rfl,rfl,fun _=>rfl⟩
def ty41:Ty:=⟨3,32,[.str ⟨#[]⟩,.int .i64 0,.int .i64 0],.struct [(0,1,9),(1,1,3),(2,1,3)]⟩
theorem tyOk41:TyOk Tryd.prog 41 ty41:=⟨by kernel_rfl,⟨_,Tryd.underlying41,by kernel_rfl,rfl⟩,rfl,rfl,fun h=>by cases h⟩
def ty26:Ty:=⟨1,24,[.nilsl],.slice 41⟩
theorem tyOk26:TyOk Tryd.prog 26 ty26:=⟨by kernel_rfl,(show Tryd.prog.underlying 26=some (.slice 41) from by kernel_rfl),rfl,rfl,fun _=>rfl⟩
def ty43:Ty:=⟨4,32,[.int .i64 0,.int .i64 0,.int .i64 0,.int .i64 0],.struct [(0,1,3),(1,1,3),(2,1,3),(3,1,3)]⟩
theorem tyOk43:TyOk Tryd.prog 43 ty43:=⟨by kernel_rfl,⟨_,Tryd.underlying43,by kernel_rfl,rfl⟩,rfl,rfl,fun h=>by cases h⟩
def ty27:Ty:=⟨1,24,[.nilsl],.slice 43⟩
theorem tyOk27:TyOk Tryd.prog 27 ty27:=⟨by kernel_rfl,(show Tryd.prog.underlying 27=some (.slice 43) from by kernel_rfl),rfl,rfl,fun _=>rfl⟩
def ty45:Ty:=⟨5,56,[.str ⟨#[]⟩,.int .i64 0,.int .i64 0,.int .i64 0,.str ⟨#[]⟩],.struct [(0,1,9),(1,1,3),(2,1,3),(3,1,3),(4,1,9)]⟩
theorem tyOk45:TyOk Tryd.prog 45 ty45:=⟨by kernel_rfl,⟨_,Tryd.underlying45,by kernel_rfl,rfl⟩,rfl,rfl,fun h=>by cases h⟩
def ty28:Ty:=⟨1,24,[.nilsl],.slice 45⟩
theorem tyOk28:TyOk Tryd.prog 28 ty28:=⟨by kernel_rfl,(show Tryd.prog.underlying 28=some (.slice 45) from by kernel_rfl),rfl,rfl,fun _=>rfl⟩
def ty70:Ty:=⟨2,16,[.int .i64 0,.int .i64 0],.struct [(0,1,2),(1,1,2)]⟩
theorem tyOk70:TyOk Tryd.prog 70 ty70:=⟨by kernel_rfl,⟨_,Tryd.underlying70,by kernel_rfl,rfl⟩,rfl,rfl,fun h=>by cases h⟩
def ty46:Ty:=⟨1,24,[.nilsl],.slice 70⟩
theorem tyOk46:TyOk Tryd.prog 46 ty46:=⟨by kernel_rfl,(show Tryd.prog.underlying 46=some (.slice 70) from by kernel_rfl),rfl,rfl,fun _=>rfl⟩
def ty48:Ty:=⟨2,40,[.str ⟨#[]⟩,.nilsl],.struct [(0,1,9),(1,1,46)]⟩
theorem tyOk48:TyOk Tryd.prog 48 ty48:=⟨by kernel_rfl,⟨_,Tryd.underlying48,by kernel_rfl,rfl⟩,rfl,rfl,fun h=>by cases h⟩
def ty29:Ty:=⟨1,24,[.nilsl],.slice 48⟩
theorem tyOk29:TyOk Tryd.prog 29 ty29:=⟨by kernel_rfl,(show Tryd.prog.underlying 29=some (.slice 48) from by kernel_rfl),rfl,rfl,fun _=>rfl⟩
def ty31:Ty:=⟨4,32,[.int .i64 0,.int .i64 0,.int .i64 0,.int .i64 0],.struct [(0,1,2),(1,1,3),(2,1,3),(3,1,3)]⟩
theorem tyOk31:TyOk Tryd.prog 31 ty31:=⟨by kernel_rfl,⟨_,Tryd.underlying31,by kernel_rfl,rfl⟩,rfl,rfl,fun h=>by cases h⟩
def ty33:Ty:=⟨28,296,[.str ⟨#[]⟩,.int .i64 0,.int .i64 0,.int .i64 0,.int .i64 0,.int .i64 0,.int .i64 0,.int .i64 0,.int .i64 0,.int .i64 0,.int .i64 0,.int .i64 0,.int .i64 0,.int .i64 0,.int .i64 0,.nilsl,.nilsl,.nilsl,.nilsl,.int .i64 0,.int .i64 0,.int .i64 0,.int .i64 0,.int .i64 0,.int .i64 0,.int .i64 0,.int .i64 0,.int .i64 0],.struct [(0,1,9),(1,10,25),(11,1,2),(12,1,2),(13,1,3),(14,1,3),(15,1,26),(16,1,27),(17,1,28),(18,1,29),(19,4,31),(23,1,2),(24,1,3),(25,1,2),(26,1,2),(27,1,3)]⟩
theorem tyOk33:TyOk Tryd.prog 33 ty33:=⟨by kernel_rfl,⟨_,Tryd.underlying33,by kernel_rfl,rfl⟩,rfl,rfl,fun h=>by cases h⟩
def ty49:Ty:=⟨1,8,[.int .u64 0],.int .u64⟩
theorem tyOk49:TyOk Tryd.prog 49 ty49:=⟨by kernel_rfl,(show Tryd.prog.underlying 49=some (.int .u64) from by kernel_rfl),rfl,rfl,fun _=>rfl⟩
def ty4:Ty:=⟨1,1,[.bool false],.bool⟩
theorem tyOk4:TyOk Tryd.prog 4 ty4:=⟨by kernel_rfl,(show Tryd.prog.underlying 4=some (.bool) from by kernel_rfl),rfl,rfl,fun _=>rfl⟩
def ty35:Ty:=⟨1,8,[.int .i64 0],.int .i64⟩
theorem tyOk35:TyOk Tryd.prog 35 ty35:=⟨by kernel_rfl,(show Tryd.prog.underlying 35=some (.int .i64) from by kernel_rfl),rfl,rfl,fun _=>rfl⟩
def tys:Env:=fun t=>match t with
 |9=>some ty9
 |3=>some ty3
 |23=>some ty23
 |25=>some ty25
 |2=>some ty2
 |41=>some ty41
 |26=>some ty26
 |43=>some ty43
 |27=>some ty27
 |45=>some ty45
 |28=>some ty28
 |70=>some ty70
 |46=>some ty46
 |48=>some ty48
 |29=>some ty29
 |31=>some ty31
 |33=>some ty33
 |49=>some ty49
 |4=>some ty4
 |35=>some ty35
 |_=>none
theorem tysOk:EnvOk Tryd.prog tys:=by
 intro t i h
 unfold tys at h
 split at h
 ·cases h;exact tyOk9
 ·cases h;exact tyOk3
 ·cases h;exact tyOk23
 ·cases h;exact tyOk25
 ·cases h;exact tyOk2
 ·cases h;exact tyOk41
 ·cases h;exact tyOk26
 ·cases h;exact tyOk43
 ·cases h;exact tyOk27
 ·cases h;exact tyOk45
 ·cases h;exact tyOk28
 ·cases h;exact tyOk70
 ·cases h;exact tyOk46
 ·cases h;exact tyOk48
 ·cases h;exact tyOk29
 ·cases h;exact tyOk31
 ·cases h;exact tyOk33
 ·cases h;exact tyOk49
 ·cases h;exact tyOk4
 ·cases h;exact tyOk35
 ·cases h
end Go.Proofs.YtcmhfcciapenfaaDoor.Pa
