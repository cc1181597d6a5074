/- A part of the proof. -/
import Derived.Test.YtjokedpaidmjoaaGreatDoorQ44
import Derived.Test.YtjokedpaidmjoaaGreatDoorQ43
set_option linter.all false
namespace Go.Proofs.YtjokedpaidmjoaaGreatDoor.Rf
open Go Go.RowKit Go.Proofs.YtjokedpaidmjoaaGreatDoor.Am Go.Proofs.YtjokedpaidmjoaaGreatDoorW.PrintWords Go.Proofs.YtjokedpaidmjoaaGreatDoor.Pa Go.Proofs.YtjokedpaidmjoaaGreatDoor.Pu Go.Proofs.YtjokedpaidmjoaaGreatDoor
theorem flag_wd {w:ByteArray} (h:flagB w=true):Wd (Bs w):=by
 unfold flagB at h
 simp only[Bool.or_eq_true,beq_iff_eq] at h
 rcases h with (h|h)|h <;> rw[h] <;> exact⟨by simp,by decide⟩
def RdOk (sl:Int) (r:Rd):Prop:=(0≤r.slot∧r.slot < sl)∧(0≤r.imp∧r.imp≤10000000)∧(0≤r.exp∧r.exp≤10000000)∧(-10000000≤r.var∧r.var≤10000000)∧(r.flag=65∨r.flag=69∨r.flag=83)
theorem rdBad_ok {sl:Int} {r:Rd} (hf:0≤r.flag∧r.flag≤255):rdBad sl r=false↔RdOk sl r:=by
 unfold rdBad RdOk
 rw[flag_dec hf]
 simp only[Bool.or_eq_false_iff,Bool.not_eq_false',decide_eq_false_iff_not,decide_eq_true_eq,Bool.or_eq_true,beq_iff_eq]
 omega
theorem hdr_name {f:Fi} (h:hdrOk f=true):nameL (Bs f.meter)=true:=by
 unfold hdrOk at h
 simp only[Bool.and_eq_true] at h
 exact h.1.1.1.1.1.1.1.1.1.1.1
end Go.Proofs.YtjokedpaidmjoaaGreatDoor.Rf
