/-
  The law pylon/pylonlaw09.SoundRules, where what it reads is of bulk at most 1048576: it answers true, and each argument reads as it did (the card: the listed variables tied to the program's text).
-/
import Derived.Test.YtcmhfcciapenfaaDoorCards
import Derived.Test.YtcmhfcciapenfaaDoorTie
import Derived.Test.YtcmhfcciapenfaaDoorQ43
import Derived.Test.YtcmhfcciapenfaaDoorQ44
import Derived.ProofKit
import Derived.OpenShut
import Derived.ShutString
import Derived.ChangeOld
import Derived.JoinedCond
import Derived.SliceStrings
import Derived.SizedLaws
import Derived.Deep.DeepHandedRow
import Derived.Deep.DeepWitnessRowRef
import Derived.Lib.LaidU8
import Derived.Stop.LaidErr
import Derived.MakeChecks
set_option linter.all false
namespace Go.Proofs.YtcmhfcciapenfaaDoor.soundRules
open Go.ChangeShapes Go.WideShapes Go.ChangeAt Go.RowKit
open Go.ChangeMaps (open_string shut_string)
open Go.Proofs.YtcmhfcciapenfaaDoorW.PrintWords
theorem own:ownKnob Tryd.prog.godebug=none:=by kernel_rfl
theorem laidOut:laidOutB Tryd.prog=true:=by kernel_rfl
def put (h:Array Obj) (g:Nat) (cs:Array Value):Array Obj:=h.modify g fun
 |.cells _ t frozen=>.cells cs t frozen
 |o=>o
noncomputable def laidWorld (os:Os):World:=
 let w0:=World.holding Tryd.prog os ⟨#[],#[],[]⟩
 let h0:=put w0.heap 1 #[.int .u8 128,.int .u8 191,.int .u8 160,.int .u8 191,.int .u8 128,.int .u8 159,.int .u8 144,.int .u8 191,.int .u8 128,.int .u8 143,.int .u8 0,.int .u8 0,.int .u8 0,.int .u8 0,.int .u8 0,.int .u8 0,.int .u8 0,.int .u8 0,.int .u8 0,.int .u8 0,.int .u8 0,.int .u8 0,.int .u8 0,.int .u8 0,.int .u8 0,.int .u8 0,.int .u8 0,.int .u8 0,.int .u8 0,.int .u8 0,.int .u8 0,.int .u8 0]
 let h1:=put h0 0 (Lib.firstTab.map fun z=>Value.int .u8 z).toArray
 { w0 with heap:=h1 }
set_option maxRecDepth 100000 in
theorem laid_met (os:Os):laidMet Tryd.prog Rows.soundRulesUptoRow.laid ((laidWorld os).forCall (fun _ _=>0) ⟨#[],#[.agg #[.string ⟨#[]⟩,.int .i64 0,.int .i64 0,.int .i64 0,.int .i64 0,.int .i64 0,.int .i64 0,.int .i64 0,.int .i64 0,.int .i64 0,.int .i64 0,.int .i64 0,.int .i64 0,.int .i64 0,.int .i64 0,.slice none 0 0,.slice none 0 0,.slice none 0 0,.slice none 0 0,.int .i64 0,.int .i64 0,.int .i64 0,.int .i64 0,.int .i64 0,.int .i64 0,.int .i64 0,.int .i64 0,.int .i64 0],.int .i64 0],[]⟩).memory:=
 laidMet_of_run' 8 (by kernel_rfl) (by kernel_rfl)
theorem reads (os:Os) {H:Type} (enc:TypeId × Value → H) : ∃ places,DataW.whole enc Tryd.prog ((laidWorld os).forCall (fun _ _=>0) ⟨#[],#[.agg #[.string ⟨#[]⟩,.int .i64 0,.int .i64 0,.int .i64 0,.int .i64 0,.int .i64 0,.int .i64 0,.int .i64 0,.int .i64 0,.int .i64 0,.int .i64 0,.int .i64 0,.int .i64 0,.int .i64 0,.int .i64 0,.slice none 0 0,.slice none 0 0,.slice none 0 0,.slice none 0 0,.int .i64 0,.int .i64 0,.int .i64 0,.int .i64 0,.int .i64 0,.int .i64 0,.int .i64 0,.int .i64 0,.int .i64 0],.int .i64 0],[]⟩).memory Tryd.f5.params.toList Rows.soundRulesSpec.vars false (#[.agg #[.string ⟨#[]⟩,.int .i64 0,.int .i64 0,.int .i64 0,.int .i64 0,.int .i64 0,.int .i64 0,.int .i64 0,.int .i64 0,.int .i64 0,.int .i64 0,.int .i64 0,.int .i64 0,.int .i64 0,.int .i64 0,.slice none 0 0,.slice none 0 0,.slice none 0 0,.slice none 0 0,.int .i64 0,.int .i64 0,.int .i64 0,.int .i64 0,.int .i64 0,.int .i64 0,.int .i64 0,.int .i64 0,.int .i64 0],.int .i64 0] : Array Value).toList 8=some ([.agg [.lit (.string []),.agg [.lit (.int .i64 0),.lit (.int .i64 0),.agg [.lit (.int .i64 0),.lit (.int .i64 0),.lit (.int .i64 0),.lit (.int .i64 0)],.agg [.lit (.int .i64 0),.lit (.int .i64 0),.lit (.int .i64 0),.lit (.int .i64 0)]],.lit (.int .i64 0),.lit (.int .i64 0),.lit (.int .i64 0),.lit (.int .i64 0),.nil,.nil,.nil,.nil,.agg [.lit (.int .i64 0),.lit (.int .i64 0),.lit (.int .i64 0),.lit (.int .i64 0)],.lit (.int .i64 0),.lit (.int .i64 0),.lit (.int .i64 0),.lit (.int .i64 0),.lit (.int .i64 0)],.lit (.int .i64 0)],[],places):=
 ⟨[],by kernel_rfl⟩
set_option maxRecDepth 100000 in
theorem lifted (os:Os) (started:os.Started) (H:Type) (enc:TypeId × Value → H) (F:Stop.Interp) :
  ReturnsInHanded {} Tryd.checked os 5 .any ((Rows.OpenSpec.upto Rows.soundRulesSpec).preRow enc Tryd.prog Tryd.f5 Rows.soundRulesUptoRow.domain false Rows.soundRulesUptoRow.laid) (((Rows.OpenSpec.upto Rows.soundRulesSpec).at F).post enc Tryd.prog Tryd.f5 false true false false):=by
 obtain⟨places,hx⟩:=reads os enc
 refine returnsInHanded_of_row (C:=Tryd.checked) (s:=Rows.OpenSpec.upto Rows.soundRulesSpec) own started (by kernel_rfl) Tryd.func5
  (witness_row_atRef (enc:=enc) (C:=Tryd.checked) false (laidWorld os) #[.agg #[.string ⟨#[]⟩,.int .i64 0,.int .i64 0,.int .i64 0,.int .i64 0,.int .i64 0,.int .i64 0,.int .i64 0,.int .i64 0,.int .i64 0,.int .i64 0,.int .i64 0,.int .i64 0,.int .i64 0,.int .i64 0,.slice none 0 0,.slice none 0 0,.slice none 0 0,.slice none 0 0,.int .i64 0,.int .i64 0,.int .i64 0,.int .i64 0,.int .i64 0,.int .i64 0,.int .i64 0,.int .i64 0,.int .i64 0],.int .i64 0] rfl (by kernel_rfl) (by kernel_rfl) (by kernel_rfl)
   (OpenSpec.preRow_of_cond 8 hx (by kernel_rfl) (fun k hk=>by cases hk;kernel_rfl) (by kernel_rfl) (laid_met os))) ?_
 intro W base args ds gs before hval0 hW _ hcond hsz0 hL _ _
 have hk:=hcond _ rfl
 have hval : ∀ (j:Nat) t v,Tryd.f5.params[j]? = some t → args[j]? = some v → Value.okWide Tryd.prog W .any base t v:=hval0
 have hsz:(DataW.weightsEach Tryd.prog (Tryd.f5.params.toList ++ (Rows.soundRulesSpec).plain.varTypes Tryd.prog) (ds ++ gs)).all (·≤reachBytes)=true:=hsz0
 have hW':=hW
 obtain⟨p,q,hA0,hV,rfl,hfz,hnd⟩:=hW
 have hA:DataW.TrodAll enc Tryd.prog W 0 (fun _=>true) true Tryd.f5.params.toList args.toList ds p:=hA0
 rw[Tryd.params5] at hA hval hsz
 obtain⟨v0,vs0,d0,ds0,p0,q0,hargs,rfl,rfl,h0,r0⟩:=trodAll_cons hA
 obtain⟨v1,vs1,d1,ds1,p1,q1,rfl,rfl,rfl,h1,r1⟩:=trodAll_cons r0
 obtain⟨rfl,rfl,rfl⟩:=trodAll_nil r1
 obtain rfl:args=#[v0,v1]:=by cases args;simp_all
 obtain⟨rfl,rfl⟩:=trodVars_none hV
 obtain⟨cs0,rfl,_⟩:=okWide_struct Tryd.underlying33 (hval 0 33 v0 rfl rfl)
 have k0:=h0
 have lt0 : ∀ x∈p0,x.block < W.heap.size:=by obtain⟨m,hm⟩:=k0;exact DataW.trod_lt m _ _ _ hm
 obtain⟨fuel0,hf0⟩:=h0
 obtain⟨⟨a0_0,⟨⟨a0_1,⟨a0_2,⟨⟨a0_3,⟨a0_4,⟨a0_5,a0_6⟩⟩⟩,⟨a0_7,⟨a0_8,⟨a0_9,a0_10⟩⟩⟩⟩⟩⟩,⟨a0_11,⟨a0_12,⟨a0_13,⟨a0_14,⟨t0_15,⟨t0_16,⟨t0_17,⟨t0_18,⟨⟨a0_19,⟨a0_20,⟨a0_21,a0_22⟩⟩⟩,⟨a0_23,⟨a0_24,⟨a0_25,⟨a0_26,a0_27⟩⟩⟩⟩⟩⟩⟩⟩⟩⟩⟩⟩⟩⟩⟩,hK0,hw0,bk0⟩:=(Opens.struct Tryd.underlying33 (by kernel_rfl) (Opens.cons rfl (Opens.string Tryd.underlying9 (by kernel_rfl)) (Opens.cons rfl (Opens.struct Tryd.underlying25 (by kernel_rfl) (Opens.cons rfl (Opens.int Tryd.underlying3 (by kernel_rfl)) (Opens.cons rfl (Opens.int Tryd.underlying3 (by kernel_rfl)) (Opens.cons rfl (Opens.struct Tryd.underlying23 (by kernel_rfl) (Opens.cons rfl (Opens.int Tryd.underlying3 (by kernel_rfl)) (Opens.cons rfl (Opens.int Tryd.underlying3 (by kernel_rfl)) (Opens.cons rfl (Opens.int Tryd.underlying3 (by kernel_rfl)) (Opens.last rfl (Opens.int Tryd.underlying3 (by kernel_rfl))))))) (Opens.last rfl (Opens.struct Tryd.underlying23 (by kernel_rfl) (Opens.cons rfl (Opens.int Tryd.underlying3 (by kernel_rfl)) (Opens.cons rfl (Opens.int Tryd.underlying3 (by kernel_rfl)) (Opens.cons rfl (Opens.int Tryd.underlying3 (by kernel_rfl)) (Opens.last rfl (Opens.int Tryd.underlying3 (by kernel_rfl)))))))))))) (Opens.cons rfl (Opens.int Tryd.underlying2 (by kernel_rfl)) (Opens.cons rfl (Opens.int Tryd.underlying2 (by kernel_rfl)) (Opens.cons rfl (Opens.int Tryd.underlying3 (by kernel_rfl)) (Opens.cons rfl (Opens.int Tryd.underlying3 (by kernel_rfl)) (Opens.cons rfl (Opens.slice 41 Tryd.underlying26 (by kernel_rfl) (Opens.iso (fun x:Pa.S41=>(x.f0,x.f1,x.f2)) (fun p=>⟨p.1,p.2.1,p.2.2⟩) (fun _=>rfl) (Opens.struct Tryd.underlying41 (by kernel_rfl) (Opens.cons rfl (Opens.string Tryd.underlying9 (by kernel_rfl)) (Opens.cons rfl (Opens.int Tryd.underlying3 (by kernel_rfl)) (Opens.last rfl (Opens.int Tryd.underlying3 (by kernel_rfl)))))))) (Opens.cons rfl (Opens.slice 43 Tryd.underlying27 (by kernel_rfl) (Opens.iso (fun x:Pa.S43=>(x.f0,x.f1,x.f2,x.f3)) (fun p=>⟨p.1,p.2.1,p.2.2.1,p.2.2.2⟩) (fun _=>rfl) (Opens.struct Tryd.underlying43 (by kernel_rfl) (Opens.cons rfl (Opens.int Tryd.underlying3 (by kernel_rfl)) (Opens.cons rfl (Opens.int Tryd.underlying3 (by kernel_rfl)) (Opens.cons rfl (Opens.int Tryd.underlying3 (by kernel_rfl)) (Opens.last rfl (Opens.int Tryd.underlying3 (by kernel_rfl))))))))) (Opens.cons rfl (Opens.slice 45 Tryd.underlying28 (by kernel_rfl) (Opens.iso (fun x:Pa.S45=>(x.f0,x.f1,x.f2,x.f3,x.f4)) (fun p=>⟨p.1,p.2.1,p.2.2.1,p.2.2.2.1,p.2.2.2.2⟩) (fun _=>rfl) (Opens.struct Tryd.underlying45 (by kernel_rfl) (Opens.cons rfl (Opens.string Tryd.underlying9 (by kernel_rfl)) (Opens.cons rfl (Opens.int Tryd.underlying3 (by kernel_rfl)) (Opens.cons rfl (Opens.int Tryd.underlying3 (by kernel_rfl)) (Opens.cons rfl (Opens.int Tryd.underlying3 (by kernel_rfl)) (Opens.last rfl (Opens.string Tryd.underlying9 (by kernel_rfl)))))))))) (Opens.cons rfl (Opens.slice 48 Tryd.underlying29 (by kernel_rfl) (Opens.iso (fun x:Pa.S48=>(x.f0,x.f1)) (fun p=>⟨p.1,p.2⟩) (fun _=>rfl) (Opens.struct Tryd.underlying48 (by kernel_rfl) (Opens.cons rfl (Opens.string Tryd.underlying9 (by kernel_rfl)) (Opens.last rfl (Opens.slice 70 Tryd.underlying46 (by kernel_rfl) (Opens.iso (fun x:Pa.S70=>(x.f0,x.f1)) (fun p=>⟨p.1,p.2⟩) (fun _=>rfl) (Opens.struct Tryd.underlying70 (by kernel_rfl) (Opens.cons rfl (Opens.int Tryd.underlying2 (by kernel_rfl)) (Opens.last rfl (Opens.int Tryd.underlying2 (by kernel_rfl)))))))))))) (Opens.cons rfl (Opens.struct Tryd.underlying31 (by kernel_rfl) (Opens.cons rfl (Opens.int Tryd.underlying2 (by kernel_rfl)) (Opens.cons rfl (Opens.int Tryd.underlying3 (by kernel_rfl)) (Opens.cons rfl (Opens.int Tryd.underlying3 (by kernel_rfl)) (Opens.last rfl (Opens.int Tryd.underlying3 (by kernel_rfl))))))) (Opens.cons rfl (Opens.int Tryd.underlying2 (by kernel_rfl)) (Opens.cons rfl (Opens.int Tryd.underlying3 (by kernel_rfl)) (Opens.cons rfl (Opens.int Tryd.underlying2 (by kernel_rfl)) (Opens.cons rfl (Opens.int Tryd.underlying2 (by kernel_rfl)) (Opens.last rfl (Opens.int Tryd.underlying3 (by kernel_rfl))))))))))))))))))).op hf0
 obtain⟨wf0_0,⟨⟨wf0_1,⟨wf0_2,⟨⟨wf0_3,⟨wf0_4,⟨wf0_5,wf0_6⟩⟩⟩,⟨wf0_7,⟨wf0_8,⟨wf0_9,wf0_10⟩⟩⟩⟩⟩⟩,⟨wf0_11,⟨wf0_12,⟨wf0_13,⟨wf0_14,⟨wf0_15,⟨wf0_16,⟨wf0_17,⟨wf0_18,⟨⟨wf0_19,⟨wf0_20,⟨wf0_21,wf0_22⟩⟩⟩,⟨wf0_23,⟨wf0_24,⟨wf0_25,⟨wf0_26,wf0_27⟩⟩⟩⟩⟩⟩⟩⟩⟩⟩⟩⟩⟩⟩⟩:=hw0
 obtain⟨l0,el0⟩ : ∃ l:List Value,l=cs0.toList:=⟨_,rfl⟩
 change Kd.K _ W _ cs0.toList at hK0
 rw[← el0] at hK0
 obtain⟨_,_,rfl,rfl,⟨_,_,rfl,⟨_,_,rfl,rfl,⟨_,_,rfl,rfl,⟨_,_,rfl,⟨_,_,rfl,rfl,⟨_,_,rfl,rfl,⟨_,_,rfl,rfl,rfl⟩⟩⟩,⟨_,_,rfl,rfl,⟨_,_,rfl,rfl,⟨_,_,rfl,rfl,rfl⟩⟩⟩⟩⟩⟩,⟨_,_,rfl,rfl,⟨_,_,rfl,rfl,⟨_,_,rfl,rfl,⟨_,_,rfl,rfl,⟨_,_,rfl,⟨A0_15,c0_15,rfl,hc0_15,hr0_15⟩,⟨_,_,rfl,⟨A0_16,c0_16,rfl,hc0_16,hr0_16⟩,⟨_,_,rfl,⟨A0_17,c0_17,rfl,hc0_17,hr0_17⟩,⟨_,_,rfl,⟨A0_18,c0_18,rfl,hc0_18,hr0_18⟩,⟨_,_,rfl,⟨_,_,rfl,rfl,⟨_,_,rfl,rfl,⟨_,_,rfl,rfl,rfl⟩⟩⟩,⟨_,_,rfl,rfl,⟨_,_,rfl,rfl,⟨_,_,rfl,rfl,⟨_,_,rfl,rfl,rfl⟩⟩⟩⟩⟩⟩⟩⟩⟩⟩⟩⟩⟩⟩⟩:=hK0
 replace el0:cs0=#[.string a0_0,.int .i64 a0_1,.int .i64 a0_2,.int .i64 a0_3,.int .i64 a0_4,.int .i64 a0_5,.int .i64 a0_6,.int .i64 a0_7,.int .i64 a0_8,.int .i64 a0_9,.int .i64 a0_10,.int .i64 a0_11,.int .i64 a0_12,.int .i64 a0_13,.int .i64 a0_14,.slice A0_15 t0_15.length c0_15,.slice A0_16 t0_16.length c0_16,.slice A0_17 t0_17.length c0_17,.slice A0_18 t0_18.length c0_18,.int .i64 a0_19,.int .i64 a0_20,.int .i64 a0_21,.int .i64 a0_22,.int .i64 a0_23,.int .i64 a0_24,.int .i64 a0_25,.int .i64 a0_26,.int .i64 a0_27]:=by apply Array.ext';exact el0.symm
 subst el0
 obtain⟨a1,rfl,rfl,rfl,w1⟩:=open_int Tryd.underlying3 (hval 1 3 v1 rfl rfl) h1
 have hk' : Rows.uptoBulkAll ([d0,DataW.lit (.int .i64 a1)] ++ [] : List (DataW H))≤1048576:=of_decide_eq_true hk
 simp only[Rows.uptoBulkAll,List.cons_append,List.nil_append,Rows.uptoBulk] at hk'
 have tb0:Pu.tarB (⟨a0_0,a0_1,a0_2,a0_3,a0_4,a0_5,a0_6,a0_7,a0_8,a0_9,a0_10,a0_11,a0_12,a0_13,a0_14,t0_15,t0_16,t0_17,t0_18,a0_19,a0_20,a0_21,a0_22,a0_23,a0_24,a0_25,a0_26,a0_27⟩ : Pa.Tar)≤Rows.uptoBulk d0:=bk0
 clear hA0 hval0 hsz0
 obtain⟨k,hP⟩:=Pu.soundRules (⟨a0_0,a0_1,a0_2,a0_3,a0_4,a0_5,a0_6,a0_7,a0_8,a0_9,a0_10,a0_11,a0_12,a0_13,a0_14,t0_15,t0_16,t0_17,t0_18,a0_19,a0_20,a0_21,a0_22,a0_23,a0_24,a0_25,a0_26,a0_27⟩ : Pa.Tar) a1 ⟨wf0_0,wf0_1,wf0_2,wf0_3,wf0_4,wf0_5,wf0_6,wf0_7,wf0_8,wf0_9,wf0_10,wf0_11,wf0_12,wf0_13,wf0_14,wf0_15,wf0_16,wf0_17,wf0_18,wf0_19,wf0_20,wf0_21,wf0_22,wf0_23,wf0_24,wf0_25,wf0_26,wf0_27⟩ w1 (by omega)
 refine(Pa.pylonlaw09_SoundRules.calls k (⟨a0_0,a0_1,a0_2,a0_3,a0_4,a0_5,a0_6,a0_7,a0_8,a0_9,a0_10,a0_11,a0_12,a0_13,a0_14,t0_15,t0_16,t0_17,t0_18,a0_19,a0_20,a0_21,a0_22,a0_23,a0_24,a0_25,a0_26,a0_27⟩ : Pa.Tar) [.string a0_0,.int .i64 a0_1,.int .i64 a0_2,.int .i64 a0_3,.int .i64 a0_4,.int .i64 a0_5,.int .i64 a0_6,.int .i64 a0_7,.int .i64 a0_8,.int .i64 a0_9,.int .i64 a0_10,.int .i64 a0_11,.int .i64 a0_12,.int .i64 a0_13,.int .i64 a0_14,.slice A0_15 t0_15.length c0_15,.slice A0_16 t0_16.length c0_16,.slice A0_17 t0_17.length c0_17,.slice A0_18 t0_18.length c0_18,.int .i64 a0_19,.int .i64 a0_20,.int .i64 a0_21,.int .i64 a0_22,.int .i64 a0_23,.int .i64 a0_24,.int .i64 a0_25,.int .i64 a0_26,.int .i64 a0_27] a1 true W (Pa.kTar_mk (⟨a0_0,a0_1,a0_2,a0_3,a0_4,a0_5,a0_6,a0_7,a0_8,a0_9,a0_10,a0_11,a0_12,a0_13,a0_14,t0_15,t0_16,t0_17,t0_18,a0_19,a0_20,a0_21,a0_22,a0_23,a0_24,a0_25,a0_26,a0_27⟩ : Pa.Tar) hc0_15 hr0_15 hc0_16 hr0_16 hc0_17 hr0_17 hc0_18 hr0_18) hP).mono fun e W' ⟨he,hbel⟩=>?_
 have bel:Below W.heap.size W W':=hbel
 subst he
 exact⟨_,rfl,_,_,_,[],_,[],hW',trodAll_mk1 (shut_bool Tryd.underlying4 _),(trodAll_cons_mk (Below.trod laidOut (by kernel_rfl) (of_decide_eq_true (by kernel_rfl)) k0 bel lt0) (trodAll_cons_mk (shut_int Tryd.underlying3 w1) trodAll_mk0)),rfl,bel.frame _,fun h=>by cases h⟩
theorem said:Rows.SoundRulesUptoSaid:=
 OpenClaim.holds_of_cond 5 Tryd.f5 rfl rfl rfl rfl rfl rfl rfl ⟨rfl,rfl,rfl,rfl,rfl⟩ rfl rfl rfl rfl rfl (by kernel_rfl) Tryd.func5 (by kernel_rfl)
  (of_decide_eq_true (by kernel_rfl)) (by unfold Func.isWrapper;first|(rw[if_pos (by decide +kernel)];kernel_rfl)|(rw[if_neg (by decide +kernel)];exact⟨rfl,rfl⟩))
  (fun os started H enc _ F=>by rw[OpenClaim.pre_eq_preRow];exact lifted os started H enc F)
theorem plain (f:FuncId) (fn:Func) (hf:Tryd.pinned.checked.prog.funcNamed "pylon/pylonlaw09.SoundRules" = some f) (hfn:Tryd.pinned.checked.prog.funcs[f]? = some fn) :
  false=Tryd.pinned.checked.prog.looks []∧∀ (j:Nat) t,fn.params[j]? = some t → Tryd.pinned.checked.prog.wantsStandIn t=false:=by
 obtain rfl:f=5:=Option.some.inj ((show Tryd.prog.funcNamed "pylon/pylonlaw09.SoundRules" = some 5 by kernel_rfl).symm.trans hf) |>.symm
 obtain rfl:fn=Tryd.f5:=(Option.some.inj (Tryd.func5.symm.trans hfn)).symm
 refine⟨by kernel_rfl,fun j t ht=>?_⟩
 rw[Tryd.params5] at ht
 have ht' : t=33∨t=3:=by simpa using Array.mem_of_getElem? ht
 rcases ht' with rfl|rfl
 ·exact(show Tryd.prog.wantsStandIn 33=false by kernel_rfl)
 ·exact(show Tryd.prog.wantsStandIn 3=false by kernel_rfl)
theorem card:Rows.SoundRulesUptoCardSaid:=
 Claim7.holds_tied_plain_at .later [] _ _ _ _ said (fun _ h=>by cases h) (by kernel_rfl) (fun _ h=>by cases h) soundRulesUpto_row_tie rfl ⟨rfl,rfl⟩ (by kernel_rfl) rfl plain (by kernel_rfl)
#print axioms card
end Go.Proofs.YtcmhfcciapenfaaDoor.soundRules
namespace Go.Proofs.YtcmhfcciapenfaaDoor
theorem soundRules_holds:Rows.SoundRulesUptoCardSaid:=soundRules.card
end Go.Proofs.YtcmhfcciapenfaaDoor
