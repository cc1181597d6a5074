/-
  The law pylon/pylonlaw07.ReadfileKeeps, where what it reads is of bulk at most 1048576: it answers true, and each argument reads as it did (the card: the listed variables tied to the program's text).
-/
import Derived.Test.YtjokedpaidmjoaaGreatDoorCards
import Derived.Test.YtjokedpaidmjoaaGreatDoorTie
import Derived.Test.YtjokedpaidmjoaaGreatDoorQ49
import Derived.Test.YtjokedpaidmjoaaGreatDoorQ50
import Derived.ProofKit
import Derived.OpenShut
import Derived.ShutString
import Derived.ChangeOld
import Derived.JoinedCond
import Derived.SliceStrings
import Derived.SizedLaws
import Derived.Deep.DeepHandedRow
import Derived.Deep.DeepWitnessRowRef
import Derived.Lib.LaidU8
import Derived.Stop.LaidErr
import Derived.MakeChecks
set_option linter.all false
namespace Go.Proofs.YtjokedpaidmjoaaGreatDoor.readfileKeeps
open Go.ChangeShapes Go.WideShapes Go.ChangeAt Go.RowKit
open Go.ChangeMaps (open_string shut_string)
open Go.Proofs.YtjokedpaidmjoaaGreatDoorW.PrintWords
theorem own:ownKnob Tryz.prog.godebug=none:=by kernel_rfl
theorem laidOut:laidOutB Tryz.prog=true:=by kernel_rfl
noncomputable abbrev low:Nat:=(World.settled Tryz.prog default).heap.size
def put (h:Array Obj) (g:Nat) (cs:Array Value):Array Obj:=h.modify g fun
 |.cells _ t frozen=>.cells cs t frozen
 |o=>o
noncomputable def laidWorld (os:Os):World:=
 let w0:=World.holding Tryz.prog os ⟨#[.cells #[.string ⟨#[118,97,108,117,101,32,111,117,116,32,111,102,32,114,97,110,103,101]⟩] 153,.cells #[.string ⟨#[105,110,118,97,108,105,100,32,115,121,110,116,97,120]⟩] 153],#[],[]⟩
 let h0:=put w0.heap 2 #[.int .u8 0,.int .u8 1,.int .u8 28,.int .u8 2,.int .u8 29,.int .u8 14,.int .u8 24,.int .u8 3,.int .u8 30,.int .u8 22,.int .u8 20,.int .u8 15,.int .u8 25,.int .u8 17,.int .u8 4,.int .u8 8,.int .u8 31,.int .u8 27,.int .u8 13,.int .u8 23,.int .u8 21,.int .u8 19,.int .u8 16,.int .u8 7,.int .u8 26,.int .u8 12,.int .u8 18,.int .u8 6,.int .u8 11,.int .u8 5,.int .u8 10,.int .u8 9]
 let h1:=put h0 3 #[.int .u8 0,.int .u8 1,.int .u8 56,.int .u8 2,.int .u8 57,.int .u8 49,.int .u8 28,.int .u8 3,.int .u8 61,.int .u8 58,.int .u8 42,.int .u8 50,.int .u8 38,.int .u8 29,.int .u8 17,.int .u8 4,.int .u8 62,.int .u8 47,.int .u8 59,.int .u8 36,.int .u8 45,.int .u8 43,.int .u8 51,.int .u8 22,.int .u8 53,.int .u8 39,.int .u8 33,.int .u8 30,.int .u8 24,.int .u8 18,.int .u8 12,.int .u8 5,.int .u8 63,.int .u8 55,.int .u8 48,.int .u8 27,.int .u8 60,.int .u8 41,.int .u8 37,.int .u8 16,.int .u8 46,.int .u8 35,.int .u8 44,.int .u8 21,.int .u8 52,.int .u8 32,.int .u8 23,.int .u8 11,.int .u8 54,.int .u8 26,.int .u8 40,.int .u8 15,.int .u8 34,.int .u8 20,.int .u8 31,.int .u8 10,.int .u8 25,.int .u8 14,.int .u8 19,.int .u8 9,.int .u8 13,.int .u8 8,.int .u8 7,.int .u8 6]
 let h2:=put h1 1 #[.int .u64 1,.int .u64 10,.int .u64 100,.int .u64 1000,.int .u64 10000,.int .u64 100000,.int .u64 1000000,.int .u64 10000000,.int .u64 100000000,.int .u64 1000000000,.int .u64 10000000000,.int .u64 100000000000,.int .u64 1000000000000,.int .u64 10000000000000,.int .u64 100000000000000,.int .u64 1000000000000000,.int .u64 10000000000000000,.int .u64 100000000000000000,.int .u64 1000000000000000000,.int .u64 10000000000000000000]
 let h3:=put h2 5 #[.int .u8 128,.int .u8 191,.int .u8 160,.int .u8 191,.int .u8 128,.int .u8 159,.int .u8 144,.int .u8 191,.int .u8 128,.int .u8 143,.int .u8 0,.int .u8 0,.int .u8 0,.int .u8 0,.int .u8 0,.int .u8 0,.int .u8 0,.int .u8 0,.int .u8 0,.int .u8 0,.int .u8 0,.int .u8 0,.int .u8 0,.int .u8 0,.int .u8 0,.int .u8 0,.int .u8 0,.int .u8 0,.int .u8 0,.int .u8 0,.int .u8 0,.int .u8 0]
 let h4:=put h3 7 #[.iface 151 (.pointer (some ⟨low+0,0,none⟩))]
 let h5:=put h4 6 #[.iface 151 (.pointer (some ⟨low+1,0,none⟩))]
 let h6:=put h5 4 (Lib.firstTab.map fun z=>Value.int .u8 z).toArray
 { w0 with heap:=h6 }
set_option maxRecDepth 100000 in
theorem laid_met (os:Os):laidMet Tryz.prog Rows.readfileKeepsUptoRow.laid ((laidWorld os).forCall (fun _ _=>0) ⟨#[],#[.agg #[.string ⟨#[]⟩,.int .i64 0,.int .i64 0,.int .i64 0,.int .i64 0,.int .i64 0,.slice none 0 0],.string ⟨#[]⟩],[]⟩).memory:=
 laidMet_of_run' 8 (by kernel_rfl) (by kernel_rfl)
theorem reads (os:Os) {H:Type} (enc:TypeId × Value → H) : ∃ places,DataW.whole enc Tryz.prog ((laidWorld os).forCall (fun _ _=>0) ⟨#[],#[.agg #[.string ⟨#[]⟩,.int .i64 0,.int .i64 0,.int .i64 0,.int .i64 0,.int .i64 0,.slice none 0 0],.string ⟨#[]⟩],[]⟩).memory Tryz.f8.params.toList Rows.readfileKeepsSpec.vars false (#[.agg #[.string ⟨#[]⟩,.int .i64 0,.int .i64 0,.int .i64 0,.int .i64 0,.int .i64 0,.slice none 0 0],.string ⟨#[]⟩] : Array Value).toList 8=some ([.agg [.lit (.string []),.lit (.int .i64 0),.lit (.int .i64 0),.lit (.int .i64 0),.lit (.int .i64 0),.lit (.int .i64 0),.nil],.lit (.string [])],[],places):=
 ⟨[],by kernel_rfl⟩
theorem gR:Tryz.prog.globalNamed "strconv.ErrRange" = some 7:=by kernel_rfl
theorem gRT:(Tryz.prog.globals[7]?).map (·.type)=some 69:=by kernel_rfl
theorem rowTP (u:TypeId) (h:Tryz.prog.typeName? 3 u=some "*errors.errorString"):u=151:=
 typeName_ptr_named (nm:= "errors.errorString") (by rw[show "*" ++ "errors.errorString" = "*errors.errorString" by decide];kernel_rfl) (by kernel_rfl) (by decide) u (by rw[show "*" ++ "errors.errorString" = "*errors.errorString" by decide];exact h)
theorem cellsTE:Tryz.prog.cellsOf 153=1:=by kernel_rfl
theorem cellsS:Tryz.prog.cellsOf 9=1:=by kernel_rfl
theorem gP:Tryz.prog.globalNamed "internal/strconv.uint64pow10" = some 1:=by kernel_rfl
theorem cells64:Tryz.prog.cellsOf 89=1:=by kernel_rfl
theorem gPT:(Tryz.prog.globals[1]?).map (·.type)=some 120:=by kernel_rfl
theorem cellsP:Tryz.prog.cellsOf 120=20:=by kernel_rfl
theorem ginv {W:World} (hL:laidMetH Tryz.prog Rows.readfileKeepsUptoRow.laid W):GInv W:=by
 have hL' : laidMet Tryz.prog Rows.readfileKeepsUptoRow.laid W:=by rw[← MakeChecks.laidMetH_plain _ _ _ (by kernel_rfl)];exact hL
 exact {
  any:=trivial
  rng:=by
   obtain⟨a0,s0,hv0,_,_,_⟩:=laid_sentinel hL'.tail.tail.tail.tail gR gRT Tryz.underlying69 rowTP Tryz.underlying151 Tryz.underlying153 rfl rfl Tryz.underlying9 cellsTE cellsS
   exact⟨_,_,hv0⟩
  pow:=Lib.tabIs_of_head (rest:=_) gP gPT Tryz.underlying120 Tryz.underlying89 cells64 cellsP hL'.tail.tail
 }
set_option maxRecDepth 100000 in
theorem lifted (os:Os) (started:os.Started) (H:Type) (enc:TypeId × Value → H) (F:Stop.Interp) :
  ReturnsInHanded {} Tryz.checked os 8 .any ((Rows.OpenSpec.upto Rows.readfileKeepsSpec).preRow enc Tryz.prog Tryz.f8 Rows.readfileKeepsUptoRow.domain false Rows.readfileKeepsUptoRow.laid) (((Rows.OpenSpec.upto Rows.readfileKeepsSpec).at F).post enc Tryz.prog Tryz.f8 false true false false):=by
 obtain⟨places,hx⟩:=reads os enc
 refine returnsInHanded_of_row (C:=Tryz.checked) (s:=Rows.OpenSpec.upto Rows.readfileKeepsSpec) own started (by kernel_rfl) Tryz.func8
  (witness_row_atRef (enc:=enc) (C:=Tryz.checked) false (laidWorld os) #[.agg #[.string ⟨#[]⟩,.int .i64 0,.int .i64 0,.int .i64 0,.int .i64 0,.int .i64 0,.slice none 0 0],.string ⟨#[]⟩] rfl (by kernel_rfl) (by kernel_rfl) (by kernel_rfl)
   (OpenSpec.preRow_of_cond 8 hx (by kernel_rfl) (fun k hk=>by cases hk;kernel_rfl) (by kernel_rfl) (laid_met os))) ?_
 intro W base args ds gs before hval0 hW _ hcond hsz0 hL _ _
 have hk:=hcond _ rfl
 have hval : ∀ (j:Nat) t v,Tryz.f8.params[j]? = some t → args[j]? = some v → Value.okWide Tryz.prog W .any base t v:=hval0
 have hsz:(DataW.weightsEach Tryz.prog (Tryz.f8.params.toList ++ (Rows.readfileKeepsSpec).plain.varTypes Tryz.prog) (ds ++ gs)).all (·≤reachBytes)=true:=hsz0
 have hW':=hW
 obtain⟨p,q,hA0,hV,rfl,hfz,hnd⟩:=hW
 have hA:DataW.TrodAll enc Tryz.prog W 0 (fun _=>true) true Tryz.f8.params.toList args.toList ds p:=hA0
 rw[Tryz.params8] at hA hval hsz
 obtain⟨v0,vs0,d0,ds0,p0,q0,hargs,rfl,rfl,h0,r0⟩:=trodAll_cons hA
 obtain⟨v1,vs1,d1,ds1,p1,q1,rfl,rfl,rfl,h1,r1⟩:=trodAll_cons r0
 obtain⟨rfl,rfl,rfl⟩:=trodAll_nil r1
 obtain rfl:args=#[v0,v1]:=by cases args;simp_all
 obtain⟨rfl,rfl⟩:=trodVars_none hV
 obtain⟨cs0,rfl,_⟩:=okWide_struct Tryz.underlying25 (hval 0 25 v0 rfl rfl)
 have k0:=h0
 have lt0 : ∀ x∈p0,x.block < W.heap.size:=by obtain⟨m,hm⟩:=k0;exact DataW.trod_lt m _ _ _ hm
 obtain⟨fuel0,hf0⟩:=h0
 obtain⟨⟨a0_0,⟨a0_1,⟨a0_2,⟨a0_3,⟨a0_4,⟨a0_5,t0_6⟩⟩⟩⟩⟩⟩,hK0,hw0,bk0⟩:=(Opens.struct Tryz.underlying25 (by kernel_rfl) (Opens.cons rfl (Opens.string Tryz.underlying9 (by kernel_rfl)) (Opens.cons rfl (Opens.int Tryz.underlying2 (by kernel_rfl)) (Opens.cons rfl (Opens.int Tryz.underlying3 (by kernel_rfl)) (Opens.cons rfl (Opens.int Tryz.underlying3 (by kernel_rfl)) (Opens.cons rfl (Opens.int Tryz.underlying2 (by kernel_rfl)) (Opens.cons rfl (Opens.int Tryz.underlying3 (by kernel_rfl)) (Opens.last rfl (Opens.slice 41 Tryz.underlying23 (by kernel_rfl) (Opens.iso (fun x:Pa.S41=>(x.f0,x.f1,x.f2,x.f3,x.f4)) (fun p=>⟨p.1,p.2.1,p.2.2.1,p.2.2.2.1,p.2.2.2.2⟩) (fun _=>rfl) (Opens.struct Tryz.underlying41 (by kernel_rfl) (Opens.cons rfl (Opens.int Tryz.underlying3 (by kernel_rfl)) (Opens.cons rfl (Opens.int Tryz.underlying2 (by kernel_rfl)) (Opens.cons rfl (Opens.int Tryz.underlying2 (by kernel_rfl)) (Opens.cons rfl (Opens.int Tryz.underlying2 (by kernel_rfl)) (Opens.last rfl (Opens.int Tryz.underlying5 (by kernel_rfl)))))))))))))))))).op hf0
 obtain⟨wf0_0,⟨wf0_1,⟨wf0_2,⟨wf0_3,⟨wf0_4,⟨wf0_5,wf0_6⟩⟩⟩⟩⟩⟩:=hw0
 obtain⟨l0,el0⟩ : ∃ l:List Value,l=cs0.toList:=⟨_,rfl⟩
 change Kd.K _ W _ cs0.toList at hK0
 rw[← el0] at hK0
 obtain⟨_,_,rfl,rfl,⟨_,_,rfl,rfl,⟨_,_,rfl,rfl,⟨_,_,rfl,rfl,⟨_,_,rfl,rfl,⟨_,_,rfl,rfl,⟨A0_6,c0_6,rfl,hc0_6,hr0_6⟩⟩⟩⟩⟩⟩⟩:=hK0
 replace el0:cs0=#[.string a0_0,.int .i64 a0_1,.int .i64 a0_2,.int .i64 a0_3,.int .i64 a0_4,.int .i64 a0_5,.slice A0_6 t0_6.length c0_6]:=by apply Array.ext';exact el0.symm
 subst el0
 obtain⟨a1,rfl,rfl,rfl,y1⟩:=open_string Tryz.underlying9 (hval 1 9 v1 rfl rfl) h1
 have w1:a1.size≤140737488351232:=by
  have z:=sized_string hsz (j:=1) (t:=9) rfl rfl
  rw[Array.length_toList] at z
  exact z
 have hk' : Rows.uptoBulkAll ([d0,DataW.lit (.string a1.data.toList)] ++ [] : List (DataW H))≤1048576:=of_decide_eq_true hk
 simp only[Rows.uptoBulkAll,List.cons_append,List.nil_append,Rows.uptoBulk,Array.length_toList] at hk'
 have z1:a1.data.size=a1.size:=rfl
 have tb0:Pu.tarB (⟨a0_0,a0_1,a0_2,a0_3,a0_4,a0_5,t0_6⟩ : Pa.Tar)≤Rows.uptoBulk d0:=bk0
 clear hA0 hval0 hsz0
 have hP:=Pu.readfileKeeps (⟨a0_0,a0_1,a0_2,a0_3,a0_4,a0_5,t0_6⟩ : Pa.Tar) a1 ⟨wf0_0,wf0_1,wf0_2,wf0_3,wf0_4,wf0_5,wf0_6⟩ (by omega)
 refine(Pa.pylonlaw07_ReadfileKeeps.calls (⟨a0_0,a0_1,a0_2,a0_3,a0_4,a0_5,t0_6⟩ : Pa.Tar) [.string a0_0,.int .i64 a0_1,.int .i64 a0_2,.int .i64 a0_3,.int .i64 a0_4,.int .i64 a0_5,.slice A0_6 t0_6.length c0_6] a1 true W (ginv hL) (Pa.kTar_mk (⟨a0_0,a0_1,a0_2,a0_3,a0_4,a0_5,t0_6⟩ : Pa.Tar) hc0_6 hr0_6) hP).mono fun e W' ⟨he,hbel⟩=>?_
 have bel:Below W.heap.size W W':=hbel
 subst he
 exact⟨_,rfl,_,_,_,[],_,[],hW',trodAll_mk1 (shut_bool Tryz.underlying4 _),(trodAll_cons_mk (Below.trod laidOut (by kernel_rfl) (of_decide_eq_true (by kernel_rfl)) k0 bel lt0) (trodAll_cons_mk (shut_string Tryz.underlying9 y1) trodAll_mk0)),rfl,bel.frame _,fun h=>by cases h⟩
theorem said:Rows.ReadfileKeepsUptoSaid:=
 OpenClaim.holds_of_cond 8 Tryz.f8 rfl rfl rfl rfl rfl rfl rfl ⟨rfl,rfl,rfl,rfl,rfl⟩ rfl rfl rfl rfl rfl (by kernel_rfl) Tryz.func8 (by kernel_rfl)
  (of_decide_eq_true (by kernel_rfl)) (by unfold Func.isWrapper;first|(rw[if_pos (by decide +kernel)];kernel_rfl)|(rw[if_neg (by decide +kernel)];exact⟨rfl,rfl⟩))
  (fun os started H enc _ F=>by rw[OpenClaim.pre_eq_preRow];exact lifted os started H enc F)
theorem plain (f:FuncId) (fn:Func) (hf:Tryz.pinned.checked.prog.funcNamed "pylon/pylonlaw07.ReadfileKeeps" = some f) (hfn:Tryz.pinned.checked.prog.funcs[f]? = some fn) :
  true=Tryz.pinned.checked.prog.looks []∧∀ (j:Nat) t,fn.params[j]? = some t → Tryz.pinned.checked.prog.wantsStandIn t=false:=by
 obtain rfl:f=8:=Option.some.inj ((show Tryz.prog.funcNamed "pylon/pylonlaw07.ReadfileKeeps" = some 8 by kernel_rfl).symm.trans hf) |>.symm
 obtain rfl:fn=Tryz.f8:=(Option.some.inj (Tryz.func8.symm.trans hfn)).symm
 refine⟨by kernel_rfl,fun j t ht=>?_⟩
 rw[Tryz.params8] at ht
 have ht' : t=25∨t=9:=by simpa using Array.mem_of_getElem? ht
 rcases ht' with rfl|rfl
 ·exact(show Tryz.prog.wantsStandIn 25=false by kernel_rfl)
 ·exact(show Tryz.prog.wantsStandIn 9=false by kernel_rfl)
theorem card:Rows.ReadfileKeepsUptoCardSaid:=
 Claim7.holds_tied_plain_at .later [] _ _ _ _ said (fun _ h=>by cases h) (by kernel_rfl) (fun _ h=>by cases h) readfileKeepsUpto_row_tie rfl ⟨rfl,rfl⟩ (by kernel_rfl) rfl plain (by kernel_rfl)
#print axioms card
end Go.Proofs.YtjokedpaidmjoaaGreatDoor.readfileKeeps
namespace Go.Proofs.YtjokedpaidmjoaaGreatDoor
theorem readfileKeeps_holds:Rows.ReadfileKeepsUptoCardSaid:=readfileKeeps.card
end Go.Proofs.YtjokedpaidmjoaaGreatDoor
