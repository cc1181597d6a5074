/-
  NARROWER THAN 'FOR EVERY INPUT', by the rows' own cells (each row's printed sentence says how): SoundChecks: laid · SoundOrder: laid · SoundRules: laid · SoundKeeps: laid · SoundDays: laid · SoundHolds: laid · SoundCovers: laid.
  DERIVED. THE GIVEN ROWS OF THIS SEAT. 7 by the template 'for every input the law returns true; each argument reads behind the call as it read before'; 0 by the template 'total and deterministic' (their statements: YtcmhfcciapenfaaDoorTotals.lean).
  GIVEN WITH THE SEED: the statements are not yours to turn. If you find one false, say at which input.
  Laid BY PROGRAM, IN A SANDBOX (cutbox-rows.mjs): the forced cells as the released guide's own fill.sh prints them over the translation 17b673c4b88b4a9d… (all of the seat's roots in one cut). By AI agents, Wed Nov 11 2026. No macro, syntax, notation, axiom, sorry.
-/
import Derived.Test.YtcmhfcciapenfaaDoorChecked
import GoSem.PinnedTables
import GoSem.Claim
import GoSem.ClaimJoined
import GoSem.ClaimMapViews
import Derived.JoinedTies
import Derived.KernelRfl
namespace Go.Proofs.YtcmhfcciapenfaaDoor
/- THE CELL 'sum', in the pinned program and in every row, IS THE sha256 OF THE DUMP (.gsa) THAT YtcmhfcciapenfaaDoorProg.lean LOADS. Nothing in Lean hashes anything: it is a label: what it is worth is what the hold of that sum in a sandbox is worth. -/
noncomputable def Tryd.pinned : Pinned := { name := "ytcmhfcciapenfaadoor", sum := "17b673c4b88b4a9d5fd41e1f9f54cf2016d88559506540e3aa16186c63b7fc79", checked := Tryd.checked }
namespace Rows
def none {H : Type} : Left H := { results := [], args := [] }

/- WHAT THE LISTED PACKAGE-LEVEL VARIABLES READ AS WHEN THE CALL BEGINS. Each datum BY PROGRAM (the guide's laid-datum.mjs) off the statement by which the dump's own 'gosem.cut.vars' lays the variable. In a bare row this is a premise. The card (YtcmhfcciapenfaaDoorCards.lean) ties it to the program's text. -/
def laid_unicode_utf8_acceptRanges {H : Type} : DataW H := .agg [.agg [.lit (.int .u8 128), .lit (.int .u8 191)], .agg [.lit (.int .u8 160), .lit (.int .u8 191)], .agg [.lit (.int .u8 128), .lit (.int .u8 159)], .agg [.lit (.int .u8 144), .lit (.int .u8 191)], .agg [.lit (.int .u8 128), .lit (.int .u8 143)], .agg [.lit (.int .u8 0), .lit (.int .u8 0)], .agg [.lit (.int .u8 0), .lit (.int .u8 0)], .agg [.lit (.int .u8 0), .lit (.int .u8 0)], .agg [.lit (.int .u8 0), .lit (.int .u8 0)], .agg [.lit (.int .u8 0), .lit (.int .u8 0)], .agg [.lit (.int .u8 0), .lit (.int .u8 0)], .agg [.lit (.int .u8 0), .lit (.int .u8 0)], .agg [.lit (.int .u8 0), .lit (.int .u8 0)], .agg [.lit (.int .u8 0), .lit (.int .u8 0)], .agg [.lit (.int .u8 0), .lit (.int .u8 0)], .agg [.lit (.int .u8 0), .lit (.int .u8 0)]]
/-- One of Go's own tables, pinned by name: the form's constant. -/
def laid_unicode_utf8_first : DataW Unit := Go.Pinned.utf8First

/-- 'pylonlaw09.SoundChecks': WHATEVER THE INPUT: true; the input reads as it did. -/
def soundChecksSpec : ChangeSpec := { name := "soundChecks", fn := fun _ => fun
  | [d] => { results := [.lit (.bool true)], args := [d] }
  | _ => none }
def soundChecksRow : OpenClaim := { program := "ytcmhfcciapenfaadoor", sum := "17b673c4b88b4a9d5fd41e1f9f54cf2016d88559506540e3aa16186c63b7fc79", func := "pylon/pylonlaw09.SoundChecks", spec := "soundChecks", inPlace := ["internal/bytealg.IndexByteString", "internal/bytealg.IndexString", "internal/reflectlite.ValueOf", "internal/reflectlite.Swapper", "(internal/reflectlite.Value).Len"], unfollowed := true, recurses := true, named := ["unicode/utf8.first", "unicode/utf8.acceptRanges", "internal/bytealg.MaxLen"], plainKeys := false, apart := false, laid := [("unicode/utf8.acceptRanges", laid_unicode_utf8_acceptRanges), ("unicode/utf8.first", laid_unicode_utf8_first)] }
def SoundChecksSaid : Prop := soundChecksRow.holds Tryd.pinned (OpenSpec.ofChange soundChecksSpec)

/-- ITS FALSE NEIGHBOUR: 'it returns false'. Refute it at one input. -/
def soundChecksWrong : ChangeSpec := { name := "soundChecks", fn := fun _ => fun
  | [d] => { results := [.lit (.bool false)], args := [d] }
  | _ => none }
def SoundChecksWrongFalsely : Prop := soundChecksRow.holds Tryd.pinned (OpenSpec.ofChange soundChecksWrong)

/-- 'pylonlaw09.SoundOrder': WHATEVER THE INPUT: true; the input reads as it did. -/
def soundOrderSpec : ChangeSpec := { name := "soundOrder", fn := fun _ => fun
  | [d] => { results := [.lit (.bool true)], args := [d] }
  | _ => none }
def soundOrderRow : OpenClaim := { program := "ytcmhfcciapenfaadoor", sum := "17b673c4b88b4a9d5fd41e1f9f54cf2016d88559506540e3aa16186c63b7fc79", func := "pylon/pylonlaw09.SoundOrder", spec := "soundOrder", inPlace := ["internal/bytealg.IndexByteString", "internal/bytealg.IndexString", "internal/reflectlite.ValueOf", "internal/reflectlite.Swapper", "(internal/reflectlite.Value).Len"], unfollowed := true, recurses := true, named := ["unicode/utf8.first", "unicode/utf8.acceptRanges", "internal/bytealg.MaxLen"], plainKeys := false, apart := false, laid := [("unicode/utf8.acceptRanges", laid_unicode_utf8_acceptRanges), ("unicode/utf8.first", laid_unicode_utf8_first)] }
def SoundOrderSaid : Prop := soundOrderRow.holds Tryd.pinned (OpenSpec.ofChange soundOrderSpec)

/-- ITS FALSE NEIGHBOUR: 'it returns false'. Refute it at one input. -/
def soundOrderWrong : ChangeSpec := { name := "soundOrder", fn := fun _ => fun
  | [d] => { results := [.lit (.bool false)], args := [d] }
  | _ => none }
def SoundOrderWrongFalsely : Prop := soundOrderRow.holds Tryd.pinned (OpenSpec.ofChange soundOrderWrong)

/-- 'pylonlaw09.SoundRules': WHATEVER THE INPUT: true; the input reads as it did. -/
def soundRulesSpec : ChangeSpec := { name := "soundRules", fn := fun _ => fun
  | [d1, d2] => { results := [.lit (.bool true)], args := [d1, d2] }
  | _ => none }
def soundRulesRow : OpenClaim := { program := "ytcmhfcciapenfaadoor", sum := "17b673c4b88b4a9d5fd41e1f9f54cf2016d88559506540e3aa16186c63b7fc79", func := "pylon/pylonlaw09.SoundRules", spec := "soundRules", inPlace := ["internal/bytealg.IndexByteString", "internal/bytealg.IndexString", "internal/reflectlite.ValueOf", "internal/reflectlite.Swapper", "(internal/reflectlite.Value).Len"], unfollowed := true, recurses := true, named := ["unicode/utf8.first", "unicode/utf8.acceptRanges", "internal/bytealg.MaxLen"], plainKeys := false, apart := false, laid := [("unicode/utf8.acceptRanges", laid_unicode_utf8_acceptRanges), ("unicode/utf8.first", laid_unicode_utf8_first)] }
def SoundRulesSaid : Prop := soundRulesRow.holds Tryd.pinned (OpenSpec.ofChange soundRulesSpec)

/-- ITS FALSE NEIGHBOUR: 'it returns false'. Refute it at one input. -/
def soundRulesWrong : ChangeSpec := { name := "soundRules", fn := fun _ => fun
  | [d1, d2] => { results := [.lit (.bool false)], args := [d1, d2] }
  | _ => none }
def SoundRulesWrongFalsely : Prop := soundRulesRow.holds Tryd.pinned (OpenSpec.ofChange soundRulesWrong)

/-- 'pylonlaw09.SoundKeeps': WHATEVER THE INPUT: true; the input reads as it did. -/
def soundKeepsSpec : ChangeSpec := { name := "soundKeeps", fn := fun _ => fun
  | [d] => { results := [.lit (.bool true)], args := [d] }
  | _ => none }
def soundKeepsRow : OpenClaim := { program := "ytcmhfcciapenfaadoor", sum := "17b673c4b88b4a9d5fd41e1f9f54cf2016d88559506540e3aa16186c63b7fc79", func := "pylon/pylonlaw09.SoundKeeps", spec := "soundKeeps", inPlace := ["internal/bytealg.IndexByteString", "internal/bytealg.IndexString", "internal/reflectlite.ValueOf", "internal/reflectlite.Swapper", "(internal/reflectlite.Value).Len"], unfollowed := true, recurses := true, named := ["unicode/utf8.first", "unicode/utf8.acceptRanges", "internal/bytealg.MaxLen"], plainKeys := false, apart := false, laid := [("unicode/utf8.acceptRanges", laid_unicode_utf8_acceptRanges), ("unicode/utf8.first", laid_unicode_utf8_first)] }
def SoundKeepsSaid : Prop := soundKeepsRow.holds Tryd.pinned (OpenSpec.ofChange soundKeepsSpec)

/-- ITS FALSE NEIGHBOUR: 'it returns false'. Refute it at one input. -/
def soundKeepsWrong : ChangeSpec := { name := "soundKeeps", fn := fun _ => fun
  | [d] => { results := [.lit (.bool false)], args := [d] }
  | _ => none }
def SoundKeepsWrongFalsely : Prop := soundKeepsRow.holds Tryd.pinned (OpenSpec.ofChange soundKeepsWrong)

/-- 'pylonlaw09.SoundDays': WHATEVER THE INPUT: true; the input reads as it did. -/
def soundDaysSpec : ChangeSpec := { name := "soundDays", fn := fun _ => fun
  | [d1, d2] => { results := [.lit (.bool true)], args := [d1, d2] }
  | _ => none }
def soundDaysRow : OpenClaim := { program := "ytcmhfcciapenfaadoor", sum := "17b673c4b88b4a9d5fd41e1f9f54cf2016d88559506540e3aa16186c63b7fc79", func := "pylon/pylonlaw09.SoundDays", spec := "soundDays", inPlace := ["internal/bytealg.IndexByteString", "internal/bytealg.IndexString", "internal/reflectlite.ValueOf", "internal/reflectlite.Swapper", "(internal/reflectlite.Value).Len"], unfollowed := true, recurses := true, named := ["unicode/utf8.first", "unicode/utf8.acceptRanges", "internal/bytealg.MaxLen"], plainKeys := false, apart := false, laid := [("unicode/utf8.acceptRanges", laid_unicode_utf8_acceptRanges), ("unicode/utf8.first", laid_unicode_utf8_first)] }
def SoundDaysSaid : Prop := soundDaysRow.holds Tryd.pinned (OpenSpec.ofChange soundDaysSpec)

/-- ITS FALSE NEIGHBOUR: 'it returns false'. Refute it at one input. -/
def soundDaysWrong : ChangeSpec := { name := "soundDays", fn := fun _ => fun
  | [d1, d2] => { results := [.lit (.bool false)], args := [d1, d2] }
  | _ => none }
def SoundDaysWrongFalsely : Prop := soundDaysRow.holds Tryd.pinned (OpenSpec.ofChange soundDaysWrong)

/-- 'pylonlaw09.SoundHolds': WHATEVER THE INPUT: true; the input reads as it did. -/
def soundHoldsSpec : ChangeSpec := { name := "soundHolds", fn := fun _ => fun
  | [d1, d2, d3] => { results := [.lit (.bool true)], args := [d1, d2, d3] }
  | _ => none }
def soundHoldsRow : OpenClaim := { program := "ytcmhfcciapenfaadoor", sum := "17b673c4b88b4a9d5fd41e1f9f54cf2016d88559506540e3aa16186c63b7fc79", func := "pylon/pylonlaw09.SoundHolds", spec := "soundHolds", inPlace := ["internal/bytealg.IndexByteString", "internal/bytealg.IndexString", "internal/reflectlite.ValueOf", "internal/reflectlite.Swapper", "(internal/reflectlite.Value).Len"], unfollowed := true, recurses := true, named := ["unicode/utf8.first", "unicode/utf8.acceptRanges", "internal/bytealg.MaxLen"], plainKeys := false, apart := false, laid := [("unicode/utf8.acceptRanges", laid_unicode_utf8_acceptRanges), ("unicode/utf8.first", laid_unicode_utf8_first)] }
def SoundHoldsSaid : Prop := soundHoldsRow.holds Tryd.pinned (OpenSpec.ofChange soundHoldsSpec)

/-- ITS FALSE NEIGHBOUR: 'it returns false'. Refute it at one input. -/
def soundHoldsWrong : ChangeSpec := { name := "soundHolds", fn := fun _ => fun
  | [d1, d2, d3] => { results := [.lit (.bool false)], args := [d1, d2, d3] }
  | _ => none }
def SoundHoldsWrongFalsely : Prop := soundHoldsRow.holds Tryd.pinned (OpenSpec.ofChange soundHoldsWrong)

/-- 'pylonlaw09.SoundCovers': WHATEVER THE INPUT: true; the input reads as it did. -/
def soundCoversSpec : ChangeSpec := { name := "soundCovers", fn := fun _ => fun
  | [d1, d2, d3, d4] => { results := [.lit (.bool true)], args := [d1, d2, d3, d4] }
  | _ => none }
def soundCoversRow : OpenClaim := { program := "ytcmhfcciapenfaadoor", sum := "17b673c4b88b4a9d5fd41e1f9f54cf2016d88559506540e3aa16186c63b7fc79", func := "pylon/pylonlaw09.SoundCovers", spec := "soundCovers", inPlace := ["internal/bytealg.IndexByteString", "internal/bytealg.IndexString", "internal/reflectlite.ValueOf", "internal/reflectlite.Swapper", "(internal/reflectlite.Value).Len"], unfollowed := true, recurses := true, named := ["unicode/utf8.first", "unicode/utf8.acceptRanges", "internal/bytealg.MaxLen"], plainKeys := false, apart := false, laid := [("unicode/utf8.acceptRanges", laid_unicode_utf8_acceptRanges), ("unicode/utf8.first", laid_unicode_utf8_first)] }
def SoundCoversSaid : Prop := soundCoversRow.holds Tryd.pinned (OpenSpec.ofChange soundCoversSpec)

/-- ITS FALSE NEIGHBOUR: 'it returns false'. Refute it at one input. -/
def soundCoversWrong : ChangeSpec := { name := "soundCovers", fn := fun _ => fun
  | [d1, d2, d3, d4] => { results := [.lit (.bool false)], args := [d1, d2, d3, d4] }
  | _ => none }
def SoundCoversWrongFalsely : Prop := soundCoversRow.holds Tryd.pinned (OpenSpec.ofChange soundCoversWrong)

/- THE SECOND FORM. 'bulk': how many values and letters a reading holds, each counted each time it is reached (what is shared counts as often as it is met; a slice's spare places count too). A statement '..UptoSaid' is the law's where the arguments, and the package variables that the reading takes, are together of bulk at most 1048576: NARROWER than '..Said'. Prove '..Said' where nothing that the law and all that it calls make is longer than what came in: it says more and counts as full. Else prove '..UptoSaid'. A law counts once. -/
mutual
def uptoBulk {H : Type} : DataW H → Nat
  | .lit (.string bytes) => bytes.length + 1
  | .lit _ => 1
  | .nil => 1
  | .ptr d => uptoBulk d + 1
  | .slice elems spare => uptoBulkAll elems + uptoBulkAll spare + 1
  | .agg parts => uptoBulkAll parts + 1
  | .iface _ d => uptoBulk d + 1
  | .map entries => uptoBulkEntries entries + 1
  | .held _ => 1
def uptoBulkAll {H : Type} : List (DataW H) → Nat
  | [] => 0
  | d :: r => uptoBulk d + uptoBulkAll r
def uptoBulkEntries {H : Type} : List (Lit × DataW H) → Nat
  | [] => 0
  | x :: r => uptoBulkEntry x + uptoBulkEntries r
def uptoBulkEntry {H : Type} : Lit × DataW H → Nat
  | (.string bytes, d) => bytes.length + uptoBulk d + 1
  | (_, d) => uptoBulk d + 1
 end
def uptoSmall : (H : Type) → List (DataW H) → Bool := fun _ ds => decide (uptoBulkAll ds ≤ 1048576)
def OpenSpec.upto (s : _root_.Go.ChangeSpec) : _root_.Go.OpenSpec := { _root_.Go.OpenSpec.ofChange s with cond := some uptoSmall }

/-- 'pylonlaw09.SoundChecks', WHERE WHAT IT READS IS OF BULK AT MOST 1048576: true; the input reads as it did. -/
def soundChecksUptoRow : OpenClaim := { program := "ytcmhfcciapenfaadoor", sum := "17b673c4b88b4a9d5fd41e1f9f54cf2016d88559506540e3aa16186c63b7fc79", func := "pylon/pylonlaw09.SoundChecks", spec := "soundChecks", inPlace := ["internal/bytealg.IndexByteString", "internal/bytealg.IndexString", "internal/reflectlite.ValueOf", "internal/reflectlite.Swapper", "(internal/reflectlite.Value).Len"], unfollowed := true, recurses := true, named := ["unicode/utf8.first", "unicode/utf8.acceptRanges", "internal/bytealg.MaxLen"], plainKeys := false, apart := false, laid := [("unicode/utf8.acceptRanges", laid_unicode_utf8_acceptRanges), ("unicode/utf8.first", laid_unicode_utf8_first)], narrowed := true }
def SoundChecksUptoSaid : Prop := soundChecksUptoRow.holds Tryd.pinned (OpenSpec.upto soundChecksSpec)

/-- 'pylonlaw09.SoundOrder', WHERE WHAT IT READS IS OF BULK AT MOST 1048576: true; the input reads as it did. -/
def soundOrderUptoRow : OpenClaim := { program := "ytcmhfcciapenfaadoor", sum := "17b673c4b88b4a9d5fd41e1f9f54cf2016d88559506540e3aa16186c63b7fc79", func := "pylon/pylonlaw09.SoundOrder", spec := "soundOrder", inPlace := ["internal/bytealg.IndexByteString", "internal/bytealg.IndexString", "internal/reflectlite.ValueOf", "internal/reflectlite.Swapper", "(internal/reflectlite.Value).Len"], unfollowed := true, recurses := true, named := ["unicode/utf8.first", "unicode/utf8.acceptRanges", "internal/bytealg.MaxLen"], plainKeys := false, apart := false, laid := [("unicode/utf8.acceptRanges", laid_unicode_utf8_acceptRanges), ("unicode/utf8.first", laid_unicode_utf8_first)], narrowed := true }
def SoundOrderUptoSaid : Prop := soundOrderUptoRow.holds Tryd.pinned (OpenSpec.upto soundOrderSpec)

/-- 'pylonlaw09.SoundRules', WHERE WHAT IT READS IS OF BULK AT MOST 1048576: true; the input reads as it did. -/
def soundRulesUptoRow : OpenClaim := { program := "ytcmhfcciapenfaadoor", sum := "17b673c4b88b4a9d5fd41e1f9f54cf2016d88559506540e3aa16186c63b7fc79", func := "pylon/pylonlaw09.SoundRules", spec := "soundRules", inPlace := ["internal/bytealg.IndexByteString", "internal/bytealg.IndexString", "internal/reflectlite.ValueOf", "internal/reflectlite.Swapper", "(internal/reflectlite.Value).Len"], unfollowed := true, recurses := true, named := ["unicode/utf8.first", "unicode/utf8.acceptRanges", "internal/bytealg.MaxLen"], plainKeys := false, apart := false, laid := [("unicode/utf8.acceptRanges", laid_unicode_utf8_acceptRanges), ("unicode/utf8.first", laid_unicode_utf8_first)], narrowed := true }
def SoundRulesUptoSaid : Prop := soundRulesUptoRow.holds Tryd.pinned (OpenSpec.upto soundRulesSpec)

/-- 'pylonlaw09.SoundKeeps', WHERE WHAT IT READS IS OF BULK AT MOST 1048576: true; the input reads as it did. -/
def soundKeepsUptoRow : OpenClaim := { program := "ytcmhfcciapenfaadoor", sum := "17b673c4b88b4a9d5fd41e1f9f54cf2016d88559506540e3aa16186c63b7fc79", func := "pylon/pylonlaw09.SoundKeeps", spec := "soundKeeps", inPlace := ["internal/bytealg.IndexByteString", "internal/bytealg.IndexString", "internal/reflectlite.ValueOf", "internal/reflectlite.Swapper", "(internal/reflectlite.Value).Len"], unfollowed := true, recurses := true, named := ["unicode/utf8.first", "unicode/utf8.acceptRanges", "internal/bytealg.MaxLen"], plainKeys := false, apart := false, laid := [("unicode/utf8.acceptRanges", laid_unicode_utf8_acceptRanges), ("unicode/utf8.first", laid_unicode_utf8_first)], narrowed := true }
def SoundKeepsUptoSaid : Prop := soundKeepsUptoRow.holds Tryd.pinned (OpenSpec.upto soundKeepsSpec)

/-- 'pylonlaw09.SoundDays', WHERE WHAT IT READS IS OF BULK AT MOST 1048576: true; the input reads as it did. -/
def soundDaysUptoRow : OpenClaim := { program := "ytcmhfcciapenfaadoor", sum := "17b673c4b88b4a9d5fd41e1f9f54cf2016d88559506540e3aa16186c63b7fc79", func := "pylon/pylonlaw09.SoundDays", spec := "soundDays", inPlace := ["internal/bytealg.IndexByteString", "internal/bytealg.IndexString", "internal/reflectlite.ValueOf", "internal/reflectlite.Swapper", "(internal/reflectlite.Value).Len"], unfollowed := true, recurses := true, named := ["unicode/utf8.first", "unicode/utf8.acceptRanges", "internal/bytealg.MaxLen"], plainKeys := false, apart := false, laid := [("unicode/utf8.acceptRanges", laid_unicode_utf8_acceptRanges), ("unicode/utf8.first", laid_unicode_utf8_first)], narrowed := true }
def SoundDaysUptoSaid : Prop := soundDaysUptoRow.holds Tryd.pinned (OpenSpec.upto soundDaysSpec)

/-- 'pylonlaw09.SoundHolds', WHERE WHAT IT READS IS OF BULK AT MOST 1048576: true; the input reads as it did. -/
def soundHoldsUptoRow : OpenClaim := { program := "ytcmhfcciapenfaadoor", sum := "17b673c4b88b4a9d5fd41e1f9f54cf2016d88559506540e3aa16186c63b7fc79", func := "pylon/pylonlaw09.SoundHolds", spec := "soundHolds", inPlace := ["internal/bytealg.IndexByteString", "internal/bytealg.IndexString", "internal/reflectlite.ValueOf", "internal/reflectlite.Swapper", "(internal/reflectlite.Value).Len"], unfollowed := true, recurses := true, named := ["unicode/utf8.first", "unicode/utf8.acceptRanges", "internal/bytealg.MaxLen"], plainKeys := false, apart := false, laid := [("unicode/utf8.acceptRanges", laid_unicode_utf8_acceptRanges), ("unicode/utf8.first", laid_unicode_utf8_first)], narrowed := true }
def SoundHoldsUptoSaid : Prop := soundHoldsUptoRow.holds Tryd.pinned (OpenSpec.upto soundHoldsSpec)

/-- 'pylonlaw09.SoundCovers', WHERE WHAT IT READS IS OF BULK AT MOST 1048576: true; the input reads as it did. -/
def soundCoversUptoRow : OpenClaim := { program := "ytcmhfcciapenfaadoor", sum := "17b673c4b88b4a9d5fd41e1f9f54cf2016d88559506540e3aa16186c63b7fc79", func := "pylon/pylonlaw09.SoundCovers", spec := "soundCovers", inPlace := ["internal/bytealg.IndexByteString", "internal/bytealg.IndexString", "internal/reflectlite.ValueOf", "internal/reflectlite.Swapper", "(internal/reflectlite.Value).Len"], unfollowed := true, recurses := true, named := ["unicode/utf8.first", "unicode/utf8.acceptRanges", "internal/bytealg.MaxLen"], plainKeys := false, apart := false, laid := [("unicode/utf8.acceptRanges", laid_unicode_utf8_acceptRanges), ("unicode/utf8.first", laid_unicode_utf8_first)], narrowed := true }
def SoundCoversUptoSaid : Prop := soundCoversUptoRow.holds Tryd.pinned (OpenSpec.upto soundCoversSpec)

end Rows
end Go.Proofs.YtcmhfcciapenfaaDoor
