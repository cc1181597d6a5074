/-
  DERIVED. GIVEN WITH THE SEED: THE CARDS: each row of YtcmhfcciapenfaaDoorRows.lean that lists a variable, with what it lists TIED to the program's text (the seventh form; the later family's looks); each row that meets fmt, with fmt's text TOLD by the authors' own Lean function (tested against real Go, not proved from fmt's source: count such statements apart). THE CARD IS WHAT COUNTS. Prove the row's statement (the work); the ties are given (YtcmhfcciapenfaaDoorTie.lean); close each card by the builder's one call (the guide's Derived/Test/ToyasCard.lean, 'card_holds'). Laid BY PROGRAM, IN A SANDBOX (cutbox-door.mjs). By AI agents, Wed Nov 11 2026. No macro, syntax, notation, axiom, sorry.
-/
import Derived.Test.YtcmhfcciapenfaaDoorRows
import GoSem.ClaimSeven
namespace Go.Proofs.YtcmhfcciapenfaaDoor
namespace Rows

/-- THE TIED CARD OF 'pylonlaw09.SoundChecks'. -/
def soundChecksCard : Claim7 := { stood := { row := soundChecksRow, standIns := [], harness := (true, "8538cbc1eeb03271e3edb34ba4e0bc623057e8401c342e3a559f571a6cd48956"), looks := false }, kinds := [], alts := [], laidByText := true, laidKinds := [.data, .pinned], laidTests := true, laidLooks := .later }
def SoundChecksCardSaid : Prop := Claim7.holds Tryd.pinned (.plain (OpenSpec.ofChange soundChecksSpec)) soundChecksCard

/-- THE TIED CARD OF 'pylonlaw09.SoundOrder'. -/
def soundOrderCard : Claim7 := { stood := { row := soundOrderRow, standIns := [], harness := (true, "8538cbc1eeb03271e3edb34ba4e0bc623057e8401c342e3a559f571a6cd48956"), looks := false }, kinds := [], alts := [], laidByText := true, laidKinds := [.data, .pinned], laidTests := true, laidLooks := .later }
def SoundOrderCardSaid : Prop := Claim7.holds Tryd.pinned (.plain (OpenSpec.ofChange soundOrderSpec)) soundOrderCard

/-- THE TIED CARD OF 'pylonlaw09.SoundRules'. -/
def soundRulesCard : Claim7 := { stood := { row := soundRulesRow, standIns := [], harness := (true, "8538cbc1eeb03271e3edb34ba4e0bc623057e8401c342e3a559f571a6cd48956"), looks := false }, kinds := [], alts := [], laidByText := true, laidKinds := [.data, .pinned], laidTests := true, laidLooks := .later }
def SoundRulesCardSaid : Prop := Claim7.holds Tryd.pinned (.plain (OpenSpec.ofChange soundRulesSpec)) soundRulesCard

/-- THE TIED CARD OF 'pylonlaw09.SoundKeeps'. -/
def soundKeepsCard : Claim7 := { stood := { row := soundKeepsRow, standIns := [], harness := (true, "8538cbc1eeb03271e3edb34ba4e0bc623057e8401c342e3a559f571a6cd48956"), looks := false }, kinds := [], alts := [], laidByText := true, laidKinds := [.data, .pinned], laidTests := true, laidLooks := .later }
def SoundKeepsCardSaid : Prop := Claim7.holds Tryd.pinned (.plain (OpenSpec.ofChange soundKeepsSpec)) soundKeepsCard

/-- THE TIED CARD OF 'pylonlaw09.SoundDays'. -/
def soundDaysCard : Claim7 := { stood := { row := soundDaysRow, standIns := [], harness := (true, "8538cbc1eeb03271e3edb34ba4e0bc623057e8401c342e3a559f571a6cd48956"), looks := false }, kinds := [], alts := [], laidByText := true, laidKinds := [.data, .pinned], laidTests := true, laidLooks := .later }
def SoundDaysCardSaid : Prop := Claim7.holds Tryd.pinned (.plain (OpenSpec.ofChange soundDaysSpec)) soundDaysCard

/-- THE TIED CARD OF 'pylonlaw09.SoundHolds'. -/
def soundHoldsCard : Claim7 := { stood := { row := soundHoldsRow, standIns := [], harness := (true, "8538cbc1eeb03271e3edb34ba4e0bc623057e8401c342e3a559f571a6cd48956"), looks := false }, kinds := [], alts := [], laidByText := true, laidKinds := [.data, .pinned], laidTests := true, laidLooks := .later }
def SoundHoldsCardSaid : Prop := Claim7.holds Tryd.pinned (.plain (OpenSpec.ofChange soundHoldsSpec)) soundHoldsCard

/-- THE TIED CARD OF 'pylonlaw09.SoundCovers'. -/
def soundCoversCard : Claim7 := { stood := { row := soundCoversRow, standIns := [], harness := (true, "8538cbc1eeb03271e3edb34ba4e0bc623057e8401c342e3a559f571a6cd48956"), looks := false }, kinds := [], alts := [], laidByText := true, laidKinds := [.data, .pinned], laidTests := true, laidLooks := .later }
def SoundCoversCardSaid : Prop := Claim7.holds Tryd.pinned (.plain (OpenSpec.ofChange soundCoversSpec)) soundCoversCard

/-- THE SECOND FORM's CARD OF 'pylonlaw09.SoundChecks'. -/
def soundChecksUptoCard : Claim7 := { stood := { row := soundChecksUptoRow, standIns := [], harness := (true, "8538cbc1eeb03271e3edb34ba4e0bc623057e8401c342e3a559f571a6cd48956"), looks := false }, kinds := [], alts := [], laidByText := true, laidKinds := [.data, .pinned], laidTests := true, laidLooks := .later }
def SoundChecksUptoCardSaid : Prop := Claim7.holds Tryd.pinned (.plain (OpenSpec.upto soundChecksSpec)) soundChecksUptoCard

/-- THE SECOND FORM's CARD OF 'pylonlaw09.SoundOrder'. -/
def soundOrderUptoCard : Claim7 := { stood := { row := soundOrderUptoRow, standIns := [], harness := (true, "8538cbc1eeb03271e3edb34ba4e0bc623057e8401c342e3a559f571a6cd48956"), looks := false }, kinds := [], alts := [], laidByText := true, laidKinds := [.data, .pinned], laidTests := true, laidLooks := .later }
def SoundOrderUptoCardSaid : Prop := Claim7.holds Tryd.pinned (.plain (OpenSpec.upto soundOrderSpec)) soundOrderUptoCard

/-- THE SECOND FORM's CARD OF 'pylonlaw09.SoundRules'. -/
def soundRulesUptoCard : Claim7 := { stood := { row := soundRulesUptoRow, standIns := [], harness := (true, "8538cbc1eeb03271e3edb34ba4e0bc623057e8401c342e3a559f571a6cd48956"), looks := false }, kinds := [], alts := [], laidByText := true, laidKinds := [.data, .pinned], laidTests := true, laidLooks := .later }
def SoundRulesUptoCardSaid : Prop := Claim7.holds Tryd.pinned (.plain (OpenSpec.upto soundRulesSpec)) soundRulesUptoCard

/-- THE SECOND FORM's CARD OF 'pylonlaw09.SoundKeeps'. -/
def soundKeepsUptoCard : Claim7 := { stood := { row := soundKeepsUptoRow, standIns := [], harness := (true, "8538cbc1eeb03271e3edb34ba4e0bc623057e8401c342e3a559f571a6cd48956"), looks := false }, kinds := [], alts := [], laidByText := true, laidKinds := [.data, .pinned], laidTests := true, laidLooks := .later }
def SoundKeepsUptoCardSaid : Prop := Claim7.holds Tryd.pinned (.plain (OpenSpec.upto soundKeepsSpec)) soundKeepsUptoCard

/-- THE SECOND FORM's CARD OF 'pylonlaw09.SoundDays'. -/
def soundDaysUptoCard : Claim7 := { stood := { row := soundDaysUptoRow, standIns := [], harness := (true, "8538cbc1eeb03271e3edb34ba4e0bc623057e8401c342e3a559f571a6cd48956"), looks := false }, kinds := [], alts := [], laidByText := true, laidKinds := [.data, .pinned], laidTests := true, laidLooks := .later }
def SoundDaysUptoCardSaid : Prop := Claim7.holds Tryd.pinned (.plain (OpenSpec.upto soundDaysSpec)) soundDaysUptoCard

/-- THE SECOND FORM's CARD OF 'pylonlaw09.SoundHolds'. -/
def soundHoldsUptoCard : Claim7 := { stood := { row := soundHoldsUptoRow, standIns := [], harness := (true, "8538cbc1eeb03271e3edb34ba4e0bc623057e8401c342e3a559f571a6cd48956"), looks := false }, kinds := [], alts := [], laidByText := true, laidKinds := [.data, .pinned], laidTests := true, laidLooks := .later }
def SoundHoldsUptoCardSaid : Prop := Claim7.holds Tryd.pinned (.plain (OpenSpec.upto soundHoldsSpec)) soundHoldsUptoCard

/-- THE SECOND FORM's CARD OF 'pylonlaw09.SoundCovers'. -/
def soundCoversUptoCard : Claim7 := { stood := { row := soundCoversUptoRow, standIns := [], harness := (true, "8538cbc1eeb03271e3edb34ba4e0bc623057e8401c342e3a559f571a6cd48956"), looks := false }, kinds := [], alts := [], laidByText := true, laidKinds := [.data, .pinned], laidTests := true, laidLooks := .later }
def SoundCoversUptoCardSaid : Prop := Claim7.holds Tryd.pinned (.plain (OpenSpec.upto soundCoversSpec)) soundCoversUptoCard
end Rows
end Go.Proofs.YtcmhfcciapenfaaDoor
