/-
  DERIVED. GIVEN WITH THE SEED: THE CARDS: each row of YtjokedpaidmjoaaGreatDoorRows.lean that lists a variable, with what it lists TIED to the program's text (the seventh form; the later family's looks); each row that meets fmt, with fmt's text TOLD by the authors' own Lean function (tested against real Go, not proved from fmt's source: count such statements apart). THE CARD IS WHAT COUNTS. Prove the row's statement (the work); the ties are given (YtjokedpaidmjoaaGreatDoorTie.lean); close each card by the builder's one call (the guide's Derived/Test/ToyasCard.lean, 'card_holds'). Laid BY PROGRAM, IN A SANDBOX (cutbox-door.mjs). By AI agents, Wed Nov 11 2026. No macro, syntax, notation, axiom, sorry.
-/
import Derived.Test.YtjokedpaidmjoaaGreatDoorRows
import GoSem.ClaimSeven
namespace Go.Proofs.YtjokedpaidmjoaaGreatDoor
namespace Rows

/-- THE TIED CARD OF 'pylonlaw07.ReadfileParses'. -/
def readfileParsesCard : Claim7 := { stood := { row := readfileParsesRow, standIns := [], harness := (true, "a34902b7485554e6cf8d9b7b1b6cc897a11f8ba08a0a1822b8e31a01ae8633db"), looks := true }, kinds := [], alts := [], laidByText := true, laidKinds := [.data, .data, .data, .data, .sentinel, .sentinel, .pinned], laidTests := true, laidLooks := .later }
def ReadfileParsesCardSaid : Prop := Claim7.holds Tryz.pinned (.plain (OpenSpec.ofChange readfileParsesSpec)) readfileParsesCard

/-- THE TIED CARD OF 'pylonlaw07.ReadfilePrints'. -/
def readfilePrintsCard : Claim7 := { stood := { row := readfilePrintsRow, standIns := [], harness := (true, "a34902b7485554e6cf8d9b7b1b6cc897a11f8ba08a0a1822b8e31a01ae8633db"), looks := true }, kinds := [], alts := [], laidByText := true, laidKinds := [.data, .data, .data, .data, .sentinel, .sentinel, .pinned], laidTests := true, laidLooks := .later }
def ReadfilePrintsCardSaid : Prop := Claim7.holds Tryz.pinned (.plain (OpenSpec.ofChange readfilePrintsSpec)) readfilePrintsCard

/-- THE TIED CARD OF 'pylonlaw07.ReadfileBack'. -/
def readfileBackCard : Claim7 := { stood := { row := readfileBackRow, standIns := [], harness := (true, "a34902b7485554e6cf8d9b7b1b6cc897a11f8ba08a0a1822b8e31a01ae8633db"), looks := true }, kinds := [], alts := [], laidByText := true, laidKinds := [.data, .data, .data, .data, .sentinel, .sentinel, .pinned], laidTests := true, laidLooks := .later }
def ReadfileBackCardSaid : Prop := Claim7.holds Tryz.pinned (.plain (OpenSpec.ofChange readfileBackSpec)) readfileBackCard

/-- THE TIED CARD OF 'pylonlaw07.ReadfileText'. -/
def readfileTextCard : Claim7 := { stood := { row := readfileTextRow, standIns := [], harness := (true, "a34902b7485554e6cf8d9b7b1b6cc897a11f8ba08a0a1822b8e31a01ae8633db"), looks := true }, kinds := [], alts := [], laidByText := true, laidKinds := [.data, .data, .data, .data, .sentinel, .sentinel, .pinned], laidTests := true, laidLooks := .later }
def ReadfileTextCardSaid : Prop := Claim7.holds Tryz.pinned (.plain (OpenSpec.ofChange readfileTextSpec)) readfileTextCard

/-- THE TIED CARD OF 'pylonlaw07.ReadfileBytes'. -/
def readfileBytesCard : Claim7 := { stood := { row := readfileBytesRow, standIns := [], harness := (true, "a34902b7485554e6cf8d9b7b1b6cc897a11f8ba08a0a1822b8e31a01ae8633db"), looks := true }, kinds := [], alts := [], laidByText := true, laidKinds := [.data, .data, .data, .data, .sentinel, .sentinel, .pinned], laidTests := true, laidLooks := .later }
def ReadfileBytesCardSaid : Prop := Claim7.holds Tryz.pinned (.plain (OpenSpec.ofChange readfileBytesSpec)) readfileBytesCard

/-- THE TIED CARD OF 'pylonlaw07.ReadfileKeeps'. -/
def readfileKeepsCard : Claim7 := { stood := { row := readfileKeepsRow, standIns := [], harness := (true, "a34902b7485554e6cf8d9b7b1b6cc897a11f8ba08a0a1822b8e31a01ae8633db"), looks := true }, kinds := [], alts := [], laidByText := true, laidKinds := [.data, .data, .data, .data, .sentinel, .sentinel, .pinned], laidTests := true, laidLooks := .later }
def ReadfileKeepsCardSaid : Prop := Claim7.holds Tryz.pinned (.plain (OpenSpec.ofChange readfileKeepsSpec)) readfileKeepsCard

/-- THE SECOND FORM's CARD OF 'pylonlaw07.ReadfileParses'. -/
def readfileParsesUptoCard : Claim7 := { stood := { row := readfileParsesUptoRow, standIns := [], harness := (true, "a34902b7485554e6cf8d9b7b1b6cc897a11f8ba08a0a1822b8e31a01ae8633db"), looks := true }, kinds := [], alts := [], laidByText := true, laidKinds := [.data, .data, .data, .data, .sentinel, .sentinel, .pinned], laidTests := true, laidLooks := .later }
def ReadfileParsesUptoCardSaid : Prop := Claim7.holds Tryz.pinned (.plain (OpenSpec.upto readfileParsesSpec)) readfileParsesUptoCard

/-- THE SECOND FORM's CARD OF 'pylonlaw07.ReadfilePrints'. -/
def readfilePrintsUptoCard : Claim7 := { stood := { row := readfilePrintsUptoRow, standIns := [], harness := (true, "a34902b7485554e6cf8d9b7b1b6cc897a11f8ba08a0a1822b8e31a01ae8633db"), looks := true }, kinds := [], alts := [], laidByText := true, laidKinds := [.data, .data, .data, .data, .sentinel, .sentinel, .pinned], laidTests := true, laidLooks := .later }
def ReadfilePrintsUptoCardSaid : Prop := Claim7.holds Tryz.pinned (.plain (OpenSpec.upto readfilePrintsSpec)) readfilePrintsUptoCard

/-- THE SECOND FORM's CARD OF 'pylonlaw07.ReadfileBack'. -/
def readfileBackUptoCard : Claim7 := { stood := { row := readfileBackUptoRow, standIns := [], harness := (true, "a34902b7485554e6cf8d9b7b1b6cc897a11f8ba08a0a1822b8e31a01ae8633db"), looks := true }, kinds := [], alts := [], laidByText := true, laidKinds := [.data, .data, .data, .data, .sentinel, .sentinel, .pinned], laidTests := true, laidLooks := .later }
def ReadfileBackUptoCardSaid : Prop := Claim7.holds Tryz.pinned (.plain (OpenSpec.upto readfileBackSpec)) readfileBackUptoCard

/-- THE SECOND FORM's CARD OF 'pylonlaw07.ReadfileText'. -/
def readfileTextUptoCard : Claim7 := { stood := { row := readfileTextUptoRow, standIns := [], harness := (true, "a34902b7485554e6cf8d9b7b1b6cc897a11f8ba08a0a1822b8e31a01ae8633db"), looks := true }, kinds := [], alts := [], laidByText := true, laidKinds := [.data, .data, .data, .data, .sentinel, .sentinel, .pinned], laidTests := true, laidLooks := .later }
def ReadfileTextUptoCardSaid : Prop := Claim7.holds Tryz.pinned (.plain (OpenSpec.upto readfileTextSpec)) readfileTextUptoCard

/-- THE SECOND FORM's CARD OF 'pylonlaw07.ReadfileBytes'. -/
def readfileBytesUptoCard : Claim7 := { stood := { row := readfileBytesUptoRow, standIns := [], harness := (true, "a34902b7485554e6cf8d9b7b1b6cc897a11f8ba08a0a1822b8e31a01ae8633db"), looks := true }, kinds := [], alts := [], laidByText := true, laidKinds := [.data, .data, .data, .data, .sentinel, .sentinel, .pinned], laidTests := true, laidLooks := .later }
def ReadfileBytesUptoCardSaid : Prop := Claim7.holds Tryz.pinned (.plain (OpenSpec.upto readfileBytesSpec)) readfileBytesUptoCard

/-- THE SECOND FORM's CARD OF 'pylonlaw07.ReadfileKeeps'. -/
def readfileKeepsUptoCard : Claim7 := { stood := { row := readfileKeepsUptoRow, standIns := [], harness := (true, "a34902b7485554e6cf8d9b7b1b6cc897a11f8ba08a0a1822b8e31a01ae8633db"), looks := true }, kinds := [], alts := [], laidByText := true, laidKinds := [.data, .data, .data, .data, .sentinel, .sentinel, .pinned], laidTests := true, laidLooks := .later }
def ReadfileKeepsUptoCardSaid : Prop := Claim7.holds Tryz.pinned (.plain (OpenSpec.upto readfileKeepsSpec)) readfileKeepsUptoCard
end Rows
end Go.Proofs.YtjokedpaidmjoaaGreatDoor
