/-
  DERIVED. GIVEN WITH THE SEED: THE CARDS: each row of YtgbgjbjlblcpaaaGreatDoorRows.lean that lists a variable, with what it lists TIED to the program's text (the seventh form; the later family's looks); each row that meets fmt, with fmt's text TOLD by the authors' own Lean function (tested against real Go, not proved from fmt's source: count such statements apart). THE CARD IS WHAT COUNTS. Prove the row's statement (the work); the ties are given (YtgbgjbjlblcpaaaGreatDoorTie.lean); close each card by the builder's one call (the guide's Derived/Test/ToyasCard.lean, 'card_holds'). Laid BY PROGRAM, IN A SANDBOX (cutbox-door.mjs). By AI agents, Wed Nov 11 2026. No macro, syntax, notation, axiom, sorry.
-/
import Derived.Test.YtgbgjbjlblcpaaaGreatDoorRows
import GoSem.ClaimSeven
namespace Go.Proofs.YtgbgjbjlblcpaaaGreatDoor
namespace Rows

/-- THE TIED CARD OF 'sidesticklaw24.CoreNew'. -/
def coreNewCard : Claim7 := { stood := { row := coreNewRow, standIns := [], harness := (true, "2e56ab8bab41cac5f2c1d944d7e3db666398301f7e2c6b030dee6e9ba5b7c130"), looks := true }, kinds := [], alts := [], laidByText := true, laidKinds := [.data, .data], laidTests := true, laidLooks := .later }
def CoreNewCardSaid : Prop := Claim7.holds Tryz.pinned (.plain (OpenSpec.ofChange coreNewSpec)) coreNewCard

/-- THE TIED CARD OF 'sidesticklaw24.CoreRejects'. -/
def coreRejectsCard : Claim7 := { stood := { row := coreRejectsRow, standIns := [], harness := (true, "2e56ab8bab41cac5f2c1d944d7e3db666398301f7e2c6b030dee6e9ba5b7c130"), looks := true }, kinds := [], alts := [], laidByText := true, laidKinds := [.data, .data], laidTests := true, laidLooks := .later }
def CoreRejectsCardSaid : Prop := Claim7.holds Tryz.pinned (.plain (OpenSpec.ofChange coreRejectsSpec)) coreRejectsCard

/-- THE TIED CARD OF 'sidesticklaw24.CoreHeads'. -/
def coreHeadsCard : Claim7 := { stood := { row := coreHeadsRow, standIns := [], harness := (true, "2e56ab8bab41cac5f2c1d944d7e3db666398301f7e2c6b030dee6e9ba5b7c130"), looks := true }, kinds := [], alts := [], laidByText := true, laidKinds := [.data, .data], laidTests := true, laidLooks := .later }
def CoreHeadsCardSaid : Prop := Claim7.holds Tryz.pinned (.plain (OpenSpec.ofChange coreHeadsSpec)) coreHeadsCard

/-- THE TIED CARD OF 'sidesticklaw25.MachineFixed'. -/
def machineFixedCard : Claim7 := { stood := { row := machineFixedRow, standIns := [], harness := (true, "2e56ab8bab41cac5f2c1d944d7e3db666398301f7e2c6b030dee6e9ba5b7c130"), looks := true }, kinds := [], alts := [], laidByText := true, laidKinds := [.data, .data], laidTests := true, laidLooks := .later }
def MachineFixedCardSaid : Prop := Claim7.holds Tryz.pinned (.plain (OpenSpec.ofChange machineFixedSpec)) machineFixedCard

/-- THE SECOND FORM's CARD OF 'sidesticklaw24.CoreNew'. -/
def coreNewUptoCard : Claim7 := { stood := { row := coreNewUptoRow, standIns := [], harness := (true, "2e56ab8bab41cac5f2c1d944d7e3db666398301f7e2c6b030dee6e9ba5b7c130"), looks := true }, kinds := [], alts := [], laidByText := true, laidKinds := [.data, .data], laidTests := true, laidLooks := .later }
def CoreNewUptoCardSaid : Prop := Claim7.holds Tryz.pinned (.plain (OpenSpec.upto coreNewSpec)) coreNewUptoCard

/-- THE SECOND FORM's CARD OF 'sidesticklaw24.CoreRejects'. -/
def coreRejectsUptoCard : Claim7 := { stood := { row := coreRejectsUptoRow, standIns := [], harness := (true, "2e56ab8bab41cac5f2c1d944d7e3db666398301f7e2c6b030dee6e9ba5b7c130"), looks := true }, kinds := [], alts := [], laidByText := true, laidKinds := [.data, .data], laidTests := true, laidLooks := .later }
def CoreRejectsUptoCardSaid : Prop := Claim7.holds Tryz.pinned (.plain (OpenSpec.upto coreRejectsSpec)) coreRejectsUptoCard

/-- THE SECOND FORM's CARD OF 'sidesticklaw24.CoreHeads'. -/
def coreHeadsUptoCard : Claim7 := { stood := { row := coreHeadsUptoRow, standIns := [], harness := (true, "2e56ab8bab41cac5f2c1d944d7e3db666398301f7e2c6b030dee6e9ba5b7c130"), looks := true }, kinds := [], alts := [], laidByText := true, laidKinds := [.data, .data], laidTests := true, laidLooks := .later }
def CoreHeadsUptoCardSaid : Prop := Claim7.holds Tryz.pinned (.plain (OpenSpec.upto coreHeadsSpec)) coreHeadsUptoCard

/-- THE SECOND FORM's CARD OF 'sidesticklaw25.MachineFixed'. -/
def machineFixedUptoCard : Claim7 := { stood := { row := machineFixedUptoRow, standIns := [], harness := (true, "2e56ab8bab41cac5f2c1d944d7e3db666398301f7e2c6b030dee6e9ba5b7c130"), looks := true }, kinds := [], alts := [], laidByText := true, laidKinds := [.data, .data], laidTests := true, laidLooks := .later }
def MachineFixedUptoCardSaid : Prop := Claim7.holds Tryz.pinned (.plain (OpenSpec.upto machineFixedSpec)) machineFixedUptoCard
end Rows
end Go.Proofs.YtgbgjbjlblcpaaaGreatDoor
