/-
  DERIVED. GIVEN WITH THE SEED: THE CARDS: each row of YtddcipamdggcnaaGreatDoorRows.lean that lists a variable, with what it lists TIED to the program's text (the seventh form; the later family's looks); each row that meets fmt, with fmt's text TOLD by the authors' own Lean function (tested against real Go, not proved from fmt's source: count such statements apart). THE CARD IS WHAT COUNTS. Prove the row's statement (the work); the ties are given (YtddcipamdggcnaaGreatDoorTie.lean); close each card by the builder's one call (the guide's Derived/Test/ToyasCard.lean, 'card_holds'). Laid BY PROGRAM, IN A SANDBOX (cutbox-door.mjs). By AI agents, Wed Nov 11 2026. No macro, syntax, notation, axiom, sorry.
-/
import Derived.Test.YtddcipamdggcnaaGreatDoorRows
import GoSem.ClaimSeven
namespace Go.Proofs.YtddcipamdggcnaaGreatDoor
namespace Rows

/-- THE TIED CARD OF 'sidesticklaw25.MachineNothing'. -/
def machineNothingCard : Claim7 := { stood := { row := machineNothingRow, standIns := [], harness := (true, "437338531fcda39438d45239fe2f7f102f4680b7899df2c531aa6dafef4dbe21"), looks := true }, kinds := [], alts := [], laidByText := true, laidKinds := [.data, .data], laidTests := true, laidLooks := .later }
def MachineNothingCardSaid : Prop := Claim7.holds Tryz.pinned (.plain (OpenSpec.ofChange machineNothingSpec)) machineNothingCard

/-- THE TIED CARD OF 'sidesticklaw25.MachineAgain'. -/
def machineAgainCard : Claim7 := { stood := { row := machineAgainRow, standIns := [], harness := (true, "437338531fcda39438d45239fe2f7f102f4680b7899df2c531aa6dafef4dbe21"), looks := true }, kinds := [], alts := [], laidByText := true, laidKinds := [.data, .data], laidTests := true, laidLooks := .later }
def MachineAgainCardSaid : Prop := Claim7.holds Tryz.pinned (.plain (OpenSpec.ofChange machineAgainSpec)) machineAgainCard

/-- THE TIED CARD OF 'sidesticklaw26.RunSteps'. -/
def runStepsCard : Claim7 := { stood := { row := runStepsRow, standIns := [], harness := (true, "437338531fcda39438d45239fe2f7f102f4680b7899df2c531aa6dafef4dbe21"), looks := true }, kinds := [], alts := [], laidByText := true, laidKinds := [.data, .data], laidTests := true, laidLooks := .later }
def RunStepsCardSaid : Prop := Claim7.holds Tryz.pinned (.plain (OpenSpec.ofChange runStepsSpec)) runStepsCard

/-- THE TIED CARD OF 'sidesticklaw26.RunTrail'. -/
def runTrailCard : Claim7 := { stood := { row := runTrailRow, standIns := [], harness := (true, "437338531fcda39438d45239fe2f7f102f4680b7899df2c531aa6dafef4dbe21"), looks := true }, kinds := [], alts := [], laidByText := true, laidKinds := [.data, .data], laidTests := true, laidLooks := .later }
def RunTrailCardSaid : Prop := Claim7.holds Tryz.pinned (.plain (OpenSpec.ofChange runTrailSpec)) runTrailCard

/-- THE TIED CARD OF 'sidesticktop.TopHolders'. -/
def topHoldersCard : Claim7 := { stood := { row := topHoldersRow, standIns := [], harness := (true, "437338531fcda39438d45239fe2f7f102f4680b7899df2c531aa6dafef4dbe21"), looks := true }, kinds := [], alts := [], laidByText := true, laidKinds := [.data, .data], laidTests := true, laidLooks := .later }
def TopHoldersCardSaid : Prop := Claim7.holds Tryz.pinned (.plain (OpenSpec.ofChange topHoldersSpec)) topHoldersCard

/-- THE TIED CARD OF 'sidesticktop.TopTrail'. -/
def topTrailCard : Claim7 := { stood := { row := topTrailRow, standIns := [], harness := (true, "437338531fcda39438d45239fe2f7f102f4680b7899df2c531aa6dafef4dbe21"), looks := true }, kinds := [], alts := [], laidByText := true, laidKinds := [.data, .data], laidTests := true, laidLooks := .later }
def TopTrailCardSaid : Prop := Claim7.holds Tryz.pinned (.plain (OpenSpec.ofChange topTrailSpec)) topTrailCard

/-- THE SECOND FORM's CARD OF 'sidesticklaw25.MachineNothing'. -/
def machineNothingUptoCard : Claim7 := { stood := { row := machineNothingUptoRow, standIns := [], harness := (true, "437338531fcda39438d45239fe2f7f102f4680b7899df2c531aa6dafef4dbe21"), looks := true }, kinds := [], alts := [], laidByText := true, laidKinds := [.data, .data], laidTests := true, laidLooks := .later }
def MachineNothingUptoCardSaid : Prop := Claim7.holds Tryz.pinned (.plain (OpenSpec.upto machineNothingSpec)) machineNothingUptoCard

/-- THE SECOND FORM's CARD OF 'sidesticklaw25.MachineAgain'. -/
def machineAgainUptoCard : Claim7 := { stood := { row := machineAgainUptoRow, standIns := [], harness := (true, "437338531fcda39438d45239fe2f7f102f4680b7899df2c531aa6dafef4dbe21"), looks := true }, kinds := [], alts := [], laidByText := true, laidKinds := [.data, .data], laidTests := true, laidLooks := .later }
def MachineAgainUptoCardSaid : Prop := Claim7.holds Tryz.pinned (.plain (OpenSpec.upto machineAgainSpec)) machineAgainUptoCard

/-- THE SECOND FORM's CARD OF 'sidesticklaw26.RunSteps'. -/
def runStepsUptoCard : Claim7 := { stood := { row := runStepsUptoRow, standIns := [], harness := (true, "437338531fcda39438d45239fe2f7f102f4680b7899df2c531aa6dafef4dbe21"), looks := true }, kinds := [], alts := [], laidByText := true, laidKinds := [.data, .data], laidTests := true, laidLooks := .later }
def RunStepsUptoCardSaid : Prop := Claim7.holds Tryz.pinned (.plain (OpenSpec.upto runStepsSpec)) runStepsUptoCard

/-- THE SECOND FORM's CARD OF 'sidesticklaw26.RunTrail'. -/
def runTrailUptoCard : Claim7 := { stood := { row := runTrailUptoRow, standIns := [], harness := (true, "437338531fcda39438d45239fe2f7f102f4680b7899df2c531aa6dafef4dbe21"), looks := true }, kinds := [], alts := [], laidByText := true, laidKinds := [.data, .data], laidTests := true, laidLooks := .later }
def RunTrailUptoCardSaid : Prop := Claim7.holds Tryz.pinned (.plain (OpenSpec.upto runTrailSpec)) runTrailUptoCard

/-- THE SECOND FORM's CARD OF 'sidesticktop.TopHolders'. -/
def topHoldersUptoCard : Claim7 := { stood := { row := topHoldersUptoRow, standIns := [], harness := (true, "437338531fcda39438d45239fe2f7f102f4680b7899df2c531aa6dafef4dbe21"), looks := true }, kinds := [], alts := [], laidByText := true, laidKinds := [.data, .data], laidTests := true, laidLooks := .later }
def TopHoldersUptoCardSaid : Prop := Claim7.holds Tryz.pinned (.plain (OpenSpec.upto topHoldersSpec)) topHoldersUptoCard

/-- THE SECOND FORM's CARD OF 'sidesticktop.TopTrail'. -/
def topTrailUptoCard : Claim7 := { stood := { row := topTrailUptoRow, standIns := [], harness := (true, "437338531fcda39438d45239fe2f7f102f4680b7899df2c531aa6dafef4dbe21"), looks := true }, kinds := [], alts := [], laidByText := true, laidKinds := [.data, .data], laidTests := true, laidLooks := .later }
def TopTrailUptoCardSaid : Prop := Claim7.holds Tryz.pinned (.plain (OpenSpec.upto topTrailSpec)) topTrailUptoCard
end Rows
end Go.Proofs.YtddcipamdggcnaaGreatDoor
