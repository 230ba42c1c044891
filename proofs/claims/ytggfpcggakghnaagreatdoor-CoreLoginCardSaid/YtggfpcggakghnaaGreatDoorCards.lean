/-
  DERIVED. GIVEN WITH THE SEED: THE CARDS: each row of YtggfpcggakghnaaGreatDoorRows.lean that lists a variable, with what it lists TIED to the program's text (the seventh form; the later family's looks); each row that meets fmt, with fmt's text TOLD by the authors' own Lean function (tested against real Go, not proved from fmt's source: count such statements apart). THE CARD IS WHAT COUNTS. Prove the row's statement (the work); the ties are given (YtggfpcggakghnaaGreatDoorTie.lean); close each card by the builder's one call (the guide's Derived/Test/ToyasCard.lean, 'card_holds'). Laid BY PROGRAM, IN A SANDBOX (cutbox-door.mjs). By AI agents, Wed Nov 11 2026. No macro, syntax, notation, axiom, sorry.
-/
import Derived.Test.YtggfpcggakghnaaGreatDoorRows
import GoSem.ClaimSeven
namespace Go.Proofs.YtggfpcggakghnaaGreatDoor
namespace Rows

/-- THE TIED CARD OF 'sidesticklaw24.CoreLogin'. -/
def coreLoginCard : Claim7 := { stood := { row := coreLoginRow, standIns := [], harness := (true, "bd46a4a31f61e91df6f43159f2201c3888fd8ecb8f12bd27f44a5f4e09863d56"), looks := true }, kinds := [], alts := [], laidByText := true, laidKinds := [.data, .data], laidTests := true, laidLooks := .later }
def CoreLoginCardSaid : Prop := Claim7.holds Tryz.pinned (.plain (OpenSpec.ofChange coreLoginSpec)) coreLoginCard

/-- THE TIED CARD OF 'sidesticklaw24.CoreHands'. -/
def coreHandsCard : Claim7 := { stood := { row := coreHandsRow, standIns := [], harness := (true, "bd46a4a31f61e91df6f43159f2201c3888fd8ecb8f12bd27f44a5f4e09863d56"), looks := true }, kinds := [], alts := [], laidByText := true, laidKinds := [.data, .data], laidTests := true, laidLooks := .later }
def CoreHandsCardSaid : Prop := Claim7.holds Tryz.pinned (.plain (OpenSpec.ofChange coreHandsSpec)) coreHandsCard

/-- THE TIED CARD OF 'sidesticklaw24.CoreRoom'. -/
def coreRoomCard : Claim7 := { stood := { row := coreRoomRow, standIns := [], harness := (true, "bd46a4a31f61e91df6f43159f2201c3888fd8ecb8f12bd27f44a5f4e09863d56"), looks := true }, kinds := [], alts := [], laidByText := true, laidKinds := [.data, .data], laidTests := true, laidLooks := .later }
def CoreRoomCardSaid : Prop := Claim7.holds Tryz.pinned (.plain (OpenSpec.ofChange coreRoomSpec)) coreRoomCard

/-- THE TIED CARD OF 'sidesticklaw24.CoreSpent'. -/
def coreSpentCard : Claim7 := { stood := { row := coreSpentRow, standIns := [], harness := (true, "bd46a4a31f61e91df6f43159f2201c3888fd8ecb8f12bd27f44a5f4e09863d56"), looks := true }, kinds := [], alts := [], laidByText := true, laidKinds := [.data, .data], laidTests := true, laidLooks := .later }
def CoreSpentCardSaid : Prop := Claim7.holds Tryz.pinned (.plain (OpenSpec.ofChange coreSpentSpec)) coreSpentCard

/-- THE TIED CARD OF 'sidesticklaw24.CoreReclaims'. -/
def coreReclaimsCard : Claim7 := { stood := { row := coreReclaimsRow, standIns := [], harness := (true, "bd46a4a31f61e91df6f43159f2201c3888fd8ecb8f12bd27f44a5f4e09863d56"), looks := true }, kinds := [], alts := [], laidByText := true, laidKinds := [.data, .data], laidTests := true, laidLooks := .later }
def CoreReclaimsCardSaid : Prop := Claim7.holds Tryz.pinned (.plain (OpenSpec.ofChange coreReclaimsSpec)) coreReclaimsCard

/-- THE TIED CARD OF 'sidesticklaw24.CoreTimes'. -/
def coreTimesCard : Claim7 := { stood := { row := coreTimesRow, standIns := [], harness := (true, "bd46a4a31f61e91df6f43159f2201c3888fd8ecb8f12bd27f44a5f4e09863d56"), looks := true }, kinds := [], alts := [], laidByText := true, laidKinds := [.data, .data], laidTests := true, laidLooks := .later }
def CoreTimesCardSaid : Prop := Claim7.holds Tryz.pinned (.plain (OpenSpec.ofChange coreTimesSpec)) coreTimesCard

/-- THE SECOND FORM's CARD OF 'sidesticklaw24.CoreLogin'. -/
def coreLoginUptoCard : Claim7 := { stood := { row := coreLoginUptoRow, standIns := [], harness := (true, "bd46a4a31f61e91df6f43159f2201c3888fd8ecb8f12bd27f44a5f4e09863d56"), looks := true }, kinds := [], alts := [], laidByText := true, laidKinds := [.data, .data], laidTests := true, laidLooks := .later }
def CoreLoginUptoCardSaid : Prop := Claim7.holds Tryz.pinned (.plain (OpenSpec.upto coreLoginSpec)) coreLoginUptoCard

/-- THE SECOND FORM's CARD OF 'sidesticklaw24.CoreHands'. -/
def coreHandsUptoCard : Claim7 := { stood := { row := coreHandsUptoRow, standIns := [], harness := (true, "bd46a4a31f61e91df6f43159f2201c3888fd8ecb8f12bd27f44a5f4e09863d56"), looks := true }, kinds := [], alts := [], laidByText := true, laidKinds := [.data, .data], laidTests := true, laidLooks := .later }
def CoreHandsUptoCardSaid : Prop := Claim7.holds Tryz.pinned (.plain (OpenSpec.upto coreHandsSpec)) coreHandsUptoCard

/-- THE SECOND FORM's CARD OF 'sidesticklaw24.CoreRoom'. -/
def coreRoomUptoCard : Claim7 := { stood := { row := coreRoomUptoRow, standIns := [], harness := (true, "bd46a4a31f61e91df6f43159f2201c3888fd8ecb8f12bd27f44a5f4e09863d56"), looks := true }, kinds := [], alts := [], laidByText := true, laidKinds := [.data, .data], laidTests := true, laidLooks := .later }
def CoreRoomUptoCardSaid : Prop := Claim7.holds Tryz.pinned (.plain (OpenSpec.upto coreRoomSpec)) coreRoomUptoCard

/-- THE SECOND FORM's CARD OF 'sidesticklaw24.CoreSpent'. -/
def coreSpentUptoCard : Claim7 := { stood := { row := coreSpentUptoRow, standIns := [], harness := (true, "bd46a4a31f61e91df6f43159f2201c3888fd8ecb8f12bd27f44a5f4e09863d56"), looks := true }, kinds := [], alts := [], laidByText := true, laidKinds := [.data, .data], laidTests := true, laidLooks := .later }
def CoreSpentUptoCardSaid : Prop := Claim7.holds Tryz.pinned (.plain (OpenSpec.upto coreSpentSpec)) coreSpentUptoCard

/-- THE SECOND FORM's CARD OF 'sidesticklaw24.CoreReclaims'. -/
def coreReclaimsUptoCard : Claim7 := { stood := { row := coreReclaimsUptoRow, standIns := [], harness := (true, "bd46a4a31f61e91df6f43159f2201c3888fd8ecb8f12bd27f44a5f4e09863d56"), looks := true }, kinds := [], alts := [], laidByText := true, laidKinds := [.data, .data], laidTests := true, laidLooks := .later }
def CoreReclaimsUptoCardSaid : Prop := Claim7.holds Tryz.pinned (.plain (OpenSpec.upto coreReclaimsSpec)) coreReclaimsUptoCard

/-- THE SECOND FORM's CARD OF 'sidesticklaw24.CoreTimes'. -/
def coreTimesUptoCard : Claim7 := { stood := { row := coreTimesUptoRow, standIns := [], harness := (true, "bd46a4a31f61e91df6f43159f2201c3888fd8ecb8f12bd27f44a5f4e09863d56"), looks := true }, kinds := [], alts := [], laidByText := true, laidKinds := [.data, .data], laidTests := true, laidLooks := .later }
def CoreTimesUptoCardSaid : Prop := Claim7.holds Tryz.pinned (.plain (OpenSpec.upto coreTimesSpec)) coreTimesUptoCard
end Rows
end Go.Proofs.YtggfpcggakghnaaGreatDoor
