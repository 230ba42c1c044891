/-
  DERIVED. GIVEN WITH THE SEED: THE CARDS: each row of YtlkpikfddnjilaaGreatDoorRows.lean that lists a variable, with what it lists TIED to the program's text (the seventh form; the later family's looks); each row that meets fmt, with fmt's text TOLD by the authors' own Lean function (tested against real Go, not proved from fmt's source: count such statements apart). THE CARD IS WHAT COUNTS. Prove the row's statement (the work); the ties are given (YtlkpikfddnjilaaGreatDoorTie.lean); close each card by the builder's one call (the guide's Derived/Test/ToyasCard.lean, 'card_holds'). Laid BY PROGRAM, IN A SANDBOX (cutbox-door.mjs). By AI agents, Wed Nov 11 2026. No macro, syntax, notation, axiom, sorry.
-/
import Derived.Test.YtlkpikfddnjilaaGreatDoorRows
import GoSem.ClaimSeven
namespace Go.Proofs.YtlkpikfddnjilaaGreatDoor
namespace Rows

/-- THE TIED CARD OF 'sidesticklaw24.CoreHolders'. -/
def coreHoldersCard : Claim7 := { stood := { row := coreHoldersRow, standIns := [], harness := (true, "d8129c0519fcf6b6ce0f92d92d273c8996b4f7bcd391feff44aa4afc6a0af547"), looks := true }, kinds := [], alts := [], laidByText := true, laidKinds := [.data, .data], laidTests := true, laidLooks := .later }
def CoreHoldersCardSaid : Prop := Claim7.holds Tryz.pinned (.plain (OpenSpec.ofChange coreHoldersSpec)) coreHoldersCard

/-- THE TIED CARD OF 'sidesticklaw24.CoreLost'. -/
def coreLostCard : Claim7 := { stood := { row := coreLostRow, standIns := [], harness := (true, "d8129c0519fcf6b6ce0f92d92d273c8996b4f7bcd391feff44aa4afc6a0af547"), looks := true }, kinds := [], alts := [], laidByText := true, laidKinds := [.data, .data], laidTests := true, laidLooks := .later }
def CoreLostCardSaid : Prop := Claim7.holds Tryz.pinned (.plain (OpenSpec.ofChange coreLostSpec)) coreLostCard

/-- THE TIED CARD OF 'sidesticklaw24.CoreRejects'. -/
def coreRejectsCard : Claim7 := { stood := { row := coreRejectsRow, standIns := [], harness := (true, "d8129c0519fcf6b6ce0f92d92d273c8996b4f7bcd391feff44aa4afc6a0af547"), looks := true }, kinds := [], alts := [], laidByText := true, laidKinds := [.data, .data], laidTests := true, laidLooks := .later }
def CoreRejectsCardSaid : Prop := Claim7.holds Tryz.pinned (.plain (OpenSpec.ofChange coreRejectsSpec)) coreRejectsCard

/-- THE TIED CARD OF 'sidesticklaw24.CoreHeads'. -/
def coreHeadsCard : Claim7 := { stood := { row := coreHeadsRow, standIns := [], harness := (true, "d8129c0519fcf6b6ce0f92d92d273c8996b4f7bcd391feff44aa4afc6a0af547"), looks := true }, kinds := [], alts := [], laidByText := true, laidKinds := [.data, .data], laidTests := true, laidLooks := .later }
def CoreHeadsCardSaid : Prop := Claim7.holds Tryz.pinned (.plain (OpenSpec.ofChange coreHeadsSpec)) coreHeadsCard

/-- THE TIED CARD OF 'sidesticklaw24.CoreAnswers'. -/
def coreAnswersCard : Claim7 := { stood := { row := coreAnswersRow, standIns := [], harness := (true, "d8129c0519fcf6b6ce0f92d92d273c8996b4f7bcd391feff44aa4afc6a0af547"), looks := true }, kinds := [], alts := [], laidByText := true, laidKinds := [.data, .data], laidTests := true, laidLooks := .later }
def CoreAnswersCardSaid : Prop := Claim7.holds Tryz.pinned (.plain (OpenSpec.ofChange coreAnswersSpec)) coreAnswersCard

/-- THE SECOND FORM's CARD OF 'sidesticklaw24.CoreHolders'. -/
def coreHoldersUptoCard : Claim7 := { stood := { row := coreHoldersUptoRow, standIns := [], harness := (true, "d8129c0519fcf6b6ce0f92d92d273c8996b4f7bcd391feff44aa4afc6a0af547"), looks := true }, kinds := [], alts := [], laidByText := true, laidKinds := [.data, .data], laidTests := true, laidLooks := .later }
def CoreHoldersUptoCardSaid : Prop := Claim7.holds Tryz.pinned (.plain (OpenSpec.upto coreHoldersSpec)) coreHoldersUptoCard

/-- THE SECOND FORM's CARD OF 'sidesticklaw24.CoreLost'. -/
def coreLostUptoCard : Claim7 := { stood := { row := coreLostUptoRow, standIns := [], harness := (true, "d8129c0519fcf6b6ce0f92d92d273c8996b4f7bcd391feff44aa4afc6a0af547"), looks := true }, kinds := [], alts := [], laidByText := true, laidKinds := [.data, .data], laidTests := true, laidLooks := .later }
def CoreLostUptoCardSaid : Prop := Claim7.holds Tryz.pinned (.plain (OpenSpec.upto coreLostSpec)) coreLostUptoCard

/-- THE SECOND FORM's CARD OF 'sidesticklaw24.CoreRejects'. -/
def coreRejectsUptoCard : Claim7 := { stood := { row := coreRejectsUptoRow, standIns := [], harness := (true, "d8129c0519fcf6b6ce0f92d92d273c8996b4f7bcd391feff44aa4afc6a0af547"), looks := true }, kinds := [], alts := [], laidByText := true, laidKinds := [.data, .data], laidTests := true, laidLooks := .later }
def CoreRejectsUptoCardSaid : Prop := Claim7.holds Tryz.pinned (.plain (OpenSpec.upto coreRejectsSpec)) coreRejectsUptoCard

/-- THE SECOND FORM's CARD OF 'sidesticklaw24.CoreHeads'. -/
def coreHeadsUptoCard : Claim7 := { stood := { row := coreHeadsUptoRow, standIns := [], harness := (true, "d8129c0519fcf6b6ce0f92d92d273c8996b4f7bcd391feff44aa4afc6a0af547"), looks := true }, kinds := [], alts := [], laidByText := true, laidKinds := [.data, .data], laidTests := true, laidLooks := .later }
def CoreHeadsUptoCardSaid : Prop := Claim7.holds Tryz.pinned (.plain (OpenSpec.upto coreHeadsSpec)) coreHeadsUptoCard

/-- THE SECOND FORM's CARD OF 'sidesticklaw24.CoreAnswers'. -/
def coreAnswersUptoCard : Claim7 := { stood := { row := coreAnswersUptoRow, standIns := [], harness := (true, "d8129c0519fcf6b6ce0f92d92d273c8996b4f7bcd391feff44aa4afc6a0af547"), looks := true }, kinds := [], alts := [], laidByText := true, laidKinds := [.data, .data], laidTests := true, laidLooks := .later }
def CoreAnswersUptoCardSaid : Prop := Claim7.holds Tryz.pinned (.plain (OpenSpec.upto coreAnswersSpec)) coreAnswersUptoCard
end Rows
end Go.Proofs.YtlkpikfddnjilaaGreatDoor
