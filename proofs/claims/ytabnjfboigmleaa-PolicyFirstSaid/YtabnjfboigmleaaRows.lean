/-
  No cell of these rows narrows 'for every input' (looked for: loops, veiled, ifaces, maps, wideKeys, modest, calm, conditions, laid).
  DERIVED. THE GIVEN ROWS OF THIS SEAT. 13 by the template 'for every input the law returns true; each argument reads behind the call as it read before'; 0 by the template 'total and deterministic' (their statements: YtabnjfboigmleaaTotals.lean).
  GIVEN WITH THE SEED: the statements are not yours to turn. If you find one false, say at which input.
  Laid BY PROGRAM, IN A SANDBOX (cutbox-rows.mjs): the forced cells as the released guide's own fill.sh prints them over the translation e6388496700c0474… (all of the seat's roots in one cut). By AI agents, Wed Nov 11 2026. No macro, syntax, notation, axiom, sorry.
-/
import Derived.Test.YtabnjfboigmleaaChecked
import GoSem.Claim
import GoSem.ClaimJoined
import GoSem.ClaimMapViews
import Derived.JoinedTies
import Derived.KernelRfl
namespace Go.Proofs.Ytabnjfboigmleaa
/- THE CELL 'sum', in the pinned program and in every row, IS THE sha256 OF THE DUMP (.gsa) THAT YtabnjfboigmleaaProg.lean LOADS. Nothing in Lean hashes anything: it is a label: what it is worth is what the hold of that sum in a sandbox is worth. -/
noncomputable def Try.pinned : Pinned := { name := "ytabnjfboigmleaa", sum := "e6388496700c047463744677f5c61833070cfdd9abf84dc2612fa1278c845573", checked := Try.checked }
namespace Rows
def none {H : Type} : Left H := { results := [], args := [] }

/-- 'sidesticklaw11.TickEnds': WHATEVER THE INPUT: true; the input reads as it did. -/
def tickEndsSpec : ChangeSpec := { name := "tickEnds", fn := fun _ => fun
  | [d] => { results := [.lit (.bool true)], args := [d] }
  | _ => none }
def tickEndsRow : OpenClaim := { program := "ytabnjfboigmleaa", sum := "e6388496700c047463744677f5c61833070cfdd9abf84dc2612fa1278c845573", func := "sidestick/sidesticklaw11.TickEnds", spec := "tickEnds", apart := false }
def TickEndsSaid : Prop := tickEndsRow.holds Try.pinned (OpenSpec.ofChange tickEndsSpec)

/-- ITS FALSE NEIGHBOUR: 'it returns false'. Refute it at one input. -/
def tickEndsWrong : ChangeSpec := { name := "tickEnds", fn := fun _ => fun
  | [d] => { results := [.lit (.bool false)], args := [d] }
  | _ => none }
def TickEndsWrongFalsely : Prop := tickEndsRow.holds Try.pinned (OpenSpec.ofChange tickEndsWrong)

/-- 'sidesticklaw11.TickKeeps': WHATEVER THE INPUT: true; the input reads as it did. -/
def tickKeepsSpec : ChangeSpec := { name := "tickKeeps", fn := fun _ => fun
  | [d] => { results := [.lit (.bool true)], args := [d] }
  | _ => none }
def tickKeepsRow : OpenClaim := { program := "ytabnjfboigmleaa", sum := "e6388496700c047463744677f5c61833070cfdd9abf84dc2612fa1278c845573", func := "sidestick/sidesticklaw11.TickKeeps", spec := "tickKeeps", apart := false }
def TickKeepsSaid : Prop := tickKeepsRow.holds Try.pinned (OpenSpec.ofChange tickKeepsSpec)

/-- ITS FALSE NEIGHBOUR: 'it returns false'. Refute it at one input. -/
def tickKeepsWrong : ChangeSpec := { name := "tickKeeps", fn := fun _ => fun
  | [d] => { results := [.lit (.bool false)], args := [d] }
  | _ => none }
def TickKeepsWrongFalsely : Prop := tickKeepsRow.holds Try.pinned (OpenSpec.ofChange tickKeepsWrong)

/-- 'sidesticklaw17.StickRuns': WHATEVER THE INPUT: true; the input reads as it did. -/
def stickRunsSpec : ChangeSpec := { name := "stickRuns", fn := fun _ => fun
  | [d1, d2, d3] => { results := [.lit (.bool true)], args := [d1, d2, d3] }
  | _ => none }
def stickRunsRow : OpenClaim := { program := "ytabnjfboigmleaa", sum := "e6388496700c047463744677f5c61833070cfdd9abf84dc2612fa1278c845573", func := "sidestick/sidesticklaw17.StickRuns", spec := "stickRuns", apart := false }
def StickRunsSaid : Prop := stickRunsRow.holds Try.pinned (OpenSpec.ofChange stickRunsSpec)

/-- ITS FALSE NEIGHBOUR: 'it returns false'. Refute it at one input. -/
def stickRunsWrong : ChangeSpec := { name := "stickRuns", fn := fun _ => fun
  | [d1, d2, d3] => { results := [.lit (.bool false)], args := [d1, d2, d3] }
  | _ => none }
def StickRunsWrongFalsely : Prop := stickRunsRow.holds Try.pinned (OpenSpec.ofChange stickRunsWrong)

/-- 'sidesticklaw17.StickSides': WHATEVER THE INPUT: true; the input reads as it did. -/
def stickSidesSpec : ChangeSpec := { name := "stickSides", fn := fun _ => fun
  | [d1, d2, d3] => { results := [.lit (.bool true)], args := [d1, d2, d3] }
  | _ => none }
def stickSidesRow : OpenClaim := { program := "ytabnjfboigmleaa", sum := "e6388496700c047463744677f5c61833070cfdd9abf84dc2612fa1278c845573", func := "sidestick/sidesticklaw17.StickSides", spec := "stickSides", apart := false }
def StickSidesSaid : Prop := stickSidesRow.holds Try.pinned (OpenSpec.ofChange stickSidesSpec)

/-- ITS FALSE NEIGHBOUR: 'it returns false'. Refute it at one input. -/
def stickSidesWrong : ChangeSpec := { name := "stickSides", fn := fun _ => fun
  | [d1, d2, d3] => { results := [.lit (.bool false)], args := [d1, d2, d3] }
  | _ => none }
def StickSidesWrongFalsely : Prop := stickSidesRow.holds Try.pinned (OpenSpec.ofChange stickSidesWrong)

/-- 'sidesticklaw17.StickRests': WHATEVER THE INPUT: true; the input reads as it did. -/
def stickRestsSpec : ChangeSpec := { name := "stickRests", fn := fun _ => fun
  | [d1, d2, d3] => { results := [.lit (.bool true)], args := [d1, d2, d3] }
  | _ => none }
def stickRestsRow : OpenClaim := { program := "ytabnjfboigmleaa", sum := "e6388496700c047463744677f5c61833070cfdd9abf84dc2612fa1278c845573", func := "sidestick/sidesticklaw17.StickRests", spec := "stickRests", apart := false }
def StickRestsSaid : Prop := stickRestsRow.holds Try.pinned (OpenSpec.ofChange stickRestsSpec)

/-- ITS FALSE NEIGHBOUR: 'it returns false'. Refute it at one input. -/
def stickRestsWrong : ChangeSpec := { name := "stickRests", fn := fun _ => fun
  | [d1, d2, d3] => { results := [.lit (.bool false)], args := [d1, d2, d3] }
  | _ => none }
def StickRestsWrongFalsely : Prop := stickRestsRow.holds Try.pinned (OpenSpec.ofChange stickRestsWrong)

/-- 'sidesticklaw18.TokenKeeps': WHATEVER THE INPUT: true; the input reads as it did. -/
def tokenKeepsSpec : ChangeSpec := { name := "tokenKeeps", fn := fun _ => fun
  | [d1, d2] => { results := [.lit (.bool true)], args := [d1, d2] }
  | _ => none }
def tokenKeepsRow : OpenClaim := { program := "ytabnjfboigmleaa", sum := "e6388496700c047463744677f5c61833070cfdd9abf84dc2612fa1278c845573", func := "sidestick/sidesticklaw18.TokenKeeps", spec := "tokenKeeps", unfollowed := true, recurses := true, apart := false }
def TokenKeepsSaid : Prop := tokenKeepsRow.holds Try.pinned (OpenSpec.ofChange tokenKeepsSpec)

/-- ITS FALSE NEIGHBOUR: 'it returns false'. Refute it at one input. -/
def tokenKeepsWrong : ChangeSpec := { name := "tokenKeeps", fn := fun _ => fun
  | [d1, d2] => { results := [.lit (.bool false)], args := [d1, d2] }
  | _ => none }
def TokenKeepsWrongFalsely : Prop := tokenKeepsRow.holds Try.pinned (OpenSpec.ofChange tokenKeepsWrong)

/-- 'sidesticklaw18.TokenSeizes': WHATEVER THE INPUT: true; the input reads as it did. -/
def tokenSeizesSpec : ChangeSpec := { name := "tokenSeizes", fn := fun _ => fun
  | [d1, d2, d3] => { results := [.lit (.bool true)], args := [d1, d2, d3] }
  | _ => none }
def tokenSeizesRow : OpenClaim := { program := "ytabnjfboigmleaa", sum := "e6388496700c047463744677f5c61833070cfdd9abf84dc2612fa1278c845573", func := "sidestick/sidesticklaw18.TokenSeizes", spec := "tokenSeizes", unfollowed := true, recurses := true, apart := false }
def TokenSeizesSaid : Prop := tokenSeizesRow.holds Try.pinned (OpenSpec.ofChange tokenSeizesSpec)

/-- ITS FALSE NEIGHBOUR: 'it returns false'. Refute it at one input. -/
def tokenSeizesWrong : ChangeSpec := { name := "tokenSeizes", fn := fun _ => fun
  | [d1, d2, d3] => { results := [.lit (.bool false)], args := [d1, d2, d3] }
  | _ => none }
def TokenSeizesWrongFalsely : Prop := tokenSeizesRow.holds Try.pinned (OpenSpec.ofChange tokenSeizesWrong)

/-- 'sidesticklaw19.OfferErrors': WHATEVER THE INPUT: true; the input reads as it did. -/
def offerErrorsSpec : ChangeSpec := { name := "offerErrors", fn := fun _ => fun
  | [d1, d2] => { results := [.lit (.bool true)], args := [d1, d2] }
  | _ => none }
def offerErrorsRow : OpenClaim := { program := "ytabnjfboigmleaa", sum := "e6388496700c047463744677f5c61833070cfdd9abf84dc2612fa1278c845573", func := "sidestick/sidesticklaw19.OfferErrors", spec := "offerErrors", unfollowed := true, recurses := true, apart := false }
def OfferErrorsSaid : Prop := offerErrorsRow.holds Try.pinned (OpenSpec.ofChange offerErrorsSpec)

/-- ITS FALSE NEIGHBOUR: 'it returns false'. Refute it at one input. -/
def offerErrorsWrong : ChangeSpec := { name := "offerErrors", fn := fun _ => fun
  | [d1, d2] => { results := [.lit (.bool false)], args := [d1, d2] }
  | _ => none }
def OfferErrorsWrongFalsely : Prop := offerErrorsRow.holds Try.pinned (OpenSpec.ofChange offerErrorsWrong)

/-- 'sidesticklaw12.PolicyAll': WHATEVER THE INPUT: true; the input reads as it did. -/
def policyAllSpec : ChangeSpec := { name := "policyAll", fn := fun _ => fun
  | [d] => { results := [.lit (.bool true)], args := [d] }
  | _ => none }
def policyAllRow : OpenClaim := { program := "ytabnjfboigmleaa", sum := "e6388496700c047463744677f5c61833070cfdd9abf84dc2612fa1278c845573", func := "sidestick/sidesticklaw12.PolicyAll", spec := "policyAll", unfollowed := true, recurses := true, apart := false }
def PolicyAllSaid : Prop := policyAllRow.holds Try.pinned (OpenSpec.ofChange policyAllSpec)

/-- ITS FALSE NEIGHBOUR: 'it returns false'. Refute it at one input. -/
def policyAllWrong : ChangeSpec := { name := "policyAll", fn := fun _ => fun
  | [d] => { results := [.lit (.bool false)], args := [d] }
  | _ => none }
def PolicyAllWrongFalsely : Prop := policyAllRow.holds Try.pinned (OpenSpec.ofChange policyAllWrong)

/-- 'sidesticklaw12.PolicyFirst': WHATEVER THE INPUT: true; the input reads as it did. -/
def policyFirstSpec : ChangeSpec := { name := "policyFirst", fn := fun _ => fun
  | [d1, d2, d3] => { results := [.lit (.bool true)], args := [d1, d2, d3] }
  | _ => none }
def policyFirstRow : OpenClaim := { program := "ytabnjfboigmleaa", sum := "e6388496700c047463744677f5c61833070cfdd9abf84dc2612fa1278c845573", func := "sidestick/sidesticklaw12.PolicyFirst", spec := "policyFirst", unfollowed := true, recurses := true, apart := false }
def PolicyFirstSaid : Prop := policyFirstRow.holds Try.pinned (OpenSpec.ofChange policyFirstSpec)

/-- ITS FALSE NEIGHBOUR: 'it returns false'. Refute it at one input. -/
def policyFirstWrong : ChangeSpec := { name := "policyFirst", fn := fun _ => fun
  | [d1, d2, d3] => { results := [.lit (.bool false)], args := [d1, d2, d3] }
  | _ => none }
def PolicyFirstWrongFalsely : Prop := policyFirstRow.holds Try.pinned (OpenSpec.ofChange policyFirstWrong)

/-- 'sidesticklaw12.PolicyBounds': WHATEVER THE INPUT: true; the input reads as it did. -/
def policyBoundsSpec : ChangeSpec := { name := "policyBounds", fn := fun _ => fun
  | [d1, d2] => { results := [.lit (.bool true)], args := [d1, d2] }
  | _ => none }
def policyBoundsRow : OpenClaim := { program := "ytabnjfboigmleaa", sum := "e6388496700c047463744677f5c61833070cfdd9abf84dc2612fa1278c845573", func := "sidestick/sidesticklaw12.PolicyBounds", spec := "policyBounds", unfollowed := true, recurses := true, apart := false }
def PolicyBoundsSaid : Prop := policyBoundsRow.holds Try.pinned (OpenSpec.ofChange policyBoundsSpec)

/-- ITS FALSE NEIGHBOUR: 'it returns false'. Refute it at one input. -/
def policyBoundsWrong : ChangeSpec := { name := "policyBounds", fn := fun _ => fun
  | [d1, d2] => { results := [.lit (.bool false)], args := [d1, d2] }
  | _ => none }
def PolicyBoundsWrongFalsely : Prop := policyBoundsRow.holds Try.pinned (OpenSpec.ofChange policyBoundsWrong)

/-- 'sidesticklaw12.PolicyKeys': WHATEVER THE INPUT: true; the input reads as it did. -/
def policyKeysSpec : ChangeSpec := { name := "policyKeys", fn := fun _ => fun
  | [d1, d2, d3] => { results := [.lit (.bool true)], args := [d1, d2, d3] }
  | _ => none }
def policyKeysRow : OpenClaim := { program := "ytabnjfboigmleaa", sum := "e6388496700c047463744677f5c61833070cfdd9abf84dc2612fa1278c845573", func := "sidestick/sidesticklaw12.PolicyKeys", spec := "policyKeys", unfollowed := true, recurses := true, apart := false }
def PolicyKeysSaid : Prop := policyKeysRow.holds Try.pinned (OpenSpec.ofChange policyKeysSpec)

/-- ITS FALSE NEIGHBOUR: 'it returns false'. Refute it at one input. -/
def policyKeysWrong : ChangeSpec := { name := "policyKeys", fn := fun _ => fun
  | [d1, d2, d3] => { results := [.lit (.bool false)], args := [d1, d2, d3] }
  | _ => none }
def PolicyKeysWrongFalsely : Prop := policyKeysRow.holds Try.pinned (OpenSpec.ofChange policyKeysWrong)

/-- 'sidesticklaw12.PolicyOrders': WHATEVER THE INPUT: true; the input reads as it did. -/
def policyOrdersSpec : ChangeSpec := { name := "policyOrders", fn := fun _ => fun
  | [d1, d2] => { results := [.lit (.bool true)], args := [d1, d2] }
  | _ => none }
def policyOrdersRow : OpenClaim := { program := "ytabnjfboigmleaa", sum := "e6388496700c047463744677f5c61833070cfdd9abf84dc2612fa1278c845573", func := "sidestick/sidesticklaw12.PolicyOrders", spec := "policyOrders", unfollowed := true, recurses := true, apart := false }
def PolicyOrdersSaid : Prop := policyOrdersRow.holds Try.pinned (OpenSpec.ofChange policyOrdersSpec)

/-- ITS FALSE NEIGHBOUR: 'it returns false'. Refute it at one input. -/
def policyOrdersWrong : ChangeSpec := { name := "policyOrders", fn := fun _ => fun
  | [d1, d2] => { results := [.lit (.bool false)], args := [d1, d2] }
  | _ => none }
def PolicyOrdersWrongFalsely : Prop := policyOrdersRow.holds Try.pinned (OpenSpec.ofChange policyOrdersWrong)

/- THE SECOND FORM. 'bulk': how many values and letters a reading holds, each counted each time it is reached (what is shared counts as often as it is met; a slice's spare places count too). A statement '..UptoSaid' is the law's where the arguments, and the package variables that the reading takes, are together of bulk at most 1048576: NARROWER than '..Said'. Prove '..Said' where nothing that the law and all that it calls make is longer than what came in: it says more and counts as full. Else prove '..UptoSaid'. A law counts once. -/
mutual
def uptoBulk {H : Type} : DataW H → Nat
  | .lit (.string bytes) => bytes.length + 1
  | .lit _ => 1
  | .nil => 1
  | .ptr d => uptoBulk d + 1
  | .slice elems spare => uptoBulkAll elems + uptoBulkAll spare + 1
  | .agg parts => uptoBulkAll parts + 1
  | .iface _ d => uptoBulk d + 1
  | .map entries => uptoBulkEntries entries + 1
  | .held _ => 1
def uptoBulkAll {H : Type} : List (DataW H) → Nat
  | [] => 0
  | d :: r => uptoBulk d + uptoBulkAll r
def uptoBulkEntries {H : Type} : List (Lit × DataW H) → Nat
  | [] => 0
  | x :: r => uptoBulkEntry x + uptoBulkEntries r
def uptoBulkEntry {H : Type} : Lit × DataW H → Nat
  | (.string bytes, d) => bytes.length + uptoBulk d + 1
  | (_, d) => uptoBulk d + 1
 end
def uptoSmall : (H : Type) → List (DataW H) → Bool := fun _ ds => decide (uptoBulkAll ds ≤ 1048576)
def OpenSpec.upto (s : _root_.Go.ChangeSpec) : _root_.Go.OpenSpec := { _root_.Go.OpenSpec.ofChange s with cond := some uptoSmall }

/-- 'sidesticklaw11.TickEnds', WHERE WHAT IT READS IS OF BULK AT MOST 1048576: true; the input reads as it did. -/
def tickEndsUptoRow : OpenClaim := { program := "ytabnjfboigmleaa", sum := "e6388496700c047463744677f5c61833070cfdd9abf84dc2612fa1278c845573", func := "sidestick/sidesticklaw11.TickEnds", spec := "tickEnds", apart := false, narrowed := true }
def TickEndsUptoSaid : Prop := tickEndsUptoRow.holds Try.pinned (OpenSpec.upto tickEndsSpec)

/-- 'sidesticklaw11.TickKeeps', WHERE WHAT IT READS IS OF BULK AT MOST 1048576: true; the input reads as it did. -/
def tickKeepsUptoRow : OpenClaim := { program := "ytabnjfboigmleaa", sum := "e6388496700c047463744677f5c61833070cfdd9abf84dc2612fa1278c845573", func := "sidestick/sidesticklaw11.TickKeeps", spec := "tickKeeps", apart := false, narrowed := true }
def TickKeepsUptoSaid : Prop := tickKeepsUptoRow.holds Try.pinned (OpenSpec.upto tickKeepsSpec)

/-- 'sidesticklaw17.StickRuns', WHERE WHAT IT READS IS OF BULK AT MOST 1048576: true; the input reads as it did. -/
def stickRunsUptoRow : OpenClaim := { program := "ytabnjfboigmleaa", sum := "e6388496700c047463744677f5c61833070cfdd9abf84dc2612fa1278c845573", func := "sidestick/sidesticklaw17.StickRuns", spec := "stickRuns", apart := false, narrowed := true }
def StickRunsUptoSaid : Prop := stickRunsUptoRow.holds Try.pinned (OpenSpec.upto stickRunsSpec)

/-- 'sidesticklaw17.StickSides', WHERE WHAT IT READS IS OF BULK AT MOST 1048576: true; the input reads as it did. -/
def stickSidesUptoRow : OpenClaim := { program := "ytabnjfboigmleaa", sum := "e6388496700c047463744677f5c61833070cfdd9abf84dc2612fa1278c845573", func := "sidestick/sidesticklaw17.StickSides", spec := "stickSides", apart := false, narrowed := true }
def StickSidesUptoSaid : Prop := stickSidesUptoRow.holds Try.pinned (OpenSpec.upto stickSidesSpec)

/-- 'sidesticklaw17.StickRests', WHERE WHAT IT READS IS OF BULK AT MOST 1048576: true; the input reads as it did. -/
def stickRestsUptoRow : OpenClaim := { program := "ytabnjfboigmleaa", sum := "e6388496700c047463744677f5c61833070cfdd9abf84dc2612fa1278c845573", func := "sidestick/sidesticklaw17.StickRests", spec := "stickRests", apart := false, narrowed := true }
def StickRestsUptoSaid : Prop := stickRestsUptoRow.holds Try.pinned (OpenSpec.upto stickRestsSpec)

/-- 'sidesticklaw18.TokenKeeps', WHERE WHAT IT READS IS OF BULK AT MOST 1048576: true; the input reads as it did. -/
def tokenKeepsUptoRow : OpenClaim := { program := "ytabnjfboigmleaa", sum := "e6388496700c047463744677f5c61833070cfdd9abf84dc2612fa1278c845573", func := "sidestick/sidesticklaw18.TokenKeeps", spec := "tokenKeeps", unfollowed := true, recurses := true, apart := false, narrowed := true }
def TokenKeepsUptoSaid : Prop := tokenKeepsUptoRow.holds Try.pinned (OpenSpec.upto tokenKeepsSpec)

/-- 'sidesticklaw18.TokenSeizes', WHERE WHAT IT READS IS OF BULK AT MOST 1048576: true; the input reads as it did. -/
def tokenSeizesUptoRow : OpenClaim := { program := "ytabnjfboigmleaa", sum := "e6388496700c047463744677f5c61833070cfdd9abf84dc2612fa1278c845573", func := "sidestick/sidesticklaw18.TokenSeizes", spec := "tokenSeizes", unfollowed := true, recurses := true, apart := false, narrowed := true }
def TokenSeizesUptoSaid : Prop := tokenSeizesUptoRow.holds Try.pinned (OpenSpec.upto tokenSeizesSpec)

/-- 'sidesticklaw19.OfferErrors', WHERE WHAT IT READS IS OF BULK AT MOST 1048576: true; the input reads as it did. -/
def offerErrorsUptoRow : OpenClaim := { program := "ytabnjfboigmleaa", sum := "e6388496700c047463744677f5c61833070cfdd9abf84dc2612fa1278c845573", func := "sidestick/sidesticklaw19.OfferErrors", spec := "offerErrors", unfollowed := true, recurses := true, apart := false, narrowed := true }
def OfferErrorsUptoSaid : Prop := offerErrorsUptoRow.holds Try.pinned (OpenSpec.upto offerErrorsSpec)

/-- 'sidesticklaw12.PolicyAll', WHERE WHAT IT READS IS OF BULK AT MOST 1048576: true; the input reads as it did. -/
def policyAllUptoRow : OpenClaim := { program := "ytabnjfboigmleaa", sum := "e6388496700c047463744677f5c61833070cfdd9abf84dc2612fa1278c845573", func := "sidestick/sidesticklaw12.PolicyAll", spec := "policyAll", unfollowed := true, recurses := true, apart := false, narrowed := true }
def PolicyAllUptoSaid : Prop := policyAllUptoRow.holds Try.pinned (OpenSpec.upto policyAllSpec)

/-- 'sidesticklaw12.PolicyFirst', WHERE WHAT IT READS IS OF BULK AT MOST 1048576: true; the input reads as it did. -/
def policyFirstUptoRow : OpenClaim := { program := "ytabnjfboigmleaa", sum := "e6388496700c047463744677f5c61833070cfdd9abf84dc2612fa1278c845573", func := "sidestick/sidesticklaw12.PolicyFirst", spec := "policyFirst", unfollowed := true, recurses := true, apart := false, narrowed := true }
def PolicyFirstUptoSaid : Prop := policyFirstUptoRow.holds Try.pinned (OpenSpec.upto policyFirstSpec)

/-- 'sidesticklaw12.PolicyBounds', WHERE WHAT IT READS IS OF BULK AT MOST 1048576: true; the input reads as it did. -/
def policyBoundsUptoRow : OpenClaim := { program := "ytabnjfboigmleaa", sum := "e6388496700c047463744677f5c61833070cfdd9abf84dc2612fa1278c845573", func := "sidestick/sidesticklaw12.PolicyBounds", spec := "policyBounds", unfollowed := true, recurses := true, apart := false, narrowed := true }
def PolicyBoundsUptoSaid : Prop := policyBoundsUptoRow.holds Try.pinned (OpenSpec.upto policyBoundsSpec)

/-- 'sidesticklaw12.PolicyKeys', WHERE WHAT IT READS IS OF BULK AT MOST 1048576: true; the input reads as it did. -/
def policyKeysUptoRow : OpenClaim := { program := "ytabnjfboigmleaa", sum := "e6388496700c047463744677f5c61833070cfdd9abf84dc2612fa1278c845573", func := "sidestick/sidesticklaw12.PolicyKeys", spec := "policyKeys", unfollowed := true, recurses := true, apart := false, narrowed := true }
def PolicyKeysUptoSaid : Prop := policyKeysUptoRow.holds Try.pinned (OpenSpec.upto policyKeysSpec)

/-- 'sidesticklaw12.PolicyOrders', WHERE WHAT IT READS IS OF BULK AT MOST 1048576: true; the input reads as it did. -/
def policyOrdersUptoRow : OpenClaim := { program := "ytabnjfboigmleaa", sum := "e6388496700c047463744677f5c61833070cfdd9abf84dc2612fa1278c845573", func := "sidestick/sidesticklaw12.PolicyOrders", spec := "policyOrders", unfollowed := true, recurses := true, apart := false, narrowed := true }
def PolicyOrdersUptoSaid : Prop := policyOrdersUptoRow.holds Try.pinned (OpenSpec.upto policyOrdersSpec)

end Rows
end Go.Proofs.Ytabnjfboigmleaa
