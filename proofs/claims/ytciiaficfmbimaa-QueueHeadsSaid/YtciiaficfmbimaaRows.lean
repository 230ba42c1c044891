/-
  No cell of these rows narrows 'for every input' (looked for: loops, veiled, ifaces, maps, wideKeys, modest, calm, conditions, laid).
  DERIVED. THE GIVEN ROWS OF THIS SEAT. 3 by the template 'for every input the law returns true; each argument reads behind the call as it read before'; 0 by the template 'total and deterministic' (their statements: YtciiaficfmbimaaTotals.lean).
  GIVEN WITH THE SEED: the statements are not yours to turn. If you find one false, say at which input.
  Laid BY PROGRAM, IN A SANDBOX (cutbox-rows.mjs): the forced cells as the released guide's own fill.sh prints them over the translation ab96fac004f8d61c… (all of the seat's roots in one cut). By AI agents, Wed Nov 11 2026. No macro, syntax, notation, axiom, sorry.
-/
import Derived.Test.YtciiaficfmbimaaChecked
import GoSem.Claim
import GoSem.ClaimJoined
import GoSem.ClaimMapViews
import Derived.JoinedTies
import Derived.KernelRfl
namespace Go.Proofs.Ytciiaficfmbimaa
/- THE CELL 'sum', in the pinned program and in every row, IS THE sha256 OF THE DUMP (.gsa) THAT YtciiaficfmbimaaProg.lean LOADS. Nothing in Lean hashes anything: it is a label: what it is worth is what the hold of that sum in a sandbox is worth. -/
noncomputable def Try.pinned : Pinned := { name := "ytciiaficfmbimaa", sum := "ab96fac004f8d61c03ba27ad264669846e3855d7b61a706e491f8bca31482f79", checked := Try.checked }
namespace Rows
def none {H : Type} : Left H := { results := [], args := [] }

/-- 'sidesticklaw14.QueueOrders': WHATEVER THE INPUT: true; the input reads as it did. -/
def queueOrdersSpec : ChangeSpec := { name := "queueOrders", fn := fun _ => fun
  | [d1, d2] => { results := [.lit (.bool true)], args := [d1, d2] }
  | _ => none }
def queueOrdersRow : OpenClaim := { program := "ytciiaficfmbimaa", sum := "ab96fac004f8d61c03ba27ad264669846e3855d7b61a706e491f8bca31482f79", func := "sidestick/sidesticklaw14.QueueOrders", spec := "queueOrders", unfollowed := true, recurses := true, apart := false }
def QueueOrdersSaid : Prop := queueOrdersRow.holds Try.pinned (OpenSpec.ofChange queueOrdersSpec)

/-- ITS FALSE NEIGHBOUR: 'it returns false'. Refute it at one input. -/
def queueOrdersWrong : ChangeSpec := { name := "queueOrders", fn := fun _ => fun
  | [d1, d2] => { results := [.lit (.bool false)], args := [d1, d2] }
  | _ => none }
def QueueOrdersWrongFalsely : Prop := queueOrdersRow.holds Try.pinned (OpenSpec.ofChange queueOrdersWrong)

/-- 'sidesticklaw14.QueueHeads': WHATEVER THE INPUT: true; the input reads as it did. -/
def queueHeadsSpec : ChangeSpec := { name := "queueHeads", fn := fun _ => fun
  | [d] => { results := [.lit (.bool true)], args := [d] }
  | _ => none }
def queueHeadsRow : OpenClaim := { program := "ytciiaficfmbimaa", sum := "ab96fac004f8d61c03ba27ad264669846e3855d7b61a706e491f8bca31482f79", func := "sidestick/sidesticklaw14.QueueHeads", spec := "queueHeads", unfollowed := true, recurses := true, apart := false }
def QueueHeadsSaid : Prop := queueHeadsRow.holds Try.pinned (OpenSpec.ofChange queueHeadsSpec)

/-- ITS FALSE NEIGHBOUR: 'it returns false'. Refute it at one input. -/
def queueHeadsWrong : ChangeSpec := { name := "queueHeads", fn := fun _ => fun
  | [d] => { results := [.lit (.bool false)], args := [d] }
  | _ => none }
def QueueHeadsWrongFalsely : Prop := queueHeadsRow.holds Try.pinned (OpenSpec.ofChange queueHeadsWrong)

/-- 'sidesticklaw14.QueueDrops': WHATEVER THE INPUT: true; the input reads as it did. -/
def queueDropsSpec : ChangeSpec := { name := "queueDrops", fn := fun _ => fun
  | [d1, d2] => { results := [.lit (.bool true)], args := [d1, d2] }
  | _ => none }
def queueDropsRow : OpenClaim := { program := "ytciiaficfmbimaa", sum := "ab96fac004f8d61c03ba27ad264669846e3855d7b61a706e491f8bca31482f79", func := "sidestick/sidesticklaw14.QueueDrops", spec := "queueDrops", unfollowed := true, recurses := true, apart := false }
def QueueDropsSaid : Prop := queueDropsRow.holds Try.pinned (OpenSpec.ofChange queueDropsSpec)

/-- ITS FALSE NEIGHBOUR: 'it returns false'. Refute it at one input. -/
def queueDropsWrong : ChangeSpec := { name := "queueDrops", fn := fun _ => fun
  | [d1, d2] => { results := [.lit (.bool false)], args := [d1, d2] }
  | _ => none }
def QueueDropsWrongFalsely : Prop := queueDropsRow.holds Try.pinned (OpenSpec.ofChange queueDropsWrong)

/- THE SECOND FORM. 'bulk': how many values and letters a reading holds, each counted each time it is reached (what is shared counts as often as it is met; a slice's spare places count too). A statement '..UptoSaid' is the law's where the arguments, and the package variables that the reading takes, are together of bulk at most 1048576: NARROWER than '..Said'. Prove '..Said' where nothing that the law and all that it calls make is longer than what came in: it says more and counts as full. Else prove '..UptoSaid'. A law counts once. -/
mutual
def uptoBulk {H : Type} : DataW H → Nat
  | .lit (.string bytes) => bytes.length + 1
  | .lit _ => 1
  | .nil => 1
  | .ptr d => uptoBulk d + 1
  | .slice elems spare => uptoBulkAll elems + uptoBulkAll spare + 1
  | .agg parts => uptoBulkAll parts + 1
  | .iface _ d => uptoBulk d + 1
  | .map entries => uptoBulkEntries entries + 1
  | .held _ => 1
def uptoBulkAll {H : Type} : List (DataW H) → Nat
  | [] => 0
  | d :: r => uptoBulk d + uptoBulkAll r
def uptoBulkEntries {H : Type} : List (Lit × DataW H) → Nat
  | [] => 0
  | x :: r => uptoBulkEntry x + uptoBulkEntries r
def uptoBulkEntry {H : Type} : Lit × DataW H → Nat
  | (.string bytes, d) => bytes.length + uptoBulk d + 1
  | (_, d) => uptoBulk d + 1
 end
def uptoSmall : (H : Type) → List (DataW H) → Bool := fun _ ds => decide (uptoBulkAll ds ≤ 1048576)
def OpenSpec.upto (s : _root_.Go.ChangeSpec) : _root_.Go.OpenSpec := { _root_.Go.OpenSpec.ofChange s with cond := some uptoSmall }

/-- 'sidesticklaw14.QueueOrders', WHERE WHAT IT READS IS OF BULK AT MOST 1048576: true; the input reads as it did. -/
def queueOrdersUptoRow : OpenClaim := { program := "ytciiaficfmbimaa", sum := "ab96fac004f8d61c03ba27ad264669846e3855d7b61a706e491f8bca31482f79", func := "sidestick/sidesticklaw14.QueueOrders", spec := "queueOrders", unfollowed := true, recurses := true, apart := false, narrowed := true }
def QueueOrdersUptoSaid : Prop := queueOrdersUptoRow.holds Try.pinned (OpenSpec.upto queueOrdersSpec)

/-- 'sidesticklaw14.QueueHeads', WHERE WHAT IT READS IS OF BULK AT MOST 1048576: true; the input reads as it did. -/
def queueHeadsUptoRow : OpenClaim := { program := "ytciiaficfmbimaa", sum := "ab96fac004f8d61c03ba27ad264669846e3855d7b61a706e491f8bca31482f79", func := "sidestick/sidesticklaw14.QueueHeads", spec := "queueHeads", unfollowed := true, recurses := true, apart := false, narrowed := true }
def QueueHeadsUptoSaid : Prop := queueHeadsUptoRow.holds Try.pinned (OpenSpec.upto queueHeadsSpec)

/-- 'sidesticklaw14.QueueDrops', WHERE WHAT IT READS IS OF BULK AT MOST 1048576: true; the input reads as it did. -/
def queueDropsUptoRow : OpenClaim := { program := "ytciiaficfmbimaa", sum := "ab96fac004f8d61c03ba27ad264669846e3855d7b61a706e491f8bca31482f79", func := "sidestick/sidesticklaw14.QueueDrops", spec := "queueDrops", unfollowed := true, recurses := true, apart := false, narrowed := true }
def QueueDropsUptoSaid : Prop := queueDropsUptoRow.holds Try.pinned (OpenSpec.upto queueDropsSpec)

end Rows
end Go.Proofs.Ytciiaficfmbimaa
