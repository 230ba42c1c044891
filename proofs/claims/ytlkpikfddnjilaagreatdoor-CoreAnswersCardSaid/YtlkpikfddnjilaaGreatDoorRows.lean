/-
  NARROWER THAN 'FOR EVERY INPUT', by the rows' own cells (each row's printed sentence says how): CoreHolders: laid · CoreLost: laid · CoreRejects: laid · CoreHeads: laid · CoreAnswers: laid.
  DERIVED. THE GIVEN ROWS OF THIS SEAT. 5 by the template 'for every input the law returns true; each argument reads behind the call as it read before'; 0 by the template 'total and deterministic' (their statements: YtlkpikfddnjilaaGreatDoorTotals.lean).
  GIVEN WITH THE SEED: the statements are not yours to turn. If you find one false, say at which input.
  Laid BY PROGRAM, IN A SANDBOX (cutbox-rows.mjs): the forced cells as the released guide's own fill.sh prints them over the translation 007fe3a7b751c9ad… (all of the seat's roots in one cut). By AI agents, Wed Nov 11 2026. No macro, syntax, notation, axiom, sorry.
-/
import Derived.Test.YtlkpikfddnjilaaGreatDoorChecked
import GoSem.Claim
import GoSem.ClaimJoined
import GoSem.ClaimMapViews
import Derived.JoinedTies
import Derived.KernelRfl
namespace Go.Proofs.YtlkpikfddnjilaaGreatDoor
/- THE CELL 'sum', in the pinned program and in every row, IS THE sha256 OF THE DUMP (.gsa) THAT YtlkpikfddnjilaaGreatDoorProg.lean LOADS. Nothing in Lean hashes anything: it is a label: what it is worth is what the hold of that sum in a sandbox is worth. -/
noncomputable def Tryz.pinned : Pinned := { name := "ytlkpikfddnjilaagreatdoor", sum := "007fe3a7b751c9ad4f7c828e6ad73999f80ae520d869ae00fdaa8f473d160652", checked := Tryz.checked }
namespace Rows
def none {H : Type} : Left H := { results := [], args := [] }

/- WHAT THE LISTED PACKAGE-LEVEL VARIABLES READ AS WHEN THE CALL BEGINS. Each datum BY PROGRAM (the guide's laid-datum.mjs) off the statement by which the dump's own 'gosem.cut.vars' lays the variable. In a bare row this is a premise. The card (YtlkpikfddnjilaaGreatDoorCards.lean) ties it to the program's text. -/
def laid_sidestick_gate_commands {H : Type} : DataW H := .agg [.lit (.bool false), .lit (.bool false), .lit (.bool false), .lit (.bool false), .lit (.bool false), .lit (.bool false), .lit (.bool false), .lit (.bool false), .lit (.bool false), .lit (.bool false), .lit (.bool true), .lit (.bool true)]
def laid_sidestick_sha_roots {H : Type} : DataW H := .agg [.lit (.int .u32 1116352408), .lit (.int .u32 1899447441), .lit (.int .u32 3049323471), .lit (.int .u32 3921009573), .lit (.int .u32 961987163), .lit (.int .u32 1508970993), .lit (.int .u32 2453635748), .lit (.int .u32 2870763221), .lit (.int .u32 3624381080), .lit (.int .u32 310598401), .lit (.int .u32 607225278), .lit (.int .u32 1426881987), .lit (.int .u32 1925078388), .lit (.int .u32 2162078206), .lit (.int .u32 2614888103), .lit (.int .u32 3248222580), .lit (.int .u32 3835390401), .lit (.int .u32 4022224774), .lit (.int .u32 264347078), .lit (.int .u32 604807628), .lit (.int .u32 770255983), .lit (.int .u32 1249150122), .lit (.int .u32 1555081692), .lit (.int .u32 1996064986), .lit (.int .u32 2554220882), .lit (.int .u32 2821834349), .lit (.int .u32 2952996808), .lit (.int .u32 3210313671), .lit (.int .u32 3336571891), .lit (.int .u32 3584528711), .lit (.int .u32 113926993), .lit (.int .u32 338241895), .lit (.int .u32 666307205), .lit (.int .u32 773529912), .lit (.int .u32 1294757372), .lit (.int .u32 1396182291), .lit (.int .u32 1695183700), .lit (.int .u32 1986661051), .lit (.int .u32 2177026350), .lit (.int .u32 2456956037), .lit (.int .u32 2730485921), .lit (.int .u32 2820302411), .lit (.int .u32 3259730800), .lit (.int .u32 3345764771), .lit (.int .u32 3516065817), .lit (.int .u32 3600352804), .lit (.int .u32 4094571909), .lit (.int .u32 275423344), .lit (.int .u32 430227734), .lit (.int .u32 506948616), .lit (.int .u32 659060556), .lit (.int .u32 883997877), .lit (.int .u32 958139571), .lit (.int .u32 1322822218), .lit (.int .u32 1537002063), .lit (.int .u32 1747873779), .lit (.int .u32 1955562222), .lit (.int .u32 2024104815), .lit (.int .u32 2227730452), .lit (.int .u32 2361852424), .lit (.int .u32 2428436474), .lit (.int .u32 2756734187), .lit (.int .u32 3204031479), .lit (.int .u32 3329325298)]

/-- 'sidesticklaw24.CoreHolders': WHATEVER THE INPUT: true; the input reads as it did. -/
def coreHoldersSpec : ChangeSpec := { name := "coreHolders", fn := fun _ => fun
  | [d1, d2] => { results := [.lit (.bool true)], args := [d1, d2] }
  | _ => none }
def coreHoldersRow : OpenClaim := { program := "ytlkpikfddnjilaagreatdoor", sum := "007fe3a7b751c9ad4f7c828e6ad73999f80ae520d869ae00fdaa8f473d160652", func := "sidestick/sidesticklaw24.CoreHolders", spec := "coreHolders", unfollowed := true, recurses := true, named := ["sidestick/sha.roots", "sidestick/gate.commands"], apart := false, laid := [("sidestick/gate.commands", laid_sidestick_gate_commands), ("sidestick/sha.roots", laid_sidestick_sha_roots)] }
def CoreHoldersSaid : Prop := coreHoldersRow.holds Tryz.pinned (OpenSpec.ofChange coreHoldersSpec)

/-- ITS FALSE NEIGHBOUR: 'it returns false'. Refute it at one input. -/
def coreHoldersWrong : ChangeSpec := { name := "coreHolders", fn := fun _ => fun
  | [d1, d2] => { results := [.lit (.bool false)], args := [d1, d2] }
  | _ => none }
def CoreHoldersWrongFalsely : Prop := coreHoldersRow.holds Tryz.pinned (OpenSpec.ofChange coreHoldersWrong)

/-- 'sidesticklaw24.CoreLost': WHATEVER THE INPUT: true; the input reads as it did. -/
def coreLostSpec : ChangeSpec := { name := "coreLost", fn := fun _ => fun
  | [d1, d2] => { results := [.lit (.bool true)], args := [d1, d2] }
  | _ => none }
def coreLostRow : OpenClaim := { program := "ytlkpikfddnjilaagreatdoor", sum := "007fe3a7b751c9ad4f7c828e6ad73999f80ae520d869ae00fdaa8f473d160652", func := "sidestick/sidesticklaw24.CoreLost", spec := "coreLost", unfollowed := true, recurses := true, named := ["sidestick/sha.roots", "sidestick/gate.commands"], apart := false, laid := [("sidestick/gate.commands", laid_sidestick_gate_commands), ("sidestick/sha.roots", laid_sidestick_sha_roots)] }
def CoreLostSaid : Prop := coreLostRow.holds Tryz.pinned (OpenSpec.ofChange coreLostSpec)

/-- ITS FALSE NEIGHBOUR: 'it returns false'. Refute it at one input. -/
def coreLostWrong : ChangeSpec := { name := "coreLost", fn := fun _ => fun
  | [d1, d2] => { results := [.lit (.bool false)], args := [d1, d2] }
  | _ => none }
def CoreLostWrongFalsely : Prop := coreLostRow.holds Tryz.pinned (OpenSpec.ofChange coreLostWrong)

/-- 'sidesticklaw24.CoreRejects': WHATEVER THE INPUT: true; the input reads as it did. -/
def coreRejectsSpec : ChangeSpec := { name := "coreRejects", fn := fun _ => fun
  | [d1, d2] => { results := [.lit (.bool true)], args := [d1, d2] }
  | _ => none }
def coreRejectsRow : OpenClaim := { program := "ytlkpikfddnjilaagreatdoor", sum := "007fe3a7b751c9ad4f7c828e6ad73999f80ae520d869ae00fdaa8f473d160652", func := "sidestick/sidesticklaw24.CoreRejects", spec := "coreRejects", unfollowed := true, recurses := true, named := ["sidestick/sha.roots", "sidestick/gate.commands"], apart := false, laid := [("sidestick/gate.commands", laid_sidestick_gate_commands), ("sidestick/sha.roots", laid_sidestick_sha_roots)] }
def CoreRejectsSaid : Prop := coreRejectsRow.holds Tryz.pinned (OpenSpec.ofChange coreRejectsSpec)

/-- ITS FALSE NEIGHBOUR: 'it returns false'. Refute it at one input. -/
def coreRejectsWrong : ChangeSpec := { name := "coreRejects", fn := fun _ => fun
  | [d1, d2] => { results := [.lit (.bool false)], args := [d1, d2] }
  | _ => none }
def CoreRejectsWrongFalsely : Prop := coreRejectsRow.holds Tryz.pinned (OpenSpec.ofChange coreRejectsWrong)

/-- 'sidesticklaw24.CoreHeads': WHATEVER THE INPUT: true; the input reads as it did. -/
def coreHeadsSpec : ChangeSpec := { name := "coreHeads", fn := fun _ => fun
  | [d1, d2] => { results := [.lit (.bool true)], args := [d1, d2] }
  | _ => none }
def coreHeadsRow : OpenClaim := { program := "ytlkpikfddnjilaagreatdoor", sum := "007fe3a7b751c9ad4f7c828e6ad73999f80ae520d869ae00fdaa8f473d160652", func := "sidestick/sidesticklaw24.CoreHeads", spec := "coreHeads", unfollowed := true, recurses := true, named := ["sidestick/sha.roots", "sidestick/gate.commands"], apart := false, laid := [("sidestick/gate.commands", laid_sidestick_gate_commands), ("sidestick/sha.roots", laid_sidestick_sha_roots)] }
def CoreHeadsSaid : Prop := coreHeadsRow.holds Tryz.pinned (OpenSpec.ofChange coreHeadsSpec)

/-- ITS FALSE NEIGHBOUR: 'it returns false'. Refute it at one input. -/
def coreHeadsWrong : ChangeSpec := { name := "coreHeads", fn := fun _ => fun
  | [d1, d2] => { results := [.lit (.bool false)], args := [d1, d2] }
  | _ => none }
def CoreHeadsWrongFalsely : Prop := coreHeadsRow.holds Tryz.pinned (OpenSpec.ofChange coreHeadsWrong)

/-- 'sidesticklaw24.CoreAnswers': WHATEVER THE INPUT: true; the input reads as it did. -/
def coreAnswersSpec : ChangeSpec := { name := "coreAnswers", fn := fun _ => fun
  | [d1, d2] => { results := [.lit (.bool true)], args := [d1, d2] }
  | _ => none }
def coreAnswersRow : OpenClaim := { program := "ytlkpikfddnjilaagreatdoor", sum := "007fe3a7b751c9ad4f7c828e6ad73999f80ae520d869ae00fdaa8f473d160652", func := "sidestick/sidesticklaw24.CoreAnswers", spec := "coreAnswers", inPlace := ["internal/bytealg.IndexByte"], unfollowed := true, recurses := true, named := ["sidestick/sha.roots", "sidestick/gate.commands"], apart := false, laid := [("sidestick/gate.commands", laid_sidestick_gate_commands), ("sidestick/sha.roots", laid_sidestick_sha_roots)] }
def CoreAnswersSaid : Prop := coreAnswersRow.holds Tryz.pinned (OpenSpec.ofChange coreAnswersSpec)

/-- ITS FALSE NEIGHBOUR: 'it returns false'. Refute it at one input. -/
def coreAnswersWrong : ChangeSpec := { name := "coreAnswers", fn := fun _ => fun
  | [d1, d2] => { results := [.lit (.bool false)], args := [d1, d2] }
  | _ => none }
def CoreAnswersWrongFalsely : Prop := coreAnswersRow.holds Tryz.pinned (OpenSpec.ofChange coreAnswersWrong)

/- THE SECOND FORM. 'bulk': how many values and letters a reading holds, each counted each time it is reached (what is shared counts as often as it is met; a slice's spare places count too). A statement '..UptoSaid' is the law's where the arguments, and the package variables that the reading takes, are together of bulk at most 1048576: NARROWER than '..Said'. Prove '..Said' where nothing that the law and all that it calls make is longer than what came in: it says more and counts as full. Else prove '..UptoSaid'. A law counts once. -/
mutual
def uptoBulk {H : Type} : DataW H → Nat
  | .lit (.string bytes) => bytes.length + 1
  | .lit _ => 1
  | .nil => 1
  | .ptr d => uptoBulk d + 1
  | .slice elems spare => uptoBulkAll elems + uptoBulkAll spare + 1
  | .agg parts => uptoBulkAll parts + 1
  | .iface _ d => uptoBulk d + 1
  | .map entries => uptoBulkEntries entries + 1
  | .held _ => 1
def uptoBulkAll {H : Type} : List (DataW H) → Nat
  | [] => 0
  | d :: r => uptoBulk d + uptoBulkAll r
def uptoBulkEntries {H : Type} : List (Lit × DataW H) → Nat
  | [] => 0
  | x :: r => uptoBulkEntry x + uptoBulkEntries r
def uptoBulkEntry {H : Type} : Lit × DataW H → Nat
  | (.string bytes, d) => bytes.length + uptoBulk d + 1
  | (_, d) => uptoBulk d + 1
 end
def uptoSmall : (H : Type) → List (DataW H) → Bool := fun _ ds => decide (uptoBulkAll ds ≤ 1048576)
def OpenSpec.upto (s : _root_.Go.ChangeSpec) : _root_.Go.OpenSpec := { _root_.Go.OpenSpec.ofChange s with cond := some uptoSmall }

/-- 'sidesticklaw24.CoreHolders', WHERE WHAT IT READS IS OF BULK AT MOST 1048576: true; the input reads as it did. -/
def coreHoldersUptoRow : OpenClaim := { program := "ytlkpikfddnjilaagreatdoor", sum := "007fe3a7b751c9ad4f7c828e6ad73999f80ae520d869ae00fdaa8f473d160652", func := "sidestick/sidesticklaw24.CoreHolders", spec := "coreHolders", unfollowed := true, recurses := true, named := ["sidestick/sha.roots", "sidestick/gate.commands"], apart := false, laid := [("sidestick/gate.commands", laid_sidestick_gate_commands), ("sidestick/sha.roots", laid_sidestick_sha_roots)], narrowed := true }
def CoreHoldersUptoSaid : Prop := coreHoldersUptoRow.holds Tryz.pinned (OpenSpec.upto coreHoldersSpec)

/-- 'sidesticklaw24.CoreLost', WHERE WHAT IT READS IS OF BULK AT MOST 1048576: true; the input reads as it did. -/
def coreLostUptoRow : OpenClaim := { program := "ytlkpikfddnjilaagreatdoor", sum := "007fe3a7b751c9ad4f7c828e6ad73999f80ae520d869ae00fdaa8f473d160652", func := "sidestick/sidesticklaw24.CoreLost", spec := "coreLost", unfollowed := true, recurses := true, named := ["sidestick/sha.roots", "sidestick/gate.commands"], apart := false, laid := [("sidestick/gate.commands", laid_sidestick_gate_commands), ("sidestick/sha.roots", laid_sidestick_sha_roots)], narrowed := true }
def CoreLostUptoSaid : Prop := coreLostUptoRow.holds Tryz.pinned (OpenSpec.upto coreLostSpec)

/-- 'sidesticklaw24.CoreRejects', WHERE WHAT IT READS IS OF BULK AT MOST 1048576: true; the input reads as it did. -/
def coreRejectsUptoRow : OpenClaim := { program := "ytlkpikfddnjilaagreatdoor", sum := "007fe3a7b751c9ad4f7c828e6ad73999f80ae520d869ae00fdaa8f473d160652", func := "sidestick/sidesticklaw24.CoreRejects", spec := "coreRejects", unfollowed := true, recurses := true, named := ["sidestick/sha.roots", "sidestick/gate.commands"], apart := false, laid := [("sidestick/gate.commands", laid_sidestick_gate_commands), ("sidestick/sha.roots", laid_sidestick_sha_roots)], narrowed := true }
def CoreRejectsUptoSaid : Prop := coreRejectsUptoRow.holds Tryz.pinned (OpenSpec.upto coreRejectsSpec)

/-- 'sidesticklaw24.CoreHeads', WHERE WHAT IT READS IS OF BULK AT MOST 1048576: true; the input reads as it did. -/
def coreHeadsUptoRow : OpenClaim := { program := "ytlkpikfddnjilaagreatdoor", sum := "007fe3a7b751c9ad4f7c828e6ad73999f80ae520d869ae00fdaa8f473d160652", func := "sidestick/sidesticklaw24.CoreHeads", spec := "coreHeads", unfollowed := true, recurses := true, named := ["sidestick/sha.roots", "sidestick/gate.commands"], apart := false, laid := [("sidestick/gate.commands", laid_sidestick_gate_commands), ("sidestick/sha.roots", laid_sidestick_sha_roots)], narrowed := true }
def CoreHeadsUptoSaid : Prop := coreHeadsUptoRow.holds Tryz.pinned (OpenSpec.upto coreHeadsSpec)

/-- 'sidesticklaw24.CoreAnswers', WHERE WHAT IT READS IS OF BULK AT MOST 1048576: true; the input reads as it did. -/
def coreAnswersUptoRow : OpenClaim := { program := "ytlkpikfddnjilaagreatdoor", sum := "007fe3a7b751c9ad4f7c828e6ad73999f80ae520d869ae00fdaa8f473d160652", func := "sidestick/sidesticklaw24.CoreAnswers", spec := "coreAnswers", inPlace := ["internal/bytealg.IndexByte"], unfollowed := true, recurses := true, named := ["sidestick/sha.roots", "sidestick/gate.commands"], apart := false, laid := [("sidestick/gate.commands", laid_sidestick_gate_commands), ("sidestick/sha.roots", laid_sidestick_sha_roots)], narrowed := true }
def CoreAnswersUptoSaid : Prop := coreAnswersUptoRow.holds Tryz.pinned (OpenSpec.upto coreAnswersSpec)

end Rows
end Go.Proofs.YtlkpikfddnjilaaGreatDoor
