/- General laws for the walks: regions that draw their order and whose operations only read, or call what only makes memory (one walk in the order of the text); worlds that are as they were below a block. Over any program. -/
import Derived.WalkKit
import Derived.Below
import Derived.BigQuiet
import Derived.WalkSpells
import Derived.Lib.Hide
import Derived.Laws.CopyOwn
namespace Sd
open Go Go.RowKit
set_option linter.unusedVariables false

/-- a world that is as w below block B, and as big at least: u, if it is one -/
noncomputable def over (w : World) (B : Nat) (u : World) : World := @ite _ (Below B w u) (Classical.propDecidable _) u w
theorem over_below (w : World) (B : Nat) (u : World) : Below B w (over w B u) := by
  unfold over
  split
  · assumption
  · exact Below.refl _ _
@[go_sem] theorem cell?_over (w : World) (B : Nat) (u : World) (b o : Nat) (h : b < B) : (over w B u).cell? ⟨b, o, none⟩ = w.cell? ⟨b, o, none⟩ := (over_below w B u).cell h
@[go_sem] theorem frozen?_over (w : World) (B : Nat) (u : World) (b o : Nat) (h : b < B) : (over w B u).frozen? ⟨b, o, none⟩ = w.frozen? ⟨b, o, none⟩ := (over_below w B u).frozen h

section
variable {P : Program}
end

theorem bt {w a b : World} (h : Below w.heap.size w a) (k : Below a.heap.size a b) : Below w.heap.size w b := h.trans (k.mono h.size)
theorem bs {w a : World} (h : Below w.heap.size w a) {p : Addr} (hp : w.heap.size ≤ p.block) (v : Value) : Below w.heap.size w (a.setCell p v) := h.setCell hp v

/-! ### structs and arrays: loaded, stored, handed back whole -/
def aggD (d : TypeDesc) : Bool := match d with | .struct _ | .array _ _ => true | _ => false
/-- type ty is a struct or an array of n cells -/
structure AggT (P : Program) (ty n : Nat) : Prop where
  desc : ∃ d, P.underlying ty = some d ∧ aggD d = true
  size : (P.info? ty).map (·.size) = some n
theorem AggT.load {P : Program} {ty n : Nat} (h : AggT P ty n) {w : World} {g : Nat} {t : TypeId} {cs : Array Value} {fr : Nat × Nat} (hg : w.heap[g]? = some (.cells cs t fr)) (hn : cs.size = n) :
    (loadVar ty ⟨g, 0, none⟩).run P w = .ok (.agg cs) w := by
  obtain ⟨⟨d, hu, hd⟩, hs⟩ := h
  exact run_loadVar_row w g t ty cs fr d hg hu (by cases d <;> first | rfl | simp [aggD] at hd) (by rw [hs, hn])

section
variable {P : Program} {ops : Array Oper} {rest : List Oper} {o : Oper} {a : Act} {w : World} {Q : Exit → Act → World → Prop}
end
/-- an int -/
def I64 (n : Int) : Prop := -9223372036854775808 ≤ n ∧ n ≤ 9223372036854775807
theorem i64 {n : Int} (h : -9223372036854775808 ≤ n ∧ n ≤ 9223372036854775807) : I64 n := h
end Sd
