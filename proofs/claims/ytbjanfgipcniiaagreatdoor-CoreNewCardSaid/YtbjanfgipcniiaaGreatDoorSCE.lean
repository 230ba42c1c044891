/- A region that draws its order, in which one operation calls a function that changes some blocks; others may read what it returns. Over any program. -/
import Derived.Test.YtbjanfgipcniiaaGreatDoorSAE
namespace Sx
open Go Go.RowKit Go.BigFrame
set_option linter.unusedVariables false
set_option linter.unusedSimpArgs false

def pvC (val : Value) (Q : List Blk → Prop) (bl : List Blk) (B : Nat) (v : Value) (w : World) : Prop :=
  v = val ∧ ∃ bl', Q bl' ∧ (∀ y ∈ bl', w.heap[y.id]? = some y.obj ∧ (y.wr = true → (∃ u ∈ bl, y.id = u.id) ∨ B ≤ y.id)) ∧ bl'.Pairwise clash
theorem pvC.stab {val Q bl B v} {w w' : World} (h : pvC val Q bl B v w) (hc : Ch [] w w') : pvC val Q bl B v w' := by
  obtain ⟨h1, bl', h2, h3, h4⟩ := h
  exact ⟨h1, bl', h2, fun y hy => ⟨(hc.block _ (heap_lt (h3 y hy).1) (by simp)).trans (h3 y hy).1, (h3 y hy).2⟩, h4⟩
section
variable {P : Program} {lf l : List Oper} {sp : Nat → Sp} {a0 : Act} {w : World} {i k0 : Nat} {pre : List (List Nat)} {o : Oper} {es : List Nat} {pv : Value → World → Prop}
variable {ms : List Nat} {w0 : World} {bs : List Blk}
end
section
variable {P : Program} {a0 : Act} {w w0 : World} {Q : Exit → Act → World → Prop} {id : Nat} {L : List Oper} {ms : List Nat}
end
end Sx
