/- Greater structs in the walks: stored and loaded whole, the world behind the store named; a walk that stops there. -/
import Derived.Test.YtabnjfboigmleaaReg
namespace Sd
open Go Go.RowKit
set_option linter.unusedVariables false
/-- here a walk stops -/
def Hold (p : Prop) : Prop := p
theorem hold_out {p : Prop} (h : p) : Hold p := h
section
variable {P : Program} {ops : Array Oper} {rest : List Oper} {o : Oper} {a : Act} {w : World} {Q : Exit → Act → World → Prop}
theorem wpList_store_hold {ty n : Nat} (hT : AggT P ty n) (g : Nat) {t : TypeId} {old : Array Value} (hg : w.heap[g]? = some (.cells old t (0, 0))) (hn : old.size = n) (hgd : o.guard = none) (x y : Operand) (ho : o.op = .store ty x y)
    (cells : Array Value) (hx : a.eval x = .pointer (some ⟨g, 0, none⟩)) (hy : a.eval y = .agg cells) (hc : cells.size = n) (h1 : cells.all (·.oneCell') = true)
    (h : ∀ W1 : World, W1.heap[g]? = some (.cells cells t (0, 0)) → Below g w W1 → W1.heap.size = w.heap.size → Hold (wpList P ops Q rest (a.put o.dst undef) W1)) : wpList P ops Q (o :: rest) a w := by
  refine wpList_store_own hT g hg hn hgd x y ho cells hx hy hc h1 ?_
  refine h _ (setRow_heap _ _ _ _ _ _ hg) (below_setRow (Below.refl _ _) (Nat.le_refl _) cells) ?_
  simp [World.setRow]
end
theorem heap_lt {w : World} {k : Nat} {x : Obj} (h : w.heap[k]? = some x) : k < w.heap.size := by
  rcases Nat.lt_or_ge k w.heap.size with h1 | h1
  · exact h1
  · simp [h1] at h
theorem Below_keep {w w' : World} (h : Below w.heap.size w w') {k : Nat} {o : Obj} (ho : w.heap[k]? = some o) : w'.heap[k]? = some o := Below_at h (heap_lt ho) ho
theorem cell_of_heap {w : World} {g : Nat} {cs : Array Value} {t : TypeId} {fr : Nat × Nat} (h : w.heap[g]? = some (.cells cs t fr)) (o : Nat) : w.cell? ⟨g, o, none⟩ = cs[o]? := by
  simp [World.cell?, h]
theorem frozen_of_heap {w : World} {g : Nat} {cs : Array Value} {t : TypeId} (h : w.heap[g]? = some (.cells cs t (0, 0))) (o : Nat) : w.frozen? ⟨g, o, none⟩ = false := by
  simp [World.frozen?, h]
theorem bdrew {B : Nat} {w a : World} (h : Below B w a) : Below B w a.drew := h.trans ⟨rfl, rfl, rfl, Nat.le_refl _, fun _ _ => rfl⟩
theorem tmod_bd (s m : Int) (h : 0 < m) : -m < s.tmod m ∧ s.tmod m < m := ⟨Int.lt_tmod_of_pos s h, Int.tmod_lt_of_pos s h⟩
end Sd
