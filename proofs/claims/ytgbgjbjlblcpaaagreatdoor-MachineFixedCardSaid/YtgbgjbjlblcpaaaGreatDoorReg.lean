/- General laws for the walks: regions that draw their order and whose operations only read, or call what only makes memory (one walk in the order of the text); worlds that are as they were below a block. Over any program. -/
import Derived.WalkKit
import Derived.Below
import Derived.BigQuiet
import Derived.WalkSpells
import Derived.Lib.Hide
import Derived.Laws.CopyOwn
namespace Sd
open Go Go.RowKit
set_option linter.unusedVariables false

/-- a world that is as w below block B, and as big at least: u, if it is one -/
noncomputable def over (w : World) (B : Nat) (u : World) : World := @ite _ (Below B w u) (Classical.propDecidable _) u w
theorem over_below (w : World) (B : Nat) (u : World) : Below B w (over w B u) := by
  unfold over
  split
  · assumption
  · exact Below.refl _ _
theorem over_of {w : World} {B : Nat} {u : World} (h : Below B w u) : over w B u = u := by
  unfold over; rw [if_pos h]
@[go_sem] theorem cell?_over (w : World) (B : Nat) (u : World) (b o : Nat) (h : b < B) : (over w B u).cell? ⟨b, o, none⟩ = w.cell? ⟨b, o, none⟩ := (over_below w B u).cell h
@[go_sem] theorem frozen?_over (w : World) (B : Nat) (u : World) (b o : Nat) (h : b < B) : (over w B u).frozen? ⟨b, o, none⟩ = w.frozen? ⟨b, o, none⟩ := (over_below w B u).frozen h

section
variable {P : Program}
/-- the class: worlds that are as w below its own size -/
theorem wp_region_over_lit {id : Nat} {Q : Exit → Act → World → Prop} {a : Act} {w : World} {l : List Oper} (B : Nat) (hm : P.follows .mixedOrders = true) (hB : Region.lexB .any l.toArray = true)
    (h : wpQuiet P l.toArray (fun w' => ∃ u, w' = over w B u) (fun a' => ∀ w', Below B w w' → Q .normal a' w') l a) : (Code.region id l.toArray true).wp P Q a w := by
  refine wp_region_quiet (C := fun w' => ∃ u, w' = over w B u) hm hB ⟨{ w with drawn := w.drawn + 1 }, (over_of ?_).symm⟩ ?_
  · exact ⟨rfl, rfl, rfl, Nat.le_refl _, fun _ _ => rfl⟩
  · have h2 : (fun a' => ∀ w', (∃ u, w' = over w B u) → Q .normal a' w') = fun a' => ∀ w', Below B w w' → Q .normal a' w' := by
      funext a'
      apply propext
      constructor
      · intro h w' hw; exact h w' ⟨w', (over_of hw).symm⟩
      · rintro h w' ⟨u, rfl⟩; exact h _ (over_below w B u)
    rw [h2]; simpa using h
theorem wp_region_self_lit {id : Nat} {Q : Exit → Act → World → Prop} {a : Act} {w : World} {l : List Oper} (hm : P.follows .mixedOrders = true) (hB : Region.lexB .any l.toArray = true)
    (h : wpQuiet P l.toArray (fun w' => ∃ u, w' = over w w.heap.size u) (fun a' => ∀ w', Below w.heap.size w w' → Q .normal a' w') l a) : (Code.region id l.toArray true).wp P Q a w :=
  wp_region_over_lit w.heap.size hm hB h

/-- a callee's contract, met in such a world -/
theorem call_over {f : FuncId} {args : Array Value} {w : World} {B : Nat} {u : World} {v : Value}
    (h : Calls P f args (over w B u) fun e w' => e = .returned v ∧ Below B (over w B u) w') : Calls P f args (over w B u) fun e w'' => e = .returned v ∧ ∃ u, w'' = over w B u :=
  h.mono fun _ w' ⟨he, hw⟩ => ⟨he, w', (over_of ((over_below w B u).trans hw)).symm⟩
theorem call_over' {f : FuncId} {args : Array Value} {w : World} {B : Nat} {u : World} {v : Value} (hB : B ≤ w.heap.size)
    (h : Calls P f args (over w B u) fun e w' => e = .returned v ∧ Below (over w B u).heap.size (over w B u) w') : Calls P f args (over w B u) fun e w'' => e = .returned v ∧ ∃ u, w'' = over w B u :=
  call_over (h.mono fun _ _ ⟨he, hw⟩ => ⟨he, hw.mono (Nat.le_trans hB (over_below w B u).size)⟩)
end

theorem bcell {W w1 : World} (hb : Below W.heap.size W w1) : (∀ b o, b < W.heap.size → w1.cell? ⟨b, o, none⟩ = W.cell? ⟨b, o, none⟩) ∧ (∀ b o, b < W.heap.size → w1.frozen? ⟨b, o, none⟩ = W.frozen? ⟨b, o, none⟩) ∧ W.heap.size ≤ w1.heap.size :=
  ⟨fun b o h => hb.cell (p := ⟨b, o, none⟩) h, fun b o h => hb.frozen (p := ⟨b, o, none⟩) h, hb.size⟩
theorem ba {w a : World} (h : Below w.heap.size w a) (o : Obj) : Below w.heap.size w (a.alloc o) := h.alloc h.size o
theorem bt {w a b : World} (h : Below w.heap.size w a) (k : Below a.heap.size a b) : Below w.heap.size w b := h.trans (k.mono h.size)
theorem bs {w a : World} (h : Below w.heap.size w a) {p : Addr} (hp : w.heap.size ≤ p.block) (v : Value) : Below w.heap.size w (a.setCell p v) := h.setCell hp v

/-! ### structs and arrays: loaded, stored, handed back whole -/
def aggD (d : TypeDesc) : Bool := match d with | .struct _ | .array _ _ => true | _ => false
/-- type ty is a struct or an array of n cells -/
structure AggT (P : Program) (ty n : Nat) : Prop where
  desc : ∃ d, P.underlying ty = some d ∧ aggD d = true
  size : (P.info? ty).map (·.size) = some n
theorem AggT.load {P : Program} {ty n : Nat} (h : AggT P ty n) {w : World} {g : Nat} {t : TypeId} {cs : Array Value} {fr : Nat × Nat} (hg : w.heap[g]? = some (.cells cs t fr)) (hn : cs.size = n) :
    (loadVar ty ⟨g, 0, none⟩).run P w = .ok (.agg cs) w := by
  obtain ⟨⟨d, hu, hd⟩, hs⟩ := h
  exact run_loadVar_row w g t ty cs fr d hg hu (by cases d <;> first | rfl | simp [aggD] at hd) (by rw [hs, hn])

section
variable {P : Program} {ops : Array Oper} {rest : List Oper} {o : Oper} {a : Act} {w : World} {Q : Exit → Act → World → Prop}
/-- a struct is stored into a block of its own -/
theorem wpList_store_own {ty n : Nat} (hT : AggT P ty n) (g : Nat) {t : TypeId} {old : Array Value} (hg : w.heap[g]? = some (.cells old t (0, 0))) (hn : old.size = n) (hgd : o.guard = none) (x y : Operand) (ho : o.op = .store ty x y)
    (cells : Array Value) (hx : a.eval x = .pointer (some ⟨g, 0, none⟩)) (hy : a.eval y = .agg cells) (hc : cells.size = n) (h1 : cells.all (·.oneCell') = true)
    (h : wpList P ops Q rest (a.put o.dst undef) (w.setRow g cells)) : wpList P ops Q (o :: rest) a w :=
  wpList_store_row hgd ty x y ho g cells hx hy t old hg (by rw [hT.size, hc]) (by rw [hn, hc]) h1 h
/-- a struct is loaded out of a block of its own -/
theorem wpList_load_own {ty n : Nat} (hT : AggT P ty n) (g : Nat) {t : TypeId} {cs : Array Value} {fr : Nat × Nat} (hg : w.heap[g]? = some (.cells cs t fr)) (hn : cs.size = n) (hgd : o.guard = none) (x : Operand) (ho : o.op = .load ty x)
    (hx : a.eval x = .pointer (some ⟨g, 0, none⟩)) (h : wpList P ops Q rest (a.put o.dst (.agg cs)) w) : wpList P ops Q (o :: rest) a w := by
  obtain ⟨⟨d, hu, hd⟩, hs⟩ := hT
  exact wpList_load_row hgd ty x ho g hx t cs fr d hg hu (by cases d <;> first | rfl | simp [aggD] at hd) (by rw [hs, hn]) h
/-- the function's result lies in a block of its own -/
theorem bp_cell {fn : Func} {R : Ending → World → Prop} {p ty n g : Nat} {t : TypeId} {cs : Array Value} {fr : Nat × Nat} (hT : AggT P ty n) (h : fn.results = #[.cell p ty]) (hp : a.tmps.getD p undef = .pointer (some ⟨g, 0, none⟩))
    (hg : w.heap[g]? = some (.cells cs t fr)) (hn : cs.size = n) (hd : a.defers = []) (hR : R (.returned (.agg cs)) w) : bodyPost P fn R .ret a w := by
  refine bodyPost_ret (v := .agg cs) ?_ hd hR
  obtain ⟨⟨d, hu, hd⟩, hs⟩ := hT
  exact results_cell_row h _ w g t cs fr d hp hg hu (by cases d <;> first | rfl | simp [aggD] at hd) (by rw [hs, hn])
/-- .. and a second one in a slot -/
theorem bp_cell_tmp {fn : Func} {R : Ending → World → Prop} {p ty n g u : Nat} {t : TypeId} {cs : Array Value} {fr : Nat × Nat} (hT : AggT P ty n) (h : fn.results = #[.cell p ty, .tmp u]) (hp : a.tmps.getD p undef = .pointer (some ⟨g, 0, none⟩))
    (hg : w.heap[g]? = some (.cells cs t fr)) (hn : cs.size = n) (hd : a.defers = []) (hR : R (.returned (.tuple #[.agg cs, a.tmps.getD u undef])) w) : bodyPost P fn R .ret a w := by
  refine bodyPost_ret (v := .tuple #[.agg cs, a.tmps.getD u undef]) ?_ hd hR
  have hp' : a.tmps[p]?.getD undef = .pointer (some ⟨g, 0, none⟩) := by simpa using hp
  simp [results, h, hp', asAddr, hT.load hg hn]
end
theorem heap_alloc_if (w : World) (o : Obj) (k : Nat) : (w.alloc o).heap[k]? = if k = w.heap.size then some o else w.heap[k]? := by
  show (w.heap.push o)[k]? = _
  rw [Array.getElem?_push]
theorem heap_last (w : World) (o : Obj) {k : Nat} (hk : k = w.heap.size) : (w.alloc o).heap[k]? = some o := by rw [heap_alloc_if, if_pos hk]
theorem heap_prev (w : World) (o : Obj) {k : Nat} {x : Obj} (hk : k ≠ w.heap.size) (h : w.heap[k]? = some x) : (w.alloc o).heap[k]? = some x := by rw [heap_alloc_if, if_neg hk]; exact h
theorem heap_setRow_if (w : World) (g : Nat) (cs old : Array Value) (t : TypeId) (fr : Nat × Nat) (hg : w.heap[g]? = some (.cells old t fr)) : (w.setRow g cs).heap[g]? = some (.cells cs t fr) := setRow_heap w g old cs t fr hg
/-- a block behind a contract -/
theorem Below_at {B : Nat} {w w' : World} (h : Below B w w') {k : Nat} {o : Obj} (hk : k < B) (ho : w.heap[k]? = some o) : w'.heap[k]? = some o := (h.block k hk).trans ho
theorem bsr {w a : World} (h : Below w.heap.size w a) {g : Nat} (hg : w.heap.size ≤ g) (cs : Array Value) : Below w.heap.size w (a.setRow g cs) := below_setRow h hg cs

/-- '&' with 2 to the power of j, less one -/
theorem bits_low (k : IntKind) (n : Int) (j : Nat) (hk : k.wrap (n % 2 ^ j) = n % 2 ^ j) (hn : (BitVec.ofInt k.bits n).toNat % 2 ^ j = (n % 2 ^ j).toNat) (hj : 2 ^ j ≤ 2 ^ k.bits) : bits .and k n (2 ^ j - 1) = n % 2 ^ j := by
  unfold bits
  simp only [BitVec.toNat_and]
  have h1 : (BitVec.ofInt k.bits ((2 : Int) ^ j - 1)).toNat = 2 ^ j - 1 := by
    simp only [BitVec.toNat_ofInt]
    have : (0:Int) < 2 ^ j := Int.pow_pos (by omega)
    have h2 : ((2:Int)^j) ≤ ((2 ^ k.bits : Nat) : Int) := by exact_mod_cast hj
    rw [Int.emod_eq_of_lt (by omega) (by omega)]
    have : ((2:Int)^j) = ((2 ^ j : Nat) : Int) := by simp
    omega
  rw [h1, Nat.and_two_pow_sub_one_eq_mod, hn]
  have : (0:Int) < 2 ^ j := Int.pow_pos (by omega)
  have h0 := Int.emod_nonneg n (by omega : (2:Int) ^ j ≠ 0)
  rw [Int.toNat_of_nonneg h0]
  exact hk

/-- an int -/
def I64 (n : Int) : Prop := -9223372036854775808 ≤ n ∧ n ≤ 9223372036854775807
theorem i64 {n : Int} (h : -9223372036854775808 ≤ n ∧ n ≤ 9223372036854775807) : I64 n := h
theorem i64_wf {n : Int} (h : (Lit.int .i64 n).wf = true) : I64 n := by
  unfold I64; simpa [Lit.wf, IntKind.min, IntKind.max, IntKind.signed, IntKind.bits] using h
end Sd
