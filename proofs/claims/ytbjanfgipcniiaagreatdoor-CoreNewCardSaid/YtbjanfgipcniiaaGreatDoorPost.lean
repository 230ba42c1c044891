/- From a walk to the statement: a law that returns true and leaves all memory that was there as it was meets its row's closing condition, whatever its parameters' types. -/
import Derived.Test.YtbjanfgipcniiaaGreatDoorReg
import Derived.ProofKit
import Derived.OpenShut
import Derived.Carry
namespace Sd
open Go Go.RowKit Go.ChangeShapes Go.WideShapes Go.ChangeAt
set_option linter.unusedVariables false

/-- what was read of the arguments reads the same behind -/
theorem trodAll_below {H : Type} {enc : TypeId × Value → H} {P : Program} (hl : laidOutB P = true) {W W' : World} (hb : Below W.heap.size W W') :
    ∀ {ts : List TypeId} {vs : List Value} {ds : List (DataW H)} {ps : List MemPlace}, (ts.all fun t => P.readableRec t && decide (t < P.types.size)) = true →
      DataW.TrodAll enc P W 0 (fun _ => true) true ts vs ds ps → (∀ p ∈ ps, p.block < W.heap.size) → DataW.TrodAll enc P W' 0 (fun b => decide (b < W.heap.size)) true ts vs ds ps
  | [], [], [], _, _, h, _ => h
  | t :: ts, v :: vs, d :: ds, ps, hr, h, hp => by
    obtain ⟨p, q, h1, h2, rfl⟩ := h
    simp only [List.all_cons, Bool.and_eq_true, decide_eq_true_eq] at hr
    exact ⟨p, q, Below.trod hl hr.1.1 hr.1.2 h1 hb (fun x hx => hp x (List.mem_append_left _ hx)), trodAll_below hl hb hr.2 h2 (fun x hx => hp x (List.mem_append_right _ hx)), rfl⟩
  | [], [], _ :: _, _, _, h, _ => h.elim
  | [], _ :: _, _, _, _, h, _ => h.elim
  | _ :: _, [], _, _, _, h, _ => h.elim
  | _ :: _, _ :: _, [], _, _, h, _ => h.elim

/-- THE CLOSING CONDITION -/
theorem law_post {H : Type} {enc : TypeId × Value → H} {P : Program} {f : Func} {s : ChangeSpec} {W W' : World} {args : Array Value} {ds gs : List (DataW H)} {before : List MemPlace} {tb : TypeId}
    (hl : laidOutB P = true) (hr : (f.params.toList.all fun t => P.readableRec t && decide (t < P.types.size)) = true) (hvars : s.vars = []) (hres : f.resultTypes = #[tb]) (htb : P.underlying tb = some .bool)
    (hs : s.fn H (ds ++ gs) = { results := [.lit (.bool true)], args := ds, vars := [] }) (hW : DataW.Whole enc P f.params.toList s.vars false W args.toList ds gs before) (hb : Below W.heap.size W W') :
    s.post enc P f false true false false W args (.bool true) W' := by
  have hW0 := hW
  have hlt := fun p hp => hW.lt p hp
  obtain ⟨p, q, hA, hV, rfl, hz, hn⟩ := hW
  rw [hvars] at hV
  obtain ⟨rfl, rfl⟩ := trodVars_none hV
  refine ⟨ds, [], p ++ [], [], p, [], hW0, ?_, ?_, ?_, ?_, fun h => by cases h⟩
  · rw [hs, hres]
    exact trodAll_mk1 (shut_bool htb _)
  · rw [hs]
    exact trodAll_below hl hb hr hA (fun x hx => hlt x (by simpa using hx))
  · rw [hs, hvars]; exact rfl
  · exact hb.frame _

/-! ### parameters, by what they may be alone -/
section
variable {P : Program} {w : World} {r : Reach} {b0 : Nat} {t : TypeId} {v : Value}
/-- a struct or an array of cells: each cell is such as its type says -/
theorem open_cells {d : TypeDesc} {ts : List TypeId} (hu : P.underlying t = some d) (hd : aggD d = true) (hct : P.cellTypes P.depth t = some ts) (hn : P.cellsOf t = ts.length) (hv : Value.okWide P w r b0 t v) :
    ∃ cs : Array Value, v = .agg cs ∧ cs.size = ts.length ∧ ∀ (i : Nat) x u, cs[i]? = some x → ts[i]? = some u → Cell.okWide P w r b0 u x := by
  have h : ∃ cs, v = .agg cs ∧ cs.size = P.cellsOf t ∧ Row.okWide P w r b0 t cs := by
    unfold Value.okWide at hv
    rw [hu] at hv
    cases d <;> first | exact hv | simp [aggD] at hd
  obtain ⟨cs, rfl, hsz, ts', h1, _, h2⟩ := h
  rw [hct] at h1
  obtain rfl : ts = ts' := by simpa using h1
  refine ⟨cs, rfl, hsz.trans hn, ?_⟩
  intro i x u hx hu'
  obtain ⟨u', h3, h4⟩ := h2 i x hx
  have hi : i < ts.length := by
    rcases Nat.lt_or_ge i ts.length with h | h
    · exact h
    · simp [h] at hu'
  rw [Nat.mod_eq_of_lt hi, hu'] at h3
  obtain rfl : u = u' := by simpa using h3
  exact h4
theorem cell_int {k : IntKind} (hu : P.underlying t = some (.int k)) (h : Cell.okWide P w r b0 t v) : ∃ n, v = .int k n ∧ k.min ≤ n ∧ n ≤ k.max := by
  unfold Cell.okWide at h
  rw [hu] at h
  unfold Cell.ok at h
  rw [hu] at h
  cases v <;> simp at h
  obtain ⟨rfl, h1, h2⟩ := h
  exact ⟨_, rfl, h1, h2⟩
theorem cell_i64 (hu : P.underlying t = some (.int .i64)) (h : Cell.okWide P w r b0 t v) : ∃ n, v = .int .i64 n ∧ I64 n := by
  obtain ⟨n, h1, h2, h3⟩ := cell_int hu h
  exact ⟨n, h1, by unfold I64; simpa [IntKind.min, IntKind.max, IntKind.signed, IntKind.bits] using And.intro h2 h3⟩
end
end Sd
