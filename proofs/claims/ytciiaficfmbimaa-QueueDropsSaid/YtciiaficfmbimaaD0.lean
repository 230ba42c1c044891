/- QueueDrops: whichever row of asks and source, the law returns true. Conditions: none. -/
import Derived.Test.YtciiaficfmbimaaB5
import Derived.Test.YtciiaficfmbimaaChecked
import Derived.Test.YtciiaficfmbimaaRows
import Derived.Lib.SmallJoins
set_option linter.unusedVariables false
namespace Go.Proofs.Ytciiaficfmbimaa.queueDrops
open Go.ChangeShapes Go.WideShapes Go.ChangeAt Go.RowKit Go.Joins Sd
set_option maxRecDepth 100000
theorem opened (H : Type) (enc : TypeId × Value → H) (W : World) (args : Array Value) (ds gs : List (DataW H)) (before : List MemPlace)
    (hval : ∀ (j : Nat) t v, Try.f5.params[j]? = some t → args[j]? = some v → Value.okWide Try.prog W .any 0 t v)
    (hW : DataW.Whole enc Try.prog Try.f5.params.toList Rows.queueDropsSpec.vars false W args.toList ds gs before) :
    Rows.queueDropsSpec.fn H (ds ++ gs) = { results := [.lit (.bool true)], args := ds, vars := [] } ∧ Calls Try.prog 5 args W fun e W' => e = .returned (.bool true) ∧ Below W.heap.size W W' := by
  obtain ⟨p, q, hA, hV, rfl, hfz, hnd⟩ := hW
  rw [Try.params5] at hA hval
  obtain ⟨v0, v1, d0, d1, p0, p1, hargs, rfl, ht⟩ := trodAll_two hA
  obtain rfl : args = #[v0, v1] := by cases args; simp_all
  obtain ⟨rfl, rfl⟩ := trodVars_none hV
  obtain ⟨s, rfl, hs⟩ := cell_i64 Try.underlying3 (okWide_cell Try.underlying3 rfl (hval 1 3 v1 rfl rfl))
  have hcell := okWide_cell Try.underlying22 rfl (hval 0 22 v0 rfl rfl)
  have hrd : ∀ k, Sx.Rd Try.prog W k 22 [v0] := fun k => by
    obtain ⟨_, ⟨fuel, h2⟩, _⟩ := ht
    obtain ⟨a, m, c, rfl, _, _⟩ := cell_slice Try.underlying22 hcell
    exact Sx.rd_of_trod k h2
  rcases open_asks hcell hrd with rfl | ⟨fs, i, o, n, c, a, ty, pre, post, h⟩
  · exact ⟨rfl, Sx.gives_law (drops_nil W s)⟩
  · exact ⟨rfl, Sx.gives_law (drops_so s h)⟩
set_option maxRecDepth 100000 in
theorem lifted (os : Os) (started : os.Started) (H : Type) (enc : TypeId × Value → H) :
    ReturnsInHanded {} Try.checked os 5 .any (Rows.queueDropsSpec.pre6 enc Try.prog Try.f5 Rows.queueDropsRow.domain false) (Rows.queueDropsSpec.post enc Try.prog Try.f5 false true false false) := by
  refine returnsInHanded_of_change (C := Try.checked) (by kernel_rfl) started (by kernel_rfl) Try.func5
    (ChangeSpec.witness6 (enc := enc) (C := Try.checked) false ⟨#[], #[.slice none 0 0, .int .i64 0], []⟩ 8 (by kernel_rfl) (by kernel_rfl) (by kernel_rfl) (by kernel_rfl)) ?_
  intro W base args ds gs before hval hW hcnd _
  obtain ⟨hs, hc⟩ := opened H enc W args ds gs before hval hW
  refine hc.mono fun e W' ⟨he, hb⟩ => ⟨_, he, ?_⟩
  exact law_post (by kernel_rfl) (by kernel_rfl) rfl (by kernel_rfl) Try.underlying4 hs hW hb
theorem proved : Rows.QueueDropsSaid :=
  OpenClaim.holds_of_wide 5 Try.f5 rfl rfl rfl rfl rfl rfl rfl ⟨rfl, rfl, rfl, rfl, rfl⟩ rfl rfl rfl rfl rfl (by kernel_rfl) Try.func5 (by kernel_rfl)
    (of_decide_eq_true (by kernel_rfl)) (by unfold Func.isWrapper; first | (rw [if_pos (by decide +kernel)]; kernel_rfl) | (rw [if_neg (by decide +kernel)]; exact ⟨rfl, rfl⟩))
    (fun os started H enc _ => lifted os started H enc)
#print axioms proved
end Go.Proofs.Ytciiaficfmbimaa.queueDrops
