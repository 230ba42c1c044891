/- TokenSeizes: whoever holds the token, at whichever epoch, the law returns true. Every input; no condition. -/
import Derived.Test.YtabnjfboigmleaaLawSeize
import Derived.Test.YtabnjfboigmleaaPost
import Derived.Lib.SmallJoins
namespace Go.Proofs.Ytabnjfboigmleaa.tokenSeizes
open Go.ChangeShapes Go.WideShapes Go.ChangeAt Go.RowKit Go.Joins Sd
set_option linter.unusedVariables false

theorem opened (H : Type) (enc : TypeId × Value → H) (W : World) (args : Array Value) (ds gs : List (DataW H)) (before : List MemPlace)
    (hval : ∀ (j : Nat) t v, Try.f9.params[j]? = some t → args[j]? = some v → Value.okWide Try.prog W .any 0 t v)
    (hW : DataW.Whole enc Try.prog Try.f9.params.toList Rows.tokenSeizesSpec.vars false W args.toList ds gs before) :
    Rows.tokenSeizesSpec.fn H (ds ++ gs) = { results := [.lit (.bool true)], args := ds, vars := [] } ∧ Calls Try.prog 9 args W fun e W' => e = .returned (.bool true) ∧ Below W.heap.size W W' := by
  obtain ⟨p, q, hA, hV, rfl, hfz, hnd⟩ := hW
  rw [Try.params9] at hA hval
  obtain ⟨v0, v1, v2, d0, d1, d2, p0, p1, p2, hargs, rfl, _⟩ := trodAll_three hA
  obtain rfl : args = #[v0, v1, v2] := by cases args; simp_all
  obtain ⟨rfl, rfl⟩ := trodVars_none hV
  obtain ⟨cs_v0, rfl, hsz_v0, hcs_v0⟩ := open_cells Try.underlying53 rfl (ts := [5, 5]) (by kernel_rfl) (by kernel_rfl) (hval 0 53 v0 rfl rfl)
  obtain ⟨q0_v0, q1_v0, rfl⟩ := arr2 hsz_v0
  obtain ⟨x0, rfl, hx0⟩ := cell_u8 Try.underlying5 (hcs_v0 0 _ _ rfl rfl)
  obtain ⟨x1, rfl, hx1⟩ := cell_u8 Try.underlying5 (hcs_v0 1 _ _ rfl rfl)
  clear hcs_v0 hsz_v0
  obtain ⟨e, rfl, he⟩ := cell_u16 Try.underlying22 (okWide_cell Try.underlying22 rfl (hval 1 22 v1 rfl rfl))
  obtain ⟨bd, rfl⟩ := cell_bool Try.underlying4 (okWide_cell Try.underlying4 rfl (hval 2 4 v2 rfl rfl))
  exact ⟨rfl, seizes_any x0 x1 e bd W hx0 hx1 he⟩

set_option maxRecDepth 100000 in
theorem lifted (os : Os) (started : os.Started) (H : Type) (enc : TypeId × Value → H) :
    ReturnsInHanded {} Try.checked os 9 .any (Rows.tokenSeizesSpec.pre6 enc Try.prog Try.f9 Rows.tokenSeizesRow.domain false) (Rows.tokenSeizesSpec.post enc Try.prog Try.f9 false true false false) := by
  refine returnsInHanded_of_change (C := Try.checked) (by kernel_rfl) started (by kernel_rfl) Try.func9
    (ChangeSpec.witness6 (enc := enc) (C := Try.checked) false ⟨#[], #[.agg #[.int .u8 0, .int .u8 0], .int .u16 0, .bool false], []⟩ 8 (by kernel_rfl) (by kernel_rfl) (by kernel_rfl) (by kernel_rfl)) ?_
  intro W base args ds gs before hval hW hcnd _
  obtain ⟨hs, hc⟩ := opened H enc W args ds gs before hval hW
  refine hc.mono fun e W' ⟨he, hb⟩ => ⟨_, he, ?_⟩
  exact law_post (by kernel_rfl) (by kernel_rfl) rfl (by kernel_rfl) Try.underlying4 hs hW hb

theorem proved : Rows.TokenSeizesSaid :=
  OpenClaim.holds_of_wide 9 Try.f9 rfl rfl rfl rfl rfl rfl rfl ⟨rfl, rfl, rfl, rfl, rfl⟩ rfl rfl rfl rfl rfl (by kernel_rfl) Try.func9 (by kernel_rfl)
    (of_decide_eq_true (by kernel_rfl)) (by unfold Func.isWrapper; first | (rw [if_pos (by decide +kernel)]; kernel_rfl) | (rw [if_neg (by decide +kernel)]; exact ⟨rfl, rfl⟩))
    (fun os started H enc _ => lifted os started H enc)
#print axioms proved
end Go.Proofs.Ytabnjfboigmleaa.tokenSeizes
