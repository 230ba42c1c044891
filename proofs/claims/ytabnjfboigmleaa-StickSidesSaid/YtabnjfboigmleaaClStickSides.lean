/- StickSides: whichever policy, run and sample, the law returns true. Every input; no condition. -/
import Derived.Test.YtabnjfboigmleaaXStick
import Derived.Test.YtabnjfboigmleaaXOpen
import Derived.Lib.SmallJoins
namespace Go.Proofs.Ytabnjfboigmleaa.stickSides
open Go.ChangeShapes Go.WideShapes Go.ChangeAt Go.RowKit Go.Joins Sd
set_option linter.unusedVariables false

theorem opened (H : Type) (enc : TypeId × Value → H) (W : World) (args : Array Value) (ds gs : List (DataW H)) (before : List MemPlace)
    (hval : ∀ (j : Nat) t v, Try.f6.params[j]? = some t → args[j]? = some v → Value.okWide Try.prog W .any 0 t v)
    (hW : DataW.Whole enc Try.prog Try.f6.params.toList Rows.stickSidesSpec.vars false W args.toList ds gs before) :
    Rows.stickSidesSpec.fn H (ds ++ gs) = { results := [.lit (.bool true)], args := ds, vars := [] } ∧ Calls Try.prog 6 args W fun e W' => e = .returned (.bool true) ∧ Below W.heap.size W W' := by
  obtain ⟨p, q, hA, hV, rfl, hfz, hnd⟩ := hW
  rw [Try.params6] at hA hval
  obtain ⟨v0, v1, v2, d0, d1, d2, p0, p1, p2, hargs, rfl, _⟩ := trodAll_three hA
  obtain rfl : args = #[v0, v1, v2] := by cases args; simp_all
  obtain ⟨rfl, rfl⟩ := trodVars_none hV
  obtain ⟨pq, ka, kn, kc, rfl, hpq, hk⟩ := open_pol (hval 0 37 v0 rfl rfl)
  obtain ⟨r, rfl, hr⟩ := cell_i64 Try.underlying3 (okWide_cell Try.underlying3 rfl (hval 1 3 v1 rfl rfl))
  obtain ⟨cs_v2, rfl, hsz_v2, hcs_v2⟩ := open_cells Try.underlying39 rfl (ts := [4, 3, 3, 3, 3, 4]) (by kernel_rfl) (by kernel_rfl) (hval 2 39 v2 rfl rfl)
  obtain ⟨q0_v2, q1_v2, q2_v2, q3_v2, q4_v2, q5_v2, rfl⟩ := arr6 hsz_v2
  obtain ⟨v, rfl⟩ := cell_bool Try.underlying4 (hcs_v2 0 _ _ rfl rfl)
  obtain ⟨s0, rfl, hs0⟩ := cell_i64 Try.underlying3 (hcs_v2 1 _ _ rfl rfl)
  obtain ⟨s1, rfl, hs1⟩ := cell_i64 Try.underlying3 (hcs_v2 2 _ _ rfl rfl)
  obtain ⟨s2, rfl, hs2⟩ := cell_i64 Try.underlying3 (hcs_v2 3 _ _ rfl rfl)
  obtain ⟨s3, rfl, hs3⟩ := cell_i64 Try.underlying3 (hcs_v2 4 _ _ rfl rfl)
  obtain ⟨g, rfl⟩ := cell_bool Try.underlying4 (hcs_v2 5 _ _ rfl rfl)
  clear hcs_v2 hsz_v2
  exact ⟨rfl, Sx.gives_law (stickSides_any pq ka kn kc r s0 s1 s2 s3 v g hs0 hs1 hs2 hs3 hr (hpq 46) (hpq 47) W)⟩

set_option maxRecDepth 100000 in
theorem lifted (os : Os) (started : os.Started) (H : Type) (enc : TypeId × Value → H) :
    ReturnsInHanded {} Try.checked os 6 .any (Rows.stickSidesSpec.pre6 enc Try.prog Try.f6 Rows.stickSidesRow.domain false) (Rows.stickSidesSpec.post enc Try.prog Try.f6 false true false false) := by
  refine returnsInHanded_of_change (C := Try.checked) (by kernel_rfl) started (by kernel_rfl) Try.func6
    (ChangeSpec.witness6 (enc := enc) (C := Try.checked) false ⟨#[], #[.agg #[.int .i64 0, .int .i64 0, .int .i64 0, .int .i64 0, .int .i64 0, .slice none 0 0, .slice none 0 0, .slice none 0 0, .slice none 0 0, .int .i64 0, .int .i64 0, .int .i64 0, .int .i64 0, .int .i64 0, .int .i64 0, .int .i64 0, .int .i64 0, .int .i64 0, .int .i64 0, .int .i64 0, .int .i64 0, .int .i64 0, .int .i64 0, .int .i64 0, .int .i64 0, .int .i64 0, .int .i64 0, .int .i64 0, .int .i64 0, .int .i64 0, .int .i64 0, .int .i64 0, .int .i64 0, .int .i64 0, .int .i64 0, .int .i64 0, .int .i64 0, .int .i64 0, .int .i64 0, .int .i64 0, .int .i64 0, .int .i64 0, .int .i64 0, .int .i64 0, .int .i64 0, .int .i64 0, .int .i64 0, .int .i64 0, .int .i64 0, .int .i64 0, .int .i64 0, .int .i64 0, .int .i64 0, .int .i64 0, .int .i64 0, .int .i64 0], .int .i64 0, .agg #[.bool false, .int .i64 0, .int .i64 0, .int .i64 0, .int .i64 0, .bool false]], []⟩ 8 (by kernel_rfl) (by kernel_rfl) (by kernel_rfl) (by kernel_rfl)) ?_
  intro W base args ds gs before hval hW hcnd _
  obtain ⟨hs, hc⟩ := opened H enc W args ds gs before hval hW
  refine hc.mono fun e W' ⟨he, hb⟩ => ⟨_, he, ?_⟩
  exact law_post (by kernel_rfl) (by kernel_rfl) rfl (by kernel_rfl) Try.underlying4 hs hW hb

theorem proved : Rows.StickSidesSaid :=
  OpenClaim.holds_of_wide 6 Try.f6 rfl rfl rfl rfl rfl rfl rfl ⟨rfl, rfl, rfl, rfl, rfl⟩ rfl rfl rfl rfl rfl (by kernel_rfl) Try.func6 (by kernel_rfl)
    (of_decide_eq_true (by kernel_rfl)) (by unfold Func.isWrapper; first | (rw [if_pos (by decide +kernel)]; kernel_rfl) | (rw [if_neg (by decide +kernel)]; exact ⟨rfl, rfl⟩))
    (fun os started H enc _ => lifted os started H enc)
#print axioms proved
end Go.Proofs.Ytabnjfboigmleaa.stickSides
