/- TokenKeeps: for every token and every number as the next holder the law returns true. Every input; no condition. -/
import Derived.Test.YtabnjfboigmleaaLawToken
import Derived.Test.YtabnjfboigmleaaPost
import Derived.Lib.SmallJoins
namespace Go.Proofs.Ytabnjfboigmleaa.tokenKeeps
open Go.ChangeShapes Go.WideShapes Go.ChangeAt Go.RowKit Go.Joins Sd
set_option linter.unusedVariables false

theorem opened (H : Type) (enc : TypeId × Value → H) (W : World) (args : Array Value) (ds gs : List (DataW H)) (before : List MemPlace)
    (hval : ∀ (j : Nat) t v, Try.f8.params[j]? = some t → args[j]? = some v → Value.okWide Try.prog W .any 0 t v)
    (hW : DataW.Whole enc Try.prog Try.f8.params.toList Rows.tokenKeepsSpec.vars false W args.toList ds gs before) :
    Rows.tokenKeepsSpec.fn H (ds ++ gs) = { results := [.lit (.bool true)], args := ds, vars := [] } ∧ Calls Try.prog 8 args W fun e W' => e = .returned (.bool true) ∧ Below W.heap.size W W' := by
  obtain ⟨p, q, hA, hV, rfl, hfz, hnd⟩ := hW
  rw [Try.params8] at hA hval
  obtain ⟨v0, v1, d0, d1, p0, p1, hargs, rfl, _⟩ := trodAll_two hA
  obtain rfl : args = #[v0, v1] := by cases args; simp_all
  obtain ⟨rfl, rfl⟩ := trodVars_none hV
  obtain ⟨cs_v0, rfl, hsz_v0, hcs_v0⟩ := open_cells Try.underlying47 rfl (ts := [3, 3, 3, 3, 3, 3, 3, 4]) (by kernel_rfl) (by kernel_rfl) (hval 0 47 v0 rfl rfl)
  obtain ⟨q0_v0, q1_v0, q2_v0, q3_v0, q4_v0, q5_v0, q6_v0, q7_v0, rfl⟩ := arr8 hsz_v0
  obtain ⟨h, rfl, hh⟩ := cell_i64 Try.underlying3 (hcs_v0 0 _ _ rfl rfl)
  obtain ⟨e, rfl, he⟩ := cell_i64 Try.underlying3 (hcs_v0 1 _ _ rfl rfl)
  obtain ⟨o, rfl, ho⟩ := cell_i64 Try.underlying3 (hcs_v0 2 _ _ rfl rfl)
  obtain ⟨a1, rfl, ha1⟩ := cell_i64 Try.underlying3 (hcs_v0 3 _ _ rfl rfl)
  obtain ⟨a2, rfl, ha2⟩ := cell_i64 Try.underlying3 (hcs_v0 4 _ _ rfl rfl)
  obtain ⟨b1, rfl, hb1⟩ := cell_i64 Try.underlying3 (hcs_v0 5 _ _ rfl rfl)
  obtain ⟨b2, rfl, hb2⟩ := cell_i64 Try.underlying3 (hcs_v0 6 _ _ rfl rfl)
  obtain ⟨bd, rfl⟩ := cell_bool Try.underlying4 (hcs_v0 7 _ _ rfl rfl)
  clear hcs_v0 hsz_v0
  obtain ⟨to_, rfl, hto_⟩ := cell_i64 Try.underlying3 (okWide_cell Try.underlying3 rfl (hval 1 3 v1 rfl rfl))
  exact ⟨rfl, tokenKeeps_any h e o a1 a2 b1 b2 bd to_ W he⟩

set_option maxRecDepth 100000 in
theorem lifted (os : Os) (started : os.Started) (H : Type) (enc : TypeId × Value → H) :
    ReturnsInHanded {} Try.checked os 8 .any (Rows.tokenKeepsSpec.pre6 enc Try.prog Try.f8 Rows.tokenKeepsRow.domain false) (Rows.tokenKeepsSpec.post enc Try.prog Try.f8 false true false false) := by
  refine returnsInHanded_of_change (C := Try.checked) (by kernel_rfl) started (by kernel_rfl) Try.func8
    (ChangeSpec.witness6 (enc := enc) (C := Try.checked) false ⟨#[], #[.agg #[.int .i64 0, .int .i64 0, .int .i64 0, .int .i64 0, .int .i64 0, .int .i64 0, .int .i64 0, .bool false], .int .i64 0], []⟩ 8 (by kernel_rfl) (by kernel_rfl) (by kernel_rfl) (by kernel_rfl)) ?_
  intro W base args ds gs before hval hW hcnd _
  obtain ⟨hs, hc⟩ := opened H enc W args ds gs before hval hW
  refine hc.mono fun e W' ⟨he, hb⟩ => ⟨_, he, ?_⟩
  exact law_post (by kernel_rfl) (by kernel_rfl) rfl (by kernel_rfl) Try.underlying4 hs hW hb

theorem proved : Rows.TokenKeepsSaid :=
  OpenClaim.holds_of_wide 8 Try.f8 rfl rfl rfl rfl rfl rfl rfl ⟨rfl, rfl, rfl, rfl, rfl⟩ rfl rfl rfl rfl rfl (by kernel_rfl) Try.func8 (by kernel_rfl)
    (of_decide_eq_true (by kernel_rfl)) (by unfold Func.isWrapper; first | (rw [if_pos (by decide +kernel)]; kernel_rfl) | (rw [if_neg (by decide +kernel)]; exact ⟨rfl, rfl⟩))
    (fun os started H enc _ => lifted os started H enc)
#print axioms proved
end Go.Proofs.Ytabnjfboigmleaa.tokenKeeps
