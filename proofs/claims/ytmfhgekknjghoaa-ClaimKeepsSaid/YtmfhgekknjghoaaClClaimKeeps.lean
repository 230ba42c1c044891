/- ClaimKeeps: whichever policy, token, call, and whoever waits, the law returns true. Every input; no condition. -/
import Derived.Test.YtmfhgekknjghoaaD6
import Derived.Test.YtmfhgekknjghoaaOpenK
import Derived.Lib.SmallJoins
namespace Go.Proofs.Ytmfhgekknjghoaa.claimKeeps
open Go.ChangeShapes Go.WideShapes Go.ChangeAt Go.RowKit Go.Joins Sd
set_option linter.unusedVariables false
set_option maxRecDepth 100000

theorem opened (H : Type) (enc : TypeId × Value → H) (W : World) (args : Array Value) (ds gs : List (DataW H)) (before : List MemPlace)
    (hval : ∀ (j : Nat) t v, Try.f8.params[j]? = some t → args[j]? = some v → Value.okWide Try.prog W .any 0 t v)
    (hW : DataW.Whole enc Try.prog Try.f8.params.toList Rows.claimKeepsSpec.vars false W args.toList ds gs before) :
    Rows.claimKeepsSpec.fn H (ds ++ gs) = { results := [.lit (.bool true)], args := ds, vars := [] } ∧ Calls Try.prog 8 args W fun e W' => e = .returned (.bool true) ∧ Below W.heap.size W W' := by
  obtain ⟨p, q, hA, hV, rfl, hfz, hnd⟩ := hW
  rw [Try.params8] at hA hval
  obtain ⟨v0, v1, v2, d0, d1, d2, p0, p1, p2, hargs, rfl, _, ht0, _⟩ := trodAll_three hA
  obtain rfl : args = #[v0, v1, v2] := by cases args; simp_all
  obtain ⟨rfl, rfl⟩ := trodVars_none hV
  obtain ⟨pq, ka, kn, kc, kb, rfl, hpq, hk⟩ := open_polK (hval 0 48 v0 rfl rfl) (fun n => by obtain ⟨fuel, h⟩ := ht0; exact Sx.rd_of_trod n h)
  obtain ⟨cs_v1, rfl, hsz_v1, hcs_v1⟩ := open_cells Try.underlying54 rfl (ts := [3, 3, 3, 3, 3, 3, 3, 4]) (by kernel_rfl) (by kernel_rfl) (hval 1 54 v1 rfl rfl)
  obtain ⟨q0_v1, q1_v1, q2_v1, q3_v1, q4_v1, q5_v1, q6_v1, q7_v1, rfl⟩ := arr8 hsz_v1
  obtain ⟨th, rfl, hth⟩ := cell_i64 Try.underlying3 (hcs_v1 0 _ _ rfl rfl)
  obtain ⟨te, rfl, hte⟩ := cell_i64 Try.underlying3 (hcs_v1 1 _ _ rfl rfl)
  obtain ⟨tf, rfl, htf⟩ := cell_i64 Try.underlying3 (hcs_v1 2 _ _ rfl rfl)
  obtain ⟨t1, rfl, ht1⟩ := cell_i64 Try.underlying3 (hcs_v1 3 _ _ rfl rfl)
  obtain ⟨t2, rfl, ht2⟩ := cell_i64 Try.underlying3 (hcs_v1 4 _ _ rfl rfl)
  obtain ⟨t3, rfl, ht3⟩ := cell_i64 Try.underlying3 (hcs_v1 5 _ _ rfl rfl)
  obtain ⟨t4, rfl, ht4⟩ := cell_i64 Try.underlying3 (hcs_v1 6 _ _ rfl rfl)
  obtain ⟨tb, rfl⟩ := cell_bool Try.underlying4 (hcs_v1 7 _ _ rfl rfl)
  clear hcs_v1 hsz_v1
  obtain ⟨cs_v2, rfl, hsz_v2, hcs_v2⟩ := open_cells Try.underlying64 rfl (ts := [5, 3, 4]) (by kernel_rfl) (by kernel_rfl) (hval 2 64 v2 rfl rfl)
  obtain ⟨q0_v2, q1_v2, q2_v2, rfl⟩ := arr3 hsz_v2
  obtain ⟨kd, rfl, hkd⟩ := cell_u8 Try.underlying5 (hcs_v2 0 _ _ rfl rfl)
  obtain ⟨f, rfl, hf⟩ := cell_i64 Try.underlying3 (hcs_v2 1 _ _ rfl rfl)
  obtain ⟨nw, rfl⟩ := cell_bool Try.underlying4 (hcs_v2 2 _ _ rfl rfl)
  clear hcs_v2 hsz_v2
  exact ⟨rfl, Sx.gives_law (claimKeeps_any pq ka kn kc kb ⟨th, te, tf, ⟨t1, t2⟩, ⟨t3, t4⟩, tb⟩ kd f nw hkd hte hf W hpq hk)⟩

set_option maxRecDepth 100000 in
theorem lifted (os : Os) (started : os.Started) (H : Type) (enc : TypeId × Value → H) :
    ReturnsInHanded {} Try.checked os 8 .any (Rows.claimKeepsSpec.pre6 enc Try.prog Try.f8 Rows.claimKeepsRow.domain false) (Rows.claimKeepsSpec.post enc Try.prog Try.f8 false true false false) := by
  refine returnsInHanded_of_change (C := Try.checked) (by kernel_rfl) started (by kernel_rfl) Try.func8
    (ChangeSpec.witness6 (enc := enc) (C := Try.checked) false ⟨#[], #[.agg #[.int .i64 0, .int .i64 0, .int .i64 0, .int .i64 0, .int .i64 0, .slice none 0 0, .slice none 0 0, .slice none 0 0, .slice none 0 0, .int .i64 0, .int .i64 0, .int .i64 0, .int .i64 0, .int .i64 0, .int .i64 0, .int .i64 0, .int .i64 0, .int .i64 0, .int .i64 0, .int .i64 0, .int .i64 0, .int .i64 0, .int .i64 0, .int .i64 0, .int .i64 0, .int .i64 0, .int .i64 0, .int .i64 0, .int .i64 0, .int .i64 0, .int .i64 0, .int .i64 0, .int .i64 0, .int .i64 0, .int .i64 0, .int .i64 0, .int .i64 0, .int .i64 0, .int .i64 0, .int .i64 0, .int .i64 0, .int .i64 0, .int .i64 0, .int .i64 0, .int .i64 0, .int .i64 0, .int .i64 0, .int .i64 0, .int .i64 0, .int .i64 0, .int .i64 0, .int .i64 0, .int .i64 0, .int .i64 0, .int .i64 0, .int .i64 0], .agg #[.int .i64 0, .int .i64 0, .int .i64 0, .int .i64 0, .int .i64 0, .int .i64 0, .int .i64 0, .bool false], .agg #[.int .u8 0, .int .i64 0, .bool false]], []⟩ 8 (by kernel_rfl) (by kernel_rfl) (by kernel_rfl) (by kernel_rfl)) ?_
  intro W base args ds gs before hval hW hcnd _
  obtain ⟨hs, hc⟩ := opened H enc W args ds gs before hval hW
  refine hc.mono fun e W' ⟨he, hb⟩ => ⟨_, he, ?_⟩
  exact law_post (by kernel_rfl) (by kernel_rfl) rfl (by kernel_rfl) Try.underlying4 hs hW hb

theorem proved : Rows.ClaimKeepsSaid :=
  OpenClaim.holds_of_wide 8 Try.f8 rfl rfl rfl rfl rfl rfl rfl ⟨rfl, rfl, rfl, rfl, rfl⟩ rfl rfl rfl rfl rfl (by kernel_rfl) Try.func8 (by kernel_rfl)
    (of_decide_eq_true (by kernel_rfl)) (by unfold Func.isWrapper; first | (rw [if_pos (by decide +kernel)]; kernel_rfl) | (rw [if_neg (by decide +kernel)]; exact ⟨rfl, rfl⟩))
    (fun os started H enc _ => lifted os started H enc)
#print axioms proved
end Go.Proofs.Ytmfhgekknjghoaa.claimKeeps
