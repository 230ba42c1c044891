/- ClaimWaits: whichever policy, whoever asks, however many may wait, the law returns true. Every input; no condition. -/
import Derived.Test.YtmfhgekknjghoaaD4
import Derived.Test.YtmfhgekknjghoaaOpenB
import Derived.Lib.SmallJoins
namespace Go.Proofs.Ytmfhgekknjghoaa.claimWaits
open Go.ChangeShapes Go.WideShapes Go.ChangeAt Go.RowKit Go.Joins Sd
set_option linter.unusedVariables false
set_option maxRecDepth 100000

theorem opened (H : Type) (enc : TypeId × Value → H) (W : World) (args : Array Value) (ds gs : List (DataW H)) (before : List MemPlace)
    (hval : ∀ (j : Nat) t v, Try.f7.params[j]? = some t → args[j]? = some v → Value.okWide Try.prog W .any 0 t v)
    (hW : DataW.Whole enc Try.prog Try.f7.params.toList Rows.claimWaitsSpec.vars false W args.toList ds gs before) :
    Rows.claimWaitsSpec.fn H (ds ++ gs) = { results := [.lit (.bool true)], args := ds, vars := [] } ∧ Calls Try.prog 7 args W fun e W' => e = .returned (.bool true) ∧ Below W.heap.size W W' := by
  obtain ⟨p, q, hA, hV, rfl, hfz, hnd⟩ := hW
  rw [Try.params7] at hA hval
  obtain ⟨v0, v1, v2, d0, d1, d2, p0, p1, p2, hargs, rfl, _, ht0, ht1, _⟩ := trodAll_three hA
  obtain rfl : args = #[v0, v1, v2] := by cases args; simp_all
  obtain ⟨rfl, rfl⟩ := trodVars_none hV
  obtain ⟨pq, ka, kn, kc, kb, rfl, hpq, hk⟩ := open_polK (hval 0 48 v0 rfl rfl) (fun n => by obtain ⟨fuel, h⟩ := ht0; exact Sx.rd_of_trod n h)
  obtain ⟨mo, rfl, hmo⟩ := cell_u8 Try.underlying5 (okWide_cell Try.underlying5 rfl (hval 2 5 v2 rfl rfl))
  rcases open_row8 (hval 1 43 v1 rfl rfl) (fun n => by obtain ⟨fuel, h⟩ := ht1; exact Sx.rd_of_trod n h) with rfl | ⟨b, o, n, c, kb8, rfl, _, _, hx, hl⟩
  · exact ⟨rfl, Sx.gives_law (claimWaits_nil pq ka kn kc kb mo hmo W hpq hk)⟩
  · refine ⟨rfl, Sx.gives_law (claimWaits_row pq ka kn kc kb b o n c kb8 hx mo hmo W hpq hk fun k h j v hj => ?_)⟩
    match j, hj with
    | 0, hj =>
      obtain rfl : Value.int .u8 (kb8 k) = v := by simpa using hj
      simpa using hl k h
    | j + 1, hj => simp at hj

set_option maxRecDepth 100000 in
theorem lifted (os : Os) (started : os.Started) (H : Type) (enc : TypeId × Value → H) :
    ReturnsInHanded {} Try.checked os 7 .any (Rows.claimWaitsSpec.pre6 enc Try.prog Try.f7 Rows.claimWaitsRow.domain false) (Rows.claimWaitsSpec.post enc Try.prog Try.f7 false true false false) := by
  refine returnsInHanded_of_change (C := Try.checked) (by kernel_rfl) started (by kernel_rfl) Try.func7
    (ChangeSpec.witness6 (enc := enc) (C := Try.checked) false ⟨#[], #[.agg #[.int .i64 0, .int .i64 0, .int .i64 0, .int .i64 0, .int .i64 0, .slice none 0 0, .slice none 0 0, .slice none 0 0, .slice none 0 0, .int .i64 0, .int .i64 0, .int .i64 0, .int .i64 0, .int .i64 0, .int .i64 0, .int .i64 0, .int .i64 0, .int .i64 0, .int .i64 0, .int .i64 0, .int .i64 0, .int .i64 0, .int .i64 0, .int .i64 0, .int .i64 0, .int .i64 0, .int .i64 0, .int .i64 0, .int .i64 0, .int .i64 0, .int .i64 0, .int .i64 0, .int .i64 0, .int .i64 0, .int .i64 0, .int .i64 0, .int .i64 0, .int .i64 0, .int .i64 0, .int .i64 0, .int .i64 0, .int .i64 0, .int .i64 0, .int .i64 0, .int .i64 0, .int .i64 0, .int .i64 0, .int .i64 0, .int .i64 0, .int .i64 0, .int .i64 0, .int .i64 0, .int .i64 0, .int .i64 0, .int .i64 0, .int .i64 0], .slice none 0 0, .int .u8 0], []⟩ 8 (by kernel_rfl) (by kernel_rfl) (by kernel_rfl) (by kernel_rfl)) ?_
  intro W base args ds gs before hval hW hcnd _
  obtain ⟨hs, hc⟩ := opened H enc W args ds gs before hval hW
  refine hc.mono fun e W' ⟨he, hb⟩ => ⟨_, he, ?_⟩
  exact law_post (by kernel_rfl) (by kernel_rfl) rfl (by kernel_rfl) Try.underlying4 hs hW hb

theorem proved : Rows.ClaimWaitsSaid :=
  OpenClaim.holds_of_wide 7 Try.f7 rfl rfl rfl rfl rfl rfl rfl ⟨rfl, rfl, rfl, rfl, rfl⟩ rfl rfl rfl rfl rfl (by kernel_rfl) Try.func7 (by kernel_rfl)
    (of_decide_eq_true (by kernel_rfl)) (by unfold Func.isWrapper; first | (rw [if_pos (by decide +kernel)]; kernel_rfl) | (rw [if_neg (by decide +kernel)]; exact ⟨rfl, rfl⟩))
    (fun os started H enc _ => lifted os started H enc)
#print axioms proved
end Go.Proofs.Ytmfhgekknjghoaa.claimWaits
