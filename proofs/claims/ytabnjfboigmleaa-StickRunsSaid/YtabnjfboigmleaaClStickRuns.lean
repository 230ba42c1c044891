/- StickRuns: whichever number, bound and samples, the law returns true. Every input; no condition. -/
import Derived.Test.YtabnjfboigmleaaXRuns
import Derived.Test.YtabnjfboigmleaaXOpen
import Derived.Test.YtabnjfboigmleaaSR
import Derived.Lib.SmallJoins
namespace Go.Proofs.Ytabnjfboigmleaa.stickRuns
open Go.ChangeShapes Go.WideShapes Go.ChangeAt Go.RowKit Go.Joins Sd
set_option linter.unusedVariables false

theorem opened (H : Type) (enc : TypeId × Value → H) (W : World) (args : Array Value) (ds gs : List (DataW H)) (before : List MemPlace)
    (hval : ∀ (j : Nat) t v, Try.f5.params[j]? = some t → args[j]? = some v → Value.okWide Try.prog W .any 0 t v)
    (hW : DataW.Whole enc Try.prog Try.f5.params.toList Rows.stickRunsSpec.vars false W args.toList ds gs before) :
    Rows.stickRunsSpec.fn H (ds ++ gs) = { results := [.lit (.bool true)], args := ds, vars := [] } ∧ Calls Try.prog 5 args W fun e W' => e = .returned (.bool true) ∧ Below W.heap.size W W' := by
  obtain ⟨p, q, hA, hV, rfl, hfz, hnd⟩ := hW
  rw [Try.params5] at hA hval
  obtain ⟨v0, v1, v2, d0, d1, d2, p0, p1, p2, hargs, rfl, ht⟩ := trodAll_three hA
  obtain rfl : args = #[v0, v1, v2] := by cases args; simp_all
  obtain ⟨rfl, rfl⟩ := trodVars_none hV
  obtain ⟨n, rfl, hn⟩ := cell_u8 Try.underlying5 (okWide_cell Try.underlying5 rfl (hval 0 5 v0 rfl rfl))
  obtain ⟨b, rfl, hb⟩ := cell_u16 Try.underlying22 (okWide_cell Try.underlying22 rfl (hval 1 22 v1 rfl rfl))
  have hcell := okWide_cell Try.underlying30 rfl (hval 2 30 v2 rfl rfl)
  obtain ⟨a, m, c, rfl, hmc, ho⟩ := cell_slice Try.underlying30 hcell
  have hrd : ∀ k, Sx.Rd Try.prog W k 30 [.slice a m c] := fun k => by
    obtain ⟨fuel, h2⟩ := ht.2.2.2
    exact Sx.rd_of_trod k h2
  rcases ho with ⟨rfl, rfl, rfl⟩ | ⟨x, rfl, hc63, hhas⟩
  · exact ⟨rfl, Sx.gives_law (stickRuns_nil n b hn hb W)⟩
  obtain ⟨bk, off, spot⟩ := x
  obtain rfl : spot = none := hhas.2.1
  rcases Sx.rd_slice Try.underlying30 hrd (z := 6) rfl 5 (ts := [4, 3, 3, 3, 3, 4]) with h0 | ⟨a', len', cap', h0, _, _, C, hC⟩
  · simp at h0
  simp only [Value.slice.injEq, Option.some.injEq] at h0
  obtain ⟨rfl, rfl, rfl⟩ := h0
  let vd : Nat → Bool := fun k => match C k 0 with | .bool b => b | _ => false
  let gv : Nat → Bool := fun k => match C k 5 with | .bool b => b | _ => false
  let xs : Nat → Nat → Int := fun k j => if k < c ∧ j < 4 then (match C k (j + 1) with | .int _ n => n | _ => 0) else 0
  have hI : ∀ k, k < c → ∀ j, j < 4 → C k (j + 1) = .int .i64 (xs k j) ∧ I64 (xs k j) := by
    intro k hk j hj
    have ht : ([4, 3, 3, 3, 3, 4] : List Nat)[j + 1]? = some 3 := by
      have : j = 0 ∨ j = 1 ∨ j = 2 ∨ j = 3 := by omega
      rcases this with rfl | rfl | rfl | rfl <;> rfl
    obtain ⟨n, h1, h2⟩ := Sx.rd_int Try.underlying3 ((hC k hk (j + 1) (by omega)).2 _ ht)
    have : xs k j = n := by simp only [xs, hk, hj, h1, and_self, if_true]
    rw [this]
    exact ⟨h1, by unfold I64; simpa [IntKind.min, IntKind.max, IntKind.signed, IntKind.bits] using h2⟩
  refine ⟨rfl, Sx.gives_law (stickRuns_row n b bk off m c vd gv xs hn hb ?_ W ?_)⟩
  · intro k j
    by_cases h : k < c ∧ j < 4
    · exact (hI k h.1 j h.2).2
    · have : xs k j = 0 := by simp only [xs, if_neg h]
      rw [this]; omega
  · intro k hk j v hv
    have hk' : k < c := by omega
    have hadd : ∀ q : Nat, (⟨bk, off, none⟩ : Addr).add q = ⟨bk, off + q, none⟩ := fun q => by
      by_cases hq : q = 0
      · subst hq; rfl
      · simp [Addr.add, hq]
    have hcell : ∀ j, j < 6 → W.cell? ⟨bk, off + k * 6 + j, none⟩ = some (C k j) := fun j hj => by
      have := (hC k hk' j hj).1
      rw [hadd] at this
      rw [Nat.add_assoc]; exact this
    match j, hv with
    | 0, hv =>
      obtain ⟨y, hy⟩ := Sx.rd_bool Try.underlying4 ((hC k hk' 0 (by omega)).2 _ rfl)
      rw [hcell 0 (by omega), ← hv, hy]; simp only [vd, hy]; rfl
    | 1, hv => rw [hcell 1 (by omega), ← hv, (hI k hk' 0 (by omega)).1]; rfl
    | 2, hv => rw [hcell 2 (by omega), ← hv, (hI k hk' 1 (by omega)).1]; rfl
    | 3, hv => rw [hcell 3 (by omega), ← hv, (hI k hk' 2 (by omega)).1]; rfl
    | 4, hv => rw [hcell 4 (by omega), ← hv, (hI k hk' 3 (by omega)).1]; rfl
    | 5, hv =>
      obtain ⟨y, hy⟩ := Sx.rd_bool Try.underlying4 ((hC k hk' 5 (by omega)).2 _ rfl)
      rw [hcell 5 (by omega), ← hv, hy]; simp only [gv, hy]; rfl
    | j + 6, hv => simp at hv

set_option maxRecDepth 100000 in
theorem lifted (os : Os) (started : os.Started) (H : Type) (enc : TypeId × Value → H) :
    ReturnsInHanded {} Try.checked os 5 .any (Rows.stickRunsSpec.pre6 enc Try.prog Try.f5 Rows.stickRunsRow.domain false) (Rows.stickRunsSpec.post enc Try.prog Try.f5 false true false false) := by
  refine returnsInHanded_of_change (C := Try.checked) (by kernel_rfl) started (by kernel_rfl) Try.func5
    (ChangeSpec.witness6 (enc := enc) (C := Try.checked) false ⟨#[], #[.int .u8 0, .int .u16 0, .slice none 0 0], []⟩ 8 (by kernel_rfl) (by kernel_rfl) (by kernel_rfl) (by kernel_rfl)) ?_
  intro W base args ds gs before hval hW hcnd _
  obtain ⟨hs, hc⟩ := opened H enc W args ds gs before hval hW
  refine hc.mono fun e W' ⟨he, hb⟩ => ⟨_, he, ?_⟩
  exact law_post (by kernel_rfl) (by kernel_rfl) rfl (by kernel_rfl) Try.underlying4 hs hW hb

theorem proved : Rows.StickRunsSaid :=
  OpenClaim.holds_of_wide 5 Try.f5 rfl rfl rfl rfl rfl rfl rfl ⟨rfl, rfl, rfl, rfl, rfl⟩ rfl rfl rfl rfl rfl (by kernel_rfl) Try.func5 (by kernel_rfl)
    (of_decide_eq_true (by kernel_rfl)) (by unfold Func.isWrapper; first | (rw [if_pos (by decide +kernel)]; kernel_rfl) | (rw [if_neg (by decide +kernel)]; exact ⟨rfl, rfl⟩))
    (fun os started H enc _ => lifted os started H enc)
#print axioms proved
end Go.Proofs.Ytabnjfboigmleaa.stickRuns
