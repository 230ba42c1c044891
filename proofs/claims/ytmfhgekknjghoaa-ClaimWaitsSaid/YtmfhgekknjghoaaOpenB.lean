/- A slice of bytes that comes in: nil, or a row of bytes. -/
import Derived.Test.YtmfhgekknjghoaaOpenK
namespace Go.Proofs.Ytmfhgekknjghoaa
open Go Go.RowKit Go.WideShapes Sd Sx
set_option linter.unusedVariables false
set_option maxRecDepth 100000
theorem open_row8 {W : World} {v : Value} (hv : Value.okWide Try.prog W .any 0 43 v) (hr : ∀ n, Rd Try.prog W n 43 v.cells.toList) :
    v = .slice none 0 0 ∨ ∃ (b o n c : Nat) (kb : Nat → Int), v = .slice (some ⟨b, o, none⟩) n c ∧ n ≤ c ∧ (c : Int) ≤ 9223372036854775807 ∧ (∀ k : Nat, 0 ≤ kb k ∧ kb k ≤ 255) ∧ ∀ k : Nat, k < n → W.cell? ⟨b, o + k, none⟩ = some (.int .u8 (kb k)) := by
  obtain ⟨a, m, c, rfl, h1, h2⟩ := cell_slice Try.underlying43 (okWide_cell Try.underlying43 rfl hv)
  rcases h2 with ⟨rfl, rfl, rfl⟩ | ⟨x, rfl, hc, hh⟩
  · exact .inl rfl
  obtain ⟨b, o, spot⟩ := x
  obtain rfl : spot = none := hh.2.1
  rcases rd_slice Try.underlying43 hr (z := 1) (by kernel_rfl) 5 (ts := [5]) (by kernel_rfl) with h0 | ⟨a', len', cap', h0, _, _, C, hC⟩
  · simp at h0
  simp only [Value.slice.injEq, Option.some.injEq] at h0
  obtain ⟨rfl, rfl, rfl⟩ := h0
  have hadd : ∀ q : Nat, (⟨b, o, none⟩ : Addr).add q = ⟨b, o + q, none⟩ := fun q => by
    by_cases hq : q = 0
    · subst hq; rfl
    · simp [Addr.add, hq]
  let kb : Nat → Int := fun k => if k < c then (match C k 0 with | .int _ n => n | _ => 0) else 0
  have hk : ∀ k, k < c → C k 0 = .int .u8 (kb k) ∧ 0 ≤ kb k ∧ kb k ≤ 255 := fun k h => by
    obtain ⟨n, h5, h6⟩ := rd_int Try.underlying5 ((hC k h 0 (by omega)).2 _ rfl)
    have : kb k = n := by simp only [kb, h, if_true, h5]
    rw [this]
    exact ⟨h5, by simpa [IntKind.min, IntKind.max, IntKind.signed, IntKind.bits] using h6⟩
  refine .inr ⟨b, o, m, c, kb, rfl, h1, hc, fun k => ?_, fun k h => ?_⟩
  · by_cases h : k < c
    · exact (hk k h).2
    · have : kb k = 0 := by simp only [kb, if_neg h]
      rw [this]; omega
  · have h3 := (hC k (by omega) 0 (by omega)).1
    rw [(hk k (by omega)).1, hadd] at h3
    simpa using h3
end Go.Proofs.Ytmfhgekknjghoaa
