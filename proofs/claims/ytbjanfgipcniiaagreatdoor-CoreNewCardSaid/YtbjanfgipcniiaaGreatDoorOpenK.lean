/- A policy that comes in: its numbers, and its keys' bytes. -/
import Derived.Test.YtbjanfgipcniiaaGreatDoorXOpen
import Derived.Test.YtbjanfgipcniiaaGreatDoorXFit
import Derived.Test.YtbjanfgipcniiaaGreatDoorSR
namespace Go.Proofs.YtbjanfgipcniiaaGreatDoor
open Go Go.RowKit Go.WideShapes Sd Sx
set_option linter.unusedVariables false
set_option maxRecDepth 100000
theorem open_key {W : World} {a : Option Addr} {m c : Nat} (hcell : ∀ n, Rd Tryz.prog W n 23 [.slice a m c]) (hk : KeyOk W a m c) : ∃ kb : Nat → Int, KeyIn [] W a m c kb := by
  obtain ⟨h1, h2⟩ := hk
  rcases h2 with ⟨e1, e2, e3⟩ | ⟨x, e1, hc, hh⟩
  · exact ⟨fun _ => 0, h1, fun _ => ⟨e2, e3⟩, fun ad ha => by rw [e1] at ha; cases ha⟩
  · rcases rd_slice Tryz.underlying23 hcell (z := 1) (by kernel_rfl) 5 (ts := [5]) (by kernel_rfl) with h0 | ⟨a', len', cap', h0, _, _, C, hC⟩
    · rw [e1] at h0; simp at h0
    · rw [e1] at h0
      simp only [Value.slice.injEq, Option.some.injEq] at h0
      obtain ⟨rfl, rfl, rfl⟩ := h0
      refine ⟨fun j => match C j 0 with | .int _ n => n | _ => 0, h1, fun h => (by rw [e1] at h; cases h), fun ad ha => ⟨by simp, fun j hj => ?_⟩⟩
      rw [e1] at ha
      obtain rfl := Option.some.inj ha
      obtain ⟨h3, h4⟩ := hC j (by omega) 0 (by omega)
      obtain ⟨n, h5, _⟩ := rd_int Tryz.underlying5 (h4 _ rfl)
      simp only [h5] at h3 ⊢
      simpa using h3
theorem open_polK {W : World} {v : Value} (hv : Value.okWide Tryz.prog W .any 0 28 v) (hr : ∀ n, Rd Tryz.prog W n 28 v.cells.toList) :
    ∃ (q : Nat → Int) (ka : Nat → Option Addr) (kn kc : Nat → Nat) (kb : Nat → Nat → Int), v = .agg (polC q ka kn kc) ∧ (∀ i, -9223372036854775808 ≤ q i ∧ q i ≤ 9223372036854775807) ∧ ∀ i, i < 4 → KeyIn [] W (ka i) (kn i) (kc i) (kb i) := by
  obtain ⟨q, ka, kn, kc, rfl, hq, hk⟩ := open_pol hv
  have key : ∀ i, i < 4 → ∃ kb : Nat → Int, KeyIn [] W (ka i) (kn i) (kc i) kb := by
    intro i hi
    have hcell : ∀ n, Rd Tryz.prog W n 23 [.slice (ka i) (kn i) (kc i)] := by
      have h5 : (polC q ka kn kc)[5 + i]? = some (.slice (ka i) (kn i) (kc i)) := by
        match i, hi with
        | 0, _ => rfl
        | 1, _ => rfl
        | 2, _ => rfl
        | 3, _ => rfl
        | i + 4, h => exact absurd h (by omega)
      have hcl : cellAt Tryz.prog 6 28 (5 + i) = some 23 := by
        have e : i = 0 ∨ i = 1 ∨ i = 2 ∨ i = 3 := by omega
        rcases e with rfl | rfl | rfl | rfl
        · show cellAt Tryz.prog 6 28 5 = some 23; kernel_rfl
        · show cellAt Tryz.prog 6 28 6 = some 23; kernel_rfl
        · show cellAt Tryz.prog 6 28 7 = some 23; kernel_rfl
        · show cellAt Tryz.prog 6 28 8 = some 23; kernel_rfl
      exact rd_cell 6 (P := Tryz.prog) (w := W) (t := 28) (cs := (polC q ka kn kc).toList) (j := 5 + i) hr hcl (by simpa using h5)
    exact open_key hcell (hk i hi)
  obtain ⟨kb, hkb⟩ := Deep.choose_lt key
  exact ⟨q, ka, kn, kc, kb, rfl, hq, hkb⟩
end Go.Proofs.YtbjanfgipcniiaaGreatDoor
