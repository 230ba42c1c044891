/- A policy that comes in: its numbers, and its keys. -/
import Derived.Test.YtbjanfgipcniiaaGreatDoorXBase
import Derived.Test.YtbjanfgipcniiaaGreatDoorPost
namespace Go.Proofs.YtbjanfgipcniiaaGreatDoor
open Go Go.RowKit Go.WideShapes Sd
set_option linter.unusedVariables false
set_option maxRecDepth 100000

/-- a slice of bytes that comes in -/
def KeyOk (W : World) (a : Option Addr) (n c : Nat) : Prop := n ≤ c ∧ ((a = none ∧ n = 0 ∧ c = 0) ∨ ∃ x, a = some x ∧ (c : Int) ≤ IntKind.i64.max ∧ W.has Tryz.prog .any 0 x 5 c)
theorem cell_slice {W : World} {v : Value} {t e : TypeId} (hu : Tryz.prog.underlying t = some (.slice e)) (h : Cell.okWide Tryz.prog W .any 0 t v) :
    ∃ a n c, v = .slice a n c ∧ n ≤ c ∧ ((a = none ∧ n = 0 ∧ c = 0) ∨ ∃ x, a = some x ∧ (c : Int) ≤ IntKind.i64.max ∧ W.has Tryz.prog .any 0 x e c) := by
  unfold Cell.okWide at h
  rw [hu] at h
  cases v with
  | slice a n c =>
    unfold Cell.ok at h
    rw [hu] at h
    cases a with
    | none =>
      cases n <;> cases c <;> first | exact ⟨_, _, _, rfl, by omega, Or.inl ⟨rfl, rfl, rfl⟩⟩ | (simp at h)
    | some a => exact ⟨_, _, _, rfl, h.1, Or.inr ⟨a, rfl, h.2⟩⟩
  | _ => unfold Cell.ok at h; rw [hu] at h; simp at h
set_option maxRecDepth 10000 in
theorem open_pol {W : World} {v : Value} (hv : Value.okWide Tryz.prog W .any 0 28 v) :
    ∃ (q : Nat → Int) (ka : Nat → Option Addr) (kn kc : Nat → Nat), v = .agg (polC q ka kn kc) ∧ (∀ i, -9223372036854775808 ≤ q i ∧ q i ≤ 9223372036854775807) ∧ ∀ i, i < 4 → KeyOk W (ka i) (kn i) (kc i) := by
  obtain ⟨cs, rfl, hsz, hcs⟩ := open_cells Tryz.underlying28 rfl (ts := [3, 3, 3, 3, 3, 23, 23, 23, 23, 3, 3, 3, 3, 3, 3, 3, 3, 3, 3, 3, 3, 3, 3, 3, 3, 3, 3, 3, 3, 3, 3, 3, 3, 3, 3, 3, 3, 3, 3, 3, 3, 3, 3, 3, 3, 3, 3, 3, 3, 3, 3, 3, 3, 3, 3, 3]) (by kernel_rfl) (by kernel_rfl) hv
  have hat : ∀ i, i < 56 → ∃ x, cs[i]? = some x := fun i hi => ⟨cs[i]'(by rw [hsz]; exact hi), by rw [Array.getElem?_eq_getElem]⟩
  have hI : ∀ i, i < 56 → (i < 5 ∨ 8 < i) → ∃ n, cs[i]? = some (.int .i64 n) ∧ I64 n := by
    intro i hi hne
    obtain ⟨x, hx⟩ := hat i hi
    have ht : ([3, 3, 3, 3, 3, 23, 23, 23, 23, 3, 3, 3, 3, 3, 3, 3, 3, 3, 3, 3, 3, 3, 3, 3, 3, 3, 3, 3, 3, 3, 3, 3, 3, 3, 3, 3, 3, 3, 3, 3, 3, 3, 3, 3, 3, 3, 3, 3, 3, 3, 3, 3, 3, 3, 3, 3] : List Nat)[i]? = some 3 := by clear hx; revert i; decide
    obtain ⟨n, rfl, hn⟩ := cell_i64 Tryz.underlying3 (hcs i x 3 hx ht)
    exact ⟨n, hx, hn⟩
  have hS : ∀ i, i < 4 → ∃ a n c, cs[5 + i]? = some (.slice a n c) ∧ KeyOk W a n c := by
    intro i hi
    obtain ⟨x, hx⟩ := hat (5 + i) (by omega)
    have ht : ([3, 3, 3, 3, 3, 23, 23, 23, 23, 3, 3, 3, 3, 3, 3, 3, 3, 3, 3, 3, 3, 3, 3, 3, 3, 3, 3, 3, 3, 3, 3, 3, 3, 3, 3, 3, 3, 3, 3, 3, 3, 3, 3, 3, 3, 3, 3, 3, 3, 3, 3, 3, 3, 3, 3, 3] : List Nat)[5 + i]? = some 23 := by clear hx; revert i; decide
    obtain ⟨a, n, c, rfl, h1, h2⟩ := cell_slice Tryz.underlying23 (hcs (5 + i) x 23 hx ht)
    exact ⟨a, n, c, hx, h1, h2⟩
  let q : Nat → Int := fun i => match cs[i]? with | some (.int _ n) => n | _ => 0
  let ka : Nat → Option Addr := fun i => match cs[5 + i]? with | some (.slice a _ _) => a | _ => none
  let kn : Nat → Nat := fun i => match cs[5 + i]? with | some (.slice _ n _) => n | _ => 0
  let kc : Nat → Nat := fun i => match cs[5 + i]? with | some (.slice _ _ c) => c | _ => 0
  have hq : ∀ i, i < 56 → (i < 5 ∨ 8 < i) → cs[i]? = some (.int .i64 (q i)) ∧ I64 (q i) := by
    intro i hi hne
    obtain ⟨n, hx, hn⟩ := hI i hi hne
    have : q i = n := by simp only [q, hx]
    rw [this]; exact ⟨hx, hn⟩
  have hk : ∀ i, i < 4 → cs[5 + i]? = some (.slice (ka i) (kn i) (kc i)) ∧ KeyOk W (ka i) (kn i) (kc i) := by
    intro i hi
    obtain ⟨a, n, c, hx, hn⟩ := hS i hi
    have h1 : ka i = a := by simp only [ka, hx]
    have h2 : kn i = n := by simp only [kn, hx]
    have h3 : kc i = c := by simp only [kc, hx]
    rw [h1, h2, h3]; exact ⟨hx, hn⟩
  refine ⟨q, ka, kn, kc, ?_, ?_, fun i hi => (hk i hi).2⟩
  · congr 1
    apply Array.ext_getElem?
    intro i
    by_cases hi : i < 56
    · match i, hi with
      | 0, _ => exact (hq 0 (by omega) (by omega)).1.trans rfl
      | 1, _ => exact (hq 1 (by omega) (by omega)).1.trans rfl
      | 2, _ => exact (hq 2 (by omega) (by omega)).1.trans rfl
      | 3, _ => exact (hq 3 (by omega) (by omega)).1.trans rfl
      | 4, _ => exact (hq 4 (by omega) (by omega)).1.trans rfl
      | 5, _ => exact (hk 0 (by omega)).1.trans rfl
      | 6, _ => exact (hk 1 (by omega)).1.trans rfl
      | 7, _ => exact (hk 2 (by omega)).1.trans rfl
      | 8, _ => exact (hk 3 (by omega)).1.trans rfl
      | 9, _ => exact (hq 9 (by omega) (by omega)).1.trans rfl
      | 10, _ => exact (hq 10 (by omega) (by omega)).1.trans rfl
      | 11, _ => exact (hq 11 (by omega) (by omega)).1.trans rfl
      | 12, _ => exact (hq 12 (by omega) (by omega)).1.trans rfl
      | 13, _ => exact (hq 13 (by omega) (by omega)).1.trans rfl
      | 14, _ => exact (hq 14 (by omega) (by omega)).1.trans rfl
      | 15, _ => exact (hq 15 (by omega) (by omega)).1.trans rfl
      | 16, _ => exact (hq 16 (by omega) (by omega)).1.trans rfl
      | 17, _ => exact (hq 17 (by omega) (by omega)).1.trans rfl
      | 18, _ => exact (hq 18 (by omega) (by omega)).1.trans rfl
      | 19, _ => exact (hq 19 (by omega) (by omega)).1.trans rfl
      | 20, _ => exact (hq 20 (by omega) (by omega)).1.trans rfl
      | 21, _ => exact (hq 21 (by omega) (by omega)).1.trans rfl
      | 22, _ => exact (hq 22 (by omega) (by omega)).1.trans rfl
      | 23, _ => exact (hq 23 (by omega) (by omega)).1.trans rfl
      | 24, _ => exact (hq 24 (by omega) (by omega)).1.trans rfl
      | 25, _ => exact (hq 25 (by omega) (by omega)).1.trans rfl
      | 26, _ => exact (hq 26 (by omega) (by omega)).1.trans rfl
      | 27, _ => exact (hq 27 (by omega) (by omega)).1.trans rfl
      | 28, _ => exact (hq 28 (by omega) (by omega)).1.trans rfl
      | 29, _ => exact (hq 29 (by omega) (by omega)).1.trans rfl
      | 30, _ => exact (hq 30 (by omega) (by omega)).1.trans rfl
      | 31, _ => exact (hq 31 (by omega) (by omega)).1.trans rfl
      | 32, _ => exact (hq 32 (by omega) (by omega)).1.trans rfl
      | 33, _ => exact (hq 33 (by omega) (by omega)).1.trans rfl
      | 34, _ => exact (hq 34 (by omega) (by omega)).1.trans rfl
      | 35, _ => exact (hq 35 (by omega) (by omega)).1.trans rfl
      | 36, _ => exact (hq 36 (by omega) (by omega)).1.trans rfl
      | 37, _ => exact (hq 37 (by omega) (by omega)).1.trans rfl
      | 38, _ => exact (hq 38 (by omega) (by omega)).1.trans rfl
      | 39, _ => exact (hq 39 (by omega) (by omega)).1.trans rfl
      | 40, _ => exact (hq 40 (by omega) (by omega)).1.trans rfl
      | 41, _ => exact (hq 41 (by omega) (by omega)).1.trans rfl
      | 42, _ => exact (hq 42 (by omega) (by omega)).1.trans rfl
      | 43, _ => exact (hq 43 (by omega) (by omega)).1.trans rfl
      | 44, _ => exact (hq 44 (by omega) (by omega)).1.trans rfl
      | 45, _ => exact (hq 45 (by omega) (by omega)).1.trans rfl
      | 46, _ => exact (hq 46 (by omega) (by omega)).1.trans rfl
      | 47, _ => exact (hq 47 (by omega) (by omega)).1.trans rfl
      | 48, _ => exact (hq 48 (by omega) (by omega)).1.trans rfl
      | 49, _ => exact (hq 49 (by omega) (by omega)).1.trans rfl
      | 50, _ => exact (hq 50 (by omega) (by omega)).1.trans rfl
      | 51, _ => exact (hq 51 (by omega) (by omega)).1.trans rfl
      | 52, _ => exact (hq 52 (by omega) (by omega)).1.trans rfl
      | 53, _ => exact (hq 53 (by omega) (by omega)).1.trans rfl
      | 54, _ => exact (hq 54 (by omega) (by omega)).1.trans rfl
      | 55, _ => exact (hq 55 (by omega) (by omega)).1.trans rfl
      | i + 56, h => exact absurd h (by omega)
    · rw [Array.getElem?_eq_none (by rw [hsz]; exact Nat.le_of_not_lt hi), Array.getElem?_eq_none (Nat.le_of_not_lt hi)]
  · intro i
    by_cases hi : i < 56 ∧ (i < 5 ∨ 8 < i)
    · exact (hq i hi.1 hi.2).2
    · have : q i = 0 := by
        by_cases h5 : i < 56
        · obtain ⟨a, n, c, hx, _⟩ := hS (i - 5) (by omega)
          rw [show 5 + (i - 5) = i by omega] at hx
          simp only [q, hx]
        · have hx : cs[i]? = none := Array.getElem?_eq_none (by rw [hsz]; exact Nat.le_of_not_lt h5)
          simp only [q, hx]
      rw [this]; omega
end Go.Proofs.YtbjanfgipcniiaaGreatDoor
