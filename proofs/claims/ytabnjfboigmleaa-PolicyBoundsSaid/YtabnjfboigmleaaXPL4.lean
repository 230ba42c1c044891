/- PolicyBounds: the walk. -/
import Derived.Test.YtabnjfboigmleaaXPL2
namespace Go.Proofs.Ytabnjfboigmleaa
open Go Go.RowKit Go.BigFrame Sx
set_option linter.unusedVariables false
set_option linter.unusedSimpArgs false

def idxB (k : Int) : Nat := ([39, 40, 41, 42, 43, 44, 45, 46, 47, 48, 49, 54, 55] : List Nat).getD k.toNat 55
def lowT (k : Nat) : Int := ([0, 0, 0, 1, 1, 1, 1, 1, 0, 1, 1, 1, 0] : List Int).getD k 0
def highT (k : Nat) : Int := ([4, 4, 4, 1000, 1000, 1000, 1000, 1000, 1000, 3, 3, 1000, 65535] : List Int).getD k 0
theorem low_at (k : Nat) (h : k < 13) : (#[.int .i64 0, .int .i64 0, .int .i64 0, .int .i64 1, .int .i64 1, .int .i64 1, .int .i64 1, .int .i64 1, .int .i64 0, .int .i64 1, .int .i64 1, .int .i64 1, .int .i64 0] : Array Value)[k]? = some (.int .i64 (lowT k)) := by
  match k, h with
  | 0, _ => rfl
  | 1, _ => rfl
  | 2, _ => rfl
  | 3, _ => rfl
  | 4, _ => rfl
  | 5, _ => rfl
  | 6, _ => rfl
  | 7, _ => rfl
  | 8, _ => rfl
  | 9, _ => rfl
  | 10, _ => rfl
  | 11, _ => rfl
  | 12, _ => rfl
  | k + 13, h => exact absurd h (by omega)
theorem low_bd (k : Nat) : 0 ≤ lowT k ∧ lowT k ≤ 65535 := by
  by_cases h : k < 13
  · match k, h with
    | 0, _ => exact ⟨by decide, by decide⟩
    | 1, _ => exact ⟨by decide, by decide⟩
    | 2, _ => exact ⟨by decide, by decide⟩
    | 3, _ => exact ⟨by decide, by decide⟩
    | 4, _ => exact ⟨by decide, by decide⟩
    | 5, _ => exact ⟨by decide, by decide⟩
    | 6, _ => exact ⟨by decide, by decide⟩
    | 7, _ => exact ⟨by decide, by decide⟩
    | 8, _ => exact ⟨by decide, by decide⟩
    | 9, _ => exact ⟨by decide, by decide⟩
    | 10, _ => exact ⟨by decide, by decide⟩
    | 11, _ => exact ⟨by decide, by decide⟩
    | 12, _ => exact ⟨by decide, by decide⟩
    | k + 13, h => exact absurd h (by omega)
  · have : lowT k = 0 := by
      unfold lowT
      rw [List.getD_eq_getElem?_getD, List.getElem?_eq_none (by simp; omega)]; rfl
    omega
theorem high_at (k : Nat) (h : k < 13) : (#[.int .i64 4, .int .i64 4, .int .i64 4, .int .i64 1000, .int .i64 1000, .int .i64 1000, .int .i64 1000, .int .i64 1000, .int .i64 1000, .int .i64 3, .int .i64 3, .int .i64 1000, .int .i64 65535] : Array Value)[k]? = some (.int .i64 (highT k)) := by
  match k, h with
  | 0, _ => rfl
  | 1, _ => rfl
  | 2, _ => rfl
  | 3, _ => rfl
  | 4, _ => rfl
  | 5, _ => rfl
  | 6, _ => rfl
  | 7, _ => rfl
  | 8, _ => rfl
  | 9, _ => rfl
  | 10, _ => rfl
  | 11, _ => rfl
  | 12, _ => rfl
  | k + 13, h => exact absurd h (by omega)
theorem high_bd (k : Nat) : 0 ≤ highT k ∧ highT k ≤ 65535 := by
  by_cases h : k < 13
  · match k, h with
    | 0, _ => exact ⟨by decide, by decide⟩
    | 1, _ => exact ⟨by decide, by decide⟩
    | 2, _ => exact ⟨by decide, by decide⟩
    | 3, _ => exact ⟨by decide, by decide⟩
    | 4, _ => exact ⟨by decide, by decide⟩
    | 5, _ => exact ⟨by decide, by decide⟩
    | 6, _ => exact ⟨by decide, by decide⟩
    | 7, _ => exact ⟨by decide, by decide⟩
    | 8, _ => exact ⟨by decide, by decide⟩
    | 9, _ => exact ⟨by decide, by decide⟩
    | 10, _ => exact ⟨by decide, by decide⟩
    | 11, _ => exact ⟨by decide, by decide⟩
    | 12, _ => exact ⟨by decide, by decide⟩
    | k + 13, h => exact absurd h (by omega)
  · have : highT k = 0 := by
      unfold highT
      rw [List.getD_eq_getElem?_getD, List.getElem?_eq_none (by simp; omega)]; rfl
    omega
theorem bd_39 {x : Nat → Int} {kn : Nat → Nat} (hX : ∀ j, condB j x kn = true) (n : Int) : (inB 0 4 n = true → polCode (upd x 39 n) kn = 0) ∧ (inB 0 4 n = false → polCode (upd x 39 n) kn ≠ 0) := by
  have ho : ∀ j, j ≠ 5 → condB j (upd x 39 n) kn = true := fun j hj => by
    have h := hX j
    match j, hj, h with
    | 0, _, h => exact h
    | 1, _, h => exact h
    | 2, _, h => exact h
    | 3, _, h => exact h
    | 4, _, h => exact h
    | 5, hj, h => exact absurd rfl hj
    | 6, _, h => exact h
    | 7, _, h => exact h
    | 8, _, h => exact h
    | 9, _, h => exact h
    | 10, _, h => exact h
    | j + 11, _, h => exact h
  have h0 := hX 5
  have hc : condB 5 (upd x 39 n) kn = inB 0 4 n := by
    change allI 0 4 [x 39, x 40, x 41] = true at h0
    show allI 0 4 [n, x 40, x 41] = inB 0 4 n
    simp only [allI, Bool.and_true, Bool.and_eq_true] at h0 ⊢
    all_goals simp [h0]
  refine ⟨fun h => polCode_ok fun j => ?_, fun h => ?_⟩
  · by_cases hj : j = 5
    · subst hj; rw [hc, h]
    · exact ho j hj
  · have := polCode_at (q := upd x 39 n) (kn := kn) 5 (by omega) (fun j hj => ho j (by omega)) (by rw [hc, h])
    omega
theorem bd_40 {x : Nat → Int} {kn : Nat → Nat} (hX : ∀ j, condB j x kn = true) (n : Int) : (inB 0 4 n = true → polCode (upd x 40 n) kn = 0) ∧ (inB 0 4 n = false → polCode (upd x 40 n) kn ≠ 0) := by
  have ho : ∀ j, j ≠ 5 → condB j (upd x 40 n) kn = true := fun j hj => by
    have h := hX j
    match j, hj, h with
    | 0, _, h => exact h
    | 1, _, h => exact h
    | 2, _, h => exact h
    | 3, _, h => exact h
    | 4, _, h => exact h
    | 5, hj, h => exact absurd rfl hj
    | 6, _, h => exact h
    | 7, _, h => exact h
    | 8, _, h => exact h
    | 9, _, h => exact h
    | 10, _, h => exact h
    | j + 11, _, h => exact h
  have h0 := hX 5
  have hc : condB 5 (upd x 40 n) kn = inB 0 4 n := by
    change allI 0 4 [x 39, x 40, x 41] = true at h0
    show allI 0 4 [x 39, n, x 41] = inB 0 4 n
    simp only [allI, Bool.and_true, Bool.and_eq_true] at h0 ⊢
    all_goals simp [h0]
  refine ⟨fun h => polCode_ok fun j => ?_, fun h => ?_⟩
  · by_cases hj : j = 5
    · subst hj; rw [hc, h]
    · exact ho j hj
  · have := polCode_at (q := upd x 40 n) (kn := kn) 5 (by omega) (fun j hj => ho j (by omega)) (by rw [hc, h])
    omega
theorem bd_41 {x : Nat → Int} {kn : Nat → Nat} (hX : ∀ j, condB j x kn = true) (n : Int) : (inB 0 4 n = true → polCode (upd x 41 n) kn = 0) ∧ (inB 0 4 n = false → polCode (upd x 41 n) kn ≠ 0) := by
  have ho : ∀ j, j ≠ 5 → condB j (upd x 41 n) kn = true := fun j hj => by
    have h := hX j
    match j, hj, h with
    | 0, _, h => exact h
    | 1, _, h => exact h
    | 2, _, h => exact h
    | 3, _, h => exact h
    | 4, _, h => exact h
    | 5, hj, h => exact absurd rfl hj
    | 6, _, h => exact h
    | 7, _, h => exact h
    | 8, _, h => exact h
    | 9, _, h => exact h
    | 10, _, h => exact h
    | j + 11, _, h => exact h
  have h0 := hX 5
  have hc : condB 5 (upd x 41 n) kn = inB 0 4 n := by
    change allI 0 4 [x 39, x 40, x 41] = true at h0
    show allI 0 4 [x 39, x 40, n] = inB 0 4 n
    simp only [allI, Bool.and_true, Bool.and_eq_true] at h0 ⊢
    all_goals simp [h0]
  refine ⟨fun h => polCode_ok fun j => ?_, fun h => ?_⟩
  · by_cases hj : j = 5
    · subst hj; rw [hc, h]
    · exact ho j hj
  · have := polCode_at (q := upd x 41 n) (kn := kn) 5 (by omega) (fun j hj => ho j (by omega)) (by rw [hc, h])
    omega
theorem bd_42 {x : Nat → Int} {kn : Nat → Nat} (hX : ∀ j, condB j x kn = true) (n : Int) : (inB 1 1000 n = true → polCode (upd x 42 n) kn = 0) ∧ (inB 1 1000 n = false → polCode (upd x 42 n) kn ≠ 0) := by
  have ho : ∀ j, j ≠ 6 → condB j (upd x 42 n) kn = true := fun j hj => by
    have h := hX j
    match j, hj, h with
    | 0, _, h => exact h
    | 1, _, h => exact h
    | 2, _, h => exact h
    | 3, _, h => exact h
    | 4, _, h => exact h
    | 5, _, h => exact h
    | 6, hj, h => exact absurd rfl hj
    | 7, _, h => exact h
    | 8, _, h => exact h
    | 9, _, h => exact h
    | 10, _, h => exact h
    | j + 11, _, h => exact h
  have h0 := hX 6
  have hc : condB 6 (upd x 42 n) kn = inB 1 1000 n := by
    change allI 1 1000 [x 42, x 43, x 44, x 45] = true at h0
    show allI 1 1000 [n, x 43, x 44, x 45] = inB 1 1000 n
    simp only [allI, Bool.and_true, Bool.and_eq_true] at h0 ⊢
    all_goals simp [h0]
  refine ⟨fun h => polCode_ok fun j => ?_, fun h => ?_⟩
  · by_cases hj : j = 6
    · subst hj; rw [hc, h]
    · exact ho j hj
  · have := polCode_at (q := upd x 42 n) (kn := kn) 6 (by omega) (fun j hj => ho j (by omega)) (by rw [hc, h])
    omega
theorem bd_43 {x : Nat → Int} {kn : Nat → Nat} (hX : ∀ j, condB j x kn = true) (n : Int) : (inB 1 1000 n = true → polCode (upd x 43 n) kn = 0) ∧ (inB 1 1000 n = false → polCode (upd x 43 n) kn ≠ 0) := by
  have ho : ∀ j, j ≠ 6 → condB j (upd x 43 n) kn = true := fun j hj => by
    have h := hX j
    match j, hj, h with
    | 0, _, h => exact h
    | 1, _, h => exact h
    | 2, _, h => exact h
    | 3, _, h => exact h
    | 4, _, h => exact h
    | 5, _, h => exact h
    | 6, hj, h => exact absurd rfl hj
    | 7, _, h => exact h
    | 8, _, h => exact h
    | 9, _, h => exact h
    | 10, _, h => exact h
    | j + 11, _, h => exact h
  have h0 := hX 6
  have hc : condB 6 (upd x 43 n) kn = inB 1 1000 n := by
    change allI 1 1000 [x 42, x 43, x 44, x 45] = true at h0
    show allI 1 1000 [x 42, n, x 44, x 45] = inB 1 1000 n
    simp only [allI, Bool.and_true, Bool.and_eq_true] at h0 ⊢
    all_goals simp [h0]
  refine ⟨fun h => polCode_ok fun j => ?_, fun h => ?_⟩
  · by_cases hj : j = 6
    · subst hj; rw [hc, h]
    · exact ho j hj
  · have := polCode_at (q := upd x 43 n) (kn := kn) 6 (by omega) (fun j hj => ho j (by omega)) (by rw [hc, h])
    omega
theorem bd_44 {x : Nat → Int} {kn : Nat → Nat} (hX : ∀ j, condB j x kn = true) (n : Int) : (inB 1 1000 n = true → polCode (upd x 44 n) kn = 0) ∧ (inB 1 1000 n = false → polCode (upd x 44 n) kn ≠ 0) := by
  have ho : ∀ j, j ≠ 6 → condB j (upd x 44 n) kn = true := fun j hj => by
    have h := hX j
    match j, hj, h with
    | 0, _, h => exact h
    | 1, _, h => exact h
    | 2, _, h => exact h
    | 3, _, h => exact h
    | 4, _, h => exact h
    | 5, _, h => exact h
    | 6, hj, h => exact absurd rfl hj
    | 7, _, h => exact h
    | 8, _, h => exact h
    | 9, _, h => exact h
    | 10, _, h => exact h
    | j + 11, _, h => exact h
  have h0 := hX 6
  have hc : condB 6 (upd x 44 n) kn = inB 1 1000 n := by
    change allI 1 1000 [x 42, x 43, x 44, x 45] = true at h0
    show allI 1 1000 [x 42, x 43, n, x 45] = inB 1 1000 n
    simp only [allI, Bool.and_true, Bool.and_eq_true] at h0 ⊢
    all_goals simp [h0]
  refine ⟨fun h => polCode_ok fun j => ?_, fun h => ?_⟩
  · by_cases hj : j = 6
    · subst hj; rw [hc, h]
    · exact ho j hj
  · have := polCode_at (q := upd x 44 n) (kn := kn) 6 (by omega) (fun j hj => ho j (by omega)) (by rw [hc, h])
    omega
theorem bd_45 {x : Nat → Int} {kn : Nat → Nat} (hX : ∀ j, condB j x kn = true) (n : Int) : (inB 1 1000 n = true → polCode (upd x 45 n) kn = 0) ∧ (inB 1 1000 n = false → polCode (upd x 45 n) kn ≠ 0) := by
  have ho : ∀ j, j ≠ 6 → condB j (upd x 45 n) kn = true := fun j hj => by
    have h := hX j
    match j, hj, h with
    | 0, _, h => exact h
    | 1, _, h => exact h
    | 2, _, h => exact h
    | 3, _, h => exact h
    | 4, _, h => exact h
    | 5, _, h => exact h
    | 6, hj, h => exact absurd rfl hj
    | 7, _, h => exact h
    | 8, _, h => exact h
    | 9, _, h => exact h
    | 10, _, h => exact h
    | j + 11, _, h => exact h
  have h0 := hX 6
  have hc : condB 6 (upd x 45 n) kn = inB 1 1000 n := by
    change allI 1 1000 [x 42, x 43, x 44, x 45] = true at h0
    show allI 1 1000 [x 42, x 43, x 44, n] = inB 1 1000 n
    simp only [allI, Bool.and_true, Bool.and_eq_true] at h0 ⊢
    all_goals simp [h0]
  refine ⟨fun h => polCode_ok fun j => ?_, fun h => ?_⟩
  · by_cases hj : j = 6
    · subst hj; rw [hc, h]
    · exact ho j hj
  · have := polCode_at (q := upd x 45 n) (kn := kn) 6 (by omega) (fun j hj => ho j (by omega)) (by rw [hc, h])
    omega
theorem bd_46 {x : Nat → Int} {kn : Nat → Nat} (hX : ∀ j, condB j x kn = true) (n : Int) : (inB 1 1000 n = true → polCode (upd x 46 n) kn = 0) ∧ (inB 1 1000 n = false → polCode (upd x 46 n) kn ≠ 0) := by
  have ho : ∀ j, j ≠ 7 → condB j (upd x 46 n) kn = true := fun j hj => by
    have h := hX j
    match j, hj, h with
    | 0, _, h => exact h
    | 1, _, h => exact h
    | 2, _, h => exact h
    | 3, _, h => exact h
    | 4, _, h => exact h
    | 5, _, h => exact h
    | 6, _, h => exact h
    | 7, hj, h => exact absurd rfl hj
    | 8, _, h => exact h
    | 9, _, h => exact h
    | 10, _, h => exact h
    | j + 11, _, h => exact h
  have h0 := hX 7
  have hc : condB 7 (upd x 46 n) kn = inB 1 1000 n := by
    change (inB 1 1000 (x 46) && inB 0 1000 (x 47)) = true at h0
    show (inB 1 1000 (n) && inB 0 1000 (x 47)) = inB 1 1000 n
    simp only [allI, Bool.and_true, Bool.and_eq_true] at h0 ⊢
    all_goals simp [h0]
  refine ⟨fun h => polCode_ok fun j => ?_, fun h => ?_⟩
  · by_cases hj : j = 7
    · subst hj; rw [hc, h]
    · exact ho j hj
  · have := polCode_at (q := upd x 46 n) (kn := kn) 7 (by omega) (fun j hj => ho j (by omega)) (by rw [hc, h])
    omega
theorem bd_47 {x : Nat → Int} {kn : Nat → Nat} (hX : ∀ j, condB j x kn = true) (n : Int) : (inB 0 1000 n = true → polCode (upd x 47 n) kn = 0) ∧ (inB 0 1000 n = false → polCode (upd x 47 n) kn ≠ 0) := by
  have ho : ∀ j, j ≠ 7 → condB j (upd x 47 n) kn = true := fun j hj => by
    have h := hX j
    match j, hj, h with
    | 0, _, h => exact h
    | 1, _, h => exact h
    | 2, _, h => exact h
    | 3, _, h => exact h
    | 4, _, h => exact h
    | 5, _, h => exact h
    | 6, _, h => exact h
    | 7, hj, h => exact absurd rfl hj
    | 8, _, h => exact h
    | 9, _, h => exact h
    | 10, _, h => exact h
    | j + 11, _, h => exact h
  have h0 := hX 7
  have hc : condB 7 (upd x 47 n) kn = inB 0 1000 n := by
    change (inB 1 1000 (x 46) && inB 0 1000 (x 47)) = true at h0
    show (inB 1 1000 (x 46) && inB 0 1000 (n)) = inB 0 1000 n
    simp only [allI, Bool.and_true, Bool.and_eq_true] at h0 ⊢
    all_goals simp [h0]
  refine ⟨fun h => polCode_ok fun j => ?_, fun h => ?_⟩
  · by_cases hj : j = 7
    · subst hj; rw [hc, h]
    · exact ho j hj
  · have := polCode_at (q := upd x 47 n) (kn := kn) 7 (by omega) (fun j hj => ho j (by omega)) (by rw [hc, h])
    omega
theorem bd_48 {x : Nat → Int} {kn : Nat → Nat} (hX : ∀ j, condB j x kn = true) (n : Int) : (inB 1 3 n = true → polCode (upd x 48 n) kn = 0) ∧ (inB 1 3 n = false → polCode (upd x 48 n) kn ≠ 0) := by
  have ho : ∀ j, j ≠ 8 → condB j (upd x 48 n) kn = true := fun j hj => by
    have h := hX j
    match j, hj, h with
    | 0, _, h => exact h
    | 1, _, h => exact h
    | 2, _, h => exact h
    | 3, _, h => exact h
    | 4, _, h => exact h
    | 5, _, h => exact h
    | 6, _, h => exact h
    | 7, _, h => exact h
    | 8, hj, h => exact absurd rfl hj
    | 9, _, h => exact h
    | 10, _, h => exact h
    | j + 11, _, h => exact h
  have h0 := hX 8
  have hc : condB 8 (upd x 48 n) kn = inB 1 3 n := by
    change allI 1 3 [x 48, x 49] = true at h0
    show allI 1 3 [n, x 49] = inB 1 3 n
    simp only [allI, Bool.and_true, Bool.and_eq_true] at h0 ⊢
    all_goals simp [h0]
  refine ⟨fun h => polCode_ok fun j => ?_, fun h => ?_⟩
  · by_cases hj : j = 8
    · subst hj; rw [hc, h]
    · exact ho j hj
  · have := polCode_at (q := upd x 48 n) (kn := kn) 8 (by omega) (fun j hj => ho j (by omega)) (by rw [hc, h])
    omega
theorem bd_49 {x : Nat → Int} {kn : Nat → Nat} (hX : ∀ j, condB j x kn = true) (n : Int) : (inB 1 3 n = true → polCode (upd x 49 n) kn = 0) ∧ (inB 1 3 n = false → polCode (upd x 49 n) kn ≠ 0) := by
  have ho : ∀ j, j ≠ 8 → condB j (upd x 49 n) kn = true := fun j hj => by
    have h := hX j
    match j, hj, h with
    | 0, _, h => exact h
    | 1, _, h => exact h
    | 2, _, h => exact h
    | 3, _, h => exact h
    | 4, _, h => exact h
    | 5, _, h => exact h
    | 6, _, h => exact h
    | 7, _, h => exact h
    | 8, hj, h => exact absurd rfl hj
    | 9, _, h => exact h
    | 10, _, h => exact h
    | j + 11, _, h => exact h
  have h0 := hX 8
  have hc : condB 8 (upd x 49 n) kn = inB 1 3 n := by
    change allI 1 3 [x 48, x 49] = true at h0
    show allI 1 3 [x 48, n] = inB 1 3 n
    simp only [allI, Bool.and_true, Bool.and_eq_true] at h0 ⊢
    all_goals simp [h0]
  refine ⟨fun h => polCode_ok fun j => ?_, fun h => ?_⟩
  · by_cases hj : j = 8
    · subst hj; rw [hc, h]
    · exact ho j hj
  · have := polCode_at (q := upd x 49 n) (kn := kn) 8 (by omega) (fun j hj => ho j (by omega)) (by rw [hc, h])
    omega
theorem bd_54 {x : Nat → Int} {kn : Nat → Nat} (hX : ∀ j, condB j x kn = true) (n : Int) : (inB 1 1000 n = true → polCode (upd x 54 n) kn = 0) ∧ (inB 1 1000 n = false → polCode (upd x 54 n) kn ≠ 0) := by
  have ho : ∀ j, j ≠ 9 → condB j (upd x 54 n) kn = true := fun j hj => by
    have h := hX j
    match j, hj, h with
    | 0, _, h => exact h
    | 1, _, h => exact h
    | 2, _, h => exact h
    | 3, _, h => exact h
    | 4, _, h => exact h
    | 5, _, h => exact h
    | 6, _, h => exact h
    | 7, _, h => exact h
    | 8, _, h => exact h
    | 9, hj, h => exact absurd rfl hj
    | 10, _, h => exact h
    | j + 11, _, h => exact h
  have h0 := hX 9
  have hc : condB 9 (upd x 54 n) kn = inB 1 1000 n := by
    change (x 50 == 0 && (allI 0 1000 [x 51, x 52, x 53] && inB 1 1000 (x 54))) = true at h0
    show (x 50 == 0 && (allI 0 1000 [x 51, x 52, x 53] && inB 1 1000 (n))) = inB 1 1000 n
    simp only [allI, Bool.and_true, Bool.and_eq_true] at h0 ⊢
    all_goals simp [h0]
  refine ⟨fun h => polCode_ok fun j => ?_, fun h => ?_⟩
  · by_cases hj : j = 9
    · subst hj; rw [hc, h]
    · exact ho j hj
  · have := polCode_at (q := upd x 54 n) (kn := kn) 9 (by omega) (fun j hj => ho j (by omega)) (by rw [hc, h])
    omega
theorem bd_55 {x : Nat → Int} {kn : Nat → Nat} (hX : ∀ j, condB j x kn = true) (n : Int) : (inB 0 65535 n = true → polCode (upd x 55 n) kn = 0) ∧ (inB 0 65535 n = false → polCode (upd x 55 n) kn ≠ 0) := by
  have ho : ∀ j, j ≠ 10 → condB j (upd x 55 n) kn = true := fun j hj => by
    have h := hX j
    match j, hj, h with
    | 0, _, h => exact h
    | 1, _, h => exact h
    | 2, _, h => exact h
    | 3, _, h => exact h
    | 4, _, h => exact h
    | 5, _, h => exact h
    | 6, _, h => exact h
    | 7, _, h => exact h
    | 8, _, h => exact h
    | 9, _, h => exact h
    | 10, hj, h => exact absurd rfl hj
    | j + 11, _, h => exact h
  have h0 := hX 10
  have hc : condB 10 (upd x 55 n) kn = inB 0 65535 n := by
    change inB 0 65535 (x 55) = true at h0
    show inB 0 65535 (n) = inB 0 65535 n
    simp only [allI, Bool.and_true, Bool.and_eq_true] at h0 ⊢
    all_goals simp [h0]
  refine ⟨fun h => polCode_ok fun j => ?_, fun h => ?_⟩
  · by_cases hj : j = 10
    · subst hj; rw [hc, h]
    · exact ho j hj
  · have := polCode_at (q := upd x 55 n) (kn := kn) 10 (by omega) (fun j hj => ho j (by omega)) (by rw [hc, h])
    omega
theorem bd_code {x : Nat → Int} {kn : Nat → Nat} (hX : ∀ j, condB j x kn = true) (k : Int) (hk : 0 ≤ k ∧ k ≤ 12) :
    polCode (upd x (idxB k) (lowT (0 + k.toNat))) kn = 0 ∧ polCode (upd x (idxB k) (highT (0 + k.toNat))) kn = 0 ∧ polCode (upd x (idxB k) (lowT (0 + k.toNat) - 1)) kn ≠ 0 ∧ polCode (upd x (idxB k) (highT (0 + k.toNat) + 1)) kn ≠ 0 := by
  have e : k = 0 ∨ k = 1 ∨ k = 2 ∨ k = 3 ∨ k = 4 ∨ k = 5 ∨ k = 6 ∨ k = 7 ∨ k = 8 ∨ k = 9 ∨ k = 10 ∨ k = 11 ∨ k = 12 := by omega
  rcases e with rfl | rfl | rfl | rfl | rfl | rfl | rfl | rfl | rfl | rfl | rfl | rfl | rfl
  · have e0 : idxB 0 = 39 := by decide
    have e1 : lowT (0 + (0 : Int).toNat) = 0 := by decide
    have e2 : highT (0 + (0 : Int).toNat) = 4 := by decide
    rw [e0, e1, e2]
    exact ⟨(bd_39 hX _).1 (by decide), (bd_39 hX _).1 (by decide), (bd_39 hX _).2 (by decide), (bd_39 hX _).2 (by decide)⟩
  · have e0 : idxB 1 = 40 := by decide
    have e1 : lowT (0 + (1 : Int).toNat) = 0 := by decide
    have e2 : highT (0 + (1 : Int).toNat) = 4 := by decide
    rw [e0, e1, e2]
    exact ⟨(bd_40 hX _).1 (by decide), (bd_40 hX _).1 (by decide), (bd_40 hX _).2 (by decide), (bd_40 hX _).2 (by decide)⟩
  · have e0 : idxB 2 = 41 := by decide
    have e1 : lowT (0 + (2 : Int).toNat) = 0 := by decide
    have e2 : highT (0 + (2 : Int).toNat) = 4 := by decide
    rw [e0, e1, e2]
    exact ⟨(bd_41 hX _).1 (by decide), (bd_41 hX _).1 (by decide), (bd_41 hX _).2 (by decide), (bd_41 hX _).2 (by decide)⟩
  · have e0 : idxB 3 = 42 := by decide
    have e1 : lowT (0 + (3 : Int).toNat) = 1 := by decide
    have e2 : highT (0 + (3 : Int).toNat) = 1000 := by decide
    rw [e0, e1, e2]
    exact ⟨(bd_42 hX _).1 (by decide), (bd_42 hX _).1 (by decide), (bd_42 hX _).2 (by decide), (bd_42 hX _).2 (by decide)⟩
  · have e0 : idxB 4 = 43 := by decide
    have e1 : lowT (0 + (4 : Int).toNat) = 1 := by decide
    have e2 : highT (0 + (4 : Int).toNat) = 1000 := by decide
    rw [e0, e1, e2]
    exact ⟨(bd_43 hX _).1 (by decide), (bd_43 hX _).1 (by decide), (bd_43 hX _).2 (by decide), (bd_43 hX _).2 (by decide)⟩
  · have e0 : idxB 5 = 44 := by decide
    have e1 : lowT (0 + (5 : Int).toNat) = 1 := by decide
    have e2 : highT (0 + (5 : Int).toNat) = 1000 := by decide
    rw [e0, e1, e2]
    exact ⟨(bd_44 hX _).1 (by decide), (bd_44 hX _).1 (by decide), (bd_44 hX _).2 (by decide), (bd_44 hX _).2 (by decide)⟩
  · have e0 : idxB 6 = 45 := by decide
    have e1 : lowT (0 + (6 : Int).toNat) = 1 := by decide
    have e2 : highT (0 + (6 : Int).toNat) = 1000 := by decide
    rw [e0, e1, e2]
    exact ⟨(bd_45 hX _).1 (by decide), (bd_45 hX _).1 (by decide), (bd_45 hX _).2 (by decide), (bd_45 hX _).2 (by decide)⟩
  · have e0 : idxB 7 = 46 := by decide
    have e1 : lowT (0 + (7 : Int).toNat) = 1 := by decide
    have e2 : highT (0 + (7 : Int).toNat) = 1000 := by decide
    rw [e0, e1, e2]
    exact ⟨(bd_46 hX _).1 (by decide), (bd_46 hX _).1 (by decide), (bd_46 hX _).2 (by decide), (bd_46 hX _).2 (by decide)⟩
  · have e0 : idxB 8 = 47 := by decide
    have e1 : lowT (0 + (8 : Int).toNat) = 0 := by decide
    have e2 : highT (0 + (8 : Int).toNat) = 1000 := by decide
    rw [e0, e1, e2]
    exact ⟨(bd_47 hX _).1 (by decide), (bd_47 hX _).1 (by decide), (bd_47 hX _).2 (by decide), (bd_47 hX _).2 (by decide)⟩
  · have e0 : idxB 9 = 48 := by decide
    have e1 : lowT (0 + (9 : Int).toNat) = 1 := by decide
    have e2 : highT (0 + (9 : Int).toNat) = 3 := by decide
    rw [e0, e1, e2]
    exact ⟨(bd_48 hX _).1 (by decide), (bd_48 hX _).1 (by decide), (bd_48 hX _).2 (by decide), (bd_48 hX _).2 (by decide)⟩
  · have e0 : idxB 10 = 49 := by decide
    have e1 : lowT (0 + (10 : Int).toNat) = 1 := by decide
    have e2 : highT (0 + (10 : Int).toNat) = 3 := by decide
    rw [e0, e1, e2]
    exact ⟨(bd_49 hX _).1 (by decide), (bd_49 hX _).1 (by decide), (bd_49 hX _).2 (by decide), (bd_49 hX _).2 (by decide)⟩
  · have e0 : idxB 11 = 54 := by decide
    have e1 : lowT (0 + (11 : Int).toNat) = 1 := by decide
    have e2 : highT (0 + (11 : Int).toNat) = 1000 := by decide
    rw [e0, e1, e2]
    exact ⟨(bd_54 hX _).1 (by decide), (bd_54 hX _).1 (by decide), (bd_54 hX _).2 (by decide), (bd_54 hX _).2 (by decide)⟩
  · have e0 : idxB 12 = 55 := by decide
    have e1 : lowT (0 + (12 : Int).toNat) = 0 := by decide
    have e2 : highT (0 + (12 : Int).toNat) = 65535 := by decide
    rw [e0, e1, e2]
    exact ⟨(bd_55 hX _).1 (by decide), (bd_55 hX _).1 (by decide), (bd_55 hX _).2 (by decide), (bd_55 hX _).2 (by decide)⟩

set_option maxRecDepth 100000 in
set_option maxHeartbeats 4000000 in
theorem set_ (q : Nat → Int) (ka : Nat → Option Addr) (kn kc : Nat → Nat) (k n : Int) (hk : 0 ≤ k ∧ k ≤ 12) (w : World) :
    Gives Try.prog 35 #[.agg (polC q ka kn kc), .int .i64 k, .int .i64 n] w fun v w1 => v = .agg (polC (upd q (idxB k) n) ka kn kc) ∧ Ch [] w w1 := by
 have S0 := St.nil [] w
 refine enter_ Try.func35 rfl ?_
 refine seq_ (reg_ ?_)
 refine new_ S0 (fun b => .pointer (some ⟨b, 0, none⟩)) (.cells (polC q ka kn kc) 37) ?_
 intro zb1 zw2 zS3
 refine new_ zS3 (fun b => .pointer (some ⟨b, 0, none⟩)) (.cells #[.int .i64 0, .int .i64 0, .int .i64 0, .int .i64 0, .int .i64 0, .slice none 0 0, .slice none 0 0, .slice none 0 0, .slice none 0 0, .int .i64 0, .int .i64 0, .int .i64 0, .int .i64 0, .int .i64 0, .int .i64 0, .int .i64 0, .int .i64 0, .int .i64 0, .int .i64 0, .int .i64 0, .int .i64 0, .int .i64 0, .int .i64 0, .int .i64 0, .int .i64 0, .int .i64 0, .int .i64 0, .int .i64 0, .int .i64 0, .int .i64 0, .int .i64 0, .int .i64 0, .int .i64 0, .int .i64 0, .int .i64 0, .int .i64 0, .int .i64 0, .int .i64 0, .int .i64 0, .int .i64 0, .int .i64 0, .int .i64 0, .int .i64 0, .int .i64 0, .int .i64 0, .int .i64 0, .int .i64 0, .int .i64 0, .int .i64 0, .int .i64 0, .int .i64 0, .int .i64 0, .int .i64 0, .int .i64 0, .int .i64 0, .int .i64 0] 37) ?_
 intro zb4 zw5 zS6
 refine nil_ (then_n (seq_ (seq_ (reg_ ?_))))
 refine pure_ (.int .i64 k) ?_
 refine nil_ (then_n (wp_block (seq_ (reg_ ?_))))
 refine pure_ (.bool (k == 0)) ?_
 refine pure_ (.bool (k == 0)) ?_
 refine nil_ (then_n ?_)
 refine cond_S (k == 0) ?_ ?_
 · intro zh7
   have zh8 := eqT' zh7
   refine reg_ ?_
   refine pure_ (.int .i64 n) ?_
   refine pure_ (.pointer (some ⟨zb1, 39, none⟩)) ?_
   refine store_ zS6 1 (.int .i64 n) zb1 39 ?_
   intro zw9 zS10
   refine nil_ (blk_n (then_n (seq_ (reg_ ?_))))
   refine loadN_ zS10 1 56 (polC (upd q 39 n) ka kn kc) zb1 0 ?_
   refine store_ zS10 0 (.agg (polC (upd q 39 n) ka kn kc)) zb4 0 ?_
   intro zw11 zS12
   refine nil_ (then_n (wp_ret ?_))
   refine ret_ rfl (res_ [.cell 6 37] [.agg (polC (upd q 39 n) ka kn kc)] (.agg (polC (upd q 39 n) ka kn kc)) ⟨res_cellN zS12 0 56 zb4 0, trivial⟩) ?_
   obtain rfl : k = 0 := by omega
   exact ⟨by kernel_rfl, zS12.ch⟩
 intro zh13
 have zh14 := eqF' zh13
 refine seq_ (reg_ ?_)
 refine pure_ (.bool (k == 1)) ?_
 refine pure_ (.bool (k == 1)) ?_
 refine nil_ (then_n ?_)
 refine cond_S (k == 1) ?_ ?_
 · intro zh15
   have zh16 := eqT' zh15
   refine reg_ ?_
   refine pure_ (.int .i64 n) ?_
   refine pure_ (.pointer (some ⟨zb1, 40, none⟩)) ?_
   refine store_ zS6 1 (.int .i64 n) zb1 40 ?_
   intro zw17 zS18
   refine nil_ (blk_n (then_n (seq_ (reg_ ?_))))
   refine loadN_ zS18 1 56 (polC (upd q 40 n) ka kn kc) zb1 0 ?_
   refine store_ zS18 0 (.agg (polC (upd q 40 n) ka kn kc)) zb4 0 ?_
   intro zw19 zS20
   refine nil_ (then_n (wp_ret ?_))
   refine ret_ rfl (res_ [.cell 6 37] [.agg (polC (upd q 40 n) ka kn kc)] (.agg (polC (upd q 40 n) ka kn kc)) ⟨res_cellN zS20 0 56 zb4 0, trivial⟩) ?_
   obtain rfl : k = 1 := by omega
   exact ⟨by kernel_rfl, zS20.ch⟩
 intro zh21
 have zh22 := eqF' zh21
 refine seq_ (reg_ ?_)
 refine pure_ (.bool (k == 2)) ?_
 refine pure_ (.bool (k == 2)) ?_
 refine nil_ (then_n ?_)
 refine cond_S (k == 2) ?_ ?_
 · intro zh23
   have zh24 := eqT' zh23
   refine reg_ ?_
   refine pure_ (.int .i64 n) ?_
   refine pure_ (.pointer (some ⟨zb1, 41, none⟩)) ?_
   refine store_ zS6 1 (.int .i64 n) zb1 41 ?_
   intro zw25 zS26
   refine nil_ (blk_n (then_n (seq_ (reg_ ?_))))
   refine loadN_ zS26 1 56 (polC (upd q 41 n) ka kn kc) zb1 0 ?_
   refine store_ zS26 0 (.agg (polC (upd q 41 n) ka kn kc)) zb4 0 ?_
   intro zw27 zS28
   refine nil_ (then_n (wp_ret ?_))
   refine ret_ rfl (res_ [.cell 6 37] [.agg (polC (upd q 41 n) ka kn kc)] (.agg (polC (upd q 41 n) ka kn kc)) ⟨res_cellN zS28 0 56 zb4 0, trivial⟩) ?_
   obtain rfl : k = 2 := by omega
   exact ⟨by kernel_rfl, zS28.ch⟩
 intro zh29
 have zh30 := eqF' zh29
 refine seq_ (reg_ ?_)
 refine pure_ (.bool (k == 3)) ?_
 refine pure_ (.bool (k == 3)) ?_
 refine nil_ (then_n ?_)
 refine cond_S (k == 3) ?_ ?_
 · intro zh31
   have zh32 := eqT' zh31
   refine reg_ ?_
   refine pure_ (.int .i64 n) ?_
   refine pure_ (.pointer (some ⟨zb1, 42, none⟩)) ?_
   refine store_ zS6 1 (.int .i64 n) zb1 42 ?_
   intro zw33 zS34
   refine nil_ (blk_n (then_n (seq_ (reg_ ?_))))
   refine loadN_ zS34 1 56 (polC (upd q 42 n) ka kn kc) zb1 0 ?_
   refine store_ zS34 0 (.agg (polC (upd q 42 n) ka kn kc)) zb4 0 ?_
   intro zw35 zS36
   refine nil_ (then_n (wp_ret ?_))
   refine ret_ rfl (res_ [.cell 6 37] [.agg (polC (upd q 42 n) ka kn kc)] (.agg (polC (upd q 42 n) ka kn kc)) ⟨res_cellN zS36 0 56 zb4 0, trivial⟩) ?_
   obtain rfl : k = 3 := by omega
   exact ⟨by kernel_rfl, zS36.ch⟩
 intro zh37
 have zh38 := eqF' zh37
 refine seq_ (reg_ ?_)
 refine pure_ (.bool (k == 4)) ?_
 refine pure_ (.bool (k == 4)) ?_
 refine nil_ (then_n ?_)
 refine cond_S (k == 4) ?_ ?_
 · intro zh39
   have zh40 := eqT' zh39
   refine reg_ ?_
   refine pure_ (.int .i64 n) ?_
   refine pure_ (.pointer (some ⟨zb1, 43, none⟩)) ?_
   refine store_ zS6 1 (.int .i64 n) zb1 43 ?_
   intro zw41 zS42
   refine nil_ (blk_n (then_n (seq_ (reg_ ?_))))
   refine loadN_ zS42 1 56 (polC (upd q 43 n) ka kn kc) zb1 0 ?_
   refine store_ zS42 0 (.agg (polC (upd q 43 n) ka kn kc)) zb4 0 ?_
   intro zw43 zS44
   refine nil_ (then_n (wp_ret ?_))
   refine ret_ rfl (res_ [.cell 6 37] [.agg (polC (upd q 43 n) ka kn kc)] (.agg (polC (upd q 43 n) ka kn kc)) ⟨res_cellN zS44 0 56 zb4 0, trivial⟩) ?_
   obtain rfl : k = 4 := by omega
   exact ⟨by kernel_rfl, zS44.ch⟩
 intro zh45
 have zh46 := eqF' zh45
 refine seq_ (reg_ ?_)
 refine pure_ (.bool (k == 5)) ?_
 refine pure_ (.bool (k == 5)) ?_
 refine nil_ (then_n ?_)
 refine cond_S (k == 5) ?_ ?_
 · intro zh47
   have zh48 := eqT' zh47
   refine reg_ ?_
   refine pure_ (.int .i64 n) ?_
   refine pure_ (.pointer (some ⟨zb1, 44, none⟩)) ?_
   refine store_ zS6 1 (.int .i64 n) zb1 44 ?_
   intro zw49 zS50
   refine nil_ (blk_n (then_n (seq_ (reg_ ?_))))
   refine loadN_ zS50 1 56 (polC (upd q 44 n) ka kn kc) zb1 0 ?_
   refine store_ zS50 0 (.agg (polC (upd q 44 n) ka kn kc)) zb4 0 ?_
   intro zw51 zS52
   refine nil_ (then_n (wp_ret ?_))
   refine ret_ rfl (res_ [.cell 6 37] [.agg (polC (upd q 44 n) ka kn kc)] (.agg (polC (upd q 44 n) ka kn kc)) ⟨res_cellN zS52 0 56 zb4 0, trivial⟩) ?_
   obtain rfl : k = 5 := by omega
   exact ⟨by kernel_rfl, zS52.ch⟩
 intro zh53
 have zh54 := eqF' zh53
 refine seq_ (reg_ ?_)
 refine pure_ (.bool (k == 6)) ?_
 refine pure_ (.bool (k == 6)) ?_
 refine nil_ (then_n ?_)
 refine cond_S (k == 6) ?_ ?_
 · intro zh55
   have zh56 := eqT' zh55
   refine reg_ ?_
   refine pure_ (.int .i64 n) ?_
   refine pure_ (.pointer (some ⟨zb1, 45, none⟩)) ?_
   refine store_ zS6 1 (.int .i64 n) zb1 45 ?_
   intro zw57 zS58
   refine nil_ (blk_n (then_n (seq_ (reg_ ?_))))
   refine loadN_ zS58 1 56 (polC (upd q 45 n) ka kn kc) zb1 0 ?_
   refine store_ zS58 0 (.agg (polC (upd q 45 n) ka kn kc)) zb4 0 ?_
   intro zw59 zS60
   refine nil_ (then_n (wp_ret ?_))
   refine ret_ rfl (res_ [.cell 6 37] [.agg (polC (upd q 45 n) ka kn kc)] (.agg (polC (upd q 45 n) ka kn kc)) ⟨res_cellN zS60 0 56 zb4 0, trivial⟩) ?_
   obtain rfl : k = 6 := by omega
   exact ⟨by kernel_rfl, zS60.ch⟩
 intro zh61
 have zh62 := eqF' zh61
 refine seq_ (reg_ ?_)
 refine pure_ (.bool (k == 7)) ?_
 refine pure_ (.bool (k == 7)) ?_
 refine nil_ (then_n ?_)
 refine cond_S (k == 7) ?_ ?_
 · intro zh63
   have zh64 := eqT' zh63
   refine reg_ ?_
   refine pure_ (.int .i64 n) ?_
   refine pure_ (.pointer (some ⟨zb1, 46, none⟩)) ?_
   refine store_ zS6 1 (.int .i64 n) zb1 46 ?_
   intro zw65 zS66
   refine nil_ (blk_n (then_n (seq_ (reg_ ?_))))
   refine loadN_ zS66 1 56 (polC (upd q 46 n) ka kn kc) zb1 0 ?_
   refine store_ zS66 0 (.agg (polC (upd q 46 n) ka kn kc)) zb4 0 ?_
   intro zw67 zS68
   refine nil_ (then_n (wp_ret ?_))
   refine ret_ rfl (res_ [.cell 6 37] [.agg (polC (upd q 46 n) ka kn kc)] (.agg (polC (upd q 46 n) ka kn kc)) ⟨res_cellN zS68 0 56 zb4 0, trivial⟩) ?_
   obtain rfl : k = 7 := by omega
   exact ⟨by kernel_rfl, zS68.ch⟩
 intro zh69
 have zh70 := eqF' zh69
 refine seq_ (reg_ ?_)
 refine pure_ (.bool (k == 8)) ?_
 refine pure_ (.bool (k == 8)) ?_
 refine nil_ (then_n ?_)
 refine cond_S (k == 8) ?_ ?_
 · intro zh71
   have zh72 := eqT' zh71
   refine reg_ ?_
   refine pure_ (.int .i64 n) ?_
   refine pure_ (.pointer (some ⟨zb1, 47, none⟩)) ?_
   refine store_ zS6 1 (.int .i64 n) zb1 47 ?_
   intro zw73 zS74
   refine nil_ (blk_n (then_n (seq_ (reg_ ?_))))
   refine loadN_ zS74 1 56 (polC (upd q 47 n) ka kn kc) zb1 0 ?_
   refine store_ zS74 0 (.agg (polC (upd q 47 n) ka kn kc)) zb4 0 ?_
   intro zw75 zS76
   refine nil_ (then_n (wp_ret ?_))
   refine ret_ rfl (res_ [.cell 6 37] [.agg (polC (upd q 47 n) ka kn kc)] (.agg (polC (upd q 47 n) ka kn kc)) ⟨res_cellN zS76 0 56 zb4 0, trivial⟩) ?_
   obtain rfl : k = 8 := by omega
   exact ⟨by kernel_rfl, zS76.ch⟩
 intro zh77
 have zh78 := eqF' zh77
 refine seq_ (reg_ ?_)
 refine pure_ (.bool (k == 9)) ?_
 refine pure_ (.bool (k == 9)) ?_
 refine nil_ (then_n ?_)
 refine cond_S (k == 9) ?_ ?_
 · intro zh79
   have zh80 := eqT' zh79
   refine reg_ ?_
   refine pure_ (.int .i64 n) ?_
   refine pure_ (.pointer (some ⟨zb1, 48, none⟩)) ?_
   refine store_ zS6 1 (.int .i64 n) zb1 48 ?_
   intro zw81 zS82
   refine nil_ (blk_n (then_n (seq_ (reg_ ?_))))
   refine loadN_ zS82 1 56 (polC (upd q 48 n) ka kn kc) zb1 0 ?_
   refine store_ zS82 0 (.agg (polC (upd q 48 n) ka kn kc)) zb4 0 ?_
   intro zw83 zS84
   refine nil_ (then_n (wp_ret ?_))
   refine ret_ rfl (res_ [.cell 6 37] [.agg (polC (upd q 48 n) ka kn kc)] (.agg (polC (upd q 48 n) ka kn kc)) ⟨res_cellN zS84 0 56 zb4 0, trivial⟩) ?_
   obtain rfl : k = 9 := by omega
   exact ⟨by kernel_rfl, zS84.ch⟩
 intro zh85
 have zh86 := eqF' zh85
 refine seq_ (reg_ ?_)
 refine pure_ (.bool (k == 10)) ?_
 refine pure_ (.bool (k == 10)) ?_
 refine nil_ (then_n ?_)
 refine cond_S (k == 10) ?_ ?_
 · intro zh87
   have zh88 := eqT' zh87
   refine reg_ ?_
   refine pure_ (.int .i64 n) ?_
   refine pure_ (.pointer (some ⟨zb1, 49, none⟩)) ?_
   refine store_ zS6 1 (.int .i64 n) zb1 49 ?_
   intro zw89 zS90
   refine nil_ (blk_n (then_n (seq_ (reg_ ?_))))
   refine loadN_ zS90 1 56 (polC (upd q 49 n) ka kn kc) zb1 0 ?_
   refine store_ zS90 0 (.agg (polC (upd q 49 n) ka kn kc)) zb4 0 ?_
   intro zw91 zS92
   refine nil_ (then_n (wp_ret ?_))
   refine ret_ rfl (res_ [.cell 6 37] [.agg (polC (upd q 49 n) ka kn kc)] (.agg (polC (upd q 49 n) ka kn kc)) ⟨res_cellN zS92 0 56 zb4 0, trivial⟩) ?_
   obtain rfl : k = 10 := by omega
   exact ⟨by kernel_rfl, zS92.ch⟩
 intro zh93
 have zh94 := eqF' zh93
 refine seq_ (reg_ ?_)
 refine pure_ (.bool (k == 11)) ?_
 refine pure_ (.bool (k == 11)) ?_
 refine nil_ (then_n ?_)
 refine cond_S (k == 11) ?_ ?_
 · intro zh95
   have zh96 := eqT' zh95
   refine reg_ ?_
   refine pure_ (.int .i64 n) ?_
   refine pure_ (.pointer (some ⟨zb1, 54, none⟩)) ?_
   refine store_ zS6 1 (.int .i64 n) zb1 54 ?_
   intro zw97 zS98
   refine nil_ (blk_n (then_n (seq_ (reg_ ?_))))
   refine loadN_ zS98 1 56 (polC (upd q 54 n) ka kn kc) zb1 0 ?_
   refine store_ zS98 0 (.agg (polC (upd q 54 n) ka kn kc)) zb4 0 ?_
   intro zw99 zS100
   refine nil_ (then_n (wp_ret ?_))
   refine ret_ rfl (res_ [.cell 6 37] [.agg (polC (upd q 54 n) ka kn kc)] (.agg (polC (upd q 54 n) ka kn kc)) ⟨res_cellN zS100 0 56 zb4 0, trivial⟩) ?_
   obtain rfl : k = 11 := by omega
   exact ⟨by kernel_rfl, zS100.ch⟩
 intro zh101
 have zh102 := eqF' zh101
 refine reg_ ?_
 refine pure_ (.int .i64 n) ?_
 refine pure_ (.pointer (some ⟨zb1, 55, none⟩)) ?_
 refine store_ zS6 1 (.int .i64 n) zb1 55 ?_
 intro zw103 zS104
 refine nil_ (blk_n (then_n (seq_ (reg_ ?_))))
 refine loadN_ zS104 1 56 (polC (upd q 55 n) ka kn kc) zb1 0 ?_
 refine store_ zS104 0 (.agg (polC (upd q 55 n) ka kn kc)) zb4 0 ?_
 intro zw105 zS106
 refine nil_ (then_n (wp_ret ?_))
 refine ret_ rfl (res_ [.cell 6 37] [.agg (polC (upd q 55 n) ka kn kc)] (.agg (polC (upd q 55 n) ka kn kc)) ⟨res_cellN zS106 0 56 zb4 0, trivial⟩) ?_
 obtain rfl : k = 12 := by omega
 exact ⟨by kernel_rfl, zS106.ch⟩

set_option maxRecDepth 100000 in
set_option maxHeartbeats 4000000 in
theorem policyBounds_any (q : Nat → Int) (ka : Nat → Option Addr) (kn kc : Nat → Nat) (kb : Nat → Nat → Int) (which : Int) (hw : 0 ≤ which ∧ which ≤ 255) (w : World) (hq : ∀ i, -9223372036854775808 ≤ q i ∧ q i ≤ 9223372036854775807) (hK : ∀ i, i < 4 → KeyIn [] w (ka i) (kn i) (kc i) (kb i)) :
    Gives Try.prog 13 #[.agg (polC q ka kn kc), .int .u8 which] w fun v w1 => v = .bool true ∧ Ch [] w w1 := by
 have hlo := low_bd (0 + ((which % 13)).toNat)
 have hhi := high_bd (0 + ((which % 13)).toNat)
 have S0 := St.nil [] w
 refine enter_ Try.func13 rfl ?_
 refine seq_ (reg_ ?_)
 refine new_ S0 (fun b => .pointer (some ⟨b, 0, none⟩)) (.cells (polC q ka kn kc) 37) ?_
 intro zb1 zw2 zS3
 refine pure_ (.bool false) ?_
 refine nil_ (then_n (seq_ (reg_ ?_)))
 refine call_ 27 #[] ?_
 refine (shown12 _).mono ?_; rintro _ zw4 ⟨rfl, zhc5⟩
 have zS6 := zS3.quiet zhc5
 refine pure_ (.bool true) ?_
 refine nil_ (then_n (seq_ (reg_ ?_)))
 refine loadN_ zS6 0 56 (polC q ka kn kc) zb1 0 ?_
 refine call_ 33 #[.agg (polC q ka kn kc)] ?_
 refine (fitA_ q ka kn kc kb w _ zS6.ch hq hK).mono ?_; rintro _ zw7 ⟨x, xa, xn, xc, hX, rfl, zh8⟩
 have zS9 := zS6.quiet zh8
 refine new_ zS9 (fun b => .pointer (some ⟨b, 0, none⟩)) (.cells #[.int .i64 0, .int .i64 0, .int .i64 0, .int .i64 0, .int .i64 0, .slice none 0 0, .slice none 0 0, .slice none 0 0, .slice none 0 0, .int .i64 0, .int .i64 0, .int .i64 0, .int .i64 0, .int .i64 0, .int .i64 0, .int .i64 0, .int .i64 0, .int .i64 0, .int .i64 0, .int .i64 0, .int .i64 0, .int .i64 0, .int .i64 0, .int .i64 0, .int .i64 0, .int .i64 0, .int .i64 0, .int .i64 0, .int .i64 0, .int .i64 0, .int .i64 0, .int .i64 0, .int .i64 0, .int .i64 0, .int .i64 0, .int .i64 0, .int .i64 0, .int .i64 0, .int .i64 0, .int .i64 0, .int .i64 0, .int .i64 0, .int .i64 0, .int .i64 0, .int .i64 0, .int .i64 0, .int .i64 0, .int .i64 0, .int .i64 0, .int .i64 0, .int .i64 0, .int .i64 0, .int .i64 0, .int .i64 0, .int .i64 0, .int .i64 0] 37) ?_
 intro zb10 zw11 zS12
 refine store_ zS12 0 (.agg (polC x xa xn xc)) zb10 0 ?_
 intro zw13 zS14
 refine nil_ (then_n (seq_ (reg_ ?_)))
 refine pure_ (.int .u8 which) ?_
 refine sum_ .i64 which (IntWalk.i64_in _ (by omega)) ?_
 refine pureE_ (.int .i64 (Int.tmod which 13)) (.int .i64 (which % 13)) (congrArg _ (IntWalk.rem_in _ _ (by omega))) ?_
 refine pure_ (.int .i64 (which % 13)) ?_
 refine nil_ (then_n (seq_ (reg_ ?_)))
 refine pure_ (.agg #[.int .i64 0, .int .i64 0, .int .i64 0, .int .i64 1, .int .i64 1, .int .i64 1, .int .i64 1, .int .i64 1, .int .i64 0, .int .i64 1, .int .i64 1, .int .i64 1, .int .i64 0]) ?_
 refine new_ zS14 (fun b => .pointer (some ⟨b, 0, none⟩)) (.cells #[.int .i64 0, .int .i64 0, .int .i64 0, .int .i64 0, .int .i64 0, .int .i64 0, .int .i64 0, .int .i64 0, .int .i64 0, .int .i64 0, .int .i64 0, .int .i64 0, .int .i64 0] 67) ?_
 intro zb15 zw16 zS17
 refine store_ zS17 0 (.agg #[.int .i64 0, .int .i64 0, .int .i64 0, .int .i64 1, .int .i64 1, .int .i64 1, .int .i64 1, .int .i64 1, .int .i64 0, .int .i64 1, .int .i64 1, .int .i64 1, .int .i64 0]) zb15 0 ?_
 intro zw18 zS19
 refine nil_ (then_n (seq_ (reg_ ?_)))
 refine pure_ (.agg #[.int .i64 4, .int .i64 4, .int .i64 4, .int .i64 1000, .int .i64 1000, .int .i64 1000, .int .i64 1000, .int .i64 1000, .int .i64 1000, .int .i64 3, .int .i64 3, .int .i64 1000, .int .i64 65535]) ?_
 refine new_ zS19 (fun b => .pointer (some ⟨b, 0, none⟩)) (.cells #[.int .i64 0, .int .i64 0, .int .i64 0, .int .i64 0, .int .i64 0, .int .i64 0, .int .i64 0, .int .i64 0, .int .i64 0, .int .i64 0, .int .i64 0, .int .i64 0, .int .i64 0] 67) ?_
 intro zb20 zw21 zS22
 refine store_ zS22 0 (.agg #[.int .i64 4, .int .i64 4, .int .i64 4, .int .i64 1000, .int .i64 1000, .int .i64 1000, .int .i64 1000, .int .i64 1000, .int .i64 1000, .int .i64 3, .int .i64 3, .int .i64 1000, .int .i64 65535]) zb20 0 ?_
 intro zw23 zS24
 refine nil_ (then_n (seq_ ?_))
 refine drawnL_ 44 [⟨0, fun _ => .bool true, fun _ => []⟩, ⟨0, fun _ => .bool true, fun _ => []⟩, ⟨0, fun _ => .agg (polC x xa xn xc), fun _ => []⟩, ⟨0, fun _ => .int .i64 (which % 13), fun _ => []⟩, ⟨0, fun _ => .int .i64 (which % 13), fun _ => []⟩, ⟨0, fun _ => .pointer (some ⟨zb15, (0 + ((which % 13)).toNat), none⟩), fun _ => []⟩, ⟨0, fun _ => .int .i64 (lowT (0 + ((which % 13)).toNat)), fun _ => []⟩, ⟨0, fun _ => .agg (polC (upd x (idxB (which % 13)) (lowT (0 + ((which % 13)).toNat))) xa xn xc), fun _ => []⟩, ⟨0, fun _ => .int .i64 (polCode (upd x (idxB (which % 13)) (lowT (0 + ((which % 13)).toNat))) xn), fun _ => []⟩, ⟨0, fun _ => .bool true, fun _ => []⟩, ⟨0, fun _ => .bool true, fun _ => []⟩, ⟨0, fun _ => .bool true, fun _ => []⟩, ⟨0, fun _ => .agg (polC x xa xn xc), fun _ => []⟩, ⟨0, fun _ => .int .i64 (which % 13), fun _ => []⟩, ⟨0, fun _ => .int .i64 (which % 13), fun _ => []⟩, ⟨0, fun _ => .pointer (some ⟨zb20, (0 + ((which % 13)).toNat), none⟩), fun _ => []⟩, ⟨0, fun _ => .int .i64 (highT (0 + ((which % 13)).toNat)), fun _ => []⟩, ⟨0, fun _ => .agg (polC (upd x (idxB (which % 13)) (highT (0 + ((which % 13)).toNat))) xa xn xc), fun _ => []⟩, ⟨0, fun _ => .int .i64 (polCode (upd x (idxB (which % 13)) (highT (0 + ((which % 13)).toNat))) xn), fun _ => []⟩, ⟨0, fun _ => .bool true, fun _ => []⟩, ⟨0, fun _ => .bool true, fun _ => []⟩, ⟨0, fun _ => .bool true, fun _ => []⟩, ⟨0, fun _ => .agg (polC x xa xn xc), fun _ => []⟩, ⟨0, fun _ => .int .i64 (which % 13), fun _ => []⟩, ⟨0, fun _ => .int .i64 (which % 13), fun _ => []⟩, ⟨0, fun _ => .pointer (some ⟨zb15, (0 + ((which % 13)).toNat), none⟩), fun _ => []⟩, ⟨0, fun _ => .int .i64 (lowT (0 + ((which % 13)).toNat)), fun _ => []⟩, ⟨0, fun _ => .int .i64 ((lowT (0 + ((which % 13)).toNat)) - 1), fun _ => []⟩, ⟨0, fun _ => .agg (polC (upd x (idxB (which % 13)) ((lowT (0 + ((which % 13)).toNat)) - 1)) xa xn xc), fun _ => []⟩, ⟨0, fun _ => .int .i64 (polCode (upd x (idxB (which % 13)) ((lowT (0 + ((which % 13)).toNat)) - 1)) xn), fun _ => []⟩, ⟨0, fun _ => .bool true, fun _ => []⟩, ⟨0, fun _ => .bool true, fun _ => []⟩, ⟨0, fun _ => .bool true, fun _ => []⟩, ⟨0, fun _ => .agg (polC x xa xn xc), fun _ => []⟩, ⟨0, fun _ => .int .i64 (which % 13), fun _ => []⟩, ⟨0, fun _ => .int .i64 (which % 13), fun _ => []⟩, ⟨0, fun _ => .pointer (some ⟨zb20, (0 + ((which % 13)).toNat), none⟩), fun _ => []⟩, ⟨0, fun _ => .int .i64 (highT (0 + ((which % 13)).toNat)), fun _ => []⟩, ⟨0, fun _ => .int .i64 ((highT (0 + ((which % 13)).toNat)) + 1), fun _ => []⟩, ⟨0, fun _ => .agg (polC (upd x (idxB (which % 13)) ((highT (0 + ((which % 13)).toNat)) + 1)) xa xn xc), fun _ => []⟩, ⟨0, fun _ => .int .i64 (polCode (upd x (idxB (which % 13)) ((highT (0 + ((which % 13)).toNat)) + 1)) xn), fun _ => []⟩, ⟨0, fun _ => .bool true, fun _ => []⟩, ⟨0, fun _ => .bool true, fun _ => []⟩, ⟨0, fun _ => .bool true, fun _ => []⟩] [] ?_ ?_
 · refine step_cons ?_ ?_
   · intro zy25 zw26 zhc27 zhf28 zhp29
     have zh30 : zy25 5 = .bool true := (zhf28 5 (by kernel_rfl)).trans (by kernel_rfl)
     have zS31 := zS24.quiet zhc27
     refine step1 ?_
     refine yenv [(5, .bool true)] (ag_cons zh30 (ag_nil)) ?_
     have zS32 := zS31.loc
     refine Y.pure_ (.bool true) ?_
     exact ⟨zS32.ch, Sp.mk_holds [] (all_nil)⟩
   refine step_cons ?_ ?_
   · intro zy33 zw34 zhc35 zhf36 zhp37
     have zh38 : zy33 18 = .bool true := (Sp.out0 (zhp37 0 18 (by kernel_rfl) (by kernel_rfl))).1
     have zS39 := zS24.quiet zhc35
     refine step1 ?_
     refine yenv [(18, .bool true)] (ag_cons zh38 (ag_nil)) ?_
     have zS40 := zS39.loc
     refine Y.pure_ (.bool true) ?_
     exact ⟨zS40.ch, Sp.mk_holds [] (all_nil)⟩
   refine step_cons ?_ ?_
   · intro zy41 zw42 zhc43 zhf44 zhp45
     have zh46 : zy41 6 = .pointer (some ⟨zb10, 0, none⟩) := (zhf44 6 (by kernel_rfl)).trans (by kernel_rfl)
     have zh47 : zy41 19 = .bool true := (Sp.out0 (zhp45 1 19 (by kernel_rfl) (by kernel_rfl))).1
     have zS48 := zS24.quiet zhc43
     refine step_yes (wY_t zh47) ?_
     refine yenv [(6, .pointer (some ⟨zb10, 0, none⟩))] (ag_cons zh46 (ag_nil)) ?_
     have zS49 := zS48.loc
     refine Y.loadN_ zS49 2 56 (polC x xa xn xc) zb10 0 ?_
     exact ⟨zS49.ch, Sp.mk_holds [] (all_nil)⟩
   refine step_cons ?_ ?_
   · intro zy50 zw51 zhc52 zhf53 zhp54
     have zh55 : zy50 7 = .int .i64 (which % 13) := (zhf53 7 (by kernel_rfl)).trans (by kernel_rfl)
     have zh56 : zy50 19 = .bool true := (Sp.out0 (zhp54 1 19 (by kernel_rfl) (by kernel_rfl))).1
     have zS57 := zS24.quiet zhc52
     refine step_yes (wY_t zh56) ?_
     refine yenv [(7, .int .i64 (which % 13))] (ag_cons zh55 (ag_nil)) ?_
     have zS58 := zS57.loc
     refine Y.pure_ (.int .i64 (which % 13)) ?_
     exact ⟨zS58.ch, Sp.mk_holds [] (all_nil)⟩
   refine step_cons ?_ ?_
   · intro zy59 zw60 zhc61 zhf62 zhp63
     have zh64 : zy59 7 = .int .i64 (which % 13) := (zhf62 7 (by kernel_rfl)).trans (by kernel_rfl)
     have zh65 : zy59 19 = .bool true := (Sp.out0 (zhp63 1 19 (by kernel_rfl) (by kernel_rfl))).1
     have zS66 := zS24.quiet zhc61
     refine step_yes (wY_t zh65) ?_
     refine yenv [(7, .int .i64 (which % 13))] (ag_cons zh64 (ag_nil)) ?_
     have zS67 := zS66.loc
     refine Y.pure_ (.int .i64 (which % 13)) ?_
     exact ⟨zS67.ch, Sp.mk_holds [] (all_nil)⟩
   refine step_cons ?_ ?_
   · intro zy68 zw69 zhc70 zhf71 zhp72
     have zh73 : zy68 8 = .pointer (some ⟨zb15, 0, none⟩) := (zhf71 8 (by kernel_rfl)).trans (by kernel_rfl)
     have zh74 : zy68 22 = .int .i64 (which % 13) := (Sp.out0 (zhp72 4 22 (by kernel_rfl) (by kernel_rfl))).1
     have zh75 : zy68 19 = .bool true := (Sp.out0 (zhp72 1 19 (by kernel_rfl) (by kernel_rfl))).1
     have zS76 := zS24.quiet zhc70
     refine step_yes (wY_t zh75) ?_
     refine yenv [(8, .pointer (some ⟨zb15, 0, none⟩)), (22, .int .i64 (which % 13))] (ag_cons zh73 (ag_cons zh74 (ag_nil))) ?_
     have zS77 := zS76.loc
     refine Y.idxA_ zb15 0 (0 + ((which % 13)).toNat) 13 1 .i64 (which % 13) (by omega) (by omega) (by omega) ?_ (e := 3)
     exact ⟨zS77.ch, Sp.mk_holds [] (all_nil)⟩
   refine step_cons ?_ ?_
   · intro zy78 zw79 zhc80 zhf81 zhp82
     have zh83 : zy78 23 = .pointer (some ⟨zb15, (0 + ((which % 13)).toNat), none⟩) := (Sp.out0 (zhp82 5 23 (by kernel_rfl) (by kernel_rfl))).1
     have zh84 : zy78 19 = .bool true := (Sp.out0 (zhp82 1 19 (by kernel_rfl) (by kernel_rfl))).1
     have zS85 := zS24.quiet zhc80
     refine step_yes (wY_t zh84) ?_
     refine yenv [(23, .pointer (some ⟨zb15, (0 + ((which % 13)).toNat), none⟩))] (ag_cons zh83 (ag_nil)) ?_
     have zS86 := zS85.loc
     refine Y.load1_ zS86 1 (.int .i64 (lowT (0 + ((which % 13)).toNat))) zb15 (0 + ((which % 13)).toNat) ?_ (hb := lk_of (wr := false) (t := 67) (fr := (0, 0)) (by kernel_rfl) (low_at (0 + ((which % 13)).toNat) (by omega)))
     exact ⟨zS86.ch, Sp.mk_holds [] (all_nil)⟩
   refine step_cons ?_ ?_
   · intro zy87 zw88 zhc89 zhf90 zhp91
     have zh92 : zy87 20 = .agg (polC x xa xn xc) := (Sp.out0 (zhp91 2 20 (by kernel_rfl) (by kernel_rfl))).1
     have zh93 : zy87 21 = .int .i64 (which % 13) := (Sp.out0 (zhp91 3 21 (by kernel_rfl) (by kernel_rfl))).1
     have zh94 : zy87 24 = .int .i64 (lowT (0 + ((which % 13)).toNat)) := (Sp.out0 (zhp91 6 24 (by kernel_rfl) (by kernel_rfl))).1
     have zh95 : zy87 19 = .bool true := (Sp.out0 (zhp91 1 19 (by kernel_rfl) (by kernel_rfl))).1
     have zS96 := zS24.quiet zhc89
     refine step_yes (wY_t zh95) ?_
     refine yenv [(20, .agg (polC x xa xn xc)), (21, .int .i64 (which % 13)), (24, .int .i64 (lowT (0 + ((which % 13)).toNat)))] (ag_cons zh92 (ag_cons zh93 (ag_cons zh94 (ag_nil)))) ?_
     have zS97 := zS96.loc
     refine Y.call_ 35 #[.agg (polC x xa xn xc), .int .i64 (which % 13), .int .i64 (lowT (0 + ((which % 13)).toNat))] ?_
     refine (set_ x xa xn xc (which % 13) (lowT (0 + ((which % 13)).toNat)) (by omega) _).mono ?_; rintro _ zw98 ⟨rfl, zh99⟩
     have zS100 := zS97.quiet zh99
     exact ⟨zS100.ch, Sp.mk_holds [] (all_nil)⟩
   refine step_cons ?_ ?_
   · intro zy101 zw102 zhc103 zhf104 zhp105
     have zh106 : zy101 25 = .agg (polC (upd x (idxB (which % 13)) (lowT (0 + ((which % 13)).toNat))) xa xn xc) := (Sp.out0 (zhp105 7 25 (by kernel_rfl) (by kernel_rfl))).1
     have zh107 : zy101 19 = .bool true := (Sp.out0 (zhp105 1 19 (by kernel_rfl) (by kernel_rfl))).1
     have zS108 := zS24.quiet zhc103
     refine step_yes (wY_t zh107) ?_
     refine yenv [(25, .agg (polC (upd x (idxB (which % 13)) (lowT (0 + ((which % 13)).toNat))) xa xn xc))] (ag_cons zh106 (ag_nil)) ?_
     have zS109 := zS108.loc
     refine Y.call_ 29 #[.agg (polC (upd x (idxB (which % 13)) (lowT (0 + ((which % 13)).toNat))) xa xn xc)] ?_
     refine (check_any (upd x (idxB (which % 13)) (lowT (0 + ((which % 13)).toNat))) xa xn xc _).mono ?_; rintro _ zw110 ⟨rfl, zh111⟩
     have zS112 := zS109.quiet zh111
     exact ⟨zS112.ch, Sp.mk_holds [] (all_nil)⟩
   refine step_cons ?_ ?_
   · intro zy113 zw114 zhc115 zhf116 zhp117
     have zh118 : zy113 26 = .int .i64 (polCode (upd x (idxB (which % 13)) (lowT (0 + ((which % 13)).toNat))) xn) := (Sp.out0 (zhp117 8 26 (by kernel_rfl) (by kernel_rfl))).1
     have zh119 : zy113 19 = .bool true := (Sp.out0 (zhp117 1 19 (by kernel_rfl) (by kernel_rfl))).1
     have zS120 := zS24.quiet zhc115
     refine step_yes (wY_t zh119) ?_
     refine yenv [(26, .int .i64 (polCode (upd x (idxB (which % 13)) (lowT (0 + ((which % 13)).toNat))) xn))] (ag_cons zh118 (ag_nil)) ?_
     have zS121 := zS120.loc
     refine Y.pureE_ (.bool ((polCode (upd x (idxB (which % 13)) (lowT (0 + ((which % 13)).toNat))) xn) == 0)) (.bool true) (congrArg Value.bool (eqT (by have zk := bd_code (kn := xn) hX (which % 13) (by omega); omega))) ?_
     exact ⟨zS121.ch, Sp.mk_holds [] (all_nil)⟩
   refine step_cons ?_ ?_
   · intro zy122 zw123 zhc124 zhf125 zhp126
     have zh127 : zy122 19 = .bool true := (Sp.out0 (zhp126 1 19 (by kernel_rfl) (by kernel_rfl))).1
     have zh128 : zy122 27 = .bool true := (Sp.out0 (zhp126 9 27 (by kernel_rfl) (by kernel_rfl))).1
     have zS129 := zS24.quiet zhc124
     refine step1 ?_
     refine yenv [(19, .bool true), (27, .bool true)] (ag_cons zh127 (ag_cons zh128 (ag_nil))) ?_
     have zS130 := zS129.loc
     refine Y.pure_ (.bool true) ?_
     exact ⟨zS130.ch, Sp.mk_holds [] (all_nil)⟩
   refine step_cons ?_ ?_
   · intro zy131 zw132 zhc133 zhf134 zhp135
     have zh136 : zy131 28 = .bool true := (Sp.out0 (zhp135 10 28 (by kernel_rfl) (by kernel_rfl))).1
     have zS137 := zS24.quiet zhc133
     refine step1 ?_
     refine yenv [(28, .bool true)] (ag_cons zh136 (ag_nil)) ?_
     have zS138 := zS137.loc
     refine Y.pure_ (.bool true) ?_
     exact ⟨zS138.ch, Sp.mk_holds [] (all_nil)⟩
   refine step_cons ?_ ?_
   · intro zy139 zw140 zhc141 zhf142 zhp143
     have zh144 : zy139 6 = .pointer (some ⟨zb10, 0, none⟩) := (zhf142 6 (by kernel_rfl)).trans (by kernel_rfl)
     have zh145 : zy139 29 = .bool true := (Sp.out0 (zhp143 11 29 (by kernel_rfl) (by kernel_rfl))).1
     have zS146 := zS24.quiet zhc141
     refine step_yes (wY_t zh145) ?_
     refine yenv [(6, .pointer (some ⟨zb10, 0, none⟩))] (ag_cons zh144 (ag_nil)) ?_
     have zS147 := zS146.loc
     refine Y.loadN_ zS147 2 56 (polC x xa xn xc) zb10 0 ?_
     exact ⟨zS147.ch, Sp.mk_holds [] (all_nil)⟩
   refine step_cons ?_ ?_
   · intro zy148 zw149 zhc150 zhf151 zhp152
     have zh153 : zy148 7 = .int .i64 (which % 13) := (zhf151 7 (by kernel_rfl)).trans (by kernel_rfl)
     have zh154 : zy148 29 = .bool true := (Sp.out0 (zhp152 11 29 (by kernel_rfl) (by kernel_rfl))).1
     have zS155 := zS24.quiet zhc150
     refine step_yes (wY_t zh154) ?_
     refine yenv [(7, .int .i64 (which % 13))] (ag_cons zh153 (ag_nil)) ?_
     have zS156 := zS155.loc
     refine Y.pure_ (.int .i64 (which % 13)) ?_
     exact ⟨zS156.ch, Sp.mk_holds [] (all_nil)⟩
   refine step_cons ?_ ?_
   · intro zy157 zw158 zhc159 zhf160 zhp161
     have zh162 : zy157 7 = .int .i64 (which % 13) := (zhf160 7 (by kernel_rfl)).trans (by kernel_rfl)
     have zh163 : zy157 29 = .bool true := (Sp.out0 (zhp161 11 29 (by kernel_rfl) (by kernel_rfl))).1
     have zS164 := zS24.quiet zhc159
     refine step_yes (wY_t zh163) ?_
     refine yenv [(7, .int .i64 (which % 13))] (ag_cons zh162 (ag_nil)) ?_
     have zS165 := zS164.loc
     refine Y.pure_ (.int .i64 (which % 13)) ?_
     exact ⟨zS165.ch, Sp.mk_holds [] (all_nil)⟩
   refine step_cons ?_ ?_
   · intro zy166 zw167 zhc168 zhf169 zhp170
     have zh171 : zy166 9 = .pointer (some ⟨zb20, 0, none⟩) := (zhf169 9 (by kernel_rfl)).trans (by kernel_rfl)
     have zh172 : zy166 32 = .int .i64 (which % 13) := (Sp.out0 (zhp170 14 32 (by kernel_rfl) (by kernel_rfl))).1
     have zh173 : zy166 29 = .bool true := (Sp.out0 (zhp170 11 29 (by kernel_rfl) (by kernel_rfl))).1
     have zS174 := zS24.quiet zhc168
     refine step_yes (wY_t zh173) ?_
     refine yenv [(9, .pointer (some ⟨zb20, 0, none⟩)), (32, .int .i64 (which % 13))] (ag_cons zh171 (ag_cons zh172 (ag_nil))) ?_
     have zS175 := zS174.loc
     refine Y.idxA_ zb20 0 (0 + ((which % 13)).toNat) 13 1 .i64 (which % 13) (by omega) (by omega) (by omega) ?_ (e := 3)
     exact ⟨zS175.ch, Sp.mk_holds [] (all_nil)⟩
   refine step_cons ?_ ?_
   · intro zy176 zw177 zhc178 zhf179 zhp180
     have zh181 : zy176 33 = .pointer (some ⟨zb20, (0 + ((which % 13)).toNat), none⟩) := (Sp.out0 (zhp180 15 33 (by kernel_rfl) (by kernel_rfl))).1
     have zh182 : zy176 29 = .bool true := (Sp.out0 (zhp180 11 29 (by kernel_rfl) (by kernel_rfl))).1
     have zS183 := zS24.quiet zhc178
     refine step_yes (wY_t zh182) ?_
     refine yenv [(33, .pointer (some ⟨zb20, (0 + ((which % 13)).toNat), none⟩))] (ag_cons zh181 (ag_nil)) ?_
     have zS184 := zS183.loc
     refine Y.load1_ zS184 0 (.int .i64 (highT (0 + ((which % 13)).toNat))) zb20 (0 + ((which % 13)).toNat) ?_ (hb := lk_of (wr := false) (t := 67) (fr := (0, 0)) (by kernel_rfl) (high_at (0 + ((which % 13)).toNat) (by omega)))
     exact ⟨zS184.ch, Sp.mk_holds [] (all_nil)⟩
   refine step_cons ?_ ?_
   · intro zy185 zw186 zhc187 zhf188 zhp189
     have zh190 : zy185 30 = .agg (polC x xa xn xc) := (Sp.out0 (zhp189 12 30 (by kernel_rfl) (by kernel_rfl))).1
     have zh191 : zy185 31 = .int .i64 (which % 13) := (Sp.out0 (zhp189 13 31 (by kernel_rfl) (by kernel_rfl))).1
     have zh192 : zy185 34 = .int .i64 (highT (0 + ((which % 13)).toNat)) := (Sp.out0 (zhp189 16 34 (by kernel_rfl) (by kernel_rfl))).1
     have zh193 : zy185 29 = .bool true := (Sp.out0 (zhp189 11 29 (by kernel_rfl) (by kernel_rfl))).1
     have zS194 := zS24.quiet zhc187
     refine step_yes (wY_t zh193) ?_
     refine yenv [(30, .agg (polC x xa xn xc)), (31, .int .i64 (which % 13)), (34, .int .i64 (highT (0 + ((which % 13)).toNat)))] (ag_cons zh190 (ag_cons zh191 (ag_cons zh192 (ag_nil)))) ?_
     have zS195 := zS194.loc
     refine Y.call_ 35 #[.agg (polC x xa xn xc), .int .i64 (which % 13), .int .i64 (highT (0 + ((which % 13)).toNat))] ?_
     refine (set_ x xa xn xc (which % 13) (highT (0 + ((which % 13)).toNat)) (by omega) _).mono ?_; rintro _ zw196 ⟨rfl, zh197⟩
     have zS198 := zS195.quiet zh197
     exact ⟨zS198.ch, Sp.mk_holds [] (all_nil)⟩
   refine step_cons ?_ ?_
   · intro zy199 zw200 zhc201 zhf202 zhp203
     have zh204 : zy199 35 = .agg (polC (upd x (idxB (which % 13)) (highT (0 + ((which % 13)).toNat))) xa xn xc) := (Sp.out0 (zhp203 17 35 (by kernel_rfl) (by kernel_rfl))).1
     have zh205 : zy199 29 = .bool true := (Sp.out0 (zhp203 11 29 (by kernel_rfl) (by kernel_rfl))).1
     have zS206 := zS24.quiet zhc201
     refine step_yes (wY_t zh205) ?_
     refine yenv [(35, .agg (polC (upd x (idxB (which % 13)) (highT (0 + ((which % 13)).toNat))) xa xn xc))] (ag_cons zh204 (ag_nil)) ?_
     have zS207 := zS206.loc
     refine Y.call_ 29 #[.agg (polC (upd x (idxB (which % 13)) (highT (0 + ((which % 13)).toNat))) xa xn xc)] ?_
     refine (check_any (upd x (idxB (which % 13)) (highT (0 + ((which % 13)).toNat))) xa xn xc _).mono ?_; rintro _ zw208 ⟨rfl, zh209⟩
     have zS210 := zS207.quiet zh209
     exact ⟨zS210.ch, Sp.mk_holds [] (all_nil)⟩
   refine step_cons ?_ ?_
   · intro zy211 zw212 zhc213 zhf214 zhp215
     have zh216 : zy211 36 = .int .i64 (polCode (upd x (idxB (which % 13)) (highT (0 + ((which % 13)).toNat))) xn) := (Sp.out0 (zhp215 18 36 (by kernel_rfl) (by kernel_rfl))).1
     have zh217 : zy211 29 = .bool true := (Sp.out0 (zhp215 11 29 (by kernel_rfl) (by kernel_rfl))).1
     have zS218 := zS24.quiet zhc213
     refine step_yes (wY_t zh217) ?_
     refine yenv [(36, .int .i64 (polCode (upd x (idxB (which % 13)) (highT (0 + ((which % 13)).toNat))) xn))] (ag_cons zh216 (ag_nil)) ?_
     have zS219 := zS218.loc
     refine Y.pureE_ (.bool ((polCode (upd x (idxB (which % 13)) (highT (0 + ((which % 13)).toNat))) xn) == 0)) (.bool true) (congrArg Value.bool (eqT (by have zk := bd_code (kn := xn) hX (which % 13) (by omega); omega))) ?_
     exact ⟨zS219.ch, Sp.mk_holds [] (all_nil)⟩
   refine step_cons ?_ ?_
   · intro zy220 zw221 zhc222 zhf223 zhp224
     have zh225 : zy220 29 = .bool true := (Sp.out0 (zhp224 11 29 (by kernel_rfl) (by kernel_rfl))).1
     have zh226 : zy220 37 = .bool true := (Sp.out0 (zhp224 19 37 (by kernel_rfl) (by kernel_rfl))).1
     have zS227 := zS24.quiet zhc222
     refine step1 ?_
     refine yenv [(29, .bool true), (37, .bool true)] (ag_cons zh225 (ag_cons zh226 (ag_nil))) ?_
     have zS228 := zS227.loc
     refine Y.pure_ (.bool true) ?_
     exact ⟨zS228.ch, Sp.mk_holds [] (all_nil)⟩
   refine step_cons ?_ ?_
   · intro zy229 zw230 zhc231 zhf232 zhp233
     have zh234 : zy229 38 = .bool true := (Sp.out0 (zhp233 20 38 (by kernel_rfl) (by kernel_rfl))).1
     have zS235 := zS24.quiet zhc231
     refine step1 ?_
     refine yenv [(38, .bool true)] (ag_cons zh234 (ag_nil)) ?_
     have zS236 := zS235.loc
     refine Y.pure_ (.bool true) ?_
     exact ⟨zS236.ch, Sp.mk_holds [] (all_nil)⟩
   refine step_cons ?_ ?_
   · intro zy237 zw238 zhc239 zhf240 zhp241
     have zh242 : zy237 6 = .pointer (some ⟨zb10, 0, none⟩) := (zhf240 6 (by kernel_rfl)).trans (by kernel_rfl)
     have zh243 : zy237 39 = .bool true := (Sp.out0 (zhp241 21 39 (by kernel_rfl) (by kernel_rfl))).1
     have zS244 := zS24.quiet zhc239
     refine step_yes (wY_t zh243) ?_
     refine yenv [(6, .pointer (some ⟨zb10, 0, none⟩))] (ag_cons zh242 (ag_nil)) ?_
     have zS245 := zS244.loc
     refine Y.loadN_ zS245 2 56 (polC x xa xn xc) zb10 0 ?_
     exact ⟨zS245.ch, Sp.mk_holds [] (all_nil)⟩
   refine step_cons ?_ ?_
   · intro zy246 zw247 zhc248 zhf249 zhp250
     have zh251 : zy246 7 = .int .i64 (which % 13) := (zhf249 7 (by kernel_rfl)).trans (by kernel_rfl)
     have zh252 : zy246 39 = .bool true := (Sp.out0 (zhp250 21 39 (by kernel_rfl) (by kernel_rfl))).1
     have zS253 := zS24.quiet zhc248
     refine step_yes (wY_t zh252) ?_
     refine yenv [(7, .int .i64 (which % 13))] (ag_cons zh251 (ag_nil)) ?_
     have zS254 := zS253.loc
     refine Y.pure_ (.int .i64 (which % 13)) ?_
     exact ⟨zS254.ch, Sp.mk_holds [] (all_nil)⟩
   refine step_cons ?_ ?_
   · intro zy255 zw256 zhc257 zhf258 zhp259
     have zh260 : zy255 7 = .int .i64 (which % 13) := (zhf258 7 (by kernel_rfl)).trans (by kernel_rfl)
     have zh261 : zy255 39 = .bool true := (Sp.out0 (zhp259 21 39 (by kernel_rfl) (by kernel_rfl))).1
     have zS262 := zS24.quiet zhc257
     refine step_yes (wY_t zh261) ?_
     refine yenv [(7, .int .i64 (which % 13))] (ag_cons zh260 (ag_nil)) ?_
     have zS263 := zS262.loc
     refine Y.pure_ (.int .i64 (which % 13)) ?_
     exact ⟨zS263.ch, Sp.mk_holds [] (all_nil)⟩
   refine step_cons ?_ ?_
   · intro zy264 zw265 zhc266 zhf267 zhp268
     have zh269 : zy264 8 = .pointer (some ⟨zb15, 0, none⟩) := (zhf267 8 (by kernel_rfl)).trans (by kernel_rfl)
     have zh270 : zy264 42 = .int .i64 (which % 13) := (Sp.out0 (zhp268 24 42 (by kernel_rfl) (by kernel_rfl))).1
     have zh271 : zy264 39 = .bool true := (Sp.out0 (zhp268 21 39 (by kernel_rfl) (by kernel_rfl))).1
     have zS272 := zS24.quiet zhc266
     refine step_yes (wY_t zh271) ?_
     refine yenv [(8, .pointer (some ⟨zb15, 0, none⟩)), (42, .int .i64 (which % 13))] (ag_cons zh269 (ag_cons zh270 (ag_nil))) ?_
     have zS273 := zS272.loc
     refine Y.idxA_ zb15 0 (0 + ((which % 13)).toNat) 13 1 .i64 (which % 13) (by omega) (by omega) (by omega) ?_ (e := 3)
     exact ⟨zS273.ch, Sp.mk_holds [] (all_nil)⟩
   refine step_cons ?_ ?_
   · intro zy274 zw275 zhc276 zhf277 zhp278
     have zh279 : zy274 43 = .pointer (some ⟨zb15, (0 + ((which % 13)).toNat), none⟩) := (Sp.out0 (zhp278 25 43 (by kernel_rfl) (by kernel_rfl))).1
     have zh280 : zy274 39 = .bool true := (Sp.out0 (zhp278 21 39 (by kernel_rfl) (by kernel_rfl))).1
     have zS281 := zS24.quiet zhc276
     refine step_yes (wY_t zh280) ?_
     refine yenv [(43, .pointer (some ⟨zb15, (0 + ((which % 13)).toNat), none⟩))] (ag_cons zh279 (ag_nil)) ?_
     have zS282 := zS281.loc
     refine Y.load1_ zS282 1 (.int .i64 (lowT (0 + ((which % 13)).toNat))) zb15 (0 + ((which % 13)).toNat) ?_ (hb := lk_of (wr := false) (t := 67) (fr := (0, 0)) (by kernel_rfl) (low_at (0 + ((which % 13)).toNat) (by omega)))
     exact ⟨zS282.ch, Sp.mk_holds [] (all_nil)⟩
   refine step_cons ?_ ?_
   · intro zy283 zw284 zhc285 zhf286 zhp287
     have zh288 : zy283 44 = .int .i64 (lowT (0 + ((which % 13)).toNat)) := (Sp.out0 (zhp287 26 44 (by kernel_rfl) (by kernel_rfl))).1
     have zh289 : zy283 39 = .bool true := (Sp.out0 (zhp287 21 39 (by kernel_rfl) (by kernel_rfl))).1
     have zS290 := zS24.quiet zhc285
     refine step_yes (wY_t zh289) ?_
     refine yenv [(44, .int .i64 (lowT (0 + ((which % 13)).toNat)))] (ag_cons zh288 (ag_nil)) ?_
     have zS291 := zS290.loc
     refine Y.sum_ .i64 ((lowT (0 + ((which % 13)).toNat)) - 1) (IntWalk.i64_in _ (by omega)) ?_
     exact ⟨zS291.ch, Sp.mk_holds [] (all_nil)⟩
   refine step_cons ?_ ?_
   · intro zy292 zw293 zhc294 zhf295 zhp296
     have zh297 : zy292 40 = .agg (polC x xa xn xc) := (Sp.out0 (zhp296 22 40 (by kernel_rfl) (by kernel_rfl))).1
     have zh298 : zy292 41 = .int .i64 (which % 13) := (Sp.out0 (zhp296 23 41 (by kernel_rfl) (by kernel_rfl))).1
     have zh299 : zy292 45 = .int .i64 ((lowT (0 + ((which % 13)).toNat)) - 1) := (Sp.out0 (zhp296 27 45 (by kernel_rfl) (by kernel_rfl))).1
     have zh300 : zy292 39 = .bool true := (Sp.out0 (zhp296 21 39 (by kernel_rfl) (by kernel_rfl))).1
     have zS301 := zS24.quiet zhc294
     refine step_yes (wY_t zh300) ?_
     refine yenv [(40, .agg (polC x xa xn xc)), (41, .int .i64 (which % 13)), (45, .int .i64 ((lowT (0 + ((which % 13)).toNat)) - 1))] (ag_cons zh297 (ag_cons zh298 (ag_cons zh299 (ag_nil)))) ?_
     have zS302 := zS301.loc
     refine Y.call_ 35 #[.agg (polC x xa xn xc), .int .i64 (which % 13), .int .i64 ((lowT (0 + ((which % 13)).toNat)) - 1)] ?_
     refine (set_ x xa xn xc (which % 13) ((lowT (0 + ((which % 13)).toNat)) - 1) (by omega) _).mono ?_; rintro _ zw303 ⟨rfl, zh304⟩
     have zS305 := zS302.quiet zh304
     exact ⟨zS305.ch, Sp.mk_holds [] (all_nil)⟩
   refine step_cons ?_ ?_
   · intro zy306 zw307 zhc308 zhf309 zhp310
     have zh311 : zy306 46 = .agg (polC (upd x (idxB (which % 13)) ((lowT (0 + ((which % 13)).toNat)) - 1)) xa xn xc) := (Sp.out0 (zhp310 28 46 (by kernel_rfl) (by kernel_rfl))).1
     have zh312 : zy306 39 = .bool true := (Sp.out0 (zhp310 21 39 (by kernel_rfl) (by kernel_rfl))).1
     have zS313 := zS24.quiet zhc308
     refine step_yes (wY_t zh312) ?_
     refine yenv [(46, .agg (polC (upd x (idxB (which % 13)) ((lowT (0 + ((which % 13)).toNat)) - 1)) xa xn xc))] (ag_cons zh311 (ag_nil)) ?_
     have zS314 := zS313.loc
     refine Y.call_ 29 #[.agg (polC (upd x (idxB (which % 13)) ((lowT (0 + ((which % 13)).toNat)) - 1)) xa xn xc)] ?_
     refine (check_any (upd x (idxB (which % 13)) ((lowT (0 + ((which % 13)).toNat)) - 1)) xa xn xc _).mono ?_; rintro _ zw315 ⟨rfl, zh316⟩
     have zS317 := zS314.quiet zh316
     exact ⟨zS317.ch, Sp.mk_holds [] (all_nil)⟩
   refine step_cons ?_ ?_
   · intro zy318 zw319 zhc320 zhf321 zhp322
     have zh323 : zy318 47 = .int .i64 (polCode (upd x (idxB (which % 13)) ((lowT (0 + ((which % 13)).toNat)) - 1)) xn) := (Sp.out0 (zhp322 29 47 (by kernel_rfl) (by kernel_rfl))).1
     have zh324 : zy318 39 = .bool true := (Sp.out0 (zhp322 21 39 (by kernel_rfl) (by kernel_rfl))).1
     have zS325 := zS24.quiet zhc320
     refine step_yes (wY_t zh324) ?_
     refine yenv [(47, .int .i64 (polCode (upd x (idxB (which % 13)) ((lowT (0 + ((which % 13)).toNat)) - 1)) xn))] (ag_cons zh323 (ag_nil)) ?_
     have zS326 := zS325.loc
     refine Y.pureE_ (.bool ((polCode (upd x (idxB (which % 13)) ((lowT (0 + ((which % 13)).toNat)) - 1)) xn) != 0)) (.bool true) (congrArg Value.bool (neT (by have zk := bd_code (kn := xn) hX (which % 13) (by omega); omega))) ?_
     exact ⟨zS326.ch, Sp.mk_holds [] (all_nil)⟩
   refine step_cons ?_ ?_
   · intro zy327 zw328 zhc329 zhf330 zhp331
     have zh332 : zy327 39 = .bool true := (Sp.out0 (zhp331 21 39 (by kernel_rfl) (by kernel_rfl))).1
     have zh333 : zy327 48 = .bool true := (Sp.out0 (zhp331 30 48 (by kernel_rfl) (by kernel_rfl))).1
     have zS334 := zS24.quiet zhc329
     refine step1 ?_
     refine yenv [(39, .bool true), (48, .bool true)] (ag_cons zh332 (ag_cons zh333 (ag_nil))) ?_
     have zS335 := zS334.loc
     refine Y.pure_ (.bool true) ?_
     exact ⟨zS335.ch, Sp.mk_holds [] (all_nil)⟩
   refine step_cons ?_ ?_
   · intro zy336 zw337 zhc338 zhf339 zhp340
     have zh341 : zy336 49 = .bool true := (Sp.out0 (zhp340 31 49 (by kernel_rfl) (by kernel_rfl))).1
     have zS342 := zS24.quiet zhc338
     refine step1 ?_
     refine yenv [(49, .bool true)] (ag_cons zh341 (ag_nil)) ?_
     have zS343 := zS342.loc
     refine Y.pure_ (.bool true) ?_
     exact ⟨zS343.ch, Sp.mk_holds [] (all_nil)⟩
   refine step_cons ?_ ?_
   · intro zy344 zw345 zhc346 zhf347 zhp348
     have zh349 : zy344 6 = .pointer (some ⟨zb10, 0, none⟩) := (zhf347 6 (by kernel_rfl)).trans (by kernel_rfl)
     have zh350 : zy344 50 = .bool true := (Sp.out0 (zhp348 32 50 (by kernel_rfl) (by kernel_rfl))).1
     have zS351 := zS24.quiet zhc346
     refine step_yes (wY_t zh350) ?_
     refine yenv [(6, .pointer (some ⟨zb10, 0, none⟩))] (ag_cons zh349 (ag_nil)) ?_
     have zS352 := zS351.loc
     refine Y.loadN_ zS352 2 56 (polC x xa xn xc) zb10 0 ?_
     exact ⟨zS352.ch, Sp.mk_holds [] (all_nil)⟩
   refine step_cons ?_ ?_
   · intro zy353 zw354 zhc355 zhf356 zhp357
     have zh358 : zy353 7 = .int .i64 (which % 13) := (zhf356 7 (by kernel_rfl)).trans (by kernel_rfl)
     have zh359 : zy353 50 = .bool true := (Sp.out0 (zhp357 32 50 (by kernel_rfl) (by kernel_rfl))).1
     have zS360 := zS24.quiet zhc355
     refine step_yes (wY_t zh359) ?_
     refine yenv [(7, .int .i64 (which % 13))] (ag_cons zh358 (ag_nil)) ?_
     have zS361 := zS360.loc
     refine Y.pure_ (.int .i64 (which % 13)) ?_
     exact ⟨zS361.ch, Sp.mk_holds [] (all_nil)⟩
   refine step_cons ?_ ?_
   · intro zy362 zw363 zhc364 zhf365 zhp366
     have zh367 : zy362 7 = .int .i64 (which % 13) := (zhf365 7 (by kernel_rfl)).trans (by kernel_rfl)
     have zh368 : zy362 50 = .bool true := (Sp.out0 (zhp366 32 50 (by kernel_rfl) (by kernel_rfl))).1
     have zS369 := zS24.quiet zhc364
     refine step_yes (wY_t zh368) ?_
     refine yenv [(7, .int .i64 (which % 13))] (ag_cons zh367 (ag_nil)) ?_
     have zS370 := zS369.loc
     refine Y.pure_ (.int .i64 (which % 13)) ?_
     exact ⟨zS370.ch, Sp.mk_holds [] (all_nil)⟩
   refine step_cons ?_ ?_
   · intro zy371 zw372 zhc373 zhf374 zhp375
     have zh376 : zy371 9 = .pointer (some ⟨zb20, 0, none⟩) := (zhf374 9 (by kernel_rfl)).trans (by kernel_rfl)
     have zh377 : zy371 53 = .int .i64 (which % 13) := (Sp.out0 (zhp375 35 53 (by kernel_rfl) (by kernel_rfl))).1
     have zh378 : zy371 50 = .bool true := (Sp.out0 (zhp375 32 50 (by kernel_rfl) (by kernel_rfl))).1
     have zS379 := zS24.quiet zhc373
     refine step_yes (wY_t zh378) ?_
     refine yenv [(9, .pointer (some ⟨zb20, 0, none⟩)), (53, .int .i64 (which % 13))] (ag_cons zh376 (ag_cons zh377 (ag_nil))) ?_
     have zS380 := zS379.loc
     refine Y.idxA_ zb20 0 (0 + ((which % 13)).toNat) 13 1 .i64 (which % 13) (by omega) (by omega) (by omega) ?_ (e := 3)
     exact ⟨zS380.ch, Sp.mk_holds [] (all_nil)⟩
   refine step_cons ?_ ?_
   · intro zy381 zw382 zhc383 zhf384 zhp385
     have zh386 : zy381 54 = .pointer (some ⟨zb20, (0 + ((which % 13)).toNat), none⟩) := (Sp.out0 (zhp385 36 54 (by kernel_rfl) (by kernel_rfl))).1
     have zh387 : zy381 50 = .bool true := (Sp.out0 (zhp385 32 50 (by kernel_rfl) (by kernel_rfl))).1
     have zS388 := zS24.quiet zhc383
     refine step_yes (wY_t zh387) ?_
     refine yenv [(54, .pointer (some ⟨zb20, (0 + ((which % 13)).toNat), none⟩))] (ag_cons zh386 (ag_nil)) ?_
     have zS389 := zS388.loc
     refine Y.load1_ zS389 0 (.int .i64 (highT (0 + ((which % 13)).toNat))) zb20 (0 + ((which % 13)).toNat) ?_ (hb := lk_of (wr := false) (t := 67) (fr := (0, 0)) (by kernel_rfl) (high_at (0 + ((which % 13)).toNat) (by omega)))
     exact ⟨zS389.ch, Sp.mk_holds [] (all_nil)⟩
   refine step_cons ?_ ?_
   · intro zy390 zw391 zhc392 zhf393 zhp394
     have zh395 : zy390 55 = .int .i64 (highT (0 + ((which % 13)).toNat)) := (Sp.out0 (zhp394 37 55 (by kernel_rfl) (by kernel_rfl))).1
     have zh396 : zy390 50 = .bool true := (Sp.out0 (zhp394 32 50 (by kernel_rfl) (by kernel_rfl))).1
     have zS397 := zS24.quiet zhc392
     refine step_yes (wY_t zh396) ?_
     refine yenv [(55, .int .i64 (highT (0 + ((which % 13)).toNat)))] (ag_cons zh395 (ag_nil)) ?_
     have zS398 := zS397.loc
     refine Y.sum_ .i64 ((highT (0 + ((which % 13)).toNat)) + 1) (IntWalk.i64_in _ (by omega)) ?_
     exact ⟨zS398.ch, Sp.mk_holds [] (all_nil)⟩
   refine step_cons ?_ ?_
   · intro zy399 zw400 zhc401 zhf402 zhp403
     have zh404 : zy399 51 = .agg (polC x xa xn xc) := (Sp.out0 (zhp403 33 51 (by kernel_rfl) (by kernel_rfl))).1
     have zh405 : zy399 52 = .int .i64 (which % 13) := (Sp.out0 (zhp403 34 52 (by kernel_rfl) (by kernel_rfl))).1
     have zh406 : zy399 56 = .int .i64 ((highT (0 + ((which % 13)).toNat)) + 1) := (Sp.out0 (zhp403 38 56 (by kernel_rfl) (by kernel_rfl))).1
     have zh407 : zy399 50 = .bool true := (Sp.out0 (zhp403 32 50 (by kernel_rfl) (by kernel_rfl))).1
     have zS408 := zS24.quiet zhc401
     refine step_yes (wY_t zh407) ?_
     refine yenv [(51, .agg (polC x xa xn xc)), (52, .int .i64 (which % 13)), (56, .int .i64 ((highT (0 + ((which % 13)).toNat)) + 1))] (ag_cons zh404 (ag_cons zh405 (ag_cons zh406 (ag_nil)))) ?_
     have zS409 := zS408.loc
     refine Y.call_ 35 #[.agg (polC x xa xn xc), .int .i64 (which % 13), .int .i64 ((highT (0 + ((which % 13)).toNat)) + 1)] ?_
     refine (set_ x xa xn xc (which % 13) ((highT (0 + ((which % 13)).toNat)) + 1) (by omega) _).mono ?_; rintro _ zw410 ⟨rfl, zh411⟩
     have zS412 := zS409.quiet zh411
     exact ⟨zS412.ch, Sp.mk_holds [] (all_nil)⟩
   refine step_cons ?_ ?_
   · intro zy413 zw414 zhc415 zhf416 zhp417
     have zh418 : zy413 57 = .agg (polC (upd x (idxB (which % 13)) ((highT (0 + ((which % 13)).toNat)) + 1)) xa xn xc) := (Sp.out0 (zhp417 39 57 (by kernel_rfl) (by kernel_rfl))).1
     have zh419 : zy413 50 = .bool true := (Sp.out0 (zhp417 32 50 (by kernel_rfl) (by kernel_rfl))).1
     have zS420 := zS24.quiet zhc415
     refine step_yes (wY_t zh419) ?_
     refine yenv [(57, .agg (polC (upd x (idxB (which % 13)) ((highT (0 + ((which % 13)).toNat)) + 1)) xa xn xc))] (ag_cons zh418 (ag_nil)) ?_
     have zS421 := zS420.loc
     refine Y.call_ 29 #[.agg (polC (upd x (idxB (which % 13)) ((highT (0 + ((which % 13)).toNat)) + 1)) xa xn xc)] ?_
     refine (check_any (upd x (idxB (which % 13)) ((highT (0 + ((which % 13)).toNat)) + 1)) xa xn xc _).mono ?_; rintro _ zw422 ⟨rfl, zh423⟩
     have zS424 := zS421.quiet zh423
     exact ⟨zS424.ch, Sp.mk_holds [] (all_nil)⟩
   refine step_cons ?_ ?_
   · intro zy425 zw426 zhc427 zhf428 zhp429
     have zh430 : zy425 58 = .int .i64 (polCode (upd x (idxB (which % 13)) ((highT (0 + ((which % 13)).toNat)) + 1)) xn) := (Sp.out0 (zhp429 40 58 (by kernel_rfl) (by kernel_rfl))).1
     have zh431 : zy425 50 = .bool true := (Sp.out0 (zhp429 32 50 (by kernel_rfl) (by kernel_rfl))).1
     have zS432 := zS24.quiet zhc427
     refine step_yes (wY_t zh431) ?_
     refine yenv [(58, .int .i64 (polCode (upd x (idxB (which % 13)) ((highT (0 + ((which % 13)).toNat)) + 1)) xn))] (ag_cons zh430 (ag_nil)) ?_
     have zS433 := zS432.loc
     refine Y.pureE_ (.bool ((polCode (upd x (idxB (which % 13)) ((highT (0 + ((which % 13)).toNat)) + 1)) xn) != 0)) (.bool true) (congrArg Value.bool (neT (by have zk := bd_code (kn := xn) hX (which % 13) (by omega); omega))) ?_
     exact ⟨zS433.ch, Sp.mk_holds [] (all_nil)⟩
   refine step_cons ?_ ?_
   · intro zy434 zw435 zhc436 zhf437 zhp438
     have zh439 : zy434 50 = .bool true := (Sp.out0 (zhp438 32 50 (by kernel_rfl) (by kernel_rfl))).1
     have zh440 : zy434 59 = .bool true := (Sp.out0 (zhp438 41 59 (by kernel_rfl) (by kernel_rfl))).1
     have zS441 := zS24.quiet zhc436
     refine step1 ?_
     refine yenv [(50, .bool true), (59, .bool true)] (ag_cons zh439 (ag_cons zh440 (ag_nil))) ?_
     have zS442 := zS441.loc
     refine Y.pure_ (.bool true) ?_
     exact ⟨zS442.ch, Sp.mk_holds [] (all_nil)⟩
   refine step_cons ?_ ?_
   · intro zy443 zw444 zhc445 zhf446 zhp447
     have zh448 : zy443 60 = .bool true := (Sp.out0 (zhp447 42 60 (by kernel_rfl) (by kernel_rfl))).1
     have zS449 := zS24.quiet zhc445
     refine step1 ?_
     refine yenv [(60, .bool true)] (ag_cons zh448 (ag_nil)) ?_
     have zS450 := zS449.loc
     refine Y.pure_ (.bool true) ?_
     exact ⟨zS450.ch, Sp.mk_holds [] (all_nil)⟩
   exact step_nil
 intro zv451 zw452 zhc453 zha454
 have zh455 : zv451 0 = .bool true := (Sp.out0 (zha454 0 (by kernel_rfl))).1
 have zh456 : zv451 1 = .bool true := (Sp.out0 (zha454 1 (by kernel_rfl))).1
 have zh457 : zv451 2 = .agg (polC x xa xn xc) := (Sp.out0 (zha454 2 (by kernel_rfl))).1
 have zh458 : zv451 3 = .int .i64 (which % 13) := (Sp.out0 (zha454 3 (by kernel_rfl))).1
 have zh459 : zv451 4 = .int .i64 (which % 13) := (Sp.out0 (zha454 4 (by kernel_rfl))).1
 have zh460 : zv451 5 = .pointer (some ⟨zb15, (0 + ((which % 13)).toNat), none⟩) := (Sp.out0 (zha454 5 (by kernel_rfl))).1
 have zh461 : zv451 6 = .int .i64 (lowT (0 + ((which % 13)).toNat)) := (Sp.out0 (zha454 6 (by kernel_rfl))).1
 have zh462 : zv451 7 = .agg (polC (upd x (idxB (which % 13)) (lowT (0 + ((which % 13)).toNat))) xa xn xc) := (Sp.out0 (zha454 7 (by kernel_rfl))).1
 have zh463 : zv451 8 = .int .i64 (polCode (upd x (idxB (which % 13)) (lowT (0 + ((which % 13)).toNat))) xn) := (Sp.out0 (zha454 8 (by kernel_rfl))).1
 have zh464 : zv451 9 = .bool true := (Sp.out0 (zha454 9 (by kernel_rfl))).1
 have zh465 : zv451 10 = .bool true := (Sp.out0 (zha454 10 (by kernel_rfl))).1
 have zh466 : zv451 11 = .bool true := (Sp.out0 (zha454 11 (by kernel_rfl))).1
 have zh467 : zv451 12 = .agg (polC x xa xn xc) := (Sp.out0 (zha454 12 (by kernel_rfl))).1
 have zh468 : zv451 13 = .int .i64 (which % 13) := (Sp.out0 (zha454 13 (by kernel_rfl))).1
 have zh469 : zv451 14 = .int .i64 (which % 13) := (Sp.out0 (zha454 14 (by kernel_rfl))).1
 have zh470 : zv451 15 = .pointer (some ⟨zb20, (0 + ((which % 13)).toNat), none⟩) := (Sp.out0 (zha454 15 (by kernel_rfl))).1
 have zh471 : zv451 16 = .int .i64 (highT (0 + ((which % 13)).toNat)) := (Sp.out0 (zha454 16 (by kernel_rfl))).1
 have zh472 : zv451 17 = .agg (polC (upd x (idxB (which % 13)) (highT (0 + ((which % 13)).toNat))) xa xn xc) := (Sp.out0 (zha454 17 (by kernel_rfl))).1
 have zh473 : zv451 18 = .int .i64 (polCode (upd x (idxB (which % 13)) (highT (0 + ((which % 13)).toNat))) xn) := (Sp.out0 (zha454 18 (by kernel_rfl))).1
 have zh474 : zv451 19 = .bool true := (Sp.out0 (zha454 19 (by kernel_rfl))).1
 have zh475 : zv451 20 = .bool true := (Sp.out0 (zha454 20 (by kernel_rfl))).1
 have zh476 : zv451 21 = .bool true := (Sp.out0 (zha454 21 (by kernel_rfl))).1
 have zh477 : zv451 22 = .agg (polC x xa xn xc) := (Sp.out0 (zha454 22 (by kernel_rfl))).1
 have zh478 : zv451 23 = .int .i64 (which % 13) := (Sp.out0 (zha454 23 (by kernel_rfl))).1
 have zh479 : zv451 24 = .int .i64 (which % 13) := (Sp.out0 (zha454 24 (by kernel_rfl))).1
 have zh480 : zv451 25 = .pointer (some ⟨zb15, (0 + ((which % 13)).toNat), none⟩) := (Sp.out0 (zha454 25 (by kernel_rfl))).1
 have zh481 : zv451 26 = .int .i64 (lowT (0 + ((which % 13)).toNat)) := (Sp.out0 (zha454 26 (by kernel_rfl))).1
 have zh482 : zv451 27 = .int .i64 ((lowT (0 + ((which % 13)).toNat)) - 1) := (Sp.out0 (zha454 27 (by kernel_rfl))).1
 have zh483 : zv451 28 = .agg (polC (upd x (idxB (which % 13)) ((lowT (0 + ((which % 13)).toNat)) - 1)) xa xn xc) := (Sp.out0 (zha454 28 (by kernel_rfl))).1
 have zh484 : zv451 29 = .int .i64 (polCode (upd x (idxB (which % 13)) ((lowT (0 + ((which % 13)).toNat)) - 1)) xn) := (Sp.out0 (zha454 29 (by kernel_rfl))).1
 have zh485 : zv451 30 = .bool true := (Sp.out0 (zha454 30 (by kernel_rfl))).1
 have zh486 : zv451 31 = .bool true := (Sp.out0 (zha454 31 (by kernel_rfl))).1
 have zh487 : zv451 32 = .bool true := (Sp.out0 (zha454 32 (by kernel_rfl))).1
 have zh488 : zv451 33 = .agg (polC x xa xn xc) := (Sp.out0 (zha454 33 (by kernel_rfl))).1
 have zh489 : zv451 34 = .int .i64 (which % 13) := (Sp.out0 (zha454 34 (by kernel_rfl))).1
 have zh490 : zv451 35 = .int .i64 (which % 13) := (Sp.out0 (zha454 35 (by kernel_rfl))).1
 have zh491 : zv451 36 = .pointer (some ⟨zb20, (0 + ((which % 13)).toNat), none⟩) := (Sp.out0 (zha454 36 (by kernel_rfl))).1
 have zh492 : zv451 37 = .int .i64 (highT (0 + ((which % 13)).toNat)) := (Sp.out0 (zha454 37 (by kernel_rfl))).1
 have zh493 : zv451 38 = .int .i64 ((highT (0 + ((which % 13)).toNat)) + 1) := (Sp.out0 (zha454 38 (by kernel_rfl))).1
 have zh494 : zv451 39 = .agg (polC (upd x (idxB (which % 13)) ((highT (0 + ((which % 13)).toNat)) + 1)) xa xn xc) := (Sp.out0 (zha454 39 (by kernel_rfl))).1
 have zh495 : zv451 40 = .int .i64 (polCode (upd x (idxB (which % 13)) ((highT (0 + ((which % 13)).toNat)) + 1)) xn) := (Sp.out0 (zha454 40 (by kernel_rfl))).1
 have zh496 : zv451 41 = .bool true := (Sp.out0 (zha454 41 (by kernel_rfl))).1
 have zh497 : zv451 42 = .bool true := (Sp.out0 (zha454 42 (by kernel_rfl))).1
 have zh498 : zv451 43 = .bool true := (Sp.out0 (zha454 43 (by kernel_rfl))).1
 have zS499 := zS24.quiet zhc453
 refine ⟨[.bool true, .bool true, .agg (polC x xa xn xc), .int .i64 (which % 13), .int .i64 (which % 13), .pointer (some ⟨zb15, (0 + ((which % 13)).toNat), none⟩), .int .i64 (lowT (0 + ((which % 13)).toNat)), .agg (polC (upd x (idxB (which % 13)) (lowT (0 + ((which % 13)).toNat))) xa xn xc), .int .i64 (polCode (upd x (idxB (which % 13)) (lowT (0 + ((which % 13)).toNat))) xn), .bool true, .bool true, .bool true, .agg (polC x xa xn xc), .int .i64 (which % 13), .int .i64 (which % 13), .pointer (some ⟨zb20, (0 + ((which % 13)).toNat), none⟩), .int .i64 (highT (0 + ((which % 13)).toNat)), .agg (polC (upd x (idxB (which % 13)) (highT (0 + ((which % 13)).toNat))) xa xn xc), .int .i64 (polCode (upd x (idxB (which % 13)) (highT (0 + ((which % 13)).toNat))) xn), .bool true, .bool true, .bool true, .agg (polC x xa xn xc), .int .i64 (which % 13), .int .i64 (which % 13), .pointer (some ⟨zb15, (0 + ((which % 13)).toNat), none⟩), .int .i64 (lowT (0 + ((which % 13)).toNat)), .int .i64 ((lowT (0 + ((which % 13)).toNat)) - 1), .agg (polC (upd x (idxB (which % 13)) ((lowT (0 + ((which % 13)).toNat)) - 1)) xa xn xc), .int .i64 (polCode (upd x (idxB (which % 13)) ((lowT (0 + ((which % 13)).toNat)) - 1)) xn), .bool true, .bool true, .bool true, .agg (polC x xa xn xc), .int .i64 (which % 13), .int .i64 (which % 13), .pointer (some ⟨zb20, (0 + ((which % 13)).toNat), none⟩), .int .i64 (highT (0 + ((which % 13)).toNat)), .int .i64 ((highT (0 + ((which % 13)).toNat)) + 1), .agg (polC (upd x (idxB (which % 13)) ((highT (0 + ((which % 13)).toNat)) + 1)) xa xn xc), .int .i64 (polCode (upd x (idxB (which % 13)) ((highT (0 + ((which % 13)).toNat)) + 1)) xn), .bool true, .bool true, .bool true], by kernel_rfl, va_cons zh455 (va_cons zh456 (va_cons zh457 (va_cons zh458 (va_cons zh459 (va_cons zh460 (va_cons zh461 (va_cons zh462 (va_cons zh463 (va_cons zh464 (va_cons zh465 (va_cons zh466 (va_cons zh467 (va_cons zh468 (va_cons zh469 (va_cons zh470 (va_cons zh471 (va_cons zh472 (va_cons zh473 (va_cons zh474 (va_cons zh475 (va_cons zh476 (va_cons zh477 (va_cons zh478 (va_cons zh479 (va_cons zh480 (va_cons zh481 (va_cons zh482 (va_cons zh483 (va_cons zh484 (va_cons zh485 (va_cons zh486 (va_cons zh487 (va_cons zh488 (va_cons zh489 (va_cons zh490 (va_cons zh491 (va_cons zh492 (va_cons zh493 (va_cons zh494 (va_cons zh495 (va_cons zh496 (va_cons zh497 (va_cons zh498 (va_nil)))))))))))))))))))))))))))))))))))))))))))), ?_⟩
 refine nil_ (then_n (wp_ret ?_))
 refine ret_ rfl (res_ [.tmp 4] [.bool true] (.bool true) ⟨res_tmp, trivial⟩) ?_
 exact ⟨rfl, zS499.ch⟩

end Go.Proofs.Ytabnjfboigmleaa
