/- PolicyFirst: the walk. -/
import Derived.Test.YtabnjfboigmleaaXPL2
namespace Go.Proofs.Ytabnjfboigmleaa
open Go Go.RowKit Go.BigFrame Sx
set_option linter.unusedVariables false
set_option linter.unusedSimpArgs false

def Spoil (a : Int) (q : Nat → Int) (kn : Nat → Nat) (q' : Nat → Int) (kn' : Nat → Nat) : Prop := condB a.toNat q' kn' = false ∧ ∀ j, j ≠ a.toNat → condB j q' kn' = condB j q kn
theorem inB_not (lo hi n : Int) (h : n < lo ∨ hi < n) : inB lo hi n = false := by simp [inB]; omega
theorem and2 (n : Int) : bits .and .i64 n 2 = n / 2 % 2 * 2 := by
  unfold bits
  simp only [BitVec.toNat_and]
  have hk : ∀ m : Nat, m &&& 2 = m / 2 % 2 * 2 := by
    intro m
    have e1 : m &&& 2 = (m % 4) &&& 2 := by
      have e2 : m &&& 3 = m % 4 := Nat.and_two_pow_sub_one_eq_mod m 2
      rw [← e2, Nat.and_assoc]; rfl
    have e3 : m / 2 % 2 = (m % 4) / 2 % 2 := by omega
    rw [e1, e3]
    have h : m % 4 < 4 := Nat.mod_lt _ (by omega)
    generalize m % 4 = k at h
    match k, h with
    | 0, _ => rfl | 1, _ => rfl | 2, _ => rfl | 3, _ => rfl
    | k + 4, h => exact absurd h (by omega)
  have c2 : (BitVec.ofInt IntKind.i64.bits 2).toNat = 2 := by decide
  rw [c2, hk]
  have hb : ((BitVec.ofInt IntKind.i64.bits n).toNat : Int) = n % 2 ^ 64 := by
    simp only [BitVec.toNat_ofInt]
    have : IntKind.i64.bits = 64 := rfl
    rw [this]
    omega
  generalize (BitVec.ofInt IntKind.i64.bits n).toNat = m at *
  rw [IntKind.wrap_i64]
  omega
theorem quo2 (n : Int) : IntKind.i64.wrap (Int.tdiv (n / 2 % 2 * 2) 2) = n / 2 % 2 := by
  have h : Int.tdiv (n / 2 % 2 * 2) 2 = n / 2 % 2 := by
    rw [Int.tdiv_eq_ediv_of_nonneg (by omega)]; omega
  rw [h, IntKind.wrap_i64]; omega
def outOf (n : Int) : Prop := n = -1 ∨ n = 70000
theorem spoil_3_14 (q : Nat → Int) (kn : Nat → Nat) (n : Int) (hn : outOf n) : Spoil 3 q kn (upd q 14 n) kn := by
  refine ⟨?_, fun j hj => ?_⟩
  · have h1 := inB_not 0 15 n (by unfold outOf at hn; omega)
    show (allI 0 15 [n, q 15, q 16, q 17] && (allI 0 15 [q 18, q 19, q 20, q 21] && (allI 0 15 [q 22, q 23, q 24, q 25] && (allI 0 15 [q 26, q 27, q 28, q 29] && (allI 0 15 [q 30, q 31, q 32, q 33]))))) = false
    simp [allI, h1]
  · match j, hj with
    | 0, _ => rfl
    | 1, _ => rfl
    | 2, _ => rfl
    | 3, h => exact absurd rfl h
    | 4, _ => rfl
    | 5, _ => rfl
    | 6, _ => rfl
    | 7, _ => rfl
    | 8, _ => rfl
    | 9, _ => rfl
    | 10, _ => rfl
    | j + 11, _ => rfl
theorem spoil_3_15 (q : Nat → Int) (kn : Nat → Nat) (n : Int) (hn : outOf n) : Spoil 3 q kn (upd q 15 n) kn := by
  refine ⟨?_, fun j hj => ?_⟩
  · have h1 := inB_not 0 15 n (by unfold outOf at hn; omega)
    show (allI 0 15 [q 14, n, q 16, q 17] && (allI 0 15 [q 18, q 19, q 20, q 21] && (allI 0 15 [q 22, q 23, q 24, q 25] && (allI 0 15 [q 26, q 27, q 28, q 29] && (allI 0 15 [q 30, q 31, q 32, q 33]))))) = false
    simp [allI, h1]
  · match j, hj with
    | 0, _ => rfl
    | 1, _ => rfl
    | 2, _ => rfl
    | 3, h => exact absurd rfl h
    | 4, _ => rfl
    | 5, _ => rfl
    | 6, _ => rfl
    | 7, _ => rfl
    | 8, _ => rfl
    | 9, _ => rfl
    | 10, _ => rfl
    | j + 11, _ => rfl
theorem spoil_3_16 (q : Nat → Int) (kn : Nat → Nat) (n : Int) (hn : outOf n) : Spoil 3 q kn (upd q 16 n) kn := by
  refine ⟨?_, fun j hj => ?_⟩
  · have h1 := inB_not 0 15 n (by unfold outOf at hn; omega)
    show (allI 0 15 [q 14, q 15, n, q 17] && (allI 0 15 [q 18, q 19, q 20, q 21] && (allI 0 15 [q 22, q 23, q 24, q 25] && (allI 0 15 [q 26, q 27, q 28, q 29] && (allI 0 15 [q 30, q 31, q 32, q 33]))))) = false
    simp [allI, h1]
  · match j, hj with
    | 0, _ => rfl
    | 1, _ => rfl
    | 2, _ => rfl
    | 3, h => exact absurd rfl h
    | 4, _ => rfl
    | 5, _ => rfl
    | 6, _ => rfl
    | 7, _ => rfl
    | 8, _ => rfl
    | 9, _ => rfl
    | 10, _ => rfl
    | j + 11, _ => rfl
theorem spoil_3_17 (q : Nat → Int) (kn : Nat → Nat) (n : Int) (hn : outOf n) : Spoil 3 q kn (upd q 17 n) kn := by
  refine ⟨?_, fun j hj => ?_⟩
  · have h1 := inB_not 0 15 n (by unfold outOf at hn; omega)
    show (allI 0 15 [q 14, q 15, q 16, n] && (allI 0 15 [q 18, q 19, q 20, q 21] && (allI 0 15 [q 22, q 23, q 24, q 25] && (allI 0 15 [q 26, q 27, q 28, q 29] && (allI 0 15 [q 30, q 31, q 32, q 33]))))) = false
    simp [allI, h1]
  · match j, hj with
    | 0, _ => rfl
    | 1, _ => rfl
    | 2, _ => rfl
    | 3, h => exact absurd rfl h
    | 4, _ => rfl
    | 5, _ => rfl
    | 6, _ => rfl
    | 7, _ => rfl
    | 8, _ => rfl
    | 9, _ => rfl
    | 10, _ => rfl
    | j + 11, _ => rfl
theorem spoil_3_18 (q : Nat → Int) (kn : Nat → Nat) (n : Int) (hn : outOf n) : Spoil 3 q kn (upd q 18 n) kn := by
  refine ⟨?_, fun j hj => ?_⟩
  · have h1 := inB_not 0 15 n (by unfold outOf at hn; omega)
    show (allI 0 15 [q 14, q 15, q 16, q 17] && (allI 0 15 [n, q 19, q 20, q 21] && (allI 0 15 [q 22, q 23, q 24, q 25] && (allI 0 15 [q 26, q 27, q 28, q 29] && (allI 0 15 [q 30, q 31, q 32, q 33]))))) = false
    simp [allI, h1]
  · match j, hj with
    | 0, _ => rfl
    | 1, _ => rfl
    | 2, _ => rfl
    | 3, h => exact absurd rfl h
    | 4, _ => rfl
    | 5, _ => rfl
    | 6, _ => rfl
    | 7, _ => rfl
    | 8, _ => rfl
    | 9, _ => rfl
    | 10, _ => rfl
    | j + 11, _ => rfl
theorem spoil_3_19 (q : Nat → Int) (kn : Nat → Nat) (n : Int) (hn : outOf n) : Spoil 3 q kn (upd q 19 n) kn := by
  refine ⟨?_, fun j hj => ?_⟩
  · have h1 := inB_not 0 15 n (by unfold outOf at hn; omega)
    show (allI 0 15 [q 14, q 15, q 16, q 17] && (allI 0 15 [q 18, n, q 20, q 21] && (allI 0 15 [q 22, q 23, q 24, q 25] && (allI 0 15 [q 26, q 27, q 28, q 29] && (allI 0 15 [q 30, q 31, q 32, q 33]))))) = false
    simp [allI, h1]
  · match j, hj with
    | 0, _ => rfl
    | 1, _ => rfl
    | 2, _ => rfl
    | 3, h => exact absurd rfl h
    | 4, _ => rfl
    | 5, _ => rfl
    | 6, _ => rfl
    | 7, _ => rfl
    | 8, _ => rfl
    | 9, _ => rfl
    | 10, _ => rfl
    | j + 11, _ => rfl
theorem spoil_3_20 (q : Nat → Int) (kn : Nat → Nat) (n : Int) (hn : outOf n) : Spoil 3 q kn (upd q 20 n) kn := by
  refine ⟨?_, fun j hj => ?_⟩
  · have h1 := inB_not 0 15 n (by unfold outOf at hn; omega)
    show (allI 0 15 [q 14, q 15, q 16, q 17] && (allI 0 15 [q 18, q 19, n, q 21] && (allI 0 15 [q 22, q 23, q 24, q 25] && (allI 0 15 [q 26, q 27, q 28, q 29] && (allI 0 15 [q 30, q 31, q 32, q 33]))))) = false
    simp [allI, h1]
  · match j, hj with
    | 0, _ => rfl
    | 1, _ => rfl
    | 2, _ => rfl
    | 3, h => exact absurd rfl h
    | 4, _ => rfl
    | 5, _ => rfl
    | 6, _ => rfl
    | 7, _ => rfl
    | 8, _ => rfl
    | 9, _ => rfl
    | 10, _ => rfl
    | j + 11, _ => rfl
theorem spoil_3_21 (q : Nat → Int) (kn : Nat → Nat) (n : Int) (hn : outOf n) : Spoil 3 q kn (upd q 21 n) kn := by
  refine ⟨?_, fun j hj => ?_⟩
  · have h1 := inB_not 0 15 n (by unfold outOf at hn; omega)
    show (allI 0 15 [q 14, q 15, q 16, q 17] && (allI 0 15 [q 18, q 19, q 20, n] && (allI 0 15 [q 22, q 23, q 24, q 25] && (allI 0 15 [q 26, q 27, q 28, q 29] && (allI 0 15 [q 30, q 31, q 32, q 33]))))) = false
    simp [allI, h1]
  · match j, hj with
    | 0, _ => rfl
    | 1, _ => rfl
    | 2, _ => rfl
    | 3, h => exact absurd rfl h
    | 4, _ => rfl
    | 5, _ => rfl
    | 6, _ => rfl
    | 7, _ => rfl
    | 8, _ => rfl
    | 9, _ => rfl
    | 10, _ => rfl
    | j + 11, _ => rfl
theorem spoil_3_22 (q : Nat → Int) (kn : Nat → Nat) (n : Int) (hn : outOf n) : Spoil 3 q kn (upd q 22 n) kn := by
  refine ⟨?_, fun j hj => ?_⟩
  · have h1 := inB_not 0 15 n (by unfold outOf at hn; omega)
    show (allI 0 15 [q 14, q 15, q 16, q 17] && (allI 0 15 [q 18, q 19, q 20, q 21] && (allI 0 15 [n, q 23, q 24, q 25] && (allI 0 15 [q 26, q 27, q 28, q 29] && (allI 0 15 [q 30, q 31, q 32, q 33]))))) = false
    simp [allI, h1]
  · match j, hj with
    | 0, _ => rfl
    | 1, _ => rfl
    | 2, _ => rfl
    | 3, h => exact absurd rfl h
    | 4, _ => rfl
    | 5, _ => rfl
    | 6, _ => rfl
    | 7, _ => rfl
    | 8, _ => rfl
    | 9, _ => rfl
    | 10, _ => rfl
    | j + 11, _ => rfl
theorem spoil_3_23 (q : Nat → Int) (kn : Nat → Nat) (n : Int) (hn : outOf n) : Spoil 3 q kn (upd q 23 n) kn := by
  refine ⟨?_, fun j hj => ?_⟩
  · have h1 := inB_not 0 15 n (by unfold outOf at hn; omega)
    show (allI 0 15 [q 14, q 15, q 16, q 17] && (allI 0 15 [q 18, q 19, q 20, q 21] && (allI 0 15 [q 22, n, q 24, q 25] && (allI 0 15 [q 26, q 27, q 28, q 29] && (allI 0 15 [q 30, q 31, q 32, q 33]))))) = false
    simp [allI, h1]
  · match j, hj with
    | 0, _ => rfl
    | 1, _ => rfl
    | 2, _ => rfl
    | 3, h => exact absurd rfl h
    | 4, _ => rfl
    | 5, _ => rfl
    | 6, _ => rfl
    | 7, _ => rfl
    | 8, _ => rfl
    | 9, _ => rfl
    | 10, _ => rfl
    | j + 11, _ => rfl
theorem spoil_3_24 (q : Nat → Int) (kn : Nat → Nat) (n : Int) (hn : outOf n) : Spoil 3 q kn (upd q 24 n) kn := by
  refine ⟨?_, fun j hj => ?_⟩
  · have h1 := inB_not 0 15 n (by unfold outOf at hn; omega)
    show (allI 0 15 [q 14, q 15, q 16, q 17] && (allI 0 15 [q 18, q 19, q 20, q 21] && (allI 0 15 [q 22, q 23, n, q 25] && (allI 0 15 [q 26, q 27, q 28, q 29] && (allI 0 15 [q 30, q 31, q 32, q 33]))))) = false
    simp [allI, h1]
  · match j, hj with
    | 0, _ => rfl
    | 1, _ => rfl
    | 2, _ => rfl
    | 3, h => exact absurd rfl h
    | 4, _ => rfl
    | 5, _ => rfl
    | 6, _ => rfl
    | 7, _ => rfl
    | 8, _ => rfl
    | 9, _ => rfl
    | 10, _ => rfl
    | j + 11, _ => rfl
theorem spoil_3_25 (q : Nat → Int) (kn : Nat → Nat) (n : Int) (hn : outOf n) : Spoil 3 q kn (upd q 25 n) kn := by
  refine ⟨?_, fun j hj => ?_⟩
  · have h1 := inB_not 0 15 n (by unfold outOf at hn; omega)
    show (allI 0 15 [q 14, q 15, q 16, q 17] && (allI 0 15 [q 18, q 19, q 20, q 21] && (allI 0 15 [q 22, q 23, q 24, n] && (allI 0 15 [q 26, q 27, q 28, q 29] && (allI 0 15 [q 30, q 31, q 32, q 33]))))) = false
    simp [allI, h1]
  · match j, hj with
    | 0, _ => rfl
    | 1, _ => rfl
    | 2, _ => rfl
    | 3, h => exact absurd rfl h
    | 4, _ => rfl
    | 5, _ => rfl
    | 6, _ => rfl
    | 7, _ => rfl
    | 8, _ => rfl
    | 9, _ => rfl
    | 10, _ => rfl
    | j + 11, _ => rfl
theorem spoil_3_26 (q : Nat → Int) (kn : Nat → Nat) (n : Int) (hn : outOf n) : Spoil 3 q kn (upd q 26 n) kn := by
  refine ⟨?_, fun j hj => ?_⟩
  · have h1 := inB_not 0 15 n (by unfold outOf at hn; omega)
    show (allI 0 15 [q 14, q 15, q 16, q 17] && (allI 0 15 [q 18, q 19, q 20, q 21] && (allI 0 15 [q 22, q 23, q 24, q 25] && (allI 0 15 [n, q 27, q 28, q 29] && (allI 0 15 [q 30, q 31, q 32, q 33]))))) = false
    simp [allI, h1]
  · match j, hj with
    | 0, _ => rfl
    | 1, _ => rfl
    | 2, _ => rfl
    | 3, h => exact absurd rfl h
    | 4, _ => rfl
    | 5, _ => rfl
    | 6, _ => rfl
    | 7, _ => rfl
    | 8, _ => rfl
    | 9, _ => rfl
    | 10, _ => rfl
    | j + 11, _ => rfl
theorem spoil_3_27 (q : Nat → Int) (kn : Nat → Nat) (n : Int) (hn : outOf n) : Spoil 3 q kn (upd q 27 n) kn := by
  refine ⟨?_, fun j hj => ?_⟩
  · have h1 := inB_not 0 15 n (by unfold outOf at hn; omega)
    show (allI 0 15 [q 14, q 15, q 16, q 17] && (allI 0 15 [q 18, q 19, q 20, q 21] && (allI 0 15 [q 22, q 23, q 24, q 25] && (allI 0 15 [q 26, n, q 28, q 29] && (allI 0 15 [q 30, q 31, q 32, q 33]))))) = false
    simp [allI, h1]
  · match j, hj with
    | 0, _ => rfl
    | 1, _ => rfl
    | 2, _ => rfl
    | 3, h => exact absurd rfl h
    | 4, _ => rfl
    | 5, _ => rfl
    | 6, _ => rfl
    | 7, _ => rfl
    | 8, _ => rfl
    | 9, _ => rfl
    | 10, _ => rfl
    | j + 11, _ => rfl
theorem spoil_3_28 (q : Nat → Int) (kn : Nat → Nat) (n : Int) (hn : outOf n) : Spoil 3 q kn (upd q 28 n) kn := by
  refine ⟨?_, fun j hj => ?_⟩
  · have h1 := inB_not 0 15 n (by unfold outOf at hn; omega)
    show (allI 0 15 [q 14, q 15, q 16, q 17] && (allI 0 15 [q 18, q 19, q 20, q 21] && (allI 0 15 [q 22, q 23, q 24, q 25] && (allI 0 15 [q 26, q 27, n, q 29] && (allI 0 15 [q 30, q 31, q 32, q 33]))))) = false
    simp [allI, h1]
  · match j, hj with
    | 0, _ => rfl
    | 1, _ => rfl
    | 2, _ => rfl
    | 3, h => exact absurd rfl h
    | 4, _ => rfl
    | 5, _ => rfl
    | 6, _ => rfl
    | 7, _ => rfl
    | 8, _ => rfl
    | 9, _ => rfl
    | 10, _ => rfl
    | j + 11, _ => rfl
theorem spoil_3_29 (q : Nat → Int) (kn : Nat → Nat) (n : Int) (hn : outOf n) : Spoil 3 q kn (upd q 29 n) kn := by
  refine ⟨?_, fun j hj => ?_⟩
  · have h1 := inB_not 0 15 n (by unfold outOf at hn; omega)
    show (allI 0 15 [q 14, q 15, q 16, q 17] && (allI 0 15 [q 18, q 19, q 20, q 21] && (allI 0 15 [q 22, q 23, q 24, q 25] && (allI 0 15 [q 26, q 27, q 28, n] && (allI 0 15 [q 30, q 31, q 32, q 33]))))) = false
    simp [allI, h1]
  · match j, hj with
    | 0, _ => rfl
    | 1, _ => rfl
    | 2, _ => rfl
    | 3, h => exact absurd rfl h
    | 4, _ => rfl
    | 5, _ => rfl
    | 6, _ => rfl
    | 7, _ => rfl
    | 8, _ => rfl
    | 9, _ => rfl
    | 10, _ => rfl
    | j + 11, _ => rfl
theorem spoil_3_30 (q : Nat → Int) (kn : Nat → Nat) (n : Int) (hn : outOf n) : Spoil 3 q kn (upd q 30 n) kn := by
  refine ⟨?_, fun j hj => ?_⟩
  · have h1 := inB_not 0 15 n (by unfold outOf at hn; omega)
    show (allI 0 15 [q 14, q 15, q 16, q 17] && (allI 0 15 [q 18, q 19, q 20, q 21] && (allI 0 15 [q 22, q 23, q 24, q 25] && (allI 0 15 [q 26, q 27, q 28, q 29] && (allI 0 15 [n, q 31, q 32, q 33]))))) = false
    simp [allI, h1]
  · match j, hj with
    | 0, _ => rfl
    | 1, _ => rfl
    | 2, _ => rfl
    | 3, h => exact absurd rfl h
    | 4, _ => rfl
    | 5, _ => rfl
    | 6, _ => rfl
    | 7, _ => rfl
    | 8, _ => rfl
    | 9, _ => rfl
    | 10, _ => rfl
    | j + 11, _ => rfl
theorem spoil_3_31 (q : Nat → Int) (kn : Nat → Nat) (n : Int) (hn : outOf n) : Spoil 3 q kn (upd q 31 n) kn := by
  refine ⟨?_, fun j hj => ?_⟩
  · have h1 := inB_not 0 15 n (by unfold outOf at hn; omega)
    show (allI 0 15 [q 14, q 15, q 16, q 17] && (allI 0 15 [q 18, q 19, q 20, q 21] && (allI 0 15 [q 22, q 23, q 24, q 25] && (allI 0 15 [q 26, q 27, q 28, q 29] && (allI 0 15 [q 30, n, q 32, q 33]))))) = false
    simp [allI, h1]
  · match j, hj with
    | 0, _ => rfl
    | 1, _ => rfl
    | 2, _ => rfl
    | 3, h => exact absurd rfl h
    | 4, _ => rfl
    | 5, _ => rfl
    | 6, _ => rfl
    | 7, _ => rfl
    | 8, _ => rfl
    | 9, _ => rfl
    | 10, _ => rfl
    | j + 11, _ => rfl
theorem spoil_3_32 (q : Nat → Int) (kn : Nat → Nat) (n : Int) (hn : outOf n) : Spoil 3 q kn (upd q 32 n) kn := by
  refine ⟨?_, fun j hj => ?_⟩
  · have h1 := inB_not 0 15 n (by unfold outOf at hn; omega)
    show (allI 0 15 [q 14, q 15, q 16, q 17] && (allI 0 15 [q 18, q 19, q 20, q 21] && (allI 0 15 [q 22, q 23, q 24, q 25] && (allI 0 15 [q 26, q 27, q 28, q 29] && (allI 0 15 [q 30, q 31, n, q 33]))))) = false
    simp [allI, h1]
  · match j, hj with
    | 0, _ => rfl
    | 1, _ => rfl
    | 2, _ => rfl
    | 3, h => exact absurd rfl h
    | 4, _ => rfl
    | 5, _ => rfl
    | 6, _ => rfl
    | 7, _ => rfl
    | 8, _ => rfl
    | 9, _ => rfl
    | 10, _ => rfl
    | j + 11, _ => rfl
theorem spoil_3_33 (q : Nat → Int) (kn : Nat → Nat) (n : Int) (hn : outOf n) : Spoil 3 q kn (upd q 33 n) kn := by
  refine ⟨?_, fun j hj => ?_⟩
  · have h1 := inB_not 0 15 n (by unfold outOf at hn; omega)
    show (allI 0 15 [q 14, q 15, q 16, q 17] && (allI 0 15 [q 18, q 19, q 20, q 21] && (allI 0 15 [q 22, q 23, q 24, q 25] && (allI 0 15 [q 26, q 27, q 28, q 29] && (allI 0 15 [q 30, q 31, q 32, n]))))) = false
    simp [allI, h1]
  · match j, hj with
    | 0, _ => rfl
    | 1, _ => rfl
    | 2, _ => rfl
    | 3, h => exact absurd rfl h
    | 4, _ => rfl
    | 5, _ => rfl
    | 6, _ => rfl
    | 7, _ => rfl
    | 8, _ => rfl
    | 9, _ => rfl
    | 10, _ => rfl
    | j + 11, _ => rfl
theorem spoil_4_34 (q : Nat → Int) (kn : Nat → Nat) (n : Int) (hn : outOf n) : Spoil 4 q kn (upd q 34 n) kn := by
  refine ⟨?_, fun j hj => ?_⟩
  · have h1 := inB_not 0 31 n (by unfold outOf at hn; omega)
    show allI 0 31 [n, q 35, q 36, q 37, q 38] = false
    simp [allI, h1]
  · match j, hj with
    | 0, _ => rfl
    | 1, _ => rfl
    | 2, _ => rfl
    | 3, _ => rfl
    | 4, h => exact absurd rfl h
    | 5, _ => rfl
    | 6, _ => rfl
    | 7, _ => rfl
    | 8, _ => rfl
    | 9, _ => rfl
    | 10, _ => rfl
    | j + 11, _ => rfl
theorem spoil_4_35 (q : Nat → Int) (kn : Nat → Nat) (n : Int) (hn : outOf n) : Spoil 4 q kn (upd q 35 n) kn := by
  refine ⟨?_, fun j hj => ?_⟩
  · have h1 := inB_not 0 31 n (by unfold outOf at hn; omega)
    show allI 0 31 [q 34, n, q 36, q 37, q 38] = false
    simp [allI, h1]
  · match j, hj with
    | 0, _ => rfl
    | 1, _ => rfl
    | 2, _ => rfl
    | 3, _ => rfl
    | 4, h => exact absurd rfl h
    | 5, _ => rfl
    | 6, _ => rfl
    | 7, _ => rfl
    | 8, _ => rfl
    | 9, _ => rfl
    | 10, _ => rfl
    | j + 11, _ => rfl
theorem spoil_4_36 (q : Nat → Int) (kn : Nat → Nat) (n : Int) (hn : outOf n) : Spoil 4 q kn (upd q 36 n) kn := by
  refine ⟨?_, fun j hj => ?_⟩
  · have h1 := inB_not 0 31 n (by unfold outOf at hn; omega)
    show allI 0 31 [q 34, q 35, n, q 37, q 38] = false
    simp [allI, h1]
  · match j, hj with
    | 0, _ => rfl
    | 1, _ => rfl
    | 2, _ => rfl
    | 3, _ => rfl
    | 4, h => exact absurd rfl h
    | 5, _ => rfl
    | 6, _ => rfl
    | 7, _ => rfl
    | 8, _ => rfl
    | 9, _ => rfl
    | 10, _ => rfl
    | j + 11, _ => rfl
theorem spoil_4_37 (q : Nat → Int) (kn : Nat → Nat) (n : Int) (hn : outOf n) : Spoil 4 q kn (upd q 37 n) kn := by
  refine ⟨?_, fun j hj => ?_⟩
  · have h1 := inB_not 0 31 n (by unfold outOf at hn; omega)
    show allI 0 31 [q 34, q 35, q 36, n, q 38] = false
    simp [allI, h1]
  · match j, hj with
    | 0, _ => rfl
    | 1, _ => rfl
    | 2, _ => rfl
    | 3, _ => rfl
    | 4, h => exact absurd rfl h
    | 5, _ => rfl
    | 6, _ => rfl
    | 7, _ => rfl
    | 8, _ => rfl
    | 9, _ => rfl
    | 10, _ => rfl
    | j + 11, _ => rfl
theorem spoil_5_39 (q : Nat → Int) (kn : Nat → Nat) (n : Int) (hn : outOf n) : Spoil 5 q kn (upd q 39 n) kn := by
  refine ⟨?_, fun j hj => ?_⟩
  · have h1 := inB_not 0 4 n (by unfold outOf at hn; omega)
    show allI 0 4 [n, q 40, q 41] = false
    simp [allI, h1]
  · match j, hj with
    | 0, _ => rfl
    | 1, _ => rfl
    | 2, _ => rfl
    | 3, _ => rfl
    | 4, _ => rfl
    | 5, h => exact absurd rfl h
    | 6, _ => rfl
    | 7, _ => rfl
    | 8, _ => rfl
    | 9, _ => rfl
    | 10, _ => rfl
    | j + 11, _ => rfl
theorem spoil_6_43 (q : Nat → Int) (kn : Nat → Nat) (n : Int) (hn : outOf n) : Spoil 6 q kn (upd q 43 n) kn := by
  refine ⟨?_, fun j hj => ?_⟩
  · have h1 := inB_not 1 1000 n (by unfold outOf at hn; omega)
    show allI 1 1000 [q 42, n, q 44, q 45] = false
    simp [allI, h1]
  · match j, hj with
    | 0, _ => rfl
    | 1, _ => rfl
    | 2, _ => rfl
    | 3, _ => rfl
    | 4, _ => rfl
    | 5, _ => rfl
    | 6, h => exact absurd rfl h
    | 7, _ => rfl
    | 8, _ => rfl
    | 9, _ => rfl
    | 10, _ => rfl
    | j + 11, _ => rfl
theorem spoil_7_46 (q : Nat → Int) (kn : Nat → Nat) (n : Int) (hn : outOf n) : Spoil 7 q kn (upd q 46 n) kn := by
  refine ⟨?_, fun j hj => ?_⟩
  · have h1 := inB_not 1 1000 n (by unfold outOf at hn; omega)
    show (inB 1 1000 n && inB 0 1000 (q 47)) = false
    simp [allI, h1]
  · match j, hj with
    | 0, _ => rfl
    | 1, _ => rfl
    | 2, _ => rfl
    | 3, _ => rfl
    | 4, _ => rfl
    | 5, _ => rfl
    | 6, _ => rfl
    | 7, h => exact absurd rfl h
    | 8, _ => rfl
    | 9, _ => rfl
    | 10, _ => rfl
    | j + 11, _ => rfl
theorem spoil_8_49 (q : Nat → Int) (kn : Nat → Nat) (n : Int) (hn : outOf n) : Spoil 8 q kn (upd q 49 n) kn := by
  refine ⟨?_, fun j hj => ?_⟩
  · have h1 := inB_not 1 3 n (by unfold outOf at hn; omega)
    show allI 1 3 [q 48, n] = false
    simp [allI, h1]
  · match j, hj with
    | 0, _ => rfl
    | 1, _ => rfl
    | 2, _ => rfl
    | 3, _ => rfl
    | 4, _ => rfl
    | 5, _ => rfl
    | 6, _ => rfl
    | 7, _ => rfl
    | 8, h => exact absurd rfl h
    | 9, _ => rfl
    | 10, _ => rfl
    | j + 11, _ => rfl
theorem spoil_9_54 (q : Nat → Int) (kn : Nat → Nat) (n : Int) (hn : outOf n) : Spoil 9 q kn (upd q 54 n) kn := by
  refine ⟨?_, fun j hj => ?_⟩
  · have h1 := inB_not 1 1000 n (by unfold outOf at hn; omega)
    show (q 50 == 0 && (allI 0 1000 [q 51, q 52, q 53] && inB 1 1000 n)) = false
    simp [allI, h1]
  · match j, hj with
    | 0, _ => rfl
    | 1, _ => rfl
    | 2, _ => rfl
    | 3, _ => rfl
    | 4, _ => rfl
    | 5, _ => rfl
    | 6, _ => rfl
    | 7, _ => rfl
    | 8, _ => rfl
    | 9, h => exact absurd rfl h
    | 10, _ => rfl
    | j + 11, _ => rfl
theorem spoil_10_55 (q : Nat → Int) (kn : Nat → Nat) (n : Int) (hn : outOf n) : Spoil 10 q kn (upd q 55 n) kn := by
  refine ⟨?_, fun j hj => ?_⟩
  · have h1 := inB_not 0 65535 n (by unfold outOf at hn; omega)
    show inB 0 65535 n = false
    simp [allI, h1]
  · match j, hj with
    | 0, _ => rfl
    | 1, _ => rfl
    | 2, _ => rfl
    | 3, _ => rfl
    | 4, _ => rfl
    | 5, _ => rfl
    | 6, _ => rfl
    | 7, _ => rfl
    | 8, _ => rfl
    | 9, _ => rfl
    | 10, h => exact absurd rfl h
    | j + 11, _ => rfl
theorem spoil_2_9 (q : Nat → Int) (kn : Nat → Nat) : Spoil 2 q kn (upd q 9 3) kn := by
  refine ⟨?_, fun j hj => ?_⟩
  · show ((3 : Int) == 1 && (q 13 == 0 && (setB (q 10) && (setB (q 11) && setB (q 12))))) = false
    simp [setB, inB]
  · match j, hj with
    | 0, _ => rfl
    | 1, _ => rfl
    | 2, h => exact absurd rfl h
    | 3, _ => rfl
    | 4, _ => rfl
    | 5, _ => rfl
    | 6, _ => rfl
    | 7, _ => rfl
    | 8, _ => rfl
    | 9, _ => rfl
    | 10, _ => rfl
    | j + 11, _ => rfl
theorem spoil_2_10 (q : Nat → Int) (kn : Nat → Nat) : Spoil 2 q kn (upd q 10 3) kn := by
  refine ⟨?_, fun j hj => ?_⟩
  · show (q 9 == 1 && (q 13 == 0 && (setB ((3 : Int)) && (setB (q 11) && setB (q 12))))) = false
    simp [setB, inB]
  · match j, hj with
    | 0, _ => rfl
    | 1, _ => rfl
    | 2, h => exact absurd rfl h
    | 3, _ => rfl
    | 4, _ => rfl
    | 5, _ => rfl
    | 6, _ => rfl
    | 7, _ => rfl
    | 8, _ => rfl
    | 9, _ => rfl
    | 10, _ => rfl
    | j + 11, _ => rfl
theorem spoil_2_11 (q : Nat → Int) (kn : Nat → Nat) : Spoil 2 q kn (upd q 11 3) kn := by
  refine ⟨?_, fun j hj => ?_⟩
  · show (q 9 == 1 && (q 13 == 0 && (setB (q 10) && (setB ((3 : Int)) && setB (q 12))))) = false
    simp [setB, inB]
  · match j, hj with
    | 0, _ => rfl
    | 1, _ => rfl
    | 2, h => exact absurd rfl h
    | 3, _ => rfl
    | 4, _ => rfl
    | 5, _ => rfl
    | 6, _ => rfl
    | 7, _ => rfl
    | 8, _ => rfl
    | 9, _ => rfl
    | 10, _ => rfl
    | j + 11, _ => rfl
theorem spoil_2_12 (q : Nat → Int) (kn : Nat → Nat) : Spoil 2 q kn (upd q 12 3) kn := by
  refine ⟨?_, fun j hj => ?_⟩
  · show (q 9 == 1 && (q 13 == 0 && (setB (q 10) && (setB (q 11) && setB ((3 : Int)))))) = false
    simp [setB, inB]
  · match j, hj with
    | 0, _ => rfl
    | 1, _ => rfl
    | 2, h => exact absurd rfl h
    | 3, _ => rfl
    | 4, _ => rfl
    | 5, _ => rfl
    | 6, _ => rfl
    | 7, _ => rfl
    | 8, _ => rfl
    | 9, _ => rfl
    | 10, _ => rfl
    | j + 11, _ => rfl
theorem spoil_0_1 (q : Nat → Int) (kn : Nat → Nat) : Spoil 0 q kn (upd q 1 (q 3)) kn := by
  refine ⟨?_, fun j hj => ?_⟩
  · show (q 0 == 0 && (q 4 == 4 && (isIn (q 3) (q 2) (q 3) 1 && (isIn (q 3) (q 2) (q 3) 2 && isIn (q 3) (q 2) (q 3) 3)))) = false
    rw [Bool.eq_false_iff]; intro h
    simp [isIn] at h
    omega
  · match j, hj with
    | 0, h => exact absurd rfl h
    | 1, _ => rfl
    | 2, _ => rfl
    | 3, _ => rfl
    | 4, _ => rfl
    | 5, _ => rfl
    | 6, _ => rfl
    | 7, _ => rfl
    | 8, _ => rfl
    | 9, _ => rfl
    | 10, _ => rfl
    | j + 11, _ => rfl
theorem spoil_0_2 (q : Nat → Int) (kn : Nat → Nat) : Spoil 0 q kn (upd q 2 (q 3)) kn := by
  refine ⟨?_, fun j hj => ?_⟩
  · show (q 0 == 0 && (q 4 == 4 && (isIn (q 1) (q 3) (q 3) 1 && (isIn (q 1) (q 3) (q 3) 2 && isIn (q 1) (q 3) (q 3) 3)))) = false
    rw [Bool.eq_false_iff]; intro h
    simp [isIn] at h
    omega
  · match j, hj with
    | 0, h => exact absurd rfl h
    | 1, _ => rfl
    | 2, _ => rfl
    | 3, _ => rfl
    | 4, _ => rfl
    | 5, _ => rfl
    | 6, _ => rfl
    | 7, _ => rfl
    | 8, _ => rfl
    | 9, _ => rfl
    | 10, _ => rfl
    | j + 11, _ => rfl
theorem spoil_1_0 (q : Nat → Int) (kn : Nat → Nat) : Spoil 1 q kn q (updf kn 0 65) := by
  refine ⟨?_, fun j hj => ?_⟩
  · have h1 : keyB 65 = false := by decide
    show ((keyB (65) && (keyB (kn 1) && keyB (kn 2))) && keyB (kn 3)) = false
    simp [h1]
  · match j, hj with
    | 0, _ => rfl
    | 1, h => exact absurd rfl h
    | 2, _ => rfl
    | 3, _ => rfl
    | 4, _ => rfl
    | 5, _ => rfl
    | 6, _ => rfl
    | 7, _ => rfl
    | 8, _ => rfl
    | 9, _ => rfl
    | 10, _ => rfl
    | j + 11, _ => rfl
theorem spoil_1_1 (q : Nat → Int) (kn : Nat → Nat) : Spoil 1 q kn q (updf kn 1 65) := by
  refine ⟨?_, fun j hj => ?_⟩
  · have h1 : keyB 65 = false := by decide
    show ((keyB (kn 0) && (keyB (65) && keyB (kn 2))) && keyB (kn 3)) = false
    simp [h1]
  · match j, hj with
    | 0, _ => rfl
    | 1, h => exact absurd rfl h
    | 2, _ => rfl
    | 3, _ => rfl
    | 4, _ => rfl
    | 5, _ => rfl
    | 6, _ => rfl
    | 7, _ => rfl
    | 8, _ => rfl
    | 9, _ => rfl
    | 10, _ => rfl
    | j + 11, _ => rfl
theorem spoil_1_3 (q : Nat → Int) (kn : Nat → Nat) : Spoil 1 q kn q (updf kn 3 0) := by
  refine ⟨?_, fun j hj => ?_⟩
  · have h1 : keyB 0 = false := by decide
    show ((keyB (kn 0) && (keyB (kn 1) && keyB (kn 2))) && keyB (0)) = false
    simp [h1]
  · match j, hj with
    | 0, _ => rfl
    | 1, h => exact absurd rfl h
    | 2, _ => rfl
    | 3, _ => rfl
    | 4, _ => rfl
    | 5, _ => rfl
    | 6, _ => rfl
    | 7, _ => rfl
    | 8, _ => rfl
    | 9, _ => rfl
    | 10, _ => rfl
    | j + 11, _ => rfl
theorem one_code {a : Int} {x q' : Nat → Int} {xn kn' : Nat → Nat} (ha : 0 ≤ a ∧ a ≤ 10) (hX : ∀ j, condB j x xn = true) (h : Spoil a x xn q' kn') : polCode q' kn' = 40 + a := by
  have := polCode_at (q := q') (kn := kn') a.toNat (by omega) (fun j hj => by rw [h.2 j (by omega)]; exact hX j) h.1
  omega
theorem two_code {a b : Int} {x q' q'' : Nat → Int} {xn kn' kn'' : Nat → Nat} (ha : 0 ≤ a ∧ a ≤ 10) (hb : 0 ≤ b ∧ b ≤ 10) (hX : ∀ j, condB j x xn = true) (h : Spoil a x xn q' kn') (k : Spoil b q' kn' q'' kn'') : polCode q'' kn'' = 40 + min a b := by
  by_cases hab : a < b
  · have := polCode_at (q := q'') (kn := kn'') a.toNat (by omega) (fun j hj => by rw [k.2 j (by omega), h.2 j (by omega)]; exact hX j) (by rw [k.2 a.toNat (by omega)]; exact h.1)
    omega
  · have := polCode_at (q := q'') (kn := kn'') b.toNat (by omega) (fun j hj => by rw [k.2 j (by omega), h.2 j (by omega)]; exact hX j) k.1
    omega

set_option maxRecDepth 100000 in
set_option maxHeartbeats 4000000 in
theorem spoilt_ (q : Nat → Int) (ka : Nat → Option Addr) (kn kc : Nat → Nat) (a how : Int) (ha : 0 ≤ a ∧ a ≤ 10) (hh : -9223372036854775808 ≤ how ∧ how ≤ 9223372036854775807) (w : World) :
    Gives Try.prog 34 #[.agg (polC q ka kn kc), .int .i64 a, .int .i64 how] w fun v w1 => ∃ q' ka' kn' kc', v = .agg (polC q' ka' kn' kc') ∧ Spoil a q kn q' kn' ∧ Ch [] w w1 := by
 have S0 := St.nil [] w
 refine enter_ Try.func34 rfl ?_
 refine seq_ (reg_ ?_)
 refine new_ S0 (fun b => .pointer (some ⟨b, 0, none⟩)) (.cells (polC q ka kn kc) 37) ?_
 intro zb1 zw2 zS3
 refine new_ zS3 (fun b => .pointer (some ⟨b, 0, none⟩)) (.cells #[.int .i64 0, .int .i64 0, .int .i64 0, .int .i64 0, .int .i64 0, .slice none 0 0, .slice none 0 0, .slice none 0 0, .slice none 0 0, .int .i64 0, .int .i64 0, .int .i64 0, .int .i64 0, .int .i64 0, .int .i64 0, .int .i64 0, .int .i64 0, .int .i64 0, .int .i64 0, .int .i64 0, .int .i64 0, .int .i64 0, .int .i64 0, .int .i64 0, .int .i64 0, .int .i64 0, .int .i64 0, .int .i64 0, .int .i64 0, .int .i64 0, .int .i64 0, .int .i64 0, .int .i64 0, .int .i64 0, .int .i64 0, .int .i64 0, .int .i64 0, .int .i64 0, .int .i64 0, .int .i64 0, .int .i64 0, .int .i64 0, .int .i64 0, .int .i64 0, .int .i64 0, .int .i64 0, .int .i64 0, .int .i64 0, .int .i64 0, .int .i64 0, .int .i64 0, .int .i64 0, .int .i64 0, .int .i64 0, .int .i64 0, .int .i64 0] 37) ?_
 intro zb4 zw5 zS6
 refine nil_ (then_n (seq_ (reg_ ?_)))
 refine pure_ (.int .i64 how) ?_
 refine pureE_ (.int .i64 (bits .and .i64 how 1)) (.int .i64 (how % 2)) (congrArg _ (and_mask .i64 how 1 2 1 (by decide) (by decide) (by decide))) ?_
 refine pure_ (.bool ((how % 2) == 1)) ?_
 refine pure_ (.bool ((how % 2) == 1)) ?_
 refine nil_ (then_n (seq_ (reg_ ?_)))
 refine pure_ (.int .i64 (-1)) ?_
 refine nil_ (then_n (seq_ (seq_ (reg_ ?_))))
 refine pure_ (.bool ((how % 2) == 1)) ?_
 refine nil_ (then_n ?_)
 refine cond_S ((how % 2) == 1) ?_ ?_
 · intro zh8
   have zh9 := eqT' zh8
   refine reg_ ?_
   refine pure_ (.int .i64 70000) ?_
   refine nil_ (then_n (seq_ (seq_ (reg_ ?_))))
   refine pure_ (.int .i64 a) ?_
   refine nil_ (then_n (wp_block (seq_ (reg_ ?_))))
   refine pure_ (.bool (a == 0)) ?_
   refine pure_ (.bool (a == 0)) ?_
   refine nil_ (then_n ?_)
   refine cond_S (a == 0) ?_ ?_
   · intro zh10
     have zh11 := eqT' zh10
     refine reg_ ?_
     refine pure_ (.int .i64 how) ?_
     refine pureE_ (.int .i64 (bits .and .i64 how 2)) (.int .i64 (how / 2 % 2 * 2)) (congrArg _ (and2 _)) ?_
     refine pureE_ (.int .i64 (IntKind.i64.wrap (Int.tdiv (how / 2 % 2 * 2) 2))) (.int .i64 (how / 2 % 2)) (congrArg _ (quo2 _)) ?_
     refine sum_ .i64 (1 + (how / 2 % 2)) (IntWalk.i64_in _ (by omega)) ?_
     refine pure_ (.pointer (some ⟨zb1, 0, none⟩)) ?_
     refine pure_ (.pointer (some ⟨zb1, 3, none⟩)) ?_
     refine load1_ zS6 1 (.int .i64 (q 3)) zb1 3 ?_
     refine pure_ (.pointer (some ⟨zb1, 0, none⟩)) ?_
     refine split_b ((1 + (how / 2 % 2)) == 1) ?_ ?_
     · intro zh12
       have zh13 := eqT' zh12
       refine slotI_ 21 .i64 (1 + (how / 2 % 2)) 1 (by omega) ?_
       have zh14 : (1 + (how / 2 % 2)) = 1 := by omega
       refine pure_ (.pointer (some ⟨zb1, 1, none⟩)) ?_
       refine store_ zS6 1 (.int .i64 (q 3)) zb1 1 ?_
       intro zw15 zS16
       refine nil_ (blk_n (then_n (seq_ (reg_ ?_))))
       refine loadN_ zS16 1 56 (polC (upd q 1 (q 3)) ka kn kc) zb1 0 ?_
       refine store_ zS16 0 (.agg (polC (upd q 1 (q 3)) ka kn kc)) zb4 0 ?_
       intro zw17 zS18
       refine nil_ (then_n (wp_ret ?_))
       refine ret_ rfl (res_ [.cell 6 37] [.agg (polC (upd q 1 (q 3)) ka kn kc)] (.agg (polC (upd q 1 (q 3)) ka kn kc)) ⟨res_cellN zS18 0 56 zb4 0, trivial⟩) ?_
       obtain rfl : a = 0 := by omega
       exact ⟨(upd q 1 (q 3)), ka, kn, kc, by kernel_rfl, spoil_0_1 q kn, zS18.ch⟩
     intro zh19
     have zh20 := eqF' zh19
     refine slotI_ 21 .i64 (1 + (how / 2 % 2)) 2 (by omega) ?_
     have zh21 : (1 + (how / 2 % 2)) = 2 := by omega
     refine pure_ (.pointer (some ⟨zb1, 2, none⟩)) ?_
     refine store_ zS6 1 (.int .i64 (q 3)) zb1 2 ?_
     intro zw22 zS23
     refine nil_ (blk_n (then_n (seq_ (reg_ ?_))))
     refine loadN_ zS23 1 56 (polC (upd q 2 (q 3)) ka kn kc) zb1 0 ?_
     refine store_ zS23 0 (.agg (polC (upd q 2 (q 3)) ka kn kc)) zb4 0 ?_
     intro zw24 zS25
     refine nil_ (then_n (wp_ret ?_))
     refine ret_ rfl (res_ [.cell 6 37] [.agg (polC (upd q 2 (q 3)) ka kn kc)] (.agg (polC (upd q 2 (q 3)) ka kn kc)) ⟨res_cellN zS25 0 56 zb4 0, trivial⟩) ?_
     obtain rfl : a = 0 := by omega
     exact ⟨(upd q 2 (q 3)), ka, kn, kc, by kernel_rfl, spoil_0_2 q kn, zS25.ch⟩
   intro zh26
   have zh27 := eqF' zh26
   refine seq_ (reg_ ?_)
   refine pure_ (.bool (a == 1)) ?_
   refine pure_ (.bool (a == 1)) ?_
   refine nil_ (then_n ?_)
   refine cond_S (a == 1) ?_ ?_
   · intro zh28
     have zh29 := eqT' zh28
     refine seq_ (reg_ ?_)
     refine pure_ (.bool ((how % 2) == 1)) ?_
     refine nil_ (then_n ?_)
     refine cond_t ((how % 2) == 1) (zh8) ?_
     refine reg_ ?_
     refine pure_ (.pointer (some ⟨zb1, 8, none⟩)) ?_
     refine store_ zS6 1 (.slice none 0 0) zb1 8 ?_
     intro zw30 zS31
     refine nil_ (blk_n (then_n (seq_ (reg_ ?_))))
     refine loadN_ zS31 1 56 (polC q (updf ka 3 none) (updf kn 3 0) (updf kc 3 0)) zb1 0 ?_
     refine store_ zS31 0 (.agg (polC q (updf ka 3 none) (updf kn 3 0) (updf kc 3 0))) zb4 0 ?_
     intro zw32 zS33
     refine nil_ (then_n (wp_ret ?_))
     refine ret_ rfl (res_ [.cell 6 37] [.agg (polC q (updf ka 3 none) (updf kn 3 0) (updf kc 3 0))] (.agg (polC q (updf ka 3 none) (updf kn 3 0) (updf kc 3 0))) ⟨res_cellN zS33 0 56 zb4 0, trivial⟩) ?_
     obtain rfl : a = 1 := by omega
     exact ⟨q, (updf ka 3 none), (updf kn 3 0), (updf kc 3 0), by kernel_rfl, spoil_1_3 q kn, zS33.ch⟩
   intro zh34
   have zh35 := eqF' zh34
   refine seq_ (reg_ ?_)
   refine pure_ (.bool (a == 2)) ?_
   refine pure_ (.bool (a == 2)) ?_
   refine nil_ (then_n ?_)
   refine cond_S (a == 2) ?_ ?_
   · intro zh36
     have zh37 := eqT' zh36
     refine reg_ ?_
     refine pure_ (.int .i64 how) ?_
     refine pure_ (.int .i64 (Int.fdiv how (2 ^ 1))) ?_
     refine pureE_ (.int .i64 (bits .and .i64 (Int.fdiv how (2 ^ 1)) 3)) (.int .i64 ((Int.fdiv how (2 ^ 1)) % 4)) (congrArg _ (and_mask .i64 (Int.fdiv how (2 ^ 1)) 3 4 2 (by decide) (by decide) (by decide))) ?_
     refine pure_ (.pointer (some ⟨zb1, 9, none⟩)) ?_
     refine split_b (((Int.fdiv how (2 ^ 1)) % 4) == 0) ?_ ?_
     · intro zh39
       have zh40 := eqT' zh39
       refine slotI_ 41 .i64 ((Int.fdiv how (2 ^ 1)) % 4) 0 (by omega) ?_
       have zh41 : ((Int.fdiv how (2 ^ 1)) % 4) = 0 := by omega
       refine pure_ (.pointer (some ⟨zb1, 9, none⟩)) ?_
       refine store_ zS6 1 (.int .i64 3) zb1 9 ?_
       intro zw42 zS43
       refine nil_ (blk_n (then_n (seq_ (reg_ ?_))))
       refine loadN_ zS43 1 56 (polC (upd q 9 3) ka kn kc) zb1 0 ?_
       refine store_ zS43 0 (.agg (polC (upd q 9 3) ka kn kc)) zb4 0 ?_
       intro zw44 zS45
       refine nil_ (then_n (wp_ret ?_))
       refine ret_ rfl (res_ [.cell 6 37] [.agg (polC (upd q 9 3) ka kn kc)] (.agg (polC (upd q 9 3) ka kn kc)) ⟨res_cellN zS45 0 56 zb4 0, trivial⟩) ?_
       obtain rfl : a = 2 := by omega
       exact ⟨(upd q 9 3), ka, kn, kc, by kernel_rfl, spoil_2_9 q kn, zS45.ch⟩
     intro zh46
     have zh47 := eqF' zh46
     refine split_b (((Int.fdiv how (2 ^ 1)) % 4) == 1) ?_ ?_
     · intro zh48
       have zh49 := eqT' zh48
       refine slotI_ 41 .i64 ((Int.fdiv how (2 ^ 1)) % 4) 1 (by omega) ?_
       have zh50 : ((Int.fdiv how (2 ^ 1)) % 4) = 1 := by omega
       refine pure_ (.pointer (some ⟨zb1, 10, none⟩)) ?_
       refine store_ zS6 1 (.int .i64 3) zb1 10 ?_
       intro zw51 zS52
       refine nil_ (blk_n (then_n (seq_ (reg_ ?_))))
       refine loadN_ zS52 1 56 (polC (upd q 10 3) ka kn kc) zb1 0 ?_
       refine store_ zS52 0 (.agg (polC (upd q 10 3) ka kn kc)) zb4 0 ?_
       intro zw53 zS54
       refine nil_ (then_n (wp_ret ?_))
       refine ret_ rfl (res_ [.cell 6 37] [.agg (polC (upd q 10 3) ka kn kc)] (.agg (polC (upd q 10 3) ka kn kc)) ⟨res_cellN zS54 0 56 zb4 0, trivial⟩) ?_
       obtain rfl : a = 2 := by omega
       exact ⟨(upd q 10 3), ka, kn, kc, by kernel_rfl, spoil_2_10 q kn, zS54.ch⟩
     intro zh55
     have zh56 := eqF' zh55
     refine split_b (((Int.fdiv how (2 ^ 1)) % 4) == 2) ?_ ?_
     · intro zh57
       have zh58 := eqT' zh57
       refine slotI_ 41 .i64 ((Int.fdiv how (2 ^ 1)) % 4) 2 (by omega) ?_
       have zh59 : ((Int.fdiv how (2 ^ 1)) % 4) = 2 := by omega
       refine pure_ (.pointer (some ⟨zb1, 11, none⟩)) ?_
       refine store_ zS6 1 (.int .i64 3) zb1 11 ?_
       intro zw60 zS61
       refine nil_ (blk_n (then_n (seq_ (reg_ ?_))))
       refine loadN_ zS61 1 56 (polC (upd q 11 3) ka kn kc) zb1 0 ?_
       refine store_ zS61 0 (.agg (polC (upd q 11 3) ka kn kc)) zb4 0 ?_
       intro zw62 zS63
       refine nil_ (then_n (wp_ret ?_))
       refine ret_ rfl (res_ [.cell 6 37] [.agg (polC (upd q 11 3) ka kn kc)] (.agg (polC (upd q 11 3) ka kn kc)) ⟨res_cellN zS63 0 56 zb4 0, trivial⟩) ?_
       obtain rfl : a = 2 := by omega
       exact ⟨(upd q 11 3), ka, kn, kc, by kernel_rfl, spoil_2_11 q kn, zS63.ch⟩
     intro zh64
     have zh65 := eqF' zh64
     refine slotI_ 41 .i64 ((Int.fdiv how (2 ^ 1)) % 4) 3 (by omega) ?_
     have zh66 : ((Int.fdiv how (2 ^ 1)) % 4) = 3 := by omega
     refine pure_ (.pointer (some ⟨zb1, 12, none⟩)) ?_
     refine store_ zS6 1 (.int .i64 3) zb1 12 ?_
     intro zw67 zS68
     refine nil_ (blk_n (then_n (seq_ (reg_ ?_))))
     refine loadN_ zS68 1 56 (polC (upd q 12 3) ka kn kc) zb1 0 ?_
     refine store_ zS68 0 (.agg (polC (upd q 12 3) ka kn kc)) zb4 0 ?_
     intro zw69 zS70
     refine nil_ (then_n (wp_ret ?_))
     refine ret_ rfl (res_ [.cell 6 37] [.agg (polC (upd q 12 3) ka kn kc)] (.agg (polC (upd q 12 3) ka kn kc)) ⟨res_cellN zS70 0 56 zb4 0, trivial⟩) ?_
     obtain rfl : a = 2 := by omega
     exact ⟨(upd q 12 3), ka, kn, kc, by kernel_rfl, spoil_2_12 q kn, zS70.ch⟩
   intro zh71
   have zh72 := eqF' zh71
   refine seq_ (reg_ ?_)
   refine pure_ (.bool (a == 3)) ?_
   refine pure_ (.bool (a == 3)) ?_
   refine nil_ (then_n ?_)
   refine cond_S (a == 3) ?_ ?_
   · intro zh73
     have zh74 := eqT' zh73
     refine reg_ ?_
     refine pure_ (.int .i64 how) ?_
     refine pure_ (.int .i64 (Int.fdiv how (2 ^ 1))) ?_
     refine pureE_ (.int .i64 (bits .and .i64 (Int.fdiv how (2 ^ 1)) 3)) (.int .i64 ((Int.fdiv how (2 ^ 1)) % 4)) (congrArg _ (and_mask .i64 (Int.fdiv how (2 ^ 1)) 3 4 2 (by decide) (by decide) (by decide))) ?_
     refine pure_ (.int .i64 how) ?_
     refine pure_ (.int .i64 (Int.fdiv how (2 ^ 3))) ?_
     refine pureE_ (.int .i64 (bits .and .i64 (Int.fdiv how (2 ^ 3)) 3)) (.int .i64 ((Int.fdiv how (2 ^ 3)) % 4)) (congrArg _ (and_mask .i64 (Int.fdiv how (2 ^ 3)) 3 4 2 (by decide) (by decide) (by decide))) ?_
     refine pure_ (.int .i64 70000) ?_
     refine pure_ (.pointer (some ⟨zb1, 14, none⟩)) ?_
     refine split_b (((Int.fdiv how (2 ^ 1)) % 4) == 0) ?_ ?_
     · intro zh77
       have zh78 := eqT' zh77
       refine slotI_ 48 .i64 ((Int.fdiv how (2 ^ 1)) % 4) 0 (by omega) ?_
       have zh79 : ((Int.fdiv how (2 ^ 1)) % 4) = 0 := by omega
       refine pure_ (.pointer (some ⟨zb1, 14, none⟩)) ?_
       refine split_b (((Int.fdiv how (2 ^ 3)) % 4) == 0) ?_ ?_
       · intro zh80
         have zh81 := eqT' zh80
         refine slotI_ 51 .i64 ((Int.fdiv how (2 ^ 3)) % 4) 0 (by omega) ?_
         have zh82 : ((Int.fdiv how (2 ^ 3)) % 4) = 0 := by omega
         refine pure_ (.pointer (some ⟨zb1, 14, none⟩)) ?_
         refine store_ zS6 1 (.int .i64 70000) zb1 14 ?_
         intro zw83 zS84
         refine nil_ (blk_n (then_n (seq_ (reg_ ?_))))
         refine loadN_ zS84 1 56 (polC (upd q 14 70000) ka kn kc) zb1 0 ?_
         refine store_ zS84 0 (.agg (polC (upd q 14 70000) ka kn kc)) zb4 0 ?_
         intro zw85 zS86
         refine nil_ (then_n (wp_ret ?_))
         refine ret_ rfl (res_ [.cell 6 37] [.agg (polC (upd q 14 70000) ka kn kc)] (.agg (polC (upd q 14 70000) ka kn kc)) ⟨res_cellN zS86 0 56 zb4 0, trivial⟩) ?_
         obtain rfl : a = 3 := by omega
         exact ⟨(upd q 14 70000), ka, kn, kc, by kernel_rfl, spoil_3_14 q kn 70000 (by unfold outOf; decide), zS86.ch⟩
       intro zh87
       have zh88 := eqF' zh87
       refine split_b (((Int.fdiv how (2 ^ 3)) % 4) == 1) ?_ ?_
       · intro zh89
         have zh90 := eqT' zh89
         refine slotI_ 51 .i64 ((Int.fdiv how (2 ^ 3)) % 4) 1 (by omega) ?_
         have zh91 : ((Int.fdiv how (2 ^ 3)) % 4) = 1 := by omega
         refine pure_ (.pointer (some ⟨zb1, 15, none⟩)) ?_
         refine store_ zS6 1 (.int .i64 70000) zb1 15 ?_
         intro zw92 zS93
         refine nil_ (blk_n (then_n (seq_ (reg_ ?_))))
         refine loadN_ zS93 1 56 (polC (upd q 15 70000) ka kn kc) zb1 0 ?_
         refine store_ zS93 0 (.agg (polC (upd q 15 70000) ka kn kc)) zb4 0 ?_
         intro zw94 zS95
         refine nil_ (then_n (wp_ret ?_))
         refine ret_ rfl (res_ [.cell 6 37] [.agg (polC (upd q 15 70000) ka kn kc)] (.agg (polC (upd q 15 70000) ka kn kc)) ⟨res_cellN zS95 0 56 zb4 0, trivial⟩) ?_
         obtain rfl : a = 3 := by omega
         exact ⟨(upd q 15 70000), ka, kn, kc, by kernel_rfl, spoil_3_15 q kn 70000 (by unfold outOf; decide), zS95.ch⟩
       intro zh96
       have zh97 := eqF' zh96
       refine split_b (((Int.fdiv how (2 ^ 3)) % 4) == 2) ?_ ?_
       · intro zh98
         have zh99 := eqT' zh98
         refine slotI_ 51 .i64 ((Int.fdiv how (2 ^ 3)) % 4) 2 (by omega) ?_
         have zh100 : ((Int.fdiv how (2 ^ 3)) % 4) = 2 := by omega
         refine pure_ (.pointer (some ⟨zb1, 16, none⟩)) ?_
         refine store_ zS6 1 (.int .i64 70000) zb1 16 ?_
         intro zw101 zS102
         refine nil_ (blk_n (then_n (seq_ (reg_ ?_))))
         refine loadN_ zS102 1 56 (polC (upd q 16 70000) ka kn kc) zb1 0 ?_
         refine store_ zS102 0 (.agg (polC (upd q 16 70000) ka kn kc)) zb4 0 ?_
         intro zw103 zS104
         refine nil_ (then_n (wp_ret ?_))
         refine ret_ rfl (res_ [.cell 6 37] [.agg (polC (upd q 16 70000) ka kn kc)] (.agg (polC (upd q 16 70000) ka kn kc)) ⟨res_cellN zS104 0 56 zb4 0, trivial⟩) ?_
         obtain rfl : a = 3 := by omega
         exact ⟨(upd q 16 70000), ka, kn, kc, by kernel_rfl, spoil_3_16 q kn 70000 (by unfold outOf; decide), zS104.ch⟩
       intro zh105
       have zh106 := eqF' zh105
       refine slotI_ 51 .i64 ((Int.fdiv how (2 ^ 3)) % 4) 3 (by omega) ?_
       have zh107 : ((Int.fdiv how (2 ^ 3)) % 4) = 3 := by omega
       refine pure_ (.pointer (some ⟨zb1, 17, none⟩)) ?_
       refine store_ zS6 1 (.int .i64 70000) zb1 17 ?_
       intro zw108 zS109
       refine nil_ (blk_n (then_n (seq_ (reg_ ?_))))
       refine loadN_ zS109 1 56 (polC (upd q 17 70000) ka kn kc) zb1 0 ?_
       refine store_ zS109 0 (.agg (polC (upd q 17 70000) ka kn kc)) zb4 0 ?_
       intro zw110 zS111
       refine nil_ (then_n (wp_ret ?_))
       refine ret_ rfl (res_ [.cell 6 37] [.agg (polC (upd q 17 70000) ka kn kc)] (.agg (polC (upd q 17 70000) ka kn kc)) ⟨res_cellN zS111 0 56 zb4 0, trivial⟩) ?_
       obtain rfl : a = 3 := by omega
       exact ⟨(upd q 17 70000), ka, kn, kc, by kernel_rfl, spoil_3_17 q kn 70000 (by unfold outOf; decide), zS111.ch⟩
     intro zh112
     have zh113 := eqF' zh112
     refine split_b (((Int.fdiv how (2 ^ 1)) % 4) == 1) ?_ ?_
     · intro zh114
       have zh115 := eqT' zh114
       refine slotI_ 48 .i64 ((Int.fdiv how (2 ^ 1)) % 4) 1 (by omega) ?_
       have zh116 : ((Int.fdiv how (2 ^ 1)) % 4) = 1 := by omega
       refine pure_ (.pointer (some ⟨zb1, 18, none⟩)) ?_
       refine split_b (((Int.fdiv how (2 ^ 3)) % 4) == 0) ?_ ?_
       · intro zh117
         have zh118 := eqT' zh117
         refine slotI_ 51 .i64 ((Int.fdiv how (2 ^ 3)) % 4) 0 (by omega) ?_
         have zh119 : ((Int.fdiv how (2 ^ 3)) % 4) = 0 := by omega
         refine pure_ (.pointer (some ⟨zb1, 18, none⟩)) ?_
         refine store_ zS6 1 (.int .i64 70000) zb1 18 ?_
         intro zw120 zS121
         refine nil_ (blk_n (then_n (seq_ (reg_ ?_))))
         refine loadN_ zS121 1 56 (polC (upd q 18 70000) ka kn kc) zb1 0 ?_
         refine store_ zS121 0 (.agg (polC (upd q 18 70000) ka kn kc)) zb4 0 ?_
         intro zw122 zS123
         refine nil_ (then_n (wp_ret ?_))
         refine ret_ rfl (res_ [.cell 6 37] [.agg (polC (upd q 18 70000) ka kn kc)] (.agg (polC (upd q 18 70000) ka kn kc)) ⟨res_cellN zS123 0 56 zb4 0, trivial⟩) ?_
         obtain rfl : a = 3 := by omega
         exact ⟨(upd q 18 70000), ka, kn, kc, by kernel_rfl, spoil_3_18 q kn 70000 (by unfold outOf; decide), zS123.ch⟩
       intro zh124
       have zh125 := eqF' zh124
       refine split_b (((Int.fdiv how (2 ^ 3)) % 4) == 1) ?_ ?_
       · intro zh126
         have zh127 := eqT' zh126
         refine slotI_ 51 .i64 ((Int.fdiv how (2 ^ 3)) % 4) 1 (by omega) ?_
         have zh128 : ((Int.fdiv how (2 ^ 3)) % 4) = 1 := by omega
         refine pure_ (.pointer (some ⟨zb1, 19, none⟩)) ?_
         refine store_ zS6 1 (.int .i64 70000) zb1 19 ?_
         intro zw129 zS130
         refine nil_ (blk_n (then_n (seq_ (reg_ ?_))))
         refine loadN_ zS130 1 56 (polC (upd q 19 70000) ka kn kc) zb1 0 ?_
         refine store_ zS130 0 (.agg (polC (upd q 19 70000) ka kn kc)) zb4 0 ?_
         intro zw131 zS132
         refine nil_ (then_n (wp_ret ?_))
         refine ret_ rfl (res_ [.cell 6 37] [.agg (polC (upd q 19 70000) ka kn kc)] (.agg (polC (upd q 19 70000) ka kn kc)) ⟨res_cellN zS132 0 56 zb4 0, trivial⟩) ?_
         obtain rfl : a = 3 := by omega
         exact ⟨(upd q 19 70000), ka, kn, kc, by kernel_rfl, spoil_3_19 q kn 70000 (by unfold outOf; decide), zS132.ch⟩
       intro zh133
       have zh134 := eqF' zh133
       refine split_b (((Int.fdiv how (2 ^ 3)) % 4) == 2) ?_ ?_
       · intro zh135
         have zh136 := eqT' zh135
         refine slotI_ 51 .i64 ((Int.fdiv how (2 ^ 3)) % 4) 2 (by omega) ?_
         have zh137 : ((Int.fdiv how (2 ^ 3)) % 4) = 2 := by omega
         refine pure_ (.pointer (some ⟨zb1, 20, none⟩)) ?_
         refine store_ zS6 1 (.int .i64 70000) zb1 20 ?_
         intro zw138 zS139
         refine nil_ (blk_n (then_n (seq_ (reg_ ?_))))
         refine loadN_ zS139 1 56 (polC (upd q 20 70000) ka kn kc) zb1 0 ?_
         refine store_ zS139 0 (.agg (polC (upd q 20 70000) ka kn kc)) zb4 0 ?_
         intro zw140 zS141
         refine nil_ (then_n (wp_ret ?_))
         refine ret_ rfl (res_ [.cell 6 37] [.agg (polC (upd q 20 70000) ka kn kc)] (.agg (polC (upd q 20 70000) ka kn kc)) ⟨res_cellN zS141 0 56 zb4 0, trivial⟩) ?_
         obtain rfl : a = 3 := by omega
         exact ⟨(upd q 20 70000), ka, kn, kc, by kernel_rfl, spoil_3_20 q kn 70000 (by unfold outOf; decide), zS141.ch⟩
       intro zh142
       have zh143 := eqF' zh142
       refine slotI_ 51 .i64 ((Int.fdiv how (2 ^ 3)) % 4) 3 (by omega) ?_
       have zh144 : ((Int.fdiv how (2 ^ 3)) % 4) = 3 := by omega
       refine pure_ (.pointer (some ⟨zb1, 21, none⟩)) ?_
       refine store_ zS6 1 (.int .i64 70000) zb1 21 ?_
       intro zw145 zS146
       refine nil_ (blk_n (then_n (seq_ (reg_ ?_))))
       refine loadN_ zS146 1 56 (polC (upd q 21 70000) ka kn kc) zb1 0 ?_
       refine store_ zS146 0 (.agg (polC (upd q 21 70000) ka kn kc)) zb4 0 ?_
       intro zw147 zS148
       refine nil_ (then_n (wp_ret ?_))
       refine ret_ rfl (res_ [.cell 6 37] [.agg (polC (upd q 21 70000) ka kn kc)] (.agg (polC (upd q 21 70000) ka kn kc)) ⟨res_cellN zS148 0 56 zb4 0, trivial⟩) ?_
       obtain rfl : a = 3 := by omega
       exact ⟨(upd q 21 70000), ka, kn, kc, by kernel_rfl, spoil_3_21 q kn 70000 (by unfold outOf; decide), zS148.ch⟩
     intro zh149
     have zh150 := eqF' zh149
     refine split_b (((Int.fdiv how (2 ^ 1)) % 4) == 2) ?_ ?_
     · intro zh151
       have zh152 := eqT' zh151
       refine slotI_ 48 .i64 ((Int.fdiv how (2 ^ 1)) % 4) 2 (by omega) ?_
       have zh153 : ((Int.fdiv how (2 ^ 1)) % 4) = 2 := by omega
       refine pure_ (.pointer (some ⟨zb1, 22, none⟩)) ?_
       refine split_b (((Int.fdiv how (2 ^ 3)) % 4) == 0) ?_ ?_
       · intro zh154
         have zh155 := eqT' zh154
         refine slotI_ 51 .i64 ((Int.fdiv how (2 ^ 3)) % 4) 0 (by omega) ?_
         have zh156 : ((Int.fdiv how (2 ^ 3)) % 4) = 0 := by omega
         refine pure_ (.pointer (some ⟨zb1, 22, none⟩)) ?_
         refine store_ zS6 1 (.int .i64 70000) zb1 22 ?_
         intro zw157 zS158
         refine nil_ (blk_n (then_n (seq_ (reg_ ?_))))
         refine loadN_ zS158 1 56 (polC (upd q 22 70000) ka kn kc) zb1 0 ?_
         refine store_ zS158 0 (.agg (polC (upd q 22 70000) ka kn kc)) zb4 0 ?_
         intro zw159 zS160
         refine nil_ (then_n (wp_ret ?_))
         refine ret_ rfl (res_ [.cell 6 37] [.agg (polC (upd q 22 70000) ka kn kc)] (.agg (polC (upd q 22 70000) ka kn kc)) ⟨res_cellN zS160 0 56 zb4 0, trivial⟩) ?_
         obtain rfl : a = 3 := by omega
         exact ⟨(upd q 22 70000), ka, kn, kc, by kernel_rfl, spoil_3_22 q kn 70000 (by unfold outOf; decide), zS160.ch⟩
       intro zh161
       have zh162 := eqF' zh161
       refine split_b (((Int.fdiv how (2 ^ 3)) % 4) == 1) ?_ ?_
       · intro zh163
         have zh164 := eqT' zh163
         refine slotI_ 51 .i64 ((Int.fdiv how (2 ^ 3)) % 4) 1 (by omega) ?_
         have zh165 : ((Int.fdiv how (2 ^ 3)) % 4) = 1 := by omega
         refine pure_ (.pointer (some ⟨zb1, 23, none⟩)) ?_
         refine store_ zS6 1 (.int .i64 70000) zb1 23 ?_
         intro zw166 zS167
         refine nil_ (blk_n (then_n (seq_ (reg_ ?_))))
         refine loadN_ zS167 1 56 (polC (upd q 23 70000) ka kn kc) zb1 0 ?_
         refine store_ zS167 0 (.agg (polC (upd q 23 70000) ka kn kc)) zb4 0 ?_
         intro zw168 zS169
         refine nil_ (then_n (wp_ret ?_))
         refine ret_ rfl (res_ [.cell 6 37] [.agg (polC (upd q 23 70000) ka kn kc)] (.agg (polC (upd q 23 70000) ka kn kc)) ⟨res_cellN zS169 0 56 zb4 0, trivial⟩) ?_
         obtain rfl : a = 3 := by omega
         exact ⟨(upd q 23 70000), ka, kn, kc, by kernel_rfl, spoil_3_23 q kn 70000 (by unfold outOf; decide), zS169.ch⟩
       intro zh170
       have zh171 := eqF' zh170
       refine split_b (((Int.fdiv how (2 ^ 3)) % 4) == 2) ?_ ?_
       · intro zh172
         have zh173 := eqT' zh172
         refine slotI_ 51 .i64 ((Int.fdiv how (2 ^ 3)) % 4) 2 (by omega) ?_
         have zh174 : ((Int.fdiv how (2 ^ 3)) % 4) = 2 := by omega
         refine pure_ (.pointer (some ⟨zb1, 24, none⟩)) ?_
         refine store_ zS6 1 (.int .i64 70000) zb1 24 ?_
         intro zw175 zS176
         refine nil_ (blk_n (then_n (seq_ (reg_ ?_))))
         refine loadN_ zS176 1 56 (polC (upd q 24 70000) ka kn kc) zb1 0 ?_
         refine store_ zS176 0 (.agg (polC (upd q 24 70000) ka kn kc)) zb4 0 ?_
         intro zw177 zS178
         refine nil_ (then_n (wp_ret ?_))
         refine ret_ rfl (res_ [.cell 6 37] [.agg (polC (upd q 24 70000) ka kn kc)] (.agg (polC (upd q 24 70000) ka kn kc)) ⟨res_cellN zS178 0 56 zb4 0, trivial⟩) ?_
         obtain rfl : a = 3 := by omega
         exact ⟨(upd q 24 70000), ka, kn, kc, by kernel_rfl, spoil_3_24 q kn 70000 (by unfold outOf; decide), zS178.ch⟩
       intro zh179
       have zh180 := eqF' zh179
       refine slotI_ 51 .i64 ((Int.fdiv how (2 ^ 3)) % 4) 3 (by omega) ?_
       have zh181 : ((Int.fdiv how (2 ^ 3)) % 4) = 3 := by omega
       refine pure_ (.pointer (some ⟨zb1, 25, none⟩)) ?_
       refine store_ zS6 1 (.int .i64 70000) zb1 25 ?_
       intro zw182 zS183
       refine nil_ (blk_n (then_n (seq_ (reg_ ?_))))
       refine loadN_ zS183 1 56 (polC (upd q 25 70000) ka kn kc) zb1 0 ?_
       refine store_ zS183 0 (.agg (polC (upd q 25 70000) ka kn kc)) zb4 0 ?_
       intro zw184 zS185
       refine nil_ (then_n (wp_ret ?_))
       refine ret_ rfl (res_ [.cell 6 37] [.agg (polC (upd q 25 70000) ka kn kc)] (.agg (polC (upd q 25 70000) ka kn kc)) ⟨res_cellN zS185 0 56 zb4 0, trivial⟩) ?_
       obtain rfl : a = 3 := by omega
       exact ⟨(upd q 25 70000), ka, kn, kc, by kernel_rfl, spoil_3_25 q kn 70000 (by unfold outOf; decide), zS185.ch⟩
     intro zh186
     have zh187 := eqF' zh186
     refine slotI_ 48 .i64 ((Int.fdiv how (2 ^ 1)) % 4) 3 (by omega) ?_
     have zh188 : ((Int.fdiv how (2 ^ 1)) % 4) = 3 := by omega
     refine pure_ (.pointer (some ⟨zb1, 26, none⟩)) ?_
     refine split_b (((Int.fdiv how (2 ^ 3)) % 4) == 0) ?_ ?_
     · intro zh189
       have zh190 := eqT' zh189
       refine slotI_ 51 .i64 ((Int.fdiv how (2 ^ 3)) % 4) 0 (by omega) ?_
       have zh191 : ((Int.fdiv how (2 ^ 3)) % 4) = 0 := by omega
       refine pure_ (.pointer (some ⟨zb1, 26, none⟩)) ?_
       refine store_ zS6 1 (.int .i64 70000) zb1 26 ?_
       intro zw192 zS193
       refine nil_ (blk_n (then_n (seq_ (reg_ ?_))))
       refine loadN_ zS193 1 56 (polC (upd q 26 70000) ka kn kc) zb1 0 ?_
       refine store_ zS193 0 (.agg (polC (upd q 26 70000) ka kn kc)) zb4 0 ?_
       intro zw194 zS195
       refine nil_ (then_n (wp_ret ?_))
       refine ret_ rfl (res_ [.cell 6 37] [.agg (polC (upd q 26 70000) ka kn kc)] (.agg (polC (upd q 26 70000) ka kn kc)) ⟨res_cellN zS195 0 56 zb4 0, trivial⟩) ?_
       obtain rfl : a = 3 := by omega
       exact ⟨(upd q 26 70000), ka, kn, kc, by kernel_rfl, spoil_3_26 q kn 70000 (by unfold outOf; decide), zS195.ch⟩
     intro zh196
     have zh197 := eqF' zh196
     refine split_b (((Int.fdiv how (2 ^ 3)) % 4) == 1) ?_ ?_
     · intro zh198
       have zh199 := eqT' zh198
       refine slotI_ 51 .i64 ((Int.fdiv how (2 ^ 3)) % 4) 1 (by omega) ?_
       have zh200 : ((Int.fdiv how (2 ^ 3)) % 4) = 1 := by omega
       refine pure_ (.pointer (some ⟨zb1, 27, none⟩)) ?_
       refine store_ zS6 1 (.int .i64 70000) zb1 27 ?_
       intro zw201 zS202
       refine nil_ (blk_n (then_n (seq_ (reg_ ?_))))
       refine loadN_ zS202 1 56 (polC (upd q 27 70000) ka kn kc) zb1 0 ?_
       refine store_ zS202 0 (.agg (polC (upd q 27 70000) ka kn kc)) zb4 0 ?_
       intro zw203 zS204
       refine nil_ (then_n (wp_ret ?_))
       refine ret_ rfl (res_ [.cell 6 37] [.agg (polC (upd q 27 70000) ka kn kc)] (.agg (polC (upd q 27 70000) ka kn kc)) ⟨res_cellN zS204 0 56 zb4 0, trivial⟩) ?_
       obtain rfl : a = 3 := by omega
       exact ⟨(upd q 27 70000), ka, kn, kc, by kernel_rfl, spoil_3_27 q kn 70000 (by unfold outOf; decide), zS204.ch⟩
     intro zh205
     have zh206 := eqF' zh205
     refine split_b (((Int.fdiv how (2 ^ 3)) % 4) == 2) ?_ ?_
     · intro zh207
       have zh208 := eqT' zh207
       refine slotI_ 51 .i64 ((Int.fdiv how (2 ^ 3)) % 4) 2 (by omega) ?_
       have zh209 : ((Int.fdiv how (2 ^ 3)) % 4) = 2 := by omega
       refine pure_ (.pointer (some ⟨zb1, 28, none⟩)) ?_
       refine store_ zS6 1 (.int .i64 70000) zb1 28 ?_
       intro zw210 zS211
       refine nil_ (blk_n (then_n (seq_ (reg_ ?_))))
       refine loadN_ zS211 1 56 (polC (upd q 28 70000) ka kn kc) zb1 0 ?_
       refine store_ zS211 0 (.agg (polC (upd q 28 70000) ka kn kc)) zb4 0 ?_
       intro zw212 zS213
       refine nil_ (then_n (wp_ret ?_))
       refine ret_ rfl (res_ [.cell 6 37] [.agg (polC (upd q 28 70000) ka kn kc)] (.agg (polC (upd q 28 70000) ka kn kc)) ⟨res_cellN zS213 0 56 zb4 0, trivial⟩) ?_
       obtain rfl : a = 3 := by omega
       exact ⟨(upd q 28 70000), ka, kn, kc, by kernel_rfl, spoil_3_28 q kn 70000 (by unfold outOf; decide), zS213.ch⟩
     intro zh214
     have zh215 := eqF' zh214
     refine slotI_ 51 .i64 ((Int.fdiv how (2 ^ 3)) % 4) 3 (by omega) ?_
     have zh216 : ((Int.fdiv how (2 ^ 3)) % 4) = 3 := by omega
     refine pure_ (.pointer (some ⟨zb1, 29, none⟩)) ?_
     refine store_ zS6 1 (.int .i64 70000) zb1 29 ?_
     intro zw217 zS218
     refine nil_ (blk_n (then_n (seq_ (reg_ ?_))))
     refine loadN_ zS218 1 56 (polC (upd q 29 70000) ka kn kc) zb1 0 ?_
     refine store_ zS218 0 (.agg (polC (upd q 29 70000) ka kn kc)) zb4 0 ?_
     intro zw219 zS220
     refine nil_ (then_n (wp_ret ?_))
     refine ret_ rfl (res_ [.cell 6 37] [.agg (polC (upd q 29 70000) ka kn kc)] (.agg (polC (upd q 29 70000) ka kn kc)) ⟨res_cellN zS220 0 56 zb4 0, trivial⟩) ?_
     obtain rfl : a = 3 := by omega
     exact ⟨(upd q 29 70000), ka, kn, kc, by kernel_rfl, spoil_3_29 q kn 70000 (by unfold outOf; decide), zS220.ch⟩
   intro zh221
   have zh222 := eqF' zh221
   refine seq_ (reg_ ?_)
   refine pure_ (.bool (a == 4)) ?_
   refine pure_ (.bool (a == 4)) ?_
   refine nil_ (then_n ?_)
   refine cond_S (a == 4) ?_ ?_
   · intro zh223
     have zh224 := eqT' zh223
     refine reg_ ?_
     refine pure_ (.int .i64 how) ?_
     refine pure_ (.int .i64 (Int.fdiv how (2 ^ 1))) ?_
     refine pureE_ (.int .i64 (bits .and .i64 (Int.fdiv how (2 ^ 1)) 3)) (.int .i64 ((Int.fdiv how (2 ^ 1)) % 4)) (congrArg _ (and_mask .i64 (Int.fdiv how (2 ^ 1)) 3 4 2 (by decide) (by decide) (by decide))) ?_
     refine pure_ (.int .i64 70000) ?_
     refine pure_ (.pointer (some ⟨zb1, 34, none⟩)) ?_
     refine split_b (((Int.fdiv how (2 ^ 1)) % 4) == 0) ?_ ?_
     · intro zh226
       have zh227 := eqT' zh226
       refine slotI_ 60 .i64 ((Int.fdiv how (2 ^ 1)) % 4) 0 (by omega) ?_
       have zh228 : ((Int.fdiv how (2 ^ 1)) % 4) = 0 := by omega
       refine pure_ (.pointer (some ⟨zb1, 34, none⟩)) ?_
       refine store_ zS6 1 (.int .i64 70000) zb1 34 ?_
       intro zw229 zS230
       refine nil_ (blk_n (then_n (seq_ (reg_ ?_))))
       refine loadN_ zS230 1 56 (polC (upd q 34 70000) ka kn kc) zb1 0 ?_
       refine store_ zS230 0 (.agg (polC (upd q 34 70000) ka kn kc)) zb4 0 ?_
       intro zw231 zS232
       refine nil_ (then_n (wp_ret ?_))
       refine ret_ rfl (res_ [.cell 6 37] [.agg (polC (upd q 34 70000) ka kn kc)] (.agg (polC (upd q 34 70000) ka kn kc)) ⟨res_cellN zS232 0 56 zb4 0, trivial⟩) ?_
       obtain rfl : a = 4 := by omega
       exact ⟨(upd q 34 70000), ka, kn, kc, by kernel_rfl, spoil_4_34 q kn 70000 (by unfold outOf; decide), zS232.ch⟩
     intro zh233
     have zh234 := eqF' zh233
     refine split_b (((Int.fdiv how (2 ^ 1)) % 4) == 1) ?_ ?_
     · intro zh235
       have zh236 := eqT' zh235
       refine slotI_ 60 .i64 ((Int.fdiv how (2 ^ 1)) % 4) 1 (by omega) ?_
       have zh237 : ((Int.fdiv how (2 ^ 1)) % 4) = 1 := by omega
       refine pure_ (.pointer (some ⟨zb1, 35, none⟩)) ?_
       refine store_ zS6 1 (.int .i64 70000) zb1 35 ?_
       intro zw238 zS239
       refine nil_ (blk_n (then_n (seq_ (reg_ ?_))))
       refine loadN_ zS239 1 56 (polC (upd q 35 70000) ka kn kc) zb1 0 ?_
       refine store_ zS239 0 (.agg (polC (upd q 35 70000) ka kn kc)) zb4 0 ?_
       intro zw240 zS241
       refine nil_ (then_n (wp_ret ?_))
       refine ret_ rfl (res_ [.cell 6 37] [.agg (polC (upd q 35 70000) ka kn kc)] (.agg (polC (upd q 35 70000) ka kn kc)) ⟨res_cellN zS241 0 56 zb4 0, trivial⟩) ?_
       obtain rfl : a = 4 := by omega
       exact ⟨(upd q 35 70000), ka, kn, kc, by kernel_rfl, spoil_4_35 q kn 70000 (by unfold outOf; decide), zS241.ch⟩
     intro zh242
     have zh243 := eqF' zh242
     refine split_b (((Int.fdiv how (2 ^ 1)) % 4) == 2) ?_ ?_
     · intro zh244
       have zh245 := eqT' zh244
       refine slotI_ 60 .i64 ((Int.fdiv how (2 ^ 1)) % 4) 2 (by omega) ?_
       have zh246 : ((Int.fdiv how (2 ^ 1)) % 4) = 2 := by omega
       refine pure_ (.pointer (some ⟨zb1, 36, none⟩)) ?_
       refine store_ zS6 1 (.int .i64 70000) zb1 36 ?_
       intro zw247 zS248
       refine nil_ (blk_n (then_n (seq_ (reg_ ?_))))
       refine loadN_ zS248 1 56 (polC (upd q 36 70000) ka kn kc) zb1 0 ?_
       refine store_ zS248 0 (.agg (polC (upd q 36 70000) ka kn kc)) zb4 0 ?_
       intro zw249 zS250
       refine nil_ (then_n (wp_ret ?_))
       refine ret_ rfl (res_ [.cell 6 37] [.agg (polC (upd q 36 70000) ka kn kc)] (.agg (polC (upd q 36 70000) ka kn kc)) ⟨res_cellN zS250 0 56 zb4 0, trivial⟩) ?_
       obtain rfl : a = 4 := by omega
       exact ⟨(upd q 36 70000), ka, kn, kc, by kernel_rfl, spoil_4_36 q kn 70000 (by unfold outOf; decide), zS250.ch⟩
     intro zh251
     have zh252 := eqF' zh251
     refine slotI_ 60 .i64 ((Int.fdiv how (2 ^ 1)) % 4) 3 (by omega) ?_
     have zh253 : ((Int.fdiv how (2 ^ 1)) % 4) = 3 := by omega
     refine pure_ (.pointer (some ⟨zb1, 37, none⟩)) ?_
     refine store_ zS6 1 (.int .i64 70000) zb1 37 ?_
     intro zw254 zS255
     refine nil_ (blk_n (then_n (seq_ (reg_ ?_))))
     refine loadN_ zS255 1 56 (polC (upd q 37 70000) ka kn kc) zb1 0 ?_
     refine store_ zS255 0 (.agg (polC (upd q 37 70000) ka kn kc)) zb4 0 ?_
     intro zw256 zS257
     refine nil_ (then_n (wp_ret ?_))
     refine ret_ rfl (res_ [.cell 6 37] [.agg (polC (upd q 37 70000) ka kn kc)] (.agg (polC (upd q 37 70000) ka kn kc)) ⟨res_cellN zS257 0 56 zb4 0, trivial⟩) ?_
     obtain rfl : a = 4 := by omega
     exact ⟨(upd q 37 70000), ka, kn, kc, by kernel_rfl, spoil_4_37 q kn 70000 (by unfold outOf; decide), zS257.ch⟩
   intro zh258
   have zh259 := eqF' zh258
   refine seq_ (reg_ ?_)
   refine pure_ (.bool (a == 5)) ?_
   refine pure_ (.bool (a == 5)) ?_
   refine nil_ (then_n ?_)
   refine cond_S (a == 5) ?_ ?_
   · intro zh260
     have zh261 := eqT' zh260
     refine reg_ ?_
     refine pure_ (.int .i64 70000) ?_
     refine pure_ (.pointer (some ⟨zb1, 39, none⟩)) ?_
     refine store_ zS6 1 (.int .i64 70000) zb1 39 ?_
     intro zw262 zS263
     refine nil_ (blk_n (then_n (seq_ (reg_ ?_))))
     refine loadN_ zS263 1 56 (polC (upd q 39 70000) ka kn kc) zb1 0 ?_
     refine store_ zS263 0 (.agg (polC (upd q 39 70000) ka kn kc)) zb4 0 ?_
     intro zw264 zS265
     refine nil_ (then_n (wp_ret ?_))
     refine ret_ rfl (res_ [.cell 6 37] [.agg (polC (upd q 39 70000) ka kn kc)] (.agg (polC (upd q 39 70000) ka kn kc)) ⟨res_cellN zS265 0 56 zb4 0, trivial⟩) ?_
     obtain rfl : a = 5 := by omega
     exact ⟨(upd q 39 70000), ka, kn, kc, by kernel_rfl, spoil_5_39 q kn 70000 (by unfold outOf; decide), zS265.ch⟩
   intro zh266
   have zh267 := eqF' zh266
   refine seq_ (reg_ ?_)
   refine pure_ (.bool (a == 6)) ?_
   refine pure_ (.bool (a == 6)) ?_
   refine nil_ (then_n ?_)
   refine cond_S (a == 6) ?_ ?_
   · intro zh268
     have zh269 := eqT' zh268
     refine reg_ ?_
     refine pure_ (.int .i64 70000) ?_
     refine pure_ (.pointer (some ⟨zb1, 43, none⟩)) ?_
     refine store_ zS6 1 (.int .i64 70000) zb1 43 ?_
     intro zw270 zS271
     refine nil_ (blk_n (then_n (seq_ (reg_ ?_))))
     refine loadN_ zS271 1 56 (polC (upd q 43 70000) ka kn kc) zb1 0 ?_
     refine store_ zS271 0 (.agg (polC (upd q 43 70000) ka kn kc)) zb4 0 ?_
     intro zw272 zS273
     refine nil_ (then_n (wp_ret ?_))
     refine ret_ rfl (res_ [.cell 6 37] [.agg (polC (upd q 43 70000) ka kn kc)] (.agg (polC (upd q 43 70000) ka kn kc)) ⟨res_cellN zS273 0 56 zb4 0, trivial⟩) ?_
     obtain rfl : a = 6 := by omega
     exact ⟨(upd q 43 70000), ka, kn, kc, by kernel_rfl, spoil_6_43 q kn 70000 (by unfold outOf; decide), zS273.ch⟩
   intro zh274
   have zh275 := eqF' zh274
   refine seq_ (reg_ ?_)
   refine pure_ (.bool (a == 7)) ?_
   refine pure_ (.bool (a == 7)) ?_
   refine nil_ (then_n ?_)
   refine cond_S (a == 7) ?_ ?_
   · intro zh276
     have zh277 := eqT' zh276
     refine reg_ ?_
     refine pure_ (.int .i64 70000) ?_
     refine pure_ (.pointer (some ⟨zb1, 46, none⟩)) ?_
     refine store_ zS6 1 (.int .i64 70000) zb1 46 ?_
     intro zw278 zS279
     refine nil_ (blk_n (then_n (seq_ (reg_ ?_))))
     refine loadN_ zS279 1 56 (polC (upd q 46 70000) ka kn kc) zb1 0 ?_
     refine store_ zS279 0 (.agg (polC (upd q 46 70000) ka kn kc)) zb4 0 ?_
     intro zw280 zS281
     refine nil_ (then_n (wp_ret ?_))
     refine ret_ rfl (res_ [.cell 6 37] [.agg (polC (upd q 46 70000) ka kn kc)] (.agg (polC (upd q 46 70000) ka kn kc)) ⟨res_cellN zS281 0 56 zb4 0, trivial⟩) ?_
     obtain rfl : a = 7 := by omega
     exact ⟨(upd q 46 70000), ka, kn, kc, by kernel_rfl, spoil_7_46 q kn 70000 (by unfold outOf; decide), zS281.ch⟩
   intro zh282
   have zh283 := eqF' zh282
   refine seq_ (reg_ ?_)
   refine pure_ (.bool (a == 8)) ?_
   refine pure_ (.bool (a == 8)) ?_
   refine nil_ (then_n ?_)
   refine cond_S (a == 8) ?_ ?_
   · intro zh284
     have zh285 := eqT' zh284
     refine reg_ ?_
     refine pure_ (.int .i64 70000) ?_
     refine pure_ (.pointer (some ⟨zb1, 49, none⟩)) ?_
     refine store_ zS6 1 (.int .i64 70000) zb1 49 ?_
     intro zw286 zS287
     refine nil_ (blk_n (then_n (seq_ (reg_ ?_))))
     refine loadN_ zS287 1 56 (polC (upd q 49 70000) ka kn kc) zb1 0 ?_
     refine store_ zS287 0 (.agg (polC (upd q 49 70000) ka kn kc)) zb4 0 ?_
     intro zw288 zS289
     refine nil_ (then_n (wp_ret ?_))
     refine ret_ rfl (res_ [.cell 6 37] [.agg (polC (upd q 49 70000) ka kn kc)] (.agg (polC (upd q 49 70000) ka kn kc)) ⟨res_cellN zS289 0 56 zb4 0, trivial⟩) ?_
     obtain rfl : a = 8 := by omega
     exact ⟨(upd q 49 70000), ka, kn, kc, by kernel_rfl, spoil_8_49 q kn 70000 (by unfold outOf; decide), zS289.ch⟩
   intro zh290
   have zh291 := eqF' zh290
   refine seq_ (reg_ ?_)
   refine pure_ (.bool (a == 9)) ?_
   refine pure_ (.bool (a == 9)) ?_
   refine nil_ (then_n ?_)
   refine cond_S (a == 9) ?_ ?_
   · intro zh292
     have zh293 := eqT' zh292
     refine reg_ ?_
     refine pure_ (.int .i64 70000) ?_
     refine pure_ (.pointer (some ⟨zb1, 54, none⟩)) ?_
     refine store_ zS6 1 (.int .i64 70000) zb1 54 ?_
     intro zw294 zS295
     refine nil_ (blk_n (then_n (seq_ (reg_ ?_))))
     refine loadN_ zS295 1 56 (polC (upd q 54 70000) ka kn kc) zb1 0 ?_
     refine store_ zS295 0 (.agg (polC (upd q 54 70000) ka kn kc)) zb4 0 ?_
     intro zw296 zS297
     refine nil_ (then_n (wp_ret ?_))
     refine ret_ rfl (res_ [.cell 6 37] [.agg (polC (upd q 54 70000) ka kn kc)] (.agg (polC (upd q 54 70000) ka kn kc)) ⟨res_cellN zS297 0 56 zb4 0, trivial⟩) ?_
     obtain rfl : a = 9 := by omega
     exact ⟨(upd q 54 70000), ka, kn, kc, by kernel_rfl, spoil_9_54 q kn 70000 (by unfold outOf; decide), zS297.ch⟩
   intro zh298
   have zh299 := eqF' zh298
   refine reg_ ?_
   refine pure_ (.int .i64 70000) ?_
   refine pure_ (.pointer (some ⟨zb1, 55, none⟩)) ?_
   refine store_ zS6 1 (.int .i64 70000) zb1 55 ?_
   intro zw300 zS301
   refine nil_ (blk_n (then_n (seq_ (reg_ ?_))))
   refine loadN_ zS301 1 56 (polC (upd q 55 70000) ka kn kc) zb1 0 ?_
   refine store_ zS301 0 (.agg (polC (upd q 55 70000) ka kn kc)) zb4 0 ?_
   intro zw302 zS303
   refine nil_ (then_n (wp_ret ?_))
   refine ret_ rfl (res_ [.cell 6 37] [.agg (polC (upd q 55 70000) ka kn kc)] (.agg (polC (upd q 55 70000) ka kn kc)) ⟨res_cellN zS303 0 56 zb4 0, trivial⟩) ?_
   obtain rfl : a = 10 := by omega
   exact ⟨(upd q 55 70000), ka, kn, kc, by kernel_rfl, spoil_10_55 q kn 70000 (by unfold outOf; decide), zS303.ch⟩
 intro zh304
 have zh305 := eqF' zh304
 refine wp_skip (then_n (seq_ (seq_ (reg_ ?_))))
 refine pure_ (.int .i64 a) ?_
 refine nil_ (then_n (wp_block (seq_ (reg_ ?_))))
 refine pure_ (.bool (a == 0)) ?_
 refine pure_ (.bool (a == 0)) ?_
 refine nil_ (then_n ?_)
 refine cond_S (a == 0) ?_ ?_
 · intro zh306
   have zh307 := eqT' zh306
   refine reg_ ?_
   refine pure_ (.int .i64 how) ?_
   refine pureE_ (.int .i64 (bits .and .i64 how 2)) (.int .i64 (how / 2 % 2 * 2)) (congrArg _ (and2 _)) ?_
   refine pureE_ (.int .i64 (IntKind.i64.wrap (Int.tdiv (how / 2 % 2 * 2) 2))) (.int .i64 (how / 2 % 2)) (congrArg _ (quo2 _)) ?_
   refine sum_ .i64 (1 + (how / 2 % 2)) (IntWalk.i64_in _ (by omega)) ?_
   refine pure_ (.pointer (some ⟨zb1, 0, none⟩)) ?_
   refine pure_ (.pointer (some ⟨zb1, 3, none⟩)) ?_
   refine load1_ zS6 1 (.int .i64 (q 3)) zb1 3 ?_
   refine pure_ (.pointer (some ⟨zb1, 0, none⟩)) ?_
   refine split_b ((1 + (how / 2 % 2)) == 1) ?_ ?_
   · intro zh308
     have zh309 := eqT' zh308
     refine slotI_ 21 .i64 (1 + (how / 2 % 2)) 1 (by omega) ?_
     have zh310 : (1 + (how / 2 % 2)) = 1 := by omega
     refine pure_ (.pointer (some ⟨zb1, 1, none⟩)) ?_
     refine store_ zS6 1 (.int .i64 (q 3)) zb1 1 ?_
     intro zw311 zS312
     refine nil_ (blk_n (then_n (seq_ (reg_ ?_))))
     refine loadN_ zS312 1 56 (polC (upd q 1 (q 3)) ka kn kc) zb1 0 ?_
     refine store_ zS312 0 (.agg (polC (upd q 1 (q 3)) ka kn kc)) zb4 0 ?_
     intro zw313 zS314
     refine nil_ (then_n (wp_ret ?_))
     refine ret_ rfl (res_ [.cell 6 37] [.agg (polC (upd q 1 (q 3)) ka kn kc)] (.agg (polC (upd q 1 (q 3)) ka kn kc)) ⟨res_cellN zS314 0 56 zb4 0, trivial⟩) ?_
     obtain rfl : a = 0 := by omega
     exact ⟨(upd q 1 (q 3)), ka, kn, kc, by kernel_rfl, spoil_0_1 q kn, zS314.ch⟩
   intro zh315
   have zh316 := eqF' zh315
   refine slotI_ 21 .i64 (1 + (how / 2 % 2)) 2 (by omega) ?_
   have zh317 : (1 + (how / 2 % 2)) = 2 := by omega
   refine pure_ (.pointer (some ⟨zb1, 2, none⟩)) ?_
   refine store_ zS6 1 (.int .i64 (q 3)) zb1 2 ?_
   intro zw318 zS319
   refine nil_ (blk_n (then_n (seq_ (reg_ ?_))))
   refine loadN_ zS319 1 56 (polC (upd q 2 (q 3)) ka kn kc) zb1 0 ?_
   refine store_ zS319 0 (.agg (polC (upd q 2 (q 3)) ka kn kc)) zb4 0 ?_
   intro zw320 zS321
   refine nil_ (then_n (wp_ret ?_))
   refine ret_ rfl (res_ [.cell 6 37] [.agg (polC (upd q 2 (q 3)) ka kn kc)] (.agg (polC (upd q 2 (q 3)) ka kn kc)) ⟨res_cellN zS321 0 56 zb4 0, trivial⟩) ?_
   obtain rfl : a = 0 := by omega
   exact ⟨(upd q 2 (q 3)), ka, kn, kc, by kernel_rfl, spoil_0_2 q kn, zS321.ch⟩
 intro zh322
 have zh323 := eqF' zh322
 refine seq_ (reg_ ?_)
 refine pure_ (.bool (a == 1)) ?_
 refine pure_ (.bool (a == 1)) ?_
 refine nil_ (then_n ?_)
 refine cond_S (a == 1) ?_ ?_
 · intro zh324
   have zh325 := eqT' zh324
   refine seq_ (reg_ ?_)
   refine pure_ (.bool ((how % 2) == 1)) ?_
   refine nil_ (then_n ?_)
   refine cond_f ((how % 2) == 1) (zh304) ?_
   refine reg_ ?_
   refine pure_ (.int .i64 how) ?_
   refine pure_ (.int .i64 (Int.fdiv how (2 ^ 1))) ?_
   refine pureE_ (.int .i64 (bits .and .i64 (Int.fdiv how (2 ^ 1)) 1)) (.int .i64 ((Int.fdiv how (2 ^ 1)) % 2)) (congrArg _ (and_mask .i64 (Int.fdiv how (2 ^ 1)) 1 2 1 (by decide) (by decide) (by decide))) ?_
   refine new_ zS6 (fun b => .slice (some ⟨b, 0, none⟩) 65 65) (.cells #[.int .u8 0, .int .u8 0, .int .u8 0, .int .u8 0, .int .u8 0, .int .u8 0, .int .u8 0, .int .u8 0, .int .u8 0, .int .u8 0, .int .u8 0, .int .u8 0, .int .u8 0, .int .u8 0, .int .u8 0, .int .u8 0, .int .u8 0, .int .u8 0, .int .u8 0, .int .u8 0, .int .u8 0, .int .u8 0, .int .u8 0, .int .u8 0, .int .u8 0, .int .u8 0, .int .u8 0, .int .u8 0, .int .u8 0, .int .u8 0, .int .u8 0, .int .u8 0, .int .u8 0, .int .u8 0, .int .u8 0, .int .u8 0, .int .u8 0, .int .u8 0, .int .u8 0, .int .u8 0, .int .u8 0, .int .u8 0, .int .u8 0, .int .u8 0, .int .u8 0, .int .u8 0, .int .u8 0, .int .u8 0, .int .u8 0, .int .u8 0, .int .u8 0, .int .u8 0, .int .u8 0, .int .u8 0, .int .u8 0, .int .u8 0, .int .u8 0, .int .u8 0, .int .u8 0, .int .u8 0, .int .u8 0, .int .u8 0, .int .u8 0, .int .u8 0, .int .u8 0] 5) ?_
   intro zb327 zw328 zS329
   refine pure_ (.pointer (some ⟨zb1, 5, none⟩)) ?_
   refine split_b (((Int.fdiv how (2 ^ 1)) % 2) == 0) ?_ ?_
   · intro zh330
     have zh331 := eqT' zh330
     refine slotI_ 33 .i64 ((Int.fdiv how (2 ^ 1)) % 2) 0 (by omega) ?_
     have zh332 : ((Int.fdiv how (2 ^ 1)) % 2) = 0 := by omega
     refine pure_ (.pointer (some ⟨zb1, 5, none⟩)) ?_
     refine store_ zS329 2 (.slice (some ⟨zb327, 0, none⟩) 65 65) zb1 5 ?_
     intro zw333 zS334
     refine nil_ (blk_n (then_n (seq_ (reg_ ?_))))
     refine loadN_ zS334 2 56 (polC q (updf ka 0 (some ⟨zb327, 0, none⟩)) (updf kn 0 65) (updf kc 0 65)) zb1 0 ?_
     refine store_ zS334 1 (.agg (polC q (updf ka 0 (some ⟨zb327, 0, none⟩)) (updf kn 0 65) (updf kc 0 65))) zb4 0 ?_
     intro zw335 zS336
     refine nil_ (then_n (wp_ret ?_))
     refine ret_ rfl (res_ [.cell 6 37] [.agg (polC q (updf ka 0 (some ⟨zb327, 0, none⟩)) (updf kn 0 65) (updf kc 0 65))] (.agg (polC q (updf ka 0 (some ⟨zb327, 0, none⟩)) (updf kn 0 65) (updf kc 0 65))) ⟨res_cellN zS336 1 56 zb4 0, trivial⟩) ?_
     obtain rfl : a = 1 := by omega
     exact ⟨q, (updf ka 0 (some ⟨zb327, 0, none⟩)), (updf kn 0 65), (updf kc 0 65), by kernel_rfl, spoil_1_0 q kn, zS336.ch⟩
   intro zh337
   have zh338 := eqF' zh337
   refine slotI_ 33 .i64 ((Int.fdiv how (2 ^ 1)) % 2) 1 (by omega) ?_
   have zh339 : ((Int.fdiv how (2 ^ 1)) % 2) = 1 := by omega
   refine pure_ (.pointer (some ⟨zb1, 6, none⟩)) ?_
   refine store_ zS329 2 (.slice (some ⟨zb327, 0, none⟩) 65 65) zb1 6 ?_
   intro zw340 zS341
   refine nil_ (blk_n (then_n (seq_ (reg_ ?_))))
   refine loadN_ zS341 2 56 (polC q (updf ka 1 (some ⟨zb327, 0, none⟩)) (updf kn 1 65) (updf kc 1 65)) zb1 0 ?_
   refine store_ zS341 1 (.agg (polC q (updf ka 1 (some ⟨zb327, 0, none⟩)) (updf kn 1 65) (updf kc 1 65))) zb4 0 ?_
   intro zw342 zS343
   refine nil_ (then_n (wp_ret ?_))
   refine ret_ rfl (res_ [.cell 6 37] [.agg (polC q (updf ka 1 (some ⟨zb327, 0, none⟩)) (updf kn 1 65) (updf kc 1 65))] (.agg (polC q (updf ka 1 (some ⟨zb327, 0, none⟩)) (updf kn 1 65) (updf kc 1 65))) ⟨res_cellN zS343 1 56 zb4 0, trivial⟩) ?_
   obtain rfl : a = 1 := by omega
   exact ⟨q, (updf ka 1 (some ⟨zb327, 0, none⟩)), (updf kn 1 65), (updf kc 1 65), by kernel_rfl, spoil_1_1 q kn, zS343.ch⟩
 intro zh344
 have zh345 := eqF' zh344
 refine seq_ (reg_ ?_)
 refine pure_ (.bool (a == 2)) ?_
 refine pure_ (.bool (a == 2)) ?_
 refine nil_ (then_n ?_)
 refine cond_S (a == 2) ?_ ?_
 · intro zh346
   have zh347 := eqT' zh346
   refine reg_ ?_
   refine pure_ (.int .i64 how) ?_
   refine pure_ (.int .i64 (Int.fdiv how (2 ^ 1))) ?_
   refine pureE_ (.int .i64 (bits .and .i64 (Int.fdiv how (2 ^ 1)) 3)) (.int .i64 ((Int.fdiv how (2 ^ 1)) % 4)) (congrArg _ (and_mask .i64 (Int.fdiv how (2 ^ 1)) 3 4 2 (by decide) (by decide) (by decide))) ?_
   refine pure_ (.pointer (some ⟨zb1, 9, none⟩)) ?_
   refine split_b (((Int.fdiv how (2 ^ 1)) % 4) == 0) ?_ ?_
   · intro zh349
     have zh350 := eqT' zh349
     refine slotI_ 41 .i64 ((Int.fdiv how (2 ^ 1)) % 4) 0 (by omega) ?_
     have zh351 : ((Int.fdiv how (2 ^ 1)) % 4) = 0 := by omega
     refine pure_ (.pointer (some ⟨zb1, 9, none⟩)) ?_
     refine store_ zS6 1 (.int .i64 3) zb1 9 ?_
     intro zw352 zS353
     refine nil_ (blk_n (then_n (seq_ (reg_ ?_))))
     refine loadN_ zS353 1 56 (polC (upd q 9 3) ka kn kc) zb1 0 ?_
     refine store_ zS353 0 (.agg (polC (upd q 9 3) ka kn kc)) zb4 0 ?_
     intro zw354 zS355
     refine nil_ (then_n (wp_ret ?_))
     refine ret_ rfl (res_ [.cell 6 37] [.agg (polC (upd q 9 3) ka kn kc)] (.agg (polC (upd q 9 3) ka kn kc)) ⟨res_cellN zS355 0 56 zb4 0, trivial⟩) ?_
     obtain rfl : a = 2 := by omega
     exact ⟨(upd q 9 3), ka, kn, kc, by kernel_rfl, spoil_2_9 q kn, zS355.ch⟩
   intro zh356
   have zh357 := eqF' zh356
   refine split_b (((Int.fdiv how (2 ^ 1)) % 4) == 1) ?_ ?_
   · intro zh358
     have zh359 := eqT' zh358
     refine slotI_ 41 .i64 ((Int.fdiv how (2 ^ 1)) % 4) 1 (by omega) ?_
     have zh360 : ((Int.fdiv how (2 ^ 1)) % 4) = 1 := by omega
     refine pure_ (.pointer (some ⟨zb1, 10, none⟩)) ?_
     refine store_ zS6 1 (.int .i64 3) zb1 10 ?_
     intro zw361 zS362
     refine nil_ (blk_n (then_n (seq_ (reg_ ?_))))
     refine loadN_ zS362 1 56 (polC (upd q 10 3) ka kn kc) zb1 0 ?_
     refine store_ zS362 0 (.agg (polC (upd q 10 3) ka kn kc)) zb4 0 ?_
     intro zw363 zS364
     refine nil_ (then_n (wp_ret ?_))
     refine ret_ rfl (res_ [.cell 6 37] [.agg (polC (upd q 10 3) ka kn kc)] (.agg (polC (upd q 10 3) ka kn kc)) ⟨res_cellN zS364 0 56 zb4 0, trivial⟩) ?_
     obtain rfl : a = 2 := by omega
     exact ⟨(upd q 10 3), ka, kn, kc, by kernel_rfl, spoil_2_10 q kn, zS364.ch⟩
   intro zh365
   have zh366 := eqF' zh365
   refine split_b (((Int.fdiv how (2 ^ 1)) % 4) == 2) ?_ ?_
   · intro zh367
     have zh368 := eqT' zh367
     refine slotI_ 41 .i64 ((Int.fdiv how (2 ^ 1)) % 4) 2 (by omega) ?_
     have zh369 : ((Int.fdiv how (2 ^ 1)) % 4) = 2 := by omega
     refine pure_ (.pointer (some ⟨zb1, 11, none⟩)) ?_
     refine store_ zS6 1 (.int .i64 3) zb1 11 ?_
     intro zw370 zS371
     refine nil_ (blk_n (then_n (seq_ (reg_ ?_))))
     refine loadN_ zS371 1 56 (polC (upd q 11 3) ka kn kc) zb1 0 ?_
     refine store_ zS371 0 (.agg (polC (upd q 11 3) ka kn kc)) zb4 0 ?_
     intro zw372 zS373
     refine nil_ (then_n (wp_ret ?_))
     refine ret_ rfl (res_ [.cell 6 37] [.agg (polC (upd q 11 3) ka kn kc)] (.agg (polC (upd q 11 3) ka kn kc)) ⟨res_cellN zS373 0 56 zb4 0, trivial⟩) ?_
     obtain rfl : a = 2 := by omega
     exact ⟨(upd q 11 3), ka, kn, kc, by kernel_rfl, spoil_2_11 q kn, zS373.ch⟩
   intro zh374
   have zh375 := eqF' zh374
   refine slotI_ 41 .i64 ((Int.fdiv how (2 ^ 1)) % 4) 3 (by omega) ?_
   have zh376 : ((Int.fdiv how (2 ^ 1)) % 4) = 3 := by omega
   refine pure_ (.pointer (some ⟨zb1, 12, none⟩)) ?_
   refine store_ zS6 1 (.int .i64 3) zb1 12 ?_
   intro zw377 zS378
   refine nil_ (blk_n (then_n (seq_ (reg_ ?_))))
   refine loadN_ zS378 1 56 (polC (upd q 12 3) ka kn kc) zb1 0 ?_
   refine store_ zS378 0 (.agg (polC (upd q 12 3) ka kn kc)) zb4 0 ?_
   intro zw379 zS380
   refine nil_ (then_n (wp_ret ?_))
   refine ret_ rfl (res_ [.cell 6 37] [.agg (polC (upd q 12 3) ka kn kc)] (.agg (polC (upd q 12 3) ka kn kc)) ⟨res_cellN zS380 0 56 zb4 0, trivial⟩) ?_
   obtain rfl : a = 2 := by omega
   exact ⟨(upd q 12 3), ka, kn, kc, by kernel_rfl, spoil_2_12 q kn, zS380.ch⟩
 intro zh381
 have zh382 := eqF' zh381
 refine seq_ (reg_ ?_)
 refine pure_ (.bool (a == 3)) ?_
 refine pure_ (.bool (a == 3)) ?_
 refine nil_ (then_n ?_)
 refine cond_S (a == 3) ?_ ?_
 · intro zh383
   have zh384 := eqT' zh383
   refine reg_ ?_
   refine pure_ (.int .i64 how) ?_
   refine pure_ (.int .i64 (Int.fdiv how (2 ^ 1))) ?_
   refine pureE_ (.int .i64 (bits .and .i64 (Int.fdiv how (2 ^ 1)) 3)) (.int .i64 ((Int.fdiv how (2 ^ 1)) % 4)) (congrArg _ (and_mask .i64 (Int.fdiv how (2 ^ 1)) 3 4 2 (by decide) (by decide) (by decide))) ?_
   refine pure_ (.int .i64 how) ?_
   refine pure_ (.int .i64 (Int.fdiv how (2 ^ 3))) ?_
   refine pureE_ (.int .i64 (bits .and .i64 (Int.fdiv how (2 ^ 3)) 3)) (.int .i64 ((Int.fdiv how (2 ^ 3)) % 4)) (congrArg _ (and_mask .i64 (Int.fdiv how (2 ^ 3)) 3 4 2 (by decide) (by decide) (by decide))) ?_
   refine pure_ (.int .i64 (-1)) ?_
   refine pure_ (.pointer (some ⟨zb1, 14, none⟩)) ?_
   refine split_b (((Int.fdiv how (2 ^ 1)) % 4) == 0) ?_ ?_
   · intro zh387
     have zh388 := eqT' zh387
     refine slotI_ 48 .i64 ((Int.fdiv how (2 ^ 1)) % 4) 0 (by omega) ?_
     have zh389 : ((Int.fdiv how (2 ^ 1)) % 4) = 0 := by omega
     refine pure_ (.pointer (some ⟨zb1, 14, none⟩)) ?_
     refine split_b (((Int.fdiv how (2 ^ 3)) % 4) == 0) ?_ ?_
     · intro zh390
       have zh391 := eqT' zh390
       refine slotI_ 51 .i64 ((Int.fdiv how (2 ^ 3)) % 4) 0 (by omega) ?_
       have zh392 : ((Int.fdiv how (2 ^ 3)) % 4) = 0 := by omega
       refine pure_ (.pointer (some ⟨zb1, 14, none⟩)) ?_
       refine store_ zS6 1 (.int .i64 (-1)) zb1 14 ?_
       intro zw393 zS394
       refine nil_ (blk_n (then_n (seq_ (reg_ ?_))))
       refine loadN_ zS394 1 56 (polC (upd q 14 (-1)) ka kn kc) zb1 0 ?_
       refine store_ zS394 0 (.agg (polC (upd q 14 (-1)) ka kn kc)) zb4 0 ?_
       intro zw395 zS396
       refine nil_ (then_n (wp_ret ?_))
       refine ret_ rfl (res_ [.cell 6 37] [.agg (polC (upd q 14 (-1)) ka kn kc)] (.agg (polC (upd q 14 (-1)) ka kn kc)) ⟨res_cellN zS396 0 56 zb4 0, trivial⟩) ?_
       obtain rfl : a = 3 := by omega
       exact ⟨(upd q 14 (-1)), ka, kn, kc, by kernel_rfl, spoil_3_14 q kn (-1) (by unfold outOf; decide), zS396.ch⟩
     intro zh397
     have zh398 := eqF' zh397
     refine split_b (((Int.fdiv how (2 ^ 3)) % 4) == 1) ?_ ?_
     · intro zh399
       have zh400 := eqT' zh399
       refine slotI_ 51 .i64 ((Int.fdiv how (2 ^ 3)) % 4) 1 (by omega) ?_
       have zh401 : ((Int.fdiv how (2 ^ 3)) % 4) = 1 := by omega
       refine pure_ (.pointer (some ⟨zb1, 15, none⟩)) ?_
       refine store_ zS6 1 (.int .i64 (-1)) zb1 15 ?_
       intro zw402 zS403
       refine nil_ (blk_n (then_n (seq_ (reg_ ?_))))
       refine loadN_ zS403 1 56 (polC (upd q 15 (-1)) ka kn kc) zb1 0 ?_
       refine store_ zS403 0 (.agg (polC (upd q 15 (-1)) ka kn kc)) zb4 0 ?_
       intro zw404 zS405
       refine nil_ (then_n (wp_ret ?_))
       refine ret_ rfl (res_ [.cell 6 37] [.agg (polC (upd q 15 (-1)) ka kn kc)] (.agg (polC (upd q 15 (-1)) ka kn kc)) ⟨res_cellN zS405 0 56 zb4 0, trivial⟩) ?_
       obtain rfl : a = 3 := by omega
       exact ⟨(upd q 15 (-1)), ka, kn, kc, by kernel_rfl, spoil_3_15 q kn (-1) (by unfold outOf; decide), zS405.ch⟩
     intro zh406
     have zh407 := eqF' zh406
     refine split_b (((Int.fdiv how (2 ^ 3)) % 4) == 2) ?_ ?_
     · intro zh408
       have zh409 := eqT' zh408
       refine slotI_ 51 .i64 ((Int.fdiv how (2 ^ 3)) % 4) 2 (by omega) ?_
       have zh410 : ((Int.fdiv how (2 ^ 3)) % 4) = 2 := by omega
       refine pure_ (.pointer (some ⟨zb1, 16, none⟩)) ?_
       refine store_ zS6 1 (.int .i64 (-1)) zb1 16 ?_
       intro zw411 zS412
       refine nil_ (blk_n (then_n (seq_ (reg_ ?_))))
       refine loadN_ zS412 1 56 (polC (upd q 16 (-1)) ka kn kc) zb1 0 ?_
       refine store_ zS412 0 (.agg (polC (upd q 16 (-1)) ka kn kc)) zb4 0 ?_
       intro zw413 zS414
       refine nil_ (then_n (wp_ret ?_))
       refine ret_ rfl (res_ [.cell 6 37] [.agg (polC (upd q 16 (-1)) ka kn kc)] (.agg (polC (upd q 16 (-1)) ka kn kc)) ⟨res_cellN zS414 0 56 zb4 0, trivial⟩) ?_
       obtain rfl : a = 3 := by omega
       exact ⟨(upd q 16 (-1)), ka, kn, kc, by kernel_rfl, spoil_3_16 q kn (-1) (by unfold outOf; decide), zS414.ch⟩
     intro zh415
     have zh416 := eqF' zh415
     refine slotI_ 51 .i64 ((Int.fdiv how (2 ^ 3)) % 4) 3 (by omega) ?_
     have zh417 : ((Int.fdiv how (2 ^ 3)) % 4) = 3 := by omega
     refine pure_ (.pointer (some ⟨zb1, 17, none⟩)) ?_
     refine store_ zS6 1 (.int .i64 (-1)) zb1 17 ?_
     intro zw418 zS419
     refine nil_ (blk_n (then_n (seq_ (reg_ ?_))))
     refine loadN_ zS419 1 56 (polC (upd q 17 (-1)) ka kn kc) zb1 0 ?_
     refine store_ zS419 0 (.agg (polC (upd q 17 (-1)) ka kn kc)) zb4 0 ?_
     intro zw420 zS421
     refine nil_ (then_n (wp_ret ?_))
     refine ret_ rfl (res_ [.cell 6 37] [.agg (polC (upd q 17 (-1)) ka kn kc)] (.agg (polC (upd q 17 (-1)) ka kn kc)) ⟨res_cellN zS421 0 56 zb4 0, trivial⟩) ?_
     obtain rfl : a = 3 := by omega
     exact ⟨(upd q 17 (-1)), ka, kn, kc, by kernel_rfl, spoil_3_17 q kn (-1) (by unfold outOf; decide), zS421.ch⟩
   intro zh422
   have zh423 := eqF' zh422
   refine split_b (((Int.fdiv how (2 ^ 1)) % 4) == 1) ?_ ?_
   · intro zh424
     have zh425 := eqT' zh424
     refine slotI_ 48 .i64 ((Int.fdiv how (2 ^ 1)) % 4) 1 (by omega) ?_
     have zh426 : ((Int.fdiv how (2 ^ 1)) % 4) = 1 := by omega
     refine pure_ (.pointer (some ⟨zb1, 18, none⟩)) ?_
     refine split_b (((Int.fdiv how (2 ^ 3)) % 4) == 0) ?_ ?_
     · intro zh427
       have zh428 := eqT' zh427
       refine slotI_ 51 .i64 ((Int.fdiv how (2 ^ 3)) % 4) 0 (by omega) ?_
       have zh429 : ((Int.fdiv how (2 ^ 3)) % 4) = 0 := by omega
       refine pure_ (.pointer (some ⟨zb1, 18, none⟩)) ?_
       refine store_ zS6 1 (.int .i64 (-1)) zb1 18 ?_
       intro zw430 zS431
       refine nil_ (blk_n (then_n (seq_ (reg_ ?_))))
       refine loadN_ zS431 1 56 (polC (upd q 18 (-1)) ka kn kc) zb1 0 ?_
       refine store_ zS431 0 (.agg (polC (upd q 18 (-1)) ka kn kc)) zb4 0 ?_
       intro zw432 zS433
       refine nil_ (then_n (wp_ret ?_))
       refine ret_ rfl (res_ [.cell 6 37] [.agg (polC (upd q 18 (-1)) ka kn kc)] (.agg (polC (upd q 18 (-1)) ka kn kc)) ⟨res_cellN zS433 0 56 zb4 0, trivial⟩) ?_
       obtain rfl : a = 3 := by omega
       exact ⟨(upd q 18 (-1)), ka, kn, kc, by kernel_rfl, spoil_3_18 q kn (-1) (by unfold outOf; decide), zS433.ch⟩
     intro zh434
     have zh435 := eqF' zh434
     refine split_b (((Int.fdiv how (2 ^ 3)) % 4) == 1) ?_ ?_
     · intro zh436
       have zh437 := eqT' zh436
       refine slotI_ 51 .i64 ((Int.fdiv how (2 ^ 3)) % 4) 1 (by omega) ?_
       have zh438 : ((Int.fdiv how (2 ^ 3)) % 4) = 1 := by omega
       refine pure_ (.pointer (some ⟨zb1, 19, none⟩)) ?_
       refine store_ zS6 1 (.int .i64 (-1)) zb1 19 ?_
       intro zw439 zS440
       refine nil_ (blk_n (then_n (seq_ (reg_ ?_))))
       refine loadN_ zS440 1 56 (polC (upd q 19 (-1)) ka kn kc) zb1 0 ?_
       refine store_ zS440 0 (.agg (polC (upd q 19 (-1)) ka kn kc)) zb4 0 ?_
       intro zw441 zS442
       refine nil_ (then_n (wp_ret ?_))
       refine ret_ rfl (res_ [.cell 6 37] [.agg (polC (upd q 19 (-1)) ka kn kc)] (.agg (polC (upd q 19 (-1)) ka kn kc)) ⟨res_cellN zS442 0 56 zb4 0, trivial⟩) ?_
       obtain rfl : a = 3 := by omega
       exact ⟨(upd q 19 (-1)), ka, kn, kc, by kernel_rfl, spoil_3_19 q kn (-1) (by unfold outOf; decide), zS442.ch⟩
     intro zh443
     have zh444 := eqF' zh443
     refine split_b (((Int.fdiv how (2 ^ 3)) % 4) == 2) ?_ ?_
     · intro zh445
       have zh446 := eqT' zh445
       refine slotI_ 51 .i64 ((Int.fdiv how (2 ^ 3)) % 4) 2 (by omega) ?_
       have zh447 : ((Int.fdiv how (2 ^ 3)) % 4) = 2 := by omega
       refine pure_ (.pointer (some ⟨zb1, 20, none⟩)) ?_
       refine store_ zS6 1 (.int .i64 (-1)) zb1 20 ?_
       intro zw448 zS449
       refine nil_ (blk_n (then_n (seq_ (reg_ ?_))))
       refine loadN_ zS449 1 56 (polC (upd q 20 (-1)) ka kn kc) zb1 0 ?_
       refine store_ zS449 0 (.agg (polC (upd q 20 (-1)) ka kn kc)) zb4 0 ?_
       intro zw450 zS451
       refine nil_ (then_n (wp_ret ?_))
       refine ret_ rfl (res_ [.cell 6 37] [.agg (polC (upd q 20 (-1)) ka kn kc)] (.agg (polC (upd q 20 (-1)) ka kn kc)) ⟨res_cellN zS451 0 56 zb4 0, trivial⟩) ?_
       obtain rfl : a = 3 := by omega
       exact ⟨(upd q 20 (-1)), ka, kn, kc, by kernel_rfl, spoil_3_20 q kn (-1) (by unfold outOf; decide), zS451.ch⟩
     intro zh452
     have zh453 := eqF' zh452
     refine slotI_ 51 .i64 ((Int.fdiv how (2 ^ 3)) % 4) 3 (by omega) ?_
     have zh454 : ((Int.fdiv how (2 ^ 3)) % 4) = 3 := by omega
     refine pure_ (.pointer (some ⟨zb1, 21, none⟩)) ?_
     refine store_ zS6 1 (.int .i64 (-1)) zb1 21 ?_
     intro zw455 zS456
     refine nil_ (blk_n (then_n (seq_ (reg_ ?_))))
     refine loadN_ zS456 1 56 (polC (upd q 21 (-1)) ka kn kc) zb1 0 ?_
     refine store_ zS456 0 (.agg (polC (upd q 21 (-1)) ka kn kc)) zb4 0 ?_
     intro zw457 zS458
     refine nil_ (then_n (wp_ret ?_))
     refine ret_ rfl (res_ [.cell 6 37] [.agg (polC (upd q 21 (-1)) ka kn kc)] (.agg (polC (upd q 21 (-1)) ka kn kc)) ⟨res_cellN zS458 0 56 zb4 0, trivial⟩) ?_
     obtain rfl : a = 3 := by omega
     exact ⟨(upd q 21 (-1)), ka, kn, kc, by kernel_rfl, spoil_3_21 q kn (-1) (by unfold outOf; decide), zS458.ch⟩
   intro zh459
   have zh460 := eqF' zh459
   refine split_b (((Int.fdiv how (2 ^ 1)) % 4) == 2) ?_ ?_
   · intro zh461
     have zh462 := eqT' zh461
     refine slotI_ 48 .i64 ((Int.fdiv how (2 ^ 1)) % 4) 2 (by omega) ?_
     have zh463 : ((Int.fdiv how (2 ^ 1)) % 4) = 2 := by omega
     refine pure_ (.pointer (some ⟨zb1, 22, none⟩)) ?_
     refine split_b (((Int.fdiv how (2 ^ 3)) % 4) == 0) ?_ ?_
     · intro zh464
       have zh465 := eqT' zh464
       refine slotI_ 51 .i64 ((Int.fdiv how (2 ^ 3)) % 4) 0 (by omega) ?_
       have zh466 : ((Int.fdiv how (2 ^ 3)) % 4) = 0 := by omega
       refine pure_ (.pointer (some ⟨zb1, 22, none⟩)) ?_
       refine store_ zS6 1 (.int .i64 (-1)) zb1 22 ?_
       intro zw467 zS468
       refine nil_ (blk_n (then_n (seq_ (reg_ ?_))))
       refine loadN_ zS468 1 56 (polC (upd q 22 (-1)) ka kn kc) zb1 0 ?_
       refine store_ zS468 0 (.agg (polC (upd q 22 (-1)) ka kn kc)) zb4 0 ?_
       intro zw469 zS470
       refine nil_ (then_n (wp_ret ?_))
       refine ret_ rfl (res_ [.cell 6 37] [.agg (polC (upd q 22 (-1)) ka kn kc)] (.agg (polC (upd q 22 (-1)) ka kn kc)) ⟨res_cellN zS470 0 56 zb4 0, trivial⟩) ?_
       obtain rfl : a = 3 := by omega
       exact ⟨(upd q 22 (-1)), ka, kn, kc, by kernel_rfl, spoil_3_22 q kn (-1) (by unfold outOf; decide), zS470.ch⟩
     intro zh471
     have zh472 := eqF' zh471
     refine split_b (((Int.fdiv how (2 ^ 3)) % 4) == 1) ?_ ?_
     · intro zh473
       have zh474 := eqT' zh473
       refine slotI_ 51 .i64 ((Int.fdiv how (2 ^ 3)) % 4) 1 (by omega) ?_
       have zh475 : ((Int.fdiv how (2 ^ 3)) % 4) = 1 := by omega
       refine pure_ (.pointer (some ⟨zb1, 23, none⟩)) ?_
       refine store_ zS6 1 (.int .i64 (-1)) zb1 23 ?_
       intro zw476 zS477
       refine nil_ (blk_n (then_n (seq_ (reg_ ?_))))
       refine loadN_ zS477 1 56 (polC (upd q 23 (-1)) ka kn kc) zb1 0 ?_
       refine store_ zS477 0 (.agg (polC (upd q 23 (-1)) ka kn kc)) zb4 0 ?_
       intro zw478 zS479
       refine nil_ (then_n (wp_ret ?_))
       refine ret_ rfl (res_ [.cell 6 37] [.agg (polC (upd q 23 (-1)) ka kn kc)] (.agg (polC (upd q 23 (-1)) ka kn kc)) ⟨res_cellN zS479 0 56 zb4 0, trivial⟩) ?_
       obtain rfl : a = 3 := by omega
       exact ⟨(upd q 23 (-1)), ka, kn, kc, by kernel_rfl, spoil_3_23 q kn (-1) (by unfold outOf; decide), zS479.ch⟩
     intro zh480
     have zh481 := eqF' zh480
     refine split_b (((Int.fdiv how (2 ^ 3)) % 4) == 2) ?_ ?_
     · intro zh482
       have zh483 := eqT' zh482
       refine slotI_ 51 .i64 ((Int.fdiv how (2 ^ 3)) % 4) 2 (by omega) ?_
       have zh484 : ((Int.fdiv how (2 ^ 3)) % 4) = 2 := by omega
       refine pure_ (.pointer (some ⟨zb1, 24, none⟩)) ?_
       refine store_ zS6 1 (.int .i64 (-1)) zb1 24 ?_
       intro zw485 zS486
       refine nil_ (blk_n (then_n (seq_ (reg_ ?_))))
       refine loadN_ zS486 1 56 (polC (upd q 24 (-1)) ka kn kc) zb1 0 ?_
       refine store_ zS486 0 (.agg (polC (upd q 24 (-1)) ka kn kc)) zb4 0 ?_
       intro zw487 zS488
       refine nil_ (then_n (wp_ret ?_))
       refine ret_ rfl (res_ [.cell 6 37] [.agg (polC (upd q 24 (-1)) ka kn kc)] (.agg (polC (upd q 24 (-1)) ka kn kc)) ⟨res_cellN zS488 0 56 zb4 0, trivial⟩) ?_
       obtain rfl : a = 3 := by omega
       exact ⟨(upd q 24 (-1)), ka, kn, kc, by kernel_rfl, spoil_3_24 q kn (-1) (by unfold outOf; decide), zS488.ch⟩
     intro zh489
     have zh490 := eqF' zh489
     refine slotI_ 51 .i64 ((Int.fdiv how (2 ^ 3)) % 4) 3 (by omega) ?_
     have zh491 : ((Int.fdiv how (2 ^ 3)) % 4) = 3 := by omega
     refine pure_ (.pointer (some ⟨zb1, 25, none⟩)) ?_
     refine store_ zS6 1 (.int .i64 (-1)) zb1 25 ?_
     intro zw492 zS493
     refine nil_ (blk_n (then_n (seq_ (reg_ ?_))))
     refine loadN_ zS493 1 56 (polC (upd q 25 (-1)) ka kn kc) zb1 0 ?_
     refine store_ zS493 0 (.agg (polC (upd q 25 (-1)) ka kn kc)) zb4 0 ?_
     intro zw494 zS495
     refine nil_ (then_n (wp_ret ?_))
     refine ret_ rfl (res_ [.cell 6 37] [.agg (polC (upd q 25 (-1)) ka kn kc)] (.agg (polC (upd q 25 (-1)) ka kn kc)) ⟨res_cellN zS495 0 56 zb4 0, trivial⟩) ?_
     obtain rfl : a = 3 := by omega
     exact ⟨(upd q 25 (-1)), ka, kn, kc, by kernel_rfl, spoil_3_25 q kn (-1) (by unfold outOf; decide), zS495.ch⟩
   intro zh496
   have zh497 := eqF' zh496
   refine slotI_ 48 .i64 ((Int.fdiv how (2 ^ 1)) % 4) 3 (by omega) ?_
   have zh498 : ((Int.fdiv how (2 ^ 1)) % 4) = 3 := by omega
   refine pure_ (.pointer (some ⟨zb1, 26, none⟩)) ?_
   refine split_b (((Int.fdiv how (2 ^ 3)) % 4) == 0) ?_ ?_
   · intro zh499
     have zh500 := eqT' zh499
     refine slotI_ 51 .i64 ((Int.fdiv how (2 ^ 3)) % 4) 0 (by omega) ?_
     have zh501 : ((Int.fdiv how (2 ^ 3)) % 4) = 0 := by omega
     refine pure_ (.pointer (some ⟨zb1, 26, none⟩)) ?_
     refine store_ zS6 1 (.int .i64 (-1)) zb1 26 ?_
     intro zw502 zS503
     refine nil_ (blk_n (then_n (seq_ (reg_ ?_))))
     refine loadN_ zS503 1 56 (polC (upd q 26 (-1)) ka kn kc) zb1 0 ?_
     refine store_ zS503 0 (.agg (polC (upd q 26 (-1)) ka kn kc)) zb4 0 ?_
     intro zw504 zS505
     refine nil_ (then_n (wp_ret ?_))
     refine ret_ rfl (res_ [.cell 6 37] [.agg (polC (upd q 26 (-1)) ka kn kc)] (.agg (polC (upd q 26 (-1)) ka kn kc)) ⟨res_cellN zS505 0 56 zb4 0, trivial⟩) ?_
     obtain rfl : a = 3 := by omega
     exact ⟨(upd q 26 (-1)), ka, kn, kc, by kernel_rfl, spoil_3_26 q kn (-1) (by unfold outOf; decide), zS505.ch⟩
   intro zh506
   have zh507 := eqF' zh506
   refine split_b (((Int.fdiv how (2 ^ 3)) % 4) == 1) ?_ ?_
   · intro zh508
     have zh509 := eqT' zh508
     refine slotI_ 51 .i64 ((Int.fdiv how (2 ^ 3)) % 4) 1 (by omega) ?_
     have zh510 : ((Int.fdiv how (2 ^ 3)) % 4) = 1 := by omega
     refine pure_ (.pointer (some ⟨zb1, 27, none⟩)) ?_
     refine store_ zS6 1 (.int .i64 (-1)) zb1 27 ?_
     intro zw511 zS512
     refine nil_ (blk_n (then_n (seq_ (reg_ ?_))))
     refine loadN_ zS512 1 56 (polC (upd q 27 (-1)) ka kn kc) zb1 0 ?_
     refine store_ zS512 0 (.agg (polC (upd q 27 (-1)) ka kn kc)) zb4 0 ?_
     intro zw513 zS514
     refine nil_ (then_n (wp_ret ?_))
     refine ret_ rfl (res_ [.cell 6 37] [.agg (polC (upd q 27 (-1)) ka kn kc)] (.agg (polC (upd q 27 (-1)) ka kn kc)) ⟨res_cellN zS514 0 56 zb4 0, trivial⟩) ?_
     obtain rfl : a = 3 := by omega
     exact ⟨(upd q 27 (-1)), ka, kn, kc, by kernel_rfl, spoil_3_27 q kn (-1) (by unfold outOf; decide), zS514.ch⟩
   intro zh515
   have zh516 := eqF' zh515
   refine split_b (((Int.fdiv how (2 ^ 3)) % 4) == 2) ?_ ?_
   · intro zh517
     have zh518 := eqT' zh517
     refine slotI_ 51 .i64 ((Int.fdiv how (2 ^ 3)) % 4) 2 (by omega) ?_
     have zh519 : ((Int.fdiv how (2 ^ 3)) % 4) = 2 := by omega
     refine pure_ (.pointer (some ⟨zb1, 28, none⟩)) ?_
     refine store_ zS6 1 (.int .i64 (-1)) zb1 28 ?_
     intro zw520 zS521
     refine nil_ (blk_n (then_n (seq_ (reg_ ?_))))
     refine loadN_ zS521 1 56 (polC (upd q 28 (-1)) ka kn kc) zb1 0 ?_
     refine store_ zS521 0 (.agg (polC (upd q 28 (-1)) ka kn kc)) zb4 0 ?_
     intro zw522 zS523
     refine nil_ (then_n (wp_ret ?_))
     refine ret_ rfl (res_ [.cell 6 37] [.agg (polC (upd q 28 (-1)) ka kn kc)] (.agg (polC (upd q 28 (-1)) ka kn kc)) ⟨res_cellN zS523 0 56 zb4 0, trivial⟩) ?_
     obtain rfl : a = 3 := by omega
     exact ⟨(upd q 28 (-1)), ka, kn, kc, by kernel_rfl, spoil_3_28 q kn (-1) (by unfold outOf; decide), zS523.ch⟩
   intro zh524
   have zh525 := eqF' zh524
   refine slotI_ 51 .i64 ((Int.fdiv how (2 ^ 3)) % 4) 3 (by omega) ?_
   have zh526 : ((Int.fdiv how (2 ^ 3)) % 4) = 3 := by omega
   refine pure_ (.pointer (some ⟨zb1, 29, none⟩)) ?_
   refine store_ zS6 1 (.int .i64 (-1)) zb1 29 ?_
   intro zw527 zS528
   refine nil_ (blk_n (then_n (seq_ (reg_ ?_))))
   refine loadN_ zS528 1 56 (polC (upd q 29 (-1)) ka kn kc) zb1 0 ?_
   refine store_ zS528 0 (.agg (polC (upd q 29 (-1)) ka kn kc)) zb4 0 ?_
   intro zw529 zS530
   refine nil_ (then_n (wp_ret ?_))
   refine ret_ rfl (res_ [.cell 6 37] [.agg (polC (upd q 29 (-1)) ka kn kc)] (.agg (polC (upd q 29 (-1)) ka kn kc)) ⟨res_cellN zS530 0 56 zb4 0, trivial⟩) ?_
   obtain rfl : a = 3 := by omega
   exact ⟨(upd q 29 (-1)), ka, kn, kc, by kernel_rfl, spoil_3_29 q kn (-1) (by unfold outOf; decide), zS530.ch⟩
 intro zh531
 have zh532 := eqF' zh531
 refine seq_ (reg_ ?_)
 refine pure_ (.bool (a == 4)) ?_
 refine pure_ (.bool (a == 4)) ?_
 refine nil_ (then_n ?_)
 refine cond_S (a == 4) ?_ ?_
 · intro zh533
   have zh534 := eqT' zh533
   refine reg_ ?_
   refine pure_ (.int .i64 how) ?_
   refine pure_ (.int .i64 (Int.fdiv how (2 ^ 1))) ?_
   refine pureE_ (.int .i64 (bits .and .i64 (Int.fdiv how (2 ^ 1)) 3)) (.int .i64 ((Int.fdiv how (2 ^ 1)) % 4)) (congrArg _ (and_mask .i64 (Int.fdiv how (2 ^ 1)) 3 4 2 (by decide) (by decide) (by decide))) ?_
   refine pure_ (.int .i64 (-1)) ?_
   refine pure_ (.pointer (some ⟨zb1, 34, none⟩)) ?_
   refine split_b (((Int.fdiv how (2 ^ 1)) % 4) == 0) ?_ ?_
   · intro zh536
     have zh537 := eqT' zh536
     refine slotI_ 60 .i64 ((Int.fdiv how (2 ^ 1)) % 4) 0 (by omega) ?_
     have zh538 : ((Int.fdiv how (2 ^ 1)) % 4) = 0 := by omega
     refine pure_ (.pointer (some ⟨zb1, 34, none⟩)) ?_
     refine store_ zS6 1 (.int .i64 (-1)) zb1 34 ?_
     intro zw539 zS540
     refine nil_ (blk_n (then_n (seq_ (reg_ ?_))))
     refine loadN_ zS540 1 56 (polC (upd q 34 (-1)) ka kn kc) zb1 0 ?_
     refine store_ zS540 0 (.agg (polC (upd q 34 (-1)) ka kn kc)) zb4 0 ?_
     intro zw541 zS542
     refine nil_ (then_n (wp_ret ?_))
     refine ret_ rfl (res_ [.cell 6 37] [.agg (polC (upd q 34 (-1)) ka kn kc)] (.agg (polC (upd q 34 (-1)) ka kn kc)) ⟨res_cellN zS542 0 56 zb4 0, trivial⟩) ?_
     obtain rfl : a = 4 := by omega
     exact ⟨(upd q 34 (-1)), ka, kn, kc, by kernel_rfl, spoil_4_34 q kn (-1) (by unfold outOf; decide), zS542.ch⟩
   intro zh543
   have zh544 := eqF' zh543
   refine split_b (((Int.fdiv how (2 ^ 1)) % 4) == 1) ?_ ?_
   · intro zh545
     have zh546 := eqT' zh545
     refine slotI_ 60 .i64 ((Int.fdiv how (2 ^ 1)) % 4) 1 (by omega) ?_
     have zh547 : ((Int.fdiv how (2 ^ 1)) % 4) = 1 := by omega
     refine pure_ (.pointer (some ⟨zb1, 35, none⟩)) ?_
     refine store_ zS6 1 (.int .i64 (-1)) zb1 35 ?_
     intro zw548 zS549
     refine nil_ (blk_n (then_n (seq_ (reg_ ?_))))
     refine loadN_ zS549 1 56 (polC (upd q 35 (-1)) ka kn kc) zb1 0 ?_
     refine store_ zS549 0 (.agg (polC (upd q 35 (-1)) ka kn kc)) zb4 0 ?_
     intro zw550 zS551
     refine nil_ (then_n (wp_ret ?_))
     refine ret_ rfl (res_ [.cell 6 37] [.agg (polC (upd q 35 (-1)) ka kn kc)] (.agg (polC (upd q 35 (-1)) ka kn kc)) ⟨res_cellN zS551 0 56 zb4 0, trivial⟩) ?_
     obtain rfl : a = 4 := by omega
     exact ⟨(upd q 35 (-1)), ka, kn, kc, by kernel_rfl, spoil_4_35 q kn (-1) (by unfold outOf; decide), zS551.ch⟩
   intro zh552
   have zh553 := eqF' zh552
   refine split_b (((Int.fdiv how (2 ^ 1)) % 4) == 2) ?_ ?_
   · intro zh554
     have zh555 := eqT' zh554
     refine slotI_ 60 .i64 ((Int.fdiv how (2 ^ 1)) % 4) 2 (by omega) ?_
     have zh556 : ((Int.fdiv how (2 ^ 1)) % 4) = 2 := by omega
     refine pure_ (.pointer (some ⟨zb1, 36, none⟩)) ?_
     refine store_ zS6 1 (.int .i64 (-1)) zb1 36 ?_
     intro zw557 zS558
     refine nil_ (blk_n (then_n (seq_ (reg_ ?_))))
     refine loadN_ zS558 1 56 (polC (upd q 36 (-1)) ka kn kc) zb1 0 ?_
     refine store_ zS558 0 (.agg (polC (upd q 36 (-1)) ka kn kc)) zb4 0 ?_
     intro zw559 zS560
     refine nil_ (then_n (wp_ret ?_))
     refine ret_ rfl (res_ [.cell 6 37] [.agg (polC (upd q 36 (-1)) ka kn kc)] (.agg (polC (upd q 36 (-1)) ka kn kc)) ⟨res_cellN zS560 0 56 zb4 0, trivial⟩) ?_
     obtain rfl : a = 4 := by omega
     exact ⟨(upd q 36 (-1)), ka, kn, kc, by kernel_rfl, spoil_4_36 q kn (-1) (by unfold outOf; decide), zS560.ch⟩
   intro zh561
   have zh562 := eqF' zh561
   refine slotI_ 60 .i64 ((Int.fdiv how (2 ^ 1)) % 4) 3 (by omega) ?_
   have zh563 : ((Int.fdiv how (2 ^ 1)) % 4) = 3 := by omega
   refine pure_ (.pointer (some ⟨zb1, 37, none⟩)) ?_
   refine store_ zS6 1 (.int .i64 (-1)) zb1 37 ?_
   intro zw564 zS565
   refine nil_ (blk_n (then_n (seq_ (reg_ ?_))))
   refine loadN_ zS565 1 56 (polC (upd q 37 (-1)) ka kn kc) zb1 0 ?_
   refine store_ zS565 0 (.agg (polC (upd q 37 (-1)) ka kn kc)) zb4 0 ?_
   intro zw566 zS567
   refine nil_ (then_n (wp_ret ?_))
   refine ret_ rfl (res_ [.cell 6 37] [.agg (polC (upd q 37 (-1)) ka kn kc)] (.agg (polC (upd q 37 (-1)) ka kn kc)) ⟨res_cellN zS567 0 56 zb4 0, trivial⟩) ?_
   obtain rfl : a = 4 := by omega
   exact ⟨(upd q 37 (-1)), ka, kn, kc, by kernel_rfl, spoil_4_37 q kn (-1) (by unfold outOf; decide), zS567.ch⟩
 intro zh568
 have zh569 := eqF' zh568
 refine seq_ (reg_ ?_)
 refine pure_ (.bool (a == 5)) ?_
 refine pure_ (.bool (a == 5)) ?_
 refine nil_ (then_n ?_)
 refine cond_S (a == 5) ?_ ?_
 · intro zh570
   have zh571 := eqT' zh570
   refine reg_ ?_
   refine pure_ (.int .i64 (-1)) ?_
   refine pure_ (.pointer (some ⟨zb1, 39, none⟩)) ?_
   refine store_ zS6 1 (.int .i64 (-1)) zb1 39 ?_
   intro zw572 zS573
   refine nil_ (blk_n (then_n (seq_ (reg_ ?_))))
   refine loadN_ zS573 1 56 (polC (upd q 39 (-1)) ka kn kc) zb1 0 ?_
   refine store_ zS573 0 (.agg (polC (upd q 39 (-1)) ka kn kc)) zb4 0 ?_
   intro zw574 zS575
   refine nil_ (then_n (wp_ret ?_))
   refine ret_ rfl (res_ [.cell 6 37] [.agg (polC (upd q 39 (-1)) ka kn kc)] (.agg (polC (upd q 39 (-1)) ka kn kc)) ⟨res_cellN zS575 0 56 zb4 0, trivial⟩) ?_
   obtain rfl : a = 5 := by omega
   exact ⟨(upd q 39 (-1)), ka, kn, kc, by kernel_rfl, spoil_5_39 q kn (-1) (by unfold outOf; decide), zS575.ch⟩
 intro zh576
 have zh577 := eqF' zh576
 refine seq_ (reg_ ?_)
 refine pure_ (.bool (a == 6)) ?_
 refine pure_ (.bool (a == 6)) ?_
 refine nil_ (then_n ?_)
 refine cond_S (a == 6) ?_ ?_
 · intro zh578
   have zh579 := eqT' zh578
   refine reg_ ?_
   refine pure_ (.int .i64 (-1)) ?_
   refine pure_ (.pointer (some ⟨zb1, 43, none⟩)) ?_
   refine store_ zS6 1 (.int .i64 (-1)) zb1 43 ?_
   intro zw580 zS581
   refine nil_ (blk_n (then_n (seq_ (reg_ ?_))))
   refine loadN_ zS581 1 56 (polC (upd q 43 (-1)) ka kn kc) zb1 0 ?_
   refine store_ zS581 0 (.agg (polC (upd q 43 (-1)) ka kn kc)) zb4 0 ?_
   intro zw582 zS583
   refine nil_ (then_n (wp_ret ?_))
   refine ret_ rfl (res_ [.cell 6 37] [.agg (polC (upd q 43 (-1)) ka kn kc)] (.agg (polC (upd q 43 (-1)) ka kn kc)) ⟨res_cellN zS583 0 56 zb4 0, trivial⟩) ?_
   obtain rfl : a = 6 := by omega
   exact ⟨(upd q 43 (-1)), ka, kn, kc, by kernel_rfl, spoil_6_43 q kn (-1) (by unfold outOf; decide), zS583.ch⟩
 intro zh584
 have zh585 := eqF' zh584
 refine seq_ (reg_ ?_)
 refine pure_ (.bool (a == 7)) ?_
 refine pure_ (.bool (a == 7)) ?_
 refine nil_ (then_n ?_)
 refine cond_S (a == 7) ?_ ?_
 · intro zh586
   have zh587 := eqT' zh586
   refine reg_ ?_
   refine pure_ (.int .i64 (-1)) ?_
   refine pure_ (.pointer (some ⟨zb1, 46, none⟩)) ?_
   refine store_ zS6 1 (.int .i64 (-1)) zb1 46 ?_
   intro zw588 zS589
   refine nil_ (blk_n (then_n (seq_ (reg_ ?_))))
   refine loadN_ zS589 1 56 (polC (upd q 46 (-1)) ka kn kc) zb1 0 ?_
   refine store_ zS589 0 (.agg (polC (upd q 46 (-1)) ka kn kc)) zb4 0 ?_
   intro zw590 zS591
   refine nil_ (then_n (wp_ret ?_))
   refine ret_ rfl (res_ [.cell 6 37] [.agg (polC (upd q 46 (-1)) ka kn kc)] (.agg (polC (upd q 46 (-1)) ka kn kc)) ⟨res_cellN zS591 0 56 zb4 0, trivial⟩) ?_
   obtain rfl : a = 7 := by omega
   exact ⟨(upd q 46 (-1)), ka, kn, kc, by kernel_rfl, spoil_7_46 q kn (-1) (by unfold outOf; decide), zS591.ch⟩
 intro zh592
 have zh593 := eqF' zh592
 refine seq_ (reg_ ?_)
 refine pure_ (.bool (a == 8)) ?_
 refine pure_ (.bool (a == 8)) ?_
 refine nil_ (then_n ?_)
 refine cond_S (a == 8) ?_ ?_
 · intro zh594
   have zh595 := eqT' zh594
   refine reg_ ?_
   refine pure_ (.int .i64 (-1)) ?_
   refine pure_ (.pointer (some ⟨zb1, 49, none⟩)) ?_
   refine store_ zS6 1 (.int .i64 (-1)) zb1 49 ?_
   intro zw596 zS597
   refine nil_ (blk_n (then_n (seq_ (reg_ ?_))))
   refine loadN_ zS597 1 56 (polC (upd q 49 (-1)) ka kn kc) zb1 0 ?_
   refine store_ zS597 0 (.agg (polC (upd q 49 (-1)) ka kn kc)) zb4 0 ?_
   intro zw598 zS599
   refine nil_ (then_n (wp_ret ?_))
   refine ret_ rfl (res_ [.cell 6 37] [.agg (polC (upd q 49 (-1)) ka kn kc)] (.agg (polC (upd q 49 (-1)) ka kn kc)) ⟨res_cellN zS599 0 56 zb4 0, trivial⟩) ?_
   obtain rfl : a = 8 := by omega
   exact ⟨(upd q 49 (-1)), ka, kn, kc, by kernel_rfl, spoil_8_49 q kn (-1) (by unfold outOf; decide), zS599.ch⟩
 intro zh600
 have zh601 := eqF' zh600
 refine seq_ (reg_ ?_)
 refine pure_ (.bool (a == 9)) ?_
 refine pure_ (.bool (a == 9)) ?_
 refine nil_ (then_n ?_)
 refine cond_S (a == 9) ?_ ?_
 · intro zh602
   have zh603 := eqT' zh602
   refine reg_ ?_
   refine pure_ (.int .i64 (-1)) ?_
   refine pure_ (.pointer (some ⟨zb1, 54, none⟩)) ?_
   refine store_ zS6 1 (.int .i64 (-1)) zb1 54 ?_
   intro zw604 zS605
   refine nil_ (blk_n (then_n (seq_ (reg_ ?_))))
   refine loadN_ zS605 1 56 (polC (upd q 54 (-1)) ka kn kc) zb1 0 ?_
   refine store_ zS605 0 (.agg (polC (upd q 54 (-1)) ka kn kc)) zb4 0 ?_
   intro zw606 zS607
   refine nil_ (then_n (wp_ret ?_))
   refine ret_ rfl (res_ [.cell 6 37] [.agg (polC (upd q 54 (-1)) ka kn kc)] (.agg (polC (upd q 54 (-1)) ka kn kc)) ⟨res_cellN zS607 0 56 zb4 0, trivial⟩) ?_
   obtain rfl : a = 9 := by omega
   exact ⟨(upd q 54 (-1)), ka, kn, kc, by kernel_rfl, spoil_9_54 q kn (-1) (by unfold outOf; decide), zS607.ch⟩
 intro zh608
 have zh609 := eqF' zh608
 refine reg_ ?_
 refine pure_ (.int .i64 (-1)) ?_
 refine pure_ (.pointer (some ⟨zb1, 55, none⟩)) ?_
 refine store_ zS6 1 (.int .i64 (-1)) zb1 55 ?_
 intro zw610 zS611
 refine nil_ (blk_n (then_n (seq_ (reg_ ?_))))
 refine loadN_ zS611 1 56 (polC (upd q 55 (-1)) ka kn kc) zb1 0 ?_
 refine store_ zS611 0 (.agg (polC (upd q 55 (-1)) ka kn kc)) zb4 0 ?_
 intro zw612 zS613
 refine nil_ (then_n (wp_ret ?_))
 refine ret_ rfl (res_ [.cell 6 37] [.agg (polC (upd q 55 (-1)) ka kn kc)] (.agg (polC (upd q 55 (-1)) ka kn kc)) ⟨res_cellN zS613 0 56 zb4 0, trivial⟩) ?_
 obtain rfl : a = 10 := by omega
 exact ⟨(upd q 55 (-1)), ka, kn, kc, by kernel_rfl, spoil_10_55 q kn (-1) (by unfold outOf; decide), zS613.ch⟩

set_option maxRecDepth 100000 in
set_option maxHeartbeats 4000000 in
theorem policyFirst_any (q : Nat → Int) (ka : Nat → Option Addr) (kn kc : Nat → Nat) (kb : Nat → Nat → Int) (a0 b0 how : Int) (ha : 0 ≤ a0 ∧ a0 ≤ 255) (hb : 0 ≤ b0 ∧ b0 ≤ 255) (hh : -9223372036854775808 ≤ how ∧ how ≤ 9223372036854775807) (w : World) (hq : ∀ i, -9223372036854775808 ≤ q i ∧ q i ≤ 9223372036854775807) (hK : ∀ i, i < 4 → KeyIn [] w (ka i) (kn i) (kc i) (kb i)) :
    Gives Try.prog 12 #[.agg (polC q ka kn kc), .agg #[.int .u8 a0, .int .u8 b0], .int .i64 how] w fun v w1 => v = .bool true ∧ Ch [] w w1 := by
 have S0 := St.nil [] w
 refine enter_ Try.func12 rfl ?_
 refine seq_ (reg_ ?_)
 refine new_ S0 (fun b => .pointer (some ⟨b, 0, none⟩)) (.cells (polC q ka kn kc) 37) ?_
 intro zb1 zw2 zS3
 refine new_ zS3 (fun b => .pointer (some ⟨b, 0, none⟩)) (.cells #[.int .u8 a0, .int .u8 b0] 53) ?_
 intro zb4 zw5 zS6
 refine pure_ (.bool false) ?_
 refine nil_ (then_n (seq_ (reg_ ?_)))
 refine call_ 27 #[] ?_
 refine (shown12 _).mono ?_; rintro _ zw7 ⟨rfl, zhc8⟩
 have zS9 := zS6.quiet zhc8
 refine pure_ (.bool true) ?_
 refine nil_ (then_n (seq_ (reg_ ?_)))
 refine loadN_ zS9 1 56 (polC q ka kn kc) zb1 0 ?_
 refine call_ 33 #[.agg (polC q ka kn kc)] ?_
 refine (fitA_ q ka kn kc kb w _ zS9.ch hq hK).mono ?_; rintro _ zw10 ⟨x, xa, xn, xc, hX, rfl, zh11⟩
 have zS12 := zS9.quiet zh11
 refine new_ zS12 (fun b => .pointer (some ⟨b, 0, none⟩)) (.cells #[.int .i64 0, .int .i64 0, .int .i64 0, .int .i64 0, .int .i64 0, .slice none 0 0, .slice none 0 0, .slice none 0 0, .slice none 0 0, .int .i64 0, .int .i64 0, .int .i64 0, .int .i64 0, .int .i64 0, .int .i64 0, .int .i64 0, .int .i64 0, .int .i64 0, .int .i64 0, .int .i64 0, .int .i64 0, .int .i64 0, .int .i64 0, .int .i64 0, .int .i64 0, .int .i64 0, .int .i64 0, .int .i64 0, .int .i64 0, .int .i64 0, .int .i64 0, .int .i64 0, .int .i64 0, .int .i64 0, .int .i64 0, .int .i64 0, .int .i64 0, .int .i64 0, .int .i64 0, .int .i64 0, .int .i64 0, .int .i64 0, .int .i64 0, .int .i64 0, .int .i64 0, .int .i64 0, .int .i64 0, .int .i64 0, .int .i64 0, .int .i64 0, .int .i64 0, .int .i64 0, .int .i64 0, .int .i64 0, .int .i64 0, .int .i64 0] 37) ?_
 intro zb13 zw14 zS15
 refine store_ zS15 0 (.agg (polC x xa xn xc)) zb13 0 ?_
 intro zw16 zS17
 refine nil_ (then_n (seq_ (reg_ ?_)))
 refine pure_ (.pointer (some ⟨zb4, 0, none⟩)) ?_
 refine load1_ zS17 1 (.int .u8 a0) zb4 0 ?_
 refine sum_ .i64 a0 (IntWalk.i64_in _ (by omega)) ?_
 refine pureE_ (.int .i64 (Int.tmod a0 11)) (.int .i64 (a0 % 11)) (congrArg _ (IntWalk.rem_in _ _ (by omega))) ?_
 refine pure_ (.int .i64 (a0 % 11)) ?_
 refine nil_ (then_n (seq_ (reg_ ?_)))
 refine pure_ (.pointer (some ⟨zb4, 1, none⟩)) ?_
 refine load1_ zS17 1 (.int .u8 b0) zb4 1 ?_
 refine sum_ .i64 b0 (IntWalk.i64_in _ (by omega)) ?_
 refine pureE_ (.int .i64 (Int.tmod b0 11)) (.int .i64 (b0 % 11)) (congrArg _ (IntWalk.rem_in _ _ (by omega))) ?_
 refine pure_ (.int .i64 (b0 % 11)) ?_
 refine nil_ (then_n (seq_ (reg_ ?_)))
 refine loadN_ zS17 0 56 (polC x xa xn xc) zb13 0 ?_
 refine pure_ (.int .i64 (a0 % 11)) ?_
 refine pure_ (.int .i64 how) ?_
 refine call_ 34 #[.agg (polC x xa xn xc), .int .i64 (a0 % 11), .int .i64 how] ?_
 refine (spoilt_ x xa xn xc (a0 % 11) how (by omega) hh _).mono ?_; rintro _ zw18 ⟨sx1, sa1, sn1, sc1, rfl, hs1, zh19⟩
 have zS20 := zS17.quiet zh19
 refine call_ 29 #[.agg (polC sx1 sa1 sn1 sc1)] ?_
 refine (check_any sx1 sa1 sn1 sc1 _).mono ?_; rintro _ zw21 ⟨rfl, zh22⟩
 have zS23 := zS20.quiet zh22
 refine assign_ ?_
 refine nil_ (then_n (seq_ (reg_ ?_)))
 refine loadN_ zS23 0 56 (polC x xa xn xc) zb13 0 ?_
 refine pure_ (.int .i64 (a0 % 11)) ?_
 refine pure_ (.int .i64 how) ?_
 refine call_ 34 #[.agg (polC x xa xn xc), .int .i64 (a0 % 11), .int .i64 how] ?_
 refine (spoilt_ x xa xn xc (a0 % 11) how (by omega) hh _).mono ?_; rintro _ zw24 ⟨sx2, sa2, sn2, sc2, rfl, hs2, zh25⟩
 have zS26 := zS23.quiet zh25
 refine pure_ (.int .i64 (b0 % 11)) ?_
 refine pure_ (.int .i64 how) ?_
 refine call_ 34 #[.agg (polC sx2 sa2 sn2 sc2), .int .i64 (b0 % 11), .int .i64 how] ?_
 refine (spoilt_ sx2 sa2 sn2 sc2 (b0 % 11) how (by omega) hh _).mono ?_; rintro _ zw27 ⟨sx3, sa3, sn3, sc3, rfl, hs3, zh28⟩
 have zS29 := zS26.quiet zh28
 refine call_ 29 #[.agg (polC sx3 sa3 sn3 sc3)] ?_
 refine (check_any sx3 sa3 sn3 sc3 _).mono ?_; rintro _ zw30 ⟨rfl, zh31⟩
 have zS32 := zS29.quiet zh31
 refine assign_ ?_
 refine nil_ (then_n (seq_ (reg_ ?_)))
 refine pure_ (.bool true) ?_
 refine pure_ (.bool true) ?_
 refine loadN_ zS32 0 56 (polC x xa xn xc) zb13 0 ?_
 refine call_ 29 #[.agg (polC x xa xn xc)] ?_
 refine (check_any x xa xn xc _).mono ?_; rintro _ zw33 ⟨rfl, zh34⟩
 have zS35 := zS32.quiet zh34
 refine pureE_ (.bool ((polCode x xn) == 0)) (.bool true) (congrArg Value.bool (eqT (polCode_ok hX))) ?_
 refine pure_ (.bool true) ?_
 refine pure_ (.bool true) ?_
 refine move_ ?_
 refine pure_ (.int .i64 (a0 % 11)) ?_
 refine sum_ .i64 (40 + (a0 % 11)) (IntWalk.i64_in _ (by omega)) ?_
 refine pureE_ (.bool ((polCode sx1 sn1) == (40 + (a0 % 11)))) (.bool true) (congrArg Value.bool (eqT (one_code (a := a0 % 11) (by omega) hX hs1))) ?_
 refine pure_ (.bool true) ?_
 refine pure_ (.bool true) ?_
 refine move_ ?_
 refine pure_ (.int .i64 (a0 % 11)) ?_
 refine pure_ (.int .i64 (b0 % 11)) ?_
 refine pure_ (.int .i64 (if (b0 % 11) < (a0 % 11) then (b0 % 11) else (a0 % 11))) ?_
 have zh36 : ((if (b0 % 11) < (a0 % 11) then (b0 % 11) else (a0 % 11)) ≤ (a0 % 11) ∧ (if (b0 % 11) < (a0 % 11) then (b0 % 11) else (a0 % 11)) ≤ (b0 % 11)) ∧ ((if (b0 % 11) < (a0 % 11) then (b0 % 11) else (a0 % 11)) = (a0 % 11) ∨ (if (b0 % 11) < (a0 % 11) then (b0 % 11) else (a0 % 11)) = (b0 % 11)) := by split <;> omega
 generalize (if (b0 % 11) < (a0 % 11) then (b0 % 11) else (a0 % 11)) = zm37 at *
 have zh38 : zm37 = min (a0 % 11) (b0 % 11) := by omega
 refine sum_ .i64 (40 + zm37) (IntWalk.i64_in _ (by omega)) ?_
 refine pureE_ (.bool ((polCode sx3 sn3) == (40 + zm37))) (.bool true) (congrArg Value.bool (eqT (by have zk := two_code (a := a0 % 11) (b := b0 % 11) (by omega) (by omega) hX hs2 hs3; omega))) ?_
 refine pure_ (.bool true) ?_
 refine pure_ (.bool true) ?_
 refine nil_ (then_n (wp_ret ?_))
 refine ret_ rfl (res_ [.tmp 6] [.bool true] (.bool true) ⟨res_tmp, trivial⟩) ?_
 exact ⟨rfl, zS35.ch⟩

end Go.Proofs.Ytabnjfboigmleaa
