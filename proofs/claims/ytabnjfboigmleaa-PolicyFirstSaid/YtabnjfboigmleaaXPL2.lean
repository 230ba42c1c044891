/- PolicyOrders, PolicyBounds, PolicyKeys, PolicyFirst: the walks. -/
import Derived.Test.YtabnjfboigmleaaXPolLaw
import Derived.Test.YtabnjfboigmleaaXFit
import Derived.Test.YtabnjfboigmleaaSR
namespace Go.Proofs.Ytabnjfboigmleaa
open Go Go.RowKit Go.BigFrame Sx
set_option linter.unusedVariables false
set_option linter.unusedSimpArgs false

def condB (j : Nat) (q : Nat → Int) (kn : Nat → Nat) : Bool := match j with
  | 0 => ordB q
  | 1 => (keys3 kn && keyB (kn 3))
  | 2 => (q 9 == 1 && (q 13 == 0 && roles3 q))
  | 3 => tab5 q
  | 4 => allI 0 31 [q 34, q 35, q 36, q 37, q 38]
  | 5 => allI 0 4 [q 39, q 40, q 41]
  | 6 => allI 1 1000 [q 42, q 43, q 44, q 45]
  | 7 => (inB 1 1000 (q 46) && inB 0 1000 (q 47))
  | 8 => allI 1 3 [q 48, q 49]
  | 9 => (q 50 == 0 && (allI 0 1000 [q 51, q 52, q 53] && inB 1 1000 (q 54)))
  | 10 => inB 0 65535 (q 55)
  | _ => true
theorem polCode_eq (q : Nat → Int) (kn : Nat → Nat) : polCode q kn = if condB 0 q kn = false then 40 else if condB 1 q kn = false then 41 else if condB 2 q kn = false then 42 else if condB 3 q kn = false then 43 else if condB 4 q kn = false then 44 else if condB 5 q kn = false then 45 else if condB 6 q kn = false then 46 else if condB 7 q kn = false then 47 else if condB 8 q kn = false then 48 else if condB 9 q kn = false then 49 else if condB 10 q kn = false then 50 else 0 := rfl
theorem polCode_ok {q : Nat → Int} {kn : Nat → Nat} (h : ∀ j, condB j q kn = true) : polCode q kn = 0 := by
  rw [polCode_eq]; simp [h]
/-- one thing is wrong: the first one is told -/
theorem polCode_at {q : Nat → Int} {kn : Nat → Nat} (a : Nat) (ha : a < 11) (h : ∀ j, j < a → condB j q kn = true) (hf : condB a q kn = false) : polCode q kn = 40 + a := by
  rw [polCode_eq]
  match a, ha, h, hf with
  | 0, _, h, hf => simp [hf]
  | 1, _, h, hf => simp [hf, h 0 (by omega)]
  | 2, _, h, hf => simp [hf, h 0 (by omega), h 1 (by omega)]
  | 3, _, h, hf => simp [hf, h 0 (by omega), h 1 (by omega), h 2 (by omega)]
  | 4, _, h, hf => simp [hf, h 0 (by omega), h 1 (by omega), h 2 (by omega), h 3 (by omega)]
  | 5, _, h, hf => simp [hf, h 0 (by omega), h 1 (by omega), h 2 (by omega), h 3 (by omega), h 4 (by omega)]
  | 6, _, h, hf => simp [hf, h 0 (by omega), h 1 (by omega), h 2 (by omega), h 3 (by omega), h 4 (by omega), h 5 (by omega)]
  | 7, _, h, hf => simp [hf, h 0 (by omega), h 1 (by omega), h 2 (by omega), h 3 (by omega), h 4 (by omega), h 5 (by omega), h 6 (by omega)]
  | 8, _, h, hf => simp [hf, h 0 (by omega), h 1 (by omega), h 2 (by omega), h 3 (by omega), h 4 (by omega), h 5 (by omega), h 6 (by omega), h 7 (by omega)]
  | 9, _, h, hf => simp [hf, h 0 (by omega), h 1 (by omega), h 2 (by omega), h 3 (by omega), h 4 (by omega), h 5 (by omega), h 6 (by omega), h 7 (by omega), h 8 (by omega)]
  | 10, _, h, hf => simp [hf, h 0 (by omega), h 1 (by omega), h 2 (by omega), h 3 (by omega), h 4 (by omega), h 5 (by omega), h 6 (by omega), h 7 (by omega), h 8 (by omega), h 9 (by omega)]
  | a + 11, ha, _, _ => omega
theorem inB_mk (lo hi n : Int) (h : lo ≤ n ∧ n ≤ hi) : inB lo hi n = true := by simp [inB]; omega
theorem fit_cond {q : Nat → Int} {o1 o2 o3 : Int} (hO : OrdR q o1 o2 o3) (kn : Nat → Nat) (kb : Nat → Nat → Int) (j : Nat) : condB j (fitQ q o1 o2 o3) (fun i => (keyL (kn i) (kb i)).length) = true := by
  have h3 := fun n => modI_bd n 3 (by omega)
  have h5 := fun n => modI_bd n 5 (by omega)
  have h1000 := fun n => modI_bd n 1000 (by omega)
  have h1001 := fun n => modI_bd n 1001 (by omega)
  unfold condB
  split
  · rcases hO.perm with ⟨rfl, rfl, rfl⟩ | ⟨rfl, rfl, rfl⟩ | ⟨rfl, rfl, rfl⟩ | ⟨rfl, rfl, rfl⟩ | ⟨rfl, rfl, rfl⟩ | ⟨rfl, rfl, rfl⟩ <;> rfl
  · have hk : ∀ i, keyB ((keyL (kn i) (kb i)).length) = true := fun i => by
      have := keyL_len (kn i) (kb i)
      simp [keyB]; omega
    simp only [keys3, hk, Bool.and_self]
  · show (true && (true && (setB (q 10 % 16 - q 10 % 2) && (setB (q 11 % 16 - q 11 % 2) && setB (q 12 % 16 - q 12 % 2))))) = true
    have hs : ∀ n : Int, setB (n % 16 - n % 2) = true := fun n => by simp [setB, inB]; omega
    simp only [hs, Bool.and_self]
  · have hi : ∀ n : Int, inB 0 15 (n % 16) = true := fun n => inB_mk _ _ _ (by omega)
    show (allI 0 15 [q 14 % 16, q 15 % 16, q 16 % 16, q 17 % 16] && (allI 0 15 [q 18 % 16, q 19 % 16, q 20 % 16, q 21 % 16] && (allI 0 15 [q 22 % 16, q 23 % 16, q 24 % 16, q 25 % 16] && (allI 0 15 [q 26 % 16, q 27 % 16, q 28 % 16, q 29 % 16] && allI 0 15 [q 30 % 16, q 31 % 16, q 32 % 16, q 33 % 16])))) = true
    simp only [allI, hi, Bool.and_self]
  · have hi : ∀ n : Int, inB 0 31 (n % 32) = true := fun n => inB_mk _ _ _ (by omega)
    show allI 0 31 [q 34 % 32, q 35 % 32, q 36 % 32, q 37 % 32, q 38 % 32] = true
    simp only [allI, hi, Bool.and_self]
  · have hi : ∀ n : Int, inB 0 4 (modI n 5) = true := fun n => inB_mk _ _ _ (by have := h5 n; omega)
    show allI 0 4 [modI (q 39) 5, modI (q 40) 5, modI (q 41) 5] = true
    simp only [allI, hi, Bool.and_self]
  · have hi : ∀ n : Int, inB 1 1000 (1 + modI n 1000) = true := fun n => inB_mk _ _ _ (by have := h1000 n; omega)
    show allI 1 1000 [1 + modI (q 42) 1000, 1 + modI (q 43) 1000, 1 + modI (q 44) 1000, 1 + modI (q 45) 1000] = true
    simp only [allI, hi, Bool.and_self]
  · show (inB 1 1000 (1 + modI (q 46) 1000) && inB 0 1000 (modI (q 47) 1001)) = true
    rw [inB_mk _ _ _ (by have := h1000 (q 46); omega), inB_mk _ _ _ (by have := h1001 (q 47); omega)]; rfl
  · have hi : ∀ n : Int, inB 1 3 (1 + modI n 3) = true := fun n => inB_mk _ _ _ (by have := h3 n; omega)
    show allI 1 3 [1 + modI (q 48) 3, 1 + modI (q 49) 3] = true
    simp only [allI, hi, Bool.and_self]
  · have hi : ∀ n : Int, inB 0 1000 (modI n 1001) = true := fun n => inB_mk _ _ _ (by have := h1001 n; omega)
    show (true && (allI 0 1000 [modI (q 51) 1001, modI (q 52) 1001, modI (q 53) 1001] && inB 1 1000 (1 + modI (q 54) 1000))) = true
    simp only [allI, hi, Bool.and_self]
    rw [inB_mk _ _ _ (by have := h1000 (q 54); omega)]; rfl
  · exact inB_mk _ _ _ (by show 0 ≤ q 55 % 65536 ∧ q 55 % 65536 ≤ 65535; omega)
  · rfl

/-- a policy made one that may be: any such one -/
theorem fitA_ (q : Nat → Int) (ka : Nat → Option Addr) (kn kc : Nat → Nat) (kb : Nat → Nat → Int) (w0 w : World) (hc : Ch [] w0 w) (hq : ∀ i, -9223372036854775808 ≤ q i ∧ q i ≤ 9223372036854775807) (hK : ∀ i, i < 4 → KeyIn [] w0 (ka i) (kn i) (kc i) (kb i)) :
    Gives Try.prog 33 #[.agg (polC q ka kn kc)] w fun v w1 => ∃ x xa xn xc, (∀ j, condB j x xn = true) ∧ v = .agg (polC x xa xn xc) ∧ Ch [] w w1 := by
  have S0 : St [] w0 [] w := (St.nil [] w0).quiet hc
  have hK' : ∀ i, i < 4 → KeyIn [] w (ka i) (kn i) (kc i) (kb i) := fun i hi => ⟨(hK i hi).1, (hK i hi).2.1, fun ad ha => ⟨by simp, fun j hj => by
    have h := ((hK i hi).2.2 ad ha).2 j hj
    rcases e : ad.add j with ⟨b, o, sp⟩
    rw [e] at h
    have hb : b < w0.heap.size := by
      unfold World.cell? at h
      split at h
      · next h2 => exact heap_lt h2
      · exact absurd h (by simp)
    have h3 := hc.block b hb (by simp)
    unfold World.cell? at h ⊢
    simpa only [h3] using h⟩⟩
  refine (fit_ q ka kn kc kb w (St.nil [] w) hq hK').mono ?_
  rintro v w1 ⟨o1, o2, o3, b, c, tl, hO, rfl, _, S⟩
  exact ⟨_, _, _, _, fit_cond hO kn kb, rfl, S.ch⟩

def upd5 (x : Nat → Int) (a0 a1 a2 a3 a4 : Int) : Nat → Int := fun k => ([a0, a1, a2, a3, a4] : List Int).getD k (x k)
theorem upd5_cond (x : Nat → Int) (kn : Nat → Nat) (a0 a1 a2 a3 a4 : Int) (j : Nat) (h : condB (j + 1) x kn = true) : condB (j + 1) (upd5 x a0 a1 a2 a3 a4) kn = true := by
  match j, h with
  | 0, h => exact h
  | 1, h => exact h
  | 2, h => exact h
  | 3, h => exact h
  | 4, h => exact h
  | 5, h => exact h
  | 6, h => exact h
  | 7, h => exact h
  | 8, h => exact h
  | 9, h => exact h
  | j + 10, h => exact h
theorem ord_is (x : Nat → Int) (kn : Nat → Nat) (a0 a1 a2 a3 a4 : Int) : condB 0 (upd5 x a0 a1 a2 a3 a4) kn = (a0 == 0 && (a4 == 4 && (isIn a1 a2 a3 1 && (isIn a1 a2 a3 2 && isIn a1 a2 a3 3)))) := rfl
theorem ord_code {x : Nat → Int} {kn : Nat → Nat} (hX : ∀ j, condB j x kn = true) (a0 a1 a2 a3 a4 : Int) (h : (0 ≤ a0 ∧ a0 ≤ 4) ∧ (0 ≤ a1 ∧ a1 ≤ 4) ∧ (0 ≤ a2 ∧ a2 ≤ 4) ∧ (0 ≤ a3 ∧ a3 ≤ 4) ∧ (0 ≤ a4 ∧ a4 ≤ 4)) (n : Int) (hn : n = 10 * (10 * (10 * (10 * a0 + a1) + a2) + a3) + a4) :
    (polCode (upd5 x a0 a1 a2 a3 a4) kn = 0 ∧ (n = 1234 ∨ n = 1324 ∨ n = 2134 ∨ n = 2314 ∨ n = 3124 ∨ n = 3214)) ∨ (polCode (upd5 x a0 a1 a2 a3 a4) kn = 40 ∧ ¬ (n = 1234 ∨ n = 1324 ∨ n = 2134 ∨ n = 2314 ∨ n = 3124 ∨ n = 3214)) := by
  have hc : ∀ j, condB (j + 1) (upd5 x a0 a1 a2 a3 a4) kn = true := fun j => upd5_cond x kn a0 a1 a2 a3 a4 j (hX _)
  cases h0 : condB 0 (upd5 x a0 a1 a2 a3 a4) kn with
  | true =>
    refine .inl ⟨polCode_ok fun j => by cases j with
      | zero => exact h0
      | succ j => exact hc j, ?_⟩
    rw [ord_is x kn] at h0
    simp [isIn] at h0
    obtain ⟨ha0, ha4, h1, h2, h3⟩ := h0
    subst hn
    clear hc hX
    rcases h1 with h1 | h1 | h1 <;> rcases h2 with h2 | h2 | h2 <;> rcases h3 with h3 | h3 | h3 <;> omega
  | false =>
    refine .inr ⟨by have := polCode_at 0 (by omega) (fun j hj => absurd hj (by omega)) h0; simpa using this, ?_⟩
    rw [ord_is x kn] at h0
    intro hm
    clear hc hX
    rcases hm with hm | hm | hm | hm | hm | hm <;> rw [hn] at hm
    · obtain ⟨rfl, rfl, rfl, rfl, rfl⟩ : a0 = 0 ∧ a1 = 1 ∧ a2 = 2 ∧ a3 = 3 ∧ a4 = 4 := by omega
      simp [isIn] at h0
    · obtain ⟨rfl, rfl, rfl, rfl, rfl⟩ : a0 = 0 ∧ a1 = 1 ∧ a2 = 3 ∧ a3 = 2 ∧ a4 = 4 := by omega
      simp [isIn] at h0
    · obtain ⟨rfl, rfl, rfl, rfl, rfl⟩ : a0 = 0 ∧ a1 = 2 ∧ a2 = 1 ∧ a3 = 3 ∧ a4 = 4 := by omega
      simp [isIn] at h0
    · obtain ⟨rfl, rfl, rfl, rfl, rfl⟩ : a0 = 0 ∧ a1 = 2 ∧ a2 = 3 ∧ a3 = 1 ∧ a4 = 4 := by omega
      simp [isIn] at h0
    · obtain ⟨rfl, rfl, rfl, rfl, rfl⟩ : a0 = 0 ∧ a1 = 3 ∧ a2 = 1 ∧ a3 = 2 ∧ a4 = 4 := by omega
      simp [isIn] at h0
    · obtain ⟨rfl, rfl, rfl, rfl, rfl⟩ : a0 = 0 ∧ a1 = 3 ∧ a2 = 2 ∧ a3 = 1 ∧ a4 = 4 := by omega
      simp [isIn] at h0

set_option maxRecDepth 100000 in
set_option maxHeartbeats 4000000 in
theorem policyOrders_any (q : Nat → Int) (ka : Nat → Option Addr) (kn kc : Nat → Nat) (kb : Nat → Nat → Int) (l0 l1 l2 l3 l4 : Int) (hl : (0 ≤ l0 ∧ l0 ≤ 255) ∧ (0 ≤ l1 ∧ l1 ≤ 255) ∧ (0 ≤ l2 ∧ l2 ≤ 255) ∧ (0 ≤ l3 ∧ l3 ≤ 255) ∧ (0 ≤ l4 ∧ l4 ≤ 255)) (w : World) (hq : ∀ i, -9223372036854775808 ≤ q i ∧ q i ≤ 9223372036854775807) (hK : ∀ i, i < 4 → KeyIn [] w (ka i) (kn i) (kc i) (kb i)) :
    Gives Try.prog 15 #[.agg (polC q ka kn kc), .agg #[.int .u8 l0, .int .u8 l1, .int .u8 l2, .int .u8 l3, .int .u8 l4]] w fun v w1 => v = .bool true ∧ Ch [] w w1 := by
 have S0 := St.nil [] w
 refine enter_ Try.func15 rfl ?_
 refine seq_ (reg_ ?_)
 refine new_ S0 (fun b => .pointer (some ⟨b, 0, none⟩)) (.cells (polC q ka kn kc) 37) ?_
 intro zb1 zw2 zS3
 refine new_ zS3 (fun b => .pointer (some ⟨b, 0, none⟩)) (.cells #[.int .u8 l0, .int .u8 l1, .int .u8 l2, .int .u8 l3, .int .u8 l4] 70) ?_
 intro zb4 zw5 zS6
 refine pure_ (.bool false) ?_
 refine nil_ (then_n (seq_ (reg_ ?_)))
 refine call_ 27 #[] ?_
 refine (shown12 _).mono ?_; rintro _ zw7 ⟨rfl, zhc8⟩
 have zS9 := zS6.quiet zhc8
 refine pure_ (.bool true) ?_
 refine nil_ (then_n (seq_ (reg_ ?_)))
 refine loadN_ zS9 1 56 (polC q ka kn kc) zb1 0 ?_
 refine call_ 33 #[.agg (polC q ka kn kc)] ?_
 refine (fitA_ q ka kn kc kb w _ zS9.ch hq hK).mono ?_; rintro _ zw10 ⟨x, xa, xn, xc, hX, rfl, zh11⟩
 have zS12 := zS9.quiet zh11
 refine new_ zS12 (fun b => .pointer (some ⟨b, 0, none⟩)) (.cells #[.int .i64 0, .int .i64 0, .int .i64 0, .int .i64 0, .int .i64 0, .slice none 0 0, .slice none 0 0, .slice none 0 0, .slice none 0 0, .int .i64 0, .int .i64 0, .int .i64 0, .int .i64 0, .int .i64 0, .int .i64 0, .int .i64 0, .int .i64 0, .int .i64 0, .int .i64 0, .int .i64 0, .int .i64 0, .int .i64 0, .int .i64 0, .int .i64 0, .int .i64 0, .int .i64 0, .int .i64 0, .int .i64 0, .int .i64 0, .int .i64 0, .int .i64 0, .int .i64 0, .int .i64 0, .int .i64 0, .int .i64 0, .int .i64 0, .int .i64 0, .int .i64 0, .int .i64 0, .int .i64 0, .int .i64 0, .int .i64 0, .int .i64 0, .int .i64 0, .int .i64 0, .int .i64 0, .int .i64 0, .int .i64 0, .int .i64 0, .int .i64 0, .int .i64 0, .int .i64 0, .int .i64 0, .int .i64 0, .int .i64 0, .int .i64 0] 37) ?_
 intro zb13 zw14 zS15
 refine store_ zS15 0 (.agg (polC x xa xn xc)) zb13 0 ?_
 intro zw16 zS17
 refine nil_ (then_n (seq_ (reg_ ?_)))
 refine pure_ (.int .i64 0) ?_
 refine nil_ (then_n (seq_ (seq_ (reg_ ?_))))
 refine pure_ (.int .i64 0) ?_
 refine nil_ (then_n (wp_block (loop_ 24 (seq_ (seq_ (reg_ ?_))))))
 refine pure_ (.int .i64 0) ?_
 refine pure_ (.bool true) ?_
 refine nil_ (then_n (cond_T ?_))
 refine wp_skip (then_n (seq_ (wp_block (seq_ (reg_ ?_)))))
 refine pure_ (.int .i64 0) ?_
 refine pure_ (.int .i64 0) ?_
 refine pure_ (.pointer (some ⟨zb4, 0, none⟩)) ?_
 refine load1_ zS17 1 (.int .u8 l0) zb4 0 ?_
 refine sum_ .i64 l0 (IntWalk.i64_in _ (by omega)) ?_
 refine pureE_ (.int .i64 (Int.tmod l0 5)) (.int .i64 (l0 % 5)) (congrArg _ (IntWalk.rem_in _ _ (by omega))) ?_
 refine pure_ (.pointer (some ⟨zb13, 0, none⟩)) ?_
 refine pure_ (.pointer (some ⟨zb13, 0, none⟩)) ?_
 refine store_ zS17 0 (.int .i64 (l0 % 5)) zb13 0 ?_
 intro zw18 zS19
 refine nil_ (then_n (reg_ ?_))
 refine pure_ (.int .i64 0) ?_
 refine pure_ (.int .i64 0) ?_
 refine pure_ (.int .i64 0) ?_
 refine pure_ (.pointer (some ⟨zb13, 0, none⟩)) ?_
 refine pure_ (.pointer (some ⟨zb13, 0, none⟩)) ?_
 refine load1_ zS19 0 (.int .i64 (l0 % 5)) zb13 0 ?_
 refine sum_ .i64 (0 + (l0 % 5)) (IntWalk.i64_in _ (by omega)) ?_
 refine pure_ (.int .i64 (0 + (l0 % 5))) ?_
 refine nil_ (blk_n (then_n (reg_ ?_)))
 refine pure_ (.int .i64 0) ?_
 refine pure_ (.int .i64 1) ?_
 refine pure_ (.int .i64 1) ?_
 refine nil_ (again_ (seq_ (seq_ (reg_ ?_))))
 refine pure_ (.int .i64 1) ?_
 refine pure_ (.bool true) ?_
 refine nil_ (then_n (cond_T ?_))
 refine wp_skip (then_n (seq_ (wp_block (seq_ (reg_ ?_)))))
 refine pure_ (.int .i64 1) ?_
 refine pure_ (.int .i64 1) ?_
 refine pure_ (.pointer (some ⟨zb4, 1, none⟩)) ?_
 refine load1_ zS19 1 (.int .u8 l1) zb4 1 ?_
 refine sum_ .i64 l1 (IntWalk.i64_in _ (by omega)) ?_
 refine pureE_ (.int .i64 (Int.tmod l1 5)) (.int .i64 (l1 % 5)) (congrArg _ (IntWalk.rem_in _ _ (by omega))) ?_
 refine pure_ (.pointer (some ⟨zb13, 0, none⟩)) ?_
 refine pure_ (.pointer (some ⟨zb13, 1, none⟩)) ?_
 refine store_ zS19 0 (.int .i64 (l1 % 5)) zb13 1 ?_
 intro zw20 zS21
 refine nil_ (then_n (reg_ ?_))
 refine pure_ (.int .i64 (0 + (l0 % 5))) ?_
 refine sum_ .i64 (10 * (0 + (l0 % 5))) (IntWalk.i64_in _ (by omega)) ?_
 refine pure_ (.int .i64 1) ?_
 refine pure_ (.pointer (some ⟨zb13, 0, none⟩)) ?_
 refine pure_ (.pointer (some ⟨zb13, 1, none⟩)) ?_
 refine load1_ zS21 0 (.int .i64 (l1 % 5)) zb13 1 ?_
 refine sum_ .i64 ((10 * (0 + (l0 % 5))) + (l1 % 5)) (IntWalk.i64_in _ (by omega)) ?_
 refine assign_ ?_
 refine nil_ (blk_n (then_n (reg_ ?_)))
 refine pure_ (.int .i64 1) ?_
 refine pure_ (.int .i64 2) ?_
 refine pure_ (.int .i64 2) ?_
 refine nil_ (again_ (seq_ (seq_ (reg_ ?_))))
 refine pure_ (.int .i64 2) ?_
 refine pure_ (.bool true) ?_
 refine nil_ (then_n (cond_T ?_))
 refine wp_skip (then_n (seq_ (wp_block (seq_ (reg_ ?_)))))
 refine pure_ (.int .i64 2) ?_
 refine pure_ (.int .i64 2) ?_
 refine pure_ (.pointer (some ⟨zb4, 2, none⟩)) ?_
 refine load1_ zS21 1 (.int .u8 l2) zb4 2 ?_
 refine sum_ .i64 l2 (IntWalk.i64_in _ (by omega)) ?_
 refine pureE_ (.int .i64 (Int.tmod l2 5)) (.int .i64 (l2 % 5)) (congrArg _ (IntWalk.rem_in _ _ (by omega))) ?_
 refine pure_ (.pointer (some ⟨zb13, 0, none⟩)) ?_
 refine pure_ (.pointer (some ⟨zb13, 2, none⟩)) ?_
 refine store_ zS21 0 (.int .i64 (l2 % 5)) zb13 2 ?_
 intro zw22 zS23
 refine nil_ (then_n (reg_ ?_))
 refine move_ ?_
 refine sum_ .i64 (10 * ((10 * (0 + (l0 % 5))) + (l1 % 5))) (IntWalk.i64_in _ (by omega)) ?_
 refine pure_ (.int .i64 2) ?_
 refine pure_ (.pointer (some ⟨zb13, 0, none⟩)) ?_
 refine pure_ (.pointer (some ⟨zb13, 2, none⟩)) ?_
 refine load1_ zS23 0 (.int .i64 (l2 % 5)) zb13 2 ?_
 refine sum_ .i64 ((10 * ((10 * (0 + (l0 % 5))) + (l1 % 5))) + (l2 % 5)) (IntWalk.i64_in _ (by omega)) ?_
 refine assign_ ?_
 refine nil_ (blk_n (then_n (reg_ ?_)))
 refine pure_ (.int .i64 2) ?_
 refine pure_ (.int .i64 3) ?_
 refine pure_ (.int .i64 3) ?_
 refine nil_ (again_ (seq_ (seq_ (reg_ ?_))))
 refine pure_ (.int .i64 3) ?_
 refine pure_ (.bool true) ?_
 refine nil_ (then_n (cond_T ?_))
 refine wp_skip (then_n (seq_ (wp_block (seq_ (reg_ ?_)))))
 refine pure_ (.int .i64 3) ?_
 refine pure_ (.int .i64 3) ?_
 refine pure_ (.pointer (some ⟨zb4, 3, none⟩)) ?_
 refine load1_ zS23 1 (.int .u8 l3) zb4 3 ?_
 refine sum_ .i64 l3 (IntWalk.i64_in _ (by omega)) ?_
 refine pureE_ (.int .i64 (Int.tmod l3 5)) (.int .i64 (l3 % 5)) (congrArg _ (IntWalk.rem_in _ _ (by omega))) ?_
 refine pure_ (.pointer (some ⟨zb13, 0, none⟩)) ?_
 refine pure_ (.pointer (some ⟨zb13, 3, none⟩)) ?_
 refine store_ zS23 0 (.int .i64 (l3 % 5)) zb13 3 ?_
 intro zw24 zS25
 refine nil_ (then_n (reg_ ?_))
 refine move_ ?_
 refine sum_ .i64 (10 * ((10 * ((10 * (0 + (l0 % 5))) + (l1 % 5))) + (l2 % 5))) (IntWalk.i64_in _ (by omega)) ?_
 refine pure_ (.int .i64 3) ?_
 refine pure_ (.pointer (some ⟨zb13, 0, none⟩)) ?_
 refine pure_ (.pointer (some ⟨zb13, 3, none⟩)) ?_
 refine load1_ zS25 0 (.int .i64 (l3 % 5)) zb13 3 ?_
 refine sum_ .i64 ((10 * ((10 * ((10 * (0 + (l0 % 5))) + (l1 % 5))) + (l2 % 5))) + (l3 % 5)) (IntWalk.i64_in _ (by omega)) ?_
 refine assign_ ?_
 refine nil_ (blk_n (then_n (reg_ ?_)))
 refine pure_ (.int .i64 3) ?_
 refine pure_ (.int .i64 4) ?_
 refine pure_ (.int .i64 4) ?_
 refine nil_ (again_ (seq_ (seq_ (reg_ ?_))))
 refine pure_ (.int .i64 4) ?_
 refine pure_ (.bool true) ?_
 refine nil_ (then_n (cond_T ?_))
 refine wp_skip (then_n (seq_ (wp_block (seq_ (reg_ ?_)))))
 refine pure_ (.int .i64 4) ?_
 refine pure_ (.int .i64 4) ?_
 refine pure_ (.pointer (some ⟨zb4, 4, none⟩)) ?_
 refine load1_ zS25 1 (.int .u8 l4) zb4 4 ?_
 refine sum_ .i64 l4 (IntWalk.i64_in _ (by omega)) ?_
 refine pureE_ (.int .i64 (Int.tmod l4 5)) (.int .i64 (l4 % 5)) (congrArg _ (IntWalk.rem_in _ _ (by omega))) ?_
 refine pure_ (.pointer (some ⟨zb13, 0, none⟩)) ?_
 refine pure_ (.pointer (some ⟨zb13, 4, none⟩)) ?_
 refine store_ zS25 0 (.int .i64 (l4 % 5)) zb13 4 ?_
 intro zw26 zS27
 refine nil_ (then_n (reg_ ?_))
 refine move_ ?_
 refine sum_ .i64 (10 * ((10 * ((10 * ((10 * (0 + (l0 % 5))) + (l1 % 5))) + (l2 % 5))) + (l3 % 5))) (IntWalk.i64_in _ (by omega)) ?_
 refine pure_ (.int .i64 4) ?_
 refine pure_ (.pointer (some ⟨zb13, 0, none⟩)) ?_
 refine pure_ (.pointer (some ⟨zb13, 4, none⟩)) ?_
 refine load1_ zS27 0 (.int .i64 (l4 % 5)) zb13 4 ?_
 refine sum_ .i64 ((10 * ((10 * ((10 * ((10 * (0 + (l0 % 5))) + (l1 % 5))) + (l2 % 5))) + (l3 % 5))) + (l4 % 5)) (IntWalk.i64_in _ (by omega)) ?_
 refine assign_ ?_
 refine nil_ (blk_n (then_n (reg_ ?_)))
 refine pure_ (.int .i64 4) ?_
 refine pure_ (.int .i64 5) ?_
 refine pure_ (.int .i64 5) ?_
 refine nil_ (again_ (seq_ (seq_ (reg_ ?_))))
 refine pure_ (.int .i64 5) ?_
 refine pure_ (.bool false) ?_
 refine nil_ (then_n (cond_F ?_))
 refine wp_exit (then_e (then_e (blk_e (then_n (seq_ (reg_ ?_))))))
 refine move_ ?_
 refine pure_ (.bool (((10 * ((10 * ((10 * ((10 * (0 + (l0 % 5))) + (l1 % 5))) + (l2 % 5))) + (l3 % 5))) + (l4 % 5)) == 1234)) ?_
 refine move_ ?_
 refine slot_ 34 (((10 * ((10 * ((10 * ((10 * (0 + (l0 % 5))) + (l1 % 5))) + (l2 % 5))) + (l3 % 5))) + (l4 % 5)) == 1234) ?_ ?_
 · intro zh28
   have zh29 := eqT' zh28
   refine skip_ ?_
   refine skip_ ?_
   refine pure_ (.bool true) ?_
   refine pure_ (.bool true) ?_
   refine skip_ ?_
   refine skip_ ?_
   refine pure_ (.bool true) ?_
   refine pure_ (.bool true) ?_
   refine skip_ ?_
   refine skip_ ?_
   refine pure_ (.bool true) ?_
   refine pure_ (.bool true) ?_
   refine skip_ ?_
   refine skip_ ?_
   refine pure_ (.bool true) ?_
   refine pure_ (.bool true) ?_
   refine skip_ ?_
   refine skip_ ?_
   refine pure_ (.bool true) ?_
   refine pure_ (.bool true) ?_
   refine nil_ (then_n (seq_ (reg_ ?_)))
   refine pure_ (.bool true) ?_
   refine pure_ (.bool true) ?_
   refine loadN_ zS27 0 56 (polC (upd5 x (l0 % 5) (l1 % 5) (l2 % 5) (l3 % 5) (l4 % 5)) xa xn xc) zb13 0 ?_
   refine call_ 29 #[.agg (polC (upd5 x (l0 % 5) (l1 % 5) (l2 % 5) (l3 % 5) (l4 % 5)) xa xn xc)] ?_
   refine (check_any (upd5 x (l0 % 5) (l1 % 5) (l2 % 5) (l3 % 5) (l4 % 5)) xa xn xc _).mono ?_; rintro _ zw30 ⟨rfl, zh31⟩
   have zS32 := zS27.quiet zh31
   refine pureE_ (.bool ((polCode (upd5 x (l0 % 5) (l1 % 5) (l2 % 5) (l3 % 5) (l4 % 5)) xn) == 0)) (.bool true) (congrArg Value.bool (eqT (by have zk := ord_code (kn := xn) hX (l0 % 5) (l1 % 5) (l2 % 5) (l3 % 5) (l4 % 5) (by omega) _ rfl; omega))) ?_
   refine pure_ (.bool true) ?_
   refine pure_ (.bool true) ?_
   refine pure_ (.bool true) ?_
   refine pure_ (.bool true) ?_
   refine pure_ (.bool true) ?_
   refine pure_ (.bool true) ?_
   refine skip_ ?_
   refine skip_ ?_
   refine skip_ ?_
   refine pure_ (.bool true) ?_
   refine pure_ (.bool true) ?_
   refine pure_ (.bool true) ?_
   refine nil_ (then_n (wp_ret ?_))
   refine ret_ rfl (res_ [.tmp 4] [.bool true] (.bool true) ⟨res_tmp, trivial⟩) ?_
   exact ⟨rfl, zS32.ch⟩
 intro zh33
 have zh34 := eqF' zh33
 refine move_ ?_
 refine pure_ (.bool (((10 * ((10 * ((10 * ((10 * (0 + (l0 % 5))) + (l1 % 5))) + (l2 % 5))) + (l3 % 5))) + (l4 % 5)) == 1324)) ?_
 refine pure_ (.bool (((10 * ((10 * ((10 * ((10 * (0 + (l0 % 5))) + (l1 % 5))) + (l2 % 5))) + (l3 % 5))) + (l4 % 5)) == 1324)) ?_
 refine move_ ?_
 refine slot_ 38 (((10 * ((10 * ((10 * ((10 * (0 + (l0 % 5))) + (l1 % 5))) + (l2 % 5))) + (l3 % 5))) + (l4 % 5)) == 1324) ?_ ?_
 · intro zh35
   have zh36 := eqT' zh35
   refine skip_ ?_
   refine skip_ ?_
   refine pure_ (.bool true) ?_
   refine pure_ (.bool true) ?_
   refine skip_ ?_
   refine skip_ ?_
   refine pure_ (.bool true) ?_
   refine pure_ (.bool true) ?_
   refine skip_ ?_
   refine skip_ ?_
   refine pure_ (.bool true) ?_
   refine pure_ (.bool true) ?_
   refine skip_ ?_
   refine skip_ ?_
   refine pure_ (.bool true) ?_
   refine pure_ (.bool true) ?_
   refine nil_ (then_n (seq_ (reg_ ?_)))
   refine pure_ (.bool true) ?_
   refine pure_ (.bool true) ?_
   refine loadN_ zS27 0 56 (polC (upd5 x (l0 % 5) (l1 % 5) (l2 % 5) (l3 % 5) (l4 % 5)) xa xn xc) zb13 0 ?_
   refine call_ 29 #[.agg (polC (upd5 x (l0 % 5) (l1 % 5) (l2 % 5) (l3 % 5) (l4 % 5)) xa xn xc)] ?_
   refine (check_any (upd5 x (l0 % 5) (l1 % 5) (l2 % 5) (l3 % 5) (l4 % 5)) xa xn xc _).mono ?_; rintro _ zw37 ⟨rfl, zh38⟩
   have zS39 := zS27.quiet zh38
   refine pureE_ (.bool ((polCode (upd5 x (l0 % 5) (l1 % 5) (l2 % 5) (l3 % 5) (l4 % 5)) xn) == 0)) (.bool true) (congrArg Value.bool (eqT (by have zk := ord_code (kn := xn) hX (l0 % 5) (l1 % 5) (l2 % 5) (l3 % 5) (l4 % 5) (by omega) _ rfl; omega))) ?_
   refine pure_ (.bool true) ?_
   refine pure_ (.bool true) ?_
   refine pure_ (.bool true) ?_
   refine pure_ (.bool true) ?_
   refine pure_ (.bool true) ?_
   refine pure_ (.bool true) ?_
   refine skip_ ?_
   refine skip_ ?_
   refine skip_ ?_
   refine pure_ (.bool true) ?_
   refine pure_ (.bool true) ?_
   refine pure_ (.bool true) ?_
   refine nil_ (then_n (wp_ret ?_))
   refine ret_ rfl (res_ [.tmp 4] [.bool true] (.bool true) ⟨res_tmp, trivial⟩) ?_
   exact ⟨rfl, zS39.ch⟩
 intro zh40
 have zh41 := eqF' zh40
 refine move_ ?_
 refine pure_ (.bool (((10 * ((10 * ((10 * ((10 * (0 + (l0 % 5))) + (l1 % 5))) + (l2 % 5))) + (l3 % 5))) + (l4 % 5)) == 2134)) ?_
 refine pure_ (.bool (((10 * ((10 * ((10 * ((10 * (0 + (l0 % 5))) + (l1 % 5))) + (l2 % 5))) + (l3 % 5))) + (l4 % 5)) == 2134)) ?_
 refine move_ ?_
 refine slot_ 42 (((10 * ((10 * ((10 * ((10 * (0 + (l0 % 5))) + (l1 % 5))) + (l2 % 5))) + (l3 % 5))) + (l4 % 5)) == 2134) ?_ ?_
 · intro zh42
   have zh43 := eqT' zh42
   refine skip_ ?_
   refine skip_ ?_
   refine pure_ (.bool true) ?_
   refine pure_ (.bool true) ?_
   refine skip_ ?_
   refine skip_ ?_
   refine pure_ (.bool true) ?_
   refine pure_ (.bool true) ?_
   refine skip_ ?_
   refine skip_ ?_
   refine pure_ (.bool true) ?_
   refine pure_ (.bool true) ?_
   refine nil_ (then_n (seq_ (reg_ ?_)))
   refine pure_ (.bool true) ?_
   refine pure_ (.bool true) ?_
   refine loadN_ zS27 0 56 (polC (upd5 x (l0 % 5) (l1 % 5) (l2 % 5) (l3 % 5) (l4 % 5)) xa xn xc) zb13 0 ?_
   refine call_ 29 #[.agg (polC (upd5 x (l0 % 5) (l1 % 5) (l2 % 5) (l3 % 5) (l4 % 5)) xa xn xc)] ?_
   refine (check_any (upd5 x (l0 % 5) (l1 % 5) (l2 % 5) (l3 % 5) (l4 % 5)) xa xn xc _).mono ?_; rintro _ zw44 ⟨rfl, zh45⟩
   have zS46 := zS27.quiet zh45
   refine pureE_ (.bool ((polCode (upd5 x (l0 % 5) (l1 % 5) (l2 % 5) (l3 % 5) (l4 % 5)) xn) == 0)) (.bool true) (congrArg Value.bool (eqT (by have zk := ord_code (kn := xn) hX (l0 % 5) (l1 % 5) (l2 % 5) (l3 % 5) (l4 % 5) (by omega) _ rfl; omega))) ?_
   refine pure_ (.bool true) ?_
   refine pure_ (.bool true) ?_
   refine pure_ (.bool true) ?_
   refine pure_ (.bool true) ?_
   refine pure_ (.bool true) ?_
   refine pure_ (.bool true) ?_
   refine skip_ ?_
   refine skip_ ?_
   refine skip_ ?_
   refine pure_ (.bool true) ?_
   refine pure_ (.bool true) ?_
   refine pure_ (.bool true) ?_
   refine nil_ (then_n (wp_ret ?_))
   refine ret_ rfl (res_ [.tmp 4] [.bool true] (.bool true) ⟨res_tmp, trivial⟩) ?_
   exact ⟨rfl, zS46.ch⟩
 intro zh47
 have zh48 := eqF' zh47
 refine move_ ?_
 refine pure_ (.bool (((10 * ((10 * ((10 * ((10 * (0 + (l0 % 5))) + (l1 % 5))) + (l2 % 5))) + (l3 % 5))) + (l4 % 5)) == 2314)) ?_
 refine pure_ (.bool (((10 * ((10 * ((10 * ((10 * (0 + (l0 % 5))) + (l1 % 5))) + (l2 % 5))) + (l3 % 5))) + (l4 % 5)) == 2314)) ?_
 refine move_ ?_
 refine slot_ 46 (((10 * ((10 * ((10 * ((10 * (0 + (l0 % 5))) + (l1 % 5))) + (l2 % 5))) + (l3 % 5))) + (l4 % 5)) == 2314) ?_ ?_
 · intro zh49
   have zh50 := eqT' zh49
   refine skip_ ?_
   refine skip_ ?_
   refine pure_ (.bool true) ?_
   refine pure_ (.bool true) ?_
   refine skip_ ?_
   refine skip_ ?_
   refine pure_ (.bool true) ?_
   refine pure_ (.bool true) ?_
   refine nil_ (then_n (seq_ (reg_ ?_)))
   refine pure_ (.bool true) ?_
   refine pure_ (.bool true) ?_
   refine loadN_ zS27 0 56 (polC (upd5 x (l0 % 5) (l1 % 5) (l2 % 5) (l3 % 5) (l4 % 5)) xa xn xc) zb13 0 ?_
   refine call_ 29 #[.agg (polC (upd5 x (l0 % 5) (l1 % 5) (l2 % 5) (l3 % 5) (l4 % 5)) xa xn xc)] ?_
   refine (check_any (upd5 x (l0 % 5) (l1 % 5) (l2 % 5) (l3 % 5) (l4 % 5)) xa xn xc _).mono ?_; rintro _ zw51 ⟨rfl, zh52⟩
   have zS53 := zS27.quiet zh52
   refine pureE_ (.bool ((polCode (upd5 x (l0 % 5) (l1 % 5) (l2 % 5) (l3 % 5) (l4 % 5)) xn) == 0)) (.bool true) (congrArg Value.bool (eqT (by have zk := ord_code (kn := xn) hX (l0 % 5) (l1 % 5) (l2 % 5) (l3 % 5) (l4 % 5) (by omega) _ rfl; omega))) ?_
   refine pure_ (.bool true) ?_
   refine pure_ (.bool true) ?_
   refine pure_ (.bool true) ?_
   refine pure_ (.bool true) ?_
   refine pure_ (.bool true) ?_
   refine pure_ (.bool true) ?_
   refine skip_ ?_
   refine skip_ ?_
   refine skip_ ?_
   refine pure_ (.bool true) ?_
   refine pure_ (.bool true) ?_
   refine pure_ (.bool true) ?_
   refine nil_ (then_n (wp_ret ?_))
   refine ret_ rfl (res_ [.tmp 4] [.bool true] (.bool true) ⟨res_tmp, trivial⟩) ?_
   exact ⟨rfl, zS53.ch⟩
 intro zh54
 have zh55 := eqF' zh54
 refine move_ ?_
 refine pure_ (.bool (((10 * ((10 * ((10 * ((10 * (0 + (l0 % 5))) + (l1 % 5))) + (l2 % 5))) + (l3 % 5))) + (l4 % 5)) == 3124)) ?_
 refine pure_ (.bool (((10 * ((10 * ((10 * ((10 * (0 + (l0 % 5))) + (l1 % 5))) + (l2 % 5))) + (l3 % 5))) + (l4 % 5)) == 3124)) ?_
 refine move_ ?_
 refine slot_ 50 (((10 * ((10 * ((10 * ((10 * (0 + (l0 % 5))) + (l1 % 5))) + (l2 % 5))) + (l3 % 5))) + (l4 % 5)) == 3124) ?_ ?_
 · intro zh56
   have zh57 := eqT' zh56
   refine skip_ ?_
   refine skip_ ?_
   refine pure_ (.bool true) ?_
   refine pure_ (.bool true) ?_
   refine nil_ (then_n (seq_ (reg_ ?_)))
   refine pure_ (.bool true) ?_
   refine pure_ (.bool true) ?_
   refine loadN_ zS27 0 56 (polC (upd5 x (l0 % 5) (l1 % 5) (l2 % 5) (l3 % 5) (l4 % 5)) xa xn xc) zb13 0 ?_
   refine call_ 29 #[.agg (polC (upd5 x (l0 % 5) (l1 % 5) (l2 % 5) (l3 % 5) (l4 % 5)) xa xn xc)] ?_
   refine (check_any (upd5 x (l0 % 5) (l1 % 5) (l2 % 5) (l3 % 5) (l4 % 5)) xa xn xc _).mono ?_; rintro _ zw58 ⟨rfl, zh59⟩
   have zS60 := zS27.quiet zh59
   refine pureE_ (.bool ((polCode (upd5 x (l0 % 5) (l1 % 5) (l2 % 5) (l3 % 5) (l4 % 5)) xn) == 0)) (.bool true) (congrArg Value.bool (eqT (by have zk := ord_code (kn := xn) hX (l0 % 5) (l1 % 5) (l2 % 5) (l3 % 5) (l4 % 5) (by omega) _ rfl; omega))) ?_
   refine pure_ (.bool true) ?_
   refine pure_ (.bool true) ?_
   refine pure_ (.bool true) ?_
   refine pure_ (.bool true) ?_
   refine pure_ (.bool true) ?_
   refine pure_ (.bool true) ?_
   refine skip_ ?_
   refine skip_ ?_
   refine skip_ ?_
   refine pure_ (.bool true) ?_
   refine pure_ (.bool true) ?_
   refine pure_ (.bool true) ?_
   refine nil_ (then_n (wp_ret ?_))
   refine ret_ rfl (res_ [.tmp 4] [.bool true] (.bool true) ⟨res_tmp, trivial⟩) ?_
   exact ⟨rfl, zS60.ch⟩
 intro zh61
 have zh62 := eqF' zh61
 refine move_ ?_
 refine pure_ (.bool (((10 * ((10 * ((10 * ((10 * (0 + (l0 % 5))) + (l1 % 5))) + (l2 % 5))) + (l3 % 5))) + (l4 % 5)) == 3214)) ?_
 refine pure_ (.bool (((10 * ((10 * ((10 * ((10 * (0 + (l0 % 5))) + (l1 % 5))) + (l2 % 5))) + (l3 % 5))) + (l4 % 5)) == 3214)) ?_
 refine assign_ ?_
 refine nil_ (then_n (seq_ (reg_ ?_)))
 refine pure_ (.bool true) ?_
 refine pure_ (.bool true) ?_
 refine loadN_ zS27 0 56 (polC (upd5 x (l0 % 5) (l1 % 5) (l2 % 5) (l3 % 5) (l4 % 5)) xa xn xc) zb13 0 ?_
 refine split_b (((10 * ((10 * ((10 * ((10 * (0 + (l0 % 5))) + (l1 % 5))) + (l2 % 5))) + (l3 % 5))) + (l4 % 5)) == 3214) ?_ ?_
 · intro zh63
   have zh64 := eqT' zh63
   refine call_ 29 #[.agg (polC (upd5 x (l0 % 5) (l1 % 5) (l2 % 5) (l3 % 5) (l4 % 5)) xa xn xc)] ?_
   refine (check_any (upd5 x (l0 % 5) (l1 % 5) (l2 % 5) (l3 % 5) (l4 % 5)) xa xn xc _).mono ?_; rintro _ zw65 ⟨rfl, zh66⟩
   have zS67 := zS27.quiet zh66
   refine pureE_ (.bool ((polCode (upd5 x (l0 % 5) (l1 % 5) (l2 % 5) (l3 % 5) (l4 % 5)) xn) == 0)) (.bool true) (congrArg Value.bool (eqT (by have zk := ord_code (kn := xn) hX (l0 % 5) (l1 % 5) (l2 % 5) (l3 % 5) (l4 % 5) (by omega) _ rfl; omega))) ?_
   refine move_ ?_
   refine pure_ (.bool (true == (((10 * ((10 * ((10 * ((10 * (0 + (l0 % 5))) + (l1 % 5))) + (l2 % 5))) + (l3 % 5))) + (l4 % 5)) == 3214))) ?_
   refine pure_ (.bool (true == (((10 * ((10 * ((10 * ((10 * (0 + (l0 % 5))) + (l1 % 5))) + (l2 % 5))) + (l3 % 5))) + (l4 % 5)) == 3214))) ?_
   refine move_ ?_
   refine slotK_ 62 (true == (((10 * ((10 * ((10 * ((10 * (0 + (l0 % 5))) + (l1 % 5))) + (l2 % 5))) + (l3 % 5))) + (l4 % 5)) == 3214)) true ((congr (congrArg BEq.beq (rfl)) (zh63))) ?_
   refine move_ ?_
   refine move_ ?_
   refine slotK_ 64 (((10 * ((10 * ((10 * ((10 * (0 + (l0 % 5))) + (l1 % 5))) + (l2 % 5))) + (l3 % 5))) + (l4 % 5)) == 3214) true (zh63) ?_
   refine skip_ ?_
   refine skip_ ?_
   refine skip_ ?_
   refine pure_ (.bool true) ?_
   refine pure_ (.bool true) ?_
   refine pure_ (.bool true) ?_
   refine nil_ (then_n (wp_ret ?_))
   refine ret_ rfl (res_ [.tmp 4] [.bool true] (.bool true) ⟨res_tmp, trivial⟩) ?_
   exact ⟨rfl, zS67.ch⟩
 intro zh68
 have zh69 := eqF' zh68
 refine call_ 29 #[.agg (polC (upd5 x (l0 % 5) (l1 % 5) (l2 % 5) (l3 % 5) (l4 % 5)) xa xn xc)] ?_
 refine (check_any (upd5 x (l0 % 5) (l1 % 5) (l2 % 5) (l3 % 5) (l4 % 5)) xa xn xc _).mono ?_; rintro _ zw70 ⟨rfl, zh71⟩
 have zS72 := zS27.quiet zh71
 refine pureE_ (.bool ((polCode (upd5 x (l0 % 5) (l1 % 5) (l2 % 5) (l3 % 5) (l4 % 5)) xn) == 0)) (.bool false) (congrArg Value.bool (eqF (by have zk := ord_code (kn := xn) hX (l0 % 5) (l1 % 5) (l2 % 5) (l3 % 5) (l4 % 5) (by omega) _ rfl; omega))) ?_
 refine move_ ?_
 refine pure_ (.bool (false == (((10 * ((10 * ((10 * ((10 * (0 + (l0 % 5))) + (l1 % 5))) + (l2 % 5))) + (l3 % 5))) + (l4 % 5)) == 3214))) ?_
 refine pure_ (.bool (false == (((10 * ((10 * ((10 * ((10 * (0 + (l0 % 5))) + (l1 % 5))) + (l2 % 5))) + (l3 % 5))) + (l4 % 5)) == 3214))) ?_
 refine move_ ?_
 refine slotK_ 62 (false == (((10 * ((10 * ((10 * ((10 * (0 + (l0 % 5))) + (l1 % 5))) + (l2 % 5))) + (l3 % 5))) + (l4 % 5)) == 3214)) true ((congr (congrArg BEq.beq (rfl)) (zh68))) ?_
 refine move_ ?_
 refine move_ ?_
 refine slotK_ 64 (((10 * ((10 * ((10 * ((10 * (0 + (l0 % 5))) + (l1 % 5))) + (l2 % 5))) + (l3 % 5))) + (l4 % 5)) == 3214) false (zh68) ?_
 refine loadN_ zS72 0 56 (polC (upd5 x (l0 % 5) (l1 % 5) (l2 % 5) (l3 % 5) (l4 % 5)) xa xn xc) zb13 0 ?_
 refine call_ 29 #[.agg (polC (upd5 x (l0 % 5) (l1 % 5) (l2 % 5) (l3 % 5) (l4 % 5)) xa xn xc)] ?_
 refine (check_any (upd5 x (l0 % 5) (l1 % 5) (l2 % 5) (l3 % 5) (l4 % 5)) xa xn xc _).mono ?_; rintro _ zw73 ⟨rfl, zh74⟩
 have zS75 := zS72.quiet zh74
 refine pureE_ (.bool ((polCode (upd5 x (l0 % 5) (l1 % 5) (l2 % 5) (l3 % 5) (l4 % 5)) xn) == 40)) (.bool true) (congrArg Value.bool (eqT (by have zk := ord_code (kn := xn) hX (l0 % 5) (l1 % 5) (l2 % 5) (l3 % 5) (l4 % 5) (by omega) _ rfl; omega))) ?_
 refine pure_ (.bool true) ?_
 refine pure_ (.bool true) ?_
 refine pure_ (.bool true) ?_
 refine nil_ (then_n (wp_ret ?_))
 refine ret_ rfl (res_ [.tmp 4] [.bool true] (.bool true) ⟨res_tmp, trivial⟩) ?_
 exact ⟨rfl, zS75.ch⟩

def updf {α : Type} (f : Nat → α) (i : Nat) (v : α) : Nat → α := fun j => bif Nat.beq j i then v else f j
def k70 (n : Nat) : Nat := min n 70
theorem k70_is (n : Nat) : (if (70 : Int) < ((n : Nat) : Int) then 70 else ((n : Nat) : Int)) = ((k70 n : Nat) : Int) := by unfold k70; split <;> omega
theorem k70_le {n c : Nat} (h : n ≤ c) : k70 n ≤ c := by unfold k70; omega
theorem keys_code {x : Nat → Int} {kn : Nat → Nat} (hX : ∀ j, condB j x kn = true) (i : Nat) (hi : i < 4) (m : Nat) : (1 ≤ m ∧ m ≤ 64 ∧ polCode x (updf kn i m) = 0) ∨ ((m = 0 ∨ 64 < m) ∧ polCode x (updf kn i m) = 41) := by
  have h1 := hX 1
  have hc : ∀ j, j ≠ 1 → condB j x (updf kn i m) = true := fun j hj => by
    have := hX j
    unfold condB at this ⊢
    match j, hj, this with
    | 0, _, h => exact h
    | 2, _, h => exact h
    | 3, _, h => exact h
    | 4, _, h => exact h
    | 5, _, h => exact h
    | 6, _, h => exact h
    | 7, _, h => exact h
    | 8, _, h => exact h
    | 9, _, h => exact h
    | 10, _, h => exact h
    | j + 11, _, h => rfl
  simp only [condB, keys3, Bool.and_eq_true] at h1
  obtain ⟨⟨k0, k1, k2⟩, k3⟩ := h1
  have e : condB 1 x (updf kn i m) = keyB m := by
    show ((keyB (updf kn i m 0) && (keyB (updf kn i m 1) && keyB (updf kn i m 2))) && keyB (updf kn i m 3)) = keyB m
    match i, hi with
    | 0, _ => show ((keyB m && (keyB (kn 1) && keyB (kn 2))) && keyB (kn 3)) = keyB m; simp [k1, k2, k3]
    | 1, _ => show ((keyB (kn 0) && (keyB m && keyB (kn 2))) && keyB (kn 3)) = keyB m; simp [k0, k2, k3]
    | 2, _ => show ((keyB (kn 0) && (keyB (kn 1) && keyB m)) && keyB (kn 3)) = keyB m; simp [k0, k1, k3]
    | 3, _ => show ((keyB (kn 0) && (keyB (kn 1) && keyB (kn 2))) && keyB m) = keyB m; simp [k0, k1, k2]
    | i + 4, h => omega
  cases hb : keyB m with
  | true =>
    refine .inl ⟨?_, ?_, polCode_ok fun j => ?_⟩
    · simp [keyB] at hb; omega
    · simp [keyB] at hb; omega
    · by_cases hj : j = 1
      · subst hj; rw [e, hb]
      · exact hc j hj
  | false =>
    refine .inr ⟨?_, ?_⟩
    · simp [keyB] at hb; omega
    · have := polCode_at (q := x) (kn := updf kn i m) 1 (by omega) (fun j hj => hc j (by omega)) (by rw [e, hb])
      simpa using this

set_option maxRecDepth 100000 in
set_option maxHeartbeats 4000000 in
theorem policyKeys_any (q : Nat → Int) (ka : Nat → Option Addr) (kn kc : Nat → Nat) (kb : Nat → Nat → Int) (ad : Addr) (n c : Nat) (bb : Nat → Int) (which : Int) (hw : 0 ≤ which ∧ which ≤ 255) (w : World) (hq : ∀ i, -9223372036854775808 ≤ q i ∧ q i ≤ 9223372036854775807) (hK : ∀ i, i < 4 → KeyIn [] w (ka i) (kn i) (kc i) (kb i)) (hc : n ≤ c) (hb : ∀ j, j < n → w.cell? (ad.add j) = some (.int .u8 (bb j))) :
    Gives Try.prog 14 #[.agg (polC q ka kn kc), .slice (some ad) n c, .int .u8 which] w fun v w1 => v = .bool true ∧ Ch [] w w1 := by
 have hk70 : k70 n ≤ 70 := by unfold k70; omega
 have S0 := St.nil [] w
 refine enter_ Try.func14 rfl ?_
 refine seq_ (reg_ ?_)
 refine new_ S0 (fun b => .pointer (some ⟨b, 0, none⟩)) (.cells (polC q ka kn kc) 37) ?_
 intro zb1 zw2 zS3
 refine pure_ (.bool false) ?_
 refine nil_ (then_n (seq_ (reg_ ?_)))
 refine call_ 27 #[] ?_
 refine (shown12 _).mono ?_; rintro _ zw4 ⟨rfl, zhc5⟩
 have zS6 := zS3.quiet zhc5
 refine pure_ (.bool true) ?_
 refine nil_ (then_n (seq_ (reg_ ?_)))
 refine loadN_ zS6 0 56 (polC q ka kn kc) zb1 0 ?_
 refine call_ 33 #[.agg (polC q ka kn kc)] ?_
 refine (fitA_ q ka kn kc kb w _ zS6.ch hq hK).mono ?_; rintro _ zw7 ⟨x, xa, xn, xc, hX, rfl, zh8⟩
 have zS9 := zS6.quiet zh8
 refine new_ zS9 (fun b => .pointer (some ⟨b, 0, none⟩)) (.cells #[.int .i64 0, .int .i64 0, .int .i64 0, .int .i64 0, .int .i64 0, .slice none 0 0, .slice none 0 0, .slice none 0 0, .slice none 0 0, .int .i64 0, .int .i64 0, .int .i64 0, .int .i64 0, .int .i64 0, .int .i64 0, .int .i64 0, .int .i64 0, .int .i64 0, .int .i64 0, .int .i64 0, .int .i64 0, .int .i64 0, .int .i64 0, .int .i64 0, .int .i64 0, .int .i64 0, .int .i64 0, .int .i64 0, .int .i64 0, .int .i64 0, .int .i64 0, .int .i64 0, .int .i64 0, .int .i64 0, .int .i64 0, .int .i64 0, .int .i64 0, .int .i64 0, .int .i64 0, .int .i64 0, .int .i64 0, .int .i64 0, .int .i64 0, .int .i64 0, .int .i64 0, .int .i64 0, .int .i64 0, .int .i64 0, .int .i64 0, .int .i64 0, .int .i64 0, .int .i64 0, .int .i64 0, .int .i64 0, .int .i64 0, .int .i64 0] 37) ?_
 intro zb10 zw11 zS12
 refine store_ zS12 0 (.agg (polC x xa xn xc)) zb10 0 ?_
 intro zw13 zS14
 refine nil_ (then_n (seq_ (reg_ ?_)))
 refine new_ zS14 (fun b => .slice (some ⟨b, 0, none⟩) 0 0) (.cells #[] 5) ?_
 intro zb15 zw16 zS17
 refine pure_ (.slice (some ad) n c) ?_
 refine pure_ (.slice (some ad) n c) ?_
 refine pure_ (.int .i64 ((n : Nat) : Int)) ?_
 refine pureE_ (.int .i64 (if 70 < ((n : Nat) : Int) then 70 else ((n : Nat) : Int))) (.int .i64 ((k70 n : Nat) : Int)) (congrArg _ (k70_is _)) ?_
 refine pure_ (.slice (some ad) (k70 n) c) ?_ (h := run_cut (n := n) (e := 5) (kd := .i64) (k70 n) (k70_le hc))
 refine split_b ((((k70 n) : Nat) : Int) == 0) ?_ ?_
 · intro zh18
   have zh19 := eqT' zh18
   refine appendO_ (T := 5) (n := 0) (c := 0) (src_bytes zS17 (tx := 32) (e' := 5) (m := (k70 n)) (c := c) (by kernel_rfl) (by simp) (n := n) (by unfold k70; omega) hb) (by omega) (some ⟨zb15, 0, none⟩) (by decide) rfl ?_
   refine assign_ ?_
   refine nil_ (then_n (seq_ (seq_ (reg_ ?_))))
   refine pure_ (.int .u8 which) ?_
   refine pureE_ (.int .u8 (Int.tmod which 4)) (.int .u8 (which % 4)) (congrArg _ (IntWalk.rem_in _ _ (by omega))) ?_
   refine pure_ (.bool ((which % 4) == 3)) ?_
   refine nil_ (then_n ?_)
   refine cond_S ((which % 4) == 3) ?_ ?_
   · intro zh20
     have zh21 := eqT' zh20
     refine reg_ ?_
     refine move_ ?_
     refine pure_ (.pointer (some ⟨zb10, 8, none⟩)) ?_
     refine store_ zS17 1 (.slice (some ⟨zb15, 0, none⟩) 0 0) zb10 8 ?_
     intro zw22 zS23
     refine nil_ (then_n (seq_ (reg_ ?_)))
     refine pure_ (.int .i64 0) ?_
     refine nil_ (then_n (seq_ (seq_ (reg_ ?_))))
     refine move_ ?_
     refine pure_ (.int .i64 0) ?_
     refine pure_ (.bool true) ?_
     refine pure_ (.bool true) ?_
     refine skip_ ?_
     refine skip_ ?_
     refine skip_ ?_
     refine pure_ (.bool true) ?_
     refine nil_ (then_n (cond_T ?_))
     refine reg_ ?_
     refine pure_ (.int .i64 41) ?_
     refine nil_ (then_n (seq_ (reg_ ?_)))
     refine pure_ (.bool true) ?_
     refine pure_ (.bool true) ?_
     refine loadN_ zS23 1 56 #[.int .i64 (x 0), .int .i64 (x 1), .int .i64 (x 2), .int .i64 (x 3), .int .i64 (x 4), .slice (xa 0) (xn 0) (xc 0), .slice (xa 1) (xn 1) (xc 1), .slice (xa 2) (xn 2) (xc 2), .slice (some ⟨zb15, 0, none⟩) 0 0, .int .i64 (x 9), .int .i64 (x 10), .int .i64 (x 11), .int .i64 (x 12), .int .i64 (x 13), .int .i64 (x 14), .int .i64 (x 15), .int .i64 (x 16), .int .i64 (x 17), .int .i64 (x 18), .int .i64 (x 19), .int .i64 (x 20), .int .i64 (x 21), .int .i64 (x 22), .int .i64 (x 23), .int .i64 (x 24), .int .i64 (x 25), .int .i64 (x 26), .int .i64 (x 27), .int .i64 (x 28), .int .i64 (x 29), .int .i64 (x 30), .int .i64 (x 31), .int .i64 (x 32), .int .i64 (x 33), .int .i64 (x 34), .int .i64 (x 35), .int .i64 (x 36), .int .i64 (x 37), .int .i64 (x 38), .int .i64 (x 39), .int .i64 (x 40), .int .i64 (x 41), .int .i64 (x 42), .int .i64 (x 43), .int .i64 (x 44), .int .i64 (x 45), .int .i64 (x 46), .int .i64 (x 47), .int .i64 (x 48), .int .i64 (x 49), .int .i64 (x 50), .int .i64 (x 51), .int .i64 (x 52), .int .i64 (x 53), .int .i64 (x 54), .int .i64 (x 55)] zb10 0 ?_
     refine call_ 29 #[.agg #[.int .i64 (x 0), .int .i64 (x 1), .int .i64 (x 2), .int .i64 (x 3), .int .i64 (x 4), .slice (xa 0) (xn 0) (xc 0), .slice (xa 1) (xn 1) (xc 1), .slice (xa 2) (xn 2) (xc 2), .slice (some ⟨zb15, 0, none⟩) 0 0, .int .i64 (x 9), .int .i64 (x 10), .int .i64 (x 11), .int .i64 (x 12), .int .i64 (x 13), .int .i64 (x 14), .int .i64 (x 15), .int .i64 (x 16), .int .i64 (x 17), .int .i64 (x 18), .int .i64 (x 19), .int .i64 (x 20), .int .i64 (x 21), .int .i64 (x 22), .int .i64 (x 23), .int .i64 (x 24), .int .i64 (x 25), .int .i64 (x 26), .int .i64 (x 27), .int .i64 (x 28), .int .i64 (x 29), .int .i64 (x 30), .int .i64 (x 31), .int .i64 (x 32), .int .i64 (x 33), .int .i64 (x 34), .int .i64 (x 35), .int .i64 (x 36), .int .i64 (x 37), .int .i64 (x 38), .int .i64 (x 39), .int .i64 (x 40), .int .i64 (x 41), .int .i64 (x 42), .int .i64 (x 43), .int .i64 (x 44), .int .i64 (x 45), .int .i64 (x 46), .int .i64 (x 47), .int .i64 (x 48), .int .i64 (x 49), .int .i64 (x 50), .int .i64 (x 51), .int .i64 (x 52), .int .i64 (x 53), .int .i64 (x 54), .int .i64 (x 55)]] ?_
     refine (check_any x (updf xa 3 (some ⟨zb15, 0, none⟩)) (updf xn 3 0) (updf xc 3 0) _).mono ?_; rintro _ zw24 ⟨rfl, zh25⟩
     have zS26 := zS23.quiet zh25
     refine pure_ (.int .i64 41) ?_
     refine pureE_ (.bool ((polCode x (updf xn 3 0)) == 41)) (.bool true) (congrArg Value.bool (eqT (by have zk := keys_code hX 3 (by omega) 0; omega))) ?_
     refine pure_ (.bool true) ?_
     refine pure_ (.bool true) ?_
     refine nil_ (then_n (wp_ret ?_))
     refine ret_ rfl (res_ [.tmp 6] [.bool true] (.bool true) ⟨res_tmp, trivial⟩) ?_
     exact ⟨rfl, zS26.ch⟩
   intro zh27
   have zh28 := eqF' zh27
   refine reg_ ?_
   refine pure_ (.int .u8 which) ?_
   refine pureE_ (.int .u8 (Int.tmod which 4)) (.int .u8 (which % 4)) (congrArg _ (IntWalk.rem_in _ _ (by omega))) ?_
   refine move_ ?_
   refine pure_ (.pointer (some ⟨zb10, 5, none⟩)) ?_
   refine split_b ((which % 4) == 0) ?_ ?_
   · intro zh29
     have zh30 := eqT' zh29
     refine slotI_ 27 .u8 (which % 4) 0 (by omega) ?_
     have zh31 : (which % 4) = 0 := by omega
     refine pure_ (.pointer (some ⟨zb10, 5, none⟩)) ?_
     refine store_ zS17 1 (.slice (some ⟨zb15, 0, none⟩) 0 0) zb10 5 ?_
     intro zw32 zS33
     refine nil_ (then_n (seq_ (reg_ ?_)))
     refine pure_ (.int .i64 0) ?_
     refine nil_ (then_n (seq_ (seq_ (reg_ ?_))))
     refine move_ ?_
     refine pure_ (.int .i64 0) ?_
     refine pure_ (.bool true) ?_
     refine pure_ (.bool true) ?_
     refine skip_ ?_
     refine skip_ ?_
     refine skip_ ?_
     refine pure_ (.bool true) ?_
     refine nil_ (then_n (cond_T ?_))
     refine reg_ ?_
     refine pure_ (.int .i64 41) ?_
     refine nil_ (then_n (seq_ (reg_ ?_)))
     refine pure_ (.bool true) ?_
     refine pure_ (.bool true) ?_
     refine loadN_ zS33 1 56 #[.int .i64 (x 0), .int .i64 (x 1), .int .i64 (x 2), .int .i64 (x 3), .int .i64 (x 4), .slice (some ⟨zb15, 0, none⟩) 0 0, .slice (xa 1) (xn 1) (xc 1), .slice (xa 2) (xn 2) (xc 2), .slice (xa 3) (xn 3) (xc 3), .int .i64 (x 9), .int .i64 (x 10), .int .i64 (x 11), .int .i64 (x 12), .int .i64 (x 13), .int .i64 (x 14), .int .i64 (x 15), .int .i64 (x 16), .int .i64 (x 17), .int .i64 (x 18), .int .i64 (x 19), .int .i64 (x 20), .int .i64 (x 21), .int .i64 (x 22), .int .i64 (x 23), .int .i64 (x 24), .int .i64 (x 25), .int .i64 (x 26), .int .i64 (x 27), .int .i64 (x 28), .int .i64 (x 29), .int .i64 (x 30), .int .i64 (x 31), .int .i64 (x 32), .int .i64 (x 33), .int .i64 (x 34), .int .i64 (x 35), .int .i64 (x 36), .int .i64 (x 37), .int .i64 (x 38), .int .i64 (x 39), .int .i64 (x 40), .int .i64 (x 41), .int .i64 (x 42), .int .i64 (x 43), .int .i64 (x 44), .int .i64 (x 45), .int .i64 (x 46), .int .i64 (x 47), .int .i64 (x 48), .int .i64 (x 49), .int .i64 (x 50), .int .i64 (x 51), .int .i64 (x 52), .int .i64 (x 53), .int .i64 (x 54), .int .i64 (x 55)] zb10 0 ?_
     refine call_ 29 #[.agg #[.int .i64 (x 0), .int .i64 (x 1), .int .i64 (x 2), .int .i64 (x 3), .int .i64 (x 4), .slice (some ⟨zb15, 0, none⟩) 0 0, .slice (xa 1) (xn 1) (xc 1), .slice (xa 2) (xn 2) (xc 2), .slice (xa 3) (xn 3) (xc 3), .int .i64 (x 9), .int .i64 (x 10), .int .i64 (x 11), .int .i64 (x 12), .int .i64 (x 13), .int .i64 (x 14), .int .i64 (x 15), .int .i64 (x 16), .int .i64 (x 17), .int .i64 (x 18), .int .i64 (x 19), .int .i64 (x 20), .int .i64 (x 21), .int .i64 (x 22), .int .i64 (x 23), .int .i64 (x 24), .int .i64 (x 25), .int .i64 (x 26), .int .i64 (x 27), .int .i64 (x 28), .int .i64 (x 29), .int .i64 (x 30), .int .i64 (x 31), .int .i64 (x 32), .int .i64 (x 33), .int .i64 (x 34), .int .i64 (x 35), .int .i64 (x 36), .int .i64 (x 37), .int .i64 (x 38), .int .i64 (x 39), .int .i64 (x 40), .int .i64 (x 41), .int .i64 (x 42), .int .i64 (x 43), .int .i64 (x 44), .int .i64 (x 45), .int .i64 (x 46), .int .i64 (x 47), .int .i64 (x 48), .int .i64 (x 49), .int .i64 (x 50), .int .i64 (x 51), .int .i64 (x 52), .int .i64 (x 53), .int .i64 (x 54), .int .i64 (x 55)]] ?_
     refine (check_any x (updf xa 0 (some ⟨zb15, 0, none⟩)) (updf xn 0 0) (updf xc 0 0) _).mono ?_; rintro _ zw34 ⟨rfl, zh35⟩
     have zS36 := zS33.quiet zh35
     refine pure_ (.int .i64 41) ?_
     refine pureE_ (.bool ((polCode x (updf xn 0 0)) == 41)) (.bool true) (congrArg Value.bool (eqT (by have zk := keys_code hX 0 (by omega) 0; omega))) ?_
     refine pure_ (.bool true) ?_
     refine pure_ (.bool true) ?_
     refine nil_ (then_n (wp_ret ?_))
     refine ret_ rfl (res_ [.tmp 6] [.bool true] (.bool true) ⟨res_tmp, trivial⟩) ?_
     exact ⟨rfl, zS36.ch⟩
   intro zh37
   have zh38 := eqF' zh37
   refine split_b ((which % 4) == 1) ?_ ?_
   · intro zh39
     have zh40 := eqT' zh39
     refine slotI_ 27 .u8 (which % 4) 1 (by omega) ?_
     have zh41 : (which % 4) = 1 := by omega
     refine pure_ (.pointer (some ⟨zb10, 6, none⟩)) ?_
     refine store_ zS17 1 (.slice (some ⟨zb15, 0, none⟩) 0 0) zb10 6 ?_
     intro zw42 zS43
     refine nil_ (then_n (seq_ (reg_ ?_)))
     refine pure_ (.int .i64 0) ?_
     refine nil_ (then_n (seq_ (seq_ (reg_ ?_))))
     refine move_ ?_
     refine pure_ (.int .i64 0) ?_
     refine pure_ (.bool true) ?_
     refine pure_ (.bool true) ?_
     refine skip_ ?_
     refine skip_ ?_
     refine skip_ ?_
     refine pure_ (.bool true) ?_
     refine nil_ (then_n (cond_T ?_))
     refine reg_ ?_
     refine pure_ (.int .i64 41) ?_
     refine nil_ (then_n (seq_ (reg_ ?_)))
     refine pure_ (.bool true) ?_
     refine pure_ (.bool true) ?_
     refine loadN_ zS43 1 56 #[.int .i64 (x 0), .int .i64 (x 1), .int .i64 (x 2), .int .i64 (x 3), .int .i64 (x 4), .slice (xa 0) (xn 0) (xc 0), .slice (some ⟨zb15, 0, none⟩) 0 0, .slice (xa 2) (xn 2) (xc 2), .slice (xa 3) (xn 3) (xc 3), .int .i64 (x 9), .int .i64 (x 10), .int .i64 (x 11), .int .i64 (x 12), .int .i64 (x 13), .int .i64 (x 14), .int .i64 (x 15), .int .i64 (x 16), .int .i64 (x 17), .int .i64 (x 18), .int .i64 (x 19), .int .i64 (x 20), .int .i64 (x 21), .int .i64 (x 22), .int .i64 (x 23), .int .i64 (x 24), .int .i64 (x 25), .int .i64 (x 26), .int .i64 (x 27), .int .i64 (x 28), .int .i64 (x 29), .int .i64 (x 30), .int .i64 (x 31), .int .i64 (x 32), .int .i64 (x 33), .int .i64 (x 34), .int .i64 (x 35), .int .i64 (x 36), .int .i64 (x 37), .int .i64 (x 38), .int .i64 (x 39), .int .i64 (x 40), .int .i64 (x 41), .int .i64 (x 42), .int .i64 (x 43), .int .i64 (x 44), .int .i64 (x 45), .int .i64 (x 46), .int .i64 (x 47), .int .i64 (x 48), .int .i64 (x 49), .int .i64 (x 50), .int .i64 (x 51), .int .i64 (x 52), .int .i64 (x 53), .int .i64 (x 54), .int .i64 (x 55)] zb10 0 ?_
     refine call_ 29 #[.agg #[.int .i64 (x 0), .int .i64 (x 1), .int .i64 (x 2), .int .i64 (x 3), .int .i64 (x 4), .slice (xa 0) (xn 0) (xc 0), .slice (some ⟨zb15, 0, none⟩) 0 0, .slice (xa 2) (xn 2) (xc 2), .slice (xa 3) (xn 3) (xc 3), .int .i64 (x 9), .int .i64 (x 10), .int .i64 (x 11), .int .i64 (x 12), .int .i64 (x 13), .int .i64 (x 14), .int .i64 (x 15), .int .i64 (x 16), .int .i64 (x 17), .int .i64 (x 18), .int .i64 (x 19), .int .i64 (x 20), .int .i64 (x 21), .int .i64 (x 22), .int .i64 (x 23), .int .i64 (x 24), .int .i64 (x 25), .int .i64 (x 26), .int .i64 (x 27), .int .i64 (x 28), .int .i64 (x 29), .int .i64 (x 30), .int .i64 (x 31), .int .i64 (x 32), .int .i64 (x 33), .int .i64 (x 34), .int .i64 (x 35), .int .i64 (x 36), .int .i64 (x 37), .int .i64 (x 38), .int .i64 (x 39), .int .i64 (x 40), .int .i64 (x 41), .int .i64 (x 42), .int .i64 (x 43), .int .i64 (x 44), .int .i64 (x 45), .int .i64 (x 46), .int .i64 (x 47), .int .i64 (x 48), .int .i64 (x 49), .int .i64 (x 50), .int .i64 (x 51), .int .i64 (x 52), .int .i64 (x 53), .int .i64 (x 54), .int .i64 (x 55)]] ?_
     refine (check_any x (updf xa 1 (some ⟨zb15, 0, none⟩)) (updf xn 1 0) (updf xc 1 0) _).mono ?_; rintro _ zw44 ⟨rfl, zh45⟩
     have zS46 := zS43.quiet zh45
     refine pure_ (.int .i64 41) ?_
     refine pureE_ (.bool ((polCode x (updf xn 1 0)) == 41)) (.bool true) (congrArg Value.bool (eqT (by have zk := keys_code hX 1 (by omega) 0; omega))) ?_
     refine pure_ (.bool true) ?_
     refine pure_ (.bool true) ?_
     refine nil_ (then_n (wp_ret ?_))
     refine ret_ rfl (res_ [.tmp 6] [.bool true] (.bool true) ⟨res_tmp, trivial⟩) ?_
     exact ⟨rfl, zS46.ch⟩
   intro zh47
   have zh48 := eqF' zh47
   refine slotI_ 27 .u8 (which % 4) 2 (by omega) ?_
   have zh49 : (which % 4) = 2 := by omega
   refine pure_ (.pointer (some ⟨zb10, 7, none⟩)) ?_
   refine store_ zS17 1 (.slice (some ⟨zb15, 0, none⟩) 0 0) zb10 7 ?_
   intro zw50 zS51
   refine nil_ (then_n (seq_ (reg_ ?_)))
   refine pure_ (.int .i64 0) ?_
   refine nil_ (then_n (seq_ (seq_ (reg_ ?_))))
   refine move_ ?_
   refine pure_ (.int .i64 0) ?_
   refine pure_ (.bool true) ?_
   refine pure_ (.bool true) ?_
   refine skip_ ?_
   refine skip_ ?_
   refine skip_ ?_
   refine pure_ (.bool true) ?_
   refine nil_ (then_n (cond_T ?_))
   refine reg_ ?_
   refine pure_ (.int .i64 41) ?_
   refine nil_ (then_n (seq_ (reg_ ?_)))
   refine pure_ (.bool true) ?_
   refine pure_ (.bool true) ?_
   refine loadN_ zS51 1 56 #[.int .i64 (x 0), .int .i64 (x 1), .int .i64 (x 2), .int .i64 (x 3), .int .i64 (x 4), .slice (xa 0) (xn 0) (xc 0), .slice (xa 1) (xn 1) (xc 1), .slice (some ⟨zb15, 0, none⟩) 0 0, .slice (xa 3) (xn 3) (xc 3), .int .i64 (x 9), .int .i64 (x 10), .int .i64 (x 11), .int .i64 (x 12), .int .i64 (x 13), .int .i64 (x 14), .int .i64 (x 15), .int .i64 (x 16), .int .i64 (x 17), .int .i64 (x 18), .int .i64 (x 19), .int .i64 (x 20), .int .i64 (x 21), .int .i64 (x 22), .int .i64 (x 23), .int .i64 (x 24), .int .i64 (x 25), .int .i64 (x 26), .int .i64 (x 27), .int .i64 (x 28), .int .i64 (x 29), .int .i64 (x 30), .int .i64 (x 31), .int .i64 (x 32), .int .i64 (x 33), .int .i64 (x 34), .int .i64 (x 35), .int .i64 (x 36), .int .i64 (x 37), .int .i64 (x 38), .int .i64 (x 39), .int .i64 (x 40), .int .i64 (x 41), .int .i64 (x 42), .int .i64 (x 43), .int .i64 (x 44), .int .i64 (x 45), .int .i64 (x 46), .int .i64 (x 47), .int .i64 (x 48), .int .i64 (x 49), .int .i64 (x 50), .int .i64 (x 51), .int .i64 (x 52), .int .i64 (x 53), .int .i64 (x 54), .int .i64 (x 55)] zb10 0 ?_
   refine call_ 29 #[.agg #[.int .i64 (x 0), .int .i64 (x 1), .int .i64 (x 2), .int .i64 (x 3), .int .i64 (x 4), .slice (xa 0) (xn 0) (xc 0), .slice (xa 1) (xn 1) (xc 1), .slice (some ⟨zb15, 0, none⟩) 0 0, .slice (xa 3) (xn 3) (xc 3), .int .i64 (x 9), .int .i64 (x 10), .int .i64 (x 11), .int .i64 (x 12), .int .i64 (x 13), .int .i64 (x 14), .int .i64 (x 15), .int .i64 (x 16), .int .i64 (x 17), .int .i64 (x 18), .int .i64 (x 19), .int .i64 (x 20), .int .i64 (x 21), .int .i64 (x 22), .int .i64 (x 23), .int .i64 (x 24), .int .i64 (x 25), .int .i64 (x 26), .int .i64 (x 27), .int .i64 (x 28), .int .i64 (x 29), .int .i64 (x 30), .int .i64 (x 31), .int .i64 (x 32), .int .i64 (x 33), .int .i64 (x 34), .int .i64 (x 35), .int .i64 (x 36), .int .i64 (x 37), .int .i64 (x 38), .int .i64 (x 39), .int .i64 (x 40), .int .i64 (x 41), .int .i64 (x 42), .int .i64 (x 43), .int .i64 (x 44), .int .i64 (x 45), .int .i64 (x 46), .int .i64 (x 47), .int .i64 (x 48), .int .i64 (x 49), .int .i64 (x 50), .int .i64 (x 51), .int .i64 (x 52), .int .i64 (x 53), .int .i64 (x 54), .int .i64 (x 55)]] ?_
   refine (check_any x (updf xa 2 (some ⟨zb15, 0, none⟩)) (updf xn 2 0) (updf xc 2 0) _).mono ?_; rintro _ zw52 ⟨rfl, zh53⟩
   have zS54 := zS51.quiet zh53
   refine pure_ (.int .i64 41) ?_
   refine pureE_ (.bool ((polCode x (updf xn 2 0)) == 41)) (.bool true) (congrArg Value.bool (eqT (by have zk := keys_code hX 2 (by omega) 0; omega))) ?_
   refine pure_ (.bool true) ?_
   refine pure_ (.bool true) ?_
   refine nil_ (then_n (wp_ret ?_))
   refine ret_ rfl (res_ [.tmp 6] [.bool true] (.bool true) ⟨res_tmp, trivial⟩) ?_
   exact ⟨rfl, zS54.ch⟩
 intro zh55
 have zh56 := eqF' zh55
 refine appendZ_ (T := 5) zS17 (src_bytes zS17 (tx := 32) (e' := 5) (m := (k70 n)) (c := c) (by kernel_rfl) (by simp) (n := n) (by unfold k70; omega) hb) 1 rfl ((by omega)) (by omega) (by unfold maxLen; omega) ?_ (some ⟨zb15, 0, none⟩)
 intro zb57 zc58 zt59 zw60 zh62 zh63 zS61
 refine assign_ ?_
 refine nil_ (then_n (seq_ (seq_ (reg_ ?_))))
 refine pure_ (.int .u8 which) ?_
 refine pureE_ (.int .u8 (Int.tmod which 4)) (.int .u8 (which % 4)) (congrArg _ (IntWalk.rem_in _ _ (by omega))) ?_
 refine pure_ (.bool ((which % 4) == 3)) ?_
 refine nil_ (then_n ?_)
 refine cond_S ((which % 4) == 3) ?_ ?_
 · intro zh64
   have zh65 := eqT' zh64
   refine reg_ ?_
   refine move_ ?_
   refine pure_ (.pointer (some ⟨zb10, 8, none⟩)) ?_
   refine store_ zS61 2 (.slice (some ⟨zb57, 0, none⟩) (k70 n) zc58) zb10 8 ?_
   intro zw66 zS67
   refine nil_ (then_n (seq_ (reg_ ?_)))
   refine pure_ (.int .i64 0) ?_
   refine nil_ (then_n (seq_ (seq_ (reg_ ?_))))
   refine move_ ?_
   refine pure_ (.int .i64 (((k70 n) : Nat) : Int)) ?_
   refine pureE_ (.bool ((((k70 n) : Nat) : Int) == 0)) (.bool false) (congrArg Value.bool (zh55)) ?_
   refine pure_ (.bool false) ?_
   refine move_ ?_
   refine pure_ (.int .i64 (((k70 n) : Nat) : Int)) ?_
   refine pure_ (.bool (decide (64 < (((k70 n) : Nat) : Int)))) ?_
   refine pure_ (.bool (decide (64 < (((k70 n) : Nat) : Int)))) ?_
   refine nil_ (then_n ?_)
   refine cond_S (decide (64 < (((k70 n) : Nat) : Int))) ?_ ?_
   · intro zh68
     have zh69 := ltT' zh68
     refine reg_ ?_
     refine pure_ (.int .i64 41) ?_
     refine nil_ (then_n (seq_ (reg_ ?_)))
     refine pure_ (.bool true) ?_
     refine pure_ (.bool true) ?_
     refine loadN_ zS67 2 56 #[.int .i64 (x 0), .int .i64 (x 1), .int .i64 (x 2), .int .i64 (x 3), .int .i64 (x 4), .slice (xa 0) (xn 0) (xc 0), .slice (xa 1) (xn 1) (xc 1), .slice (xa 2) (xn 2) (xc 2), .slice (some ⟨zb57, 0, none⟩) (k70 n) zc58, .int .i64 (x 9), .int .i64 (x 10), .int .i64 (x 11), .int .i64 (x 12), .int .i64 (x 13), .int .i64 (x 14), .int .i64 (x 15), .int .i64 (x 16), .int .i64 (x 17), .int .i64 (x 18), .int .i64 (x 19), .int .i64 (x 20), .int .i64 (x 21), .int .i64 (x 22), .int .i64 (x 23), .int .i64 (x 24), .int .i64 (x 25), .int .i64 (x 26), .int .i64 (x 27), .int .i64 (x 28), .int .i64 (x 29), .int .i64 (x 30), .int .i64 (x 31), .int .i64 (x 32), .int .i64 (x 33), .int .i64 (x 34), .int .i64 (x 35), .int .i64 (x 36), .int .i64 (x 37), .int .i64 (x 38), .int .i64 (x 39), .int .i64 (x 40), .int .i64 (x 41), .int .i64 (x 42), .int .i64 (x 43), .int .i64 (x 44), .int .i64 (x 45), .int .i64 (x 46), .int .i64 (x 47), .int .i64 (x 48), .int .i64 (x 49), .int .i64 (x 50), .int .i64 (x 51), .int .i64 (x 52), .int .i64 (x 53), .int .i64 (x 54), .int .i64 (x 55)] zb10 0 ?_
     refine call_ 29 #[.agg #[.int .i64 (x 0), .int .i64 (x 1), .int .i64 (x 2), .int .i64 (x 3), .int .i64 (x 4), .slice (xa 0) (xn 0) (xc 0), .slice (xa 1) (xn 1) (xc 1), .slice (xa 2) (xn 2) (xc 2), .slice (some ⟨zb57, 0, none⟩) (k70 n) zc58, .int .i64 (x 9), .int .i64 (x 10), .int .i64 (x 11), .int .i64 (x 12), .int .i64 (x 13), .int .i64 (x 14), .int .i64 (x 15), .int .i64 (x 16), .int .i64 (x 17), .int .i64 (x 18), .int .i64 (x 19), .int .i64 (x 20), .int .i64 (x 21), .int .i64 (x 22), .int .i64 (x 23), .int .i64 (x 24), .int .i64 (x 25), .int .i64 (x 26), .int .i64 (x 27), .int .i64 (x 28), .int .i64 (x 29), .int .i64 (x 30), .int .i64 (x 31), .int .i64 (x 32), .int .i64 (x 33), .int .i64 (x 34), .int .i64 (x 35), .int .i64 (x 36), .int .i64 (x 37), .int .i64 (x 38), .int .i64 (x 39), .int .i64 (x 40), .int .i64 (x 41), .int .i64 (x 42), .int .i64 (x 43), .int .i64 (x 44), .int .i64 (x 45), .int .i64 (x 46), .int .i64 (x 47), .int .i64 (x 48), .int .i64 (x 49), .int .i64 (x 50), .int .i64 (x 51), .int .i64 (x 52), .int .i64 (x 53), .int .i64 (x 54), .int .i64 (x 55)]] ?_
     refine (check_any x (updf xa 3 (some ⟨zb57, 0, none⟩)) (updf xn 3 (k70 n)) (updf xc 3 zc58) _).mono ?_; rintro _ zw70 ⟨rfl, zh71⟩
     have zS72 := zS67.quiet zh71
     refine pure_ (.int .i64 41) ?_
     refine pureE_ (.bool ((polCode x (updf xn 3 (k70 n))) == 41)) (.bool true) (congrArg Value.bool (eqT (by have zk := keys_code hX 3 (by omega) (k70 n); omega))) ?_
     refine pure_ (.bool true) ?_
     refine pure_ (.bool true) ?_
     refine nil_ (then_n (wp_ret ?_))
     refine ret_ rfl (res_ [.tmp 6] [.bool true] (.bool true) ⟨res_tmp, trivial⟩) ?_
     exact ⟨rfl, zS72.ch⟩
   intro zh73
   have zh74 := ltF' zh73
   refine wp_skip (then_n (seq_ (reg_ ?_)))
   refine pure_ (.bool true) ?_
   refine pure_ (.bool true) ?_
   refine loadN_ zS67 2 56 #[.int .i64 (x 0), .int .i64 (x 1), .int .i64 (x 2), .int .i64 (x 3), .int .i64 (x 4), .slice (xa 0) (xn 0) (xc 0), .slice (xa 1) (xn 1) (xc 1), .slice (xa 2) (xn 2) (xc 2), .slice (some ⟨zb57, 0, none⟩) (k70 n) zc58, .int .i64 (x 9), .int .i64 (x 10), .int .i64 (x 11), .int .i64 (x 12), .int .i64 (x 13), .int .i64 (x 14), .int .i64 (x 15), .int .i64 (x 16), .int .i64 (x 17), .int .i64 (x 18), .int .i64 (x 19), .int .i64 (x 20), .int .i64 (x 21), .int .i64 (x 22), .int .i64 (x 23), .int .i64 (x 24), .int .i64 (x 25), .int .i64 (x 26), .int .i64 (x 27), .int .i64 (x 28), .int .i64 (x 29), .int .i64 (x 30), .int .i64 (x 31), .int .i64 (x 32), .int .i64 (x 33), .int .i64 (x 34), .int .i64 (x 35), .int .i64 (x 36), .int .i64 (x 37), .int .i64 (x 38), .int .i64 (x 39), .int .i64 (x 40), .int .i64 (x 41), .int .i64 (x 42), .int .i64 (x 43), .int .i64 (x 44), .int .i64 (x 45), .int .i64 (x 46), .int .i64 (x 47), .int .i64 (x 48), .int .i64 (x 49), .int .i64 (x 50), .int .i64 (x 51), .int .i64 (x 52), .int .i64 (x 53), .int .i64 (x 54), .int .i64 (x 55)] zb10 0 ?_
   refine call_ 29 #[.agg #[.int .i64 (x 0), .int .i64 (x 1), .int .i64 (x 2), .int .i64 (x 3), .int .i64 (x 4), .slice (xa 0) (xn 0) (xc 0), .slice (xa 1) (xn 1) (xc 1), .slice (xa 2) (xn 2) (xc 2), .slice (some ⟨zb57, 0, none⟩) (k70 n) zc58, .int .i64 (x 9), .int .i64 (x 10), .int .i64 (x 11), .int .i64 (x 12), .int .i64 (x 13), .int .i64 (x 14), .int .i64 (x 15), .int .i64 (x 16), .int .i64 (x 17), .int .i64 (x 18), .int .i64 (x 19), .int .i64 (x 20), .int .i64 (x 21), .int .i64 (x 22), .int .i64 (x 23), .int .i64 (x 24), .int .i64 (x 25), .int .i64 (x 26), .int .i64 (x 27), .int .i64 (x 28), .int .i64 (x 29), .int .i64 (x 30), .int .i64 (x 31), .int .i64 (x 32), .int .i64 (x 33), .int .i64 (x 34), .int .i64 (x 35), .int .i64 (x 36), .int .i64 (x 37), .int .i64 (x 38), .int .i64 (x 39), .int .i64 (x 40), .int .i64 (x 41), .int .i64 (x 42), .int .i64 (x 43), .int .i64 (x 44), .int .i64 (x 45), .int .i64 (x 46), .int .i64 (x 47), .int .i64 (x 48), .int .i64 (x 49), .int .i64 (x 50), .int .i64 (x 51), .int .i64 (x 52), .int .i64 (x 53), .int .i64 (x 54), .int .i64 (x 55)]] ?_
   refine (check_any x (updf xa 3 (some ⟨zb57, 0, none⟩)) (updf xn 3 (k70 n)) (updf xc 3 zc58) _).mono ?_; rintro _ zw75 ⟨rfl, zh76⟩
   have zS77 := zS67.quiet zh76
   refine pure_ (.int .i64 0) ?_
   refine pureE_ (.bool ((polCode x (updf xn 3 (k70 n))) == 0)) (.bool true) (congrArg Value.bool (eqT (by have zk := keys_code hX 3 (by omega) (k70 n); omega))) ?_
   refine pure_ (.bool true) ?_
   refine pure_ (.bool true) ?_
   refine nil_ (then_n (wp_ret ?_))
   refine ret_ rfl (res_ [.tmp 6] [.bool true] (.bool true) ⟨res_tmp, trivial⟩) ?_
   exact ⟨rfl, zS77.ch⟩
 intro zh78
 have zh79 := eqF' zh78
 refine reg_ ?_
 refine pure_ (.int .u8 which) ?_
 refine pureE_ (.int .u8 (Int.tmod which 4)) (.int .u8 (which % 4)) (congrArg _ (IntWalk.rem_in _ _ (by omega))) ?_
 refine move_ ?_
 refine pure_ (.pointer (some ⟨zb10, 5, none⟩)) ?_
 refine split_b ((which % 4) == 0) ?_ ?_
 · intro zh80
   have zh81 := eqT' zh80
   refine slotI_ 27 .u8 (which % 4) 0 (by omega) ?_
   have zh82 : (which % 4) = 0 := by omega
   refine pure_ (.pointer (some ⟨zb10, 5, none⟩)) ?_
   refine store_ zS61 2 (.slice (some ⟨zb57, 0, none⟩) (k70 n) zc58) zb10 5 ?_
   intro zw83 zS84
   refine nil_ (then_n (seq_ (reg_ ?_)))
   refine pure_ (.int .i64 0) ?_
   refine nil_ (then_n (seq_ (seq_ (reg_ ?_))))
   refine move_ ?_
   refine pure_ (.int .i64 (((k70 n) : Nat) : Int)) ?_
   refine pureE_ (.bool ((((k70 n) : Nat) : Int) == 0)) (.bool false) (congrArg Value.bool (zh55)) ?_
   refine pure_ (.bool false) ?_
   refine move_ ?_
   refine pure_ (.int .i64 (((k70 n) : Nat) : Int)) ?_
   refine pure_ (.bool (decide (64 < (((k70 n) : Nat) : Int)))) ?_
   refine pure_ (.bool (decide (64 < (((k70 n) : Nat) : Int)))) ?_
   refine nil_ (then_n ?_)
   refine cond_S (decide (64 < (((k70 n) : Nat) : Int))) ?_ ?_
   · intro zh85
     have zh86 := ltT' zh85
     refine reg_ ?_
     refine pure_ (.int .i64 41) ?_
     refine nil_ (then_n (seq_ (reg_ ?_)))
     refine pure_ (.bool true) ?_
     refine pure_ (.bool true) ?_
     refine loadN_ zS84 2 56 #[.int .i64 (x 0), .int .i64 (x 1), .int .i64 (x 2), .int .i64 (x 3), .int .i64 (x 4), .slice (some ⟨zb57, 0, none⟩) (k70 n) zc58, .slice (xa 1) (xn 1) (xc 1), .slice (xa 2) (xn 2) (xc 2), .slice (xa 3) (xn 3) (xc 3), .int .i64 (x 9), .int .i64 (x 10), .int .i64 (x 11), .int .i64 (x 12), .int .i64 (x 13), .int .i64 (x 14), .int .i64 (x 15), .int .i64 (x 16), .int .i64 (x 17), .int .i64 (x 18), .int .i64 (x 19), .int .i64 (x 20), .int .i64 (x 21), .int .i64 (x 22), .int .i64 (x 23), .int .i64 (x 24), .int .i64 (x 25), .int .i64 (x 26), .int .i64 (x 27), .int .i64 (x 28), .int .i64 (x 29), .int .i64 (x 30), .int .i64 (x 31), .int .i64 (x 32), .int .i64 (x 33), .int .i64 (x 34), .int .i64 (x 35), .int .i64 (x 36), .int .i64 (x 37), .int .i64 (x 38), .int .i64 (x 39), .int .i64 (x 40), .int .i64 (x 41), .int .i64 (x 42), .int .i64 (x 43), .int .i64 (x 44), .int .i64 (x 45), .int .i64 (x 46), .int .i64 (x 47), .int .i64 (x 48), .int .i64 (x 49), .int .i64 (x 50), .int .i64 (x 51), .int .i64 (x 52), .int .i64 (x 53), .int .i64 (x 54), .int .i64 (x 55)] zb10 0 ?_
     refine call_ 29 #[.agg #[.int .i64 (x 0), .int .i64 (x 1), .int .i64 (x 2), .int .i64 (x 3), .int .i64 (x 4), .slice (some ⟨zb57, 0, none⟩) (k70 n) zc58, .slice (xa 1) (xn 1) (xc 1), .slice (xa 2) (xn 2) (xc 2), .slice (xa 3) (xn 3) (xc 3), .int .i64 (x 9), .int .i64 (x 10), .int .i64 (x 11), .int .i64 (x 12), .int .i64 (x 13), .int .i64 (x 14), .int .i64 (x 15), .int .i64 (x 16), .int .i64 (x 17), .int .i64 (x 18), .int .i64 (x 19), .int .i64 (x 20), .int .i64 (x 21), .int .i64 (x 22), .int .i64 (x 23), .int .i64 (x 24), .int .i64 (x 25), .int .i64 (x 26), .int .i64 (x 27), .int .i64 (x 28), .int .i64 (x 29), .int .i64 (x 30), .int .i64 (x 31), .int .i64 (x 32), .int .i64 (x 33), .int .i64 (x 34), .int .i64 (x 35), .int .i64 (x 36), .int .i64 (x 37), .int .i64 (x 38), .int .i64 (x 39), .int .i64 (x 40), .int .i64 (x 41), .int .i64 (x 42), .int .i64 (x 43), .int .i64 (x 44), .int .i64 (x 45), .int .i64 (x 46), .int .i64 (x 47), .int .i64 (x 48), .int .i64 (x 49), .int .i64 (x 50), .int .i64 (x 51), .int .i64 (x 52), .int .i64 (x 53), .int .i64 (x 54), .int .i64 (x 55)]] ?_
     refine (check_any x (updf xa 0 (some ⟨zb57, 0, none⟩)) (updf xn 0 (k70 n)) (updf xc 0 zc58) _).mono ?_; rintro _ zw87 ⟨rfl, zh88⟩
     have zS89 := zS84.quiet zh88
     refine pure_ (.int .i64 41) ?_
     refine pureE_ (.bool ((polCode x (updf xn 0 (k70 n))) == 41)) (.bool true) (congrArg Value.bool (eqT (by have zk := keys_code hX 0 (by omega) (k70 n); omega))) ?_
     refine pure_ (.bool true) ?_
     refine pure_ (.bool true) ?_
     refine nil_ (then_n (wp_ret ?_))
     refine ret_ rfl (res_ [.tmp 6] [.bool true] (.bool true) ⟨res_tmp, trivial⟩) ?_
     exact ⟨rfl, zS89.ch⟩
   intro zh90
   have zh91 := ltF' zh90
   refine wp_skip (then_n (seq_ (reg_ ?_)))
   refine pure_ (.bool true) ?_
   refine pure_ (.bool true) ?_
   refine loadN_ zS84 2 56 #[.int .i64 (x 0), .int .i64 (x 1), .int .i64 (x 2), .int .i64 (x 3), .int .i64 (x 4), .slice (some ⟨zb57, 0, none⟩) (k70 n) zc58, .slice (xa 1) (xn 1) (xc 1), .slice (xa 2) (xn 2) (xc 2), .slice (xa 3) (xn 3) (xc 3), .int .i64 (x 9), .int .i64 (x 10), .int .i64 (x 11), .int .i64 (x 12), .int .i64 (x 13), .int .i64 (x 14), .int .i64 (x 15), .int .i64 (x 16), .int .i64 (x 17), .int .i64 (x 18), .int .i64 (x 19), .int .i64 (x 20), .int .i64 (x 21), .int .i64 (x 22), .int .i64 (x 23), .int .i64 (x 24), .int .i64 (x 25), .int .i64 (x 26), .int .i64 (x 27), .int .i64 (x 28), .int .i64 (x 29), .int .i64 (x 30), .int .i64 (x 31), .int .i64 (x 32), .int .i64 (x 33), .int .i64 (x 34), .int .i64 (x 35), .int .i64 (x 36), .int .i64 (x 37), .int .i64 (x 38), .int .i64 (x 39), .int .i64 (x 40), .int .i64 (x 41), .int .i64 (x 42), .int .i64 (x 43), .int .i64 (x 44), .int .i64 (x 45), .int .i64 (x 46), .int .i64 (x 47), .int .i64 (x 48), .int .i64 (x 49), .int .i64 (x 50), .int .i64 (x 51), .int .i64 (x 52), .int .i64 (x 53), .int .i64 (x 54), .int .i64 (x 55)] zb10 0 ?_
   refine call_ 29 #[.agg #[.int .i64 (x 0), .int .i64 (x 1), .int .i64 (x 2), .int .i64 (x 3), .int .i64 (x 4), .slice (some ⟨zb57, 0, none⟩) (k70 n) zc58, .slice (xa 1) (xn 1) (xc 1), .slice (xa 2) (xn 2) (xc 2), .slice (xa 3) (xn 3) (xc 3), .int .i64 (x 9), .int .i64 (x 10), .int .i64 (x 11), .int .i64 (x 12), .int .i64 (x 13), .int .i64 (x 14), .int .i64 (x 15), .int .i64 (x 16), .int .i64 (x 17), .int .i64 (x 18), .int .i64 (x 19), .int .i64 (x 20), .int .i64 (x 21), .int .i64 (x 22), .int .i64 (x 23), .int .i64 (x 24), .int .i64 (x 25), .int .i64 (x 26), .int .i64 (x 27), .int .i64 (x 28), .int .i64 (x 29), .int .i64 (x 30), .int .i64 (x 31), .int .i64 (x 32), .int .i64 (x 33), .int .i64 (x 34), .int .i64 (x 35), .int .i64 (x 36), .int .i64 (x 37), .int .i64 (x 38), .int .i64 (x 39), .int .i64 (x 40), .int .i64 (x 41), .int .i64 (x 42), .int .i64 (x 43), .int .i64 (x 44), .int .i64 (x 45), .int .i64 (x 46), .int .i64 (x 47), .int .i64 (x 48), .int .i64 (x 49), .int .i64 (x 50), .int .i64 (x 51), .int .i64 (x 52), .int .i64 (x 53), .int .i64 (x 54), .int .i64 (x 55)]] ?_
   refine (check_any x (updf xa 0 (some ⟨zb57, 0, none⟩)) (updf xn 0 (k70 n)) (updf xc 0 zc58) _).mono ?_; rintro _ zw92 ⟨rfl, zh93⟩
   have zS94 := zS84.quiet zh93
   refine pure_ (.int .i64 0) ?_
   refine pureE_ (.bool ((polCode x (updf xn 0 (k70 n))) == 0)) (.bool true) (congrArg Value.bool (eqT (by have zk := keys_code hX 0 (by omega) (k70 n); omega))) ?_
   refine pure_ (.bool true) ?_
   refine pure_ (.bool true) ?_
   refine nil_ (then_n (wp_ret ?_))
   refine ret_ rfl (res_ [.tmp 6] [.bool true] (.bool true) ⟨res_tmp, trivial⟩) ?_
   exact ⟨rfl, zS94.ch⟩
 intro zh95
 have zh96 := eqF' zh95
 refine split_b ((which % 4) == 1) ?_ ?_
 · intro zh97
   have zh98 := eqT' zh97
   refine slotI_ 27 .u8 (which % 4) 1 (by omega) ?_
   have zh99 : (which % 4) = 1 := by omega
   refine pure_ (.pointer (some ⟨zb10, 6, none⟩)) ?_
   refine store_ zS61 2 (.slice (some ⟨zb57, 0, none⟩) (k70 n) zc58) zb10 6 ?_
   intro zw100 zS101
   refine nil_ (then_n (seq_ (reg_ ?_)))
   refine pure_ (.int .i64 0) ?_
   refine nil_ (then_n (seq_ (seq_ (reg_ ?_))))
   refine move_ ?_
   refine pure_ (.int .i64 (((k70 n) : Nat) : Int)) ?_
   refine pureE_ (.bool ((((k70 n) : Nat) : Int) == 0)) (.bool false) (congrArg Value.bool (zh55)) ?_
   refine pure_ (.bool false) ?_
   refine move_ ?_
   refine pure_ (.int .i64 (((k70 n) : Nat) : Int)) ?_
   refine pure_ (.bool (decide (64 < (((k70 n) : Nat) : Int)))) ?_
   refine pure_ (.bool (decide (64 < (((k70 n) : Nat) : Int)))) ?_
   refine nil_ (then_n ?_)
   refine cond_S (decide (64 < (((k70 n) : Nat) : Int))) ?_ ?_
   · intro zh102
     have zh103 := ltT' zh102
     refine reg_ ?_
     refine pure_ (.int .i64 41) ?_
     refine nil_ (then_n (seq_ (reg_ ?_)))
     refine pure_ (.bool true) ?_
     refine pure_ (.bool true) ?_
     refine loadN_ zS101 2 56 #[.int .i64 (x 0), .int .i64 (x 1), .int .i64 (x 2), .int .i64 (x 3), .int .i64 (x 4), .slice (xa 0) (xn 0) (xc 0), .slice (some ⟨zb57, 0, none⟩) (k70 n) zc58, .slice (xa 2) (xn 2) (xc 2), .slice (xa 3) (xn 3) (xc 3), .int .i64 (x 9), .int .i64 (x 10), .int .i64 (x 11), .int .i64 (x 12), .int .i64 (x 13), .int .i64 (x 14), .int .i64 (x 15), .int .i64 (x 16), .int .i64 (x 17), .int .i64 (x 18), .int .i64 (x 19), .int .i64 (x 20), .int .i64 (x 21), .int .i64 (x 22), .int .i64 (x 23), .int .i64 (x 24), .int .i64 (x 25), .int .i64 (x 26), .int .i64 (x 27), .int .i64 (x 28), .int .i64 (x 29), .int .i64 (x 30), .int .i64 (x 31), .int .i64 (x 32), .int .i64 (x 33), .int .i64 (x 34), .int .i64 (x 35), .int .i64 (x 36), .int .i64 (x 37), .int .i64 (x 38), .int .i64 (x 39), .int .i64 (x 40), .int .i64 (x 41), .int .i64 (x 42), .int .i64 (x 43), .int .i64 (x 44), .int .i64 (x 45), .int .i64 (x 46), .int .i64 (x 47), .int .i64 (x 48), .int .i64 (x 49), .int .i64 (x 50), .int .i64 (x 51), .int .i64 (x 52), .int .i64 (x 53), .int .i64 (x 54), .int .i64 (x 55)] zb10 0 ?_
     refine call_ 29 #[.agg #[.int .i64 (x 0), .int .i64 (x 1), .int .i64 (x 2), .int .i64 (x 3), .int .i64 (x 4), .slice (xa 0) (xn 0) (xc 0), .slice (some ⟨zb57, 0, none⟩) (k70 n) zc58, .slice (xa 2) (xn 2) (xc 2), .slice (xa 3) (xn 3) (xc 3), .int .i64 (x 9), .int .i64 (x 10), .int .i64 (x 11), .int .i64 (x 12), .int .i64 (x 13), .int .i64 (x 14), .int .i64 (x 15), .int .i64 (x 16), .int .i64 (x 17), .int .i64 (x 18), .int .i64 (x 19), .int .i64 (x 20), .int .i64 (x 21), .int .i64 (x 22), .int .i64 (x 23), .int .i64 (x 24), .int .i64 (x 25), .int .i64 (x 26), .int .i64 (x 27), .int .i64 (x 28), .int .i64 (x 29), .int .i64 (x 30), .int .i64 (x 31), .int .i64 (x 32), .int .i64 (x 33), .int .i64 (x 34), .int .i64 (x 35), .int .i64 (x 36), .int .i64 (x 37), .int .i64 (x 38), .int .i64 (x 39), .int .i64 (x 40), .int .i64 (x 41), .int .i64 (x 42), .int .i64 (x 43), .int .i64 (x 44), .int .i64 (x 45), .int .i64 (x 46), .int .i64 (x 47), .int .i64 (x 48), .int .i64 (x 49), .int .i64 (x 50), .int .i64 (x 51), .int .i64 (x 52), .int .i64 (x 53), .int .i64 (x 54), .int .i64 (x 55)]] ?_
     refine (check_any x (updf xa 1 (some ⟨zb57, 0, none⟩)) (updf xn 1 (k70 n)) (updf xc 1 zc58) _).mono ?_; rintro _ zw104 ⟨rfl, zh105⟩
     have zS106 := zS101.quiet zh105
     refine pure_ (.int .i64 41) ?_
     refine pureE_ (.bool ((polCode x (updf xn 1 (k70 n))) == 41)) (.bool true) (congrArg Value.bool (eqT (by have zk := keys_code hX 1 (by omega) (k70 n); omega))) ?_
     refine pure_ (.bool true) ?_
     refine pure_ (.bool true) ?_
     refine nil_ (then_n (wp_ret ?_))
     refine ret_ rfl (res_ [.tmp 6] [.bool true] (.bool true) ⟨res_tmp, trivial⟩) ?_
     exact ⟨rfl, zS106.ch⟩
   intro zh107
   have zh108 := ltF' zh107
   refine wp_skip (then_n (seq_ (reg_ ?_)))
   refine pure_ (.bool true) ?_
   refine pure_ (.bool true) ?_
   refine loadN_ zS101 2 56 #[.int .i64 (x 0), .int .i64 (x 1), .int .i64 (x 2), .int .i64 (x 3), .int .i64 (x 4), .slice (xa 0) (xn 0) (xc 0), .slice (some ⟨zb57, 0, none⟩) (k70 n) zc58, .slice (xa 2) (xn 2) (xc 2), .slice (xa 3) (xn 3) (xc 3), .int .i64 (x 9), .int .i64 (x 10), .int .i64 (x 11), .int .i64 (x 12), .int .i64 (x 13), .int .i64 (x 14), .int .i64 (x 15), .int .i64 (x 16), .int .i64 (x 17), .int .i64 (x 18), .int .i64 (x 19), .int .i64 (x 20), .int .i64 (x 21), .int .i64 (x 22), .int .i64 (x 23), .int .i64 (x 24), .int .i64 (x 25), .int .i64 (x 26), .int .i64 (x 27), .int .i64 (x 28), .int .i64 (x 29), .int .i64 (x 30), .int .i64 (x 31), .int .i64 (x 32), .int .i64 (x 33), .int .i64 (x 34), .int .i64 (x 35), .int .i64 (x 36), .int .i64 (x 37), .int .i64 (x 38), .int .i64 (x 39), .int .i64 (x 40), .int .i64 (x 41), .int .i64 (x 42), .int .i64 (x 43), .int .i64 (x 44), .int .i64 (x 45), .int .i64 (x 46), .int .i64 (x 47), .int .i64 (x 48), .int .i64 (x 49), .int .i64 (x 50), .int .i64 (x 51), .int .i64 (x 52), .int .i64 (x 53), .int .i64 (x 54), .int .i64 (x 55)] zb10 0 ?_
   refine call_ 29 #[.agg #[.int .i64 (x 0), .int .i64 (x 1), .int .i64 (x 2), .int .i64 (x 3), .int .i64 (x 4), .slice (xa 0) (xn 0) (xc 0), .slice (some ⟨zb57, 0, none⟩) (k70 n) zc58, .slice (xa 2) (xn 2) (xc 2), .slice (xa 3) (xn 3) (xc 3), .int .i64 (x 9), .int .i64 (x 10), .int .i64 (x 11), .int .i64 (x 12), .int .i64 (x 13), .int .i64 (x 14), .int .i64 (x 15), .int .i64 (x 16), .int .i64 (x 17), .int .i64 (x 18), .int .i64 (x 19), .int .i64 (x 20), .int .i64 (x 21), .int .i64 (x 22), .int .i64 (x 23), .int .i64 (x 24), .int .i64 (x 25), .int .i64 (x 26), .int .i64 (x 27), .int .i64 (x 28), .int .i64 (x 29), .int .i64 (x 30), .int .i64 (x 31), .int .i64 (x 32), .int .i64 (x 33), .int .i64 (x 34), .int .i64 (x 35), .int .i64 (x 36), .int .i64 (x 37), .int .i64 (x 38), .int .i64 (x 39), .int .i64 (x 40), .int .i64 (x 41), .int .i64 (x 42), .int .i64 (x 43), .int .i64 (x 44), .int .i64 (x 45), .int .i64 (x 46), .int .i64 (x 47), .int .i64 (x 48), .int .i64 (x 49), .int .i64 (x 50), .int .i64 (x 51), .int .i64 (x 52), .int .i64 (x 53), .int .i64 (x 54), .int .i64 (x 55)]] ?_
   refine (check_any x (updf xa 1 (some ⟨zb57, 0, none⟩)) (updf xn 1 (k70 n)) (updf xc 1 zc58) _).mono ?_; rintro _ zw109 ⟨rfl, zh110⟩
   have zS111 := zS101.quiet zh110
   refine pure_ (.int .i64 0) ?_
   refine pureE_ (.bool ((polCode x (updf xn 1 (k70 n))) == 0)) (.bool true) (congrArg Value.bool (eqT (by have zk := keys_code hX 1 (by omega) (k70 n); omega))) ?_
   refine pure_ (.bool true) ?_
   refine pure_ (.bool true) ?_
   refine nil_ (then_n (wp_ret ?_))
   refine ret_ rfl (res_ [.tmp 6] [.bool true] (.bool true) ⟨res_tmp, trivial⟩) ?_
   exact ⟨rfl, zS111.ch⟩
 intro zh112
 have zh113 := eqF' zh112
 refine slotI_ 27 .u8 (which % 4) 2 (by omega) ?_
 have zh114 : (which % 4) = 2 := by omega
 refine pure_ (.pointer (some ⟨zb10, 7, none⟩)) ?_
 refine store_ zS61 2 (.slice (some ⟨zb57, 0, none⟩) (k70 n) zc58) zb10 7 ?_
 intro zw115 zS116
 refine nil_ (then_n (seq_ (reg_ ?_)))
 refine pure_ (.int .i64 0) ?_
 refine nil_ (then_n (seq_ (seq_ (reg_ ?_))))
 refine move_ ?_
 refine pure_ (.int .i64 (((k70 n) : Nat) : Int)) ?_
 refine pureE_ (.bool ((((k70 n) : Nat) : Int) == 0)) (.bool false) (congrArg Value.bool (zh55)) ?_
 refine pure_ (.bool false) ?_
 refine move_ ?_
 refine pure_ (.int .i64 (((k70 n) : Nat) : Int)) ?_
 refine pure_ (.bool (decide (64 < (((k70 n) : Nat) : Int)))) ?_
 refine pure_ (.bool (decide (64 < (((k70 n) : Nat) : Int)))) ?_
 refine nil_ (then_n ?_)
 refine cond_S (decide (64 < (((k70 n) : Nat) : Int))) ?_ ?_
 · intro zh117
   have zh118 := ltT' zh117
   refine reg_ ?_
   refine pure_ (.int .i64 41) ?_
   refine nil_ (then_n (seq_ (reg_ ?_)))
   refine pure_ (.bool true) ?_
   refine pure_ (.bool true) ?_
   refine loadN_ zS116 2 56 #[.int .i64 (x 0), .int .i64 (x 1), .int .i64 (x 2), .int .i64 (x 3), .int .i64 (x 4), .slice (xa 0) (xn 0) (xc 0), .slice (xa 1) (xn 1) (xc 1), .slice (some ⟨zb57, 0, none⟩) (k70 n) zc58, .slice (xa 3) (xn 3) (xc 3), .int .i64 (x 9), .int .i64 (x 10), .int .i64 (x 11), .int .i64 (x 12), .int .i64 (x 13), .int .i64 (x 14), .int .i64 (x 15), .int .i64 (x 16), .int .i64 (x 17), .int .i64 (x 18), .int .i64 (x 19), .int .i64 (x 20), .int .i64 (x 21), .int .i64 (x 22), .int .i64 (x 23), .int .i64 (x 24), .int .i64 (x 25), .int .i64 (x 26), .int .i64 (x 27), .int .i64 (x 28), .int .i64 (x 29), .int .i64 (x 30), .int .i64 (x 31), .int .i64 (x 32), .int .i64 (x 33), .int .i64 (x 34), .int .i64 (x 35), .int .i64 (x 36), .int .i64 (x 37), .int .i64 (x 38), .int .i64 (x 39), .int .i64 (x 40), .int .i64 (x 41), .int .i64 (x 42), .int .i64 (x 43), .int .i64 (x 44), .int .i64 (x 45), .int .i64 (x 46), .int .i64 (x 47), .int .i64 (x 48), .int .i64 (x 49), .int .i64 (x 50), .int .i64 (x 51), .int .i64 (x 52), .int .i64 (x 53), .int .i64 (x 54), .int .i64 (x 55)] zb10 0 ?_
   refine call_ 29 #[.agg #[.int .i64 (x 0), .int .i64 (x 1), .int .i64 (x 2), .int .i64 (x 3), .int .i64 (x 4), .slice (xa 0) (xn 0) (xc 0), .slice (xa 1) (xn 1) (xc 1), .slice (some ⟨zb57, 0, none⟩) (k70 n) zc58, .slice (xa 3) (xn 3) (xc 3), .int .i64 (x 9), .int .i64 (x 10), .int .i64 (x 11), .int .i64 (x 12), .int .i64 (x 13), .int .i64 (x 14), .int .i64 (x 15), .int .i64 (x 16), .int .i64 (x 17), .int .i64 (x 18), .int .i64 (x 19), .int .i64 (x 20), .int .i64 (x 21), .int .i64 (x 22), .int .i64 (x 23), .int .i64 (x 24), .int .i64 (x 25), .int .i64 (x 26), .int .i64 (x 27), .int .i64 (x 28), .int .i64 (x 29), .int .i64 (x 30), .int .i64 (x 31), .int .i64 (x 32), .int .i64 (x 33), .int .i64 (x 34), .int .i64 (x 35), .int .i64 (x 36), .int .i64 (x 37), .int .i64 (x 38), .int .i64 (x 39), .int .i64 (x 40), .int .i64 (x 41), .int .i64 (x 42), .int .i64 (x 43), .int .i64 (x 44), .int .i64 (x 45), .int .i64 (x 46), .int .i64 (x 47), .int .i64 (x 48), .int .i64 (x 49), .int .i64 (x 50), .int .i64 (x 51), .int .i64 (x 52), .int .i64 (x 53), .int .i64 (x 54), .int .i64 (x 55)]] ?_
   refine (check_any x (updf xa 2 (some ⟨zb57, 0, none⟩)) (updf xn 2 (k70 n)) (updf xc 2 zc58) _).mono ?_; rintro _ zw119 ⟨rfl, zh120⟩
   have zS121 := zS116.quiet zh120
   refine pure_ (.int .i64 41) ?_
   refine pureE_ (.bool ((polCode x (updf xn 2 (k70 n))) == 41)) (.bool true) (congrArg Value.bool (eqT (by have zk := keys_code hX 2 (by omega) (k70 n); omega))) ?_
   refine pure_ (.bool true) ?_
   refine pure_ (.bool true) ?_
   refine nil_ (then_n (wp_ret ?_))
   refine ret_ rfl (res_ [.tmp 6] [.bool true] (.bool true) ⟨res_tmp, trivial⟩) ?_
   exact ⟨rfl, zS121.ch⟩
 intro zh122
 have zh123 := ltF' zh122
 refine wp_skip (then_n (seq_ (reg_ ?_)))
 refine pure_ (.bool true) ?_
 refine pure_ (.bool true) ?_
 refine loadN_ zS116 2 56 #[.int .i64 (x 0), .int .i64 (x 1), .int .i64 (x 2), .int .i64 (x 3), .int .i64 (x 4), .slice (xa 0) (xn 0) (xc 0), .slice (xa 1) (xn 1) (xc 1), .slice (some ⟨zb57, 0, none⟩) (k70 n) zc58, .slice (xa 3) (xn 3) (xc 3), .int .i64 (x 9), .int .i64 (x 10), .int .i64 (x 11), .int .i64 (x 12), .int .i64 (x 13), .int .i64 (x 14), .int .i64 (x 15), .int .i64 (x 16), .int .i64 (x 17), .int .i64 (x 18), .int .i64 (x 19), .int .i64 (x 20), .int .i64 (x 21), .int .i64 (x 22), .int .i64 (x 23), .int .i64 (x 24), .int .i64 (x 25), .int .i64 (x 26), .int .i64 (x 27), .int .i64 (x 28), .int .i64 (x 29), .int .i64 (x 30), .int .i64 (x 31), .int .i64 (x 32), .int .i64 (x 33), .int .i64 (x 34), .int .i64 (x 35), .int .i64 (x 36), .int .i64 (x 37), .int .i64 (x 38), .int .i64 (x 39), .int .i64 (x 40), .int .i64 (x 41), .int .i64 (x 42), .int .i64 (x 43), .int .i64 (x 44), .int .i64 (x 45), .int .i64 (x 46), .int .i64 (x 47), .int .i64 (x 48), .int .i64 (x 49), .int .i64 (x 50), .int .i64 (x 51), .int .i64 (x 52), .int .i64 (x 53), .int .i64 (x 54), .int .i64 (x 55)] zb10 0 ?_
 refine call_ 29 #[.agg #[.int .i64 (x 0), .int .i64 (x 1), .int .i64 (x 2), .int .i64 (x 3), .int .i64 (x 4), .slice (xa 0) (xn 0) (xc 0), .slice (xa 1) (xn 1) (xc 1), .slice (some ⟨zb57, 0, none⟩) (k70 n) zc58, .slice (xa 3) (xn 3) (xc 3), .int .i64 (x 9), .int .i64 (x 10), .int .i64 (x 11), .int .i64 (x 12), .int .i64 (x 13), .int .i64 (x 14), .int .i64 (x 15), .int .i64 (x 16), .int .i64 (x 17), .int .i64 (x 18), .int .i64 (x 19), .int .i64 (x 20), .int .i64 (x 21), .int .i64 (x 22), .int .i64 (x 23), .int .i64 (x 24), .int .i64 (x 25), .int .i64 (x 26), .int .i64 (x 27), .int .i64 (x 28), .int .i64 (x 29), .int .i64 (x 30), .int .i64 (x 31), .int .i64 (x 32), .int .i64 (x 33), .int .i64 (x 34), .int .i64 (x 35), .int .i64 (x 36), .int .i64 (x 37), .int .i64 (x 38), .int .i64 (x 39), .int .i64 (x 40), .int .i64 (x 41), .int .i64 (x 42), .int .i64 (x 43), .int .i64 (x 44), .int .i64 (x 45), .int .i64 (x 46), .int .i64 (x 47), .int .i64 (x 48), .int .i64 (x 49), .int .i64 (x 50), .int .i64 (x 51), .int .i64 (x 52), .int .i64 (x 53), .int .i64 (x 54), .int .i64 (x 55)]] ?_
 refine (check_any x (updf xa 2 (some ⟨zb57, 0, none⟩)) (updf xn 2 (k70 n)) (updf xc 2 zc58) _).mono ?_; rintro _ zw124 ⟨rfl, zh125⟩
 have zS126 := zS116.quiet zh125
 refine pure_ (.int .i64 0) ?_
 refine pureE_ (.bool ((polCode x (updf xn 2 (k70 n))) == 0)) (.bool true) (congrArg Value.bool (eqT (by have zk := keys_code hX 2 (by omega) (k70 n); omega))) ?_
 refine pure_ (.bool true) ?_
 refine pure_ (.bool true) ?_
 refine nil_ (then_n (wp_ret ?_))
 refine ret_ rfl (res_ [.tmp 6] [.bool true] (.bool true) ⟨res_tmp, trivial⟩) ?_
 exact ⟨rfl, zS126.ch⟩

set_option maxRecDepth 100000 in
set_option maxHeartbeats 4000000 in
theorem policyKeys_nil (q : Nat → Int) (ka : Nat → Option Addr) (kn kc : Nat → Nat) (kb : Nat → Nat → Int) (which : Int) (hw : 0 ≤ which ∧ which ≤ 255) (w : World) (hq : ∀ i, -9223372036854775808 ≤ q i ∧ q i ≤ 9223372036854775807) (hK : ∀ i, i < 4 → KeyIn [] w (ka i) (kn i) (kc i) (kb i)) :
    Gives Try.prog 14 #[.agg (polC q ka kn kc), .slice none 0 0, .int .u8 which] w fun v w1 => v = .bool true ∧ Ch [] w w1 := by
 have S0 := St.nil [] w
 refine enter_ Try.func14 rfl ?_
 refine seq_ (reg_ ?_)
 refine new_ S0 (fun b => .pointer (some ⟨b, 0, none⟩)) (.cells (polC q ka kn kc) 37) ?_
 intro zb1 zw2 zS3
 refine pure_ (.bool false) ?_
 refine nil_ (then_n (seq_ (reg_ ?_)))
 refine call_ 27 #[] ?_
 refine (shown12 _).mono ?_; rintro _ zw4 ⟨rfl, zhc5⟩
 have zS6 := zS3.quiet zhc5
 refine pure_ (.bool true) ?_
 refine nil_ (then_n (seq_ (reg_ ?_)))
 refine loadN_ zS6 0 56 (polC q ka kn kc) zb1 0 ?_
 refine call_ 33 #[.agg (polC q ka kn kc)] ?_
 refine (fitA_ q ka kn kc kb w _ zS6.ch hq hK).mono ?_; rintro _ zw7 ⟨x, xa, xn, xc, hX, rfl, zh8⟩
 have zS9 := zS6.quiet zh8
 refine new_ zS9 (fun b => .pointer (some ⟨b, 0, none⟩)) (.cells #[.int .i64 0, .int .i64 0, .int .i64 0, .int .i64 0, .int .i64 0, .slice none 0 0, .slice none 0 0, .slice none 0 0, .slice none 0 0, .int .i64 0, .int .i64 0, .int .i64 0, .int .i64 0, .int .i64 0, .int .i64 0, .int .i64 0, .int .i64 0, .int .i64 0, .int .i64 0, .int .i64 0, .int .i64 0, .int .i64 0, .int .i64 0, .int .i64 0, .int .i64 0, .int .i64 0, .int .i64 0, .int .i64 0, .int .i64 0, .int .i64 0, .int .i64 0, .int .i64 0, .int .i64 0, .int .i64 0, .int .i64 0, .int .i64 0, .int .i64 0, .int .i64 0, .int .i64 0, .int .i64 0, .int .i64 0, .int .i64 0, .int .i64 0, .int .i64 0, .int .i64 0, .int .i64 0, .int .i64 0, .int .i64 0, .int .i64 0, .int .i64 0, .int .i64 0, .int .i64 0, .int .i64 0, .int .i64 0, .int .i64 0, .int .i64 0] 37) ?_
 intro zb10 zw11 zS12
 refine store_ zS12 0 (.agg (polC x xa xn xc)) zb10 0 ?_
 intro zw13 zS14
 refine nil_ (then_n (seq_ (reg_ ?_)))
 refine new_ zS14 (fun b => .slice (some ⟨b, 0, none⟩) 0 0) (.cells #[] 5) ?_
 intro zb15 zw16 zS17
 refine pure_ (.slice none 0 0) ?_
 refine pure_ (.slice none 0 0) ?_
 refine pure_ (.int .i64 0) ?_
 refine pure_ (.int .i64 0) ?_
 refine pure_ (.slice none 0 0) ?_
 refine appendO_ (T := 5) (z := 1) (n := 0) (c := 0) (Src.ofNil _ (tx := 32) (e' := 5) (by kernel_rfl) 0) rfl (some ⟨zb15, 0, none⟩) (by decide) rfl ?_
 refine assign_ ?_
 refine nil_ (then_n (seq_ (seq_ (reg_ ?_))))
 refine pure_ (.int .u8 which) ?_
 refine pureE_ (.int .u8 (Int.tmod which 4)) (.int .u8 (which % 4)) (congrArg _ (IntWalk.rem_in _ _ (by omega))) ?_
 refine pure_ (.bool ((which % 4) == 3)) ?_
 refine nil_ (then_n ?_)
 refine cond_S ((which % 4) == 3) ?_ ?_
 · intro zh18
   have zh19 := eqT' zh18
   refine reg_ ?_
   refine move_ ?_
   refine pure_ (.pointer (some ⟨zb10, 8, none⟩)) ?_
   refine store_ zS17 1 (.slice (some ⟨zb15, 0, none⟩) 0 0) zb10 8 ?_
   intro zw20 zS21
   refine nil_ (then_n (seq_ (reg_ ?_)))
   refine pure_ (.int .i64 0) ?_
   refine nil_ (then_n (seq_ (seq_ (reg_ ?_))))
   refine move_ ?_
   refine pure_ (.int .i64 0) ?_
   refine pure_ (.bool true) ?_
   refine pure_ (.bool true) ?_
   refine skip_ ?_
   refine skip_ ?_
   refine skip_ ?_
   refine pure_ (.bool true) ?_
   refine nil_ (then_n (cond_T ?_))
   refine reg_ ?_
   refine pure_ (.int .i64 41) ?_
   refine nil_ (then_n (seq_ (reg_ ?_)))
   refine pure_ (.bool true) ?_
   refine pure_ (.bool true) ?_
   refine loadN_ zS21 1 56 #[.int .i64 (x 0), .int .i64 (x 1), .int .i64 (x 2), .int .i64 (x 3), .int .i64 (x 4), .slice (xa 0) (xn 0) (xc 0), .slice (xa 1) (xn 1) (xc 1), .slice (xa 2) (xn 2) (xc 2), .slice (some ⟨zb15, 0, none⟩) 0 0, .int .i64 (x 9), .int .i64 (x 10), .int .i64 (x 11), .int .i64 (x 12), .int .i64 (x 13), .int .i64 (x 14), .int .i64 (x 15), .int .i64 (x 16), .int .i64 (x 17), .int .i64 (x 18), .int .i64 (x 19), .int .i64 (x 20), .int .i64 (x 21), .int .i64 (x 22), .int .i64 (x 23), .int .i64 (x 24), .int .i64 (x 25), .int .i64 (x 26), .int .i64 (x 27), .int .i64 (x 28), .int .i64 (x 29), .int .i64 (x 30), .int .i64 (x 31), .int .i64 (x 32), .int .i64 (x 33), .int .i64 (x 34), .int .i64 (x 35), .int .i64 (x 36), .int .i64 (x 37), .int .i64 (x 38), .int .i64 (x 39), .int .i64 (x 40), .int .i64 (x 41), .int .i64 (x 42), .int .i64 (x 43), .int .i64 (x 44), .int .i64 (x 45), .int .i64 (x 46), .int .i64 (x 47), .int .i64 (x 48), .int .i64 (x 49), .int .i64 (x 50), .int .i64 (x 51), .int .i64 (x 52), .int .i64 (x 53), .int .i64 (x 54), .int .i64 (x 55)] zb10 0 ?_
   refine call_ 29 #[.agg #[.int .i64 (x 0), .int .i64 (x 1), .int .i64 (x 2), .int .i64 (x 3), .int .i64 (x 4), .slice (xa 0) (xn 0) (xc 0), .slice (xa 1) (xn 1) (xc 1), .slice (xa 2) (xn 2) (xc 2), .slice (some ⟨zb15, 0, none⟩) 0 0, .int .i64 (x 9), .int .i64 (x 10), .int .i64 (x 11), .int .i64 (x 12), .int .i64 (x 13), .int .i64 (x 14), .int .i64 (x 15), .int .i64 (x 16), .int .i64 (x 17), .int .i64 (x 18), .int .i64 (x 19), .int .i64 (x 20), .int .i64 (x 21), .int .i64 (x 22), .int .i64 (x 23), .int .i64 (x 24), .int .i64 (x 25), .int .i64 (x 26), .int .i64 (x 27), .int .i64 (x 28), .int .i64 (x 29), .int .i64 (x 30), .int .i64 (x 31), .int .i64 (x 32), .int .i64 (x 33), .int .i64 (x 34), .int .i64 (x 35), .int .i64 (x 36), .int .i64 (x 37), .int .i64 (x 38), .int .i64 (x 39), .int .i64 (x 40), .int .i64 (x 41), .int .i64 (x 42), .int .i64 (x 43), .int .i64 (x 44), .int .i64 (x 45), .int .i64 (x 46), .int .i64 (x 47), .int .i64 (x 48), .int .i64 (x 49), .int .i64 (x 50), .int .i64 (x 51), .int .i64 (x 52), .int .i64 (x 53), .int .i64 (x 54), .int .i64 (x 55)]] ?_
   refine (check_any x (updf xa 3 (some ⟨zb15, 0, none⟩)) (updf xn 3 0) (updf xc 3 0) _).mono ?_; rintro _ zw22 ⟨rfl, zh23⟩
   have zS24 := zS21.quiet zh23
   refine pure_ (.int .i64 41) ?_
   refine pureE_ (.bool ((polCode x (updf xn 3 0)) == 41)) (.bool true) (congrArg Value.bool (eqT (by have zk := keys_code hX 3 (by omega) 0; omega))) ?_
   refine pure_ (.bool true) ?_
   refine pure_ (.bool true) ?_
   refine nil_ (then_n (wp_ret ?_))
   refine ret_ rfl (res_ [.tmp 6] [.bool true] (.bool true) ⟨res_tmp, trivial⟩) ?_
   exact ⟨rfl, zS24.ch⟩
 intro zh25
 have zh26 := eqF' zh25
 refine reg_ ?_
 refine pure_ (.int .u8 which) ?_
 refine pureE_ (.int .u8 (Int.tmod which 4)) (.int .u8 (which % 4)) (congrArg _ (IntWalk.rem_in _ _ (by omega))) ?_
 refine move_ ?_
 refine pure_ (.pointer (some ⟨zb10, 5, none⟩)) ?_
 refine split_b ((which % 4) == 0) ?_ ?_
 · intro zh27
   have zh28 := eqT' zh27
   refine slotI_ 27 .u8 (which % 4) 0 (by omega) ?_
   have zh29 : (which % 4) = 0 := by omega
   refine pure_ (.pointer (some ⟨zb10, 5, none⟩)) ?_
   refine store_ zS17 1 (.slice (some ⟨zb15, 0, none⟩) 0 0) zb10 5 ?_
   intro zw30 zS31
   refine nil_ (then_n (seq_ (reg_ ?_)))
   refine pure_ (.int .i64 0) ?_
   refine nil_ (then_n (seq_ (seq_ (reg_ ?_))))
   refine move_ ?_
   refine pure_ (.int .i64 0) ?_
   refine pure_ (.bool true) ?_
   refine pure_ (.bool true) ?_
   refine skip_ ?_
   refine skip_ ?_
   refine skip_ ?_
   refine pure_ (.bool true) ?_
   refine nil_ (then_n (cond_T ?_))
   refine reg_ ?_
   refine pure_ (.int .i64 41) ?_
   refine nil_ (then_n (seq_ (reg_ ?_)))
   refine pure_ (.bool true) ?_
   refine pure_ (.bool true) ?_
   refine loadN_ zS31 1 56 #[.int .i64 (x 0), .int .i64 (x 1), .int .i64 (x 2), .int .i64 (x 3), .int .i64 (x 4), .slice (some ⟨zb15, 0, none⟩) 0 0, .slice (xa 1) (xn 1) (xc 1), .slice (xa 2) (xn 2) (xc 2), .slice (xa 3) (xn 3) (xc 3), .int .i64 (x 9), .int .i64 (x 10), .int .i64 (x 11), .int .i64 (x 12), .int .i64 (x 13), .int .i64 (x 14), .int .i64 (x 15), .int .i64 (x 16), .int .i64 (x 17), .int .i64 (x 18), .int .i64 (x 19), .int .i64 (x 20), .int .i64 (x 21), .int .i64 (x 22), .int .i64 (x 23), .int .i64 (x 24), .int .i64 (x 25), .int .i64 (x 26), .int .i64 (x 27), .int .i64 (x 28), .int .i64 (x 29), .int .i64 (x 30), .int .i64 (x 31), .int .i64 (x 32), .int .i64 (x 33), .int .i64 (x 34), .int .i64 (x 35), .int .i64 (x 36), .int .i64 (x 37), .int .i64 (x 38), .int .i64 (x 39), .int .i64 (x 40), .int .i64 (x 41), .int .i64 (x 42), .int .i64 (x 43), .int .i64 (x 44), .int .i64 (x 45), .int .i64 (x 46), .int .i64 (x 47), .int .i64 (x 48), .int .i64 (x 49), .int .i64 (x 50), .int .i64 (x 51), .int .i64 (x 52), .int .i64 (x 53), .int .i64 (x 54), .int .i64 (x 55)] zb10 0 ?_
   refine call_ 29 #[.agg #[.int .i64 (x 0), .int .i64 (x 1), .int .i64 (x 2), .int .i64 (x 3), .int .i64 (x 4), .slice (some ⟨zb15, 0, none⟩) 0 0, .slice (xa 1) (xn 1) (xc 1), .slice (xa 2) (xn 2) (xc 2), .slice (xa 3) (xn 3) (xc 3), .int .i64 (x 9), .int .i64 (x 10), .int .i64 (x 11), .int .i64 (x 12), .int .i64 (x 13), .int .i64 (x 14), .int .i64 (x 15), .int .i64 (x 16), .int .i64 (x 17), .int .i64 (x 18), .int .i64 (x 19), .int .i64 (x 20), .int .i64 (x 21), .int .i64 (x 22), .int .i64 (x 23), .int .i64 (x 24), .int .i64 (x 25), .int .i64 (x 26), .int .i64 (x 27), .int .i64 (x 28), .int .i64 (x 29), .int .i64 (x 30), .int .i64 (x 31), .int .i64 (x 32), .int .i64 (x 33), .int .i64 (x 34), .int .i64 (x 35), .int .i64 (x 36), .int .i64 (x 37), .int .i64 (x 38), .int .i64 (x 39), .int .i64 (x 40), .int .i64 (x 41), .int .i64 (x 42), .int .i64 (x 43), .int .i64 (x 44), .int .i64 (x 45), .int .i64 (x 46), .int .i64 (x 47), .int .i64 (x 48), .int .i64 (x 49), .int .i64 (x 50), .int .i64 (x 51), .int .i64 (x 52), .int .i64 (x 53), .int .i64 (x 54), .int .i64 (x 55)]] ?_
   refine (check_any x (updf xa 0 (some ⟨zb15, 0, none⟩)) (updf xn 0 0) (updf xc 0 0) _).mono ?_; rintro _ zw32 ⟨rfl, zh33⟩
   have zS34 := zS31.quiet zh33
   refine pure_ (.int .i64 41) ?_
   refine pureE_ (.bool ((polCode x (updf xn 0 0)) == 41)) (.bool true) (congrArg Value.bool (eqT (by have zk := keys_code hX 0 (by omega) 0; omega))) ?_
   refine pure_ (.bool true) ?_
   refine pure_ (.bool true) ?_
   refine nil_ (then_n (wp_ret ?_))
   refine ret_ rfl (res_ [.tmp 6] [.bool true] (.bool true) ⟨res_tmp, trivial⟩) ?_
   exact ⟨rfl, zS34.ch⟩
 intro zh35
 have zh36 := eqF' zh35
 refine split_b ((which % 4) == 1) ?_ ?_
 · intro zh37
   have zh38 := eqT' zh37
   refine slotI_ 27 .u8 (which % 4) 1 (by omega) ?_
   have zh39 : (which % 4) = 1 := by omega
   refine pure_ (.pointer (some ⟨zb10, 6, none⟩)) ?_
   refine store_ zS17 1 (.slice (some ⟨zb15, 0, none⟩) 0 0) zb10 6 ?_
   intro zw40 zS41
   refine nil_ (then_n (seq_ (reg_ ?_)))
   refine pure_ (.int .i64 0) ?_
   refine nil_ (then_n (seq_ (seq_ (reg_ ?_))))
   refine move_ ?_
   refine pure_ (.int .i64 0) ?_
   refine pure_ (.bool true) ?_
   refine pure_ (.bool true) ?_
   refine skip_ ?_
   refine skip_ ?_
   refine skip_ ?_
   refine pure_ (.bool true) ?_
   refine nil_ (then_n (cond_T ?_))
   refine reg_ ?_
   refine pure_ (.int .i64 41) ?_
   refine nil_ (then_n (seq_ (reg_ ?_)))
   refine pure_ (.bool true) ?_
   refine pure_ (.bool true) ?_
   refine loadN_ zS41 1 56 #[.int .i64 (x 0), .int .i64 (x 1), .int .i64 (x 2), .int .i64 (x 3), .int .i64 (x 4), .slice (xa 0) (xn 0) (xc 0), .slice (some ⟨zb15, 0, none⟩) 0 0, .slice (xa 2) (xn 2) (xc 2), .slice (xa 3) (xn 3) (xc 3), .int .i64 (x 9), .int .i64 (x 10), .int .i64 (x 11), .int .i64 (x 12), .int .i64 (x 13), .int .i64 (x 14), .int .i64 (x 15), .int .i64 (x 16), .int .i64 (x 17), .int .i64 (x 18), .int .i64 (x 19), .int .i64 (x 20), .int .i64 (x 21), .int .i64 (x 22), .int .i64 (x 23), .int .i64 (x 24), .int .i64 (x 25), .int .i64 (x 26), .int .i64 (x 27), .int .i64 (x 28), .int .i64 (x 29), .int .i64 (x 30), .int .i64 (x 31), .int .i64 (x 32), .int .i64 (x 33), .int .i64 (x 34), .int .i64 (x 35), .int .i64 (x 36), .int .i64 (x 37), .int .i64 (x 38), .int .i64 (x 39), .int .i64 (x 40), .int .i64 (x 41), .int .i64 (x 42), .int .i64 (x 43), .int .i64 (x 44), .int .i64 (x 45), .int .i64 (x 46), .int .i64 (x 47), .int .i64 (x 48), .int .i64 (x 49), .int .i64 (x 50), .int .i64 (x 51), .int .i64 (x 52), .int .i64 (x 53), .int .i64 (x 54), .int .i64 (x 55)] zb10 0 ?_
   refine call_ 29 #[.agg #[.int .i64 (x 0), .int .i64 (x 1), .int .i64 (x 2), .int .i64 (x 3), .int .i64 (x 4), .slice (xa 0) (xn 0) (xc 0), .slice (some ⟨zb15, 0, none⟩) 0 0, .slice (xa 2) (xn 2) (xc 2), .slice (xa 3) (xn 3) (xc 3), .int .i64 (x 9), .int .i64 (x 10), .int .i64 (x 11), .int .i64 (x 12), .int .i64 (x 13), .int .i64 (x 14), .int .i64 (x 15), .int .i64 (x 16), .int .i64 (x 17), .int .i64 (x 18), .int .i64 (x 19), .int .i64 (x 20), .int .i64 (x 21), .int .i64 (x 22), .int .i64 (x 23), .int .i64 (x 24), .int .i64 (x 25), .int .i64 (x 26), .int .i64 (x 27), .int .i64 (x 28), .int .i64 (x 29), .int .i64 (x 30), .int .i64 (x 31), .int .i64 (x 32), .int .i64 (x 33), .int .i64 (x 34), .int .i64 (x 35), .int .i64 (x 36), .int .i64 (x 37), .int .i64 (x 38), .int .i64 (x 39), .int .i64 (x 40), .int .i64 (x 41), .int .i64 (x 42), .int .i64 (x 43), .int .i64 (x 44), .int .i64 (x 45), .int .i64 (x 46), .int .i64 (x 47), .int .i64 (x 48), .int .i64 (x 49), .int .i64 (x 50), .int .i64 (x 51), .int .i64 (x 52), .int .i64 (x 53), .int .i64 (x 54), .int .i64 (x 55)]] ?_
   refine (check_any x (updf xa 1 (some ⟨zb15, 0, none⟩)) (updf xn 1 0) (updf xc 1 0) _).mono ?_; rintro _ zw42 ⟨rfl, zh43⟩
   have zS44 := zS41.quiet zh43
   refine pure_ (.int .i64 41) ?_
   refine pureE_ (.bool ((polCode x (updf xn 1 0)) == 41)) (.bool true) (congrArg Value.bool (eqT (by have zk := keys_code hX 1 (by omega) 0; omega))) ?_
   refine pure_ (.bool true) ?_
   refine pure_ (.bool true) ?_
   refine nil_ (then_n (wp_ret ?_))
   refine ret_ rfl (res_ [.tmp 6] [.bool true] (.bool true) ⟨res_tmp, trivial⟩) ?_
   exact ⟨rfl, zS44.ch⟩
 intro zh45
 have zh46 := eqF' zh45
 refine slotI_ 27 .u8 (which % 4) 2 (by omega) ?_
 have zh47 : (which % 4) = 2 := by omega
 refine pure_ (.pointer (some ⟨zb10, 7, none⟩)) ?_
 refine store_ zS17 1 (.slice (some ⟨zb15, 0, none⟩) 0 0) zb10 7 ?_
 intro zw48 zS49
 refine nil_ (then_n (seq_ (reg_ ?_)))
 refine pure_ (.int .i64 0) ?_
 refine nil_ (then_n (seq_ (seq_ (reg_ ?_))))
 refine move_ ?_
 refine pure_ (.int .i64 0) ?_
 refine pure_ (.bool true) ?_
 refine pure_ (.bool true) ?_
 refine skip_ ?_
 refine skip_ ?_
 refine skip_ ?_
 refine pure_ (.bool true) ?_
 refine nil_ (then_n (cond_T ?_))
 refine reg_ ?_
 refine pure_ (.int .i64 41) ?_
 refine nil_ (then_n (seq_ (reg_ ?_)))
 refine pure_ (.bool true) ?_
 refine pure_ (.bool true) ?_
 refine loadN_ zS49 1 56 #[.int .i64 (x 0), .int .i64 (x 1), .int .i64 (x 2), .int .i64 (x 3), .int .i64 (x 4), .slice (xa 0) (xn 0) (xc 0), .slice (xa 1) (xn 1) (xc 1), .slice (some ⟨zb15, 0, none⟩) 0 0, .slice (xa 3) (xn 3) (xc 3), .int .i64 (x 9), .int .i64 (x 10), .int .i64 (x 11), .int .i64 (x 12), .int .i64 (x 13), .int .i64 (x 14), .int .i64 (x 15), .int .i64 (x 16), .int .i64 (x 17), .int .i64 (x 18), .int .i64 (x 19), .int .i64 (x 20), .int .i64 (x 21), .int .i64 (x 22), .int .i64 (x 23), .int .i64 (x 24), .int .i64 (x 25), .int .i64 (x 26), .int .i64 (x 27), .int .i64 (x 28), .int .i64 (x 29), .int .i64 (x 30), .int .i64 (x 31), .int .i64 (x 32), .int .i64 (x 33), .int .i64 (x 34), .int .i64 (x 35), .int .i64 (x 36), .int .i64 (x 37), .int .i64 (x 38), .int .i64 (x 39), .int .i64 (x 40), .int .i64 (x 41), .int .i64 (x 42), .int .i64 (x 43), .int .i64 (x 44), .int .i64 (x 45), .int .i64 (x 46), .int .i64 (x 47), .int .i64 (x 48), .int .i64 (x 49), .int .i64 (x 50), .int .i64 (x 51), .int .i64 (x 52), .int .i64 (x 53), .int .i64 (x 54), .int .i64 (x 55)] zb10 0 ?_
 refine call_ 29 #[.agg #[.int .i64 (x 0), .int .i64 (x 1), .int .i64 (x 2), .int .i64 (x 3), .int .i64 (x 4), .slice (xa 0) (xn 0) (xc 0), .slice (xa 1) (xn 1) (xc 1), .slice (some ⟨zb15, 0, none⟩) 0 0, .slice (xa 3) (xn 3) (xc 3), .int .i64 (x 9), .int .i64 (x 10), .int .i64 (x 11), .int .i64 (x 12), .int .i64 (x 13), .int .i64 (x 14), .int .i64 (x 15), .int .i64 (x 16), .int .i64 (x 17), .int .i64 (x 18), .int .i64 (x 19), .int .i64 (x 20), .int .i64 (x 21), .int .i64 (x 22), .int .i64 (x 23), .int .i64 (x 24), .int .i64 (x 25), .int .i64 (x 26), .int .i64 (x 27), .int .i64 (x 28), .int .i64 (x 29), .int .i64 (x 30), .int .i64 (x 31), .int .i64 (x 32), .int .i64 (x 33), .int .i64 (x 34), .int .i64 (x 35), .int .i64 (x 36), .int .i64 (x 37), .int .i64 (x 38), .int .i64 (x 39), .int .i64 (x 40), .int .i64 (x 41), .int .i64 (x 42), .int .i64 (x 43), .int .i64 (x 44), .int .i64 (x 45), .int .i64 (x 46), .int .i64 (x 47), .int .i64 (x 48), .int .i64 (x 49), .int .i64 (x 50), .int .i64 (x 51), .int .i64 (x 52), .int .i64 (x 53), .int .i64 (x 54), .int .i64 (x 55)]] ?_
 refine (check_any x (updf xa 2 (some ⟨zb15, 0, none⟩)) (updf xn 2 0) (updf xc 2 0) _).mono ?_; rintro _ zw50 ⟨rfl, zh51⟩
 have zS52 := zS49.quiet zh51
 refine pure_ (.int .i64 41) ?_
 refine pureE_ (.bool ((polCode x (updf xn 2 0)) == 41)) (.bool true) (congrArg Value.bool (eqT (by have zk := keys_code hX 2 (by omega) 0; omega))) ?_
 refine pure_ (.bool true) ?_
 refine pure_ (.bool true) ?_
 refine nil_ (then_n (wp_ret ?_))
 refine ret_ rfl (res_ [.tmp 6] [.bool true] (.bool true) ⟨res_tmp, trivial⟩) ?_
 exact ⟨rfl, zS52.ch⟩

end Go.Proofs.Ytabnjfboigmleaa
