/- PolicyOrders, PolicyBounds, PolicyKeys, PolicyFirst: the walks. -/
import Derived.Test.YtabnjfboigmleaaXPolLaw
import Derived.Test.YtabnjfboigmleaaXFit
import Derived.Test.YtabnjfboigmleaaSR
namespace Go.Proofs.Ytabnjfboigmleaa
open Go Go.RowKit Go.BigFrame Sx
set_option linter.unusedVariables false
set_option linter.unusedSimpArgs false

def condB (j : Nat) (q : Nat → Int) (kn : Nat → Nat) : Bool := match j with
  | 0 => ordB q
  | 1 => (keys3 kn && keyB (kn 3))
  | 2 => (q 9 == 1 && (q 13 == 0 && roles3 q))
  | 3 => tab5 q
  | 4 => allI 0 31 [q 34, q 35, q 36, q 37, q 38]
  | 5 => allI 0 4 [q 39, q 40, q 41]
  | 6 => allI 1 1000 [q 42, q 43, q 44, q 45]
  | 7 => (inB 1 1000 (q 46) && inB 0 1000 (q 47))
  | 8 => allI 1 3 [q 48, q 49]
  | 9 => (q 50 == 0 && (allI 0 1000 [q 51, q 52, q 53] && inB 1 1000 (q 54)))
  | 10 => inB 0 65535 (q 55)
  | _ => true
theorem polCode_eq (q : Nat → Int) (kn : Nat → Nat) : polCode q kn = if condB 0 q kn = false then 40 else if condB 1 q kn = false then 41 else if condB 2 q kn = false then 42 else if condB 3 q kn = false then 43 else if condB 4 q kn = false then 44 else if condB 5 q kn = false then 45 else if condB 6 q kn = false then 46 else if condB 7 q kn = false then 47 else if condB 8 q kn = false then 48 else if condB 9 q kn = false then 49 else if condB 10 q kn = false then 50 else 0 := rfl
theorem polCode_ok {q : Nat → Int} {kn : Nat → Nat} (h : ∀ j, condB j q kn = true) : polCode q kn = 0 := by
  rw [polCode_eq]; simp [h]
/-- one thing is wrong: the first one is told -/
theorem polCode_at {q : Nat → Int} {kn : Nat → Nat} (a : Nat) (ha : a < 11) (h : ∀ j, j < a → condB j q kn = true) (hf : condB a q kn = false) : polCode q kn = 40 + a := by
  rw [polCode_eq]
  match a, ha, h, hf with
  | 0, _, h, hf => simp [hf]
  | 1, _, h, hf => simp [hf, h 0 (by omega)]
  | 2, _, h, hf => simp [hf, h 0 (by omega), h 1 (by omega)]
  | 3, _, h, hf => simp [hf, h 0 (by omega), h 1 (by omega), h 2 (by omega)]
  | 4, _, h, hf => simp [hf, h 0 (by omega), h 1 (by omega), h 2 (by omega), h 3 (by omega)]
  | 5, _, h, hf => simp [hf, h 0 (by omega), h 1 (by omega), h 2 (by omega), h 3 (by omega), h 4 (by omega)]
  | 6, _, h, hf => simp [hf, h 0 (by omega), h 1 (by omega), h 2 (by omega), h 3 (by omega), h 4 (by omega), h 5 (by omega)]
  | 7, _, h, hf => simp [hf, h 0 (by omega), h 1 (by omega), h 2 (by omega), h 3 (by omega), h 4 (by omega), h 5 (by omega), h 6 (by omega)]
  | 8, _, h, hf => simp [hf, h 0 (by omega), h 1 (by omega), h 2 (by omega), h 3 (by omega), h 4 (by omega), h 5 (by omega), h 6 (by omega), h 7 (by omega)]
  | 9, _, h, hf => simp [hf, h 0 (by omega), h 1 (by omega), h 2 (by omega), h 3 (by omega), h 4 (by omega), h 5 (by omega), h 6 (by omega), h 7 (by omega), h 8 (by omega)]
  | 10, _, h, hf => simp [hf, h 0 (by omega), h 1 (by omega), h 2 (by omega), h 3 (by omega), h 4 (by omega), h 5 (by omega), h 6 (by omega), h 7 (by omega), h 8 (by omega), h 9 (by omega)]
  | a + 11, ha, _, _ => omega
theorem inB_mk (lo hi n : Int) (h : lo ≤ n ∧ n ≤ hi) : inB lo hi n = true := by simp [inB]; omega
theorem fit_cond {q : Nat → Int} {o1 o2 o3 : Int} (hO : OrdR q o1 o2 o3) (kn : Nat → Nat) (kb : Nat → Nat → Int) (j : Nat) : condB j (fitQ q o1 o2 o3) (fun i => (keyL (kn i) (kb i)).length) = true := by
  have h3 := fun n => modI_bd n 3 (by omega)
  have h5 := fun n => modI_bd n 5 (by omega)
  have h1000 := fun n => modI_bd n 1000 (by omega)
  have h1001 := fun n => modI_bd n 1001 (by omega)
  unfold condB
  split
  · rcases hO.perm with ⟨rfl, rfl, rfl⟩ | ⟨rfl, rfl, rfl⟩ | ⟨rfl, rfl, rfl⟩ | ⟨rfl, rfl, rfl⟩ | ⟨rfl, rfl, rfl⟩ | ⟨rfl, rfl, rfl⟩ <;> rfl
  · have hk : ∀ i, keyB ((keyL (kn i) (kb i)).length) = true := fun i => by
      have := keyL_len (kn i) (kb i)
      simp [keyB]; omega
    simp only [keys3, hk, Bool.and_self]
  · show (true && (true && (setB (q 10 % 16 - q 10 % 2) && (setB (q 11 % 16 - q 11 % 2) && setB (q 12 % 16 - q 12 % 2))))) = true
    have hs : ∀ n : Int, setB (n % 16 - n % 2) = true := fun n => by simp [setB, inB]; omega
    simp only [hs, Bool.and_self]
  · have hi : ∀ n : Int, inB 0 15 (n % 16) = true := fun n => inB_mk _ _ _ (by omega)
    show (allI 0 15 [q 14 % 16, q 15 % 16, q 16 % 16, q 17 % 16] && (allI 0 15 [q 18 % 16, q 19 % 16, q 20 % 16, q 21 % 16] && (allI 0 15 [q 22 % 16, q 23 % 16, q 24 % 16, q 25 % 16] && (allI 0 15 [q 26 % 16, q 27 % 16, q 28 % 16, q 29 % 16] && allI 0 15 [q 30 % 16, q 31 % 16, q 32 % 16, q 33 % 16])))) = true
    simp only [allI, hi, Bool.and_self]
  · have hi : ∀ n : Int, inB 0 31 (n % 32) = true := fun n => inB_mk _ _ _ (by omega)
    show allI 0 31 [q 34 % 32, q 35 % 32, q 36 % 32, q 37 % 32, q 38 % 32] = true
    simp only [allI, hi, Bool.and_self]
  · have hi : ∀ n : Int, inB 0 4 (modI n 5) = true := fun n => inB_mk _ _ _ (by have := h5 n; omega)
    show allI 0 4 [modI (q 39) 5, modI (q 40) 5, modI (q 41) 5] = true
    simp only [allI, hi, Bool.and_self]
  · have hi : ∀ n : Int, inB 1 1000 (1 + modI n 1000) = true := fun n => inB_mk _ _ _ (by have := h1000 n; omega)
    show allI 1 1000 [1 + modI (q 42) 1000, 1 + modI (q 43) 1000, 1 + modI (q 44) 1000, 1 + modI (q 45) 1000] = true
    simp only [allI, hi, Bool.and_self]
  · show (inB 1 1000 (1 + modI (q 46) 1000) && inB 0 1000 (modI (q 47) 1001)) = true
    rw [inB_mk _ _ _ (by have := h1000 (q 46); omega), inB_mk _ _ _ (by have := h1001 (q 47); omega)]; rfl
  · have hi : ∀ n : Int, inB 1 3 (1 + modI n 3) = true := fun n => inB_mk _ _ _ (by have := h3 n; omega)
    show allI 1 3 [1 + modI (q 48) 3, 1 + modI (q 49) 3] = true
    simp only [allI, hi, Bool.and_self]
  · have hi : ∀ n : Int, inB 0 1000 (modI n 1001) = true := fun n => inB_mk _ _ _ (by have := h1001 n; omega)
    show (true && (allI 0 1000 [modI (q 51) 1001, modI (q 52) 1001, modI (q 53) 1001] && inB 1 1000 (1 + modI (q 54) 1000))) = true
    simp only [allI, hi, Bool.and_self]
    rw [inB_mk _ _ _ (by have := h1000 (q 54); omega)]; rfl
  · exact inB_mk _ _ _ (by show 0 ≤ q 55 % 65536 ∧ q 55 % 65536 ≤ 65535; omega)
  · rfl

/-- a policy made one that may be: any such one -/
theorem fitA_ (q : Nat → Int) (ka : Nat → Option Addr) (kn kc : Nat → Nat) (kb : Nat → Nat → Int) (w0 w : World) (hc : Ch [] w0 w) (hq : ∀ i, -9223372036854775808 ≤ q i ∧ q i ≤ 9223372036854775807) (hK : ∀ i, i < 4 → KeyIn [] w0 (ka i) (kn i) (kc i) (kb i)) :
    Gives Try.prog 33 #[.agg (polC q ka kn kc)] w fun v w1 => ∃ x xa xn xc, (∀ j, condB j x xn = true) ∧ v = .agg (polC x xa xn xc) ∧ Ch [] w w1 := by
  have S0 : St [] w0 [] w := (St.nil [] w0).quiet hc
  have hK' : ∀ i, i < 4 → KeyIn [] w (ka i) (kn i) (kc i) (kb i) := fun i hi => ⟨(hK i hi).1, (hK i hi).2.1, fun ad ha => ⟨by simp, fun j hj => by
    have h := ((hK i hi).2.2 ad ha).2 j hj
    rcases e : ad.add j with ⟨b, o, sp⟩
    rw [e] at h
    have hb : b < w0.heap.size := by
      unfold World.cell? at h
      split at h
      · next h2 => exact heap_lt h2
      · exact absurd h (by simp)
    have h3 := hc.block b hb (by simp)
    unfold World.cell? at h ⊢
    simpa only [h3] using h⟩⟩
  refine (fit_ q ka kn kc kb w (St.nil [] w) hq hK').mono ?_
  rintro v w1 ⟨o1, o2, o3, b, c, tl, hO, rfl, _, S⟩
  exact ⟨_, _, _, _, fit_cond hO kn kb, rfl, S.ch⟩

def upd5 (x : Nat → Int) (a0 a1 a2 a3 a4 : Int) : Nat → Int := fun k => ([a0, a1, a2, a3, a4] : List Int).getD k (x k)
theorem upd5_cond (x : Nat → Int) (kn : Nat → Nat) (a0 a1 a2 a3 a4 : Int) (j : Nat) (h : condB (j + 1) x kn = true) : condB (j + 1) (upd5 x a0 a1 a2 a3 a4) kn = true := by
  match j, h with
  | 0, h => exact h
  | 1, h => exact h
  | 2, h => exact h
  | 3, h => exact h
  | 4, h => exact h
  | 5, h => exact h
  | 6, h => exact h
  | 7, h => exact h
  | 8, h => exact h
  | 9, h => exact h
  | j + 10, h => exact h
theorem ord_is (x : Nat → Int) (kn : Nat → Nat) (a0 a1 a2 a3 a4 : Int) : condB 0 (upd5 x a0 a1 a2 a3 a4) kn = (a0 == 0 && (a4 == 4 && (isIn a1 a2 a3 1 && (isIn a1 a2 a3 2 && isIn a1 a2 a3 3)))) := rfl
theorem ord_code {x : Nat → Int} {kn : Nat → Nat} (hX : ∀ j, condB j x kn = true) (a0 a1 a2 a3 a4 : Int) (h : (0 ≤ a0 ∧ a0 ≤ 4) ∧ (0 ≤ a1 ∧ a1 ≤ 4) ∧ (0 ≤ a2 ∧ a2 ≤ 4) ∧ (0 ≤ a3 ∧ a3 ≤ 4) ∧ (0 ≤ a4 ∧ a4 ≤ 4)) (n : Int) (hn : n = 10 * (10 * (10 * (10 * a0 + a1) + a2) + a3) + a4) :
    (polCode (upd5 x a0 a1 a2 a3 a4) kn = 0 ∧ (n = 1234 ∨ n = 1324 ∨ n = 2134 ∨ n = 2314 ∨ n = 3124 ∨ n = 3214)) ∨ (polCode (upd5 x a0 a1 a2 a3 a4) kn = 40 ∧ ¬ (n = 1234 ∨ n = 1324 ∨ n = 2134 ∨ n = 2314 ∨ n = 3124 ∨ n = 3214)) := by
  have hc : ∀ j, condB (j + 1) (upd5 x a0 a1 a2 a3 a4) kn = true := fun j => upd5_cond x kn a0 a1 a2 a3 a4 j (hX _)
  cases h0 : condB 0 (upd5 x a0 a1 a2 a3 a4) kn with
  | true =>
    refine .inl ⟨polCode_ok fun j => by cases j with
      | zero => exact h0
      | succ j => exact hc j, ?_⟩
    rw [ord_is x kn] at h0
    simp [isIn] at h0
    obtain ⟨ha0, ha4, h1, h2, h3⟩ := h0
    subst hn
    clear hc hX
    rcases h1 with h1 | h1 | h1 <;> rcases h2 with h2 | h2 | h2 <;> rcases h3 with h3 | h3 | h3 <;> omega
  | false =>
    refine .inr ⟨by have := polCode_at 0 (by omega) (fun j hj => absurd hj (by omega)) h0; simpa using this, ?_⟩
    rw [ord_is x kn] at h0
    intro hm
    clear hc hX
    rcases hm with hm | hm | hm | hm | hm | hm <;> rw [hn] at hm
    · obtain ⟨rfl, rfl, rfl, rfl, rfl⟩ : a0 = 0 ∧ a1 = 1 ∧ a2 = 2 ∧ a3 = 3 ∧ a4 = 4 := by omega
      simp [isIn] at h0
    · obtain ⟨rfl, rfl, rfl, rfl, rfl⟩ : a0 = 0 ∧ a1 = 1 ∧ a2 = 3 ∧ a3 = 2 ∧ a4 = 4 := by omega
      simp [isIn] at h0
    · obtain ⟨rfl, rfl, rfl, rfl, rfl⟩ : a0 = 0 ∧ a1 = 2 ∧ a2 = 1 ∧ a3 = 3 ∧ a4 = 4 := by omega
      simp [isIn] at h0
    · obtain ⟨rfl, rfl, rfl, rfl, rfl⟩ : a0 = 0 ∧ a1 = 2 ∧ a2 = 3 ∧ a3 = 1 ∧ a4 = 4 := by omega
      simp [isIn] at h0
    · obtain ⟨rfl, rfl, rfl, rfl, rfl⟩ : a0 = 0 ∧ a1 = 3 ∧ a2 = 1 ∧ a3 = 2 ∧ a4 = 4 := by omega
      simp [isIn] at h0
    · obtain ⟨rfl, rfl, rfl, rfl, rfl⟩ : a0 = 0 ∧ a1 = 3 ∧ a2 = 2 ∧ a3 = 1 ∧ a4 = 4 := by omega
      simp [isIn] at h0

set_option maxRecDepth 100000 in
set_option maxHeartbeats 4000000 in
theorem policyOrders_any (q : Nat → Int) (ka : Nat → Option Addr) (kn kc : Nat → Nat) (kb : Nat → Nat → Int) (l0 l1 l2 l3 l4 : Int) (hl : (0 ≤ l0 ∧ l0 ≤ 255) ∧ (0 ≤ l1 ∧ l1 ≤ 255) ∧ (0 ≤ l2 ∧ l2 ≤ 255) ∧ (0 ≤ l3 ∧ l3 ≤ 255) ∧ (0 ≤ l4 ∧ l4 ≤ 255)) (w : World) (hq : ∀ i, -9223372036854775808 ≤ q i ∧ q i ≤ 9223372036854775807) (hK : ∀ i, i < 4 → KeyIn [] w (ka i) (kn i) (kc i) (kb i)) :
    Gives Try.prog 15 #[.agg (polC q ka kn kc), .agg #[.int .u8 l0, .int .u8 l1, .int .u8 l2, .int .u8 l3, .int .u8 l4]] w fun v w1 => v = .bool true ∧ Ch [] w w1 := by
 have S0 := St.nil [] w
 refine enter_ Try.func15 rfl ?_
 refine seq_ (reg_ ?_)
 refine new_ S0 (fun b => .pointer (some ⟨b, 0, none⟩)) (.cells (polC q ka kn kc) 37) ?_
 intro zb1 zw2 zS3
 refine new_ zS3 (fun b => .pointer (some ⟨b, 0, none⟩)) (.cells #[.int .u8 l0, .int .u8 l1, .int .u8 l2, .int .u8 l3, .int .u8 l4] 70) ?_
 intro zb4 zw5 zS6
 refine pure_ (.bool false) ?_
 refine nil_ (then_n (seq_ (reg_ ?_)))
 refine call_ 27 #[] ?_
 refine (shown12 _).mono ?_; rintro _ zw7 ⟨rfl, zhc8⟩
 have zS9 := zS6.quiet zhc8
 refine pure_ (.bool true) ?_
 refine nil_ (then_n (seq_ (reg_ ?_)))
 refine loadN_ zS9 1 56 (polC q ka kn kc) zb1 0 ?_
 refine call_ 33 #[.agg (polC q ka kn kc)] ?_
 refine (fitA_ q ka kn kc kb w _ zS9.ch hq hK).mono ?_; rintro _ zw10 ⟨x, xa, xn, xc, hX, rfl, zh11⟩
 have zS12 := zS9.quiet zh11
 refine new_ zS12 (fun b => .pointer (some ⟨b, 0, none⟩)) (.cells #[.int .i64 0, .int .i64 0, .int .i64 0, .int .i64 0, .int .i64 0, .slice none 0 0, .slice none 0 0, .slice none 0 0, .slice none 0 0, .int .i64 0, .int .i64 0, .int .i64 0, .int .i64 0, .int .i64 0, .int .i64 0, .int .i64 0, .int .i64 0, .int .i64 0, .int .i64 0, .int .i64 0, .int .i64 0, .int .i64 0, .int .i64 0, .int .i64 0, .int .i64 0, .int .i64 0, .int .i64 0, .int .i64 0, .int .i64 0, .int .i64 0, .int .i64 0, .int .i64 0, .int .i64 0, .int .i64 0, .int .i64 0, .int .i64 0, .int .i64 0, .int .i64 0, .int .i64 0, .int .i64 0, .int .i64 0, .int .i64 0, .int .i64 0, .int .i64 0, .int .i64 0, .int .i64 0, .int .i64 0, .int .i64 0, .int .i64 0, .int .i64 0, .int .i64 0, .int .i64 0, .int .i64 0, .int .i64 0, .int .i64 0, .int .i64 0] 37) ?_
 intro zb13 zw14 zS15
 refine store_ zS15 0 (.agg (polC x xa xn xc)) zb13 0 ?_
 intro zw16 zS17
 refine nil_ (then_n (seq_ (reg_ ?_)))
 refine pure_ (.int .i64 0) ?_
 refine nil_ (then_n (seq_ (seq_ (reg_ ?_))))
 refine pure_ (.int .i64 0) ?_
 refine nil_ (then_n (wp_block (loop_ 24 (seq_ (seq_ (reg_ ?_))))))
 refine pure_ (.int .i64 0) ?_
 refine pure_ (.bool true) ?_
 refine nil_ (then_n (cond_T ?_))
 refine wp_skip (then_n (seq_ (wp_block (seq_ (reg_ ?_)))))
 refine pure_ (.int .i64 0) ?_
 refine pure_ (.int .i64 0) ?_
 refine pure_ (.pointer (some ⟨zb4, 0, none⟩)) ?_
 refine load1_ zS17 1 (.int .u8 l0) zb4 0 ?_
 refine sum_ .i64 l0 (IntWalk.i64_in _ (by omega)) ?_
 refine pureE_ (.int .i64 (Int.tmod l0 5)) (.int .i64 (l0 % 5)) (congrArg _ (IntWalk.rem_in _ _ (by omega))) ?_
 refine pure_ (.pointer (some ⟨zb13, 0, none⟩)) ?_
 refine pure_ (.pointer (some ⟨zb13, 0, none⟩)) ?_
 refine store_ zS17 0 (.int .i64 (l0 % 5)) zb13 0 ?_
 intro zw18 zS19
 refine nil_ (then_n (reg_ ?_))
 refine pure_ (.int .i64 0) ?_
 refine pure_ (.int .i64 0) ?_
 refine pure_ (.int .i64 0) ?_
 refine pure_ (.pointer (some ⟨zb13, 0, none⟩)) ?_
 refine pure_ (.pointer (some ⟨zb13, 0, none⟩)) ?_
 refine load1_ zS19 0 (.int .i64 (l0 % 5)) zb13 0 ?_
 refine sum_ .i64 (0 + (l0 % 5)) (IntWalk.i64_in _ (by omega)) ?_
 refine pure_ (.int .i64 (0 + (l0 % 5))) ?_
 refine nil_ (blk_n (then_n (reg_ ?_)))
 refine pure_ (.int .i64 0) ?_
 refine pure_ (.int .i64 1) ?_
 refine pure_ (.int .i64 1) ?_
 refine nil_ (again_ (seq_ (seq_ (reg_ ?_))))
 refine pure_ (.int .i64 1) ?_
 refine pure_ (.bool true) ?_
 refine nil_ (then_n (cond_T ?_))
 refine wp_skip (then_n (seq_ (wp_block (seq_ (reg_ ?_)))))
 refine pure_ (.int .i64 1) ?_
 refine pure_ (.int .i64 1) ?_
 refine pure_ (.pointer (some ⟨zb4, 1, none⟩)) ?_
 refine load1_ zS19 1 (.int .u8 l1) zb4 1 ?_
 refine sum_ .i64 l1 (IntWalk.i64_in _ (by omega)) ?_
 refine pureE_ (.int .i64 (Int.tmod l1 5)) (.int .i64 (l1 % 5)) (congrArg _ (IntWalk.rem_in _ _ (by omega))) ?_
 refine pure_ (.pointer (some ⟨zb13, 0, none⟩)) ?_
 refine pure_ (.pointer (some ⟨zb13, 1, none⟩)) ?_
 refine store_ zS19 0 (.int .i64 (l1 % 5)) zb13 1 ?_
 intro zw20 zS21
 refine nil_ (then_n (reg_ ?_))
 refine pure_ (.int .i64 (0 + (l0 % 5))) ?_
 refine sum_ .i64 (10 * (0 + (l0 % 5))) (IntWalk.i64_in _ (by omega)) ?_
 refine pure_ (.int .i64 1) ?_
 refine pure_ (.pointer (some ⟨zb13, 0, none⟩)) ?_
 refine pure_ (.pointer (some ⟨zb13, 1, none⟩)) ?_
 refine load1_ zS21 0 (.int .i64 (l1 % 5)) zb13 1 ?_
 refine sum_ .i64 ((10 * (0 + (l0 % 5))) + (l1 % 5)) (IntWalk.i64_in _ (by omega)) ?_
 refine assign_ ?_
 refine nil_ (blk_n (then_n (reg_ ?_)))
 refine pure_ (.int .i64 1) ?_
 refine pure_ (.int .i64 2) ?_
 refine pure_ (.int .i64 2) ?_
 refine nil_ (again_ (seq_ (seq_ (reg_ ?_))))
 refine pure_ (.int .i64 2) ?_
 refine pure_ (.bool true) ?_
 refine nil_ (then_n (cond_T ?_))
 refine wp_skip (then_n (seq_ (wp_block (seq_ (reg_ ?_)))))
 refine pure_ (.int .i64 2) ?_
 refine pure_ (.int .i64 2) ?_
 refine pure_ (.pointer (some ⟨zb4, 2, none⟩)) ?_
 refine load1_ zS21 1 (.int .u8 l2) zb4 2 ?_
 refine sum_ .i64 l2 (IntWalk.i64_in _ (by omega)) ?_
 refine pureE_ (.int .i64 (Int.tmod l2 5)) (.int .i64 (l2 % 5)) (congrArg _ (IntWalk.rem_in _ _ (by omega))) ?_
 refine pure_ (.pointer (some ⟨zb13, 0, none⟩)) ?_
 refine pure_ (.pointer (some ⟨zb13, 2, none⟩)) ?_
 refine store_ zS21 0 (.int .i64 (l2 % 5)) zb13 2 ?_
 intro zw22 zS23
 refine nil_ (then_n (reg_ ?_))
 refine move_ ?_
 refine sum_ .i64 (10 * ((10 * (0 + (l0 % 5))) + (l1 % 5))) (IntWalk.i64_in _ (by omega)) ?_
 refine pure_ (.int .i64 2) ?_
 refine pure_ (.pointer (some ⟨zb13, 0, none⟩)) ?_
 refine pure_ (.pointer (some ⟨zb13, 2, none⟩)) ?_
 refine load1_ zS23 0 (.int .i64 (l2 % 5)) zb13 2 ?_
 refine sum_ .i64 ((10 * ((10 * (0 + (l0 % 5))) + (l1 % 5))) + (l2 % 5)) (IntWalk.i64_in _ (by omega)) ?_
 refine assign_ ?_
 refine nil_ (blk_n (then_n (reg_ ?_)))
 refine pure_ (.int .i64 2) ?_
 refine pure_ (.int .i64 3) ?_
 refine pure_ (.int .i64 3) ?_
 refine nil_ (again_ (seq_ (seq_ (reg_ ?_))))
 refine pure_ (.int .i64 3) ?_
 refine pure_ (.bool true) ?_
 refine nil_ (then_n (cond_T ?_))
 refine wp_skip (then_n (seq_ (wp_block (seq_ (reg_ ?_)))))
 refine pure_ (.int .i64 3) ?_
 refine pure_ (.int .i64 3) ?_
 refine pure_ (.pointer (some ⟨zb4, 3, none⟩)) ?_
 refine load1_ zS23 1 (.int .u8 l3) zb4 3 ?_
 refine sum_ .i64 l3 (IntWalk.i64_in _ (by omega)) ?_
 refine pureE_ (.int .i64 (Int.tmod l3 5)) (.int .i64 (l3 % 5)) (congrArg _ (IntWalk.rem_in _ _ (by omega))) ?_
 refine pure_ (.pointer (some ⟨zb13, 0, none⟩)) ?_
 refine pure_ (.pointer (some ⟨zb13, 3, none⟩)) ?_
 refine store_ zS23 0 (.int .i64 (l3 % 5)) zb13 3 ?_
 intro zw24 zS25
 refine nil_ (then_n (reg_ ?_))
 refine move_ ?_
 refine sum_ .i64 (10 * ((10 * ((10 * (0 + (l0 % 5))) + (l1 % 5))) + (l2 % 5))) (IntWalk.i64_in _ (by omega)) ?_
 refine pure_ (.int .i64 3) ?_
 refine pure_ (.pointer (some ⟨zb13, 0, none⟩)) ?_
 refine pure_ (.pointer (some ⟨zb13, 3, none⟩)) ?_
 refine load1_ zS25 0 (.int .i64 (l3 % 5)) zb13 3 ?_
 refine sum_ .i64 ((10 * ((10 * ((10 * (0 + (l0 % 5))) + (l1 % 5))) + (l2 % 5))) + (l3 % 5)) (IntWalk.i64_in _ (by omega)) ?_
 refine assign_ ?_
 refine nil_ (blk_n (then_n (reg_ ?_)))
 refine pure_ (.int .i64 3) ?_
 refine pure_ (.int .i64 4) ?_
 refine pure_ (.int .i64 4) ?_
 refine nil_ (again_ (seq_ (seq_ (reg_ ?_))))
 refine pure_ (.int .i64 4) ?_
 refine pure_ (.bool true) ?_
 refine nil_ (then_n (cond_T ?_))
 refine wp_skip (then_n (seq_ (wp_block (seq_ (reg_ ?_)))))
 refine pure_ (.int .i64 4) ?_
 refine pure_ (.int .i64 4) ?_
 refine pure_ (.pointer (some ⟨zb4, 4, none⟩)) ?_
 refine load1_ zS25 1 (.int .u8 l4) zb4 4 ?_
 refine sum_ .i64 l4 (IntWalk.i64_in _ (by omega)) ?_
 refine pureE_ (.int .i64 (Int.tmod l4 5)) (.int .i64 (l4 % 5)) (congrArg _ (IntWalk.rem_in _ _ (by omega))) ?_
 refine pure_ (.pointer (some ⟨zb13, 0, none⟩)) ?_
 refine pure_ (.pointer (some ⟨zb13, 4, none⟩)) ?_
 refine store_ zS25 0 (.int .i64 (l4 % 5)) zb13 4 ?_
 intro zw26 zS27
 refine nil_ (then_n (reg_ ?_))
 refine move_ ?_
 refine sum_ .i64 (10 * ((10 * ((10 * ((10 * (0 + (l0 % 5))) + (l1 % 5))) + (l2 % 5))) + (l3 % 5))) (IntWalk.i64_in _ (by omega)) ?_
 refine pure_ (.int .i64 4) ?_
 refine pure_ (.pointer (some ⟨zb13, 0, none⟩)) ?_
 refine pure_ (.pointer (some ⟨zb13, 4, none⟩)) ?_
 refine load1_ zS27 0 (.int .i64 (l4 % 5)) zb13 4 ?_
 refine sum_ .i64 ((10 * ((10 * ((10 * ((10 * (0 + (l0 % 5))) + (l1 % 5))) + (l2 % 5))) + (l3 % 5))) + (l4 % 5)) (IntWalk.i64_in _ (by omega)) ?_
 refine assign_ ?_
 refine nil_ (blk_n (then_n (reg_ ?_)))
 refine pure_ (.int .i64 4) ?_
 refine pure_ (.int .i64 5) ?_
 refine pure_ (.int .i64 5) ?_
 refine nil_ (again_ (seq_ (seq_ (reg_ ?_))))
 refine pure_ (.int .i64 5) ?_
 refine pure_ (.bool false) ?_
 refine nil_ (then_n (cond_F ?_))
 refine wp_exit (then_e (then_e (blk_e (then_n (seq_ (reg_ ?_))))))
 refine move_ ?_
 refine pure_ (.bool (((10 * ((10 * ((10 * ((10 * (0 + (l0 % 5))) + (l1 % 5))) + (l2 % 5))) + (l3 % 5))) + (l4 % 5)) == 1234)) ?_
 refine move_ ?_
 refine slot_ 34 (((10 * ((10 * ((10 * ((10 * (0 + (l0 % 5))) + (l1 % 5))) + (l2 % 5))) + (l3 % 5))) + (l4 % 5)) == 1234) ?_ ?_
 · intro zh28
   have zh29 := eqT' zh28
   refine skip_ ?_
   refine skip_ ?_
   refine pure_ (.bool true) ?_
   refine pure_ (.bool true) ?_
   refine skip_ ?_
   refine skip_ ?_
   refine pure_ (.bool true) ?_
   refine pure_ (.bool true) ?_
   refine skip_ ?_
   refine skip_ ?_
   refine pure_ (.bool true) ?_
   refine pure_ (.bool true) ?_
   refine skip_ ?_
   refine skip_ ?_
   refine pure_ (.bool true) ?_
   refine pure_ (.bool true) ?_
   refine skip_ ?_
   refine skip_ ?_
   refine pure_ (.bool true) ?_
   refine pure_ (.bool true) ?_
   refine nil_ (then_n (seq_ (reg_ ?_)))
   refine pure_ (.bool true) ?_
   refine pure_ (.bool true) ?_
   refine loadN_ zS27 0 56 (polC (upd5 x (l0 % 5) (l1 % 5) (l2 % 5) (l3 % 5) (l4 % 5)) xa xn xc) zb13 0 ?_
   refine call_ 29 #[.agg (polC (upd5 x (l0 % 5) (l1 % 5) (l2 % 5) (l3 % 5) (l4 % 5)) xa xn xc)] ?_
   refine (check_any (upd5 x (l0 % 5) (l1 % 5) (l2 % 5) (l3 % 5) (l4 % 5)) xa xn xc _).mono ?_; rintro _ zw30 ⟨rfl, zh31⟩
   have zS32 := zS27.quiet zh31
   refine pureE_ (.bool ((polCode (upd5 x (l0 % 5) (l1 % 5) (l2 % 5) (l3 % 5) (l4 % 5)) xn) == 0)) (.bool true) (congrArg Value.bool (eqT (by have zk := ord_code (kn := xn) hX (l0 % 5) (l1 % 5) (l2 % 5) (l3 % 5) (l4 % 5) (by omega) _ rfl; omega))) ?_
   refine pure_ (.bool true) ?_
   refine pure_ (.bool true) ?_
   refine pure_ (.bool true) ?_
   refine pure_ (.bool true) ?_
   refine pure_ (.bool true) ?_
   refine pure_ (.bool true) ?_
   refine skip_ ?_
   refine skip_ ?_
   refine skip_ ?_
   refine pure_ (.bool true) ?_
   refine pure_ (.bool true) ?_
   refine pure_ (.bool true) ?_
   refine nil_ (then_n (wp_ret ?_))
   refine ret_ rfl (res_ [.tmp 4] [.bool true] (.bool true) ⟨res_tmp, trivial⟩) ?_
   exact ⟨rfl, zS32.ch⟩
 intro zh33
 have zh34 := eqF' zh33
 refine move_ ?_
 refine pure_ (.bool (((10 * ((10 * ((10 * ((10 * (0 + (l0 % 5))) + (l1 % 5))) + (l2 % 5))) + (l3 % 5))) + (l4 % 5)) == 1324)) ?_
 refine pure_ (.bool (((10 * ((10 * ((10 * ((10 * (0 + (l0 % 5))) + (l1 % 5))) + (l2 % 5))) + (l3 % 5))) + (l4 % 5)) == 1324)) ?_
 refine move_ ?_
 refine slot_ 38 (((10 * ((10 * ((10 * ((10 * (0 + (l0 % 5))) + (l1 % 5))) + (l2 % 5))) + (l3 % 5))) + (l4 % 5)) == 1324) ?_ ?_
 · intro zh35
   have zh36 := eqT' zh35
   refine skip_ ?_
   refine skip_ ?_
   refine pure_ (.bool true) ?_
   refine pure_ (.bool true) ?_
   refine skip_ ?_
   refine skip_ ?_
   refine pure_ (.bool true) ?_
   refine pure_ (.bool true) ?_
   refine skip_ ?_
   refine skip_ ?_
   refine pure_ (.bool true) ?_
   refine pure_ (.bool true) ?_
   refine skip_ ?_
   refine skip_ ?_
   refine pure_ (.bool true) ?_
   refine pure_ (.bool true) ?_
   refine nil_ (then_n (seq_ (reg_ ?_)))
   refine pure_ (.bool true) ?_
   refine pure_ (.bool true) ?_
   refine loadN_ zS27 0 56 (polC (upd5 x (l0 % 5) (l1 % 5) (l2 % 5) (l3 % 5) (l4 % 5)) xa xn xc) zb13 0 ?_
   refine call_ 29 #[.agg (polC (upd5 x (l0 % 5) (l1 % 5) (l2 % 5) (l3 % 5) (l4 % 5)) xa xn xc)] ?_
   refine (check_any (upd5 x (l0 % 5) (l1 % 5) (l2 % 5) (l3 % 5) (l4 % 5)) xa xn xc _).mono ?_; rintro _ zw37 ⟨rfl, zh38⟩
   have zS39 := zS27.quiet zh38
   refine pureE_ (.bool ((polCode (upd5 x (l0 % 5) (l1 % 5) (l2 % 5) (l3 % 5) (l4 % 5)) xn) == 0)) (.bool true) (congrArg Value.bool (eqT (by have zk := ord_code (kn := xn) hX (l0 % 5) (l1 % 5) (l2 % 5) (l3 % 5) (l4 % 5) (by omega) _ rfl; omega))) ?_
   refine pure_ (.bool true) ?_
   refine pure_ (.bool true) ?_
   refine pure_ (.bool true) ?_
   refine pure_ (.bool true) ?_
   refine pure_ (.bool true) ?_
   refine pure_ (.bool true) ?_
   refine skip_ ?_
   refine skip_ ?_
   refine skip_ ?_
   refine pure_ (.bool true) ?_
   refine pure_ (.bool true) ?_
   refine pure_ (.bool true) ?_
   refine nil_ (then_n (wp_ret ?_))
   refine ret_ rfl (res_ [.tmp 4] [.bool true] (.bool true) ⟨res_tmp, trivial⟩) ?_
   exact ⟨rfl, zS39.ch⟩
 intro zh40
 have zh41 := eqF' zh40
 refine move_ ?_
 refine pure_ (.bool (((10 * ((10 * ((10 * ((10 * (0 + (l0 % 5))) + (l1 % 5))) + (l2 % 5))) + (l3 % 5))) + (l4 % 5)) == 2134)) ?_
 refine pure_ (.bool (((10 * ((10 * ((10 * ((10 * (0 + (l0 % 5))) + (l1 % 5))) + (l2 % 5))) + (l3 % 5))) + (l4 % 5)) == 2134)) ?_
 refine move_ ?_
 refine slot_ 42 (((10 * ((10 * ((10 * ((10 * (0 + (l0 % 5))) + (l1 % 5))) + (l2 % 5))) + (l3 % 5))) + (l4 % 5)) == 2134) ?_ ?_
 · intro zh42
   have zh43 := eqT' zh42
   refine skip_ ?_
   refine skip_ ?_
   refine pure_ (.bool true) ?_
   refine pure_ (.bool true) ?_
   refine skip_ ?_
   refine skip_ ?_
   refine pure_ (.bool true) ?_
   refine pure_ (.bool true) ?_
   refine skip_ ?_
   refine skip_ ?_
   refine pure_ (.bool true) ?_
   refine pure_ (.bool true) ?_
   refine nil_ (then_n (seq_ (reg_ ?_)))
   refine pure_ (.bool true) ?_
   refine pure_ (.bool true) ?_
   refine loadN_ zS27 0 56 (polC (upd5 x (l0 % 5) (l1 % 5) (l2 % 5) (l3 % 5) (l4 % 5)) xa xn xc) zb13 0 ?_
   refine call_ 29 #[.agg (polC (upd5 x (l0 % 5) (l1 % 5) (l2 % 5) (l3 % 5) (l4 % 5)) xa xn xc)] ?_
   refine (check_any (upd5 x (l0 % 5) (l1 % 5) (l2 % 5) (l3 % 5) (l4 % 5)) xa xn xc _).mono ?_; rintro _ zw44 ⟨rfl, zh45⟩
   have zS46 := zS27.quiet zh45
   refine pureE_ (.bool ((polCode (upd5 x (l0 % 5) (l1 % 5) (l2 % 5) (l3 % 5) (l4 % 5)) xn) == 0)) (.bool true) (congrArg Value.bool (eqT (by have zk := ord_code (kn := xn) hX (l0 % 5) (l1 % 5) (l2 % 5) (l3 % 5) (l4 % 5) (by omega) _ rfl; omega))) ?_
   refine pure_ (.bool true) ?_
   refine pure_ (.bool true) ?_
   refine pure_ (.bool true) ?_
   refine pure_ (.bool true) ?_
   refine pure_ (.bool true) ?_
   refine pure_ (.bool true) ?_
   refine skip_ ?_
   refine skip_ ?_
   refine skip_ ?_
   refine pure_ (.bool true) ?_
   refine pure_ (.bool true) ?_
   refine pure_ (.bool true) ?_
   refine nil_ (then_n (wp_ret ?_))
   refine ret_ rfl (res_ [.tmp 4] [.bool true] (.bool true) ⟨res_tmp, trivial⟩) ?_
   exact ⟨rfl, zS46.ch⟩
 intro zh47
 have zh48 := eqF' zh47
 refine move_ ?_
 refine pure_ (.bool (((10 * ((10 * ((10 * ((10 * (0 + (l0 % 5))) + (l1 % 5))) + (l2 % 5))) + (l3 % 5))) + (l4 % 5)) == 2314)) ?_
 refine pure_ (.bool (((10 * ((10 * ((10 * ((10 * (0 + (l0 % 5))) + (l1 % 5))) + (l2 % 5))) + (l3 % 5))) + (l4 % 5)) == 2314)) ?_
 refine move_ ?_
 refine slot_ 46 (((10 * ((10 * ((10 * ((10 * (0 + (l0 % 5))) + (l1 % 5))) + (l2 % 5))) + (l3 % 5))) + (l4 % 5)) == 2314) ?_ ?_
 · intro zh49
   have zh50 := eqT' zh49
   refine skip_ ?_
   refine skip_ ?_
   refine pure_ (.bool true) ?_
   refine pure_ (.bool true) ?_
   refine skip_ ?_
   refine skip_ ?_
   refine pure_ (.bool true) ?_
   refine pure_ (.bool true) ?_
   refine nil_ (then_n (seq_ (reg_ ?_)))
   refine pure_ (.bool true) ?_
   refine pure_ (.bool true) ?_
   refine loadN_ zS27 0 56 (polC (upd5 x (l0 % 5) (l1 % 5) (l2 % 5) (l3 % 5) (l4 % 5)) xa xn xc) zb13 0 ?_
   refine call_ 29 #[.agg (polC (upd5 x (l0 % 5) (l1 % 5) (l2 % 5) (l3 % 5) (l4 % 5)) xa xn xc)] ?_
   refine (check_any (upd5 x (l0 % 5) (l1 % 5) (l2 % 5) (l3 % 5) (l4 % 5)) xa xn xc _).mono ?_; rintro _ zw51 ⟨rfl, zh52⟩
   have zS53 := zS27.quiet zh52
   refine pureE_ (.bool ((polCode (upd5 x (l0 % 5) (l1 % 5) (l2 % 5) (l3 % 5) (l4 % 5)) xn) == 0)) (.bool true) (congrArg Value.bool (eqT (by have zk := ord_code (kn := xn) hX (l0 % 5) (l1 % 5) (l2 % 5) (l3 % 5) (l4 % 5) (by omega) _ rfl; omega))) ?_
   refine pure_ (.bool true) ?_
   refine pure_ (.bool true) ?_
   refine pure_ (.bool true) ?_
   refine pure_ (.bool true) ?_
   refine pure_ (.bool true) ?_
   refine pure_ (.bool true) ?_
   refine skip_ ?_
   refine skip_ ?_
   refine skip_ ?_
   refine pure_ (.bool true) ?_
   refine pure_ (.bool true) ?_
   refine pure_ (.bool true) ?_
   refine nil_ (then_n (wp_ret ?_))
   refine ret_ rfl (res_ [.tmp 4] [.bool true] (.bool true) ⟨res_tmp, trivial⟩) ?_
   exact ⟨rfl, zS53.ch⟩
 intro zh54
 have zh55 := eqF' zh54
 refine move_ ?_
 refine pure_ (.bool (((10 * ((10 * ((10 * ((10 * (0 + (l0 % 5))) + (l1 % 5))) + (l2 % 5))) + (l3 % 5))) + (l4 % 5)) == 3124)) ?_
 refine pure_ (.bool (((10 * ((10 * ((10 * ((10 * (0 + (l0 % 5))) + (l1 % 5))) + (l2 % 5))) + (l3 % 5))) + (l4 % 5)) == 3124)) ?_
 refine move_ ?_
 refine slot_ 50 (((10 * ((10 * ((10 * ((10 * (0 + (l0 % 5))) + (l1 % 5))) + (l2 % 5))) + (l3 % 5))) + (l4 % 5)) == 3124) ?_ ?_
 · intro zh56
   have zh57 := eqT' zh56
   refine skip_ ?_
   refine skip_ ?_
   refine pure_ (.bool true) ?_
   refine pure_ (.bool true) ?_
   refine nil_ (then_n (seq_ (reg_ ?_)))
   refine pure_ (.bool true) ?_
   refine pure_ (.bool true) ?_
   refine loadN_ zS27 0 56 (polC (upd5 x (l0 % 5) (l1 % 5) (l2 % 5) (l3 % 5) (l4 % 5)) xa xn xc) zb13 0 ?_
   refine call_ 29 #[.agg (polC (upd5 x (l0 % 5) (l1 % 5) (l2 % 5) (l3 % 5) (l4 % 5)) xa xn xc)] ?_
   refine (check_any (upd5 x (l0 % 5) (l1 % 5) (l2 % 5) (l3 % 5) (l4 % 5)) xa xn xc _).mono ?_; rintro _ zw58 ⟨rfl, zh59⟩
   have zS60 := zS27.quiet zh59
   refine pureE_ (.bool ((polCode (upd5 x (l0 % 5) (l1 % 5) (l2 % 5) (l3 % 5) (l4 % 5)) xn) == 0)) (.bool true) (congrArg Value.bool (eqT (by have zk := ord_code (kn := xn) hX (l0 % 5) (l1 % 5) (l2 % 5) (l3 % 5) (l4 % 5) (by omega) _ rfl; omega))) ?_
   refine pure_ (.bool true) ?_
   refine pure_ (.bool true) ?_
   refine pure_ (.bool true) ?_
   refine pure_ (.bool true) ?_
   refine pure_ (.bool true) ?_
   refine pure_ (.bool true) ?_
   refine skip_ ?_
   refine skip_ ?_
   refine skip_ ?_
   refine pure_ (.bool true) ?_
   refine pure_ (.bool true) ?_
   refine pure_ (.bool true) ?_
   refine nil_ (then_n (wp_ret ?_))
   refine ret_ rfl (res_ [.tmp 4] [.bool true] (.bool true) ⟨res_tmp, trivial⟩) ?_
   exact ⟨rfl, zS60.ch⟩
 intro zh61
 have zh62 := eqF' zh61
 refine move_ ?_
 refine pure_ (.bool (((10 * ((10 * ((10 * ((10 * (0 + (l0 % 5))) + (l1 % 5))) + (l2 % 5))) + (l3 % 5))) + (l4 % 5)) == 3214)) ?_
 refine pure_ (.bool (((10 * ((10 * ((10 * ((10 * (0 + (l0 % 5))) + (l1 % 5))) + (l2 % 5))) + (l3 % 5))) + (l4 % 5)) == 3214)) ?_
 refine assign_ ?_
 refine nil_ (then_n (seq_ (reg_ ?_)))
 refine pure_ (.bool true) ?_
 refine pure_ (.bool true) ?_
 refine loadN_ zS27 0 56 (polC (upd5 x (l0 % 5) (l1 % 5) (l2 % 5) (l3 % 5) (l4 % 5)) xa xn xc) zb13 0 ?_
 refine split_b (((10 * ((10 * ((10 * ((10 * (0 + (l0 % 5))) + (l1 % 5))) + (l2 % 5))) + (l3 % 5))) + (l4 % 5)) == 3214) ?_ ?_
 · intro zh63
   have zh64 := eqT' zh63
   refine call_ 29 #[.agg (polC (upd5 x (l0 % 5) (l1 % 5) (l2 % 5) (l3 % 5) (l4 % 5)) xa xn xc)] ?_
   refine (check_any (upd5 x (l0 % 5) (l1 % 5) (l2 % 5) (l3 % 5) (l4 % 5)) xa xn xc _).mono ?_; rintro _ zw65 ⟨rfl, zh66⟩
   have zS67 := zS27.quiet zh66
   refine pureE_ (.bool ((polCode (upd5 x (l0 % 5) (l1 % 5) (l2 % 5) (l3 % 5) (l4 % 5)) xn) == 0)) (.bool true) (congrArg Value.bool (eqT (by have zk := ord_code (kn := xn) hX (l0 % 5) (l1 % 5) (l2 % 5) (l3 % 5) (l4 % 5) (by omega) _ rfl; omega))) ?_
   refine move_ ?_
   refine pure_ (.bool (true == (((10 * ((10 * ((10 * ((10 * (0 + (l0 % 5))) + (l1 % 5))) + (l2 % 5))) + (l3 % 5))) + (l4 % 5)) == 3214))) ?_
   refine pure_ (.bool (true == (((10 * ((10 * ((10 * ((10 * (0 + (l0 % 5))) + (l1 % 5))) + (l2 % 5))) + (l3 % 5))) + (l4 % 5)) == 3214))) ?_
   refine move_ ?_
   refine slotK_ 62 (true == (((10 * ((10 * ((10 * ((10 * (0 + (l0 % 5))) + (l1 % 5))) + (l2 % 5))) + (l3 % 5))) + (l4 % 5)) == 3214)) true ((congr (congrArg BEq.beq (rfl)) (zh63))) ?_
   refine move_ ?_
   refine move_ ?_
   refine slotK_ 64 (((10 * ((10 * ((10 * ((10 * (0 + (l0 % 5))) + (l1 % 5))) + (l2 % 5))) + (l3 % 5))) + (l4 % 5)) == 3214) true (zh63) ?_
   refine skip_ ?_
   refine skip_ ?_
   refine skip_ ?_
   refine pure_ (.bool true) ?_
   refine pure_ (.bool true) ?_
   refine pure_ (.bool true) ?_
   refine nil_ (then_n (wp_ret ?_))
   refine ret_ rfl (res_ [.tmp 4] [.bool true] (.bool true) ⟨res_tmp, trivial⟩) ?_
   exact ⟨rfl, zS67.ch⟩
 intro zh68
 have zh69 := eqF' zh68
 refine call_ 29 #[.agg (polC (upd5 x (l0 % 5) (l1 % 5) (l2 % 5) (l3 % 5) (l4 % 5)) xa xn xc)] ?_
 refine (check_any (upd5 x (l0 % 5) (l1 % 5) (l2 % 5) (l3 % 5) (l4 % 5)) xa xn xc _).mono ?_; rintro _ zw70 ⟨rfl, zh71⟩
 have zS72 := zS27.quiet zh71
 refine pureE_ (.bool ((polCode (upd5 x (l0 % 5) (l1 % 5) (l2 % 5) (l3 % 5) (l4 % 5)) xn) == 0)) (.bool false) (congrArg Value.bool (eqF (by have zk := ord_code (kn := xn) hX (l0 % 5) (l1 % 5) (l2 % 5) (l3 % 5) (l4 % 5) (by omega) _ rfl; omega))) ?_
 refine move_ ?_
 refine pure_ (.bool (false == (((10 * ((10 * ((10 * ((10 * (0 + (l0 % 5))) + (l1 % 5))) + (l2 % 5))) + (l3 % 5))) + (l4 % 5)) == 3214))) ?_
 refine pure_ (.bool (false == (((10 * ((10 * ((10 * ((10 * (0 + (l0 % 5))) + (l1 % 5))) + (l2 % 5))) + (l3 % 5))) + (l4 % 5)) == 3214))) ?_
 refine move_ ?_
 refine slotK_ 62 (false == (((10 * ((10 * ((10 * ((10 * (0 + (l0 % 5))) + (l1 % 5))) + (l2 % 5))) + (l3 % 5))) + (l4 % 5)) == 3214)) true ((congr (congrArg BEq.beq (rfl)) (zh68))) ?_
 refine move_ ?_
 refine move_ ?_
 refine slotK_ 64 (((10 * ((10 * ((10 * ((10 * (0 + (l0 % 5))) + (l1 % 5))) + (l2 % 5))) + (l3 % 5))) + (l4 % 5)) == 3214) false (zh68) ?_
 refine loadN_ zS72 0 56 (polC (upd5 x (l0 % 5) (l1 % 5) (l2 % 5) (l3 % 5) (l4 % 5)) xa xn xc) zb13 0 ?_
 refine call_ 29 #[.agg (polC (upd5 x (l0 % 5) (l1 % 5) (l2 % 5) (l3 % 5) (l4 % 5)) xa xn xc)] ?_
 refine (check_any (upd5 x (l0 % 5) (l1 % 5) (l2 % 5) (l3 % 5) (l4 % 5)) xa xn xc _).mono ?_; rintro _ zw73 ⟨rfl, zh74⟩
 have zS75 := zS72.quiet zh74
 refine pureE_ (.bool ((polCode (upd5 x (l0 % 5) (l1 % 5) (l2 % 5) (l3 % 5) (l4 % 5)) xn) == 40)) (.bool true) (congrArg Value.bool (eqT (by have zk := ord_code (kn := xn) hX (l0 % 5) (l1 % 5) (l2 % 5) (l3 % 5) (l4 % 5) (by omega) _ rfl; omega))) ?_
 refine pure_ (.bool true) ?_
 refine pure_ (.bool true) ?_
 refine pure_ (.bool true) ?_
 refine nil_ (then_n (wp_ret ?_))
 refine ret_ rfl (res_ [.tmp 4] [.bool true] (.bool true) ⟨res_tmp, trivial⟩) ?_
 exact ⟨rfl, zS75.ch⟩

end Go.Proofs.Ytabnjfboigmleaa
