/- The walks of TickEnds and TickKeeps: for every timer, and for every number of ticks, the law returns true, and all memory that was there stays as it was. No condition. -/
import Derived.Test.YtabnjfboigmleaaTick
namespace Go.Proofs.Ytabnjfboigmleaa
open Go.RowKit Go.BigFrame Sd
set_option linter.unusedVariables false

set_option maxHeartbeats 400000 in
theorem shown11 (w : World) : Calls Try.prog 16 #[] w fun e w' => e = .returned (.bool true) ∧ Below w.heap.size w w' := by
  have e2 : maxS 2 = 2 := by decide
  have e1 : satS 0 2 = 1 := by decide
  have e3 : satS 1 2 = 2 := by decide
  have E2 := Lib.hid e2; have E1 := Lib.hid e1; have E3 := Lib.hid e3; clear e1 e2 e3
  go_enter Try.func16, Try.ntmps16
  go_wp2_with fail
  refine (start_any 2 _ (i64 (by omega))).mono ?_; rintro e w1 ⟨rfl, hb_w1⟩
  obtain ⟨hc_w1, hf_w1, hz_w1⟩ := bcell hb_w1
  rw [E2.out]
  go_wp2_with fail
  refine (step_any 0 2 _ (i64 (by omega)) (i64 (by omega))).mono ?_; rintro e w2 ⟨rfl, hb_w2⟩
  obtain ⟨hc_w2, hf_w2, hz_w2⟩ := bcell hb_w2
  rw [E1.out]
  go_wp2_with fail
  refine (step_any 1 2 _ (i64 (by omega)) (i64 (by omega))).mono ?_; rintro e w3 ⟨rfl, hb_w3⟩
  obtain ⟨hc_w3, hf_w3, hz_w3⟩ := bcell hb_w3
  have ht_0_w3 : w2.heap.size < w3.heap.size := by have hz := hz_w3; (try simp at hz); omega
  clear hz_w3
  rw [E3.out]
  go_wp2_with fail
  refine (due_any _ _ _).mono ?_; rintro e w4 ⟨rfl, hb_w4⟩
  obtain ⟨hc_w4, hf_w4, hz_w4⟩ := bcell hb_w4
  have ht_0_w4 : w2.heap.size < w4.heap.size := by have hz := hz_w4; (try simp at hz); omega
  have ht_1_w4 : w3.heap.size < w4.heap.size := by have hz := hz_w4; (try simp at hz); omega
  clear hz_w4
  go_wp2_with fail
  refine (due_any _ _ _).mono ?_; rintro e w5 ⟨rfl, hb_w5⟩
  obtain ⟨hc_w5, hf_w5, hz_w5⟩ := bcell hb_w5
  have ht_0_w5 : w2.heap.size < w5.heap.size := by have hz := hz_w5; (try simp at hz); omega
  have ht_1_w5 : w3.heap.size < w5.heap.size := by have hz := hz_w5; (try simp at hz); omega
  clear hz_w5
  go_wp2_with fail
  go_ret
  refine ⟨rfl, ?_⟩
  repeat first | exact Below.refl _ _ | assumption | refine ba ?_ _ | refine bs ?_ (by simp; omega) _ | refine bt ?_ (by assumption)

set_option maxHeartbeats 400000 in
theorem keeps (n m : Int) (w : World) (h1 : I64 n) (h2 : I64 m) : Calls Try.prog 4 #[.agg #[.int .i64 n, .int .i64 m]] w fun e w' => e = .returned (.bool true) ∧ Below w.heap.size w w' := by
  have HB : I64 n ∧ I64 m := ⟨h1, h2⟩
  unfold I64 at h1 h2
  by_cases h : m ≤ n
  · have e1 : satS n m = m := by unfold satS; rw [if_neg (by omega)]
    have E1 := Lib.hid e1; clear e1
    have hd : decide (m ≤ n) = true := by simpa using h
    go_enter Try.func4, Try.ntmps4
    go_wp2_with fail
    refine (shown11 _).mono ?_; rintro e w1 ⟨rfl, hb_w1⟩
    obtain ⟨hc_w1, hf_w1, hz_w1⟩ := bcell hb_w1
    have ht_0_w1 : w.heap.size < w1.heap.size := by have hz := hz_w1; (try simp at hz); omega
    clear hz_w1
    go_wp2_with fail
    refine (step_any n m _ HB.1 HB.2).mono ?_; rintro e w2 ⟨rfl, hb_w2⟩
    obtain ⟨hc_w2, hf_w2, hz_w2⟩ := bcell hb_w2
    have ht_0_w2 : w.heap.size < w2.heap.size := by have hz := hz_w2; (try simp at hz); omega
    clear hz_w2
    rw [E1.out]
    go_wp2_with fail
    refine wp_region_self_lit (by kernel_rfl) (by kernel_rfl) ?_
    repeat (any_goals (go_big_quiet_step (first | exact call_over' (by simp) (due_any _ _ _))))
    refine wpQuiet_nil ?_
    intro w3 hb_w3
    obtain ⟨hc_w3, hf_w3, hz_w3⟩ := bcell hb_w3
    have ht_0_w3 : w.heap.size < w3.heap.size := by have hz := hz_w3; (try simp at hz); omega
    have ht_1_w3 : w2.heap.size < w3.heap.size := by have hz := hz_w3; (try simp at hz); omega
    clear hz_w3
    go_wp2_with fail
    refine (due_any _ _ _).mono ?_; rintro e w4 ⟨rfl, hb_w4⟩
    obtain ⟨hc_w4, hf_w4, hz_w4⟩ := bcell hb_w4
    have ht_0_w4 : w.heap.size < w4.heap.size := by have hz := hz_w4; (try simp at hz); omega
    have ht_1_w4 : w2.heap.size < w4.heap.size := by have hz := hz_w4; (try simp at hz); omega
    clear hz_w4
    go_wp2_with fail
    refine (due_any _ _ _).mono ?_; rintro e w5 ⟨rfl, hb_w5⟩
    obtain ⟨hc_w5, hf_w5, hz_w5⟩ := bcell hb_w5
    have ht_0_w5 : w.heap.size < w5.heap.size := by have hz := hz_w5; (try simp at hz); omega
    have ht_1_w5 : w2.heap.size < w5.heap.size := by have hz := hz_w5; (try simp at hz); omega
    clear hz_w5
    go_wp2_with fail
    go_ret
    refine ⟨rfl, ?_⟩
    repeat first | exact Below.refl _ _ | assumption | refine ba ?_ _ | refine bs ?_ (by simp; omega) _ | refine bt ?_ (by assumption)
  · have e1 : satS n m = n + 1 := by unfold satS; rw [if_pos (by omega)]
    have E1 := Lib.hid e1; clear e1
    have hd : decide (m ≤ n) = false := by simpa using h
    have hd2 : (decide (m ≤ n + 1) == ((n + 1 == m : Bool) : Bool)) = true := by
      by_cases hx : n + 1 = m
      · simp [hx]
      · have : ¬ m ≤ n + 1 := by omega
        simp [hx, this]
    have HD := Lib.hid hd2; clear hd2
    go_enter Try.func4, Try.ntmps4
    go_wp2_with fail
    refine (shown11 _).mono ?_; rintro e w1 ⟨rfl, hb_w1⟩
    obtain ⟨hc_w1, hf_w1, hz_w1⟩ := bcell hb_w1
    have ht_0_w1 : w.heap.size < w1.heap.size := by have hz := hz_w1; (try simp at hz); omega
    clear hz_w1
    go_wp2_with fail
    refine (step_any n m _ HB.1 HB.2).mono ?_; rintro e w2 ⟨rfl, hb_w2⟩
    obtain ⟨hc_w2, hf_w2, hz_w2⟩ := bcell hb_w2
    have ht_0_w2 : w.heap.size < w2.heap.size := by have hz := hz_w2; (try simp at hz); omega
    clear hz_w2
    rw [E1.out]
    go_wp2_with fail
    refine wp_region_self_lit (by kernel_rfl) (by kernel_rfl) ?_
    repeat (any_goals (go_big_quiet_step (first | exact call_over' (by simp) (due_any _ _ _))))
    refine wpQuiet_nil ?_
    intro w3 hb_w3
    obtain ⟨hc_w3, hf_w3, hz_w3⟩ := bcell hb_w3
    have ht_0_w3 : w.heap.size < w3.heap.size := by have hz := hz_w3; (try simp at hz); omega
    have ht_1_w3 : w2.heap.size < w3.heap.size := by have hz := hz_w3; (try simp at hz); omega
    clear hz_w3
    go_wp2_with fail
    refine (due_any _ _ _).mono ?_; rintro e w4 ⟨rfl, hb_w4⟩
    obtain ⟨hc_w4, hf_w4, hz_w4⟩ := bcell hb_w4
    have ht_0_w4 : w.heap.size < w4.heap.size := by have hz := hz_w4; (try simp at hz); omega
    have ht_1_w4 : w2.heap.size < w4.heap.size := by have hz := hz_w4; (try simp at hz); omega
    clear hz_w4
    go_wp2_with fail
    refine wp_region_self_lit (by kernel_rfl) (by kernel_rfl) ?_
    repeat (any_goals (go_big_quiet_step (first | exact call_over' (by simp) (due_any _ _ _))))
    refine wpQuiet_nil ?_
    intro w5 hb_w5
    obtain ⟨hc_w5, hf_w5, hz_w5⟩ := bcell hb_w5
    have ht_0_w5 : w.heap.size < w5.heap.size := by have hz := hz_w5; (try simp at hz); omega
    have ht_1_w5 : w2.heap.size < w5.heap.size := by have hz := hz_w5; (try simp at hz); omega
    clear hz_w5
    go_wp2_with fail
    go_ret
    refine ⟨by show Ending.returned (.bool (decide (m ≤ n + 1) == (n + 1 == m))) = _; rw [HD.out], ?_⟩
    repeat first | exact Below.refl _ _ | assumption | refine ba ?_ _ | refine bs ?_ (by simp; omega) _ | refine bt ?_ (by assumption)

theorem and_u16_1023 (n : Int) (h : 0 ≤ n ∧ n ≤ 65535) : bits .and .u16 n 1023 = n % 1024 := by
  have := bits_low .u16 n 10 (by rw [IntWalk.u16_in]; omega) (by simp [BitVec.toNat_ofInt, IntKind.bits]; omega) (by decide)
  simpa using this

/-- what holds at the head of the loop -/
def EndsRel (w : World) (b : Nat) (most : Int) (i : Value) (wr : World) : Prop :=
  ∃ k : Nat, (k : Int) ≤ most ∧ i = .int .i64 k ∧ wr.cell? ⟨b, 0, none⟩ = some (.int .i64 k) ∧ wr.cell? ⟨b, 1, none⟩ = some (.int .i64 most) ∧
    wr.frozen? ⟨b, 0, none⟩ = false ∧ wr.frozen? ⟨b, 1, none⟩ = false ∧ b < wr.heap.size ∧ Below w.heap.size w wr

set_option maxHeartbeats 800000 in
theorem ends (n : Int) (w : World) (h1 : 0 ≤ n ∧ n ≤ 65535) : Calls Try.prog 3 #[.int .u16 n] w fun e w' => e = .returned (.bool true) ∧ Below w.heap.size w w' := by
  have hq := and_u16_1023 n h1
  have h2 : 0 ≤ n % 1024 ∧ n % 1024 ≤ 1023 := by omega
  generalize n % 1024 = most at hq h2
  have hm : maxS most = most := by unfold maxS; rw [if_neg (by omega)]
  have HM := Lib.hid hm; clear hm
  go_enter Try.func3, Try.ntmps3
  go_wp2_with fail
  refine (shown11 _).mono ?_; rintro e w1 ⟨rfl, hb_w1⟩
  obtain ⟨hc_w1, hf_w1, hz_w1⟩ := bcell hb_w1
  go_wp2_with fail
  refine (start_any most _ (i64 (by omega))).mono ?_; rintro e w2 ⟨rfl, hb_w2⟩
  obtain ⟨hc_w2, hf_w2, hz_w2⟩ := bcell hb_w2
  rw [HM.out]
  have hlt : w.heap.size ≤ w2.heap.size := by omega
  go_wp2_with fail
  go_loopw [6] (fun i wr => EndsRel w w2.heap.size most i wr) (fun i wr => (most - intOf i).toNat)
  case atStart => exact ⟨0, by omega, rfl, by simp, by simp, by simp, by simp, by simp, by repeat first | exact Below.refl _ _ | assumption | refine ba ?_ _ | refine bt ?_ (by assumption)⟩
  case round =>
    obtain ⟨k, hk, rfl, hc0, hc1, hf0, hf1, hbz, hbw⟩ := hrel
    by_cases hlt : (k : Int) < most
    · have hd : decide (most ≤ (k : Int)) = false := by simpa using hlt
      have e1 : satS k most = k + 1 := by unfold satS; rw [if_pos hlt]
      have E1 := Lib.hid e1; clear e1
      go_wp2_with fail
      refine (due_any _ _ _).mono ?_; rintro e w4 ⟨rfl, hb_w4⟩
      obtain ⟨hc_w4, hf_w4, hz_w4⟩ := bcell hb_w4
      have ht_0_w4 : w2.heap.size < w4.heap.size := by have hz := hz_w4; (try simp at hz); omega
      clear hz_w4
      go_wp2_with fail
      refine (step_any _ _ _ (i64 (by omega)) (i64 (by omega))).mono ?_; rintro e w5 ⟨rfl, hb_w5⟩
      obtain ⟨hc_w5, hf_w5, hz_w5⟩ := bcell hb_w5
      have ht_0_w5 : w2.heap.size < w5.heap.size := by have hz := hz_w5; (try simp at hz); omega
      clear hz_w5
      rw [E1.out]
      go_wp2_with fail
      refine ⟨⟨k + 1, by omega, by simp, by go_simp, by go_simp, by go_simp, by go_simp, by simp; omega, ?_⟩, by simp [intOf]; omega⟩
      repeat first | exact Below.refl _ _ | assumption | refine ba ?_ _ | refine bs ?_ (by simp; omega) _ | refine bt ?_ (by assumption)
    · have hk' : (k : Int) = most := by omega
      subst hk'
      have e1 : satS (k : Int) k = k := by unfold satS; rw [if_neg (by omega)]
      have hst : ∀ W : World, Calls Try.prog 19 #[.agg #[.int .i64 k, .int .i64 k]] W fun e w' => e = .returned (.agg #[.int .i64 k, .int .i64 k]) ∧ Below W.heap.size W w' := fun W => by
        have := step_any (k : Int) k W (i64 (by omega)) (i64 (by omega)); rwa [e1] at this
      have HS := Lib.hid hst; clear hst e1
      have hd : decide ((k : Int) ≤ k) = true := by simp
      go_wp2_with fail
      refine wp_region_self_lit (by kernel_rfl) (by kernel_rfl) ?_
      repeat (any_goals (go_big_quiet_step (first | exact call_over' (by simp) (due_any _ _ _) | exact call_over' (by simp) (HS.out _))))
      refine wpQuiet_nil ?_
      intro w4 hb_w4
      obtain ⟨hc_w4, hf_w4, hz_w4⟩ := bcell hb_w4
      have ht_0_w4 : w2.heap.size < w4.heap.size := by have hz := hz_w4; (try simp at hz); omega
      clear hz_w4
      go_wp2_with fail
      go_ret
      refine ⟨rfl, ?_⟩
      repeat first | exact Below.refl _ _ | assumption | refine ba ?_ _ | refine bs ?_ (by simp; omega) _ | refine bt ?_ (by assumption)
end Go.Proofs.Ytabnjfboigmleaa
