/- The walk of TokenSeizes. No condition. -/
import Derived.Test.YtabnjfboigmleaaLawToken
namespace Go.Proofs.Ytabnjfboigmleaa
open Go.RowKit Go.BigFrame Sd
set_option linter.unusedVariables false

set_option maxHeartbeats 800000 in
theorem seizesA (x0 x1 e : Int) (bd : Bool) (w : World) (h0 : 0 ≤ x0 ∧ x0 ≤ 255) (h1 : 0 ≤ x1 ∧ x1 ≤ 255) (h4 : x0 % 5 = 4) (he : 0 ≤ e ∧ e < 65535) :
    Calls Try.prog 9 #[.agg #[.int .u8 x0, .int .u8 x1], .int .u16 e, .bool bd] w
      fun x w' => x = .returned (.bool true) ∧ Below w.heap.size w w' := by
  have hs1 : ∀ W : World, Calls Try.prog 24 #[.agg #[.int .i64 (x0 % 5), .int .i64 e, .int .i64 1, .int .i64 1, .int .i64 2, .int .i64 0, .int .i64 0, .bool bd]] W fun x W' => x = .returned (.agg #[.int .i64 4, .int .i64 (e), .int .i64 (-1), .int .i64 0, .int .i64 0, .int .i64 0, .int .i64 0, .bool bd]) ∧ Below W.heap.size W W' := fun W => by
    have := seize_any (x0 % 5) e 1 1 2 0 0 bd W (i64 (by omega))
    rwa [show seizeE (x0 % 5) e = e by unfold seizeE satS; split <;> (try split) <;> omega] at this
  have hs2 : ∀ W : World, Calls Try.prog 24 #[.agg #[.int .i64 4, .int .i64 (e), .int .i64 (-1), .int .i64 0, .int .i64 0, .int .i64 0, .int .i64 0, .bool bd]] W fun x W' => x = .returned (.agg #[.int .i64 4, .int .i64 (e), .int .i64 (-1), .int .i64 0, .int .i64 0, .int .i64 0, .int .i64 0, .bool bd]) ∧ Below W.heap.size W W' := fun W => by
    have := seize_any 4 (e) (-1) 0 0 0 0 bd W (i64 (by omega))
    rwa [show seizeE 4 (e) = e from if_pos rfl] at this
  have hg : ∀ W : World, Calls Try.prog 23 #[.agg #[.int .i64 4, .int .i64 (e), .int .i64 (-1), .int .i64 0, .int .i64 0, .int .i64 0, .int .i64 0, .bool bd], .int .i64 (x1 % 4)] W fun x W' => x = .returned (.tuple #[.agg #[.int .i64 (x1 % 4), .int .i64 (e + 1), .int .i64 (-1), .int .i64 0, .int .i64 0, .int .i64 0, .int .i64 0, .bool bd], .int .i64 0]) ∧ Below W.heap.size W W' := fun W => by
    exact grant_yes _ _ _ _ _ _ _ bd (x1 % 4) W (by omega) (by omega) (by omega) (by omega) (i64 (by omega))
  have HS1 := Lib.hid hs1; have HS2 := Lib.hid hs2; have HG := Lib.hid hg; clear hs1 hs2 hg
  have f1 : (x0 % 5 != 4) = false := by simp [h4]
  have f2 : (e == 65535) = false := by simp; omega
  clear h4
  go_enter Try.func9, Try.ntmps9
  go_wp2_with fail
  refine (shown18 _).mono ?_; rintro e w1 ⟨rfl, hb_w1⟩
  obtain ⟨hc_w1, hf_w1, hz_w1⟩ := bcell hb_w1
  have ht_0_w1 : w.heap.size < w1.heap.size := by have hz := hz_w1; (try simp at hz); omega
  clear hz_w1
  go_wp2_with fail
  refine (HS1.out _).mono ?_; rintro e w2 ⟨rfl, hb_w2⟩
  obtain ⟨hc_w2, hf_w2, hz_w2⟩ := bcell hb_w2
  have ht_0_w2 : w.heap.size < w2.heap.size := by have hz := hz_w2; (try simp at hz); omega
  have ht_1_w2 : w1.heap.size < w2.heap.size := by have hz := hz_w2; (try simp at hz); omega
  clear hz_w2
  go_wp2_with fail
  refine (HG.out _).mono ?_; rintro e w3 ⟨rfl, hb_w3⟩
  obtain ⟨hc_w3, hf_w3, hz_w3⟩ := bcell hb_w3
  have ht_0_w3 : w.heap.size < w3.heap.size := by have hz := hz_w3; (try simp at hz); omega
  have ht_1_w3 : w1.heap.size < w3.heap.size := by have hz := hz_w3; (try simp at hz); omega
  have ht_2_w3 : w2.heap.size < w3.heap.size := by have hz := hz_w3; (try simp at hz); omega
  clear hz_w3
  go_wp2_with fail
  refine wp_region_self_lit (by kernel_rfl) (by kernel_rfl) ?_
  repeat (any_goals (go_big_quiet_step (first | exact call_over' (by simp) (HS2.out _))))
  refine wpQuiet_nil ?_
  intro w4 hb_w4
  obtain ⟨hc_w4, hf_w4, hz_w4⟩ := bcell hb_w4
  have ht_0_w4 : w.heap.size < w4.heap.size := by have hz := hz_w4; (try simp at hz); omega
  have ht_1_w4 : w1.heap.size < w4.heap.size := by have hz := hz_w4; (try simp at hz); omega
  have ht_2_w4 : w2.heap.size < w4.heap.size := by have hz := hz_w4; (try simp at hz); omega
  have ht_3_w4 : w3.heap.size < w4.heap.size := by have hz := hz_w4; (try simp at hz); omega
  clear hz_w4
  go_wp2_with fail
  go_ret
  refine ⟨rfl, ?_⟩
  repeat first | exact Below.refl _ _ | assumption | refine ba ?_ _ | refine bs ?_ (by first | omega | (simp; done) | (simp; omega)) _ | refine bsr ?_ (by first | omega | (simp; done) | (simp; omega)) _ | refine bt ?_ (by assumption)

set_option maxHeartbeats 800000 in
theorem seizesB (x0 x1 : Int) (bd : Bool) (w : World) (h0 : 0 ≤ x0 ∧ x0 ≤ 255) (h1 : 0 ≤ x1 ∧ x1 ≤ 255) (h4 : x0 % 5 = 4) :
    Calls Try.prog 9 #[.agg #[.int .u8 x0, .int .u8 x1], .int .u16 65535, .bool bd] w
      fun x w' => x = .returned (.bool true) ∧ Below w.heap.size w w' := by
  have hs1 : ∀ W : World, Calls Try.prog 24 #[.agg #[.int .i64 (x0 % 5), .int .i64 65535, .int .i64 1, .int .i64 1, .int .i64 2, .int .i64 0, .int .i64 0, .bool bd]] W fun x W' => x = .returned (.agg #[.int .i64 4, .int .i64 (65535), .int .i64 (-1), .int .i64 0, .int .i64 0, .int .i64 0, .int .i64 0, .bool bd]) ∧ Below W.heap.size W W' := fun W => by
    have := seize_any (x0 % 5) 65535 1 1 2 0 0 bd W (i64 (by omega))
    rwa [show seizeE (x0 % 5) 65535 = 65535 by unfold seizeE satS; split <;> (try split) <;> omega] at this
  have hs2 : ∀ W : World, Calls Try.prog 24 #[.agg #[.int .i64 4, .int .i64 (65535), .int .i64 (-1), .int .i64 0, .int .i64 0, .int .i64 0, .int .i64 0, .bool bd]] W fun x W' => x = .returned (.agg #[.int .i64 4, .int .i64 (65535), .int .i64 (-1), .int .i64 0, .int .i64 0, .int .i64 0, .int .i64 0, .bool bd]) ∧ Below W.heap.size W W' := fun W => by
    have := seize_any 4 (65535) (-1) 0 0 0 0 bd W (i64 (by omega))
    rwa [show seizeE 4 (65535) = 65535 from if_pos rfl] at this
  have hg : ∀ W : World, Calls Try.prog 23 #[.agg #[.int .i64 4, .int .i64 (65535), .int .i64 (-1), .int .i64 0, .int .i64 0, .int .i64 0, .int .i64 0, .bool bd], .int .i64 (x1 % 4)] W fun x W' => x = .returned (.tuple #[.agg #[.int .i64 4, .int .i64 65535, .int .i64 (-1), .int .i64 0, .int .i64 0, .int .i64 0, .int .i64 0, .bool bd], .int .i64 24]) ∧ Below W.heap.size W W' := fun W => by
    exact grant_no _ _ _ _ _ _ _ bd (x1 % 4) 24 W (Or.inr (Or.inr ⟨by omega, by omega, by omega, by omega, rfl⟩))
  have HS1 := Lib.hid hs1; have HS2 := Lib.hid hs2; have HG := Lib.hid hg; clear hs1 hs2 hg
  have f1 : (x0 % 5 != 4) = false := by simp [h4]
  clear h4
  go_enter Try.func9, Try.ntmps9
  go_wp2_with fail
  refine (shown18 _).mono ?_; rintro e w1 ⟨rfl, hb_w1⟩
  obtain ⟨hc_w1, hf_w1, hz_w1⟩ := bcell hb_w1
  have ht_0_w1 : w.heap.size < w1.heap.size := by have hz := hz_w1; (try simp at hz); omega
  clear hz_w1
  go_wp2_with fail
  refine (HS1.out _).mono ?_; rintro e w2 ⟨rfl, hb_w2⟩
  obtain ⟨hc_w2, hf_w2, hz_w2⟩ := bcell hb_w2
  have ht_0_w2 : w.heap.size < w2.heap.size := by have hz := hz_w2; (try simp at hz); omega
  have ht_1_w2 : w1.heap.size < w2.heap.size := by have hz := hz_w2; (try simp at hz); omega
  clear hz_w2
  go_wp2_with fail
  refine (HG.out _).mono ?_; rintro e w3 ⟨rfl, hb_w3⟩
  obtain ⟨hc_w3, hf_w3, hz_w3⟩ := bcell hb_w3
  have ht_0_w3 : w.heap.size < w3.heap.size := by have hz := hz_w3; (try simp at hz); omega
  have ht_1_w3 : w1.heap.size < w3.heap.size := by have hz := hz_w3; (try simp at hz); omega
  have ht_2_w3 : w2.heap.size < w3.heap.size := by have hz := hz_w3; (try simp at hz); omega
  clear hz_w3
  go_wp2_with fail
  refine wp_region_self_lit (by kernel_rfl) (by kernel_rfl) ?_
  repeat (any_goals (go_big_quiet_step (first | exact call_over' (by simp) (HS2.out _))))
  refine wpQuiet_nil ?_
  intro w4 hb_w4
  obtain ⟨hc_w4, hf_w4, hz_w4⟩ := bcell hb_w4
  have ht_0_w4 : w.heap.size < w4.heap.size := by have hz := hz_w4; (try simp at hz); omega
  have ht_1_w4 : w1.heap.size < w4.heap.size := by have hz := hz_w4; (try simp at hz); omega
  have ht_2_w4 : w2.heap.size < w4.heap.size := by have hz := hz_w4; (try simp at hz); omega
  have ht_3_w4 : w3.heap.size < w4.heap.size := by have hz := hz_w4; (try simp at hz); omega
  clear hz_w4
  go_wp2_with fail
  go_ret
  refine ⟨rfl, ?_⟩
  repeat first | exact Below.refl _ _ | assumption | refine ba ?_ _ | refine bs ?_ (by first | omega | (simp; done) | (simp; omega)) _ | refine bsr ?_ (by first | omega | (simp; done) | (simp; omega)) _ | refine bt ?_ (by assumption)

set_option maxHeartbeats 800000 in
theorem seizesC (x0 x1 e : Int) (bd : Bool) (w : World) (h0 : 0 ≤ x0 ∧ x0 ≤ 255) (h1 : 0 ≤ x1 ∧ x1 ≤ 255) (h4 : x0 % 5 ≠ 4) (he : 0 ≤ e ∧ e < 65534) :
    Calls Try.prog 9 #[.agg #[.int .u8 x0, .int .u8 x1], .int .u16 e, .bool bd] w
      fun x w' => x = .returned (.bool true) ∧ Below w.heap.size w w' := by
  have hs1 : ∀ W : World, Calls Try.prog 24 #[.agg #[.int .i64 (x0 % 5), .int .i64 e, .int .i64 1, .int .i64 1, .int .i64 2, .int .i64 0, .int .i64 0, .bool bd]] W fun x W' => x = .returned (.agg #[.int .i64 4, .int .i64 (e + 1), .int .i64 (-1), .int .i64 0, .int .i64 0, .int .i64 0, .int .i64 0, .bool bd]) ∧ Below W.heap.size W W' := fun W => by
    have := seize_any (x0 % 5) e 1 1 2 0 0 bd W (i64 (by omega))
    rwa [show seizeE (x0 % 5) e = e + 1 by unfold seizeE satS; split <;> (try split) <;> omega] at this
  have hs2 : ∀ W : World, Calls Try.prog 24 #[.agg #[.int .i64 4, .int .i64 (e + 1), .int .i64 (-1), .int .i64 0, .int .i64 0, .int .i64 0, .int .i64 0, .bool bd]] W fun x W' => x = .returned (.agg #[.int .i64 4, .int .i64 (e + 1), .int .i64 (-1), .int .i64 0, .int .i64 0, .int .i64 0, .int .i64 0, .bool bd]) ∧ Below W.heap.size W W' := fun W => by
    have := seize_any 4 (e + 1) (-1) 0 0 0 0 bd W (i64 (by omega))
    rwa [show seizeE 4 (e + 1) = e + 1 from if_pos rfl] at this
  have hg : ∀ W : World, Calls Try.prog 23 #[.agg #[.int .i64 4, .int .i64 (e + 1), .int .i64 (-1), .int .i64 0, .int .i64 0, .int .i64 0, .int .i64 0, .bool bd], .int .i64 (x1 % 4)] W fun x W' => x = .returned (.tuple #[.agg #[.int .i64 (x1 % 4), .int .i64 (e + 1 + 1), .int .i64 (-1), .int .i64 0, .int .i64 0, .int .i64 0, .int .i64 0, .bool bd], .int .i64 0]) ∧ Below W.heap.size W W' := fun W => by
    exact grant_yes _ _ _ _ _ _ _ bd (x1 % 4) W (by omega) (by omega) (by omega) (by omega) (i64 (by omega))
  have HS1 := Lib.hid hs1; have HS2 := Lib.hid hs2; have HG := Lib.hid hg; clear hs1 hs2 hg
  have f1 : (x0 % 5 != 4) = true := by simpa using h4
  have f2 : (e + 1 == 65535) = false := by simp; omega
  have f3 : decide (e < 65535) = true := by simp; omega
  clear h4
  go_enter Try.func9, Try.ntmps9
  go_wp2_with fail
  refine (shown18 _).mono ?_; rintro e w1 ⟨rfl, hb_w1⟩
  obtain ⟨hc_w1, hf_w1, hz_w1⟩ := bcell hb_w1
  have ht_0_w1 : w.heap.size < w1.heap.size := by have hz := hz_w1; (try simp at hz); omega
  clear hz_w1
  go_wp2_with fail
  refine (HS1.out _).mono ?_; rintro e w2 ⟨rfl, hb_w2⟩
  obtain ⟨hc_w2, hf_w2, hz_w2⟩ := bcell hb_w2
  have ht_0_w2 : w.heap.size < w2.heap.size := by have hz := hz_w2; (try simp at hz); omega
  have ht_1_w2 : w1.heap.size < w2.heap.size := by have hz := hz_w2; (try simp at hz); omega
  clear hz_w2
  go_wp2_with fail
  refine (HG.out _).mono ?_; rintro e w3 ⟨rfl, hb_w3⟩
  obtain ⟨hc_w3, hf_w3, hz_w3⟩ := bcell hb_w3
  have ht_0_w3 : w.heap.size < w3.heap.size := by have hz := hz_w3; (try simp at hz); omega
  have ht_1_w3 : w1.heap.size < w3.heap.size := by have hz := hz_w3; (try simp at hz); omega
  have ht_2_w3 : w2.heap.size < w3.heap.size := by have hz := hz_w3; (try simp at hz); omega
  clear hz_w3
  go_wp2_with fail
  refine wp_region_self_lit (by kernel_rfl) (by kernel_rfl) ?_
  repeat (any_goals (go_big_quiet_step (first | exact call_over' (by simp) (HS2.out _))))
  refine wpQuiet_nil ?_
  intro w4 hb_w4
  obtain ⟨hc_w4, hf_w4, hz_w4⟩ := bcell hb_w4
  have ht_0_w4 : w.heap.size < w4.heap.size := by have hz := hz_w4; (try simp at hz); omega
  have ht_1_w4 : w1.heap.size < w4.heap.size := by have hz := hz_w4; (try simp at hz); omega
  have ht_2_w4 : w2.heap.size < w4.heap.size := by have hz := hz_w4; (try simp at hz); omega
  have ht_3_w4 : w3.heap.size < w4.heap.size := by have hz := hz_w4; (try simp at hz); omega
  clear hz_w4
  go_wp2_with fail
  go_ret
  refine ⟨rfl, ?_⟩
  repeat first | exact Below.refl _ _ | assumption | refine ba ?_ _ | refine bs ?_ (by first | omega | (simp; done) | (simp; omega)) _ | refine bsr ?_ (by first | omega | (simp; done) | (simp; omega)) _ | refine bt ?_ (by assumption)

set_option maxHeartbeats 800000 in
theorem seizesD (x0 x1 : Int) (bd : Bool) (w : World) (h0 : 0 ≤ x0 ∧ x0 ≤ 255) (h1 : 0 ≤ x1 ∧ x1 ≤ 255) (h4 : x0 % 5 ≠ 4) :
    Calls Try.prog 9 #[.agg #[.int .u8 x0, .int .u8 x1], .int .u16 65534, .bool bd] w
      fun x w' => x = .returned (.bool true) ∧ Below w.heap.size w w' := by
  have hs1 : ∀ W : World, Calls Try.prog 24 #[.agg #[.int .i64 (x0 % 5), .int .i64 65534, .int .i64 1, .int .i64 1, .int .i64 2, .int .i64 0, .int .i64 0, .bool bd]] W fun x W' => x = .returned (.agg #[.int .i64 4, .int .i64 (65535), .int .i64 (-1), .int .i64 0, .int .i64 0, .int .i64 0, .int .i64 0, .bool bd]) ∧ Below W.heap.size W W' := fun W => by
    have := seize_any (x0 % 5) 65534 1 1 2 0 0 bd W (i64 (by omega))
    rwa [show seizeE (x0 % 5) 65534 = 65535 by unfold seizeE satS; split <;> (try split) <;> omega] at this
  have hs2 : ∀ W : World, Calls Try.prog 24 #[.agg #[.int .i64 4, .int .i64 (65535), .int .i64 (-1), .int .i64 0, .int .i64 0, .int .i64 0, .int .i64 0, .bool bd]] W fun x W' => x = .returned (.agg #[.int .i64 4, .int .i64 (65535), .int .i64 (-1), .int .i64 0, .int .i64 0, .int .i64 0, .int .i64 0, .bool bd]) ∧ Below W.heap.size W W' := fun W => by
    have := seize_any 4 (65535) (-1) 0 0 0 0 bd W (i64 (by omega))
    rwa [show seizeE 4 (65535) = 65535 from if_pos rfl] at this
  have hg : ∀ W : World, Calls Try.prog 23 #[.agg #[.int .i64 4, .int .i64 (65535), .int .i64 (-1), .int .i64 0, .int .i64 0, .int .i64 0, .int .i64 0, .bool bd], .int .i64 (x1 % 4)] W fun x W' => x = .returned (.tuple #[.agg #[.int .i64 4, .int .i64 65535, .int .i64 (-1), .int .i64 0, .int .i64 0, .int .i64 0, .int .i64 0, .bool bd], .int .i64 24]) ∧ Below W.heap.size W W' := fun W => by
    exact grant_no _ _ _ _ _ _ _ bd (x1 % 4) 24 W (Or.inr (Or.inr ⟨by omega, by omega, by omega, by omega, rfl⟩))
  have HS1 := Lib.hid hs1; have HS2 := Lib.hid hs2; have HG := Lib.hid hg; clear hs1 hs2 hg
  have f1 : (x0 % 5 != 4) = true := by simpa using h4
  clear h4
  go_enter Try.func9, Try.ntmps9
  go_wp2_with fail
  refine (shown18 _).mono ?_; rintro e w1 ⟨rfl, hb_w1⟩
  obtain ⟨hc_w1, hf_w1, hz_w1⟩ := bcell hb_w1
  have ht_0_w1 : w.heap.size < w1.heap.size := by have hz := hz_w1; (try simp at hz); omega
  clear hz_w1
  go_wp2_with fail
  refine (HS1.out _).mono ?_; rintro e w2 ⟨rfl, hb_w2⟩
  obtain ⟨hc_w2, hf_w2, hz_w2⟩ := bcell hb_w2
  have ht_0_w2 : w.heap.size < w2.heap.size := by have hz := hz_w2; (try simp at hz); omega
  have ht_1_w2 : w1.heap.size < w2.heap.size := by have hz := hz_w2; (try simp at hz); omega
  clear hz_w2
  go_wp2_with fail
  refine (HG.out _).mono ?_; rintro e w3 ⟨rfl, hb_w3⟩
  obtain ⟨hc_w3, hf_w3, hz_w3⟩ := bcell hb_w3
  have ht_0_w3 : w.heap.size < w3.heap.size := by have hz := hz_w3; (try simp at hz); omega
  have ht_1_w3 : w1.heap.size < w3.heap.size := by have hz := hz_w3; (try simp at hz); omega
  have ht_2_w3 : w2.heap.size < w3.heap.size := by have hz := hz_w3; (try simp at hz); omega
  clear hz_w3
  go_wp2_with fail
  refine wp_region_self_lit (by kernel_rfl) (by kernel_rfl) ?_
  repeat (any_goals (go_big_quiet_step (first | exact call_over' (by simp) (HS2.out _))))
  refine wpQuiet_nil ?_
  intro w4 hb_w4
  obtain ⟨hc_w4, hf_w4, hz_w4⟩ := bcell hb_w4
  have ht_0_w4 : w.heap.size < w4.heap.size := by have hz := hz_w4; (try simp at hz); omega
  have ht_1_w4 : w1.heap.size < w4.heap.size := by have hz := hz_w4; (try simp at hz); omega
  have ht_2_w4 : w2.heap.size < w4.heap.size := by have hz := hz_w4; (try simp at hz); omega
  have ht_3_w4 : w3.heap.size < w4.heap.size := by have hz := hz_w4; (try simp at hz); omega
  clear hz_w4
  go_wp2_with fail
  go_ret
  refine ⟨rfl, ?_⟩
  repeat first | exact Below.refl _ _ | assumption | refine ba ?_ _ | refine bs ?_ (by first | omega | (simp; done) | (simp; omega)) _ | refine bsr ?_ (by first | omega | (simp; done) | (simp; omega)) _ | refine bt ?_ (by assumption)

set_option maxHeartbeats 800000 in
theorem seizesE (x0 x1 : Int) (bd : Bool) (w : World) (h0 : 0 ≤ x0 ∧ x0 ≤ 255) (h1 : 0 ≤ x1 ∧ x1 ≤ 255) (h4 : x0 % 5 ≠ 4) :
    Calls Try.prog 9 #[.agg #[.int .u8 x0, .int .u8 x1], .int .u16 65535, .bool bd] w
      fun x w' => x = .returned (.bool true) ∧ Below w.heap.size w w' := by
  have hs1 : ∀ W : World, Calls Try.prog 24 #[.agg #[.int .i64 (x0 % 5), .int .i64 65535, .int .i64 1, .int .i64 1, .int .i64 2, .int .i64 0, .int .i64 0, .bool bd]] W fun x W' => x = .returned (.agg #[.int .i64 4, .int .i64 (65535), .int .i64 (-1), .int .i64 0, .int .i64 0, .int .i64 0, .int .i64 0, .bool bd]) ∧ Below W.heap.size W W' := fun W => by
    have := seize_any (x0 % 5) 65535 1 1 2 0 0 bd W (i64 (by omega))
    rwa [show seizeE (x0 % 5) 65535 = 65535 by unfold seizeE satS; split <;> (try split) <;> omega] at this
  have hs2 : ∀ W : World, Calls Try.prog 24 #[.agg #[.int .i64 4, .int .i64 (65535), .int .i64 (-1), .int .i64 0, .int .i64 0, .int .i64 0, .int .i64 0, .bool bd]] W fun x W' => x = .returned (.agg #[.int .i64 4, .int .i64 (65535), .int .i64 (-1), .int .i64 0, .int .i64 0, .int .i64 0, .int .i64 0, .bool bd]) ∧ Below W.heap.size W W' := fun W => by
    have := seize_any 4 (65535) (-1) 0 0 0 0 bd W (i64 (by omega))
    rwa [show seizeE 4 (65535) = 65535 from if_pos rfl] at this
  have hg : ∀ W : World, Calls Try.prog 23 #[.agg #[.int .i64 4, .int .i64 (65535), .int .i64 (-1), .int .i64 0, .int .i64 0, .int .i64 0, .int .i64 0, .bool bd], .int .i64 (x1 % 4)] W fun x W' => x = .returned (.tuple #[.agg #[.int .i64 4, .int .i64 65535, .int .i64 (-1), .int .i64 0, .int .i64 0, .int .i64 0, .int .i64 0, .bool bd], .int .i64 24]) ∧ Below W.heap.size W W' := fun W => by
    exact grant_no _ _ _ _ _ _ _ bd (x1 % 4) 24 W (Or.inr (Or.inr ⟨by omega, by omega, by omega, by omega, rfl⟩))
  have HS1 := Lib.hid hs1; have HS2 := Lib.hid hs2; have HG := Lib.hid hg; clear hs1 hs2 hg
  have f1 : (x0 % 5 != 4) = true := by simpa using h4
  clear h4
  go_enter Try.func9, Try.ntmps9
  go_wp2_with fail
  refine (shown18 _).mono ?_; rintro e w1 ⟨rfl, hb_w1⟩
  obtain ⟨hc_w1, hf_w1, hz_w1⟩ := bcell hb_w1
  have ht_0_w1 : w.heap.size < w1.heap.size := by have hz := hz_w1; (try simp at hz); omega
  clear hz_w1
  go_wp2_with fail
  refine (HS1.out _).mono ?_; rintro e w2 ⟨rfl, hb_w2⟩
  obtain ⟨hc_w2, hf_w2, hz_w2⟩ := bcell hb_w2
  have ht_0_w2 : w.heap.size < w2.heap.size := by have hz := hz_w2; (try simp at hz); omega
  have ht_1_w2 : w1.heap.size < w2.heap.size := by have hz := hz_w2; (try simp at hz); omega
  clear hz_w2
  go_wp2_with fail
  refine (HG.out _).mono ?_; rintro e w3 ⟨rfl, hb_w3⟩
  obtain ⟨hc_w3, hf_w3, hz_w3⟩ := bcell hb_w3
  have ht_0_w3 : w.heap.size < w3.heap.size := by have hz := hz_w3; (try simp at hz); omega
  have ht_1_w3 : w1.heap.size < w3.heap.size := by have hz := hz_w3; (try simp at hz); omega
  have ht_2_w3 : w2.heap.size < w3.heap.size := by have hz := hz_w3; (try simp at hz); omega
  clear hz_w3
  go_wp2_with fail
  refine wp_region_self_lit (by kernel_rfl) (by kernel_rfl) ?_
  repeat (any_goals (go_big_quiet_step (first | exact call_over' (by simp) (HS2.out _))))
  refine wpQuiet_nil ?_
  intro w4 hb_w4
  obtain ⟨hc_w4, hf_w4, hz_w4⟩ := bcell hb_w4
  have ht_0_w4 : w.heap.size < w4.heap.size := by have hz := hz_w4; (try simp at hz); omega
  have ht_1_w4 : w1.heap.size < w4.heap.size := by have hz := hz_w4; (try simp at hz); omega
  have ht_2_w4 : w2.heap.size < w4.heap.size := by have hz := hz_w4; (try simp at hz); omega
  have ht_3_w4 : w3.heap.size < w4.heap.size := by have hz := hz_w4; (try simp at hz); omega
  clear hz_w4
  go_wp2_with fail
  go_ret
  refine ⟨rfl, ?_⟩
  repeat first | exact Below.refl _ _ | assumption | refine ba ?_ _ | refine bs ?_ (by first | omega | (simp; done) | (simp; omega)) _ | refine bsr ?_ (by first | omega | (simp; done) | (simp; omega)) _ | refine bt ?_ (by assumption)

theorem seizes_any (x0 x1 e : Int) (bd : Bool) (w : World) (h0 : 0 ≤ x0 ∧ x0 ≤ 255) (h1 : 0 ≤ x1 ∧ x1 ≤ 255) (he : 0 ≤ e ∧ e ≤ 65535) :
    Calls Try.prog 9 #[.agg #[.int .u8 x0, .int .u8 x1], .int .u16 e, .bool bd] w
      fun x w' => x = .returned (.bool true) ∧ Below w.heap.size w w' := by
  by_cases h4 : x0 % 5 = 4
  · by_cases h5 : e = 65535
    · subst h5; exact seizesB x0 x1 bd w h0 h1 h4
    · exact seizesA x0 x1 e bd w h0 h1 h4 (by omega)
  · by_cases h5 : e = 65535
    · subst h5; exact seizesE x0 x1 bd w h0 h1 h4
    · by_cases h6 : e = 65534
      · subst h6; exact seizesD x0 x1 bd w h0 h1 h4
      · exact seizesC x0 x1 e bd w h0 h1 h4 (by omega)
end Go.Proofs.Ytabnjfboigmleaa
