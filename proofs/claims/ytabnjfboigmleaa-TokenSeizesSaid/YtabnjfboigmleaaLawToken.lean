/- The walks of TokenKeeps and TokenSeizes: for every token the laws return true, and all memory that was there stays as it was. No condition. -/
import Derived.Test.YtabnjfboigmleaaToken
namespace Go.Proofs.Ytabnjfboigmleaa
open Go.RowKit Go.BigFrame Sd
set_option linter.unusedVariables false

set_option maxHeartbeats 400000 in
theorem shown18 (w : World) : Calls Try.prog 22 #[] w fun e w' => e = .returned (.bool true) ∧ Below w.heap.size w w' := by
  have e1 : seizeE 2 8 = 9 := by decide
  have E1 := Lib.hid e1; clear e1
  go_enter Try.func22, Try.ntmps22
  go_wp2_with fail
  refine (new_any _ 7 rfl _).mono ?_; rintro e w1 ⟨rfl, hb_w1⟩
  obtain ⟨hc_w1, hf_w1, hz_w1⟩ := bcell hb_w1
  go_wp2_with fail
  refine (grant_yes _ _ _ _ _ _ _ _ 2 _ (by omega) (by omega) (by omega) (by omega) (i64 (by omega))).mono ?_; rintro e w2 ⟨rfl, hb_w2⟩
  obtain ⟨hc_w2, hf_w2, hz_w2⟩ := bcell hb_w2
  have ht_0_w2 : w1.heap.size < w2.heap.size := by have hz := hz_w2; (try simp at hz); omega
  clear hz_w2
  go_wp2_with fail
  refine (seize_any _ _ _ _ _ _ _ _ _ (i64 (by omega))).mono ?_; rintro e w3 ⟨rfl, hb_w3⟩
  obtain ⟨hc_w3, hf_w3, hz_w3⟩ := bcell hb_w3
  have ht_0_w3 : w1.heap.size < w3.heap.size := by have hz := hz_w3; (try simp at hz); omega
  have ht_1_w3 : w2.heap.size < w3.heap.size := by have hz := hz_w3; (try simp at hz); omega
  clear hz_w3
  rw [E1.out]
  go_wp2_with fail
  go_ret
  refine ⟨rfl, ?_⟩
  repeat first | exact Below.refl _ _ | assumption | refine ba ?_ _ | refine bs ?_ (by first | omega | (simp; done) | (simp; omega)) _ | refine bsr ?_ (by first | omega | (simp; done) | (simp; omega)) _ | refine bt ?_ (by assumption)

set_option maxHeartbeats 800000 in
theorem keepsNo (h e o a1 a2 b1 b2 : Int) (bd : Bool) (to_ c : Int) (w : World) (he : I64 e) (hx : c = 1 ∨ c = 25 ∨ c = 24)
    (hc : ((to_ < 0 ∨ 5 ≤ to_) ∧ c = 1) ∨ (0 ≤ to_ ∧ to_ ≤ 4 ∧ to_ = h ∧ c = 25) ∨ (0 ≤ to_ ∧ to_ ≤ 4 ∧ to_ ≠ h ∧ 65535 ≤ e ∧ c = 24)) :
    Calls Try.prog 8 #[.agg #[.int .i64 h, .int .i64 e, .int .i64 o, .int .i64 a1, .int .i64 a2, .int .i64 b1, .int .i64 b2, .bool bd], .int .i64 to_] w
      fun x w' => x = .returned (.bool true) ∧ Below w.heap.size w w' := by
  have hgr := fun W => grant_no h e o a1 a2 b1 b2 bd to_ c W hc
  have HG := Lib.hid hgr; clear hgr hc
  rcases hx with rfl | rfl | rfl
  all_goals
    go_enter Try.func8, Try.ntmps8
    go_wp2_with fail
    refine (shown18 _).mono ?_; rintro e w1 ⟨rfl, hb_w1⟩
    obtain ⟨hc_w1, hf_w1, hz_w1⟩ := bcell hb_w1
    have ht_0_w1 : w.heap.size < w1.heap.size := by have hz := hz_w1; (try simp at hz); omega
    clear hz_w1
    go_wp2_with fail
    refine (HG.out _).mono ?_; rintro e w2 ⟨rfl, hb_w2⟩
    obtain ⟨hc_w2, hf_w2, hz_w2⟩ := bcell hb_w2
    have ht_0_w2 : w.heap.size < w2.heap.size := by have hz := hz_w2; (try simp at hz); omega
    clear hz_w2
    go_wp2_with fail
    refine (seize_any _ _ _ _ _ _ _ _ _ he).mono ?_; rintro e w3 ⟨rfl, hb_w3⟩
    obtain ⟨hc_w3, hf_w3, hz_w3⟩ := bcell hb_w3
    have ht_0_w3 : w.heap.size < w3.heap.size := by have hz := hz_w3; (try simp at hz); omega
    have ht_1_w3 : w2.heap.size < w3.heap.size := by have hz := hz_w3; (try simp at hz); omega
    clear hz_w3
    go_wp2_with fail
    go_ret
    refine ⟨rfl, ?_⟩
    repeat first | exact Below.refl _ _ | assumption | refine ba ?_ _ | refine bs ?_ (by first | omega | (simp; done) | (simp; omega)) _ | refine bsr ?_ (by first | omega | (simp; done) | (simp; omega)) _ | refine bt ?_ (by assumption)

set_option maxHeartbeats 800000 in
theorem keepsYes (h e o a1 a2 b1 b2 : Int) (bd : Bool) (to_ : Int) (w : World) (he : I64 e) (h1 : 0 ≤ to_) (h2 : to_ ≤ 4) (h3 : to_ ≠ h) (h4 : e < 65535) :
    Calls Try.prog 8 #[.agg #[.int .i64 h, .int .i64 e, .int .i64 o, .int .i64 a1, .int .i64 a2, .int .i64 b1, .int .i64 b2, .bool bd], .int .i64 to_] w
      fun x w' => x = .returned (.bool true) ∧ Below w.heap.size w w' := by
  have HE := he
  unfold I64 at he
  have hgr := fun W => grant_yes h e o a1 a2 b1 b2 bd to_ W h1 h2 h3 h4 HE
  have HG := Lib.hid hgr; clear hgr
  have hne : (to_ == h) = false := by simpa using h3
  have hne2 : (to_ != h) = true := by simpa using h3
  have hle : decide (e < 65535) = true := by simpa using h4
  go_enter Try.func8, Try.ntmps8
  go_wp2_with fail
  refine (shown18 _).mono ?_; rintro e w1 ⟨rfl, hb_w1⟩
  obtain ⟨hc_w1, hf_w1, hz_w1⟩ := bcell hb_w1
  have ht_0_w1 : w.heap.size < w1.heap.size := by have hz := hz_w1; (try simp at hz); omega
  clear hz_w1
  go_wp2_with fail
  refine (HG.out _).mono ?_; rintro e w2 ⟨rfl, hb_w2⟩
  obtain ⟨hc_w2, hf_w2, hz_w2⟩ := bcell hb_w2
  have ht_0_w2 : w.heap.size < w2.heap.size := by have hz := hz_w2; (try simp at hz); omega
  clear hz_w2
  go_wp2_with fail
  refine (seize_any _ _ _ _ _ _ _ _ _ HE).mono ?_; rintro e w3 ⟨rfl, hb_w3⟩
  obtain ⟨hc_w3, hf_w3, hz_w3⟩ := bcell hb_w3
  have ht_0_w3 : w.heap.size < w3.heap.size := by have hz := hz_w3; (try simp at hz); omega
  have ht_1_w3 : w2.heap.size < w3.heap.size := by have hz := hz_w3; (try simp at hz); omega
  clear hz_w3
  go_wp2_with fail
  go_ret
  refine ⟨rfl, ?_⟩
  repeat first | exact Below.refl _ _ | assumption | refine ba ?_ _ | refine bs ?_ (by first | omega | (simp; done) | (simp; omega)) _ | refine bsr ?_ (by first | omega | (simp; done) | (simp; omega)) _ | refine bt ?_ (by assumption)

theorem tokenKeeps_any (h e o a1 a2 b1 b2 : Int) (bd : Bool) (to_ : Int) (w : World) (he : I64 e) :
    Calls Try.prog 8 #[.agg #[.int .i64 h, .int .i64 e, .int .i64 o, .int .i64 a1, .int .i64 a2, .int .i64 b1, .int .i64 b2, .bool bd], .int .i64 to_] w
      fun x w' => x = .returned (.bool true) ∧ Below w.heap.size w w' := by
  by_cases hr : to_ < 0 ∨ 5 ≤ to_
  · exact keepsNo _ _ _ _ _ _ _ _ _ 1 w he (by simp) (Or.inl ⟨hr, rfl⟩)
  by_cases hs : to_ = h
  · exact keepsNo _ _ _ _ _ _ _ _ _ 25 w he (by simp) (Or.inr (Or.inl ⟨by omega, by omega, hs, rfl⟩))
  by_cases hm : 65535 ≤ e
  · exact keepsNo _ _ _ _ _ _ _ _ _ 24 w he (by simp) (Or.inr (Or.inr ⟨by omega, by omega, hs, hm, rfl⟩))
  exact keepsYes _ _ _ _ _ _ _ _ _ w he (by omega) (by omega) hs (by omega)
end Go.Proofs.Ytabnjfboigmleaa
