/- The contracts of num.Sat and of package tick: what each call computes; all memory that was there stays as it was. -/
import Derived.Test.YtabnjfboigmleaaRows
import Derived.Test.YtabnjfboigmleaaReg
namespace Go.Proofs.Ytabnjfboigmleaa
open Go.RowKit Go.BigFrame Sd
set_option linter.unusedVariables false

def satS (n m : Int) : Int := if n < m then n + 1 else m
def maxS (n : Int) : Int := if n < 0 then 0 else n
theorem satS_bd {n m : Int} (h1 : I64 n) (h2 : I64 m) : I64 (satS n m) := by unfold I64 satS at *; split <;> omega

theorem sat_any (n m : Int) (w : World) (h1 : I64 n) (h2 : I64 m) :
    Calls Try.prog 36 #[.int .i64 n, .int .i64 m] w fun e w' => e = .returned (.int .i64 (satS n m)) ∧ w = w' := by
  unfold I64 at h1 h2
  by_cases h : n < m
  · have hs : satS n m = n + 1 := if_pos h
    have HS := Lib.hid hs; clear hs
    go_enter Try.func36, Try.ntmps36
    go_wp2
    go_ret
    exact ⟨by rw [HS.out]; rfl, rfl⟩
  · have hs : satS n m = m := if_neg h
    have HS := Lib.hid hs; clear hs
    go_enter Try.func36, Try.ntmps36
    go_wp2
    go_ret
    exact ⟨by rw [HS.out]; rfl, rfl⟩

theorem step_any (n m : Int) (w : World) (h1 : I64 n) (h2 : I64 m) :
    Calls Try.prog 19 #[.agg #[.int .i64 n, .int .i64 m]] w fun e w' => e = .returned (.agg #[.int .i64 (satS n m), .int .i64 m]) ∧ Below w.heap.size w w' := by
  go_enter Try.func19, Try.ntmps19
  go_wp2_with (go_at_call 36; refine (sat_any _ _ _ h1 h2).mono ?_; rintro e w' ⟨rfl, rfl⟩)
  refine bodyPost_ret (v := .agg #[.int .i64 (satS n m), .int .i64 m]) (by simp [results, Try.results19, go_sem]) rfl ⟨rfl, ?_⟩
  repeat first | exact Below.refl _ _ | assumption | refine ba ?_ _ | refine bs ?_ (by first | omega | (simp; done) | (simp; omega)) _ | refine bsr ?_ (by first | omega | (simp; done) | (simp; omega)) _ | refine bt ?_ (by assumption)

theorem due_any (n m : Int) (w : World) :
    Calls Try.prog 18 #[.agg #[.int .i64 n, .int .i64 m]] w fun e w' => e = .returned (.bool (decide (m ≤ n))) ∧ Below w.heap.size w w' := by
  go_enter Try.func18, Try.ntmps18
  go_wp2
  go_ret
  refine ⟨rfl, ?_⟩
  repeat first | exact Below.refl _ _ | assumption | refine ba ?_ _ | refine bs ?_ (by first | omega | (simp; done) | (simp; omega)) _ | refine bsr ?_ (by first | omega | (simp; done) | (simp; omega)) _ | refine bt ?_ (by assumption)

theorem start_any (m : Int) (w : World) (h : I64 m) :
    Calls Try.prog 17 #[.int .i64 m] w fun e w' => e = .returned (.agg #[.int .i64 0, .int .i64 (maxS m)]) ∧ Below w.heap.size w w' := by
  unfold I64 at h
  by_cases h0 : m < 0
  · have hs : maxS m = 0 := if_pos h0
    have HS := Lib.hid hs; clear hs
    go_enter Try.func17, Try.ntmps17
    go_wp2
    refine bodyPost_ret (v := .agg #[.int .i64 0, .int .i64 0]) (by simp [results, Try.results17, go_sem]) rfl ⟨by rw [HS.out], ?_⟩
    repeat first | exact Below.refl _ _ | assumption | refine ba ?_ _ | refine bs ?_ (by first | omega | (simp; done) | (simp; omega)) _ | refine bsr ?_ (by first | omega | (simp; done) | (simp; omega)) _ | refine bt ?_ (by assumption)
  · have hs : maxS m = m := if_neg h0
    have HS := Lib.hid hs; clear hs
    go_enter Try.func17, Try.ntmps17
    go_wp2
    refine bodyPost_ret (v := .agg #[.int .i64 0, .int .i64 m]) (by simp [results, Try.results17, go_sem]) rfl ⟨by rw [HS.out], ?_⟩
    repeat first | exact Below.refl _ _ | assumption | refine ba ?_ _ | refine bs ?_ (by first | omega | (simp; done) | (simp; omega)) _ | refine bsr ?_ (by first | omega | (simp; done) | (simp; omega)) _ | refine bt ?_ (by assumption)
end Go.Proofs.Ytabnjfboigmleaa
