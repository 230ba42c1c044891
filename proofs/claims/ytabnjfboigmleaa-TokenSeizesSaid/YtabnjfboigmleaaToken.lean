/- The contracts of package token: what each call computes; all memory that was there stays as it was. -/
import Derived.Test.YtabnjfboigmleaaTick
namespace Go.Proofs.Ytabnjfboigmleaa
open Go.RowKit Go.BigFrame Sd
set_option linter.unusedVariables false

theorem agg47 : AggT Try.prog 47 8 := ⟨⟨_, Try.underlying47, rfl⟩, by kernel_rfl⟩

theorem pass_any (h e o a1 a2 b1 b2 : Int) (bd : Bool) (to_ ep : Int) (w : World) :
    Calls Try.prog 39 #[.agg #[.int .i64 h, .int .i64 e, .int .i64 o, .int .i64 a1, .int .i64 a2, .int .i64 b1, .int .i64 b2, .bool bd], .int .i64 to_, .int .i64 ep] w
      fun x w' => x = .returned (.agg #[.int .i64 to_, .int .i64 ep, .int .i64 (-1), .int .i64 0, .int .i64 0, .int .i64 0, .int .i64 0, .bool bd]) ∧ Below w.heap.size w w' := by
  go_enter Try.func39, Try.ntmps39
  go_wp2
  refine bodyPost_ret (v := .agg #[.int .i64 to_, .int .i64 ep, .int .i64 (-1), .int .i64 0, .int .i64 0, .int .i64 0, .int .i64 0, .bool bd]) (by simp [results, Try.results39, go_sem]) rfl ⟨rfl, ?_⟩
  repeat first | exact Below.refl _ _ | assumption | refine ba ?_ _ | refine bs ?_ (by first | omega | (simp; done) | (simp; omega)) _ | refine bsr ?_ (by first | omega | (simp; done) | (simp; omega)) _ | refine bt ?_ (by assumption)

/-- how a function ends whose result lies in a cell of the call's own -/
theorem new_any (pc : Array Value) (e : Int) (he : pc[55]? = some (.int .i64 e)) (w : World) :
    Calls Try.prog 38 #[.agg pc] w
      fun x w' => x = .returned (.agg #[.int .i64 4, .int .i64 e, .int .i64 (-1), .int .i64 0, .int .i64 0, .int .i64 0, .int .i64 0, .bool false]) ∧ Below w.heap.size w w' := by
  go_enter Try.func38, Try.ntmps38
  go_wp2_with fail
  refine (pass_any _ _ _ _ _ _ _ _ _ _ _).mono ?_; rintro e w1 ⟨rfl, hb_w1⟩
  obtain ⟨hc_w1, hf_w1, hz_w1⟩ := bcell hb_w1
  have ht_0_w1 : w.heap.size < w1.heap.size := by have hz := hz_w1; (try simp at hz); omega
  have ht_1_w1 : w.heap.size + 1 < w1.heap.size := by have hz := hz_w1; (try simp at hz); omega
  clear hz_w1
  have hg := Below_at hb_w1 (k := w.heap.size + 1) (by simp) (heap_last _ _ (by simp))
  go_wp2_with (refine wpList_store_own agg47 (w.heap.size + 1) (hg) (by rfl) (by rfl) _ _ (by rfl) _ (by rfl) (by rfl) (by rfl) (by simp [Value.oneCell']) ?_)
  refine bp_cell agg47 rfl rfl (setRow_heap _ _ _ _ _ _ hg) rfl rfl ⟨rfl, ?_⟩
  repeat first | exact Below.refl _ _ | assumption | refine ba ?_ _ | refine bs ?_ (by first | omega | (simp; done) | (simp; omega)) _ | refine bsr ?_ (by first | omega | (simp; done) | (simp; omega)) _ | refine bt ?_ (by assumption)

def seizeE (h e : Int) : Int := if h = 4 then e else satS e 65535

theorem seize_any (h e o a1 a2 b1 b2 : Int) (bd : Bool) (w : World) (he : I64 e) :
    Calls Try.prog 24 #[.agg #[.int .i64 h, .int .i64 e, .int .i64 o, .int .i64 a1, .int .i64 a2, .int .i64 b1, .int .i64 b2, .bool bd]] w
      fun x w' => x = .returned (.agg #[.int .i64 4, .int .i64 (seizeE h e), .int .i64 (-1), .int .i64 0, .int .i64 0, .int .i64 0, .int .i64 0, .bool bd]) ∧ Below w.heap.size w w' := by
  by_cases h4 : h = 4
  · have e1 : seizeE h e = e := if_pos h4
    have E1 := Lib.hid e1; clear e1
    subst h4
    go_enter Try.func24, Try.ntmps24
    go_wp2_with fail
    refine (pass_any _ _ _ _ _ _ _ _ _ _ _).mono ?_; rintro e w1 ⟨rfl, hb_w1⟩
    obtain ⟨hc_w1, hf_w1, hz_w1⟩ := bcell hb_w1
    have ht_0_w1 : w.heap.size < w1.heap.size := by have hz := hz_w1; (try simp at hz); omega
    have ht_1_w1 : w.heap.size + 1 < w1.heap.size := by have hz := hz_w1; (try simp at hz); omega
    clear hz_w1
    have hg := Below_at hb_w1 (k := w.heap.size + 1) (by simp) (heap_last _ _ (by simp))
    go_wp2_with (refine wpList_store_own agg47 (w.heap.size + 1) (hg) (by rfl) (by rfl) _ _ (by rfl) _ (by rfl) (by rfl) (by rfl) (by simp [Value.oneCell']) ?_)
    refine bp_cell agg47 rfl rfl (setRow_heap _ _ _ _ _ _ hg) rfl rfl ⟨by rw [E1.out], ?_⟩
    repeat first | exact Below.refl _ _ | assumption | refine ba ?_ _ | refine bs ?_ (by first | omega | (simp; done) | (simp; omega)) _ | refine bsr ?_ (by first | omega | (simp; done) | (simp; omega)) _ | refine bt ?_ (by assumption)
  · have e1 : seizeE h e = satS e 65535 := if_neg h4
    have E1 := Lib.hid e1; clear e1
    have hh : (h == 4) = false := by simpa using h4
    go_enter Try.func24, Try.ntmps24
    go_wp2_with fail
    refine (sat_any e 65535 _ he (i64 (by omega))).mono ?_; rintro x w0 ⟨rfl, rfl⟩
    go_wp2_with fail
    refine (pass_any _ _ _ _ _ _ _ _ _ _ _).mono ?_; rintro e w1 ⟨rfl, hb_w1⟩
    obtain ⟨hc_w1, hf_w1, hz_w1⟩ := bcell hb_w1
    have ht_0_w1 : w.heap.size < w1.heap.size := by have hz := hz_w1; (try simp at hz); omega
    have ht_1_w1 : w.heap.size + 1 < w1.heap.size := by have hz := hz_w1; (try simp at hz); omega
    clear hz_w1
    have hg := Below_at hb_w1 (k := w.heap.size + 1) (by simp) (heap_last _ _ (by simp))
    go_wp2_with (refine wpList_store_own agg47 (w.heap.size + 1) (hg) (by rfl) (by rfl) _ _ (by rfl) _ (by rfl) (by rfl) (by rfl) (by simp [Value.oneCell']) ?_)
    refine bp_cell agg47 rfl rfl (setRow_heap _ _ _ _ _ _ hg) rfl rfl ⟨by rw [E1.out], ?_⟩
    repeat first | exact Below.refl _ _ | assumption | refine ba ?_ _ | refine bs ?_ (by first | omega | (simp; done) | (simp; omega)) _ | refine bsr ?_ (by first | omega | (simp; done) | (simp; omega)) _ | refine bt ?_ (by assumption)

/-- a token that is not given on: why -/
theorem grant_no (h e o a1 a2 b1 b2 : Int) (bd : Bool) (to_ c : Int) (w : World)
    (hc : ((to_ < 0 ∨ 5 ≤ to_) ∧ c = 1) ∨ (0 ≤ to_ ∧ to_ ≤ 4 ∧ to_ = h ∧ c = 25) ∨ (0 ≤ to_ ∧ to_ ≤ 4 ∧ to_ ≠ h ∧ 65535 ≤ e ∧ c = 24)) :
    Calls Try.prog 23 #[.agg #[.int .i64 h, .int .i64 e, .int .i64 o, .int .i64 a1, .int .i64 a2, .int .i64 b1, .int .i64 b2, .bool bd], .int .i64 to_] w
      fun x w' => x = .returned (.tuple #[.agg #[.int .i64 h, .int .i64 e, .int .i64 o, .int .i64 a1, .int .i64 a2, .int .i64 b1, .int .i64 b2, .bool bd], .int .i64 c]) ∧ Below w.heap.size w w' := by
  rcases hc with ⟨hh | hh, rfl⟩ | ⟨h1, h2, rfl, rfl⟩ | ⟨h1, h2, h3, h4, rfl⟩
  · go_enter Try.func23, Try.ntmps23
    go_wp2
    refine bodyPost_ret (v := .tuple #[.agg #[.int .i64 h, .int .i64 e, .int .i64 o, .int .i64 a1, .int .i64 a2, .int .i64 b1, .int .i64 b2, .bool bd], .int .i64 1]) (by simp [results, Try.results23, go_sem]) rfl ⟨rfl, ?_⟩
    repeat first | exact Below.refl _ _ | assumption | refine ba ?_ _ | refine bs ?_ (by first | omega | (simp; done) | (simp; omega)) _ | refine bsr ?_ (by first | omega | (simp; done) | (simp; omega)) _ | refine bt ?_ (by assumption)
  · have hn : ¬ to_ < 0 := by omega
    go_enter Try.func23, Try.ntmps23
    go_wp2
    refine bodyPost_ret (v := .tuple #[.agg #[.int .i64 h, .int .i64 e, .int .i64 o, .int .i64 a1, .int .i64 a2, .int .i64 b1, .int .i64 b2, .bool bd], .int .i64 1]) (by simp [results, Try.results23, go_sem]) rfl ⟨rfl, ?_⟩
    repeat first | exact Below.refl _ _ | assumption | refine ba ?_ _ | refine bs ?_ (by first | omega | (simp; done) | (simp; omega)) _ | refine bsr ?_ (by first | omega | (simp; done) | (simp; omega)) _ | refine bt ?_ (by assumption)
  · go_enter Try.func23, Try.ntmps23
    go_wp2
    refine bodyPost_ret (v := .tuple #[.agg #[.int .i64 to_, .int .i64 e, .int .i64 o, .int .i64 a1, .int .i64 a2, .int .i64 b1, .int .i64 b2, .bool bd], .int .i64 25]) (by simp [results, Try.results23, go_sem]) rfl ⟨rfl, ?_⟩
    repeat first | exact Below.refl _ _ | assumption | refine ba ?_ _ | refine bs ?_ (by first | omega | (simp; done) | (simp; omega)) _ | refine bsr ?_ (by first | omega | (simp; done) | (simp; omega)) _ | refine bt ?_ (by assumption)
  · have hne : (to_ == h) = false := by simpa using h3
    go_enter Try.func23, Try.ntmps23
    go_wp2
    refine bodyPost_ret (v := .tuple #[.agg #[.int .i64 h, .int .i64 e, .int .i64 o, .int .i64 a1, .int .i64 a2, .int .i64 b1, .int .i64 b2, .bool bd], .int .i64 24]) (by simp [results, Try.results23, go_sem]) rfl ⟨rfl, ?_⟩
    repeat first | exact Below.refl _ _ | assumption | refine ba ?_ _ | refine bs ?_ (by first | omega | (simp; done) | (simp; omega)) _ | refine bsr ?_ (by first | omega | (simp; done) | (simp; omega)) _ | refine bt ?_ (by assumption)

theorem grant_yes (h e o a1 a2 b1 b2 : Int) (bd : Bool) (to_ : Int) (w : World) (h1 : 0 ≤ to_) (h2 : to_ ≤ 4) (h3 : to_ ≠ h) (h4 : e < 65535) (he : I64 e) :
    Calls Try.prog 23 #[.agg #[.int .i64 h, .int .i64 e, .int .i64 o, .int .i64 a1, .int .i64 a2, .int .i64 b1, .int .i64 b2, .bool bd], .int .i64 to_] w
      fun x w' => x = .returned (.tuple #[.agg #[.int .i64 to_, .int .i64 (e + 1), .int .i64 (-1), .int .i64 0, .int .i64 0, .int .i64 0, .int .i64 0, .bool bd], .int .i64 0]) ∧ Below w.heap.size w w' := by
  have hne : (to_ == h) = false := by simpa using h3
  unfold I64 at he
  go_enter Try.func23, Try.ntmps23
  go_wp2_with fail
  refine (pass_any _ _ _ _ _ _ _ _ _ _ _).mono ?_; rintro e w1 ⟨rfl, hb_w1⟩
  obtain ⟨hc_w1, hf_w1, hz_w1⟩ := bcell hb_w1
  have ht_0_w1 : w.heap.size < w1.heap.size := by have hz := hz_w1; (try simp at hz); omega
  have ht_1_w1 : w.heap.size + 1 < w1.heap.size := by have hz := hz_w1; (try simp at hz); omega
  clear hz_w1
  have hg := Below_at hb_w1 (k := w.heap.size + 1) (by simp) (heap_last _ _ (by simp))
  go_wp2_with (refine wpList_store_own agg47 (w.heap.size + 1) (hg) (by rfl) (by rfl) _ _ (by rfl) _ (by rfl) (by rfl) (by rfl) (by simp [Value.oneCell']) ?_)
  refine bp_cell_tmp agg47 rfl rfl (setRow_heap _ _ _ _ _ _ hg) rfl rfl ⟨rfl, ?_⟩
  repeat first | exact Below.refl _ _ | assumption | refine ba ?_ _ | refine bs ?_ (by first | omega | (simp; done) | (simp; omega)) _ | refine bsr ?_ (by first | omega | (simp; done) | (simp; omega)) _ | refine bt ?_ (by assumption)
end Go.Proofs.Ytabnjfboigmleaa
