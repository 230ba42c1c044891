/- The contracts of package stick: what each call computes; all memory that was there stays as it was. -/
import Derived.Test.YtabnjfboigmleaaTick
namespace Go.Proofs.Ytabnjfboigmleaa
open Go.RowKit Go.BigFrame Sd
set_option linter.unusedVariables false

/-- what the loop of beyond holds at its head: none of the first k is far -/
def BeyRel (w w0 : World) (nm m x0 x1 x2 x3 : Int) (i : Value) (wr : World) : Prop :=
  ∃ k : Int, 0 ≤ k ∧ k ≤ 4 ∧ i = .int .i64 k ∧ wr = w0 ∧ (0 < k → ¬ (x0 < nm ∨ m < x0)) ∧ (1 < k → ¬ (x1 < nm ∨ m < x1)) ∧ (2 < k → ¬ (x2 < nm ∨ m < x2)) ∧ (3 < k → ¬ (x3 < nm ∨ m < x3))

def beyS (nm m x0 x1 x2 x3 : Int) : Bool := decide ((x0 < nm ∨ m < x0) ∨ (x1 < nm ∨ m < x1) ∨ (x2 < nm ∨ m < x2) ∨ (x3 < nm ∨ m < x3))

set_option maxHeartbeats 800000 in
theorem beyond_any (m nm x0 x1 x2 x3 : Int) (w : World) (hm : I64 m) (hn : IntKind.i64.wrap (-m) = nm) (h0 : I64 x0) (h1 : I64 x1) (h2 : I64 x2) (h3 : I64 x3) :
    Calls Try.prog 37 #[.int .i64 m, .agg #[.int .i64 x0, .int .i64 x1, .int .i64 x2, .int .i64 x3]] w
      fun x w' => x = .returned (.bool (beyS nm m x0 x1 x2 x3)) ∧ Below w.heap.size w w' := by
  unfold I64 at hm h0 h1 h2 h3

  have i0 : ∀ w, (Instr.index 34 (.agg #[.int .i64 x0, .int .i64 x1, .int .i64 x2, .int .i64 x3]) (.int .i64 0)).run Try.prog w = .ok (.int .i64 x0) w := fun _ => by kernel_rfl
  have i1 : ∀ w, (Instr.index 34 (.agg #[.int .i64 x0, .int .i64 x1, .int .i64 x2, .int .i64 x3]) (.int .i64 1)).run Try.prog w = .ok (.int .i64 x1) w := fun _ => by kernel_rfl
  have i2 : ∀ w, (Instr.index 34 (.agg #[.int .i64 x0, .int .i64 x1, .int .i64 x2, .int .i64 x3]) (.int .i64 2)).run Try.prog w = .ok (.int .i64 x2) w := fun _ => by kernel_rfl
  have i3 : ∀ w, (Instr.index 34 (.agg #[.int .i64 x0, .int .i64 x1, .int .i64 x2, .int .i64 x3]) (.int .i64 3)).run Try.prog w = .ok (.int .i64 x3) w := fun _ => by kernel_rfl
  go_enter Try.func37, Try.ntmps37
  go_wp2_with fail
  go_loopw [8] (fun i wr => BeyRel w (w.alloc (.cells #[.int .i64 x0, .int .i64 x1, .int .i64 x2, .int .i64 x3] 34)) nm m x0 x1 x2 x3 i wr) (fun i wr => (4 - intOf i).toNat)
  case atStart => exact ⟨0, by omega, by omega, rfl, rfl, by omega, by omega, by omega, by omega⟩
  case round =>
    obtain ⟨k, hk0, hk, rfl, rfl, g0, g1, g2, g3⟩ := hrel
    have hk' : k = 0 ∨ k = 1 ∨ k = 2 ∨ k = 3 ∨ k = 4 := by omega
    rcases hk' with rfl | rfl | rfl | rfl | rfl
    · by_cases hf : x0 < nm
      · have hr : beyS nm m x0 x1 x2 x3 = true := by simp [beyS, hf]
        have d1 : decide (x0 < nm) = true := by simpa using hf
        have HR := Lib.hid hr; clear hr g0 g1 g2 g3
        go_wp2_with fail
        go_ret
        refine ⟨by rw [HR.out]; rfl, ?_⟩
        repeat first | exact Below.refl _ _ | assumption | refine ba ?_ _ | refine bs ?_ (by first | omega | (simp; done) | (simp; omega)) _ | refine bsr ?_ (by first | omega | (simp; done) | (simp; omega)) _ | refine bt ?_ (by assumption)
      · have d1 : decide (x0 < nm) = false := by simpa using hf
        by_cases hf2 : m < x0
        · have hr : beyS nm m x0 x1 x2 x3 = true := by simp [beyS, hf2]
          have d2 : decide (m < x0) = true := by simpa using hf2
          have HR := Lib.hid hr; clear hr g0 g1 g2 g3
          go_wp2_with fail
          go_ret
          refine ⟨by rw [HR.out]; rfl, ?_⟩
          repeat first | exact Below.refl _ _ | assumption | refine ba ?_ _ | refine bs ?_ (by first | omega | (simp; done) | (simp; omega)) _ | refine bsr ?_ (by first | omega | (simp; done) | (simp; omega)) _ | refine bt ?_ (by assumption)
        · have d2 : decide (m < x0) = false := by simpa using hf2
          have G0 := Lib.hid g0; have G1 := Lib.hid g1; have G2 := Lib.hid g2; have G3 := Lib.hid g3; clear g0 g1 g2 g3
          go_wp2_with fail
          have g0 := G0.out; have g1 := G1.out; have g2 := G2.out; have g3 := G3.out
          exact ⟨⟨1, by omega, by omega, by simp, by go_simp, by omega, by omega, by omega, by omega⟩, by simp [intOf]⟩
    · by_cases hf : x1 < nm
      · have hr : beyS nm m x0 x1 x2 x3 = true := by simp [beyS, hf]
        have d1 : decide (x1 < nm) = true := by simpa using hf
        have HR := Lib.hid hr; clear hr g0 g1 g2 g3
        go_wp2_with fail
        go_ret
        refine ⟨by rw [HR.out]; rfl, ?_⟩
        repeat first | exact Below.refl _ _ | assumption | refine ba ?_ _ | refine bs ?_ (by first | omega | (simp; done) | (simp; omega)) _ | refine bsr ?_ (by first | omega | (simp; done) | (simp; omega)) _ | refine bt ?_ (by assumption)
      · have d1 : decide (x1 < nm) = false := by simpa using hf
        by_cases hf2 : m < x1
        · have hr : beyS nm m x0 x1 x2 x3 = true := by simp [beyS, hf2]
          have d2 : decide (m < x1) = true := by simpa using hf2
          have HR := Lib.hid hr; clear hr g0 g1 g2 g3
          go_wp2_with fail
          go_ret
          refine ⟨by rw [HR.out]; rfl, ?_⟩
          repeat first | exact Below.refl _ _ | assumption | refine ba ?_ _ | refine bs ?_ (by first | omega | (simp; done) | (simp; omega)) _ | refine bsr ?_ (by first | omega | (simp; done) | (simp; omega)) _ | refine bt ?_ (by assumption)
        · have d2 : decide (m < x1) = false := by simpa using hf2
          have G0 := Lib.hid g0; have G1 := Lib.hid g1; have G2 := Lib.hid g2; have G3 := Lib.hid g3; clear g0 g1 g2 g3
          go_wp2_with fail
          have g0 := G0.out; have g1 := G1.out; have g2 := G2.out; have g3 := G3.out
          exact ⟨⟨2, by omega, by omega, by simp, by go_simp, by omega, by omega, by omega, by omega⟩, by simp [intOf]⟩
    · by_cases hf : x2 < nm
      · have hr : beyS nm m x0 x1 x2 x3 = true := by simp [beyS, hf]
        have d1 : decide (x2 < nm) = true := by simpa using hf
        have HR := Lib.hid hr; clear hr g0 g1 g2 g3
        go_wp2_with fail
        go_ret
        refine ⟨by rw [HR.out]; rfl, ?_⟩
        repeat first | exact Below.refl _ _ | assumption | refine ba ?_ _ | refine bs ?_ (by first | omega | (simp; done) | (simp; omega)) _ | refine bsr ?_ (by first | omega | (simp; done) | (simp; omega)) _ | refine bt ?_ (by assumption)
      · have d1 : decide (x2 < nm) = false := by simpa using hf
        by_cases hf2 : m < x2
        · have hr : beyS nm m x0 x1 x2 x3 = true := by simp [beyS, hf2]
          have d2 : decide (m < x2) = true := by simpa using hf2
          have HR := Lib.hid hr; clear hr g0 g1 g2 g3
          go_wp2_with fail
          go_ret
          refine ⟨by rw [HR.out]; rfl, ?_⟩
          repeat first | exact Below.refl _ _ | assumption | refine ba ?_ _ | refine bs ?_ (by first | omega | (simp; done) | (simp; omega)) _ | refine bsr ?_ (by first | omega | (simp; done) | (simp; omega)) _ | refine bt ?_ (by assumption)
        · have d2 : decide (m < x2) = false := by simpa using hf2
          have G0 := Lib.hid g0; have G1 := Lib.hid g1; have G2 := Lib.hid g2; have G3 := Lib.hid g3; clear g0 g1 g2 g3
          go_wp2_with fail
          have g0 := G0.out; have g1 := G1.out; have g2 := G2.out; have g3 := G3.out
          exact ⟨⟨3, by omega, by omega, by simp, by go_simp, by omega, by omega, by omega, by omega⟩, by simp [intOf]⟩
    · by_cases hf : x3 < nm
      · have hr : beyS nm m x0 x1 x2 x3 = true := by simp [beyS, hf]
        have d1 : decide (x3 < nm) = true := by simpa using hf
        have HR := Lib.hid hr; clear hr g0 g1 g2 g3
        go_wp2_with fail
        go_ret
        refine ⟨by rw [HR.out]; rfl, ?_⟩
        repeat first | exact Below.refl _ _ | assumption | refine ba ?_ _ | refine bs ?_ (by first | omega | (simp; done) | (simp; omega)) _ | refine bsr ?_ (by first | omega | (simp; done) | (simp; omega)) _ | refine bt ?_ (by assumption)
      · have d1 : decide (x3 < nm) = false := by simpa using hf
        by_cases hf2 : m < x3
        · have hr : beyS nm m x0 x1 x2 x3 = true := by simp [beyS, hf2]
          have d2 : decide (m < x3) = true := by simpa using hf2
          have HR := Lib.hid hr; clear hr g0 g1 g2 g3
          go_wp2_with fail
          go_ret
          refine ⟨by rw [HR.out]; rfl, ?_⟩
          repeat first | exact Below.refl _ _ | assumption | refine ba ?_ _ | refine bs ?_ (by first | omega | (simp; done) | (simp; omega)) _ | refine bsr ?_ (by first | omega | (simp; done) | (simp; omega)) _ | refine bt ?_ (by assumption)
        · have d2 : decide (m < x3) = false := by simpa using hf2
          have G0 := Lib.hid g0; have G1 := Lib.hid g1; have G2 := Lib.hid g2; have G3 := Lib.hid g3; clear g0 g1 g2 g3
          go_wp2_with fail
          have g0 := G0.out; have g1 := G1.out; have g2 := G2.out; have g3 := G3.out
          exact ⟨⟨4, by omega, by omega, by simp, by go_simp, by omega, by omega, by omega, by omega⟩, by simp [intOf]⟩
    · have hr : beyS nm m x0 x1 x2 x3 = false := by simp only [beyS, decide_eq_false_iff_not]; omega
      have HR := Lib.hid hr; clear hr g0 g1 g2 g3
      go_wp2_with fail
      go_ret
      refine ⟨by rw [HR.out]; rfl, ?_⟩
      repeat first | exact Below.refl _ _ | assumption | refine ba ?_ _ | refine bs ?_ (by first | omega | (simp; done) | (simp; omega)) _ | refine bsr ?_ (by first | omega | (simp; done) | (simp; omega)) _ | refine bt ?_ (by assumption)

/-- how many samples in a row are counted -/
def runS (v far : Bool) (r st : Int) : Int := if v && far then satS (maxS r) st else 0
def overS (v far : Bool) (r st : Int) : Bool := v && far && decide (st ≤ satS (maxS r) st)

set_option maxHeartbeats 800000 in
theorem see_any (pc : Array Value) (st m nm r x0 x1 x2 x3 : Int) (v g : Bool) (w : World) (hp1 : pc[46]? = some (.int .i64 st)) (hp2 : pc[47]? = some (.int .i64 m))
    (hst : I64 st) (hm : I64 m) (hr : I64 r) (hn : IntKind.i64.wrap (-m) = nm) (h0 : I64 x0) (h1 : I64 x1) (h2 : I64 x2) (h3 : I64 x3) :
    Calls Try.prog 21 #[.agg pc, .int .i64 r, .agg #[.bool v, .int .i64 x0, .int .i64 x1, .int .i64 x2, .int .i64 x3, .bool g]] w
      fun x w' => x = .returned (.tuple #[.int .i64 (runS v (beyS nm m x0 x1 x2 x3) r st), .bool (overS v (beyS nm m x0 x1 x2 x3) r st)]) ∧ Below w.heap.size w w' := by
  have hbey : ∀ W, Calls Try.prog 37 #[.int .i64 m, .agg #[.int .i64 x0, .int .i64 x1, .int .i64 x2, .int .i64 x3]] W fun x w' => x = .returned (.bool (beyS nm m x0 x1 x2 x3)) ∧ Below W.heap.size W w' :=
    fun W => beyond_any m nm x0 x1 x2 x3 W hm hn h0 h1 h2 h3
  have HB := Lib.hid hbey; clear hbey hn hm h0 h1 h2 h3
  generalize beyS nm m x0 x1 x2 x3 = far at *
  cases v
  · have e2 : runS false far r st = 0 := by simp [runS]
    have e3 : overS false far r st = false := by simp [overS]
    rw [e2, e3]
    clear e2 e3
    go_enter Try.func21, Try.ntmps21
    go_wp2_with fail
    go_ret2
    refine ⟨rfl, ?_⟩
    repeat first | exact Below.refl _ _ | assumption | refine ba ?_ _ | refine bs ?_ (by first | omega | (simp; done) | (simp; omega)) _ | refine bsr ?_ (by first | omega | (simp; done) | (simp; omega)) _ | refine bt ?_ (by assumption)
  · cases far
    · have e2 : runS true false r st = 0 := by simp [runS]
      have e3 : overS true false r st = false := by simp [overS]
      rw [e2, e3]
      clear e2 e3
      go_enter Try.func21, Try.ntmps21
      go_wp2_with fail
      refine (HB.out _).mono ?_; rintro e w1 ⟨rfl, hb_w1⟩
      obtain ⟨hc_w1, hf_w1, hz_w1⟩ := bcell hb_w1
      have ht_0_w1 : w.heap.size < w1.heap.size := by have hz := hz_w1; (try simp at hz); omega
      have ht_1_w1 : w.heap.size + 1 < w1.heap.size := by have hz := hz_w1; (try simp at hz); omega
      clear hz_w1
      go_wp2_with fail
      go_ret2
      refine ⟨rfl, ?_⟩
      repeat first | exact Below.refl _ _ | assumption | refine ba ?_ _ | refine bs ?_ (by first | omega | (simp; done) | (simp; omega)) _ | refine bsr ?_ (by first | omega | (simp; done) | (simp; omega)) _ | refine bt ?_ (by assumption)
    · have hsat : ∀ W, Calls Try.prog 36 #[.int .i64 (maxS r), .int .i64 st] W fun x w' => x = .returned (.int .i64 (satS (maxS r) st)) ∧ W = w' := fun W => sat_any (maxS r) st W (by unfold I64 maxS at *; split <;> omega) hst
      have e2 : runS true true r st = satS (maxS r) st := by simp [runS]
      have e3 : overS true true r st = decide (st ≤ satS (maxS r) st) := by simp [overS]
      rw [e2, e3]
      clear e2 e3
      unfold I64 at hr
      by_cases hr0 : r < 0
      · have e1 : maxS r = 0 := if_pos hr0
        rw [e1] at hsat ⊢
        have HS := Lib.hid hsat; clear hsat e1 hst
        generalize satS 0 st = q at *
        go_enter Try.func21, Try.ntmps21
        go_wp2_with fail
        refine (HB.out _).mono ?_; rintro e w1 ⟨rfl, hb_w1⟩
        obtain ⟨hc_w1, hf_w1, hz_w1⟩ := bcell hb_w1
        have ht_0_w1 : w.heap.size < w1.heap.size := by have hz := hz_w1; (try simp at hz); omega
        have ht_1_w1 : w.heap.size + 1 < w1.heap.size := by have hz := hz_w1; (try simp at hz); omega
        clear hz_w1
        go_wp2_with fail
        refine (HS.out _).mono ?_; rintro x w2 ⟨rfl, rfl⟩
        go_wp2_with fail
        refine wp_region_self_lit (by kernel_rfl) (by kernel_rfl) ?_
        repeat (any_goals (go_big_quiet_step (fail)))
        refine wpQuiet_nil ?_
        intro w3 hb_w3
        obtain ⟨hc_w3, hf_w3, hz_w3⟩ := bcell hb_w3
        go_wp2_with fail
        go_ret2
        refine ⟨rfl, ?_⟩
        repeat first | exact Below.refl _ _ | assumption | refine ba ?_ _ | refine bs ?_ (by first | omega | (simp; done) | (simp; omega)) _ | refine bsr ?_ (by first | omega | (simp; done) | (simp; omega)) _ | refine bt ?_ (by assumption)
      · have e1 : maxS r = r := if_neg hr0
        rw [e1] at hsat ⊢
        have HS := Lib.hid hsat; clear hsat e1 hst
        generalize satS r st = q at *
        go_enter Try.func21, Try.ntmps21
        go_wp2_with fail
        refine (HB.out _).mono ?_; rintro e w1 ⟨rfl, hb_w1⟩
        obtain ⟨hc_w1, hf_w1, hz_w1⟩ := bcell hb_w1
        have ht_0_w1 : w.heap.size < w1.heap.size := by have hz := hz_w1; (try simp at hz); omega
        have ht_1_w1 : w.heap.size + 1 < w1.heap.size := by have hz := hz_w1; (try simp at hz); omega
        clear hz_w1
        go_wp2_with fail
        refine (HS.out _).mono ?_; rintro x w2 ⟨rfl, rfl⟩
        go_wp2_with fail
        refine wp_region_self_lit (by kernel_rfl) (by kernel_rfl) ?_
        repeat (any_goals (go_big_quiet_step (fail)))
        refine wpQuiet_nil ?_
        intro w3 hb_w3
        obtain ⟨hc_w3, hf_w3, hz_w3⟩ := bcell hb_w3
        go_wp2_with fail
        go_ret2
        refine ⟨rfl, ?_⟩
        repeat first | exact Below.refl _ _ | assumption | refine ba ?_ _ | refine bs ?_ (by first | omega | (simp; done) | (simp; omega)) _ | refine bsr ?_ (by first | omega | (simp; done) | (simp; omega)) _ | refine bt ?_ (by assumption)
end Go.Proofs.Ytabnjfboigmleaa
