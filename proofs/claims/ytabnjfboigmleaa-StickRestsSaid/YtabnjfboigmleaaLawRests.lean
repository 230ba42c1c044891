/- The walk of StickRests. No condition. -/
import Derived.Test.YtabnjfboigmleaaLawStick
namespace Go.Proofs.Ytabnjfboigmleaa
open Go.RowKit Go.BigFrame Sd
set_option linter.unusedVariables false

theorem agg39 : AggT Try.prog 39 6 := ⟨⟨_, Try.underlying39, rfl⟩, by kernel_rfl⟩

def calmS (k j : Int) (s m : Int) : Int := if j < k then s.tmod m else s
theorem and_u16_3 (n : Int) (h : 0 ≤ n ∧ n ≤ 65535) : bits .and .u16 n 3 = n % 4 := by
  have := bits_low .u16 n 2 (by rw [IntWalk.u16_in]; omega) (by simp [BitVec.toNat_ofInt, IntKind.bits]; omega) (by decide)
  simpa using this
theorem runS_no (far : Bool) (r st : Int) : runS false far r st = 0 := by simp [runS]
theorem overS_no (far : Bool) (r st : Int) : overS false far r st = false := by simp [overS]
theorem runS_near (v : Bool) (r st : Int) : runS v false r st = 0 := by simp [runS]
theorem overS_near (v : Bool) (r st : Int) : overS v false r st = false := by simp [overS]
theorem calm_near (B s0 s1 s2 s3 : Int) (h : 0 ≤ B) : beyS (-B) B (s0.tmod (B + 1)) (s1.tmod (B + 1)) (s2.tmod (B + 1)) (s3.tmod (B + 1)) = false := by
  have h0 := tmod_bd s0 (B + 1) (by omega); have h1 := tmod_bd s1 (B + 1) (by omega); have h2 := tmod_bd s2 (B + 1) (by omega); have h3 := tmod_bd s3 (B + 1) (by omega)
  simp only [beyS, decide_eq_false_iff_not]
  omega
theorem far_is (B s1 s2 s3 : Int) : beyS (-B) B (B + 1) s1 s2 s3 = true ∧ beyS (-B) B s1 (B + 1) s2 s3 = true ∧ beyS (-B) B s1 s2 (B + 1) s3 = true ∧ beyS (-B) B s1 s2 s3 (B + 1) = true := by
  refine ⟨?_, ?_, ?_, ?_⟩ <;> (simp only [beyS, decide_eq_true_eq]; omega)
theorem runS_far (r st : Int) (h : 0 ≤ r) : runS true true r st = satS r st := by simp [runS, maxS, Int.not_lt.mpr h]
theorem overS_far (r st : Int) (h : 0 ≤ r) : overS true true r st = decide (st ≤ satS r st) := by simp [overS, maxS, Int.not_lt.mpr h]
/-- at the head of the loop: the first k axes of the calm one are made so -/
def RestRel (W : World) (b : Nat) (v g : Bool) (m s0 s1 s2 s3 : Int) (i : Value) (wr : World) : Prop :=
  ∃ k : Int, 0 ≤ k ∧ k ≤ 4 ∧ i = .int .i64 k ∧ wr.cell? ⟨b, 0, none⟩ = some (.bool v) ∧ wr.cell? ⟨b, 1, none⟩ = some (.int .i64 (calmS k 0 s0 m)) ∧ wr.cell? ⟨b, 2, none⟩ = some (.int .i64 (calmS k 1 s1 m)) ∧
    wr.cell? ⟨b, 3, none⟩ = some (.int .i64 (calmS k 2 s2 m)) ∧ wr.cell? ⟨b, 4, none⟩ = some (.int .i64 (calmS k 3 s3 m)) ∧ wr.cell? ⟨b, 5, none⟩ = some (.bool g) ∧
    (∀ o, wr.frozen? ⟨b, o, none⟩ = false) ∧ wr.heap.size = W.heap.size ∧ Below b W wr

set_option maxHeartbeats 4000000 in
theorem rests_any (x0 x1 n : Int) (v g : Bool) (s0 s1 s2 s3 : Int) (w : World) (hx0 : 0 ≤ x0 ∧ x0 ≤ 65535) (hx1 : 0 ≤ x1 ∧ x1 ≤ 65535) (hn : 0 ≤ n ∧ n ≤ 65535) (h0 : I64 s0) (h1 : I64 s1) (h2 : I64 s2) (h3 : I64 s3) :
    Calls Try.prog 7 #[.agg #[.int .u16 x0, .int .u16 x1], .int .u16 n, .agg #[.bool v, .int .i64 s0, .int .i64 s1, .int .i64 s2, .int .i64 s3, .bool g]] w
      fun x w' => x = .returned (.bool true) ∧ Below w.heap.size w w' := by
  go_enter Try.func7, Try.ntmps7
  go_wp2_with fail
  refine (shown17 _).mono ?_; rintro e w1 ⟨rfl, hb_w1⟩
  obtain ⟨hc_w1, hf_w1, hz_w1⟩ := bcell hb_w1
  have ht_0_w1 : w.heap.size < w1.heap.size := by have hz := hz_w1; (try simp at hz); omega
  have ht_1_w1 : w.heap.size + 1 < w1.heap.size := by have hz := hz_w1; (try simp at hz); omega
  clear hz_w1
  go_wp2_with (refine wpList_store_hold agg37 (w1.heap.size) (heap_last _ _ rfl) (by rfl) (by rfl) _ _ (by rfl) _ (by rfl) (by rfl) (by rfl) (by simp [Value.oneCell']) ?_)
  intro w2 hg_w2 hb_w2 hs_w2; unfold Hold
  have hc_w2 : ∀ b o, b < w1.heap.size → w2.cell? ⟨b, o, none⟩ = w1.cell? ⟨b, o, none⟩ := fun b o h => (hb_w2.cell (p := ⟨b, o, none⟩) h).trans (by go_simp)
  have hf_w2 : ∀ b o, b < w1.heap.size → w2.frozen? ⟨b, o, none⟩ = w1.frozen? ⟨b, o, none⟩ := fun b o h => (hb_w2.frozen (p := ⟨b, o, none⟩) h).trans (by go_simp)
  have hz : w2.heap.size = w1.heap.size + 1 := by simpa using hs_w2
  have hB : w2.cell? ⟨w1.heap.size, 47, none⟩ = some (.int .i64 (x1 % 1001)) := (cell_of_heap hg_w2 47).trans rfl
  have hS : w2.cell? ⟨w1.heap.size, 46, none⟩ = some (.int .i64 (1 + x0 % 1000)) := (cell_of_heap hg_w2 46).trans rfl
  clear hs_w2
  have HG2 := Lib.hid hg_w2
  clear hg_w2
  go_wp2_with fail
  generalize hW : (w2.alloc _).alloc _ = W0
  have hcW : ∀ b o, b < w1.heap.size + 1 → W0.cell? ⟨b, o, none⟩ = w2.cell? ⟨b, o, none⟩ := fun b o h => by subst hW; go_simp
  have hfW : ∀ b o, b < w1.heap.size + 1 → W0.frozen? ⟨b, o, none⟩ = w2.frozen? ⟨b, o, none⟩ := fun b o h => by subst hW; go_simp
  have HGW := Lib.hid (show W0.heap[w1.heap.size]? = _ from by subst hW; exact heap_prev _ _ (by simp; omega) (heap_prev _ _ (by omega) HG2.out))
  have HGB := Lib.hid (show W0.heap[w1.heap.size + 1]? = _ from by subst hW; exact heap_prev _ _ (by simp; omega) (heap_last _ _ (by omega)))
  have hsW : W0.heap.size = w1.heap.size + 3 := by subst hW; simp [hz]
  have hbW : Below w1.heap.size w1 W0 := by subst hW; exact (((ba (Below.refl _ _) _).trans hb_w2).alloc (by omega) _).alloc (by simp; omega) _
  have hp0 : W0.cell? ⟨w.heap.size + 1, 0, none⟩ = some (.bool v) := by rw [hcW _ _ (by omega), hc_w2 _ _ (by omega), hc_w1 _ _ (by simp)]; go_simp
  have hp1 : W0.cell? ⟨w.heap.size + 1, 1, none⟩ = some (.int .i64 s0) := by rw [hcW _ _ (by omega), hc_w2 _ _ (by omega), hc_w1 _ _ (by simp)]; go_simp
  have hp2 : W0.cell? ⟨w.heap.size + 1, 2, none⟩ = some (.int .i64 s1) := by rw [hcW _ _ (by omega), hc_w2 _ _ (by omega), hc_w1 _ _ (by simp)]; go_simp
  have hp3 : W0.cell? ⟨w.heap.size + 1, 3, none⟩ = some (.int .i64 s2) := by rw [hcW _ _ (by omega), hc_w2 _ _ (by omega), hc_w1 _ _ (by simp)]; go_simp
  have hp4 : W0.cell? ⟨w.heap.size + 1, 4, none⟩ = some (.int .i64 s3) := by rw [hcW _ _ (by omega), hc_w2 _ _ (by omega), hc_w1 _ _ (by simp)]; go_simp
  have hp5 : W0.cell? ⟨w.heap.size + 1, 5, none⟩ = some (.bool g) := by rw [hcW _ _ (by omega), hc_w2 _ _ (by omega), hc_w1 _ _ (by simp)]; go_simp
  have hB0 : W0.cell? ⟨w1.heap.size, 47, none⟩ = some (.int .i64 (x1 % 1001)) := by rw [hcW _ _ (by omega)]; exact hB
  have hS0 : W0.cell? ⟨w1.heap.size, 46, none⟩ = some (.int .i64 (1 + x0 % 1000)) := by rw [hcW _ _ (by omega)]; exact hS
  have hm : 1 ≤ x1 % 1001 + 1 ∧ x1 % 1001 + 1 ≤ 1001 := by omega
  have ht1 : w.heap.size + 1 < w1.heap.size := ht_1_w1
  go_loopw [12] (fun i wr => RestRel W0 (w1.heap.size + 1 + 1) v g (x1 % 1001 + 1) s0 s1 s2 s3 i wr) (fun i wr => (4 - intOf i).toNat)
  case atStart =>
    subst hW
    exact ⟨0, by omega, by omega, rfl, by first | (go_simp; done) | (go_simp; simp [hz]), by first | (go_simp; done) | (go_simp; simp [hz, calmS]), by first | (go_simp; done) | (go_simp; simp [hz, calmS]), by first | (go_simp; done) | (go_simp; simp [hz, calmS]), by first | (go_simp; done) | (go_simp; simp [hz, calmS]), by first | (go_simp; done) | (go_simp; simp [hz]), by intro o; first | (go_simp; done) | (go_simp; simp [hz]), rfl, Below.refl _ _⟩
  case round =>
    obtain ⟨k, hk0, hk, rfl, c0, c1, c2, c3, c4, c5, cf, cz, cb⟩ := hrel
    have hcb : ∀ b o, b < w1.heap.size + 1 + 1 → wr.cell? ⟨b, o, none⟩ = W0.cell? ⟨b, o, none⟩ := fun b o h => cb.cell (p := ⟨b, o, none⟩) h
    have hB1 : wr.cell? ⟨w1.heap.size, 47, none⟩ = some (.int .i64 (x1 % 1001)) := (hcb _ _ (by omega)).trans hB0
    have z1 : w.heap.size + 1 < wr.heap.size := by omega
    have z2 : w1.heap.size < wr.heap.size := by omega
    have z3 : w1.heap.size + 1 + 1 < wr.heap.size := by omega
    have hk' : k = 0 ∨ k = 1 ∨ k = 2 ∨ k = 3 ∨ k = 4 := by omega
    have q0 := (hcb _ _ (by omega)).trans hp0
    have q5 := (hcb _ _ (by omega)).trans hp5
    have q1 := (hcb _ _ (by omega)).trans hp1
    have q2 := (hcb _ _ (by omega)).trans hp2
    have q3 := (hcb _ _ (by omega)).trans hp3
    have q4 := (hcb _ _ (by omega)).trans hp4
    clear hcb hp0 hp1 hp2 hp3 hp4 hp5 hB0 hB hS hS0 hcW hfW hc_w2 hf_w2 hc_w1 hf_w1 hW
    rcases hk' with rfl | rfl | rfl | rfl | rfl
    · have C1 := Lib.hid c1; have C2 := Lib.hid c2; have C3 := Lib.hid c3; have C4 := Lib.hid c4
      simp [calmS] at c1 c2 c3 c4
      go_wp2
      go_region
      go_wp2
      exact ⟨⟨1, by omega, by omega, by simp, by first | (go_simp; done) | (go_simp; simp [calmS]; done) | simp [calmS], by first | (go_simp; done) | (go_simp; simp [calmS]; done) | simp [calmS], by first | (go_simp; done) | (go_simp; simp [calmS]; done) | simp [calmS], by first | (go_simp; done) | (go_simp; simp [calmS]; done) | simp [calmS], by first | (go_simp; done) | (go_simp; simp [calmS]; done) | simp [calmS], by first | (go_simp; done) | (go_simp; simp [calmS]; done) | simp [calmS], by intro o; first | (go_simp; done) | (go_simp; exact cf o), by simp [cz], bdrew (cb.setCell (p := ⟨_, _, none⟩) (Nat.le_refl _) _)⟩, by simp [intOf]⟩
    · have C1 := Lib.hid c1; have C2 := Lib.hid c2; have C3 := Lib.hid c3; have C4 := Lib.hid c4
      simp [calmS] at c1 c2 c3 c4
      go_wp2
      go_region
      go_wp2
      exact ⟨⟨2, by omega, by omega, by simp, by first | (go_simp; done) | (go_simp; simp [calmS]; done) | simp [calmS], by first | (go_simp; done) | (go_simp; simp [calmS]; done) | simp [calmS], by first | (go_simp; done) | (go_simp; simp [calmS]; done) | simp [calmS], by first | (go_simp; done) | (go_simp; simp [calmS]; done) | simp [calmS], by first | (go_simp; done) | (go_simp; simp [calmS]; done) | simp [calmS], by first | (go_simp; done) | (go_simp; simp [calmS]; done) | simp [calmS], by intro o; first | (go_simp; done) | (go_simp; exact cf o), by simp [cz], bdrew (cb.setCell (p := ⟨_, _, none⟩) (Nat.le_refl _) _)⟩, by simp [intOf]⟩
    · have C1 := Lib.hid c1; have C2 := Lib.hid c2; have C3 := Lib.hid c3; have C4 := Lib.hid c4
      simp [calmS] at c1 c2 c3 c4
      go_wp2
      go_region
      go_wp2
      exact ⟨⟨3, by omega, by omega, by simp, by first | (go_simp; done) | (go_simp; simp [calmS]; done) | simp [calmS], by first | (go_simp; done) | (go_simp; simp [calmS]; done) | simp [calmS], by first | (go_simp; done) | (go_simp; simp [calmS]; done) | simp [calmS], by first | (go_simp; done) | (go_simp; simp [calmS]; done) | simp [calmS], by first | (go_simp; done) | (go_simp; simp [calmS]; done) | simp [calmS], by first | (go_simp; done) | (go_simp; simp [calmS]; done) | simp [calmS], by intro o; first | (go_simp; done) | (go_simp; exact cf o), by simp [cz], bdrew (cb.setCell (p := ⟨_, _, none⟩) (Nat.le_refl _) _)⟩, by simp [intOf]⟩
    · have C1 := Lib.hid c1; have C2 := Lib.hid c2; have C3 := Lib.hid c3; have C4 := Lib.hid c4
      simp [calmS] at c1 c2 c3 c4
      go_wp2
      go_region
      go_wp2
      exact ⟨⟨4, by omega, by omega, by simp, by first | (go_simp; done) | (go_simp; simp [calmS]; done) | simp [calmS], by first | (go_simp; done) | (go_simp; simp [calmS]; done) | simp [calmS], by first | (go_simp; done) | (go_simp; simp [calmS]; done) | simp [calmS], by first | (go_simp; done) | (go_simp; simp [calmS]; done) | simp [calmS], by first | (go_simp; done) | (go_simp; simp [calmS]; done) | simp [calmS], by first | (go_simp; done) | (go_simp; simp [calmS]; done) | simp [calmS], by intro o; first | (go_simp; done) | (go_simp; exact cf o), by simp [cz], bdrew (cb.setCell (p := ⟨_, _, none⟩) (Nat.le_refl _) _)⟩, by simp [intOf]⟩
    · simp [calmS] at c1 c2 c3 c4
      have HGR := Lib.hid (Below_at cb (k := w1.heap.size) (by omega) HGW.out)
      have HGD := Lib.hid (Below_at cb (k := w1.heap.size + 1) (by omega) HGB.out)
      have hwr : IntKind.i64.wrap (-(x1 % 1001)) = -(x1 % 1001) := by rw [IntWalk.i64_in]; omega
      have hq := and_u16_3 n hn
      have HCB : Below w1.heap.size w1 wr := hbW.trans (cb.mono (by omega))
      have hj : n % 4 = 0 ∨ n % 4 = 1 ∨ n % 4 = 2 ∨ n % 4 = 3 := by omega
      have T0 := Lib.hid (tmod_bd s0 (x1 % 1001 + 1) (by omega)); have T1 := Lib.hid (tmod_bd s1 (x1 % 1001 + 1) (by omega)); have T2 := Lib.hid (tmod_bd s2 (x1 % 1001 + 1) (by omega)); have T3 := Lib.hid (tmod_bd s3 (x1 % 1001 + 1) (by omega))
      have HWR := Lib.hid hwr; clear hwr
      rcases hj with hj | hj | hj | hj
      · rw [hj] at hq
        clear hj
        go_wp2_with (first | refine wpList_load_own agg37 (g := w1.heap.size) (heap_prev _ _ (by omega) HGR.out) (by rfl) (by rfl) _ (by rfl) (by rfl) ?_ | refine wpList_load_own agg39 (g := w1.heap.size + 1) (heap_prev _ _ (by omega) HGD.out) (by rfl) (by rfl) _ (by rfl) (by rfl) ?_)
        refine (see_any _ (1 + x0 % 1000) (x1 % 1001) (-(x1 % 1001)) (n % 1001) _ _ _ _ _ _ _ (by rfl) (by rfl) (i64 (by omega)) (i64 (by omega)) (i64 (by omega)) HWR.out h0 h1 h2 h3).mono ?_; rintro e w5 ⟨rfl, hb_w5⟩
        rw [runS_no, overS_no]
        have HG5 := Lib.hid (Below_keep hb_w5 (heap_prev _ _ (by omega) HGR.out))
        obtain ⟨hc_w5, hf_w5, hz_w5⟩ := bcell hb_w5
        have ht_0_w5 : w1.heap.size < w5.heap.size := by have hz := hz_w5; (try simp at hz); omega
        have ht_1_w5 : w1.heap.size + 1 + 1 < w5.heap.size := by have hz := hz_w5; (try simp at hz); omega
        have ht_2_w5 : wr.heap.size < w5.heap.size := by have hz := hz_w5; (try simp at hz); omega
        clear hz_w5
        go_wp2_with (refine wpList_load_own agg37 (g := w1.heap.size) (HG5.out) (by rfl) (by rfl) _ (by rfl) (by rfl) ?_)
        refine (see_any _ (1 + x0 % 1000) (x1 % 1001) (-(x1 % 1001)) (n % 1001) _ _ _ _ _ _ _ (by rfl) (by rfl) (i64 (by omega)) (i64 (by omega)) (i64 (by omega)) HWR.out (by have := T0.out; unfold I64 at *; omega) (by have := T1.out; unfold I64 at *; omega) (by have := T2.out; unfold I64 at *; omega) (by have := T3.out; unfold I64 at *; omega)).mono ?_; rintro e w6 ⟨rfl, hb_w6⟩
        rw [calm_near _ _ _ _ _ (by omega), runS_near, overS_near]
        have HG6 := Lib.hid (Below_keep hb_w6 HG5.out)
        obtain ⟨hc_w6, hf_w6, hz_w6⟩ := bcell hb_w6
        have ht_0_w6 : w1.heap.size < w6.heap.size := by have hz := hz_w6; (try simp at hz); omega
        have ht_1_w6 : w1.heap.size + 1 + 1 < w6.heap.size := by have hz := hz_w6; (try simp at hz); omega
        have ht_2_w6 : wr.heap.size < w6.heap.size := by have hz := hz_w6; (try simp at hz); omega
        clear hz_w6
        have HF6 := Lib.hid (Below_keep hb_w6 (Below_keep hb_w5 (heap_last _ _ (show w1.heap.size + 3 = wr.heap.size by omega))))
        go_wp2_with (first | refine wpList_load_own agg37 (g := w1.heap.size) HG6.out (by rfl) (by rfl) _ (by rfl) (by rfl) ?_ | refine wpList_load_own agg39 (g := w1.heap.size + 3) HF6.out (by rfl) (by rfl) _ (by rfl) (by rfl) ?_)
        refine (see_any _ (1 + x0 % 1000) (x1 % 1001) (-(x1 % 1001)) (n % 1001) _ _ _ _ _ _ _ (by rfl) (by rfl) (i64 (by omega)) (i64 (by omega)) (i64 (by omega)) HWR.out (i64 (by omega)) h1 h2 h3).mono ?_; rintro e w7 ⟨rfl, hb_w7⟩
        rw [(far_is _ _ _ _).1, runS_far _ _ (by omega), overS_far _ _ (by omega)]
        have z7 : w1.heap.size < w7.heap.size := by have := hb_w7.size; omega
        have hS7 : w7.cell? ⟨w1.heap.size, 46, none⟩ = some (.int .i64 (1 + x0 % 1000)) := (cell_of_heap (Below_keep hb_w7 HG6.out) 46).trans rfl
        have b2 : Below w.heap.size w wr := bt (bt (ba (ba (Below.refl _ _) _) _) hb_w1) HCB
        have hend := bt (bt (bt (ba b2 _) hb_w5) hb_w6) hb_w7
        by_cases hlt : n % 1001 < 1 + x0 % 1000
        · rw [show satS (n % 1001) (1 + x0 % 1000) = n % 1001 + 1 from if_pos hlt]
          go_wp2_with fail
          go_ret
          exact ⟨rfl, hend⟩
        · rw [show satS (n % 1001) (1 + x0 % 1000) = 1 + x0 % 1000 from if_neg hlt]
          have hd : decide (1 + x0 % 1000 ≤ n % 1001 + 1) = true := by simp; omega
          go_wp2_with fail
          go_ret
          exact ⟨rfl, hend⟩
      · rw [hj] at hq
        clear hj
        go_wp2_with (first | refine wpList_load_own agg37 (g := w1.heap.size) (heap_prev _ _ (by omega) HGR.out) (by rfl) (by rfl) _ (by rfl) (by rfl) ?_ | refine wpList_load_own agg39 (g := w1.heap.size + 1) (heap_prev _ _ (by omega) HGD.out) (by rfl) (by rfl) _ (by rfl) (by rfl) ?_)
        refine (see_any _ (1 + x0 % 1000) (x1 % 1001) (-(x1 % 1001)) (n % 1001) _ _ _ _ _ _ _ (by rfl) (by rfl) (i64 (by omega)) (i64 (by omega)) (i64 (by omega)) HWR.out h0 h1 h2 h3).mono ?_; rintro e w5 ⟨rfl, hb_w5⟩
        rw [runS_no, overS_no]
        have HG5 := Lib.hid (Below_keep hb_w5 (heap_prev _ _ (by omega) HGR.out))
        obtain ⟨hc_w5, hf_w5, hz_w5⟩ := bcell hb_w5
        have ht_0_w5 : w1.heap.size < w5.heap.size := by have hz := hz_w5; (try simp at hz); omega
        have ht_1_w5 : w1.heap.size + 1 + 1 < w5.heap.size := by have hz := hz_w5; (try simp at hz); omega
        have ht_2_w5 : wr.heap.size < w5.heap.size := by have hz := hz_w5; (try simp at hz); omega
        clear hz_w5
        go_wp2_with (refine wpList_load_own agg37 (g := w1.heap.size) (HG5.out) (by rfl) (by rfl) _ (by rfl) (by rfl) ?_)
        refine (see_any _ (1 + x0 % 1000) (x1 % 1001) (-(x1 % 1001)) (n % 1001) _ _ _ _ _ _ _ (by rfl) (by rfl) (i64 (by omega)) (i64 (by omega)) (i64 (by omega)) HWR.out (by have := T0.out; unfold I64 at *; omega) (by have := T1.out; unfold I64 at *; omega) (by have := T2.out; unfold I64 at *; omega) (by have := T3.out; unfold I64 at *; omega)).mono ?_; rintro e w6 ⟨rfl, hb_w6⟩
        rw [calm_near _ _ _ _ _ (by omega), runS_near, overS_near]
        have HG6 := Lib.hid (Below_keep hb_w6 HG5.out)
        obtain ⟨hc_w6, hf_w6, hz_w6⟩ := bcell hb_w6
        have ht_0_w6 : w1.heap.size < w6.heap.size := by have hz := hz_w6; (try simp at hz); omega
        have ht_1_w6 : w1.heap.size + 1 + 1 < w6.heap.size := by have hz := hz_w6; (try simp at hz); omega
        have ht_2_w6 : wr.heap.size < w6.heap.size := by have hz := hz_w6; (try simp at hz); omega
        clear hz_w6
        have HF6 := Lib.hid (Below_keep hb_w6 (Below_keep hb_w5 (heap_last _ _ (show w1.heap.size + 3 = wr.heap.size by omega))))
        go_wp2_with (first | refine wpList_load_own agg37 (g := w1.heap.size) HG6.out (by rfl) (by rfl) _ (by rfl) (by rfl) ?_ | refine wpList_load_own agg39 (g := w1.heap.size + 3) HF6.out (by rfl) (by rfl) _ (by rfl) (by rfl) ?_)
        refine (see_any _ (1 + x0 % 1000) (x1 % 1001) (-(x1 % 1001)) (n % 1001) _ _ _ _ _ _ _ (by rfl) (by rfl) (i64 (by omega)) (i64 (by omega)) (i64 (by omega)) HWR.out h0 (i64 (by omega)) h2 h3).mono ?_; rintro e w7 ⟨rfl, hb_w7⟩
        rw [(far_is _ _ _ _).2.1, runS_far _ _ (by omega), overS_far _ _ (by omega)]
        have z7 : w1.heap.size < w7.heap.size := by have := hb_w7.size; omega
        have hS7 : w7.cell? ⟨w1.heap.size, 46, none⟩ = some (.int .i64 (1 + x0 % 1000)) := (cell_of_heap (Below_keep hb_w7 HG6.out) 46).trans rfl
        have b2 : Below w.heap.size w wr := bt (bt (ba (ba (Below.refl _ _) _) _) hb_w1) HCB
        have hend := bt (bt (bt (ba b2 _) hb_w5) hb_w6) hb_w7
        by_cases hlt : n % 1001 < 1 + x0 % 1000
        · rw [show satS (n % 1001) (1 + x0 % 1000) = n % 1001 + 1 from if_pos hlt]
          go_wp2_with fail
          go_ret
          exact ⟨rfl, hend⟩
        · rw [show satS (n % 1001) (1 + x0 % 1000) = 1 + x0 % 1000 from if_neg hlt]
          have hd : decide (1 + x0 % 1000 ≤ n % 1001 + 1) = true := by simp; omega
          go_wp2_with fail
          go_ret
          exact ⟨rfl, hend⟩
      · rw [hj] at hq
        clear hj
        go_wp2_with (first | refine wpList_load_own agg37 (g := w1.heap.size) (heap_prev _ _ (by omega) HGR.out) (by rfl) (by rfl) _ (by rfl) (by rfl) ?_ | refine wpList_load_own agg39 (g := w1.heap.size + 1) (heap_prev _ _ (by omega) HGD.out) (by rfl) (by rfl) _ (by rfl) (by rfl) ?_)
        refine (see_any _ (1 + x0 % 1000) (x1 % 1001) (-(x1 % 1001)) (n % 1001) _ _ _ _ _ _ _ (by rfl) (by rfl) (i64 (by omega)) (i64 (by omega)) (i64 (by omega)) HWR.out h0 h1 h2 h3).mono ?_; rintro e w5 ⟨rfl, hb_w5⟩
        rw [runS_no, overS_no]
        have HG5 := Lib.hid (Below_keep hb_w5 (heap_prev _ _ (by omega) HGR.out))
        obtain ⟨hc_w5, hf_w5, hz_w5⟩ := bcell hb_w5
        have ht_0_w5 : w1.heap.size < w5.heap.size := by have hz := hz_w5; (try simp at hz); omega
        have ht_1_w5 : w1.heap.size + 1 + 1 < w5.heap.size := by have hz := hz_w5; (try simp at hz); omega
        have ht_2_w5 : wr.heap.size < w5.heap.size := by have hz := hz_w5; (try simp at hz); omega
        clear hz_w5
        go_wp2_with (refine wpList_load_own agg37 (g := w1.heap.size) (HG5.out) (by rfl) (by rfl) _ (by rfl) (by rfl) ?_)
        refine (see_any _ (1 + x0 % 1000) (x1 % 1001) (-(x1 % 1001)) (n % 1001) _ _ _ _ _ _ _ (by rfl) (by rfl) (i64 (by omega)) (i64 (by omega)) (i64 (by omega)) HWR.out (by have := T0.out; unfold I64 at *; omega) (by have := T1.out; unfold I64 at *; omega) (by have := T2.out; unfold I64 at *; omega) (by have := T3.out; unfold I64 at *; omega)).mono ?_; rintro e w6 ⟨rfl, hb_w6⟩
        rw [calm_near _ _ _ _ _ (by omega), runS_near, overS_near]
        have HG6 := Lib.hid (Below_keep hb_w6 HG5.out)
        obtain ⟨hc_w6, hf_w6, hz_w6⟩ := bcell hb_w6
        have ht_0_w6 : w1.heap.size < w6.heap.size := by have hz := hz_w6; (try simp at hz); omega
        have ht_1_w6 : w1.heap.size + 1 + 1 < w6.heap.size := by have hz := hz_w6; (try simp at hz); omega
        have ht_2_w6 : wr.heap.size < w6.heap.size := by have hz := hz_w6; (try simp at hz); omega
        clear hz_w6
        have HF6 := Lib.hid (Below_keep hb_w6 (Below_keep hb_w5 (heap_last _ _ (show w1.heap.size + 3 = wr.heap.size by omega))))
        go_wp2_with (first | refine wpList_load_own agg37 (g := w1.heap.size) HG6.out (by rfl) (by rfl) _ (by rfl) (by rfl) ?_ | refine wpList_load_own agg39 (g := w1.heap.size + 3) HF6.out (by rfl) (by rfl) _ (by rfl) (by rfl) ?_)
        refine (see_any _ (1 + x0 % 1000) (x1 % 1001) (-(x1 % 1001)) (n % 1001) _ _ _ _ _ _ _ (by rfl) (by rfl) (i64 (by omega)) (i64 (by omega)) (i64 (by omega)) HWR.out h0 h1 (i64 (by omega)) h3).mono ?_; rintro e w7 ⟨rfl, hb_w7⟩
        rw [(far_is _ _ _ _).2.2.1, runS_far _ _ (by omega), overS_far _ _ (by omega)]
        have z7 : w1.heap.size < w7.heap.size := by have := hb_w7.size; omega
        have hS7 : w7.cell? ⟨w1.heap.size, 46, none⟩ = some (.int .i64 (1 + x0 % 1000)) := (cell_of_heap (Below_keep hb_w7 HG6.out) 46).trans rfl
        have b2 : Below w.heap.size w wr := bt (bt (ba (ba (Below.refl _ _) _) _) hb_w1) HCB
        have hend := bt (bt (bt (ba b2 _) hb_w5) hb_w6) hb_w7
        by_cases hlt : n % 1001 < 1 + x0 % 1000
        · rw [show satS (n % 1001) (1 + x0 % 1000) = n % 1001 + 1 from if_pos hlt]
          go_wp2_with fail
          go_ret
          exact ⟨rfl, hend⟩
        · rw [show satS (n % 1001) (1 + x0 % 1000) = 1 + x0 % 1000 from if_neg hlt]
          have hd : decide (1 + x0 % 1000 ≤ n % 1001 + 1) = true := by simp; omega
          go_wp2_with fail
          go_ret
          exact ⟨rfl, hend⟩
      · rw [hj] at hq
        clear hj
        go_wp2_with (first | refine wpList_load_own agg37 (g := w1.heap.size) (heap_prev _ _ (by omega) HGR.out) (by rfl) (by rfl) _ (by rfl) (by rfl) ?_ | refine wpList_load_own agg39 (g := w1.heap.size + 1) (heap_prev _ _ (by omega) HGD.out) (by rfl) (by rfl) _ (by rfl) (by rfl) ?_)
        refine (see_any _ (1 + x0 % 1000) (x1 % 1001) (-(x1 % 1001)) (n % 1001) _ _ _ _ _ _ _ (by rfl) (by rfl) (i64 (by omega)) (i64 (by omega)) (i64 (by omega)) HWR.out h0 h1 h2 h3).mono ?_; rintro e w5 ⟨rfl, hb_w5⟩
        rw [runS_no, overS_no]
        have HG5 := Lib.hid (Below_keep hb_w5 (heap_prev _ _ (by omega) HGR.out))
        obtain ⟨hc_w5, hf_w5, hz_w5⟩ := bcell hb_w5
        have ht_0_w5 : w1.heap.size < w5.heap.size := by have hz := hz_w5; (try simp at hz); omega
        have ht_1_w5 : w1.heap.size + 1 + 1 < w5.heap.size := by have hz := hz_w5; (try simp at hz); omega
        have ht_2_w5 : wr.heap.size < w5.heap.size := by have hz := hz_w5; (try simp at hz); omega
        clear hz_w5
        go_wp2_with (refine wpList_load_own agg37 (g := w1.heap.size) (HG5.out) (by rfl) (by rfl) _ (by rfl) (by rfl) ?_)
        refine (see_any _ (1 + x0 % 1000) (x1 % 1001) (-(x1 % 1001)) (n % 1001) _ _ _ _ _ _ _ (by rfl) (by rfl) (i64 (by omega)) (i64 (by omega)) (i64 (by omega)) HWR.out (by have := T0.out; unfold I64 at *; omega) (by have := T1.out; unfold I64 at *; omega) (by have := T2.out; unfold I64 at *; omega) (by have := T3.out; unfold I64 at *; omega)).mono ?_; rintro e w6 ⟨rfl, hb_w6⟩
        rw [calm_near _ _ _ _ _ (by omega), runS_near, overS_near]
        have HG6 := Lib.hid (Below_keep hb_w6 HG5.out)
        obtain ⟨hc_w6, hf_w6, hz_w6⟩ := bcell hb_w6
        have ht_0_w6 : w1.heap.size < w6.heap.size := by have hz := hz_w6; (try simp at hz); omega
        have ht_1_w6 : w1.heap.size + 1 + 1 < w6.heap.size := by have hz := hz_w6; (try simp at hz); omega
        have ht_2_w6 : wr.heap.size < w6.heap.size := by have hz := hz_w6; (try simp at hz); omega
        clear hz_w6
        have HF6 := Lib.hid (Below_keep hb_w6 (Below_keep hb_w5 (heap_last _ _ (show w1.heap.size + 3 = wr.heap.size by omega))))
        go_wp2_with (first | refine wpList_load_own agg37 (g := w1.heap.size) HG6.out (by rfl) (by rfl) _ (by rfl) (by rfl) ?_ | refine wpList_load_own agg39 (g := w1.heap.size + 3) HF6.out (by rfl) (by rfl) _ (by rfl) (by rfl) ?_)
        refine (see_any _ (1 + x0 % 1000) (x1 % 1001) (-(x1 % 1001)) (n % 1001) _ _ _ _ _ _ _ (by rfl) (by rfl) (i64 (by omega)) (i64 (by omega)) (i64 (by omega)) HWR.out h0 h1 h2 (i64 (by omega))).mono ?_; rintro e w7 ⟨rfl, hb_w7⟩
        rw [(far_is _ _ _ _).2.2.2, runS_far _ _ (by omega), overS_far _ _ (by omega)]
        have z7 : w1.heap.size < w7.heap.size := by have := hb_w7.size; omega
        have hS7 : w7.cell? ⟨w1.heap.size, 46, none⟩ = some (.int .i64 (1 + x0 % 1000)) := (cell_of_heap (Below_keep hb_w7 HG6.out) 46).trans rfl
        have b2 : Below w.heap.size w wr := bt (bt (ba (ba (Below.refl _ _) _) _) hb_w1) HCB
        have hend := bt (bt (bt (ba b2 _) hb_w5) hb_w6) hb_w7
        by_cases hlt : n % 1001 < 1 + x0 % 1000
        · rw [show satS (n % 1001) (1 + x0 % 1000) = n % 1001 + 1 from if_pos hlt]
          go_wp2_with fail
          go_ret
          exact ⟨rfl, hend⟩
        · rw [show satS (n % 1001) (1 + x0 % 1000) = 1 + x0 % 1000 from if_neg hlt]
          have hd : decide (1 + x0 % 1000 ≤ n % 1001 + 1) = true := by simp; omega
          go_wp2_with fail
          go_ret
          exact ⟨rfl, hend⟩
end Go.Proofs.Ytabnjfboigmleaa
