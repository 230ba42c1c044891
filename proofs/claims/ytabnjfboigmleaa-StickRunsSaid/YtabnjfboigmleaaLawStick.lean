/- The walks of StickRests, StickSides, StickRuns. No condition. -/
import Derived.Test.YtabnjfboigmleaaStick
import Derived.Test.YtabnjfboigmleaaReg2
namespace Go.Proofs.Ytabnjfboigmleaa
open Go.RowKit Go.BigFrame Sd
set_option linter.unusedVariables false

theorem agg37 : AggT Try.prog 37 56 := ⟨⟨_, Try.underlying37, rfl⟩, by kernel_rfl⟩

set_option maxHeartbeats 1000000 in
theorem shown17 (w : World) : Calls Try.prog 20 #[] w fun e w' => e = .returned (.bool true) ∧ Below w.heap.size w w' := by
  have a1 : runS true (beyS (-100) 100 0 101 0 0) 0 2 = 1 := by decide
  have a2 : overS true (beyS (-100) 100 0 101 0 0) 0 2 = false := by decide
  have b1 : runS true (beyS (-100) 100 0 101 0 0) 1 2 = 2 := by decide
  have b2 : overS true (beyS (-100) 100 0 101 0 0) 1 2 = true := by decide
  have c1 : runS true (beyS (-100) 100 100 0 0 0) 2 2 = 0 := by decide
  have c2 : overS true (beyS (-100) 100 100 0 0 0) 2 2 = false := by decide
  have d1 : runS true (beyS (-100) 100 (-101) 0 0 0) 0 2 = 1 := by decide
  have d2 : overS true (beyS (-100) 100 (-101) 0 0 0) 0 2 = false := by decide
  have A1 := Lib.hid a1; have A2 := Lib.hid a2; have B1 := Lib.hid b1; have B2 := Lib.hid b2; have C1 := Lib.hid c1; have C2 := Lib.hid c2; have D1 := Lib.hid d1; have D2 := Lib.hid d2
  clear a1 a2 b1 b2 c1 c2 d1 d2
  go_enter Try.func20, Try.ntmps20
  go_wp2_with (refine wpList_store_hold agg37 (w.heap.size) (heap_last _ _ rfl) (by rfl) (by rfl) _ _ (by rfl) _ (by rfl) (by rfl) (by rfl) (by simp [Value.oneCell']) ?_)
  intro w0 hg_w0 hb_w0 hs_w0; unfold Hold
  go_wp2_with (refine wpList_load_own agg37 (g := w.heap.size) (hg_w0) (by rfl) (by rfl) _ (by rfl) (by rfl) ?_)
  refine (see_any _ 2 100 (-100) _ _ _ _ _ _ _ _ rfl rfl (i64 (by omega)) (i64 (by omega)) (i64 (by omega)) (by decide) (i64 (by omega)) (i64 (by omega)) (i64 (by omega)) (i64 (by omega))).mono ?_; rintro e w1 ⟨rfl, hb_w1⟩
  rw [A1.out, A2.out]
  have hg_w1 := Below_keep hb_w1 hg_w0
  go_wp2_with (refine wpList_load_own agg37 (g := w.heap.size) (hg_w1) (by rfl) (by rfl) _ (by rfl) (by rfl) ?_)
  refine (see_any _ 2 100 (-100) _ _ _ _ _ _ _ _ rfl rfl (i64 (by omega)) (i64 (by omega)) (i64 (by omega)) (by decide) (i64 (by omega)) (i64 (by omega)) (i64 (by omega)) (i64 (by omega))).mono ?_; rintro e w2 ⟨rfl, hb_w2⟩
  rw [B1.out, B2.out]
  have hg_w2 := Below_keep hb_w2 hg_w1
  go_wp2_with (refine wpList_load_own agg37 (g := w.heap.size) (hg_w2) (by rfl) (by rfl) _ (by rfl) (by rfl) ?_)
  refine (see_any _ 2 100 (-100) _ _ _ _ _ _ _ _ rfl rfl (i64 (by omega)) (i64 (by omega)) (i64 (by omega)) (by decide) (i64 (by omega)) (i64 (by omega)) (i64 (by omega)) (i64 (by omega))).mono ?_; rintro e w3 ⟨rfl, hb_w3⟩
  rw [C1.out, C2.out]
  have hg_w3 := Below_keep hb_w3 hg_w2
  go_wp2_with (refine wpList_load_own agg37 (g := w.heap.size) (hg_w3) (by rfl) (by rfl) _ (by rfl) (by rfl) ?_)
  refine (see_any _ 2 100 (-100) _ _ _ _ _ _ _ _ rfl rfl (i64 (by omega)) (i64 (by omega)) (i64 (by omega)) (by decide) (i64 (by omega)) (i64 (by omega)) (i64 (by omega)) (i64 (by omega))).mono ?_; rintro e w4 ⟨rfl, hb_w4⟩
  rw [D1.out, D2.out]
  have hg_w4 := Below_keep hb_w4 hg_w3
  go_wp2_with fail
  go_ret
  refine ⟨rfl, ?_⟩
  clear hg_w0 hg_w1 hg_w2 hg_w3 hg_w4
  have hz : Below w.heap.size w w0 := (ba (Below.refl _ _) _).trans hb_w0
  exact bt (bt (bt (bt hz hb_w1) hb_w2) hb_w3) hb_w4
end Go.Proofs.Ytabnjfboigmleaa
