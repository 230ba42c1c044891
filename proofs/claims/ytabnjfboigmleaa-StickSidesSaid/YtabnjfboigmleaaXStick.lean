/- StickSides: whichever policy, run and sample, the law returns true. -/
import Derived.Test.YtabnjfboigmleaaRows
import Derived.Test.YtabnjfboigmleaaSE
import Derived.Test.YtabnjfboigmleaaSD
import Derived.Test.YtabnjfboigmleaaXBase
import Derived.Test.YtabnjfboigmleaaLawStick
namespace Go.Proofs.Ytabnjfboigmleaa
open Go Go.RowKit Go.BigFrame Sx
set_option linter.unusedVariables false

theorem bey_sym (nm m y0 y1 y2 y3 : Int) (hn : IntKind.i64.wrap (-m) = nm) (hm : -9223372036854775808 ≤ m ∧ m ≤ 9223372036854775807) (h0 : -9223372036854775808 < y0) (h1 : -9223372036854775808 < y1) (h2 : -9223372036854775808 < y2) (h3 : -9223372036854775808 < y3)
    (k0 : y0 ≤ 9223372036854775807) (k1 : y1 ≤ 9223372036854775807) (k2 : y2 ≤ 9223372036854775807) (k3 : y3 ≤ 9223372036854775807) : beyS nm m (0 - y3) (0 - y2) (0 - y1) (0 - y0) = beyS nm m y0 y1 y2 y3 := by
  have hw : nm = -m ∨ (m = -9223372036854775808 ∧ nm = m) := by
    rw [IntKind.wrap_i64] at hn; omega
  unfold beyS
  rw [Bool.eq_iff_iff]
  simp only [decide_eq_true_eq]
  rcases hw with hw | hw <;> omega

set_option maxRecDepth 100000 in
set_option maxHeartbeats 4000000 in
theorem stickSides_any (q : Nat → Int) (ka : Nat → Option Addr) (kn kc : Nat → Nat) (r x0 x1 x2 x3 : Int) (vd gv : Bool) (hx0 : -9223372036854775808 ≤ x0 ∧ x0 ≤ 9223372036854775807) (hx1 : -9223372036854775808 ≤ x1 ∧ x1 ≤ 9223372036854775807) (hx2 : -9223372036854775808 ≤ x2 ∧ x2 ≤ 9223372036854775807) (hx3 : -9223372036854775808 ≤ x3 ∧ x3 ≤ 9223372036854775807) (hr : -9223372036854775808 ≤ r ∧ r ≤ 9223372036854775807) (h46 : -9223372036854775808 ≤ q 46 ∧ q 46 ≤ 9223372036854775807) (h47 : -9223372036854775808 ≤ q 47 ∧ q 47 ≤ 9223372036854775807) (w : World) :
    Gives Try.prog 6 #[.agg (polC q ka kn kc), .int .i64 r, .agg #[.bool vd, .int .i64 x0, .int .i64 x1, .int .i64 x2, .int .i64 x3, .bool gv]] w fun v w1 => v = .bool true ∧ Ch [] w w1 := by
 have S0 := St.nil [] w
 refine enter_ Try.func6 rfl ?_
 refine seq_ (reg_ ?_)
 refine new_ S0 (fun b => .pointer (some ⟨b, 0, none⟩)) (.cells (polC q ka kn kc) 37) ?_
 intro zb1 zw2 zS3
 refine new_ zS3 (fun b => .pointer (some ⟨b, 0, none⟩)) (.cells #[.bool vd, .int .i64 x0, .int .i64 x1, .int .i64 x2, .int .i64 x3, .bool gv] 39) ?_
 intro zb4 zw5 zS6
 refine pure_ (.bool false) ?_
 refine nil_ (then_n (seq_ (reg_ ?_)))
 refine call_ 20 #[] ?_
 refine (gives_of (shown17 _) ).mono ?_; rintro _ zw7 ⟨rfl, zhc8⟩
 have zS9 := zS6.quiet zhc8
 refine pure_ (.bool true) ?_
 refine nil_ (then_n (seq_ (reg_ ?_)))
 refine loadN_ zS9 0 6 #[.bool vd, .int .i64 x0, .int .i64 x1, .int .i64 x2, .int .i64 x3, .bool gv] zb4 0 ?_
 refine new_ zS9 (fun b => .pointer (some ⟨b, 0, none⟩)) (.cells #[.bool false, .int .i64 0, .int .i64 0, .int .i64 0, .int .i64 0, .bool false] 39) ?_
 intro zb10 zw11 zS12
 refine store_ zS12 0 (.agg #[.bool vd, .int .i64 x0, .int .i64 x1, .int .i64 x2, .int .i64 x3, .bool gv]) zb10 0 ?_
 intro zw13 zS14
 refine nil_ (then_n (seq_ (reg_ ?_)))
 refine pure_ (.pointer (some ⟨zb4, 5, none⟩)) ?_
 refine load1_ zS14 1 (.bool gv) zb4 5 ?_
 refine pure_ (.bool (!gv)) ?_
 refine pure_ (.pointer (some ⟨zb10, 5, none⟩)) ?_
 refine store_ zS14 0 (.bool (!gv)) zb10 5 ?_
 intro zw15 zS16
 refine nil_ (then_n (seq_ (seq_ (reg_ ?_))))
 refine pure_ (.int .i64 0) ?_
 refine nil_ (then_n (wp_block (loop_ 24 (seq_ (seq_ (reg_ ?_))))))
 refine pure_ (.int .i64 0) ?_
 refine pure_ (.bool true) ?_
 refine nil_ (then_n (cond_T ?_))
 refine wp_skip (then_n (seq_ (wp_block (seq_ (reg_ ?_)))))
 refine pure_ (.int .i64 0) ?_
 refine pure_ (.int .i64 0) ?_
 refine pure_ (.pointer (some ⟨zb4, 1, none⟩)) ?_
 refine pure_ (.pointer (some ⟨zb4, 1, none⟩)) ?_
 refine load1_ zS16 1 (.int .i64 x0) zb4 1 ?_
 refine pure_ (.int .i64 (if x0 < (-9223372036854775807) then (-9223372036854775807) else x0)) ?_
 have zh17 : (x0 ≤ (if x0 < (-9223372036854775807) then (-9223372036854775807) else x0) ∧ (-9223372036854775807) ≤ (if x0 < (-9223372036854775807) then (-9223372036854775807) else x0)) ∧ ((if x0 < (-9223372036854775807) then (-9223372036854775807) else x0) = x0 ∨ (if x0 < (-9223372036854775807) then (-9223372036854775807) else x0) = (-9223372036854775807)) := by split <;> omega
 generalize (if x0 < (-9223372036854775807) then (-9223372036854775807) else x0) = zm18 at *
 refine pure_ (.pointer (some ⟨zb4, 1, none⟩)) ?_
 refine pure_ (.pointer (some ⟨zb4, 1, none⟩)) ?_
 refine store_ zS16 1 (.int .i64 zm18) zb4 1 ?_
 intro zw19 zS20
 refine nil_ (then_n (reg_ ?_))
 refine pure_ (.int .i64 0) ?_
 refine pure_ (.int .i64 3) ?_
 refine pure_ (.int .i64 0) ?_
 refine pure_ (.pointer (some ⟨zb4, 1, none⟩)) ?_
 refine pure_ (.pointer (some ⟨zb4, 1, none⟩)) ?_
 refine load1_ zS20 1 (.int .i64 zm18) zb4 1 ?_
 refine sum_ .i64 (0 - zm18) (IntWalk.i64_in _ (by omega)) ?_
 refine pure_ (.pointer (some ⟨zb10, 1, none⟩)) ?_
 refine pure_ (.pointer (some ⟨zb10, 4, none⟩)) ?_
 refine store_ zS20 0 (.int .i64 (0 - zm18)) zb10 4 ?_
 intro zw21 zS22
 refine nil_ (blk_n (then_n (reg_ ?_)))
 refine pure_ (.int .i64 0) ?_
 refine pure_ (.int .i64 1) ?_
 refine pure_ (.int .i64 1) ?_
 refine nil_ (again_ (seq_ (seq_ (reg_ ?_))))
 refine pure_ (.int .i64 1) ?_
 refine pure_ (.bool true) ?_
 refine nil_ (then_n (cond_T ?_))
 refine wp_skip (then_n (seq_ (wp_block (seq_ (reg_ ?_)))))
 refine pure_ (.int .i64 1) ?_
 refine pure_ (.int .i64 1) ?_
 refine pure_ (.pointer (some ⟨zb4, 1, none⟩)) ?_
 refine pure_ (.pointer (some ⟨zb4, 2, none⟩)) ?_
 refine load1_ zS22 1 (.int .i64 x1) zb4 2 ?_
 refine pure_ (.int .i64 (if x1 < (-9223372036854775807) then (-9223372036854775807) else x1)) ?_
 have zh23 : (x1 ≤ (if x1 < (-9223372036854775807) then (-9223372036854775807) else x1) ∧ (-9223372036854775807) ≤ (if x1 < (-9223372036854775807) then (-9223372036854775807) else x1)) ∧ ((if x1 < (-9223372036854775807) then (-9223372036854775807) else x1) = x1 ∨ (if x1 < (-9223372036854775807) then (-9223372036854775807) else x1) = (-9223372036854775807)) := by split <;> omega
 generalize (if x1 < (-9223372036854775807) then (-9223372036854775807) else x1) = zm24 at *
 refine pure_ (.pointer (some ⟨zb4, 1, none⟩)) ?_
 refine pure_ (.pointer (some ⟨zb4, 2, none⟩)) ?_
 refine store_ zS22 1 (.int .i64 zm24) zb4 2 ?_
 intro zw25 zS26
 refine nil_ (then_n (reg_ ?_))
 refine pure_ (.int .i64 1) ?_
 refine pure_ (.int .i64 2) ?_
 refine pure_ (.int .i64 1) ?_
 refine pure_ (.pointer (some ⟨zb4, 1, none⟩)) ?_
 refine pure_ (.pointer (some ⟨zb4, 2, none⟩)) ?_
 refine load1_ zS26 1 (.int .i64 zm24) zb4 2 ?_
 refine sum_ .i64 (0 - zm24) (IntWalk.i64_in _ (by omega)) ?_
 refine pure_ (.pointer (some ⟨zb10, 1, none⟩)) ?_
 refine pure_ (.pointer (some ⟨zb10, 3, none⟩)) ?_
 refine store_ zS26 0 (.int .i64 (0 - zm24)) zb10 3 ?_
 intro zw27 zS28
 refine nil_ (blk_n (then_n (reg_ ?_)))
 refine pure_ (.int .i64 1) ?_
 refine pure_ (.int .i64 2) ?_
 refine pure_ (.int .i64 2) ?_
 refine nil_ (again_ (seq_ (seq_ (reg_ ?_))))
 refine pure_ (.int .i64 2) ?_
 refine pure_ (.bool true) ?_
 refine nil_ (then_n (cond_T ?_))
 refine wp_skip (then_n (seq_ (wp_block (seq_ (reg_ ?_)))))
 refine pure_ (.int .i64 2) ?_
 refine pure_ (.int .i64 2) ?_
 refine pure_ (.pointer (some ⟨zb4, 1, none⟩)) ?_
 refine pure_ (.pointer (some ⟨zb4, 3, none⟩)) ?_
 refine load1_ zS28 1 (.int .i64 x2) zb4 3 ?_
 refine pure_ (.int .i64 (if x2 < (-9223372036854775807) then (-9223372036854775807) else x2)) ?_
 have zh29 : (x2 ≤ (if x2 < (-9223372036854775807) then (-9223372036854775807) else x2) ∧ (-9223372036854775807) ≤ (if x2 < (-9223372036854775807) then (-9223372036854775807) else x2)) ∧ ((if x2 < (-9223372036854775807) then (-9223372036854775807) else x2) = x2 ∨ (if x2 < (-9223372036854775807) then (-9223372036854775807) else x2) = (-9223372036854775807)) := by split <;> omega
 generalize (if x2 < (-9223372036854775807) then (-9223372036854775807) else x2) = zm30 at *
 refine pure_ (.pointer (some ⟨zb4, 1, none⟩)) ?_
 refine pure_ (.pointer (some ⟨zb4, 3, none⟩)) ?_
 refine store_ zS28 1 (.int .i64 zm30) zb4 3 ?_
 intro zw31 zS32
 refine nil_ (then_n (reg_ ?_))
 refine pure_ (.int .i64 2) ?_
 refine pure_ (.int .i64 1) ?_
 refine pure_ (.int .i64 2) ?_
 refine pure_ (.pointer (some ⟨zb4, 1, none⟩)) ?_
 refine pure_ (.pointer (some ⟨zb4, 3, none⟩)) ?_
 refine load1_ zS32 1 (.int .i64 zm30) zb4 3 ?_
 refine sum_ .i64 (0 - zm30) (IntWalk.i64_in _ (by omega)) ?_
 refine pure_ (.pointer (some ⟨zb10, 1, none⟩)) ?_
 refine pure_ (.pointer (some ⟨zb10, 2, none⟩)) ?_
 refine store_ zS32 0 (.int .i64 (0 - zm30)) zb10 2 ?_
 intro zw33 zS34
 refine nil_ (blk_n (then_n (reg_ ?_)))
 refine pure_ (.int .i64 2) ?_
 refine pure_ (.int .i64 3) ?_
 refine pure_ (.int .i64 3) ?_
 refine nil_ (again_ (seq_ (seq_ (reg_ ?_))))
 refine pure_ (.int .i64 3) ?_
 refine pure_ (.bool true) ?_
 refine nil_ (then_n (cond_T ?_))
 refine wp_skip (then_n (seq_ (wp_block (seq_ (reg_ ?_)))))
 refine pure_ (.int .i64 3) ?_
 refine pure_ (.int .i64 3) ?_
 refine pure_ (.pointer (some ⟨zb4, 1, none⟩)) ?_
 refine pure_ (.pointer (some ⟨zb4, 4, none⟩)) ?_
 refine load1_ zS34 1 (.int .i64 x3) zb4 4 ?_
 refine pure_ (.int .i64 (if x3 < (-9223372036854775807) then (-9223372036854775807) else x3)) ?_
 have zh35 : (x3 ≤ (if x3 < (-9223372036854775807) then (-9223372036854775807) else x3) ∧ (-9223372036854775807) ≤ (if x3 < (-9223372036854775807) then (-9223372036854775807) else x3)) ∧ ((if x3 < (-9223372036854775807) then (-9223372036854775807) else x3) = x3 ∨ (if x3 < (-9223372036854775807) then (-9223372036854775807) else x3) = (-9223372036854775807)) := by split <;> omega
 generalize (if x3 < (-9223372036854775807) then (-9223372036854775807) else x3) = zm36 at *
 refine pure_ (.pointer (some ⟨zb4, 1, none⟩)) ?_
 refine pure_ (.pointer (some ⟨zb4, 4, none⟩)) ?_
 refine store_ zS34 1 (.int .i64 zm36) zb4 4 ?_
 intro zw37 zS38
 refine nil_ (then_n (reg_ ?_))
 refine pure_ (.int .i64 3) ?_
 refine pure_ (.int .i64 0) ?_
 refine pure_ (.int .i64 3) ?_
 refine pure_ (.pointer (some ⟨zb4, 1, none⟩)) ?_
 refine pure_ (.pointer (some ⟨zb4, 4, none⟩)) ?_
 refine load1_ zS38 1 (.int .i64 zm36) zb4 4 ?_
 refine sum_ .i64 (0 - zm36) (IntWalk.i64_in _ (by omega)) ?_
 refine pure_ (.pointer (some ⟨zb10, 1, none⟩)) ?_
 refine pure_ (.pointer (some ⟨zb10, 1, none⟩)) ?_
 refine store_ zS38 0 (.int .i64 (0 - zm36)) zb10 1 ?_
 intro zw39 zS40
 refine nil_ (blk_n (then_n (reg_ ?_)))
 refine pure_ (.int .i64 3) ?_
 refine pure_ (.int .i64 4) ?_
 refine pure_ (.int .i64 4) ?_
 refine nil_ (again_ (seq_ (seq_ (reg_ ?_))))
 refine pure_ (.int .i64 4) ?_
 refine pure_ (.bool false) ?_
 refine nil_ (then_n (cond_F ?_))
 refine wp_exit (then_e (then_e (blk_e (then_n (seq_ (reg_ ?_))))))
 refine loadN_ zS40 2 56 (polC q ka kn kc) zb1 0 ?_
 refine pure_ (.int .i64 r) ?_
 refine loadN_ zS40 1 6 #[.bool vd, .int .i64 zm18, .int .i64 zm24, .int .i64 zm30, .int .i64 zm36, .bool gv] zb4 0 ?_
 refine call_ 21 #[.agg (polC q ka kn kc), .int .i64 r, .agg #[.bool vd, .int .i64 zm18, .int .i64 zm24, .int .i64 zm30, .int .i64 zm36, .bool gv]] ?_
 refine (gives_of (see_any (polC q ka kn kc) (q 46) (q 47) (IntKind.i64.wrap (-(q 47))) r zm18 zm24 zm30 zm36 vd gv _ rfl rfl (Sd.i64 (by omega)) (Sd.i64 (by omega)) (Sd.i64 (by omega)) rfl (Sd.i64 (by omega)) (Sd.i64 (by omega)) (Sd.i64 (by omega)) (Sd.i64 (by omega)))).mono ?_; rintro _ zw41 ⟨rfl, zhc42⟩
 have zS43 := zS40.quiet zhc42
 refine move_ ?_
 refine pure_ (.int .i64 (runS vd (beyS (IntKind.i64.wrap (-(q 47))) (q 47) zm18 zm24 zm30 zm36) r (q 46))) ?_
 refine pure_ (.bool (overS vd (beyS (IntKind.i64.wrap (-(q 47))) (q 47) zm18 zm24 zm30 zm36) r (q 46))) ?_
 refine assign_ ?_
 refine assign_ ?_
 refine nil_ (then_n (seq_ (reg_ ?_)))
 refine loadN_ zS43 2 56 (polC q ka kn kc) zb1 0 ?_
 refine pure_ (.int .i64 r) ?_
 refine loadN_ zS43 0 6 #[.bool vd, .int .i64 (0 - zm36), .int .i64 (0 - zm30), .int .i64 (0 - zm24), .int .i64 (0 - zm18), .bool (!gv)] zb10 0 ?_
 refine call_ 21 #[.agg (polC q ka kn kc), .int .i64 r, .agg #[.bool vd, .int .i64 (0 - zm36), .int .i64 (0 - zm30), .int .i64 (0 - zm24), .int .i64 (0 - zm18), .bool (!gv)]] ?_
 refine (gives_of (see_any (polC q ka kn kc) (q 46) (q 47) (IntKind.i64.wrap (-(q 47))) r (0 - zm36) (0 - zm30) (0 - zm24) (0 - zm18) vd (!gv) _ rfl rfl (Sd.i64 (by omega)) (Sd.i64 (by omega)) (Sd.i64 (by omega)) rfl (Sd.i64 (by omega)) (Sd.i64 (by omega)) (Sd.i64 (by omega)) (Sd.i64 (by omega)))).mono ?_; rintro _ zw44 ⟨rfl, zhc45⟩
 have zS46 := zS43.quiet zhc45
 rw [bey_sym (IntKind.i64.wrap (-(q 47))) (q 47) zm18 zm24 zm30 zm36 rfl (by omega) (by omega) (by omega) (by omega) (by omega) (by omega) (by omega) (by omega) (by omega)]
 refine move_ ?_
 refine pure_ (.int .i64 (runS vd (beyS (IntKind.i64.wrap (-(q 47))) (q 47) zm18 zm24 zm30 zm36) r (q 46))) ?_
 refine pure_ (.bool (overS vd (beyS (IntKind.i64.wrap (-(q 47))) (q 47) zm18 zm24 zm30 zm36) r (q 46))) ?_
 refine assign_ ?_
 refine assign_ ?_
 refine nil_ (then_n (seq_ (reg_ ?_)))
 refine pure_ (.bool true) ?_
 refine pure_ (.bool true) ?_
 refine move_ ?_
 refine move_ ?_
 refine pureE_ (.bool ((runS vd (beyS (IntKind.i64.wrap (-(q 47))) (q 47) zm18 zm24 zm30 zm36) r (q 46)) == (runS vd (beyS (IntKind.i64.wrap (-(q 47))) (q 47) zm18 zm24 zm30 zm36) r (q 46)))) (.bool true) (congrArg Value.bool (eqT (by omega))) ?_
 refine pure_ (.bool true) ?_
 refine pure_ (.bool true) ?_
 refine move_ ?_
 refine move_ ?_
 refine pure_ (.bool ((overS vd (beyS (IntKind.i64.wrap (-(q 47))) (q 47) zm18 zm24 zm30 zm36) r (q 46)) == (overS vd (beyS (IntKind.i64.wrap (-(q 47))) (q 47) zm18 zm24 zm30 zm36) r (q 46)))) ?_
 refine pure_ (.bool ((overS vd (beyS (IntKind.i64.wrap (-(q 47))) (q 47) zm18 zm24 zm30 zm36) r (q 46)) == (overS vd (beyS (IntKind.i64.wrap (-(q 47))) (q 47) zm18 zm24 zm30 zm36) r (q 46)))) ?_
 refine assign_ ?_
 refine nil_ (then_n (wp_ret ?_))
 refine ret_ rfl (res_ [.tmp 6] [.bool ((overS vd (beyS (IntKind.i64.wrap (-(q 47))) (q 47) zm18 zm24 zm30 zm36) r (q 46)) == (overS vd (beyS (IntKind.i64.wrap (-(q 47))) (q 47) zm18 zm24 zm30 zm36) r (q 46)))] (.bool ((overS vd (beyS (IntKind.i64.wrap (-(q 47))) (q 47) zm18 zm24 zm30 zm36) r (q 46)) == (overS vd (beyS (IntKind.i64.wrap (-(q 47))) (q 47) zm18 zm24 zm30 zm36) r (q 46)))) ⟨res_tmp, trivial⟩) ?_
 exact ⟨congrArg Value.bool (eqRefl), zS46.ch⟩

end Go.Proofs.Ytabnjfboigmleaa
