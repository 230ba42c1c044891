/- StickRuns: whichever number, bound and samples, the law returns true. -/
import Derived.Test.YtabnjfboigmleaaRows
import Derived.Test.YtabnjfboigmleaaSE
import Derived.Test.YtabnjfboigmleaaSD
import Derived.Test.YtabnjfboigmleaaSL
import Derived.Test.YtabnjfboigmleaaXBase
import Derived.Test.YtabnjfboigmleaaLawStick
namespace Go.Proofs.Ytabnjfboigmleaa
open Go Go.RowKit Go.BigFrame Sx
set_option linter.unusedVariables false
set_option linter.unusedSimpArgs false

theorem far_eq (m x0 x1 x2 x3 : Int) (hm : 0 ≤ m ∧ m ≤ 1000) :
    ((((((((decide (m < x0)) || (decide (x0 < (0 - m)))) || (decide (m < x1))) || (decide (x1 < (0 - m)))) || (decide (m < x2))) || (decide (x2 < (0 - m)))) || (decide (m < x3))) || (decide (x3 < (0 - m)))) = beyS (IntKind.i64.wrap (-m)) m x0 x1 x2 x3 := by
  have hw : IntKind.i64.wrap (-m) = -m := by rw [IntKind.wrap_i64]; omega
  rw [hw]
  unfold beyS
  rw [Bool.eq_iff_iff]
  simp only [Bool.or_eq_true, decide_eq_true_eq]
  omega
theorem runs_key (m x0 x1 x2 x3 : Int) (v : Bool) (rn rw n : Int) (hm : 0 ≤ m ∧ m ≤ 1000) (hn : 1 ≤ n ∧ n ≤ 16 ∧ 0 ≤ rw) (hi : rn = rw ∧ rw ≤ n ∨ rn = n ∧ n ≤ rw) :
    overS v (beyS (IntKind.i64.wrap (-m)) m x0 x1 x2 x3) rn n = decide (n ≤ (bif ((!((((((((decide (m < x0)) || (decide (x0 < (0 - m)))) || (decide (m < x1))) || (decide (x1 < (0 - m)))) || (decide (m < x2))) || (decide (x2 < (0 - m)))) || (decide (m < x3))) || (decide (x3 < (0 - m))))) || (!v)) then (0 : Int) else (rw + 1))) ∧
    (0 ≤ (bif ((!((((((((decide (m < x0)) || (decide (x0 < (0 - m)))) || (decide (m < x1))) || (decide (x1 < (0 - m)))) || (decide (m < x2))) || (decide (x2 < (0 - m)))) || (decide (m < x3))) || (decide (x3 < (0 - m))))) || (!v)) then (0 : Int) else (rw + 1)) ∧ (bif ((!((((((((decide (m < x0)) || (decide (x0 < (0 - m)))) || (decide (m < x1))) || (decide (x1 < (0 - m)))) || (decide (m < x2))) || (decide (x2 < (0 - m)))) || (decide (m < x3))) || (decide (x3 < (0 - m))))) || (!v)) then (0 : Int) else (rw + 1)) ≤ rw + 1) ∧
    (runS v (beyS (IntKind.i64.wrap (-m)) m x0 x1 x2 x3) rn n = (bif ((!((((((((decide (m < x0)) || (decide (x0 < (0 - m)))) || (decide (m < x1))) || (decide (x1 < (0 - m)))) || (decide (m < x2))) || (decide (x2 < (0 - m)))) || (decide (m < x3))) || (decide (x3 < (0 - m))))) || (!v)) then (0 : Int) else (rw + 1)) ∧ (bif ((!((((((((decide (m < x0)) || (decide (x0 < (0 - m)))) || (decide (m < x1))) || (decide (x1 < (0 - m)))) || (decide (m < x2))) || (decide (x2 < (0 - m)))) || (decide (m < x3))) || (decide (x3 < (0 - m))))) || (!v)) then (0 : Int) else (rw + 1)) ≤ n ∨
     runS v (beyS (IntKind.i64.wrap (-m)) m x0 x1 x2 x3) rn n = n ∧ n ≤ (bif ((!((((((((decide (m < x0)) || (decide (x0 < (0 - m)))) || (decide (m < x1))) || (decide (x1 < (0 - m)))) || (decide (m < x2))) || (decide (x2 < (0 - m)))) || (decide (m < x3))) || (decide (x3 < (0 - m))))) || (!v)) then (0 : Int) else (rw + 1))) := by
  rw [far_eq m x0 x1 x2 x3 hm]
  generalize beyS (IntKind.i64.wrap (-m)) m x0 x1 x2 x3 = F
  have hx : maxS rn = rn := by unfold maxS; split <;> omega
  have hs : satS rn n = rn + 1 ∧ rn < n ∨ satS rn n = n ∧ n ≤ rn := by unfold satS; split <;> omega
  unfold overS runS
  rw [hx]
  generalize satS rn n = s at hs ⊢
  cases v <;> cases F <;> simp <;> omega

set_option maxRecDepth 100000 in
set_option maxHeartbeats 4000000 in
theorem stickRuns_row (bn by_ : Int) (b o n c : Nat) (vd gv : Nat → Bool) (xs : Nat → Nat → Int) (h0 : 0 ≤ bn ∧ bn ≤ 255) (h1 : 0 ≤ by_ ∧ by_ ≤ 65535) (hx : ∀ k j, -9223372036854775808 ≤ xs k j ∧ xs k j ≤ 9223372036854775807) (w : World) (hl : ∀ k, k < n → ∀ j v, (#[.bool (vd k), .int .i64 (xs k 0), .int .i64 (xs k 1), .int .i64 (xs k 2), .int .i64 (xs k 3), .bool (gv k)] : Array Value)[j]? = some v → w.cell? ⟨b, o + k * 6 + j, none⟩ = some v) :
    Gives Try.prog 5 #[.int .u8 bn, .int .u16 by_, .slice (some ⟨b, o, none⟩) n c] w fun v w1 => v = .bool true ∧ Ch [] w w1 := by
 have S0 := St.nil [] w
 refine enter_ Try.func5 rfl ?_
 refine seq_ (reg_ ?_)
 refine pure_ (.bool false) ?_
 refine nil_ (then_n (seq_ (reg_ ?_)))
 refine call_ 20 #[] ?_
 refine (gives_of (shown17 _) ).mono ?_; rintro _ zw1 ⟨rfl, zhc2⟩
 have zS3 := S0.quiet zhc2
 refine pure_ (.bool true) ?_
 refine nil_ (then_n (seq_ (reg_ ?_)))
 refine pure_ (.int .u8 bn) ?_
 refine sum_ .i64 bn (IntWalk.i64_in _ (by omega)) ?_
 refine pureE_ (.int .i64 (Int.tmod bn 16)) (.int .i64 (bn % 16)) (congrArg _ (IntWalk.rem_in _ _ (by omega))) ?_
 refine sum_ .i64 (1 + (bn % 16)) (IntWalk.i64_in _ (by omega)) ?_
 refine pure_ (.int .u16 by_) ?_
 refine sum_ .i64 by_ (IntWalk.i64_in _ (by omega)) ?_
 refine pureE_ (.int .i64 (Int.tmod by_ 1001)) (.int .i64 (by_ % 1001)) (congrArg _ (IntWalk.rem_in _ _ (by omega))) ?_
 refine pure_ (.agg #[.int .i64 0, .int .i64 0, .int .i64 0, .int .i64 0, .int .i64 0, .slice none 0 0, .slice none 0 0, .slice none 0 0, .slice none 0 0, .int .i64 0, .int .i64 0, .int .i64 0, .int .i64 0, .int .i64 0, .int .i64 0, .int .i64 0, .int .i64 0, .int .i64 0, .int .i64 0, .int .i64 0, .int .i64 0, .int .i64 0, .int .i64 0, .int .i64 0, .int .i64 0, .int .i64 0, .int .i64 0, .int .i64 0, .int .i64 0, .int .i64 0, .int .i64 0, .int .i64 0, .int .i64 0, .int .i64 0, .int .i64 0, .int .i64 0, .int .i64 0, .int .i64 0, .int .i64 0, .int .i64 0, .int .i64 0, .int .i64 0, .int .i64 0, .int .i64 0, .int .i64 0, .int .i64 0, .int .i64 (1 + (bn % 16)), .int .i64 (by_ % 1001), .int .i64 0, .int .i64 0, .int .i64 0, .int .i64 0, .int .i64 0, .int .i64 0, .int .i64 0, .int .i64 0]) ?_
 refine new_ zS3 (fun b => .pointer (some ⟨b, 0, none⟩)) (.cells #[.int .i64 0, .int .i64 0, .int .i64 0, .int .i64 0, .int .i64 0, .slice none 0 0, .slice none 0 0, .slice none 0 0, .slice none 0 0, .int .i64 0, .int .i64 0, .int .i64 0, .int .i64 0, .int .i64 0, .int .i64 0, .int .i64 0, .int .i64 0, .int .i64 0, .int .i64 0, .int .i64 0, .int .i64 0, .int .i64 0, .int .i64 0, .int .i64 0, .int .i64 0, .int .i64 0, .int .i64 0, .int .i64 0, .int .i64 0, .int .i64 0, .int .i64 0, .int .i64 0, .int .i64 0, .int .i64 0, .int .i64 0, .int .i64 0, .int .i64 0, .int .i64 0, .int .i64 0, .int .i64 0, .int .i64 0, .int .i64 0, .int .i64 0, .int .i64 0, .int .i64 0, .int .i64 0, .int .i64 0, .int .i64 0, .int .i64 0, .int .i64 0, .int .i64 0, .int .i64 0, .int .i64 0, .int .i64 0, .int .i64 0, .int .i64 0] 37) ?_
 intro zb4 zw5 zS6
 refine store_ zS6 0 (.agg #[.int .i64 0, .int .i64 0, .int .i64 0, .int .i64 0, .int .i64 0, .slice none 0 0, .slice none 0 0, .slice none 0 0, .slice none 0 0, .int .i64 0, .int .i64 0, .int .i64 0, .int .i64 0, .int .i64 0, .int .i64 0, .int .i64 0, .int .i64 0, .int .i64 0, .int .i64 0, .int .i64 0, .int .i64 0, .int .i64 0, .int .i64 0, .int .i64 0, .int .i64 0, .int .i64 0, .int .i64 0, .int .i64 0, .int .i64 0, .int .i64 0, .int .i64 0, .int .i64 0, .int .i64 0, .int .i64 0, .int .i64 0, .int .i64 0, .int .i64 0, .int .i64 0, .int .i64 0, .int .i64 0, .int .i64 0, .int .i64 0, .int .i64 0, .int .i64 0, .int .i64 0, .int .i64 0, .int .i64 (1 + (bn % 16)), .int .i64 (by_ % 1001), .int .i64 0, .int .i64 0, .int .i64 0, .int .i64 0, .int .i64 0, .int .i64 0, .int .i64 0, .int .i64 0]) zb4 0 ?_
 intro zw7 zS8
 refine nil_ (then_n (seq_ (reg_ ?_)))
 refine pure_ (.int .i64 0) ?_
 refine nil_ (then_n (seq_ (reg_ ?_)))
 refine pure_ (.int .i64 0) ?_
 refine nil_ (then_n (seq_ (seq_ (reg_ ?_))))
 refine pure_ (.int .i64 0) ?_
 refine nil_ (then_n (wp_block ?_))
 refine loopI_ (fun zn za zw => ∃ (rn : Int) (rw : Int) (i : Int) (zj9 : Nat → Value), (zn = (60 - i).toNat ∧ 0 ≤ i ∧ i ≤ 60 ∧ 0 ≤ rw ∧ rw ≤ i ∧ 0 ≤ rn ∧ rn ≤ 16 ∧ (rn = rw ∧ rw ≤ 1 + bn % 16 ∨ rn = 1 + bn % 16 ∧ 1 + bn % 16 ≤ rw)) ∧ za = ⟨#[.int .u8 bn, .int .u16 by_, .slice (some ⟨b, o, none⟩) n c, undef, undef, undef, (zj9 0), .bool true, .pointer (some ⟨zb4, 0, none⟩), .int .i64 rn, .int .i64 rw, .int .i64 i, (zj9 1), (zj9 2), (zj9 3), (zj9 4), .bool true, .int .u8 bn, .int .i64 bn, .int .i64 (bn % 16), .int .i64 (1 + (bn % 16)), .int .u16 by_, .int .i64 by_, .int .i64 (by_ % 1001), .agg #[.int .i64 0, .int .i64 0, .int .i64 0, .int .i64 0, .int .i64 0, .slice none 0 0, .slice none 0 0, .slice none 0 0, .slice none 0 0, .int .i64 0, .int .i64 0, .int .i64 0, .int .i64 0, .int .i64 0, .int .i64 0, .int .i64 0, .int .i64 0, .int .i64 0, .int .i64 0, .int .i64 0, .int .i64 0, .int .i64 0, .int .i64 0, .int .i64 0, .int .i64 0, .int .i64 0, .int .i64 0, .int .i64 0, .int .i64 0, .int .i64 0, .int .i64 0, .int .i64 0, .int .i64 0, .int .i64 0, .int .i64 0, .int .i64 0, .int .i64 0, .int .i64 0, .int .i64 0, .int .i64 0, .int .i64 0, .int .i64 0, .int .i64 0, .int .i64 0, .int .i64 0, .int .i64 0, .int .i64 (1 + (bn % 16)), .int .i64 (by_ % 1001), .int .i64 0, .int .i64 0, .int .i64 0, .int .i64 0, .int .i64 0, .int .i64 0, .int .i64 0, .int .i64 0], (zj9 5), (zj9 6), (zj9 7), (zj9 8), (zj9 9), (zj9 10), (zj9 11), (zj9 12), (zj9 13), (zj9 14), (zj9 15), (zj9 16), (zj9 17), (zj9 18), (zj9 19), (zj9 20), (zj9 21), (zj9 22), (zj9 23), (zj9 24), (zj9 25), (zj9 26), (zj9 27), (zj9 28), (zj9 29), (zj9 30), (zj9 31), (zj9 32), (zj9 33), (zj9 34), (zj9 35), (zj9 36), (zj9 37), (zj9 38), (zj9 39), (zj9 40), (zj9 41), (zj9 42), (zj9 43), (zj9 44), (zj9 45), (zj9 46), (zj9 47), (zj9 48), (zj9 49), (zj9 50), (zj9 51), (zj9 52), (zj9 53), (zj9 54), (zj9 55), (zj9 56), (zj9 57), (zj9 58), (zj9 59), (zj9 60), (zj9 61), (zj9 62), (zj9 63), (zj9 64), (zj9 65), (zj9 66), (zj9 67), (zj9 68), (zj9 69), (zj9 70), (zj9 71), (zj9 72), (zj9 73), (zj9 74), (zj9 75), (zj9 76), (zj9 77), (zj9 78), (zj9 79), (zj9 80), (zj9 81), undef], []⟩ ∧ St [] w [⟨zb4, true, .cells #[.int .i64 0, .int .i64 0, .int .i64 0, .int .i64 0, .int .i64 0, .slice none 0 0, .slice none 0 0, .slice none 0 0, .slice none 0 0, .int .i64 0, .int .i64 0, .int .i64 0, .int .i64 0, .int .i64 0, .int .i64 0, .int .i64 0, .int .i64 0, .int .i64 0, .int .i64 0, .int .i64 0, .int .i64 0, .int .i64 0, .int .i64 0, .int .i64 0, .int .i64 0, .int .i64 0, .int .i64 0, .int .i64 0, .int .i64 0, .int .i64 0, .int .i64 0, .int .i64 0, .int .i64 0, .int .i64 0, .int .i64 0, .int .i64 0, .int .i64 0, .int .i64 0, .int .i64 0, .int .i64 0, .int .i64 0, .int .i64 0, .int .i64 0, .int .i64 0, .int .i64 0, .int .i64 0, .int .i64 (1 + (bn % 16)), .int .i64 (by_ % 1001), .int .i64 0, .int .i64 0, .int .i64 0, .int .i64 0, .int .i64 0, .int .i64 0, .int .i64 0, .int .i64 0] 37 (0, 0)⟩] zw) _ ⟨(0 : Int), (0 : Int), (0 : Int), (fun k => [.bool false, undef, undef, undef, undef, undef, undef, undef, undef, undef, undef, undef, undef, undef, undef, undef, undef, undef, undef, undef, undef, undef, undef, undef, undef, undef, undef, undef, undef, undef, undef, undef, undef, undef, undef, undef, undef, undef, undef, undef, undef, undef, undef, undef, undef, undef, undef, undef, undef, undef, undef, undef, undef, undef, undef, undef, undef, undef, undef, undef, undef, undef, undef, undef, undef, undef, undef, undef, undef, undef, undef, undef, undef, undef, undef, undef, undef, undef, undef, undef, undef, undef].getD k undef), ⟨rfl, by omega, by omega, by omega, by omega, by omega, by omega, by omega⟩, by kernel_rfl, zS8.conv (by kernel_rfl)⟩ ?_
 rintro _ _ zw10 ⟨rn, rw, i, zj9, ⟨rfl, zf12, zf13, zf14, zf15, zf16, zf17, zf18⟩, rfl, zS11⟩
 refine seq_ (seq_ ?_)
 refine textL_ 8 [⟨0, fun _ => .int .i64 i, fun _ => []⟩, ⟨0, fun _ => .slice (some ⟨b, o, none⟩) n c, fun _ => []⟩, ⟨0, fun _ => .int .i64 ((n : Nat) : Int), fun _ => []⟩, ⟨0, fun _ => .bool (decide (i < ((n : Nat) : Int))), fun _ => []⟩, ⟨0, fun _ => .bool (decide (i < ((n : Nat) : Int))), fun _ => []⟩, ⟨0, fun _ => (bif (decide (i < ((n : Nat) : Int))) then (.int .i64 i) else undef), fun _ => []⟩, ⟨0, fun _ => (bif (decide (i < ((n : Nat) : Int))) then (.bool (decide (i < 60))) else undef), fun _ => []⟩, ⟨0, fun _ => .bool ((decide (i < ((n : Nat) : Int))) && (decide (i < 60))), fun _ => []⟩] [] ?_ ?_
 · refine step_cons ?_ ?_
   · intro zy19 zw20 zhc21 zhf22 zhp23
     have zh24 : zy19 11 = .int .i64 i := (zhf22 11 (by kernel_rfl)).trans (by kernel_rfl)
     have zS25 := zS11.quiet zhc21
     refine step1 ?_
     refine yenv [(11, .int .i64 i)] (ag_cons zh24 (ag_nil)) ?_
     have zS26 := zS25.loc
     refine Y.pure_ (.int .i64 i) ?_
     exact ⟨zS26.ch, Sp.mk_holds [] (all_nil)⟩
   refine step_cons ?_ ?_
   · intro zy27 zw28 zhc29 zhf30 zhp31
     have zh32 : zy27 2 = .slice (some ⟨b, o, none⟩) n c := (zhf30 2 (by kernel_rfl)).trans (by kernel_rfl)
     have zS33 := zS11.quiet zhc29
     refine step1 ?_
     refine yenv [(2, .slice (some ⟨b, o, none⟩) n c)] (ag_cons zh32 (ag_nil)) ?_
     have zS34 := zS33.loc
     refine Y.move_ ?_
     exact ⟨zS34.ch, Sp.mk_holds [] (all_nil)⟩
   refine step_cons ?_ ?_
   · intro zy35 zw36 zhc37 zhf38 zhp39
     have zh40 : zy35 26 = .slice (some ⟨b, o, none⟩) n c := (Sp.out0 (zhp39 1 26 (by kernel_rfl) (by kernel_rfl))).1
     have zS41 := zS11.quiet zhc37
     refine step1 ?_
     refine yenv [(26, .slice (some ⟨b, o, none⟩) n c)] (ag_cons zh40 (ag_nil)) ?_
     have zS42 := zS41.loc
     refine Y.pure_ (.int .i64 ((n : Nat) : Int)) ?_
     exact ⟨zS42.ch, Sp.mk_holds [] (all_nil)⟩
   refine step_cons ?_ ?_
   · intro zy43 zw44 zhc45 zhf46 zhp47
     have zh48 : zy43 25 = .int .i64 i := (Sp.out0 (zhp47 0 25 (by kernel_rfl) (by kernel_rfl))).1
     have zh49 : zy43 27 = .int .i64 ((n : Nat) : Int) := (Sp.out0 (zhp47 2 27 (by kernel_rfl) (by kernel_rfl))).1
     have zS50 := zS11.quiet zhc45
     refine step1 ?_
     refine yenv [(25, .int .i64 i), (27, .int .i64 ((n : Nat) : Int))] (ag_cons zh48 (ag_cons zh49 (ag_nil))) ?_
     have zS51 := zS50.loc
     refine Y.pure_ (.bool (decide (i < ((n : Nat) : Int)))) ?_
     exact ⟨zS51.ch, Sp.mk_holds [] (all_nil)⟩
   refine step_cons ?_ ?_
   · intro zy52 zw53 zhc54 zhf55 zhp56
     have zh57 : zy52 28 = .bool (decide (i < ((n : Nat) : Int))) := (Sp.out0 (zhp56 3 28 (by kernel_rfl) (by kernel_rfl))).1
     have zS58 := zS11.quiet zhc54
     refine step1 ?_
     refine yenv [(28, .bool (decide (i < ((n : Nat) : Int))))] (ag_cons zh57 (ag_nil)) ?_
     have zS59 := zS58.loc
     refine Y.move_ ?_
     exact ⟨zS59.ch, Sp.mk_holds [] (all_nil)⟩
   refine step_cons ?_ ?_
   · intro zy60 zw61 zhc62 zhf63 zhp64
     have zh65 : zy60 11 = .int .i64 i := (zhf63 11 (by kernel_rfl)).trans (by kernel_rfl)
     have zh66 : zy60 29 = .bool (decide (i < ((n : Nat) : Int))) := (Sp.out0 (zhp64 4 29 (by kernel_rfl) (by kernel_rfl))).1
     have zS67 := zS11.quiet zhc62
     refine step_if (decide (i < ((n : Nat) : Int))) zh66 ?_ ?_
     · intro zh68
       have zh69 := ltT' zh68
       refine yenv [(11, .int .i64 i)] (ag_cons zh65 (ag_nil)) ?_
       have zS70 := zS67.loc
       refine Y.pure_ (.int .i64 i) ?_
       exact ⟨zS70.ch, Sp.mk_holds [] all_nil (h2 := (bif_t zh68).symm)⟩
     intro zh68
     exact Sp.mk_holds [] all_nil (h2 := (bif_f zh68).symm)
   refine step_cons ?_ ?_
   · intro zy71 zw72 zhc73 zhf74 zhp75
     have zh76 : zy71 30 = (bif (decide (i < ((n : Nat) : Int))) then (.int .i64 i) else undef) := (Sp.out0 (zhp75 5 30 (by kernel_rfl) (by kernel_rfl))).1
     have zh77 : zy71 29 = .bool (decide (i < ((n : Nat) : Int))) := (Sp.out0 (zhp75 4 29 (by kernel_rfl) (by kernel_rfl))).1
     have zS78 := zS11.quiet zhc73
     refine step_if (decide (i < ((n : Nat) : Int))) zh77 ?_ ?_
     · intro zh79
       have zh80 := ltT' zh79
       have zh81 : zy71 30 = .int .i64 i := zh76.trans (bif_t zh79)
       refine yenv [(30, .int .i64 i)] (ag_cons zh81 (ag_nil)) ?_
       have zS82 := zS78.loc
       refine Y.pure_ (.bool (decide (i < 60))) ?_
       exact ⟨zS82.ch, Sp.mk_holds [] all_nil (h2 := (bif_t zh79).symm)⟩
     intro zh79
     exact Sp.mk_holds [] all_nil (h2 := (bif_f zh79).symm)
   refine step_cons ?_ ?_
   · intro zy83 zw84 zhc85 zhf86 zhp87
     have zh88 : zy83 29 = .bool (decide (i < ((n : Nat) : Int))) := (Sp.out0 (zhp87 4 29 (by kernel_rfl) (by kernel_rfl))).1
     have zh89 : zy83 31 = (bif (decide (i < ((n : Nat) : Int))) then (.bool (decide (i < 60))) else undef) := (Sp.out0 (zhp87 6 31 (by kernel_rfl) (by kernel_rfl))).1
     have zS90 := zS11.quiet zhc85
     refine step1 ?_
     refine yenv [(29, .bool (decide (i < ((n : Nat) : Int)))), (31, (bif (decide (i < ((n : Nat) : Int))) then (.bool (decide (i < 60))) else undef))] (ag_cons zh88 (ag_cons zh89 (ag_nil))) ?_
     have zS91 := zS90.loc
     refine Y.pickB_ (decide (i < ((n : Nat) : Int))) ((decide (i < ((n : Nat) : Int))) && (decide (i < 60))) ((bif (decide (i < ((n : Nat) : Int))) then (.bool (decide (i < 60))) else undef)) (.bool false) (fun h => (bif_t h).trans (by rw [h]; rfl)) (fun h => (by rw [h]; rfl)) ?_
     exact ⟨zS91.ch, Sp.mk_holds [] (all_nil)⟩
   exact step_nil
 intro zv92 zw93 zhc94 zha95
 have zh96 : zv92 0 = .int .i64 i := (Sp.out0 (zha95 0 (by kernel_rfl))).1
 have zh97 : zv92 1 = .slice (some ⟨b, o, none⟩) n c := (Sp.out0 (zha95 1 (by kernel_rfl))).1
 have zh98 : zv92 2 = .int .i64 ((n : Nat) : Int) := (Sp.out0 (zha95 2 (by kernel_rfl))).1
 have zh99 : zv92 3 = .bool (decide (i < ((n : Nat) : Int))) := (Sp.out0 (zha95 3 (by kernel_rfl))).1
 have zh100 : zv92 4 = .bool (decide (i < ((n : Nat) : Int))) := (Sp.out0 (zha95 4 (by kernel_rfl))).1
 have zh101 : zv92 5 = (bif (decide (i < ((n : Nat) : Int))) then (.int .i64 i) else undef) := (Sp.out0 (zha95 5 (by kernel_rfl))).1
 have zh102 : zv92 6 = (bif (decide (i < ((n : Nat) : Int))) then (.bool (decide (i < 60))) else undef) := (Sp.out0 (zha95 6 (by kernel_rfl))).1
 have zh103 : zv92 7 = .bool ((decide (i < ((n : Nat) : Int))) && (decide (i < 60))) := (Sp.out0 (zha95 7 (by kernel_rfl))).1
 have zS104 := zS11.quiet zhc94
 refine ⟨[.int .i64 i, .slice (some ⟨b, o, none⟩) n c, .int .i64 ((n : Nat) : Int), .bool (decide (i < ((n : Nat) : Int))), .bool (decide (i < ((n : Nat) : Int))), (bif (decide (i < ((n : Nat) : Int))) then (.int .i64 i) else undef), (bif (decide (i < ((n : Nat) : Int))) then (.bool (decide (i < 60))) else undef), .bool ((decide (i < ((n : Nat) : Int))) && (decide (i < 60)))], by kernel_rfl, va_cons zh96 (va_cons zh97 (va_cons zh98 (va_cons zh99 (va_cons zh100 (va_cons zh101 (va_cons zh102 (va_cons zh103 (va_nil)))))))), ?_⟩
 refine nil_ (then_n ?_)
 refine cond_S ((decide (i < ((n : Nat) : Int))) && (decide (i < 60))) ?_ ?_
 · intro zh105
   have zh106 := andL zh105
   have zh107 := andR zh105
   have zh108 := ltT' zh106
   have zh109 := ltT' zh107
   refine wp_skip (then_n (seq_ (wp_block (seq_ (reg_ ?_)))))
   refine pure_ (.bool false) ?_
   refine nil_ (then_n (seq_ (seq_ (reg_ ?_))))
   refine pure_ (.int .i64 0) ?_
   refine nil_ (then_n (wp_block (loop_ 24 (seq_ (seq_ (reg_ ?_))))))
   refine pure_ (.int .i64 0) ?_
   refine pure_ (.bool true) ?_
   refine nil_ (then_n (cond_T ?_))
   refine wp_skip (then_n (seq_ (wp_block ?_)))
   refine drawnL_ 27 [⟨0, fun _ => .bool false, fun _ => []⟩, ⟨0, fun _ => .bool false, fun _ => []⟩, ⟨0, fun _ => .slice (some ⟨b, o, none⟩) n c, fun _ => []⟩, ⟨0, fun _ => .int .i64 i, fun _ => []⟩, ⟨0, fun _ => .int .i64 0, fun _ => []⟩, ⟨0, fun _ => .pointer (some ⟨b, (o + (i).toNat * 6), none⟩), fun _ => []⟩, ⟨0, fun _ => .pointer (some ⟨b, (o + (i).toNat * 6 + 1), none⟩), fun _ => []⟩, ⟨0, fun _ => .pointer (some ⟨b, (o + (i).toNat * 6 + 1), none⟩), fun _ => []⟩, ⟨0, fun _ => .int .i64 (xs (i).toNat 0), fun _ => []⟩, ⟨0, fun _ => .pointer (some ⟨zb4, 47, none⟩), fun _ => []⟩, ⟨0, fun _ => .int .i64 (by_ % 1001), fun _ => []⟩, ⟨0, fun _ => .bool (decide ((by_ % 1001) < (xs (i).toNat 0))), fun _ => []⟩, ⟨0, fun _ => .bool (decide ((by_ % 1001) < (xs (i).toNat 0))), fun _ => []⟩, ⟨0, fun _ => .bool (decide ((by_ % 1001) < (xs (i).toNat 0))), fun _ => []⟩, ⟨0, fun _ => (bif (decide ((by_ % 1001) < (xs (i).toNat 0))) then undef else (.slice (some ⟨b, o, none⟩) n c)), fun _ => []⟩, ⟨0, fun _ => (bif (decide ((by_ % 1001) < (xs (i).toNat 0))) then undef else (.int .i64 i)), fun _ => []⟩, ⟨0, fun _ => (bif (decide ((by_ % 1001) < (xs (i).toNat 0))) then undef else (.int .i64 0)), fun _ => []⟩, ⟨0, fun _ => (bif (decide ((by_ % 1001) < (xs (i).toNat 0))) then undef else (.pointer (some ⟨b, (o + (i).toNat * 6), none⟩))), fun _ => []⟩, ⟨0, fun _ => (bif (decide ((by_ % 1001) < (xs (i).toNat 0))) then undef else (.pointer (some ⟨b, (o + (i).toNat * 6 + 1), none⟩))), fun _ => []⟩, ⟨0, fun _ => (bif (decide ((by_ % 1001) < (xs (i).toNat 0))) then undef else (.pointer (some ⟨b, (o + (i).toNat * 6 + 1), none⟩))), fun _ => []⟩, ⟨0, fun _ => (bif (decide ((by_ % 1001) < (xs (i).toNat 0))) then undef else (.int .i64 (xs (i).toNat 0))), fun _ => []⟩, ⟨0, fun _ => (bif (decide ((by_ % 1001) < (xs (i).toNat 0))) then undef else (.pointer (some ⟨zb4, 47, none⟩))), fun _ => []⟩, ⟨0, fun _ => (bif (decide ((by_ % 1001) < (xs (i).toNat 0))) then undef else (.int .i64 (by_ % 1001))), fun _ => []⟩, ⟨0, fun _ => (bif (decide ((by_ % 1001) < (xs (i).toNat 0))) then undef else (.int .i64 (0 - (by_ % 1001)))), fun _ => []⟩, ⟨0, fun _ => (bif (decide ((by_ % 1001) < (xs (i).toNat 0))) then undef else (.bool (decide ((xs (i).toNat 0) < (0 - (by_ % 1001)))))), fun _ => []⟩, ⟨0, fun _ => .bool ((decide ((by_ % 1001) < (xs (i).toNat 0))) || (decide ((xs (i).toNat 0) < (0 - (by_ % 1001))))), fun _ => []⟩, ⟨0, fun _ => .bool ((decide ((by_ % 1001) < (xs (i).toNat 0))) || (decide ((xs (i).toNat 0) < (0 - (by_ % 1001))))), fun _ => []⟩] [] ?_ ?_
   · refine step_cons ?_ ?_
     · intro zy110 zw111 zhc112 zhf113 zhp114
       have zh115 : zy110 12 = .bool false := (zhf113 12 (by kernel_rfl)).trans (by kernel_rfl)
       have zS116 := zS104.quiet zhc112
       refine step1 ?_
       refine yenv [(12, .bool false)] (ag_cons zh115 (ag_nil)) ?_
       have zS117 := zS116.loc
       refine Y.pure_ (.bool false) ?_
       exact ⟨zS117.ch, Sp.mk_holds [] (all_nil)⟩
     refine step_cons ?_ ?_
     · intro zy118 zw119 zhc120 zhf121 zhp122
       have zh123 : zy118 39 = .bool false := (Sp.out0 (zhp122 0 39 (by kernel_rfl) (by kernel_rfl))).1
       have zS124 := zS104.quiet zhc120
       refine step1 ?_
       refine yenv [(39, .bool false)] (ag_cons zh123 (ag_nil)) ?_
       have zS125 := zS124.loc
       refine Y.pure_ (.bool false) ?_
       exact ⟨zS125.ch, Sp.mk_holds [] (all_nil)⟩
     refine step_cons ?_ ?_
     · intro zy126 zw127 zhc128 zhf129 zhp130
       have zh131 : zy126 2 = .slice (some ⟨b, o, none⟩) n c := (zhf129 2 (by kernel_rfl)).trans (by kernel_rfl)
       have zh132 : zy126 40 = .bool false := (Sp.out0 (zhp130 1 40 (by kernel_rfl) (by kernel_rfl))).1
       have zS133 := zS104.quiet zhc128
       refine step_yes (wY_t zh132) ?_
       refine yenv [(2, .slice (some ⟨b, o, none⟩) n c)] (ag_cons zh131 (ag_nil)) ?_
       have zS134 := zS133.loc
       refine Y.move_ ?_
       exact ⟨zS134.ch, Sp.mk_holds [] (all_nil)⟩
     refine step_cons ?_ ?_
     · intro zy135 zw136 zhc137 zhf138 zhp139
       have zh140 : zy135 11 = .int .i64 i := (zhf138 11 (by kernel_rfl)).trans (by kernel_rfl)
       have zh141 : zy135 40 = .bool false := (Sp.out0 (zhp139 1 40 (by kernel_rfl) (by kernel_rfl))).1
       have zS142 := zS104.quiet zhc137
       refine step_yes (wY_t zh141) ?_
       refine yenv [(11, .int .i64 i)] (ag_cons zh140 (ag_nil)) ?_
       have zS143 := zS142.loc
       refine Y.pure_ (.int .i64 i) ?_
       exact ⟨zS143.ch, Sp.mk_holds [] (all_nil)⟩
     refine step_cons ?_ ?_
     · intro zy144 zw145 zhc146 zhf147 zhp148
       have zh149 : zy144 13 = .int .i64 0 := (zhf147 13 (by kernel_rfl)).trans (by kernel_rfl)
       have zh150 : zy144 40 = .bool false := (Sp.out0 (zhp148 1 40 (by kernel_rfl) (by kernel_rfl))).1
       have zS151 := zS104.quiet zhc146
       refine step_yes (wY_t zh150) ?_
       refine yenv [(13, .int .i64 0)] (ag_cons zh149 (ag_nil)) ?_
       have zS152 := zS151.loc
       refine Y.pure_ (.int .i64 0) ?_
       exact ⟨zS152.ch, Sp.mk_holds [] (all_nil)⟩
     refine step_cons ?_ ?_
     · intro zy153 zw154 zhc155 zhf156 zhp157
       have zh158 : zy153 41 = .slice (some ⟨b, o, none⟩) n c := (Sp.out0 (zhp157 2 41 (by kernel_rfl) (by kernel_rfl))).1
       have zh159 : zy153 42 = .int .i64 i := (Sp.out0 (zhp157 3 42 (by kernel_rfl) (by kernel_rfl))).1
       have zh160 : zy153 40 = .bool false := (Sp.out0 (zhp157 1 40 (by kernel_rfl) (by kernel_rfl))).1
       have zS161 := zS104.quiet zhc155
       refine step_yes (wY_t zh160) ?_
       refine yenv [(41, .slice (some ⟨b, o, none⟩) n c), (42, .int .i64 i)] (ag_cons zh158 (ag_cons zh159 (ag_nil))) ?_
       have zS162 := zS161.loc
       refine Y.idxS_ (e := 39) b o (i).toNat n 6 c .i64 i (by omega) (by omega) rfl ?_
       exact ⟨zS162.ch, Sp.mk_holds [] (all_nil)⟩
     refine step_cons ?_ ?_
     · intro zy163 zw164 zhc165 zhf166 zhp167
       have zh168 : zy163 44 = .pointer (some ⟨b, (o + (i).toNat * 6), none⟩) := (Sp.out0 (zhp167 5 44 (by kernel_rfl) (by kernel_rfl))).1
       have zh169 : zy163 40 = .bool false := (Sp.out0 (zhp167 1 40 (by kernel_rfl) (by kernel_rfl))).1
       have zS170 := zS104.quiet zhc165
       refine step_yes (wY_t zh169) ?_
       refine yenv [(44, .pointer (some ⟨b, (o + (i).toNat * 6), none⟩))] (ag_cons zh168 (ag_nil)) ?_
       have zS171 := zS170.loc
       refine Y.pure_ (.pointer (some ⟨b, (o + (i).toNat * 6 + 1), none⟩)) ?_
       exact ⟨zS171.ch, Sp.mk_holds [] (all_nil)⟩
     refine step_cons ?_ ?_
     · intro zy172 zw173 zhc174 zhf175 zhp176
       have zh177 : zy172 45 = .pointer (some ⟨b, (o + (i).toNat * 6 + 1), none⟩) := (Sp.out0 (zhp176 6 45 (by kernel_rfl) (by kernel_rfl))).1
       have zh178 : zy172 43 = .int .i64 0 := (Sp.out0 (zhp176 4 43 (by kernel_rfl) (by kernel_rfl))).1
       have zh179 : zy172 40 = .bool false := (Sp.out0 (zhp176 1 40 (by kernel_rfl) (by kernel_rfl))).1
       have zS180 := zS104.quiet zhc174
       refine step_yes (wY_t zh179) ?_
       refine yenv [(45, .pointer (some ⟨b, (o + (i).toNat * 6 + 1), none⟩)), (43, .int .i64 0)] (ag_cons zh177 (ag_cons zh178 (ag_nil))) ?_
       have zS181 := zS180.loc
       refine Y.pure_ (.pointer (some ⟨b, (o + (i).toNat * 6 + 1), none⟩)) ?_
       exact ⟨zS181.ch, Sp.mk_holds [] (all_nil)⟩
     refine step_cons ?_ ?_
     · intro zy182 zw183 zhc184 zhf185 zhp186
       have zh187 : zy182 46 = .pointer (some ⟨b, (o + (i).toNat * 6 + 1), none⟩) := (Sp.out0 (zhp186 7 46 (by kernel_rfl) (by kernel_rfl))).1
       have zh188 : zy182 40 = .bool false := (Sp.out0 (zhp186 1 40 (by kernel_rfl) (by kernel_rfl))).1
       have zS189 := zS104.quiet zhc184
       refine step_yes (wY_t zh188) ?_
       refine yenv [(46, .pointer (some ⟨b, (o + (i).toNat * 6 + 1), none⟩))] (ag_cons zh187 (ag_nil)) ?_
       have zS190 := zS189.loc
       have zh191 := hx ((i).toNat) 0
       have zh192 := hx ((i).toNat) 1
       have zh193 := hx ((i).toNat) 2
       have zh194 := hx ((i).toNat) 3
       refine Y.loadO1_ zS189 (.int .i64 (xs (i).toNat 0)) b (o + (i).toNat * 6 + 1) ((hl (i).toNat (by omega)) 1 _ rfl) (by simp) ?_
       exact ⟨zS190.ch, Sp.mk_holds [] (all_nil)⟩
     refine step_cons ?_ ?_
     · intro zy195 zw196 zhc197 zhf198 zhp199
       have zh200 : zy195 8 = .pointer (some ⟨zb4, 0, none⟩) := (zhf198 8 (by kernel_rfl)).trans (by kernel_rfl)
       have zh201 : zy195 40 = .bool false := (Sp.out0 (zhp199 1 40 (by kernel_rfl) (by kernel_rfl))).1
       have zS202 := zS104.quiet zhc197
       refine step_yes (wY_t zh201) ?_
       refine yenv [(8, .pointer (some ⟨zb4, 0, none⟩))] (ag_cons zh200 (ag_nil)) ?_
       have zS203 := zS202.loc
       refine Y.pure_ (.pointer (some ⟨zb4, 47, none⟩)) ?_
       exact ⟨zS203.ch, Sp.mk_holds [] (all_nil)⟩
     refine step_cons ?_ ?_
     · intro zy204 zw205 zhc206 zhf207 zhp208
       have zh209 : zy204 48 = .pointer (some ⟨zb4, 47, none⟩) := (Sp.out0 (zhp208 9 48 (by kernel_rfl) (by kernel_rfl))).1
       have zh210 : zy204 40 = .bool false := (Sp.out0 (zhp208 1 40 (by kernel_rfl) (by kernel_rfl))).1
       have zS211 := zS104.quiet zhc206
       refine step_yes (wY_t zh210) ?_
       refine yenv [(48, .pointer (some ⟨zb4, 47, none⟩))] (ag_cons zh209 (ag_nil)) ?_
       have zS212 := zS211.loc
       refine Y.load1_ zS212 0 (.int .i64 (by_ % 1001)) zb4 47 ?_
       exact ⟨zS212.ch, Sp.mk_holds [] (all_nil)⟩
     refine step_cons ?_ ?_
     · intro zy213 zw214 zhc215 zhf216 zhp217
       have zh218 : zy213 47 = .int .i64 (xs (i).toNat 0) := (Sp.out0 (zhp217 8 47 (by kernel_rfl) (by kernel_rfl))).1
       have zh219 : zy213 49 = .int .i64 (by_ % 1001) := (Sp.out0 (zhp217 10 49 (by kernel_rfl) (by kernel_rfl))).1
       have zh220 : zy213 40 = .bool false := (Sp.out0 (zhp217 1 40 (by kernel_rfl) (by kernel_rfl))).1
       have zS221 := zS104.quiet zhc215
       refine step_yes (wY_t zh220) ?_
       refine yenv [(47, .int .i64 (xs (i).toNat 0)), (49, .int .i64 (by_ % 1001))] (ag_cons zh218 (ag_cons zh219 (ag_nil))) ?_
       have zS222 := zS221.loc
       refine Y.pure_ (.bool (decide ((by_ % 1001) < (xs (i).toNat 0)))) ?_
       exact ⟨zS222.ch, Sp.mk_holds [] (all_nil)⟩
     refine step_cons ?_ ?_
     · intro zy223 zw224 zhc225 zhf226 zhp227
       have zh228 : zy223 40 = .bool false := (Sp.out0 (zhp227 1 40 (by kernel_rfl) (by kernel_rfl))).1
       have zh229 : zy223 50 = .bool (decide ((by_ % 1001) < (xs (i).toNat 0))) := (Sp.out0 (zhp227 11 50 (by kernel_rfl) (by kernel_rfl))).1
       have zS230 := zS104.quiet zhc225
       refine step1 ?_
       refine yenv [(40, .bool false), (50, .bool (decide ((by_ % 1001) < (xs (i).toNat 0))))] (ag_cons zh228 (ag_cons zh229 (ag_nil))) ?_
       have zS231 := zS230.loc
       refine Y.pure_ (.bool (decide ((by_ % 1001) < (xs (i).toNat 0)))) ?_
       exact ⟨zS231.ch, Sp.mk_holds [] (all_nil)⟩
     refine step_cons ?_ ?_
     · intro zy232 zw233 zhc234 zhf235 zhp236
       have zh237 : zy232 51 = .bool (decide ((by_ % 1001) < (xs (i).toNat 0))) := (Sp.out0 (zhp236 12 51 (by kernel_rfl) (by kernel_rfl))).1
       have zS238 := zS104.quiet zhc234
       refine step1 ?_
       refine yenv [(51, .bool (decide ((by_ % 1001) < (xs (i).toNat 0))))] (ag_cons zh237 (ag_nil)) ?_
       have zS239 := zS238.loc
       refine Y.move_ ?_
       exact ⟨zS239.ch, Sp.mk_holds [] (all_nil)⟩
     refine step_cons ?_ ?_
     · intro zy240 zw241 zhc242 zhf243 zhp244
       have zh245 : zy240 2 = .slice (some ⟨b, o, none⟩) n c := (zhf243 2 (by kernel_rfl)).trans (by kernel_rfl)
       have zh246 : zy240 52 = .bool (decide ((by_ % 1001) < (xs (i).toNat 0))) := (Sp.out0 (zhp244 13 52 (by kernel_rfl) (by kernel_rfl))).1
       have zS247 := zS104.quiet zhc242
       refine step_if (decide ((by_ % 1001) < (xs (i).toNat 0))) zh246 ?_ ?_
       · intro zh248
         have zh249 := ltF' zh248
         refine yenv [(2, .slice (some ⟨b, o, none⟩) n c)] (ag_cons zh245 (ag_nil)) ?_
         have zS250 := zS247.loc
         refine Y.move_ ?_
         exact ⟨zS250.ch, Sp.mk_holds [] all_nil (h2 := (bif_f zh248).symm)⟩
       intro zh248
       exact Sp.mk_holds [] all_nil (h2 := (bif_t zh248).symm)
     refine step_cons ?_ ?_
     · intro zy251 zw252 zhc253 zhf254 zhp255
       have zh256 : zy251 11 = .int .i64 i := (zhf254 11 (by kernel_rfl)).trans (by kernel_rfl)
       have zh257 : zy251 52 = .bool (decide ((by_ % 1001) < (xs (i).toNat 0))) := (Sp.out0 (zhp255 13 52 (by kernel_rfl) (by kernel_rfl))).1
       have zS258 := zS104.quiet zhc253
       refine step_if (decide ((by_ % 1001) < (xs (i).toNat 0))) zh257 ?_ ?_
       · intro zh259
         have zh260 := ltF' zh259
         refine yenv [(11, .int .i64 i)] (ag_cons zh256 (ag_nil)) ?_
         have zS261 := zS258.loc
         refine Y.pure_ (.int .i64 i) ?_
         exact ⟨zS261.ch, Sp.mk_holds [] all_nil (h2 := (bif_f zh259).symm)⟩
       intro zh259
       exact Sp.mk_holds [] all_nil (h2 := (bif_t zh259).symm)
     refine step_cons ?_ ?_
     · intro zy262 zw263 zhc264 zhf265 zhp266
       have zh267 : zy262 13 = .int .i64 0 := (zhf265 13 (by kernel_rfl)).trans (by kernel_rfl)
       have zh268 : zy262 52 = .bool (decide ((by_ % 1001) < (xs (i).toNat 0))) := (Sp.out0 (zhp266 13 52 (by kernel_rfl) (by kernel_rfl))).1
       have zS269 := zS104.quiet zhc264
       refine step_if (decide ((by_ % 1001) < (xs (i).toNat 0))) zh268 ?_ ?_
       · intro zh270
         have zh271 := ltF' zh270
         refine yenv [(13, .int .i64 0)] (ag_cons zh267 (ag_nil)) ?_
         have zS272 := zS269.loc
         refine Y.pure_ (.int .i64 0) ?_
         exact ⟨zS272.ch, Sp.mk_holds [] all_nil (h2 := (bif_f zh270).symm)⟩
       intro zh270
       exact Sp.mk_holds [] all_nil (h2 := (bif_t zh270).symm)
     refine step_cons ?_ ?_
     · intro zy273 zw274 zhc275 zhf276 zhp277
       have zh278 : zy273 53 = (bif (decide ((by_ % 1001) < (xs (i).toNat 0))) then undef else (.slice (some ⟨b, o, none⟩) n c)) := (Sp.out0 (zhp277 14 53 (by kernel_rfl) (by kernel_rfl))).1
       have zh279 : zy273 54 = (bif (decide ((by_ % 1001) < (xs (i).toNat 0))) then undef else (.int .i64 i)) := (Sp.out0 (zhp277 15 54 (by kernel_rfl) (by kernel_rfl))).1
       have zh280 : zy273 52 = .bool (decide ((by_ % 1001) < (xs (i).toNat 0))) := (Sp.out0 (zhp277 13 52 (by kernel_rfl) (by kernel_rfl))).1
       have zS281 := zS104.quiet zhc275
       refine step_if (decide ((by_ % 1001) < (xs (i).toNat 0))) zh280 ?_ ?_
       · intro zh282
         have zh283 := ltF' zh282
         have zh284 : zy273 53 = .slice (some ⟨b, o, none⟩) n c := zh278.trans (bif_f zh282)
         have zh285 : zy273 54 = .int .i64 i := zh279.trans (bif_f zh282)
         refine yenv [(53, .slice (some ⟨b, o, none⟩) n c), (54, .int .i64 i)] (ag_cons zh284 (ag_cons zh285 (ag_nil))) ?_
         have zS286 := zS281.loc
         refine Y.idxS_ (e := 39) b o (i).toNat n 6 c .i64 i (by omega) (by omega) rfl ?_
         exact ⟨zS286.ch, Sp.mk_holds [] all_nil (h2 := (bif_f zh282).symm)⟩
       intro zh282
       exact Sp.mk_holds [] all_nil (h2 := (bif_t zh282).symm)
     refine step_cons ?_ ?_
     · intro zy287 zw288 zhc289 zhf290 zhp291
       have zh292 : zy287 56 = (bif (decide ((by_ % 1001) < (xs (i).toNat 0))) then undef else (.pointer (some ⟨b, (o + (i).toNat * 6), none⟩))) := (Sp.out0 (zhp291 17 56 (by kernel_rfl) (by kernel_rfl))).1
       have zh293 : zy287 52 = .bool (decide ((by_ % 1001) < (xs (i).toNat 0))) := (Sp.out0 (zhp291 13 52 (by kernel_rfl) (by kernel_rfl))).1
       have zS294 := zS104.quiet zhc289
       refine step_if (decide ((by_ % 1001) < (xs (i).toNat 0))) zh293 ?_ ?_
       · intro zh295
         have zh296 := ltF' zh295
         have zh297 : zy287 56 = .pointer (some ⟨b, (o + (i).toNat * 6), none⟩) := zh292.trans (bif_f zh295)
         refine yenv [(56, .pointer (some ⟨b, (o + (i).toNat * 6), none⟩))] (ag_cons zh297 (ag_nil)) ?_
         have zS298 := zS294.loc
         refine Y.pure_ (.pointer (some ⟨b, (o + (i).toNat * 6 + 1), none⟩)) ?_
         exact ⟨zS298.ch, Sp.mk_holds [] all_nil (h2 := (bif_f zh295).symm)⟩
       intro zh295
       exact Sp.mk_holds [] all_nil (h2 := (bif_t zh295).symm)
     refine step_cons ?_ ?_
     · intro zy299 zw300 zhc301 zhf302 zhp303
       have zh304 : zy299 57 = (bif (decide ((by_ % 1001) < (xs (i).toNat 0))) then undef else (.pointer (some ⟨b, (o + (i).toNat * 6 + 1), none⟩))) := (Sp.out0 (zhp303 18 57 (by kernel_rfl) (by kernel_rfl))).1
       have zh305 : zy299 55 = (bif (decide ((by_ % 1001) < (xs (i).toNat 0))) then undef else (.int .i64 0)) := (Sp.out0 (zhp303 16 55 (by kernel_rfl) (by kernel_rfl))).1
       have zh306 : zy299 52 = .bool (decide ((by_ % 1001) < (xs (i).toNat 0))) := (Sp.out0 (zhp303 13 52 (by kernel_rfl) (by kernel_rfl))).1
       have zS307 := zS104.quiet zhc301
       refine step_if (decide ((by_ % 1001) < (xs (i).toNat 0))) zh306 ?_ ?_
       · intro zh308
         have zh309 := ltF' zh308
         have zh310 : zy299 57 = .pointer (some ⟨b, (o + (i).toNat * 6 + 1), none⟩) := zh304.trans (bif_f zh308)
         have zh311 : zy299 55 = .int .i64 0 := zh305.trans (bif_f zh308)
         refine yenv [(57, .pointer (some ⟨b, (o + (i).toNat * 6 + 1), none⟩)), (55, .int .i64 0)] (ag_cons zh310 (ag_cons zh311 (ag_nil))) ?_
         have zS312 := zS307.loc
         refine Y.pure_ (.pointer (some ⟨b, (o + (i).toNat * 6 + 1), none⟩)) ?_
         exact ⟨zS312.ch, Sp.mk_holds [] all_nil (h2 := (bif_f zh308).symm)⟩
       intro zh308
       exact Sp.mk_holds [] all_nil (h2 := (bif_t zh308).symm)
     refine step_cons ?_ ?_
     · intro zy313 zw314 zhc315 zhf316 zhp317
       have zh318 : zy313 58 = (bif (decide ((by_ % 1001) < (xs (i).toNat 0))) then undef else (.pointer (some ⟨b, (o + (i).toNat * 6 + 1), none⟩))) := (Sp.out0 (zhp317 19 58 (by kernel_rfl) (by kernel_rfl))).1
       have zh319 : zy313 52 = .bool (decide ((by_ % 1001) < (xs (i).toNat 0))) := (Sp.out0 (zhp317 13 52 (by kernel_rfl) (by kernel_rfl))).1
       have zS320 := zS104.quiet zhc315
       refine step_if (decide ((by_ % 1001) < (xs (i).toNat 0))) zh319 ?_ ?_
       · intro zh321
         have zh322 := ltF' zh321
         have zh323 : zy313 58 = .pointer (some ⟨b, (o + (i).toNat * 6 + 1), none⟩) := zh318.trans (bif_f zh321)
         refine yenv [(58, .pointer (some ⟨b, (o + (i).toNat * 6 + 1), none⟩))] (ag_cons zh323 (ag_nil)) ?_
         have zS324 := zS320.loc
         have zh325 := hx ((i).toNat) 0
         have zh326 := hx ((i).toNat) 1
         have zh327 := hx ((i).toNat) 2
         have zh328 := hx ((i).toNat) 3
         refine Y.loadO1_ zS320 (.int .i64 (xs (i).toNat 0)) b (o + (i).toNat * 6 + 1) ((hl (i).toNat (by omega)) 1 _ rfl) (by simp) ?_
         exact ⟨zS324.ch, Sp.mk_holds [] all_nil (h2 := (bif_f zh321).symm)⟩
       intro zh321
       exact Sp.mk_holds [] all_nil (h2 := (bif_t zh321).symm)
     refine step_cons ?_ ?_
     · intro zy329 zw330 zhc331 zhf332 zhp333
       have zh334 : zy329 8 = .pointer (some ⟨zb4, 0, none⟩) := (zhf332 8 (by kernel_rfl)).trans (by kernel_rfl)
       have zh335 : zy329 52 = .bool (decide ((by_ % 1001) < (xs (i).toNat 0))) := (Sp.out0 (zhp333 13 52 (by kernel_rfl) (by kernel_rfl))).1
       have zS336 := zS104.quiet zhc331
       refine step_if (decide ((by_ % 1001) < (xs (i).toNat 0))) zh335 ?_ ?_
       · intro zh337
         have zh338 := ltF' zh337
         refine yenv [(8, .pointer (some ⟨zb4, 0, none⟩))] (ag_cons zh334 (ag_nil)) ?_
         have zS339 := zS336.loc
         refine Y.pure_ (.pointer (some ⟨zb4, 47, none⟩)) ?_
         exact ⟨zS339.ch, Sp.mk_holds [] all_nil (h2 := (bif_f zh337).symm)⟩
       intro zh337
       exact Sp.mk_holds [] all_nil (h2 := (bif_t zh337).symm)
     refine step_cons ?_ ?_
     · intro zy340 zw341 zhc342 zhf343 zhp344
       have zh345 : zy340 60 = (bif (decide ((by_ % 1001) < (xs (i).toNat 0))) then undef else (.pointer (some ⟨zb4, 47, none⟩))) := (Sp.out0 (zhp344 21 60 (by kernel_rfl) (by kernel_rfl))).1
       have zh346 : zy340 52 = .bool (decide ((by_ % 1001) < (xs (i).toNat 0))) := (Sp.out0 (zhp344 13 52 (by kernel_rfl) (by kernel_rfl))).1
       have zS347 := zS104.quiet zhc342
       refine step_if (decide ((by_ % 1001) < (xs (i).toNat 0))) zh346 ?_ ?_
       · intro zh348
         have zh349 := ltF' zh348
         have zh350 : zy340 60 = .pointer (some ⟨zb4, 47, none⟩) := zh345.trans (bif_f zh348)
         refine yenv [(60, .pointer (some ⟨zb4, 47, none⟩))] (ag_cons zh350 (ag_nil)) ?_
         have zS351 := zS347.loc
         refine Y.load1_ zS351 0 (.int .i64 (by_ % 1001)) zb4 47 ?_
         exact ⟨zS351.ch, Sp.mk_holds [] all_nil (h2 := (bif_f zh348).symm)⟩
       intro zh348
       exact Sp.mk_holds [] all_nil (h2 := (bif_t zh348).symm)
     refine step_cons ?_ ?_
     · intro zy352 zw353 zhc354 zhf355 zhp356
       have zh357 : zy352 61 = (bif (decide ((by_ % 1001) < (xs (i).toNat 0))) then undef else (.int .i64 (by_ % 1001))) := (Sp.out0 (zhp356 22 61 (by kernel_rfl) (by kernel_rfl))).1
       have zh358 : zy352 52 = .bool (decide ((by_ % 1001) < (xs (i).toNat 0))) := (Sp.out0 (zhp356 13 52 (by kernel_rfl) (by kernel_rfl))).1
       have zS359 := zS104.quiet zhc354
       refine step_if (decide ((by_ % 1001) < (xs (i).toNat 0))) zh358 ?_ ?_
       · intro zh360
         have zh361 := ltF' zh360
         have zh362 : zy352 61 = .int .i64 (by_ % 1001) := zh357.trans (bif_f zh360)
         refine yenv [(61, .int .i64 (by_ % 1001))] (ag_cons zh362 (ag_nil)) ?_
         have zS363 := zS359.loc
         refine Y.sum_ .i64 (0 - (by_ % 1001)) (IntWalk.i64_in _ (by omega)) ?_
         exact ⟨zS363.ch, Sp.mk_holds [] all_nil (h2 := (bif_f zh360).symm)⟩
       intro zh360
       exact Sp.mk_holds [] all_nil (h2 := (bif_t zh360).symm)
     refine step_cons ?_ ?_
     · intro zy364 zw365 zhc366 zhf367 zhp368
       have zh369 : zy364 59 = (bif (decide ((by_ % 1001) < (xs (i).toNat 0))) then undef else (.int .i64 (xs (i).toNat 0))) := (Sp.out0 (zhp368 20 59 (by kernel_rfl) (by kernel_rfl))).1
       have zh370 : zy364 62 = (bif (decide ((by_ % 1001) < (xs (i).toNat 0))) then undef else (.int .i64 (0 - (by_ % 1001)))) := (Sp.out0 (zhp368 23 62 (by kernel_rfl) (by kernel_rfl))).1
       have zh371 : zy364 52 = .bool (decide ((by_ % 1001) < (xs (i).toNat 0))) := (Sp.out0 (zhp368 13 52 (by kernel_rfl) (by kernel_rfl))).1
       have zS372 := zS104.quiet zhc366
       refine step_if (decide ((by_ % 1001) < (xs (i).toNat 0))) zh371 ?_ ?_
       · intro zh373
         have zh374 := ltF' zh373
         have zh375 : zy364 59 = .int .i64 (xs (i).toNat 0) := zh369.trans (bif_f zh373)
         have zh376 : zy364 62 = .int .i64 (0 - (by_ % 1001)) := zh370.trans (bif_f zh373)
         refine yenv [(59, .int .i64 (xs (i).toNat 0)), (62, .int .i64 (0 - (by_ % 1001)))] (ag_cons zh375 (ag_cons zh376 (ag_nil))) ?_
         have zS377 := zS372.loc
         refine Y.pure_ (.bool (decide ((xs (i).toNat 0) < (0 - (by_ % 1001))))) ?_
         exact ⟨zS377.ch, Sp.mk_holds [] all_nil (h2 := (bif_f zh373).symm)⟩
       intro zh373
       exact Sp.mk_holds [] all_nil (h2 := (bif_t zh373).symm)
     refine step_cons ?_ ?_
     · intro zy378 zw379 zhc380 zhf381 zhp382
       have zh383 : zy378 52 = .bool (decide ((by_ % 1001) < (xs (i).toNat 0))) := (Sp.out0 (zhp382 13 52 (by kernel_rfl) (by kernel_rfl))).1
       have zh384 : zy378 63 = (bif (decide ((by_ % 1001) < (xs (i).toNat 0))) then undef else (.bool (decide ((xs (i).toNat 0) < (0 - (by_ % 1001)))))) := (Sp.out0 (zhp382 24 63 (by kernel_rfl) (by kernel_rfl))).1
       have zS385 := zS104.quiet zhc380
       refine step1 ?_
       refine yenv [(52, .bool (decide ((by_ % 1001) < (xs (i).toNat 0)))), (63, (bif (decide ((by_ % 1001) < (xs (i).toNat 0))) then undef else (.bool (decide ((xs (i).toNat 0) < (0 - (by_ % 1001)))))))] (ag_cons zh383 (ag_cons zh384 (ag_nil))) ?_
       have zS386 := zS385.loc
       refine Y.pickB_ (decide ((by_ % 1001) < (xs (i).toNat 0))) ((decide ((by_ % 1001) < (xs (i).toNat 0))) || (decide ((xs (i).toNat 0) < (0 - (by_ % 1001))))) (.bool true) ((bif (decide ((by_ % 1001) < (xs (i).toNat 0))) then undef else (.bool (decide ((xs (i).toNat 0) < (0 - (by_ % 1001))))))) (fun h => (by rw [h]; rfl)) (fun h => (bif_f h).trans (by rw [h]; rfl)) ?_
       exact ⟨zS386.ch, Sp.mk_holds [] (all_nil)⟩
     refine step_cons ?_ ?_
     · intro zy387 zw388 zhc389 zhf390 zhp391
       have zh392 : zy387 64 = .bool ((decide ((by_ % 1001) < (xs (i).toNat 0))) || (decide ((xs (i).toNat 0) < (0 - (by_ % 1001))))) := (Sp.out0 (zhp391 25 64 (by kernel_rfl) (by kernel_rfl))).1
       have zS393 := zS104.quiet zhc389
       refine step1 ?_
       refine yenv [(64, .bool ((decide ((by_ % 1001) < (xs (i).toNat 0))) || (decide ((xs (i).toNat 0) < (0 - (by_ % 1001))))))] (ag_cons zh392 (ag_nil)) ?_
       have zS394 := zS393.loc
       refine Y.assign_ ?_
       exact ⟨zS394.ch, Sp.mk_holds [] (all_nil)⟩
     exact step_nil
   intro zv395 zw396 zhc397 zha398
   have zh399 : zv395 0 = .bool false := (Sp.out0 (zha398 0 (by kernel_rfl))).1
   have zh400 : zv395 1 = .bool false := (Sp.out0 (zha398 1 (by kernel_rfl))).1
   have zh401 : zv395 2 = .slice (some ⟨b, o, none⟩) n c := (Sp.out0 (zha398 2 (by kernel_rfl))).1
   have zh402 : zv395 3 = .int .i64 i := (Sp.out0 (zha398 3 (by kernel_rfl))).1
   have zh403 : zv395 4 = .int .i64 0 := (Sp.out0 (zha398 4 (by kernel_rfl))).1
   have zh404 : zv395 5 = .pointer (some ⟨b, (o + (i).toNat * 6), none⟩) := (Sp.out0 (zha398 5 (by kernel_rfl))).1
   have zh405 : zv395 6 = .pointer (some ⟨b, (o + (i).toNat * 6 + 1), none⟩) := (Sp.out0 (zha398 6 (by kernel_rfl))).1
   have zh406 : zv395 7 = .pointer (some ⟨b, (o + (i).toNat * 6 + 1), none⟩) := (Sp.out0 (zha398 7 (by kernel_rfl))).1
   have zh407 : zv395 8 = .int .i64 (xs (i).toNat 0) := (Sp.out0 (zha398 8 (by kernel_rfl))).1
   have zh408 : zv395 9 = .pointer (some ⟨zb4, 47, none⟩) := (Sp.out0 (zha398 9 (by kernel_rfl))).1
   have zh409 : zv395 10 = .int .i64 (by_ % 1001) := (Sp.out0 (zha398 10 (by kernel_rfl))).1
   have zh410 : zv395 11 = .bool (decide ((by_ % 1001) < (xs (i).toNat 0))) := (Sp.out0 (zha398 11 (by kernel_rfl))).1
   have zh411 : zv395 12 = .bool (decide ((by_ % 1001) < (xs (i).toNat 0))) := (Sp.out0 (zha398 12 (by kernel_rfl))).1
   have zh412 : zv395 13 = .bool (decide ((by_ % 1001) < (xs (i).toNat 0))) := (Sp.out0 (zha398 13 (by kernel_rfl))).1
   have zh413 : zv395 14 = (bif (decide ((by_ % 1001) < (xs (i).toNat 0))) then undef else (.slice (some ⟨b, o, none⟩) n c)) := (Sp.out0 (zha398 14 (by kernel_rfl))).1
   have zh414 : zv395 15 = (bif (decide ((by_ % 1001) < (xs (i).toNat 0))) then undef else (.int .i64 i)) := (Sp.out0 (zha398 15 (by kernel_rfl))).1
   have zh415 : zv395 16 = (bif (decide ((by_ % 1001) < (xs (i).toNat 0))) then undef else (.int .i64 0)) := (Sp.out0 (zha398 16 (by kernel_rfl))).1
   have zh416 : zv395 17 = (bif (decide ((by_ % 1001) < (xs (i).toNat 0))) then undef else (.pointer (some ⟨b, (o + (i).toNat * 6), none⟩))) := (Sp.out0 (zha398 17 (by kernel_rfl))).1
   have zh417 : zv395 18 = (bif (decide ((by_ % 1001) < (xs (i).toNat 0))) then undef else (.pointer (some ⟨b, (o + (i).toNat * 6 + 1), none⟩))) := (Sp.out0 (zha398 18 (by kernel_rfl))).1
   have zh418 : zv395 19 = (bif (decide ((by_ % 1001) < (xs (i).toNat 0))) then undef else (.pointer (some ⟨b, (o + (i).toNat * 6 + 1), none⟩))) := (Sp.out0 (zha398 19 (by kernel_rfl))).1
   have zh419 : zv395 20 = (bif (decide ((by_ % 1001) < (xs (i).toNat 0))) then undef else (.int .i64 (xs (i).toNat 0))) := (Sp.out0 (zha398 20 (by kernel_rfl))).1
   have zh420 : zv395 21 = (bif (decide ((by_ % 1001) < (xs (i).toNat 0))) then undef else (.pointer (some ⟨zb4, 47, none⟩))) := (Sp.out0 (zha398 21 (by kernel_rfl))).1
   have zh421 : zv395 22 = (bif (decide ((by_ % 1001) < (xs (i).toNat 0))) then undef else (.int .i64 (by_ % 1001))) := (Sp.out0 (zha398 22 (by kernel_rfl))).1
   have zh422 : zv395 23 = (bif (decide ((by_ % 1001) < (xs (i).toNat 0))) then undef else (.int .i64 (0 - (by_ % 1001)))) := (Sp.out0 (zha398 23 (by kernel_rfl))).1
   have zh423 : zv395 24 = (bif (decide ((by_ % 1001) < (xs (i).toNat 0))) then undef else (.bool (decide ((xs (i).toNat 0) < (0 - (by_ % 1001)))))) := (Sp.out0 (zha398 24 (by kernel_rfl))).1
   have zh424 : zv395 25 = .bool ((decide ((by_ % 1001) < (xs (i).toNat 0))) || (decide ((xs (i).toNat 0) < (0 - (by_ % 1001))))) := (Sp.out0 (zha398 25 (by kernel_rfl))).1
   have zh425 : zv395 26 = .bool ((decide ((by_ % 1001) < (xs (i).toNat 0))) || (decide ((xs (i).toNat 0) < (0 - (by_ % 1001))))) := (Sp.out0 (zha398 26 (by kernel_rfl))).1
   have zS426 := zS104.quiet zhc397
   refine ⟨[.bool false, .bool false, .slice (some ⟨b, o, none⟩) n c, .int .i64 i, .int .i64 0, .pointer (some ⟨b, (o + (i).toNat * 6), none⟩), .pointer (some ⟨b, (o + (i).toNat * 6 + 1), none⟩), .pointer (some ⟨b, (o + (i).toNat * 6 + 1), none⟩), .int .i64 (xs (i).toNat 0), .pointer (some ⟨zb4, 47, none⟩), .int .i64 (by_ % 1001), .bool (decide ((by_ % 1001) < (xs (i).toNat 0))), .bool (decide ((by_ % 1001) < (xs (i).toNat 0))), .bool (decide ((by_ % 1001) < (xs (i).toNat 0))), (bif (decide ((by_ % 1001) < (xs (i).toNat 0))) then undef else (.slice (some ⟨b, o, none⟩) n c)), (bif (decide ((by_ % 1001) < (xs (i).toNat 0))) then undef else (.int .i64 i)), (bif (decide ((by_ % 1001) < (xs (i).toNat 0))) then undef else (.int .i64 0)), (bif (decide ((by_ % 1001) < (xs (i).toNat 0))) then undef else (.pointer (some ⟨b, (o + (i).toNat * 6), none⟩))), (bif (decide ((by_ % 1001) < (xs (i).toNat 0))) then undef else (.pointer (some ⟨b, (o + (i).toNat * 6 + 1), none⟩))), (bif (decide ((by_ % 1001) < (xs (i).toNat 0))) then undef else (.pointer (some ⟨b, (o + (i).toNat * 6 + 1), none⟩))), (bif (decide ((by_ % 1001) < (xs (i).toNat 0))) then undef else (.int .i64 (xs (i).toNat 0))), (bif (decide ((by_ % 1001) < (xs (i).toNat 0))) then undef else (.pointer (some ⟨zb4, 47, none⟩))), (bif (decide ((by_ % 1001) < (xs (i).toNat 0))) then undef else (.int .i64 (by_ % 1001))), (bif (decide ((by_ % 1001) < (xs (i).toNat 0))) then undef else (.int .i64 (0 - (by_ % 1001)))), (bif (decide ((by_ % 1001) < (xs (i).toNat 0))) then undef else (.bool (decide ((xs (i).toNat 0) < (0 - (by_ % 1001)))))), .bool ((decide ((by_ % 1001) < (xs (i).toNat 0))) || (decide ((xs (i).toNat 0) < (0 - (by_ % 1001))))), .bool ((decide ((by_ % 1001) < (xs (i).toNat 0))) || (decide ((xs (i).toNat 0) < (0 - (by_ % 1001)))))], by kernel_rfl, va_cons zh399 (va_cons zh400 (va_cons zh401 (va_cons zh402 (va_cons zh403 (va_cons zh404 (va_cons zh405 (va_cons zh406 (va_cons zh407 (va_cons zh408 (va_cons zh409 (va_cons zh410 (va_cons zh411 (va_cons zh412 (va_cons zh413 (va_cons zh414 (va_cons zh415 (va_cons zh416 (va_cons zh417 (va_cons zh418 (va_cons zh419 (va_cons zh420 (va_cons zh421 (va_cons zh422 (va_cons zh423 (va_cons zh424 (va_cons zh425 (va_nil))))))))))))))))))))))))))), ?_⟩
   refine nil_ (blk_n (then_n (reg_ ?_)))
   refine pure_ (.int .i64 0) ?_
   refine pure_ (.int .i64 1) ?_
   refine pure_ (.int .i64 1) ?_
   refine nil_ ?_
   obtain ⟨zF427, hzF427⟩ : ∃ z, z = ((decide ((by_ % 1001) < (xs (i).toNat 0))) || (decide ((xs (i).toNat 0) < (0 - (by_ % 1001))))) := ⟨_, rfl⟩
   rw [← hzF427]
   refine again_ (seq_ (seq_ (reg_ ?_)))
   refine pure_ (.int .i64 1) ?_
   refine pure_ (.bool true) ?_
   refine nil_ (then_n (cond_T ?_))
   refine wp_skip (then_n (seq_ (wp_block ?_)))
   refine drawnL_ 27 [⟨0, fun _ => .bool zF427, fun _ => []⟩, ⟨0, fun _ => .bool zF427, fun _ => []⟩, ⟨0, fun _ => (bif zF427 then undef else (.slice (some ⟨b, o, none⟩) n c)), fun _ => []⟩, ⟨0, fun _ => (bif zF427 then undef else (.int .i64 i)), fun _ => []⟩, ⟨0, fun _ => (bif zF427 then undef else (.int .i64 1)), fun _ => []⟩, ⟨0, fun _ => (bif zF427 then undef else (.pointer (some ⟨b, (o + (i).toNat * 6), none⟩))), fun _ => []⟩, ⟨0, fun _ => (bif zF427 then undef else (.pointer (some ⟨b, (o + (i).toNat * 6 + 1), none⟩))), fun _ => []⟩, ⟨0, fun _ => (bif zF427 then undef else (.pointer (some ⟨b, (o + (i).toNat * 6 + 2), none⟩))), fun _ => []⟩, ⟨0, fun _ => (bif zF427 then undef else (.int .i64 (xs (i).toNat 1))), fun _ => []⟩, ⟨0, fun _ => (bif zF427 then undef else (.pointer (some ⟨zb4, 47, none⟩))), fun _ => []⟩, ⟨0, fun _ => (bif zF427 then undef else (.int .i64 (by_ % 1001))), fun _ => []⟩, ⟨0, fun _ => (bif zF427 then undef else (.bool (decide ((by_ % 1001) < (xs (i).toNat 1))))), fun _ => []⟩, ⟨0, fun _ => .bool (zF427 || (decide ((by_ % 1001) < (xs (i).toNat 1)))), fun _ => []⟩, ⟨0, fun _ => .bool (zF427 || (decide ((by_ % 1001) < (xs (i).toNat 1)))), fun _ => []⟩, ⟨0, fun _ => (bif (zF427 || (decide ((by_ % 1001) < (xs (i).toNat 1)))) then undef else (.slice (some ⟨b, o, none⟩) n c)), fun _ => []⟩, ⟨0, fun _ => (bif (zF427 || (decide ((by_ % 1001) < (xs (i).toNat 1)))) then undef else (.int .i64 i)), fun _ => []⟩, ⟨0, fun _ => (bif (zF427 || (decide ((by_ % 1001) < (xs (i).toNat 1)))) then undef else (.int .i64 1)), fun _ => []⟩, ⟨0, fun _ => (bif (zF427 || (decide ((by_ % 1001) < (xs (i).toNat 1)))) then undef else (.pointer (some ⟨b, (o + (i).toNat * 6), none⟩))), fun _ => []⟩, ⟨0, fun _ => (bif (zF427 || (decide ((by_ % 1001) < (xs (i).toNat 1)))) then undef else (.pointer (some ⟨b, (o + (i).toNat * 6 + 1), none⟩))), fun _ => []⟩, ⟨0, fun _ => (bif (zF427 || (decide ((by_ % 1001) < (xs (i).toNat 1)))) then undef else (.pointer (some ⟨b, (o + (i).toNat * 6 + 2), none⟩))), fun _ => []⟩, ⟨0, fun _ => (bif (zF427 || (decide ((by_ % 1001) < (xs (i).toNat 1)))) then undef else (.int .i64 (xs (i).toNat 1))), fun _ => []⟩, ⟨0, fun _ => (bif (zF427 || (decide ((by_ % 1001) < (xs (i).toNat 1)))) then undef else (.pointer (some ⟨zb4, 47, none⟩))), fun _ => []⟩, ⟨0, fun _ => (bif (zF427 || (decide ((by_ % 1001) < (xs (i).toNat 1)))) then undef else (.int .i64 (by_ % 1001))), fun _ => []⟩, ⟨0, fun _ => (bif (zF427 || (decide ((by_ % 1001) < (xs (i).toNat 1)))) then undef else (.int .i64 (0 - (by_ % 1001)))), fun _ => []⟩, ⟨0, fun _ => (bif (zF427 || (decide ((by_ % 1001) < (xs (i).toNat 1)))) then undef else (.bool (decide ((xs (i).toNat 1) < (0 - (by_ % 1001)))))), fun _ => []⟩, ⟨0, fun _ => .bool ((zF427 || (decide ((by_ % 1001) < (xs (i).toNat 1)))) || (decide ((xs (i).toNat 1) < (0 - (by_ % 1001))))), fun _ => []⟩, ⟨0, fun _ => .bool ((zF427 || (decide ((by_ % 1001) < (xs (i).toNat 1)))) || (decide ((xs (i).toNat 1) < (0 - (by_ % 1001))))), fun _ => []⟩] [] ?_ ?_
   · refine step_cons ?_ ?_
     · intro zy428 zw429 zhc430 zhf431 zhp432
       have zh433 : zy428 12 = .bool zF427 := (zhf431 12 (by kernel_rfl)).trans (by kernel_rfl)
       have zS434 := zS426.quiet zhc430
       refine step1 ?_
       refine yenv [(12, .bool zF427)] (ag_cons zh433 (ag_nil)) ?_
       have zS435 := zS434.loc
       refine Y.pure_ (.bool zF427) ?_
       exact ⟨zS435.ch, Sp.mk_holds [] (all_nil)⟩
     refine step_cons ?_ ?_
     · intro zy436 zw437 zhc438 zhf439 zhp440
       have zh441 : zy436 39 = .bool zF427 := (Sp.out0 (zhp440 0 39 (by kernel_rfl) (by kernel_rfl))).1
       have zS442 := zS426.quiet zhc438
       refine step1 ?_
       refine yenv [(39, .bool zF427)] (ag_cons zh441 (ag_nil)) ?_
       have zS443 := zS442.loc
       refine Y.pure_ (.bool zF427) ?_
       exact ⟨zS443.ch, Sp.mk_holds [] (all_nil)⟩
     refine step_cons ?_ ?_
     · intro zy444 zw445 zhc446 zhf447 zhp448
       have zh449 : zy444 2 = .slice (some ⟨b, o, none⟩) n c := (zhf447 2 (by kernel_rfl)).trans (by kernel_rfl)
       have zh450 : zy444 40 = .bool zF427 := (Sp.out0 (zhp448 1 40 (by kernel_rfl) (by kernel_rfl))).1
       have zS451 := zS426.quiet zhc446
       refine step_if zF427 zh450 ?_ ?_
       · intro zh452
         refine yenv [(2, .slice (some ⟨b, o, none⟩) n c)] (ag_cons zh449 (ag_nil)) ?_
         have zS453 := zS451.loc
         refine Y.move_ ?_
         exact ⟨zS453.ch, Sp.mk_holds [] all_nil (h2 := (bif_f zh452).symm)⟩
       intro zh452
       exact Sp.mk_holds [] all_nil (h2 := (bif_t zh452).symm)
     refine step_cons ?_ ?_
     · intro zy454 zw455 zhc456 zhf457 zhp458
       have zh459 : zy454 11 = .int .i64 i := (zhf457 11 (by kernel_rfl)).trans (by kernel_rfl)
       have zh460 : zy454 40 = .bool zF427 := (Sp.out0 (zhp458 1 40 (by kernel_rfl) (by kernel_rfl))).1
       have zS461 := zS426.quiet zhc456
       refine step_if zF427 zh460 ?_ ?_
       · intro zh462
         refine yenv [(11, .int .i64 i)] (ag_cons zh459 (ag_nil)) ?_
         have zS463 := zS461.loc
         refine Y.pure_ (.int .i64 i) ?_
         exact ⟨zS463.ch, Sp.mk_holds [] all_nil (h2 := (bif_f zh462).symm)⟩
       intro zh462
       exact Sp.mk_holds [] all_nil (h2 := (bif_t zh462).symm)
     refine step_cons ?_ ?_
     · intro zy464 zw465 zhc466 zhf467 zhp468
       have zh469 : zy464 13 = .int .i64 1 := (zhf467 13 (by kernel_rfl)).trans (by kernel_rfl)
       have zh470 : zy464 40 = .bool zF427 := (Sp.out0 (zhp468 1 40 (by kernel_rfl) (by kernel_rfl))).1
       have zS471 := zS426.quiet zhc466
       refine step_if zF427 zh470 ?_ ?_
       · intro zh472
         refine yenv [(13, .int .i64 1)] (ag_cons zh469 (ag_nil)) ?_
         have zS473 := zS471.loc
         refine Y.pure_ (.int .i64 1) ?_
         exact ⟨zS473.ch, Sp.mk_holds [] all_nil (h2 := (bif_f zh472).symm)⟩
       intro zh472
       exact Sp.mk_holds [] all_nil (h2 := (bif_t zh472).symm)
     refine step_cons ?_ ?_
     · intro zy474 zw475 zhc476 zhf477 zhp478
       have zh479 : zy474 41 = (bif zF427 then undef else (.slice (some ⟨b, o, none⟩) n c)) := (Sp.out0 (zhp478 2 41 (by kernel_rfl) (by kernel_rfl))).1
       have zh480 : zy474 42 = (bif zF427 then undef else (.int .i64 i)) := (Sp.out0 (zhp478 3 42 (by kernel_rfl) (by kernel_rfl))).1
       have zh481 : zy474 40 = .bool zF427 := (Sp.out0 (zhp478 1 40 (by kernel_rfl) (by kernel_rfl))).1
       have zS482 := zS426.quiet zhc476
       refine step_if zF427 zh481 ?_ ?_
       · intro zh483
         have zh484 : zy474 41 = .slice (some ⟨b, o, none⟩) n c := zh479.trans (bif_f zh483)
         have zh485 : zy474 42 = .int .i64 i := zh480.trans (bif_f zh483)
         refine yenv [(41, .slice (some ⟨b, o, none⟩) n c), (42, .int .i64 i)] (ag_cons zh484 (ag_cons zh485 (ag_nil))) ?_
         have zS486 := zS482.loc
         refine Y.idxS_ (e := 39) b o (i).toNat n 6 c .i64 i (by omega) (by omega) rfl ?_
         exact ⟨zS486.ch, Sp.mk_holds [] all_nil (h2 := (bif_f zh483).symm)⟩
       intro zh483
       exact Sp.mk_holds [] all_nil (h2 := (bif_t zh483).symm)
     refine step_cons ?_ ?_
     · intro zy487 zw488 zhc489 zhf490 zhp491
       have zh492 : zy487 44 = (bif zF427 then undef else (.pointer (some ⟨b, (o + (i).toNat * 6), none⟩))) := (Sp.out0 (zhp491 5 44 (by kernel_rfl) (by kernel_rfl))).1
       have zh493 : zy487 40 = .bool zF427 := (Sp.out0 (zhp491 1 40 (by kernel_rfl) (by kernel_rfl))).1
       have zS494 := zS426.quiet zhc489
       refine step_if zF427 zh493 ?_ ?_
       · intro zh495
         have zh496 : zy487 44 = .pointer (some ⟨b, (o + (i).toNat * 6), none⟩) := zh492.trans (bif_f zh495)
         refine yenv [(44, .pointer (some ⟨b, (o + (i).toNat * 6), none⟩))] (ag_cons zh496 (ag_nil)) ?_
         have zS497 := zS494.loc
         refine Y.pure_ (.pointer (some ⟨b, (o + (i).toNat * 6 + 1), none⟩)) ?_
         exact ⟨zS497.ch, Sp.mk_holds [] all_nil (h2 := (bif_f zh495).symm)⟩
       intro zh495
       exact Sp.mk_holds [] all_nil (h2 := (bif_t zh495).symm)
     refine step_cons ?_ ?_
     · intro zy498 zw499 zhc500 zhf501 zhp502
       have zh503 : zy498 45 = (bif zF427 then undef else (.pointer (some ⟨b, (o + (i).toNat * 6 + 1), none⟩))) := (Sp.out0 (zhp502 6 45 (by kernel_rfl) (by kernel_rfl))).1
       have zh504 : zy498 43 = (bif zF427 then undef else (.int .i64 1)) := (Sp.out0 (zhp502 4 43 (by kernel_rfl) (by kernel_rfl))).1
       have zh505 : zy498 40 = .bool zF427 := (Sp.out0 (zhp502 1 40 (by kernel_rfl) (by kernel_rfl))).1
       have zS506 := zS426.quiet zhc500
       refine step_if zF427 zh505 ?_ ?_
       · intro zh507
         have zh508 : zy498 45 = .pointer (some ⟨b, (o + (i).toNat * 6 + 1), none⟩) := zh503.trans (bif_f zh507)
         have zh509 : zy498 43 = .int .i64 1 := zh504.trans (bif_f zh507)
         refine yenv [(45, .pointer (some ⟨b, (o + (i).toNat * 6 + 1), none⟩)), (43, .int .i64 1)] (ag_cons zh508 (ag_cons zh509 (ag_nil))) ?_
         have zS510 := zS506.loc
         refine Y.pure_ (.pointer (some ⟨b, (o + (i).toNat * 6 + 2), none⟩)) ?_
         exact ⟨zS510.ch, Sp.mk_holds [] all_nil (h2 := (bif_f zh507).symm)⟩
       intro zh507
       exact Sp.mk_holds [] all_nil (h2 := (bif_t zh507).symm)
     refine step_cons ?_ ?_
     · intro zy511 zw512 zhc513 zhf514 zhp515
       have zh516 : zy511 46 = (bif zF427 then undef else (.pointer (some ⟨b, (o + (i).toNat * 6 + 2), none⟩))) := (Sp.out0 (zhp515 7 46 (by kernel_rfl) (by kernel_rfl))).1
       have zh517 : zy511 40 = .bool zF427 := (Sp.out0 (zhp515 1 40 (by kernel_rfl) (by kernel_rfl))).1
       have zS518 := zS426.quiet zhc513
       refine step_if zF427 zh517 ?_ ?_
       · intro zh519
         have zh520 : zy511 46 = .pointer (some ⟨b, (o + (i).toNat * 6 + 2), none⟩) := zh516.trans (bif_f zh519)
         refine yenv [(46, .pointer (some ⟨b, (o + (i).toNat * 6 + 2), none⟩))] (ag_cons zh520 (ag_nil)) ?_
         have zS521 := zS518.loc
         have zh522 := hx ((i).toNat) 0
         have zh523 := hx ((i).toNat) 1
         have zh524 := hx ((i).toNat) 2
         have zh525 := hx ((i).toNat) 3
         refine Y.loadO1_ zS518 (.int .i64 (xs (i).toNat 1)) b (o + (i).toNat * 6 + 2) ((hl (i).toNat (by omega)) 2 _ rfl) (by simp) ?_
         exact ⟨zS521.ch, Sp.mk_holds [] all_nil (h2 := (bif_f zh519).symm)⟩
       intro zh519
       exact Sp.mk_holds [] all_nil (h2 := (bif_t zh519).symm)
     refine step_cons ?_ ?_
     · intro zy526 zw527 zhc528 zhf529 zhp530
       have zh531 : zy526 8 = .pointer (some ⟨zb4, 0, none⟩) := (zhf529 8 (by kernel_rfl)).trans (by kernel_rfl)
       have zh532 : zy526 40 = .bool zF427 := (Sp.out0 (zhp530 1 40 (by kernel_rfl) (by kernel_rfl))).1
       have zS533 := zS426.quiet zhc528
       refine step_if zF427 zh532 ?_ ?_
       · intro zh534
         refine yenv [(8, .pointer (some ⟨zb4, 0, none⟩))] (ag_cons zh531 (ag_nil)) ?_
         have zS535 := zS533.loc
         refine Y.pure_ (.pointer (some ⟨zb4, 47, none⟩)) ?_
         exact ⟨zS535.ch, Sp.mk_holds [] all_nil (h2 := (bif_f zh534).symm)⟩
       intro zh534
       exact Sp.mk_holds [] all_nil (h2 := (bif_t zh534).symm)
     refine step_cons ?_ ?_
     · intro zy536 zw537 zhc538 zhf539 zhp540
       have zh541 : zy536 48 = (bif zF427 then undef else (.pointer (some ⟨zb4, 47, none⟩))) := (Sp.out0 (zhp540 9 48 (by kernel_rfl) (by kernel_rfl))).1
       have zh542 : zy536 40 = .bool zF427 := (Sp.out0 (zhp540 1 40 (by kernel_rfl) (by kernel_rfl))).1
       have zS543 := zS426.quiet zhc538
       refine step_if zF427 zh542 ?_ ?_
       · intro zh544
         have zh545 : zy536 48 = .pointer (some ⟨zb4, 47, none⟩) := zh541.trans (bif_f zh544)
         refine yenv [(48, .pointer (some ⟨zb4, 47, none⟩))] (ag_cons zh545 (ag_nil)) ?_
         have zS546 := zS543.loc
         refine Y.load1_ zS546 0 (.int .i64 (by_ % 1001)) zb4 47 ?_
         exact ⟨zS546.ch, Sp.mk_holds [] all_nil (h2 := (bif_f zh544).symm)⟩
       intro zh544
       exact Sp.mk_holds [] all_nil (h2 := (bif_t zh544).symm)
     refine step_cons ?_ ?_
     · intro zy547 zw548 zhc549 zhf550 zhp551
       have zh552 : zy547 47 = (bif zF427 then undef else (.int .i64 (xs (i).toNat 1))) := (Sp.out0 (zhp551 8 47 (by kernel_rfl) (by kernel_rfl))).1
       have zh553 : zy547 49 = (bif zF427 then undef else (.int .i64 (by_ % 1001))) := (Sp.out0 (zhp551 10 49 (by kernel_rfl) (by kernel_rfl))).1
       have zh554 : zy547 40 = .bool zF427 := (Sp.out0 (zhp551 1 40 (by kernel_rfl) (by kernel_rfl))).1
       have zS555 := zS426.quiet zhc549
       refine step_if zF427 zh554 ?_ ?_
       · intro zh556
         have zh557 : zy547 47 = .int .i64 (xs (i).toNat 1) := zh552.trans (bif_f zh556)
         have zh558 : zy547 49 = .int .i64 (by_ % 1001) := zh553.trans (bif_f zh556)
         refine yenv [(47, .int .i64 (xs (i).toNat 1)), (49, .int .i64 (by_ % 1001))] (ag_cons zh557 (ag_cons zh558 (ag_nil))) ?_
         have zS559 := zS555.loc
         refine Y.pure_ (.bool (decide ((by_ % 1001) < (xs (i).toNat 1)))) ?_
         exact ⟨zS559.ch, Sp.mk_holds [] all_nil (h2 := (bif_f zh556).symm)⟩
       intro zh556
       exact Sp.mk_holds [] all_nil (h2 := (bif_t zh556).symm)
     refine step_cons ?_ ?_
     · intro zy560 zw561 zhc562 zhf563 zhp564
       have zh565 : zy560 40 = .bool zF427 := (Sp.out0 (zhp564 1 40 (by kernel_rfl) (by kernel_rfl))).1
       have zh566 : zy560 50 = (bif zF427 then undef else (.bool (decide ((by_ % 1001) < (xs (i).toNat 1))))) := (Sp.out0 (zhp564 11 50 (by kernel_rfl) (by kernel_rfl))).1
       have zS567 := zS426.quiet zhc562
       refine step1 ?_
       refine yenv [(40, .bool zF427), (50, (bif zF427 then undef else (.bool (decide ((by_ % 1001) < (xs (i).toNat 1))))))] (ag_cons zh565 (ag_cons zh566 (ag_nil))) ?_
       have zS568 := zS567.loc
       refine Y.pickB_ zF427 (zF427 || (decide ((by_ % 1001) < (xs (i).toNat 1)))) (.bool true) ((bif zF427 then undef else (.bool (decide ((by_ % 1001) < (xs (i).toNat 1)))))) (fun h => (by rw [h]; rfl)) (fun h => (bif_f h).trans (by rw [h]; rfl)) ?_
       exact ⟨zS568.ch, Sp.mk_holds [] (all_nil)⟩
     refine step_cons ?_ ?_
     · intro zy569 zw570 zhc571 zhf572 zhp573
       have zh574 : zy569 51 = .bool (zF427 || (decide ((by_ % 1001) < (xs (i).toNat 1)))) := (Sp.out0 (zhp573 12 51 (by kernel_rfl) (by kernel_rfl))).1
       have zS575 := zS426.quiet zhc571
       refine step1 ?_
       refine yenv [(51, .bool (zF427 || (decide ((by_ % 1001) < (xs (i).toNat 1)))))] (ag_cons zh574 (ag_nil)) ?_
       have zS576 := zS575.loc
       refine Y.move_ ?_
       exact ⟨zS576.ch, Sp.mk_holds [] (all_nil)⟩
     refine step_cons ?_ ?_
     · intro zy577 zw578 zhc579 zhf580 zhp581
       have zh582 : zy577 2 = .slice (some ⟨b, o, none⟩) n c := (zhf580 2 (by kernel_rfl)).trans (by kernel_rfl)
       have zh583 : zy577 52 = .bool (zF427 || (decide ((by_ % 1001) < (xs (i).toNat 1)))) := (Sp.out0 (zhp581 13 52 (by kernel_rfl) (by kernel_rfl))).1
       have zS584 := zS426.quiet zhc579
       refine step_if (zF427 || (decide ((by_ % 1001) < (xs (i).toNat 1)))) zh583 ?_ ?_
       · intro zh585
         have zh586 := orL zh585
         have zh587 := orR zh585
         have zh588 := ltF' zh587
         refine yenv [(2, .slice (some ⟨b, o, none⟩) n c)] (ag_cons zh582 (ag_nil)) ?_
         have zS589 := zS584.loc
         refine Y.move_ ?_
         exact ⟨zS589.ch, Sp.mk_holds [] all_nil (h2 := (bif_f zh585).symm)⟩
       intro zh585
       exact Sp.mk_holds [] all_nil (h2 := (bif_t zh585).symm)
     refine step_cons ?_ ?_
     · intro zy590 zw591 zhc592 zhf593 zhp594
       have zh595 : zy590 11 = .int .i64 i := (zhf593 11 (by kernel_rfl)).trans (by kernel_rfl)
       have zh596 : zy590 52 = .bool (zF427 || (decide ((by_ % 1001) < (xs (i).toNat 1)))) := (Sp.out0 (zhp594 13 52 (by kernel_rfl) (by kernel_rfl))).1
       have zS597 := zS426.quiet zhc592
       refine step_if (zF427 || (decide ((by_ % 1001) < (xs (i).toNat 1)))) zh596 ?_ ?_
       · intro zh598
         have zh599 := orL zh598
         have zh600 := orR zh598
         have zh601 := ltF' zh600
         refine yenv [(11, .int .i64 i)] (ag_cons zh595 (ag_nil)) ?_
         have zS602 := zS597.loc
         refine Y.pure_ (.int .i64 i) ?_
         exact ⟨zS602.ch, Sp.mk_holds [] all_nil (h2 := (bif_f zh598).symm)⟩
       intro zh598
       exact Sp.mk_holds [] all_nil (h2 := (bif_t zh598).symm)
     refine step_cons ?_ ?_
     · intro zy603 zw604 zhc605 zhf606 zhp607
       have zh608 : zy603 13 = .int .i64 1 := (zhf606 13 (by kernel_rfl)).trans (by kernel_rfl)
       have zh609 : zy603 52 = .bool (zF427 || (decide ((by_ % 1001) < (xs (i).toNat 1)))) := (Sp.out0 (zhp607 13 52 (by kernel_rfl) (by kernel_rfl))).1
       have zS610 := zS426.quiet zhc605
       refine step_if (zF427 || (decide ((by_ % 1001) < (xs (i).toNat 1)))) zh609 ?_ ?_
       · intro zh611
         have zh612 := orL zh611
         have zh613 := orR zh611
         have zh614 := ltF' zh613
         refine yenv [(13, .int .i64 1)] (ag_cons zh608 (ag_nil)) ?_
         have zS615 := zS610.loc
         refine Y.pure_ (.int .i64 1) ?_
         exact ⟨zS615.ch, Sp.mk_holds [] all_nil (h2 := (bif_f zh611).symm)⟩
       intro zh611
       exact Sp.mk_holds [] all_nil (h2 := (bif_t zh611).symm)
     refine step_cons ?_ ?_
     · intro zy616 zw617 zhc618 zhf619 zhp620
       have zh621 : zy616 53 = (bif (zF427 || (decide ((by_ % 1001) < (xs (i).toNat 1)))) then undef else (.slice (some ⟨b, o, none⟩) n c)) := (Sp.out0 (zhp620 14 53 (by kernel_rfl) (by kernel_rfl))).1
       have zh622 : zy616 54 = (bif (zF427 || (decide ((by_ % 1001) < (xs (i).toNat 1)))) then undef else (.int .i64 i)) := (Sp.out0 (zhp620 15 54 (by kernel_rfl) (by kernel_rfl))).1
       have zh623 : zy616 52 = .bool (zF427 || (decide ((by_ % 1001) < (xs (i).toNat 1)))) := (Sp.out0 (zhp620 13 52 (by kernel_rfl) (by kernel_rfl))).1
       have zS624 := zS426.quiet zhc618
       refine step_if (zF427 || (decide ((by_ % 1001) < (xs (i).toNat 1)))) zh623 ?_ ?_
       · intro zh625
         have zh626 := orL zh625
         have zh627 := orR zh625
         have zh628 := ltF' zh627
         have zh629 : zy616 53 = .slice (some ⟨b, o, none⟩) n c := zh621.trans (bif_f zh625)
         have zh630 : zy616 54 = .int .i64 i := zh622.trans (bif_f zh625)
         refine yenv [(53, .slice (some ⟨b, o, none⟩) n c), (54, .int .i64 i)] (ag_cons zh629 (ag_cons zh630 (ag_nil))) ?_
         have zS631 := zS624.loc
         refine Y.idxS_ (e := 39) b o (i).toNat n 6 c .i64 i (by omega) (by omega) rfl ?_
         exact ⟨zS631.ch, Sp.mk_holds [] all_nil (h2 := (bif_f zh625).symm)⟩
       intro zh625
       exact Sp.mk_holds [] all_nil (h2 := (bif_t zh625).symm)
     refine step_cons ?_ ?_
     · intro zy632 zw633 zhc634 zhf635 zhp636
       have zh637 : zy632 56 = (bif (zF427 || (decide ((by_ % 1001) < (xs (i).toNat 1)))) then undef else (.pointer (some ⟨b, (o + (i).toNat * 6), none⟩))) := (Sp.out0 (zhp636 17 56 (by kernel_rfl) (by kernel_rfl))).1
       have zh638 : zy632 52 = .bool (zF427 || (decide ((by_ % 1001) < (xs (i).toNat 1)))) := (Sp.out0 (zhp636 13 52 (by kernel_rfl) (by kernel_rfl))).1
       have zS639 := zS426.quiet zhc634
       refine step_if (zF427 || (decide ((by_ % 1001) < (xs (i).toNat 1)))) zh638 ?_ ?_
       · intro zh640
         have zh641 := orL zh640
         have zh642 := orR zh640
         have zh643 := ltF' zh642
         have zh644 : zy632 56 = .pointer (some ⟨b, (o + (i).toNat * 6), none⟩) := zh637.trans (bif_f zh640)
         refine yenv [(56, .pointer (some ⟨b, (o + (i).toNat * 6), none⟩))] (ag_cons zh644 (ag_nil)) ?_
         have zS645 := zS639.loc
         refine Y.pure_ (.pointer (some ⟨b, (o + (i).toNat * 6 + 1), none⟩)) ?_
         exact ⟨zS645.ch, Sp.mk_holds [] all_nil (h2 := (bif_f zh640).symm)⟩
       intro zh640
       exact Sp.mk_holds [] all_nil (h2 := (bif_t zh640).symm)
     refine step_cons ?_ ?_
     · intro zy646 zw647 zhc648 zhf649 zhp650
       have zh651 : zy646 57 = (bif (zF427 || (decide ((by_ % 1001) < (xs (i).toNat 1)))) then undef else (.pointer (some ⟨b, (o + (i).toNat * 6 + 1), none⟩))) := (Sp.out0 (zhp650 18 57 (by kernel_rfl) (by kernel_rfl))).1
       have zh652 : zy646 55 = (bif (zF427 || (decide ((by_ % 1001) < (xs (i).toNat 1)))) then undef else (.int .i64 1)) := (Sp.out0 (zhp650 16 55 (by kernel_rfl) (by kernel_rfl))).1
       have zh653 : zy646 52 = .bool (zF427 || (decide ((by_ % 1001) < (xs (i).toNat 1)))) := (Sp.out0 (zhp650 13 52 (by kernel_rfl) (by kernel_rfl))).1
       have zS654 := zS426.quiet zhc648
       refine step_if (zF427 || (decide ((by_ % 1001) < (xs (i).toNat 1)))) zh653 ?_ ?_
       · intro zh655
         have zh656 := orL zh655
         have zh657 := orR zh655
         have zh658 := ltF' zh657
         have zh659 : zy646 57 = .pointer (some ⟨b, (o + (i).toNat * 6 + 1), none⟩) := zh651.trans (bif_f zh655)
         have zh660 : zy646 55 = .int .i64 1 := zh652.trans (bif_f zh655)
         refine yenv [(57, .pointer (some ⟨b, (o + (i).toNat * 6 + 1), none⟩)), (55, .int .i64 1)] (ag_cons zh659 (ag_cons zh660 (ag_nil))) ?_
         have zS661 := zS654.loc
         refine Y.pure_ (.pointer (some ⟨b, (o + (i).toNat * 6 + 2), none⟩)) ?_
         exact ⟨zS661.ch, Sp.mk_holds [] all_nil (h2 := (bif_f zh655).symm)⟩
       intro zh655
       exact Sp.mk_holds [] all_nil (h2 := (bif_t zh655).symm)
     refine step_cons ?_ ?_
     · intro zy662 zw663 zhc664 zhf665 zhp666
       have zh667 : zy662 58 = (bif (zF427 || (decide ((by_ % 1001) < (xs (i).toNat 1)))) then undef else (.pointer (some ⟨b, (o + (i).toNat * 6 + 2), none⟩))) := (Sp.out0 (zhp666 19 58 (by kernel_rfl) (by kernel_rfl))).1
       have zh668 : zy662 52 = .bool (zF427 || (decide ((by_ % 1001) < (xs (i).toNat 1)))) := (Sp.out0 (zhp666 13 52 (by kernel_rfl) (by kernel_rfl))).1
       have zS669 := zS426.quiet zhc664
       refine step_if (zF427 || (decide ((by_ % 1001) < (xs (i).toNat 1)))) zh668 ?_ ?_
       · intro zh670
         have zh671 := orL zh670
         have zh672 := orR zh670
         have zh673 := ltF' zh672
         have zh674 : zy662 58 = .pointer (some ⟨b, (o + (i).toNat * 6 + 2), none⟩) := zh667.trans (bif_f zh670)
         refine yenv [(58, .pointer (some ⟨b, (o + (i).toNat * 6 + 2), none⟩))] (ag_cons zh674 (ag_nil)) ?_
         have zS675 := zS669.loc
         have zh676 := hx ((i).toNat) 0
         have zh677 := hx ((i).toNat) 1
         have zh678 := hx ((i).toNat) 2
         have zh679 := hx ((i).toNat) 3
         refine Y.loadO1_ zS669 (.int .i64 (xs (i).toNat 1)) b (o + (i).toNat * 6 + 2) ((hl (i).toNat (by omega)) 2 _ rfl) (by simp) ?_
         exact ⟨zS675.ch, Sp.mk_holds [] all_nil (h2 := (bif_f zh670).symm)⟩
       intro zh670
       exact Sp.mk_holds [] all_nil (h2 := (bif_t zh670).symm)
     refine step_cons ?_ ?_
     · intro zy680 zw681 zhc682 zhf683 zhp684
       have zh685 : zy680 8 = .pointer (some ⟨zb4, 0, none⟩) := (zhf683 8 (by kernel_rfl)).trans (by kernel_rfl)
       have zh686 : zy680 52 = .bool (zF427 || (decide ((by_ % 1001) < (xs (i).toNat 1)))) := (Sp.out0 (zhp684 13 52 (by kernel_rfl) (by kernel_rfl))).1
       have zS687 := zS426.quiet zhc682
       refine step_if (zF427 || (decide ((by_ % 1001) < (xs (i).toNat 1)))) zh686 ?_ ?_
       · intro zh688
         have zh689 := orL zh688
         have zh690 := orR zh688
         have zh691 := ltF' zh690
         refine yenv [(8, .pointer (some ⟨zb4, 0, none⟩))] (ag_cons zh685 (ag_nil)) ?_
         have zS692 := zS687.loc
         refine Y.pure_ (.pointer (some ⟨zb4, 47, none⟩)) ?_
         exact ⟨zS692.ch, Sp.mk_holds [] all_nil (h2 := (bif_f zh688).symm)⟩
       intro zh688
       exact Sp.mk_holds [] all_nil (h2 := (bif_t zh688).symm)
     refine step_cons ?_ ?_
     · intro zy693 zw694 zhc695 zhf696 zhp697
       have zh698 : zy693 60 = (bif (zF427 || (decide ((by_ % 1001) < (xs (i).toNat 1)))) then undef else (.pointer (some ⟨zb4, 47, none⟩))) := (Sp.out0 (zhp697 21 60 (by kernel_rfl) (by kernel_rfl))).1
       have zh699 : zy693 52 = .bool (zF427 || (decide ((by_ % 1001) < (xs (i).toNat 1)))) := (Sp.out0 (zhp697 13 52 (by kernel_rfl) (by kernel_rfl))).1
       have zS700 := zS426.quiet zhc695
       refine step_if (zF427 || (decide ((by_ % 1001) < (xs (i).toNat 1)))) zh699 ?_ ?_
       · intro zh701
         have zh702 := orL zh701
         have zh703 := orR zh701
         have zh704 := ltF' zh703
         have zh705 : zy693 60 = .pointer (some ⟨zb4, 47, none⟩) := zh698.trans (bif_f zh701)
         refine yenv [(60, .pointer (some ⟨zb4, 47, none⟩))] (ag_cons zh705 (ag_nil)) ?_
         have zS706 := zS700.loc
         refine Y.load1_ zS706 0 (.int .i64 (by_ % 1001)) zb4 47 ?_
         exact ⟨zS706.ch, Sp.mk_holds [] all_nil (h2 := (bif_f zh701).symm)⟩
       intro zh701
       exact Sp.mk_holds [] all_nil (h2 := (bif_t zh701).symm)
     refine step_cons ?_ ?_
     · intro zy707 zw708 zhc709 zhf710 zhp711
       have zh712 : zy707 61 = (bif (zF427 || (decide ((by_ % 1001) < (xs (i).toNat 1)))) then undef else (.int .i64 (by_ % 1001))) := (Sp.out0 (zhp711 22 61 (by kernel_rfl) (by kernel_rfl))).1
       have zh713 : zy707 52 = .bool (zF427 || (decide ((by_ % 1001) < (xs (i).toNat 1)))) := (Sp.out0 (zhp711 13 52 (by kernel_rfl) (by kernel_rfl))).1
       have zS714 := zS426.quiet zhc709
       refine step_if (zF427 || (decide ((by_ % 1001) < (xs (i).toNat 1)))) zh713 ?_ ?_
       · intro zh715
         have zh716 := orL zh715
         have zh717 := orR zh715
         have zh718 := ltF' zh717
         have zh719 : zy707 61 = .int .i64 (by_ % 1001) := zh712.trans (bif_f zh715)
         refine yenv [(61, .int .i64 (by_ % 1001))] (ag_cons zh719 (ag_nil)) ?_
         have zS720 := zS714.loc
         refine Y.sum_ .i64 (0 - (by_ % 1001)) (IntWalk.i64_in _ (by omega)) ?_
         exact ⟨zS720.ch, Sp.mk_holds [] all_nil (h2 := (bif_f zh715).symm)⟩
       intro zh715
       exact Sp.mk_holds [] all_nil (h2 := (bif_t zh715).symm)
     refine step_cons ?_ ?_
     · intro zy721 zw722 zhc723 zhf724 zhp725
       have zh726 : zy721 59 = (bif (zF427 || (decide ((by_ % 1001) < (xs (i).toNat 1)))) then undef else (.int .i64 (xs (i).toNat 1))) := (Sp.out0 (zhp725 20 59 (by kernel_rfl) (by kernel_rfl))).1
       have zh727 : zy721 62 = (bif (zF427 || (decide ((by_ % 1001) < (xs (i).toNat 1)))) then undef else (.int .i64 (0 - (by_ % 1001)))) := (Sp.out0 (zhp725 23 62 (by kernel_rfl) (by kernel_rfl))).1
       have zh728 : zy721 52 = .bool (zF427 || (decide ((by_ % 1001) < (xs (i).toNat 1)))) := (Sp.out0 (zhp725 13 52 (by kernel_rfl) (by kernel_rfl))).1
       have zS729 := zS426.quiet zhc723
       refine step_if (zF427 || (decide ((by_ % 1001) < (xs (i).toNat 1)))) zh728 ?_ ?_
       · intro zh730
         have zh731 := orL zh730
         have zh732 := orR zh730
         have zh733 := ltF' zh732
         have zh734 : zy721 59 = .int .i64 (xs (i).toNat 1) := zh726.trans (bif_f zh730)
         have zh735 : zy721 62 = .int .i64 (0 - (by_ % 1001)) := zh727.trans (bif_f zh730)
         refine yenv [(59, .int .i64 (xs (i).toNat 1)), (62, .int .i64 (0 - (by_ % 1001)))] (ag_cons zh734 (ag_cons zh735 (ag_nil))) ?_
         have zS736 := zS729.loc
         refine Y.pure_ (.bool (decide ((xs (i).toNat 1) < (0 - (by_ % 1001))))) ?_
         exact ⟨zS736.ch, Sp.mk_holds [] all_nil (h2 := (bif_f zh730).symm)⟩
       intro zh730
       exact Sp.mk_holds [] all_nil (h2 := (bif_t zh730).symm)
     refine step_cons ?_ ?_
     · intro zy737 zw738 zhc739 zhf740 zhp741
       have zh742 : zy737 52 = .bool (zF427 || (decide ((by_ % 1001) < (xs (i).toNat 1)))) := (Sp.out0 (zhp741 13 52 (by kernel_rfl) (by kernel_rfl))).1
       have zh743 : zy737 63 = (bif (zF427 || (decide ((by_ % 1001) < (xs (i).toNat 1)))) then undef else (.bool (decide ((xs (i).toNat 1) < (0 - (by_ % 1001)))))) := (Sp.out0 (zhp741 24 63 (by kernel_rfl) (by kernel_rfl))).1
       have zS744 := zS426.quiet zhc739
       refine step1 ?_
       refine yenv [(52, .bool (zF427 || (decide ((by_ % 1001) < (xs (i).toNat 1))))), (63, (bif (zF427 || (decide ((by_ % 1001) < (xs (i).toNat 1)))) then undef else (.bool (decide ((xs (i).toNat 1) < (0 - (by_ % 1001)))))))] (ag_cons zh742 (ag_cons zh743 (ag_nil))) ?_
       have zS745 := zS744.loc
       refine Y.pickB_ (zF427 || (decide ((by_ % 1001) < (xs (i).toNat 1)))) ((zF427 || (decide ((by_ % 1001) < (xs (i).toNat 1)))) || (decide ((xs (i).toNat 1) < (0 - (by_ % 1001))))) (.bool true) ((bif (zF427 || (decide ((by_ % 1001) < (xs (i).toNat 1)))) then undef else (.bool (decide ((xs (i).toNat 1) < (0 - (by_ % 1001))))))) (fun h => (by rw [h]; rfl)) (fun h => (bif_f h).trans (by rw [h]; rfl)) ?_
       exact ⟨zS745.ch, Sp.mk_holds [] (all_nil)⟩
     refine step_cons ?_ ?_
     · intro zy746 zw747 zhc748 zhf749 zhp750
       have zh751 : zy746 64 = .bool ((zF427 || (decide ((by_ % 1001) < (xs (i).toNat 1)))) || (decide ((xs (i).toNat 1) < (0 - (by_ % 1001))))) := (Sp.out0 (zhp750 25 64 (by kernel_rfl) (by kernel_rfl))).1
       have zS752 := zS426.quiet zhc748
       refine step1 ?_
       refine yenv [(64, .bool ((zF427 || (decide ((by_ % 1001) < (xs (i).toNat 1)))) || (decide ((xs (i).toNat 1) < (0 - (by_ % 1001))))))] (ag_cons zh751 (ag_nil)) ?_
       have zS753 := zS752.loc
       refine Y.assign_ ?_
       exact ⟨zS753.ch, Sp.mk_holds [] (all_nil)⟩
     exact step_nil
   intro zv754 zw755 zhc756 zha757
   have zh758 : zv754 0 = .bool zF427 := (Sp.out0 (zha757 0 (by kernel_rfl))).1
   have zh759 : zv754 1 = .bool zF427 := (Sp.out0 (zha757 1 (by kernel_rfl))).1
   have zh760 : zv754 2 = (bif zF427 then undef else (.slice (some ⟨b, o, none⟩) n c)) := (Sp.out0 (zha757 2 (by kernel_rfl))).1
   have zh761 : zv754 3 = (bif zF427 then undef else (.int .i64 i)) := (Sp.out0 (zha757 3 (by kernel_rfl))).1
   have zh762 : zv754 4 = (bif zF427 then undef else (.int .i64 1)) := (Sp.out0 (zha757 4 (by kernel_rfl))).1
   have zh763 : zv754 5 = (bif zF427 then undef else (.pointer (some ⟨b, (o + (i).toNat * 6), none⟩))) := (Sp.out0 (zha757 5 (by kernel_rfl))).1
   have zh764 : zv754 6 = (bif zF427 then undef else (.pointer (some ⟨b, (o + (i).toNat * 6 + 1), none⟩))) := (Sp.out0 (zha757 6 (by kernel_rfl))).1
   have zh765 : zv754 7 = (bif zF427 then undef else (.pointer (some ⟨b, (o + (i).toNat * 6 + 2), none⟩))) := (Sp.out0 (zha757 7 (by kernel_rfl))).1
   have zh766 : zv754 8 = (bif zF427 then undef else (.int .i64 (xs (i).toNat 1))) := (Sp.out0 (zha757 8 (by kernel_rfl))).1
   have zh767 : zv754 9 = (bif zF427 then undef else (.pointer (some ⟨zb4, 47, none⟩))) := (Sp.out0 (zha757 9 (by kernel_rfl))).1
   have zh768 : zv754 10 = (bif zF427 then undef else (.int .i64 (by_ % 1001))) := (Sp.out0 (zha757 10 (by kernel_rfl))).1
   have zh769 : zv754 11 = (bif zF427 then undef else (.bool (decide ((by_ % 1001) < (xs (i).toNat 1))))) := (Sp.out0 (zha757 11 (by kernel_rfl))).1
   have zh770 : zv754 12 = .bool (zF427 || (decide ((by_ % 1001) < (xs (i).toNat 1)))) := (Sp.out0 (zha757 12 (by kernel_rfl))).1
   have zh771 : zv754 13 = .bool (zF427 || (decide ((by_ % 1001) < (xs (i).toNat 1)))) := (Sp.out0 (zha757 13 (by kernel_rfl))).1
   have zh772 : zv754 14 = (bif (zF427 || (decide ((by_ % 1001) < (xs (i).toNat 1)))) then undef else (.slice (some ⟨b, o, none⟩) n c)) := (Sp.out0 (zha757 14 (by kernel_rfl))).1
   have zh773 : zv754 15 = (bif (zF427 || (decide ((by_ % 1001) < (xs (i).toNat 1)))) then undef else (.int .i64 i)) := (Sp.out0 (zha757 15 (by kernel_rfl))).1
   have zh774 : zv754 16 = (bif (zF427 || (decide ((by_ % 1001) < (xs (i).toNat 1)))) then undef else (.int .i64 1)) := (Sp.out0 (zha757 16 (by kernel_rfl))).1
   have zh775 : zv754 17 = (bif (zF427 || (decide ((by_ % 1001) < (xs (i).toNat 1)))) then undef else (.pointer (some ⟨b, (o + (i).toNat * 6), none⟩))) := (Sp.out0 (zha757 17 (by kernel_rfl))).1
   have zh776 : zv754 18 = (bif (zF427 || (decide ((by_ % 1001) < (xs (i).toNat 1)))) then undef else (.pointer (some ⟨b, (o + (i).toNat * 6 + 1), none⟩))) := (Sp.out0 (zha757 18 (by kernel_rfl))).1
   have zh777 : zv754 19 = (bif (zF427 || (decide ((by_ % 1001) < (xs (i).toNat 1)))) then undef else (.pointer (some ⟨b, (o + (i).toNat * 6 + 2), none⟩))) := (Sp.out0 (zha757 19 (by kernel_rfl))).1
   have zh778 : zv754 20 = (bif (zF427 || (decide ((by_ % 1001) < (xs (i).toNat 1)))) then undef else (.int .i64 (xs (i).toNat 1))) := (Sp.out0 (zha757 20 (by kernel_rfl))).1
   have zh779 : zv754 21 = (bif (zF427 || (decide ((by_ % 1001) < (xs (i).toNat 1)))) then undef else (.pointer (some ⟨zb4, 47, none⟩))) := (Sp.out0 (zha757 21 (by kernel_rfl))).1
   have zh780 : zv754 22 = (bif (zF427 || (decide ((by_ % 1001) < (xs (i).toNat 1)))) then undef else (.int .i64 (by_ % 1001))) := (Sp.out0 (zha757 22 (by kernel_rfl))).1
   have zh781 : zv754 23 = (bif (zF427 || (decide ((by_ % 1001) < (xs (i).toNat 1)))) then undef else (.int .i64 (0 - (by_ % 1001)))) := (Sp.out0 (zha757 23 (by kernel_rfl))).1
   have zh782 : zv754 24 = (bif (zF427 || (decide ((by_ % 1001) < (xs (i).toNat 1)))) then undef else (.bool (decide ((xs (i).toNat 1) < (0 - (by_ % 1001)))))) := (Sp.out0 (zha757 24 (by kernel_rfl))).1
   have zh783 : zv754 25 = .bool ((zF427 || (decide ((by_ % 1001) < (xs (i).toNat 1)))) || (decide ((xs (i).toNat 1) < (0 - (by_ % 1001))))) := (Sp.out0 (zha757 25 (by kernel_rfl))).1
   have zh784 : zv754 26 = .bool ((zF427 || (decide ((by_ % 1001) < (xs (i).toNat 1)))) || (decide ((xs (i).toNat 1) < (0 - (by_ % 1001))))) := (Sp.out0 (zha757 26 (by kernel_rfl))).1
   have zS785 := zS426.quiet zhc756
   refine ⟨[.bool zF427, .bool zF427, (bif zF427 then undef else (.slice (some ⟨b, o, none⟩) n c)), (bif zF427 then undef else (.int .i64 i)), (bif zF427 then undef else (.int .i64 1)), (bif zF427 then undef else (.pointer (some ⟨b, (o + (i).toNat * 6), none⟩))), (bif zF427 then undef else (.pointer (some ⟨b, (o + (i).toNat * 6 + 1), none⟩))), (bif zF427 then undef else (.pointer (some ⟨b, (o + (i).toNat * 6 + 2), none⟩))), (bif zF427 then undef else (.int .i64 (xs (i).toNat 1))), (bif zF427 then undef else (.pointer (some ⟨zb4, 47, none⟩))), (bif zF427 then undef else (.int .i64 (by_ % 1001))), (bif zF427 then undef else (.bool (decide ((by_ % 1001) < (xs (i).toNat 1))))), .bool (zF427 || (decide ((by_ % 1001) < (xs (i).toNat 1)))), .bool (zF427 || (decide ((by_ % 1001) < (xs (i).toNat 1)))), (bif (zF427 || (decide ((by_ % 1001) < (xs (i).toNat 1)))) then undef else (.slice (some ⟨b, o, none⟩) n c)), (bif (zF427 || (decide ((by_ % 1001) < (xs (i).toNat 1)))) then undef else (.int .i64 i)), (bif (zF427 || (decide ((by_ % 1001) < (xs (i).toNat 1)))) then undef else (.int .i64 1)), (bif (zF427 || (decide ((by_ % 1001) < (xs (i).toNat 1)))) then undef else (.pointer (some ⟨b, (o + (i).toNat * 6), none⟩))), (bif (zF427 || (decide ((by_ % 1001) < (xs (i).toNat 1)))) then undef else (.pointer (some ⟨b, (o + (i).toNat * 6 + 1), none⟩))), (bif (zF427 || (decide ((by_ % 1001) < (xs (i).toNat 1)))) then undef else (.pointer (some ⟨b, (o + (i).toNat * 6 + 2), none⟩))), (bif (zF427 || (decide ((by_ % 1001) < (xs (i).toNat 1)))) then undef else (.int .i64 (xs (i).toNat 1))), (bif (zF427 || (decide ((by_ % 1001) < (xs (i).toNat 1)))) then undef else (.pointer (some ⟨zb4, 47, none⟩))), (bif (zF427 || (decide ((by_ % 1001) < (xs (i).toNat 1)))) then undef else (.int .i64 (by_ % 1001))), (bif (zF427 || (decide ((by_ % 1001) < (xs (i).toNat 1)))) then undef else (.int .i64 (0 - (by_ % 1001)))), (bif (zF427 || (decide ((by_ % 1001) < (xs (i).toNat 1)))) then undef else (.bool (decide ((xs (i).toNat 1) < (0 - (by_ % 1001)))))), .bool ((zF427 || (decide ((by_ % 1001) < (xs (i).toNat 1)))) || (decide ((xs (i).toNat 1) < (0 - (by_ % 1001))))), .bool ((zF427 || (decide ((by_ % 1001) < (xs (i).toNat 1)))) || (decide ((xs (i).toNat 1) < (0 - (by_ % 1001)))))], by kernel_rfl, va_cons zh758 (va_cons zh759 (va_cons zh760 (va_cons zh761 (va_cons zh762 (va_cons zh763 (va_cons zh764 (va_cons zh765 (va_cons zh766 (va_cons zh767 (va_cons zh768 (va_cons zh769 (va_cons zh770 (va_cons zh771 (va_cons zh772 (va_cons zh773 (va_cons zh774 (va_cons zh775 (va_cons zh776 (va_cons zh777 (va_cons zh778 (va_cons zh779 (va_cons zh780 (va_cons zh781 (va_cons zh782 (va_cons zh783 (va_cons zh784 (va_nil))))))))))))))))))))))))))), ?_⟩
   refine nil_ (blk_n (then_n (reg_ ?_)))
   refine pure_ (.int .i64 1) ?_
   refine pure_ (.int .i64 2) ?_
   refine pure_ (.int .i64 2) ?_
   refine nil_ ?_
   obtain ⟨zF786, hzF786⟩ : ∃ z, z = ((zF427 || (decide ((by_ % 1001) < (xs (i).toNat 1)))) || (decide ((xs (i).toNat 1) < (0 - (by_ % 1001))))) := ⟨_, rfl⟩
   rw [← hzF786]
   refine again_ (seq_ (seq_ (reg_ ?_)))
   refine pure_ (.int .i64 2) ?_
   refine pure_ (.bool true) ?_
   refine nil_ (then_n (cond_T ?_))
   refine wp_skip (then_n (seq_ (wp_block ?_)))
   refine drawnL_ 27 [⟨0, fun _ => .bool zF786, fun _ => []⟩, ⟨0, fun _ => .bool zF786, fun _ => []⟩, ⟨0, fun _ => (bif zF786 then undef else (.slice (some ⟨b, o, none⟩) n c)), fun _ => []⟩, ⟨0, fun _ => (bif zF786 then undef else (.int .i64 i)), fun _ => []⟩, ⟨0, fun _ => (bif zF786 then undef else (.int .i64 2)), fun _ => []⟩, ⟨0, fun _ => (bif zF786 then undef else (.pointer (some ⟨b, (o + (i).toNat * 6), none⟩))), fun _ => []⟩, ⟨0, fun _ => (bif zF786 then undef else (.pointer (some ⟨b, (o + (i).toNat * 6 + 1), none⟩))), fun _ => []⟩, ⟨0, fun _ => (bif zF786 then undef else (.pointer (some ⟨b, (o + (i).toNat * 6 + 3), none⟩))), fun _ => []⟩, ⟨0, fun _ => (bif zF786 then undef else (.int .i64 (xs (i).toNat 2))), fun _ => []⟩, ⟨0, fun _ => (bif zF786 then undef else (.pointer (some ⟨zb4, 47, none⟩))), fun _ => []⟩, ⟨0, fun _ => (bif zF786 then undef else (.int .i64 (by_ % 1001))), fun _ => []⟩, ⟨0, fun _ => (bif zF786 then undef else (.bool (decide ((by_ % 1001) < (xs (i).toNat 2))))), fun _ => []⟩, ⟨0, fun _ => .bool (zF786 || (decide ((by_ % 1001) < (xs (i).toNat 2)))), fun _ => []⟩, ⟨0, fun _ => .bool (zF786 || (decide ((by_ % 1001) < (xs (i).toNat 2)))), fun _ => []⟩, ⟨0, fun _ => (bif (zF786 || (decide ((by_ % 1001) < (xs (i).toNat 2)))) then undef else (.slice (some ⟨b, o, none⟩) n c)), fun _ => []⟩, ⟨0, fun _ => (bif (zF786 || (decide ((by_ % 1001) < (xs (i).toNat 2)))) then undef else (.int .i64 i)), fun _ => []⟩, ⟨0, fun _ => (bif (zF786 || (decide ((by_ % 1001) < (xs (i).toNat 2)))) then undef else (.int .i64 2)), fun _ => []⟩, ⟨0, fun _ => (bif (zF786 || (decide ((by_ % 1001) < (xs (i).toNat 2)))) then undef else (.pointer (some ⟨b, (o + (i).toNat * 6), none⟩))), fun _ => []⟩, ⟨0, fun _ => (bif (zF786 || (decide ((by_ % 1001) < (xs (i).toNat 2)))) then undef else (.pointer (some ⟨b, (o + (i).toNat * 6 + 1), none⟩))), fun _ => []⟩, ⟨0, fun _ => (bif (zF786 || (decide ((by_ % 1001) < (xs (i).toNat 2)))) then undef else (.pointer (some ⟨b, (o + (i).toNat * 6 + 3), none⟩))), fun _ => []⟩, ⟨0, fun _ => (bif (zF786 || (decide ((by_ % 1001) < (xs (i).toNat 2)))) then undef else (.int .i64 (xs (i).toNat 2))), fun _ => []⟩, ⟨0, fun _ => (bif (zF786 || (decide ((by_ % 1001) < (xs (i).toNat 2)))) then undef else (.pointer (some ⟨zb4, 47, none⟩))), fun _ => []⟩, ⟨0, fun _ => (bif (zF786 || (decide ((by_ % 1001) < (xs (i).toNat 2)))) then undef else (.int .i64 (by_ % 1001))), fun _ => []⟩, ⟨0, fun _ => (bif (zF786 || (decide ((by_ % 1001) < (xs (i).toNat 2)))) then undef else (.int .i64 (0 - (by_ % 1001)))), fun _ => []⟩, ⟨0, fun _ => (bif (zF786 || (decide ((by_ % 1001) < (xs (i).toNat 2)))) then undef else (.bool (decide ((xs (i).toNat 2) < (0 - (by_ % 1001)))))), fun _ => []⟩, ⟨0, fun _ => .bool ((zF786 || (decide ((by_ % 1001) < (xs (i).toNat 2)))) || (decide ((xs (i).toNat 2) < (0 - (by_ % 1001))))), fun _ => []⟩, ⟨0, fun _ => .bool ((zF786 || (decide ((by_ % 1001) < (xs (i).toNat 2)))) || (decide ((xs (i).toNat 2) < (0 - (by_ % 1001))))), fun _ => []⟩] [] ?_ ?_
   · refine step_cons ?_ ?_
     · intro zy787 zw788 zhc789 zhf790 zhp791
       have zh792 : zy787 12 = .bool zF786 := (zhf790 12 (by kernel_rfl)).trans (by kernel_rfl)
       have zS793 := zS785.quiet zhc789
       refine step1 ?_
       refine yenv [(12, .bool zF786)] (ag_cons zh792 (ag_nil)) ?_
       have zS794 := zS793.loc
       refine Y.pure_ (.bool zF786) ?_
       exact ⟨zS794.ch, Sp.mk_holds [] (all_nil)⟩
     refine step_cons ?_ ?_
     · intro zy795 zw796 zhc797 zhf798 zhp799
       have zh800 : zy795 39 = .bool zF786 := (Sp.out0 (zhp799 0 39 (by kernel_rfl) (by kernel_rfl))).1
       have zS801 := zS785.quiet zhc797
       refine step1 ?_
       refine yenv [(39, .bool zF786)] (ag_cons zh800 (ag_nil)) ?_
       have zS802 := zS801.loc
       refine Y.pure_ (.bool zF786) ?_
       exact ⟨zS802.ch, Sp.mk_holds [] (all_nil)⟩
     refine step_cons ?_ ?_
     · intro zy803 zw804 zhc805 zhf806 zhp807
       have zh808 : zy803 2 = .slice (some ⟨b, o, none⟩) n c := (zhf806 2 (by kernel_rfl)).trans (by kernel_rfl)
       have zh809 : zy803 40 = .bool zF786 := (Sp.out0 (zhp807 1 40 (by kernel_rfl) (by kernel_rfl))).1
       have zS810 := zS785.quiet zhc805
       refine step_if zF786 zh809 ?_ ?_
       · intro zh811
         refine yenv [(2, .slice (some ⟨b, o, none⟩) n c)] (ag_cons zh808 (ag_nil)) ?_
         have zS812 := zS810.loc
         refine Y.move_ ?_
         exact ⟨zS812.ch, Sp.mk_holds [] all_nil (h2 := (bif_f zh811).symm)⟩
       intro zh811
       exact Sp.mk_holds [] all_nil (h2 := (bif_t zh811).symm)
     refine step_cons ?_ ?_
     · intro zy813 zw814 zhc815 zhf816 zhp817
       have zh818 : zy813 11 = .int .i64 i := (zhf816 11 (by kernel_rfl)).trans (by kernel_rfl)
       have zh819 : zy813 40 = .bool zF786 := (Sp.out0 (zhp817 1 40 (by kernel_rfl) (by kernel_rfl))).1
       have zS820 := zS785.quiet zhc815
       refine step_if zF786 zh819 ?_ ?_
       · intro zh821
         refine yenv [(11, .int .i64 i)] (ag_cons zh818 (ag_nil)) ?_
         have zS822 := zS820.loc
         refine Y.pure_ (.int .i64 i) ?_
         exact ⟨zS822.ch, Sp.mk_holds [] all_nil (h2 := (bif_f zh821).symm)⟩
       intro zh821
       exact Sp.mk_holds [] all_nil (h2 := (bif_t zh821).symm)
     refine step_cons ?_ ?_
     · intro zy823 zw824 zhc825 zhf826 zhp827
       have zh828 : zy823 13 = .int .i64 2 := (zhf826 13 (by kernel_rfl)).trans (by kernel_rfl)
       have zh829 : zy823 40 = .bool zF786 := (Sp.out0 (zhp827 1 40 (by kernel_rfl) (by kernel_rfl))).1
       have zS830 := zS785.quiet zhc825
       refine step_if zF786 zh829 ?_ ?_
       · intro zh831
         refine yenv [(13, .int .i64 2)] (ag_cons zh828 (ag_nil)) ?_
         have zS832 := zS830.loc
         refine Y.pure_ (.int .i64 2) ?_
         exact ⟨zS832.ch, Sp.mk_holds [] all_nil (h2 := (bif_f zh831).symm)⟩
       intro zh831
       exact Sp.mk_holds [] all_nil (h2 := (bif_t zh831).symm)
     refine step_cons ?_ ?_
     · intro zy833 zw834 zhc835 zhf836 zhp837
       have zh838 : zy833 41 = (bif zF786 then undef else (.slice (some ⟨b, o, none⟩) n c)) := (Sp.out0 (zhp837 2 41 (by kernel_rfl) (by kernel_rfl))).1
       have zh839 : zy833 42 = (bif zF786 then undef else (.int .i64 i)) := (Sp.out0 (zhp837 3 42 (by kernel_rfl) (by kernel_rfl))).1
       have zh840 : zy833 40 = .bool zF786 := (Sp.out0 (zhp837 1 40 (by kernel_rfl) (by kernel_rfl))).1
       have zS841 := zS785.quiet zhc835
       refine step_if zF786 zh840 ?_ ?_
       · intro zh842
         have zh843 : zy833 41 = .slice (some ⟨b, o, none⟩) n c := zh838.trans (bif_f zh842)
         have zh844 : zy833 42 = .int .i64 i := zh839.trans (bif_f zh842)
         refine yenv [(41, .slice (some ⟨b, o, none⟩) n c), (42, .int .i64 i)] (ag_cons zh843 (ag_cons zh844 (ag_nil))) ?_
         have zS845 := zS841.loc
         refine Y.idxS_ (e := 39) b o (i).toNat n 6 c .i64 i (by omega) (by omega) rfl ?_
         exact ⟨zS845.ch, Sp.mk_holds [] all_nil (h2 := (bif_f zh842).symm)⟩
       intro zh842
       exact Sp.mk_holds [] all_nil (h2 := (bif_t zh842).symm)
     refine step_cons ?_ ?_
     · intro zy846 zw847 zhc848 zhf849 zhp850
       have zh851 : zy846 44 = (bif zF786 then undef else (.pointer (some ⟨b, (o + (i).toNat * 6), none⟩))) := (Sp.out0 (zhp850 5 44 (by kernel_rfl) (by kernel_rfl))).1
       have zh852 : zy846 40 = .bool zF786 := (Sp.out0 (zhp850 1 40 (by kernel_rfl) (by kernel_rfl))).1
       have zS853 := zS785.quiet zhc848
       refine step_if zF786 zh852 ?_ ?_
       · intro zh854
         have zh855 : zy846 44 = .pointer (some ⟨b, (o + (i).toNat * 6), none⟩) := zh851.trans (bif_f zh854)
         refine yenv [(44, .pointer (some ⟨b, (o + (i).toNat * 6), none⟩))] (ag_cons zh855 (ag_nil)) ?_
         have zS856 := zS853.loc
         refine Y.pure_ (.pointer (some ⟨b, (o + (i).toNat * 6 + 1), none⟩)) ?_
         exact ⟨zS856.ch, Sp.mk_holds [] all_nil (h2 := (bif_f zh854).symm)⟩
       intro zh854
       exact Sp.mk_holds [] all_nil (h2 := (bif_t zh854).symm)
     refine step_cons ?_ ?_
     · intro zy857 zw858 zhc859 zhf860 zhp861
       have zh862 : zy857 45 = (bif zF786 then undef else (.pointer (some ⟨b, (o + (i).toNat * 6 + 1), none⟩))) := (Sp.out0 (zhp861 6 45 (by kernel_rfl) (by kernel_rfl))).1
       have zh863 : zy857 43 = (bif zF786 then undef else (.int .i64 2)) := (Sp.out0 (zhp861 4 43 (by kernel_rfl) (by kernel_rfl))).1
       have zh864 : zy857 40 = .bool zF786 := (Sp.out0 (zhp861 1 40 (by kernel_rfl) (by kernel_rfl))).1
       have zS865 := zS785.quiet zhc859
       refine step_if zF786 zh864 ?_ ?_
       · intro zh866
         have zh867 : zy857 45 = .pointer (some ⟨b, (o + (i).toNat * 6 + 1), none⟩) := zh862.trans (bif_f zh866)
         have zh868 : zy857 43 = .int .i64 2 := zh863.trans (bif_f zh866)
         refine yenv [(45, .pointer (some ⟨b, (o + (i).toNat * 6 + 1), none⟩)), (43, .int .i64 2)] (ag_cons zh867 (ag_cons zh868 (ag_nil))) ?_
         have zS869 := zS865.loc
         refine Y.pure_ (.pointer (some ⟨b, (o + (i).toNat * 6 + 3), none⟩)) ?_
         exact ⟨zS869.ch, Sp.mk_holds [] all_nil (h2 := (bif_f zh866).symm)⟩
       intro zh866
       exact Sp.mk_holds [] all_nil (h2 := (bif_t zh866).symm)
     refine step_cons ?_ ?_
     · intro zy870 zw871 zhc872 zhf873 zhp874
       have zh875 : zy870 46 = (bif zF786 then undef else (.pointer (some ⟨b, (o + (i).toNat * 6 + 3), none⟩))) := (Sp.out0 (zhp874 7 46 (by kernel_rfl) (by kernel_rfl))).1
       have zh876 : zy870 40 = .bool zF786 := (Sp.out0 (zhp874 1 40 (by kernel_rfl) (by kernel_rfl))).1
       have zS877 := zS785.quiet zhc872
       refine step_if zF786 zh876 ?_ ?_
       · intro zh878
         have zh879 : zy870 46 = .pointer (some ⟨b, (o + (i).toNat * 6 + 3), none⟩) := zh875.trans (bif_f zh878)
         refine yenv [(46, .pointer (some ⟨b, (o + (i).toNat * 6 + 3), none⟩))] (ag_cons zh879 (ag_nil)) ?_
         have zS880 := zS877.loc
         have zh881 := hx ((i).toNat) 0
         have zh882 := hx ((i).toNat) 1
         have zh883 := hx ((i).toNat) 2
         have zh884 := hx ((i).toNat) 3
         refine Y.loadO1_ zS877 (.int .i64 (xs (i).toNat 2)) b (o + (i).toNat * 6 + 3) ((hl (i).toNat (by omega)) 3 _ rfl) (by simp) ?_
         exact ⟨zS880.ch, Sp.mk_holds [] all_nil (h2 := (bif_f zh878).symm)⟩
       intro zh878
       exact Sp.mk_holds [] all_nil (h2 := (bif_t zh878).symm)
     refine step_cons ?_ ?_
     · intro zy885 zw886 zhc887 zhf888 zhp889
       have zh890 : zy885 8 = .pointer (some ⟨zb4, 0, none⟩) := (zhf888 8 (by kernel_rfl)).trans (by kernel_rfl)
       have zh891 : zy885 40 = .bool zF786 := (Sp.out0 (zhp889 1 40 (by kernel_rfl) (by kernel_rfl))).1
       have zS892 := zS785.quiet zhc887
       refine step_if zF786 zh891 ?_ ?_
       · intro zh893
         refine yenv [(8, .pointer (some ⟨zb4, 0, none⟩))] (ag_cons zh890 (ag_nil)) ?_
         have zS894 := zS892.loc
         refine Y.pure_ (.pointer (some ⟨zb4, 47, none⟩)) ?_
         exact ⟨zS894.ch, Sp.mk_holds [] all_nil (h2 := (bif_f zh893).symm)⟩
       intro zh893
       exact Sp.mk_holds [] all_nil (h2 := (bif_t zh893).symm)
     refine step_cons ?_ ?_
     · intro zy895 zw896 zhc897 zhf898 zhp899
       have zh900 : zy895 48 = (bif zF786 then undef else (.pointer (some ⟨zb4, 47, none⟩))) := (Sp.out0 (zhp899 9 48 (by kernel_rfl) (by kernel_rfl))).1
       have zh901 : zy895 40 = .bool zF786 := (Sp.out0 (zhp899 1 40 (by kernel_rfl) (by kernel_rfl))).1
       have zS902 := zS785.quiet zhc897
       refine step_if zF786 zh901 ?_ ?_
       · intro zh903
         have zh904 : zy895 48 = .pointer (some ⟨zb4, 47, none⟩) := zh900.trans (bif_f zh903)
         refine yenv [(48, .pointer (some ⟨zb4, 47, none⟩))] (ag_cons zh904 (ag_nil)) ?_
         have zS905 := zS902.loc
         refine Y.load1_ zS905 0 (.int .i64 (by_ % 1001)) zb4 47 ?_
         exact ⟨zS905.ch, Sp.mk_holds [] all_nil (h2 := (bif_f zh903).symm)⟩
       intro zh903
       exact Sp.mk_holds [] all_nil (h2 := (bif_t zh903).symm)
     refine step_cons ?_ ?_
     · intro zy906 zw907 zhc908 zhf909 zhp910
       have zh911 : zy906 47 = (bif zF786 then undef else (.int .i64 (xs (i).toNat 2))) := (Sp.out0 (zhp910 8 47 (by kernel_rfl) (by kernel_rfl))).1
       have zh912 : zy906 49 = (bif zF786 then undef else (.int .i64 (by_ % 1001))) := (Sp.out0 (zhp910 10 49 (by kernel_rfl) (by kernel_rfl))).1
       have zh913 : zy906 40 = .bool zF786 := (Sp.out0 (zhp910 1 40 (by kernel_rfl) (by kernel_rfl))).1
       have zS914 := zS785.quiet zhc908
       refine step_if zF786 zh913 ?_ ?_
       · intro zh915
         have zh916 : zy906 47 = .int .i64 (xs (i).toNat 2) := zh911.trans (bif_f zh915)
         have zh917 : zy906 49 = .int .i64 (by_ % 1001) := zh912.trans (bif_f zh915)
         refine yenv [(47, .int .i64 (xs (i).toNat 2)), (49, .int .i64 (by_ % 1001))] (ag_cons zh916 (ag_cons zh917 (ag_nil))) ?_
         have zS918 := zS914.loc
         refine Y.pure_ (.bool (decide ((by_ % 1001) < (xs (i).toNat 2)))) ?_
         exact ⟨zS918.ch, Sp.mk_holds [] all_nil (h2 := (bif_f zh915).symm)⟩
       intro zh915
       exact Sp.mk_holds [] all_nil (h2 := (bif_t zh915).symm)
     refine step_cons ?_ ?_
     · intro zy919 zw920 zhc921 zhf922 zhp923
       have zh924 : zy919 40 = .bool zF786 := (Sp.out0 (zhp923 1 40 (by kernel_rfl) (by kernel_rfl))).1
       have zh925 : zy919 50 = (bif zF786 then undef else (.bool (decide ((by_ % 1001) < (xs (i).toNat 2))))) := (Sp.out0 (zhp923 11 50 (by kernel_rfl) (by kernel_rfl))).1
       have zS926 := zS785.quiet zhc921
       refine step1 ?_
       refine yenv [(40, .bool zF786), (50, (bif zF786 then undef else (.bool (decide ((by_ % 1001) < (xs (i).toNat 2))))))] (ag_cons zh924 (ag_cons zh925 (ag_nil))) ?_
       have zS927 := zS926.loc
       refine Y.pickB_ zF786 (zF786 || (decide ((by_ % 1001) < (xs (i).toNat 2)))) (.bool true) ((bif zF786 then undef else (.bool (decide ((by_ % 1001) < (xs (i).toNat 2)))))) (fun h => (by rw [h]; rfl)) (fun h => (bif_f h).trans (by rw [h]; rfl)) ?_
       exact ⟨zS927.ch, Sp.mk_holds [] (all_nil)⟩
     refine step_cons ?_ ?_
     · intro zy928 zw929 zhc930 zhf931 zhp932
       have zh933 : zy928 51 = .bool (zF786 || (decide ((by_ % 1001) < (xs (i).toNat 2)))) := (Sp.out0 (zhp932 12 51 (by kernel_rfl) (by kernel_rfl))).1
       have zS934 := zS785.quiet zhc930
       refine step1 ?_
       refine yenv [(51, .bool (zF786 || (decide ((by_ % 1001) < (xs (i).toNat 2)))))] (ag_cons zh933 (ag_nil)) ?_
       have zS935 := zS934.loc
       refine Y.move_ ?_
       exact ⟨zS935.ch, Sp.mk_holds [] (all_nil)⟩
     refine step_cons ?_ ?_
     · intro zy936 zw937 zhc938 zhf939 zhp940
       have zh941 : zy936 2 = .slice (some ⟨b, o, none⟩) n c := (zhf939 2 (by kernel_rfl)).trans (by kernel_rfl)
       have zh942 : zy936 52 = .bool (zF786 || (decide ((by_ % 1001) < (xs (i).toNat 2)))) := (Sp.out0 (zhp940 13 52 (by kernel_rfl) (by kernel_rfl))).1
       have zS943 := zS785.quiet zhc938
       refine step_if (zF786 || (decide ((by_ % 1001) < (xs (i).toNat 2)))) zh942 ?_ ?_
       · intro zh944
         have zh945 := orL zh944
         have zh946 := orR zh944
         have zh947 := ltF' zh946
         refine yenv [(2, .slice (some ⟨b, o, none⟩) n c)] (ag_cons zh941 (ag_nil)) ?_
         have zS948 := zS943.loc
         refine Y.move_ ?_
         exact ⟨zS948.ch, Sp.mk_holds [] all_nil (h2 := (bif_f zh944).symm)⟩
       intro zh944
       exact Sp.mk_holds [] all_nil (h2 := (bif_t zh944).symm)
     refine step_cons ?_ ?_
     · intro zy949 zw950 zhc951 zhf952 zhp953
       have zh954 : zy949 11 = .int .i64 i := (zhf952 11 (by kernel_rfl)).trans (by kernel_rfl)
       have zh955 : zy949 52 = .bool (zF786 || (decide ((by_ % 1001) < (xs (i).toNat 2)))) := (Sp.out0 (zhp953 13 52 (by kernel_rfl) (by kernel_rfl))).1
       have zS956 := zS785.quiet zhc951
       refine step_if (zF786 || (decide ((by_ % 1001) < (xs (i).toNat 2)))) zh955 ?_ ?_
       · intro zh957
         have zh958 := orL zh957
         have zh959 := orR zh957
         have zh960 := ltF' zh959
         refine yenv [(11, .int .i64 i)] (ag_cons zh954 (ag_nil)) ?_
         have zS961 := zS956.loc
         refine Y.pure_ (.int .i64 i) ?_
         exact ⟨zS961.ch, Sp.mk_holds [] all_nil (h2 := (bif_f zh957).symm)⟩
       intro zh957
       exact Sp.mk_holds [] all_nil (h2 := (bif_t zh957).symm)
     refine step_cons ?_ ?_
     · intro zy962 zw963 zhc964 zhf965 zhp966
       have zh967 : zy962 13 = .int .i64 2 := (zhf965 13 (by kernel_rfl)).trans (by kernel_rfl)
       have zh968 : zy962 52 = .bool (zF786 || (decide ((by_ % 1001) < (xs (i).toNat 2)))) := (Sp.out0 (zhp966 13 52 (by kernel_rfl) (by kernel_rfl))).1
       have zS969 := zS785.quiet zhc964
       refine step_if (zF786 || (decide ((by_ % 1001) < (xs (i).toNat 2)))) zh968 ?_ ?_
       · intro zh970
         have zh971 := orL zh970
         have zh972 := orR zh970
         have zh973 := ltF' zh972
         refine yenv [(13, .int .i64 2)] (ag_cons zh967 (ag_nil)) ?_
         have zS974 := zS969.loc
         refine Y.pure_ (.int .i64 2) ?_
         exact ⟨zS974.ch, Sp.mk_holds [] all_nil (h2 := (bif_f zh970).symm)⟩
       intro zh970
       exact Sp.mk_holds [] all_nil (h2 := (bif_t zh970).symm)
     refine step_cons ?_ ?_
     · intro zy975 zw976 zhc977 zhf978 zhp979
       have zh980 : zy975 53 = (bif (zF786 || (decide ((by_ % 1001) < (xs (i).toNat 2)))) then undef else (.slice (some ⟨b, o, none⟩) n c)) := (Sp.out0 (zhp979 14 53 (by kernel_rfl) (by kernel_rfl))).1
       have zh981 : zy975 54 = (bif (zF786 || (decide ((by_ % 1001) < (xs (i).toNat 2)))) then undef else (.int .i64 i)) := (Sp.out0 (zhp979 15 54 (by kernel_rfl) (by kernel_rfl))).1
       have zh982 : zy975 52 = .bool (zF786 || (decide ((by_ % 1001) < (xs (i).toNat 2)))) := (Sp.out0 (zhp979 13 52 (by kernel_rfl) (by kernel_rfl))).1
       have zS983 := zS785.quiet zhc977
       refine step_if (zF786 || (decide ((by_ % 1001) < (xs (i).toNat 2)))) zh982 ?_ ?_
       · intro zh984
         have zh985 := orL zh984
         have zh986 := orR zh984
         have zh987 := ltF' zh986
         have zh988 : zy975 53 = .slice (some ⟨b, o, none⟩) n c := zh980.trans (bif_f zh984)
         have zh989 : zy975 54 = .int .i64 i := zh981.trans (bif_f zh984)
         refine yenv [(53, .slice (some ⟨b, o, none⟩) n c), (54, .int .i64 i)] (ag_cons zh988 (ag_cons zh989 (ag_nil))) ?_
         have zS990 := zS983.loc
         refine Y.idxS_ (e := 39) b o (i).toNat n 6 c .i64 i (by omega) (by omega) rfl ?_
         exact ⟨zS990.ch, Sp.mk_holds [] all_nil (h2 := (bif_f zh984).symm)⟩
       intro zh984
       exact Sp.mk_holds [] all_nil (h2 := (bif_t zh984).symm)
     refine step_cons ?_ ?_
     · intro zy991 zw992 zhc993 zhf994 zhp995
       have zh996 : zy991 56 = (bif (zF786 || (decide ((by_ % 1001) < (xs (i).toNat 2)))) then undef else (.pointer (some ⟨b, (o + (i).toNat * 6), none⟩))) := (Sp.out0 (zhp995 17 56 (by kernel_rfl) (by kernel_rfl))).1
       have zh997 : zy991 52 = .bool (zF786 || (decide ((by_ % 1001) < (xs (i).toNat 2)))) := (Sp.out0 (zhp995 13 52 (by kernel_rfl) (by kernel_rfl))).1
       have zS998 := zS785.quiet zhc993
       refine step_if (zF786 || (decide ((by_ % 1001) < (xs (i).toNat 2)))) zh997 ?_ ?_
       · intro zh999
         have zh1000 := orL zh999
         have zh1001 := orR zh999
         have zh1002 := ltF' zh1001
         have zh1003 : zy991 56 = .pointer (some ⟨b, (o + (i).toNat * 6), none⟩) := zh996.trans (bif_f zh999)
         refine yenv [(56, .pointer (some ⟨b, (o + (i).toNat * 6), none⟩))] (ag_cons zh1003 (ag_nil)) ?_
         have zS1004 := zS998.loc
         refine Y.pure_ (.pointer (some ⟨b, (o + (i).toNat * 6 + 1), none⟩)) ?_
         exact ⟨zS1004.ch, Sp.mk_holds [] all_nil (h2 := (bif_f zh999).symm)⟩
       intro zh999
       exact Sp.mk_holds [] all_nil (h2 := (bif_t zh999).symm)
     refine step_cons ?_ ?_
     · intro zy1005 zw1006 zhc1007 zhf1008 zhp1009
       have zh1010 : zy1005 57 = (bif (zF786 || (decide ((by_ % 1001) < (xs (i).toNat 2)))) then undef else (.pointer (some ⟨b, (o + (i).toNat * 6 + 1), none⟩))) := (Sp.out0 (zhp1009 18 57 (by kernel_rfl) (by kernel_rfl))).1
       have zh1011 : zy1005 55 = (bif (zF786 || (decide ((by_ % 1001) < (xs (i).toNat 2)))) then undef else (.int .i64 2)) := (Sp.out0 (zhp1009 16 55 (by kernel_rfl) (by kernel_rfl))).1
       have zh1012 : zy1005 52 = .bool (zF786 || (decide ((by_ % 1001) < (xs (i).toNat 2)))) := (Sp.out0 (zhp1009 13 52 (by kernel_rfl) (by kernel_rfl))).1
       have zS1013 := zS785.quiet zhc1007
       refine step_if (zF786 || (decide ((by_ % 1001) < (xs (i).toNat 2)))) zh1012 ?_ ?_
       · intro zh1014
         have zh1015 := orL zh1014
         have zh1016 := orR zh1014
         have zh1017 := ltF' zh1016
         have zh1018 : zy1005 57 = .pointer (some ⟨b, (o + (i).toNat * 6 + 1), none⟩) := zh1010.trans (bif_f zh1014)
         have zh1019 : zy1005 55 = .int .i64 2 := zh1011.trans (bif_f zh1014)
         refine yenv [(57, .pointer (some ⟨b, (o + (i).toNat * 6 + 1), none⟩)), (55, .int .i64 2)] (ag_cons zh1018 (ag_cons zh1019 (ag_nil))) ?_
         have zS1020 := zS1013.loc
         refine Y.pure_ (.pointer (some ⟨b, (o + (i).toNat * 6 + 3), none⟩)) ?_
         exact ⟨zS1020.ch, Sp.mk_holds [] all_nil (h2 := (bif_f zh1014).symm)⟩
       intro zh1014
       exact Sp.mk_holds [] all_nil (h2 := (bif_t zh1014).symm)
     refine step_cons ?_ ?_
     · intro zy1021 zw1022 zhc1023 zhf1024 zhp1025
       have zh1026 : zy1021 58 = (bif (zF786 || (decide ((by_ % 1001) < (xs (i).toNat 2)))) then undef else (.pointer (some ⟨b, (o + (i).toNat * 6 + 3), none⟩))) := (Sp.out0 (zhp1025 19 58 (by kernel_rfl) (by kernel_rfl))).1
       have zh1027 : zy1021 52 = .bool (zF786 || (decide ((by_ % 1001) < (xs (i).toNat 2)))) := (Sp.out0 (zhp1025 13 52 (by kernel_rfl) (by kernel_rfl))).1
       have zS1028 := zS785.quiet zhc1023
       refine step_if (zF786 || (decide ((by_ % 1001) < (xs (i).toNat 2)))) zh1027 ?_ ?_
       · intro zh1029
         have zh1030 := orL zh1029
         have zh1031 := orR zh1029
         have zh1032 := ltF' zh1031
         have zh1033 : zy1021 58 = .pointer (some ⟨b, (o + (i).toNat * 6 + 3), none⟩) := zh1026.trans (bif_f zh1029)
         refine yenv [(58, .pointer (some ⟨b, (o + (i).toNat * 6 + 3), none⟩))] (ag_cons zh1033 (ag_nil)) ?_
         have zS1034 := zS1028.loc
         have zh1035 := hx ((i).toNat) 0
         have zh1036 := hx ((i).toNat) 1
         have zh1037 := hx ((i).toNat) 2
         have zh1038 := hx ((i).toNat) 3
         refine Y.loadO1_ zS1028 (.int .i64 (xs (i).toNat 2)) b (o + (i).toNat * 6 + 3) ((hl (i).toNat (by omega)) 3 _ rfl) (by simp) ?_
         exact ⟨zS1034.ch, Sp.mk_holds [] all_nil (h2 := (bif_f zh1029).symm)⟩
       intro zh1029
       exact Sp.mk_holds [] all_nil (h2 := (bif_t zh1029).symm)
     refine step_cons ?_ ?_
     · intro zy1039 zw1040 zhc1041 zhf1042 zhp1043
       have zh1044 : zy1039 8 = .pointer (some ⟨zb4, 0, none⟩) := (zhf1042 8 (by kernel_rfl)).trans (by kernel_rfl)
       have zh1045 : zy1039 52 = .bool (zF786 || (decide ((by_ % 1001) < (xs (i).toNat 2)))) := (Sp.out0 (zhp1043 13 52 (by kernel_rfl) (by kernel_rfl))).1
       have zS1046 := zS785.quiet zhc1041
       refine step_if (zF786 || (decide ((by_ % 1001) < (xs (i).toNat 2)))) zh1045 ?_ ?_
       · intro zh1047
         have zh1048 := orL zh1047
         have zh1049 := orR zh1047
         have zh1050 := ltF' zh1049
         refine yenv [(8, .pointer (some ⟨zb4, 0, none⟩))] (ag_cons zh1044 (ag_nil)) ?_
         have zS1051 := zS1046.loc
         refine Y.pure_ (.pointer (some ⟨zb4, 47, none⟩)) ?_
         exact ⟨zS1051.ch, Sp.mk_holds [] all_nil (h2 := (bif_f zh1047).symm)⟩
       intro zh1047
       exact Sp.mk_holds [] all_nil (h2 := (bif_t zh1047).symm)
     refine step_cons ?_ ?_
     · intro zy1052 zw1053 zhc1054 zhf1055 zhp1056
       have zh1057 : zy1052 60 = (bif (zF786 || (decide ((by_ % 1001) < (xs (i).toNat 2)))) then undef else (.pointer (some ⟨zb4, 47, none⟩))) := (Sp.out0 (zhp1056 21 60 (by kernel_rfl) (by kernel_rfl))).1
       have zh1058 : zy1052 52 = .bool (zF786 || (decide ((by_ % 1001) < (xs (i).toNat 2)))) := (Sp.out0 (zhp1056 13 52 (by kernel_rfl) (by kernel_rfl))).1
       have zS1059 := zS785.quiet zhc1054
       refine step_if (zF786 || (decide ((by_ % 1001) < (xs (i).toNat 2)))) zh1058 ?_ ?_
       · intro zh1060
         have zh1061 := orL zh1060
         have zh1062 := orR zh1060
         have zh1063 := ltF' zh1062
         have zh1064 : zy1052 60 = .pointer (some ⟨zb4, 47, none⟩) := zh1057.trans (bif_f zh1060)
         refine yenv [(60, .pointer (some ⟨zb4, 47, none⟩))] (ag_cons zh1064 (ag_nil)) ?_
         have zS1065 := zS1059.loc
         refine Y.load1_ zS1065 0 (.int .i64 (by_ % 1001)) zb4 47 ?_
         exact ⟨zS1065.ch, Sp.mk_holds [] all_nil (h2 := (bif_f zh1060).symm)⟩
       intro zh1060
       exact Sp.mk_holds [] all_nil (h2 := (bif_t zh1060).symm)
     refine step_cons ?_ ?_
     · intro zy1066 zw1067 zhc1068 zhf1069 zhp1070
       have zh1071 : zy1066 61 = (bif (zF786 || (decide ((by_ % 1001) < (xs (i).toNat 2)))) then undef else (.int .i64 (by_ % 1001))) := (Sp.out0 (zhp1070 22 61 (by kernel_rfl) (by kernel_rfl))).1
       have zh1072 : zy1066 52 = .bool (zF786 || (decide ((by_ % 1001) < (xs (i).toNat 2)))) := (Sp.out0 (zhp1070 13 52 (by kernel_rfl) (by kernel_rfl))).1
       have zS1073 := zS785.quiet zhc1068
       refine step_if (zF786 || (decide ((by_ % 1001) < (xs (i).toNat 2)))) zh1072 ?_ ?_
       · intro zh1074
         have zh1075 := orL zh1074
         have zh1076 := orR zh1074
         have zh1077 := ltF' zh1076
         have zh1078 : zy1066 61 = .int .i64 (by_ % 1001) := zh1071.trans (bif_f zh1074)
         refine yenv [(61, .int .i64 (by_ % 1001))] (ag_cons zh1078 (ag_nil)) ?_
         have zS1079 := zS1073.loc
         refine Y.sum_ .i64 (0 - (by_ % 1001)) (IntWalk.i64_in _ (by omega)) ?_
         exact ⟨zS1079.ch, Sp.mk_holds [] all_nil (h2 := (bif_f zh1074).symm)⟩
       intro zh1074
       exact Sp.mk_holds [] all_nil (h2 := (bif_t zh1074).symm)
     refine step_cons ?_ ?_
     · intro zy1080 zw1081 zhc1082 zhf1083 zhp1084
       have zh1085 : zy1080 59 = (bif (zF786 || (decide ((by_ % 1001) < (xs (i).toNat 2)))) then undef else (.int .i64 (xs (i).toNat 2))) := (Sp.out0 (zhp1084 20 59 (by kernel_rfl) (by kernel_rfl))).1
       have zh1086 : zy1080 62 = (bif (zF786 || (decide ((by_ % 1001) < (xs (i).toNat 2)))) then undef else (.int .i64 (0 - (by_ % 1001)))) := (Sp.out0 (zhp1084 23 62 (by kernel_rfl) (by kernel_rfl))).1
       have zh1087 : zy1080 52 = .bool (zF786 || (decide ((by_ % 1001) < (xs (i).toNat 2)))) := (Sp.out0 (zhp1084 13 52 (by kernel_rfl) (by kernel_rfl))).1
       have zS1088 := zS785.quiet zhc1082
       refine step_if (zF786 || (decide ((by_ % 1001) < (xs (i).toNat 2)))) zh1087 ?_ ?_
       · intro zh1089
         have zh1090 := orL zh1089
         have zh1091 := orR zh1089
         have zh1092 := ltF' zh1091
         have zh1093 : zy1080 59 = .int .i64 (xs (i).toNat 2) := zh1085.trans (bif_f zh1089)
         have zh1094 : zy1080 62 = .int .i64 (0 - (by_ % 1001)) := zh1086.trans (bif_f zh1089)
         refine yenv [(59, .int .i64 (xs (i).toNat 2)), (62, .int .i64 (0 - (by_ % 1001)))] (ag_cons zh1093 (ag_cons zh1094 (ag_nil))) ?_
         have zS1095 := zS1088.loc
         refine Y.pure_ (.bool (decide ((xs (i).toNat 2) < (0 - (by_ % 1001))))) ?_
         exact ⟨zS1095.ch, Sp.mk_holds [] all_nil (h2 := (bif_f zh1089).symm)⟩
       intro zh1089
       exact Sp.mk_holds [] all_nil (h2 := (bif_t zh1089).symm)
     refine step_cons ?_ ?_
     · intro zy1096 zw1097 zhc1098 zhf1099 zhp1100
       have zh1101 : zy1096 52 = .bool (zF786 || (decide ((by_ % 1001) < (xs (i).toNat 2)))) := (Sp.out0 (zhp1100 13 52 (by kernel_rfl) (by kernel_rfl))).1
       have zh1102 : zy1096 63 = (bif (zF786 || (decide ((by_ % 1001) < (xs (i).toNat 2)))) then undef else (.bool (decide ((xs (i).toNat 2) < (0 - (by_ % 1001)))))) := (Sp.out0 (zhp1100 24 63 (by kernel_rfl) (by kernel_rfl))).1
       have zS1103 := zS785.quiet zhc1098
       refine step1 ?_
       refine yenv [(52, .bool (zF786 || (decide ((by_ % 1001) < (xs (i).toNat 2))))), (63, (bif (zF786 || (decide ((by_ % 1001) < (xs (i).toNat 2)))) then undef else (.bool (decide ((xs (i).toNat 2) < (0 - (by_ % 1001)))))))] (ag_cons zh1101 (ag_cons zh1102 (ag_nil))) ?_
       have zS1104 := zS1103.loc
       refine Y.pickB_ (zF786 || (decide ((by_ % 1001) < (xs (i).toNat 2)))) ((zF786 || (decide ((by_ % 1001) < (xs (i).toNat 2)))) || (decide ((xs (i).toNat 2) < (0 - (by_ % 1001))))) (.bool true) ((bif (zF786 || (decide ((by_ % 1001) < (xs (i).toNat 2)))) then undef else (.bool (decide ((xs (i).toNat 2) < (0 - (by_ % 1001))))))) (fun h => (by rw [h]; rfl)) (fun h => (bif_f h).trans (by rw [h]; rfl)) ?_
       exact ⟨zS1104.ch, Sp.mk_holds [] (all_nil)⟩
     refine step_cons ?_ ?_
     · intro zy1105 zw1106 zhc1107 zhf1108 zhp1109
       have zh1110 : zy1105 64 = .bool ((zF786 || (decide ((by_ % 1001) < (xs (i).toNat 2)))) || (decide ((xs (i).toNat 2) < (0 - (by_ % 1001))))) := (Sp.out0 (zhp1109 25 64 (by kernel_rfl) (by kernel_rfl))).1
       have zS1111 := zS785.quiet zhc1107
       refine step1 ?_
       refine yenv [(64, .bool ((zF786 || (decide ((by_ % 1001) < (xs (i).toNat 2)))) || (decide ((xs (i).toNat 2) < (0 - (by_ % 1001))))))] (ag_cons zh1110 (ag_nil)) ?_
       have zS1112 := zS1111.loc
       refine Y.assign_ ?_
       exact ⟨zS1112.ch, Sp.mk_holds [] (all_nil)⟩
     exact step_nil
   intro zv1113 zw1114 zhc1115 zha1116
   have zh1117 : zv1113 0 = .bool zF786 := (Sp.out0 (zha1116 0 (by kernel_rfl))).1
   have zh1118 : zv1113 1 = .bool zF786 := (Sp.out0 (zha1116 1 (by kernel_rfl))).1
   have zh1119 : zv1113 2 = (bif zF786 then undef else (.slice (some ⟨b, o, none⟩) n c)) := (Sp.out0 (zha1116 2 (by kernel_rfl))).1
   have zh1120 : zv1113 3 = (bif zF786 then undef else (.int .i64 i)) := (Sp.out0 (zha1116 3 (by kernel_rfl))).1
   have zh1121 : zv1113 4 = (bif zF786 then undef else (.int .i64 2)) := (Sp.out0 (zha1116 4 (by kernel_rfl))).1
   have zh1122 : zv1113 5 = (bif zF786 then undef else (.pointer (some ⟨b, (o + (i).toNat * 6), none⟩))) := (Sp.out0 (zha1116 5 (by kernel_rfl))).1
   have zh1123 : zv1113 6 = (bif zF786 then undef else (.pointer (some ⟨b, (o + (i).toNat * 6 + 1), none⟩))) := (Sp.out0 (zha1116 6 (by kernel_rfl))).1
   have zh1124 : zv1113 7 = (bif zF786 then undef else (.pointer (some ⟨b, (o + (i).toNat * 6 + 3), none⟩))) := (Sp.out0 (zha1116 7 (by kernel_rfl))).1
   have zh1125 : zv1113 8 = (bif zF786 then undef else (.int .i64 (xs (i).toNat 2))) := (Sp.out0 (zha1116 8 (by kernel_rfl))).1
   have zh1126 : zv1113 9 = (bif zF786 then undef else (.pointer (some ⟨zb4, 47, none⟩))) := (Sp.out0 (zha1116 9 (by kernel_rfl))).1
   have zh1127 : zv1113 10 = (bif zF786 then undef else (.int .i64 (by_ % 1001))) := (Sp.out0 (zha1116 10 (by kernel_rfl))).1
   have zh1128 : zv1113 11 = (bif zF786 then undef else (.bool (decide ((by_ % 1001) < (xs (i).toNat 2))))) := (Sp.out0 (zha1116 11 (by kernel_rfl))).1
   have zh1129 : zv1113 12 = .bool (zF786 || (decide ((by_ % 1001) < (xs (i).toNat 2)))) := (Sp.out0 (zha1116 12 (by kernel_rfl))).1
   have zh1130 : zv1113 13 = .bool (zF786 || (decide ((by_ % 1001) < (xs (i).toNat 2)))) := (Sp.out0 (zha1116 13 (by kernel_rfl))).1
   have zh1131 : zv1113 14 = (bif (zF786 || (decide ((by_ % 1001) < (xs (i).toNat 2)))) then undef else (.slice (some ⟨b, o, none⟩) n c)) := (Sp.out0 (zha1116 14 (by kernel_rfl))).1
   have zh1132 : zv1113 15 = (bif (zF786 || (decide ((by_ % 1001) < (xs (i).toNat 2)))) then undef else (.int .i64 i)) := (Sp.out0 (zha1116 15 (by kernel_rfl))).1
   have zh1133 : zv1113 16 = (bif (zF786 || (decide ((by_ % 1001) < (xs (i).toNat 2)))) then undef else (.int .i64 2)) := (Sp.out0 (zha1116 16 (by kernel_rfl))).1
   have zh1134 : zv1113 17 = (bif (zF786 || (decide ((by_ % 1001) < (xs (i).toNat 2)))) then undef else (.pointer (some ⟨b, (o + (i).toNat * 6), none⟩))) := (Sp.out0 (zha1116 17 (by kernel_rfl))).1
   have zh1135 : zv1113 18 = (bif (zF786 || (decide ((by_ % 1001) < (xs (i).toNat 2)))) then undef else (.pointer (some ⟨b, (o + (i).toNat * 6 + 1), none⟩))) := (Sp.out0 (zha1116 18 (by kernel_rfl))).1
   have zh1136 : zv1113 19 = (bif (zF786 || (decide ((by_ % 1001) < (xs (i).toNat 2)))) then undef else (.pointer (some ⟨b, (o + (i).toNat * 6 + 3), none⟩))) := (Sp.out0 (zha1116 19 (by kernel_rfl))).1
   have zh1137 : zv1113 20 = (bif (zF786 || (decide ((by_ % 1001) < (xs (i).toNat 2)))) then undef else (.int .i64 (xs (i).toNat 2))) := (Sp.out0 (zha1116 20 (by kernel_rfl))).1
   have zh1138 : zv1113 21 = (bif (zF786 || (decide ((by_ % 1001) < (xs (i).toNat 2)))) then undef else (.pointer (some ⟨zb4, 47, none⟩))) := (Sp.out0 (zha1116 21 (by kernel_rfl))).1
   have zh1139 : zv1113 22 = (bif (zF786 || (decide ((by_ % 1001) < (xs (i).toNat 2)))) then undef else (.int .i64 (by_ % 1001))) := (Sp.out0 (zha1116 22 (by kernel_rfl))).1
   have zh1140 : zv1113 23 = (bif (zF786 || (decide ((by_ % 1001) < (xs (i).toNat 2)))) then undef else (.int .i64 (0 - (by_ % 1001)))) := (Sp.out0 (zha1116 23 (by kernel_rfl))).1
   have zh1141 : zv1113 24 = (bif (zF786 || (decide ((by_ % 1001) < (xs (i).toNat 2)))) then undef else (.bool (decide ((xs (i).toNat 2) < (0 - (by_ % 1001)))))) := (Sp.out0 (zha1116 24 (by kernel_rfl))).1
   have zh1142 : zv1113 25 = .bool ((zF786 || (decide ((by_ % 1001) < (xs (i).toNat 2)))) || (decide ((xs (i).toNat 2) < (0 - (by_ % 1001))))) := (Sp.out0 (zha1116 25 (by kernel_rfl))).1
   have zh1143 : zv1113 26 = .bool ((zF786 || (decide ((by_ % 1001) < (xs (i).toNat 2)))) || (decide ((xs (i).toNat 2) < (0 - (by_ % 1001))))) := (Sp.out0 (zha1116 26 (by kernel_rfl))).1
   have zS1144 := zS785.quiet zhc1115
   refine ⟨[.bool zF786, .bool zF786, (bif zF786 then undef else (.slice (some ⟨b, o, none⟩) n c)), (bif zF786 then undef else (.int .i64 i)), (bif zF786 then undef else (.int .i64 2)), (bif zF786 then undef else (.pointer (some ⟨b, (o + (i).toNat * 6), none⟩))), (bif zF786 then undef else (.pointer (some ⟨b, (o + (i).toNat * 6 + 1), none⟩))), (bif zF786 then undef else (.pointer (some ⟨b, (o + (i).toNat * 6 + 3), none⟩))), (bif zF786 then undef else (.int .i64 (xs (i).toNat 2))), (bif zF786 then undef else (.pointer (some ⟨zb4, 47, none⟩))), (bif zF786 then undef else (.int .i64 (by_ % 1001))), (bif zF786 then undef else (.bool (decide ((by_ % 1001) < (xs (i).toNat 2))))), .bool (zF786 || (decide ((by_ % 1001) < (xs (i).toNat 2)))), .bool (zF786 || (decide ((by_ % 1001) < (xs (i).toNat 2)))), (bif (zF786 || (decide ((by_ % 1001) < (xs (i).toNat 2)))) then undef else (.slice (some ⟨b, o, none⟩) n c)), (bif (zF786 || (decide ((by_ % 1001) < (xs (i).toNat 2)))) then undef else (.int .i64 i)), (bif (zF786 || (decide ((by_ % 1001) < (xs (i).toNat 2)))) then undef else (.int .i64 2)), (bif (zF786 || (decide ((by_ % 1001) < (xs (i).toNat 2)))) then undef else (.pointer (some ⟨b, (o + (i).toNat * 6), none⟩))), (bif (zF786 || (decide ((by_ % 1001) < (xs (i).toNat 2)))) then undef else (.pointer (some ⟨b, (o + (i).toNat * 6 + 1), none⟩))), (bif (zF786 || (decide ((by_ % 1001) < (xs (i).toNat 2)))) then undef else (.pointer (some ⟨b, (o + (i).toNat * 6 + 3), none⟩))), (bif (zF786 || (decide ((by_ % 1001) < (xs (i).toNat 2)))) then undef else (.int .i64 (xs (i).toNat 2))), (bif (zF786 || (decide ((by_ % 1001) < (xs (i).toNat 2)))) then undef else (.pointer (some ⟨zb4, 47, none⟩))), (bif (zF786 || (decide ((by_ % 1001) < (xs (i).toNat 2)))) then undef else (.int .i64 (by_ % 1001))), (bif (zF786 || (decide ((by_ % 1001) < (xs (i).toNat 2)))) then undef else (.int .i64 (0 - (by_ % 1001)))), (bif (zF786 || (decide ((by_ % 1001) < (xs (i).toNat 2)))) then undef else (.bool (decide ((xs (i).toNat 2) < (0 - (by_ % 1001)))))), .bool ((zF786 || (decide ((by_ % 1001) < (xs (i).toNat 2)))) || (decide ((xs (i).toNat 2) < (0 - (by_ % 1001))))), .bool ((zF786 || (decide ((by_ % 1001) < (xs (i).toNat 2)))) || (decide ((xs (i).toNat 2) < (0 - (by_ % 1001)))))], by kernel_rfl, va_cons zh1117 (va_cons zh1118 (va_cons zh1119 (va_cons zh1120 (va_cons zh1121 (va_cons zh1122 (va_cons zh1123 (va_cons zh1124 (va_cons zh1125 (va_cons zh1126 (va_cons zh1127 (va_cons zh1128 (va_cons zh1129 (va_cons zh1130 (va_cons zh1131 (va_cons zh1132 (va_cons zh1133 (va_cons zh1134 (va_cons zh1135 (va_cons zh1136 (va_cons zh1137 (va_cons zh1138 (va_cons zh1139 (va_cons zh1140 (va_cons zh1141 (va_cons zh1142 (va_cons zh1143 (va_nil))))))))))))))))))))))))))), ?_⟩
   refine nil_ (blk_n (then_n (reg_ ?_)))
   refine pure_ (.int .i64 2) ?_
   refine pure_ (.int .i64 3) ?_
   refine pure_ (.int .i64 3) ?_
   refine nil_ ?_
   obtain ⟨zF1145, hzF1145⟩ : ∃ z, z = ((zF786 || (decide ((by_ % 1001) < (xs (i).toNat 2)))) || (decide ((xs (i).toNat 2) < (0 - (by_ % 1001))))) := ⟨_, rfl⟩
   rw [← hzF1145]
   refine again_ (seq_ (seq_ (reg_ ?_)))
   refine pure_ (.int .i64 3) ?_
   refine pure_ (.bool true) ?_
   refine nil_ (then_n (cond_T ?_))
   refine wp_skip (then_n (seq_ (wp_block ?_)))
   refine drawnL_ 27 [⟨0, fun _ => .bool zF1145, fun _ => []⟩, ⟨0, fun _ => .bool zF1145, fun _ => []⟩, ⟨0, fun _ => (bif zF1145 then undef else (.slice (some ⟨b, o, none⟩) n c)), fun _ => []⟩, ⟨0, fun _ => (bif zF1145 then undef else (.int .i64 i)), fun _ => []⟩, ⟨0, fun _ => (bif zF1145 then undef else (.int .i64 3)), fun _ => []⟩, ⟨0, fun _ => (bif zF1145 then undef else (.pointer (some ⟨b, (o + (i).toNat * 6), none⟩))), fun _ => []⟩, ⟨0, fun _ => (bif zF1145 then undef else (.pointer (some ⟨b, (o + (i).toNat * 6 + 1), none⟩))), fun _ => []⟩, ⟨0, fun _ => (bif zF1145 then undef else (.pointer (some ⟨b, (o + (i).toNat * 6 + 4), none⟩))), fun _ => []⟩, ⟨0, fun _ => (bif zF1145 then undef else (.int .i64 (xs (i).toNat 3))), fun _ => []⟩, ⟨0, fun _ => (bif zF1145 then undef else (.pointer (some ⟨zb4, 47, none⟩))), fun _ => []⟩, ⟨0, fun _ => (bif zF1145 then undef else (.int .i64 (by_ % 1001))), fun _ => []⟩, ⟨0, fun _ => (bif zF1145 then undef else (.bool (decide ((by_ % 1001) < (xs (i).toNat 3))))), fun _ => []⟩, ⟨0, fun _ => .bool (zF1145 || (decide ((by_ % 1001) < (xs (i).toNat 3)))), fun _ => []⟩, ⟨0, fun _ => .bool (zF1145 || (decide ((by_ % 1001) < (xs (i).toNat 3)))), fun _ => []⟩, ⟨0, fun _ => (bif (zF1145 || (decide ((by_ % 1001) < (xs (i).toNat 3)))) then undef else (.slice (some ⟨b, o, none⟩) n c)), fun _ => []⟩, ⟨0, fun _ => (bif (zF1145 || (decide ((by_ % 1001) < (xs (i).toNat 3)))) then undef else (.int .i64 i)), fun _ => []⟩, ⟨0, fun _ => (bif (zF1145 || (decide ((by_ % 1001) < (xs (i).toNat 3)))) then undef else (.int .i64 3)), fun _ => []⟩, ⟨0, fun _ => (bif (zF1145 || (decide ((by_ % 1001) < (xs (i).toNat 3)))) then undef else (.pointer (some ⟨b, (o + (i).toNat * 6), none⟩))), fun _ => []⟩, ⟨0, fun _ => (bif (zF1145 || (decide ((by_ % 1001) < (xs (i).toNat 3)))) then undef else (.pointer (some ⟨b, (o + (i).toNat * 6 + 1), none⟩))), fun _ => []⟩, ⟨0, fun _ => (bif (zF1145 || (decide ((by_ % 1001) < (xs (i).toNat 3)))) then undef else (.pointer (some ⟨b, (o + (i).toNat * 6 + 4), none⟩))), fun _ => []⟩, ⟨0, fun _ => (bif (zF1145 || (decide ((by_ % 1001) < (xs (i).toNat 3)))) then undef else (.int .i64 (xs (i).toNat 3))), fun _ => []⟩, ⟨0, fun _ => (bif (zF1145 || (decide ((by_ % 1001) < (xs (i).toNat 3)))) then undef else (.pointer (some ⟨zb4, 47, none⟩))), fun _ => []⟩, ⟨0, fun _ => (bif (zF1145 || (decide ((by_ % 1001) < (xs (i).toNat 3)))) then undef else (.int .i64 (by_ % 1001))), fun _ => []⟩, ⟨0, fun _ => (bif (zF1145 || (decide ((by_ % 1001) < (xs (i).toNat 3)))) then undef else (.int .i64 (0 - (by_ % 1001)))), fun _ => []⟩, ⟨0, fun _ => (bif (zF1145 || (decide ((by_ % 1001) < (xs (i).toNat 3)))) then undef else (.bool (decide ((xs (i).toNat 3) < (0 - (by_ % 1001)))))), fun _ => []⟩, ⟨0, fun _ => .bool ((zF1145 || (decide ((by_ % 1001) < (xs (i).toNat 3)))) || (decide ((xs (i).toNat 3) < (0 - (by_ % 1001))))), fun _ => []⟩, ⟨0, fun _ => .bool ((zF1145 || (decide ((by_ % 1001) < (xs (i).toNat 3)))) || (decide ((xs (i).toNat 3) < (0 - (by_ % 1001))))), fun _ => []⟩] [] ?_ ?_
   · refine step_cons ?_ ?_
     · intro zy1146 zw1147 zhc1148 zhf1149 zhp1150
       have zh1151 : zy1146 12 = .bool zF1145 := (zhf1149 12 (by kernel_rfl)).trans (by kernel_rfl)
       have zS1152 := zS1144.quiet zhc1148
       refine step1 ?_
       refine yenv [(12, .bool zF1145)] (ag_cons zh1151 (ag_nil)) ?_
       have zS1153 := zS1152.loc
       refine Y.pure_ (.bool zF1145) ?_
       exact ⟨zS1153.ch, Sp.mk_holds [] (all_nil)⟩
     refine step_cons ?_ ?_
     · intro zy1154 zw1155 zhc1156 zhf1157 zhp1158
       have zh1159 : zy1154 39 = .bool zF1145 := (Sp.out0 (zhp1158 0 39 (by kernel_rfl) (by kernel_rfl))).1
       have zS1160 := zS1144.quiet zhc1156
       refine step1 ?_
       refine yenv [(39, .bool zF1145)] (ag_cons zh1159 (ag_nil)) ?_
       have zS1161 := zS1160.loc
       refine Y.pure_ (.bool zF1145) ?_
       exact ⟨zS1161.ch, Sp.mk_holds [] (all_nil)⟩
     refine step_cons ?_ ?_
     · intro zy1162 zw1163 zhc1164 zhf1165 zhp1166
       have zh1167 : zy1162 2 = .slice (some ⟨b, o, none⟩) n c := (zhf1165 2 (by kernel_rfl)).trans (by kernel_rfl)
       have zh1168 : zy1162 40 = .bool zF1145 := (Sp.out0 (zhp1166 1 40 (by kernel_rfl) (by kernel_rfl))).1
       have zS1169 := zS1144.quiet zhc1164
       refine step_if zF1145 zh1168 ?_ ?_
       · intro zh1170
         refine yenv [(2, .slice (some ⟨b, o, none⟩) n c)] (ag_cons zh1167 (ag_nil)) ?_
         have zS1171 := zS1169.loc
         refine Y.move_ ?_
         exact ⟨zS1171.ch, Sp.mk_holds [] all_nil (h2 := (bif_f zh1170).symm)⟩
       intro zh1170
       exact Sp.mk_holds [] all_nil (h2 := (bif_t zh1170).symm)
     refine step_cons ?_ ?_
     · intro zy1172 zw1173 zhc1174 zhf1175 zhp1176
       have zh1177 : zy1172 11 = .int .i64 i := (zhf1175 11 (by kernel_rfl)).trans (by kernel_rfl)
       have zh1178 : zy1172 40 = .bool zF1145 := (Sp.out0 (zhp1176 1 40 (by kernel_rfl) (by kernel_rfl))).1
       have zS1179 := zS1144.quiet zhc1174
       refine step_if zF1145 zh1178 ?_ ?_
       · intro zh1180
         refine yenv [(11, .int .i64 i)] (ag_cons zh1177 (ag_nil)) ?_
         have zS1181 := zS1179.loc
         refine Y.pure_ (.int .i64 i) ?_
         exact ⟨zS1181.ch, Sp.mk_holds [] all_nil (h2 := (bif_f zh1180).symm)⟩
       intro zh1180
       exact Sp.mk_holds [] all_nil (h2 := (bif_t zh1180).symm)
     refine step_cons ?_ ?_
     · intro zy1182 zw1183 zhc1184 zhf1185 zhp1186
       have zh1187 : zy1182 13 = .int .i64 3 := (zhf1185 13 (by kernel_rfl)).trans (by kernel_rfl)
       have zh1188 : zy1182 40 = .bool zF1145 := (Sp.out0 (zhp1186 1 40 (by kernel_rfl) (by kernel_rfl))).1
       have zS1189 := zS1144.quiet zhc1184
       refine step_if zF1145 zh1188 ?_ ?_
       · intro zh1190
         refine yenv [(13, .int .i64 3)] (ag_cons zh1187 (ag_nil)) ?_
         have zS1191 := zS1189.loc
         refine Y.pure_ (.int .i64 3) ?_
         exact ⟨zS1191.ch, Sp.mk_holds [] all_nil (h2 := (bif_f zh1190).symm)⟩
       intro zh1190
       exact Sp.mk_holds [] all_nil (h2 := (bif_t zh1190).symm)
     refine step_cons ?_ ?_
     · intro zy1192 zw1193 zhc1194 zhf1195 zhp1196
       have zh1197 : zy1192 41 = (bif zF1145 then undef else (.slice (some ⟨b, o, none⟩) n c)) := (Sp.out0 (zhp1196 2 41 (by kernel_rfl) (by kernel_rfl))).1
       have zh1198 : zy1192 42 = (bif zF1145 then undef else (.int .i64 i)) := (Sp.out0 (zhp1196 3 42 (by kernel_rfl) (by kernel_rfl))).1
       have zh1199 : zy1192 40 = .bool zF1145 := (Sp.out0 (zhp1196 1 40 (by kernel_rfl) (by kernel_rfl))).1
       have zS1200 := zS1144.quiet zhc1194
       refine step_if zF1145 zh1199 ?_ ?_
       · intro zh1201
         have zh1202 : zy1192 41 = .slice (some ⟨b, o, none⟩) n c := zh1197.trans (bif_f zh1201)
         have zh1203 : zy1192 42 = .int .i64 i := zh1198.trans (bif_f zh1201)
         refine yenv [(41, .slice (some ⟨b, o, none⟩) n c), (42, .int .i64 i)] (ag_cons zh1202 (ag_cons zh1203 (ag_nil))) ?_
         have zS1204 := zS1200.loc
         refine Y.idxS_ (e := 39) b o (i).toNat n 6 c .i64 i (by omega) (by omega) rfl ?_
         exact ⟨zS1204.ch, Sp.mk_holds [] all_nil (h2 := (bif_f zh1201).symm)⟩
       intro zh1201
       exact Sp.mk_holds [] all_nil (h2 := (bif_t zh1201).symm)
     refine step_cons ?_ ?_
     · intro zy1205 zw1206 zhc1207 zhf1208 zhp1209
       have zh1210 : zy1205 44 = (bif zF1145 then undef else (.pointer (some ⟨b, (o + (i).toNat * 6), none⟩))) := (Sp.out0 (zhp1209 5 44 (by kernel_rfl) (by kernel_rfl))).1
       have zh1211 : zy1205 40 = .bool zF1145 := (Sp.out0 (zhp1209 1 40 (by kernel_rfl) (by kernel_rfl))).1
       have zS1212 := zS1144.quiet zhc1207
       refine step_if zF1145 zh1211 ?_ ?_
       · intro zh1213
         have zh1214 : zy1205 44 = .pointer (some ⟨b, (o + (i).toNat * 6), none⟩) := zh1210.trans (bif_f zh1213)
         refine yenv [(44, .pointer (some ⟨b, (o + (i).toNat * 6), none⟩))] (ag_cons zh1214 (ag_nil)) ?_
         have zS1215 := zS1212.loc
         refine Y.pure_ (.pointer (some ⟨b, (o + (i).toNat * 6 + 1), none⟩)) ?_
         exact ⟨zS1215.ch, Sp.mk_holds [] all_nil (h2 := (bif_f zh1213).symm)⟩
       intro zh1213
       exact Sp.mk_holds [] all_nil (h2 := (bif_t zh1213).symm)
     refine step_cons ?_ ?_
     · intro zy1216 zw1217 zhc1218 zhf1219 zhp1220
       have zh1221 : zy1216 45 = (bif zF1145 then undef else (.pointer (some ⟨b, (o + (i).toNat * 6 + 1), none⟩))) := (Sp.out0 (zhp1220 6 45 (by kernel_rfl) (by kernel_rfl))).1
       have zh1222 : zy1216 43 = (bif zF1145 then undef else (.int .i64 3)) := (Sp.out0 (zhp1220 4 43 (by kernel_rfl) (by kernel_rfl))).1
       have zh1223 : zy1216 40 = .bool zF1145 := (Sp.out0 (zhp1220 1 40 (by kernel_rfl) (by kernel_rfl))).1
       have zS1224 := zS1144.quiet zhc1218
       refine step_if zF1145 zh1223 ?_ ?_
       · intro zh1225
         have zh1226 : zy1216 45 = .pointer (some ⟨b, (o + (i).toNat * 6 + 1), none⟩) := zh1221.trans (bif_f zh1225)
         have zh1227 : zy1216 43 = .int .i64 3 := zh1222.trans (bif_f zh1225)
         refine yenv [(45, .pointer (some ⟨b, (o + (i).toNat * 6 + 1), none⟩)), (43, .int .i64 3)] (ag_cons zh1226 (ag_cons zh1227 (ag_nil))) ?_
         have zS1228 := zS1224.loc
         refine Y.pure_ (.pointer (some ⟨b, (o + (i).toNat * 6 + 4), none⟩)) ?_
         exact ⟨zS1228.ch, Sp.mk_holds [] all_nil (h2 := (bif_f zh1225).symm)⟩
       intro zh1225
       exact Sp.mk_holds [] all_nil (h2 := (bif_t zh1225).symm)
     refine step_cons ?_ ?_
     · intro zy1229 zw1230 zhc1231 zhf1232 zhp1233
       have zh1234 : zy1229 46 = (bif zF1145 then undef else (.pointer (some ⟨b, (o + (i).toNat * 6 + 4), none⟩))) := (Sp.out0 (zhp1233 7 46 (by kernel_rfl) (by kernel_rfl))).1
       have zh1235 : zy1229 40 = .bool zF1145 := (Sp.out0 (zhp1233 1 40 (by kernel_rfl) (by kernel_rfl))).1
       have zS1236 := zS1144.quiet zhc1231
       refine step_if zF1145 zh1235 ?_ ?_
       · intro zh1237
         have zh1238 : zy1229 46 = .pointer (some ⟨b, (o + (i).toNat * 6 + 4), none⟩) := zh1234.trans (bif_f zh1237)
         refine yenv [(46, .pointer (some ⟨b, (o + (i).toNat * 6 + 4), none⟩))] (ag_cons zh1238 (ag_nil)) ?_
         have zS1239 := zS1236.loc
         have zh1240 := hx ((i).toNat) 0
         have zh1241 := hx ((i).toNat) 1
         have zh1242 := hx ((i).toNat) 2
         have zh1243 := hx ((i).toNat) 3
         refine Y.loadO1_ zS1236 (.int .i64 (xs (i).toNat 3)) b (o + (i).toNat * 6 + 4) ((hl (i).toNat (by omega)) 4 _ rfl) (by simp) ?_
         exact ⟨zS1239.ch, Sp.mk_holds [] all_nil (h2 := (bif_f zh1237).symm)⟩
       intro zh1237
       exact Sp.mk_holds [] all_nil (h2 := (bif_t zh1237).symm)
     refine step_cons ?_ ?_
     · intro zy1244 zw1245 zhc1246 zhf1247 zhp1248
       have zh1249 : zy1244 8 = .pointer (some ⟨zb4, 0, none⟩) := (zhf1247 8 (by kernel_rfl)).trans (by kernel_rfl)
       have zh1250 : zy1244 40 = .bool zF1145 := (Sp.out0 (zhp1248 1 40 (by kernel_rfl) (by kernel_rfl))).1
       have zS1251 := zS1144.quiet zhc1246
       refine step_if zF1145 zh1250 ?_ ?_
       · intro zh1252
         refine yenv [(8, .pointer (some ⟨zb4, 0, none⟩))] (ag_cons zh1249 (ag_nil)) ?_
         have zS1253 := zS1251.loc
         refine Y.pure_ (.pointer (some ⟨zb4, 47, none⟩)) ?_
         exact ⟨zS1253.ch, Sp.mk_holds [] all_nil (h2 := (bif_f zh1252).symm)⟩
       intro zh1252
       exact Sp.mk_holds [] all_nil (h2 := (bif_t zh1252).symm)
     refine step_cons ?_ ?_
     · intro zy1254 zw1255 zhc1256 zhf1257 zhp1258
       have zh1259 : zy1254 48 = (bif zF1145 then undef else (.pointer (some ⟨zb4, 47, none⟩))) := (Sp.out0 (zhp1258 9 48 (by kernel_rfl) (by kernel_rfl))).1
       have zh1260 : zy1254 40 = .bool zF1145 := (Sp.out0 (zhp1258 1 40 (by kernel_rfl) (by kernel_rfl))).1
       have zS1261 := zS1144.quiet zhc1256
       refine step_if zF1145 zh1260 ?_ ?_
       · intro zh1262
         have zh1263 : zy1254 48 = .pointer (some ⟨zb4, 47, none⟩) := zh1259.trans (bif_f zh1262)
         refine yenv [(48, .pointer (some ⟨zb4, 47, none⟩))] (ag_cons zh1263 (ag_nil)) ?_
         have zS1264 := zS1261.loc
         refine Y.load1_ zS1264 0 (.int .i64 (by_ % 1001)) zb4 47 ?_
         exact ⟨zS1264.ch, Sp.mk_holds [] all_nil (h2 := (bif_f zh1262).symm)⟩
       intro zh1262
       exact Sp.mk_holds [] all_nil (h2 := (bif_t zh1262).symm)
     refine step_cons ?_ ?_
     · intro zy1265 zw1266 zhc1267 zhf1268 zhp1269
       have zh1270 : zy1265 47 = (bif zF1145 then undef else (.int .i64 (xs (i).toNat 3))) := (Sp.out0 (zhp1269 8 47 (by kernel_rfl) (by kernel_rfl))).1
       have zh1271 : zy1265 49 = (bif zF1145 then undef else (.int .i64 (by_ % 1001))) := (Sp.out0 (zhp1269 10 49 (by kernel_rfl) (by kernel_rfl))).1
       have zh1272 : zy1265 40 = .bool zF1145 := (Sp.out0 (zhp1269 1 40 (by kernel_rfl) (by kernel_rfl))).1
       have zS1273 := zS1144.quiet zhc1267
       refine step_if zF1145 zh1272 ?_ ?_
       · intro zh1274
         have zh1275 : zy1265 47 = .int .i64 (xs (i).toNat 3) := zh1270.trans (bif_f zh1274)
         have zh1276 : zy1265 49 = .int .i64 (by_ % 1001) := zh1271.trans (bif_f zh1274)
         refine yenv [(47, .int .i64 (xs (i).toNat 3)), (49, .int .i64 (by_ % 1001))] (ag_cons zh1275 (ag_cons zh1276 (ag_nil))) ?_
         have zS1277 := zS1273.loc
         refine Y.pure_ (.bool (decide ((by_ % 1001) < (xs (i).toNat 3)))) ?_
         exact ⟨zS1277.ch, Sp.mk_holds [] all_nil (h2 := (bif_f zh1274).symm)⟩
       intro zh1274
       exact Sp.mk_holds [] all_nil (h2 := (bif_t zh1274).symm)
     refine step_cons ?_ ?_
     · intro zy1278 zw1279 zhc1280 zhf1281 zhp1282
       have zh1283 : zy1278 40 = .bool zF1145 := (Sp.out0 (zhp1282 1 40 (by kernel_rfl) (by kernel_rfl))).1
       have zh1284 : zy1278 50 = (bif zF1145 then undef else (.bool (decide ((by_ % 1001) < (xs (i).toNat 3))))) := (Sp.out0 (zhp1282 11 50 (by kernel_rfl) (by kernel_rfl))).1
       have zS1285 := zS1144.quiet zhc1280
       refine step1 ?_
       refine yenv [(40, .bool zF1145), (50, (bif zF1145 then undef else (.bool (decide ((by_ % 1001) < (xs (i).toNat 3))))))] (ag_cons zh1283 (ag_cons zh1284 (ag_nil))) ?_
       have zS1286 := zS1285.loc
       refine Y.pickB_ zF1145 (zF1145 || (decide ((by_ % 1001) < (xs (i).toNat 3)))) (.bool true) ((bif zF1145 then undef else (.bool (decide ((by_ % 1001) < (xs (i).toNat 3)))))) (fun h => (by rw [h]; rfl)) (fun h => (bif_f h).trans (by rw [h]; rfl)) ?_
       exact ⟨zS1286.ch, Sp.mk_holds [] (all_nil)⟩
     refine step_cons ?_ ?_
     · intro zy1287 zw1288 zhc1289 zhf1290 zhp1291
       have zh1292 : zy1287 51 = .bool (zF1145 || (decide ((by_ % 1001) < (xs (i).toNat 3)))) := (Sp.out0 (zhp1291 12 51 (by kernel_rfl) (by kernel_rfl))).1
       have zS1293 := zS1144.quiet zhc1289
       refine step1 ?_
       refine yenv [(51, .bool (zF1145 || (decide ((by_ % 1001) < (xs (i).toNat 3)))))] (ag_cons zh1292 (ag_nil)) ?_
       have zS1294 := zS1293.loc
       refine Y.move_ ?_
       exact ⟨zS1294.ch, Sp.mk_holds [] (all_nil)⟩
     refine step_cons ?_ ?_
     · intro zy1295 zw1296 zhc1297 zhf1298 zhp1299
       have zh1300 : zy1295 2 = .slice (some ⟨b, o, none⟩) n c := (zhf1298 2 (by kernel_rfl)).trans (by kernel_rfl)
       have zh1301 : zy1295 52 = .bool (zF1145 || (decide ((by_ % 1001) < (xs (i).toNat 3)))) := (Sp.out0 (zhp1299 13 52 (by kernel_rfl) (by kernel_rfl))).1
       have zS1302 := zS1144.quiet zhc1297
       refine step_if (zF1145 || (decide ((by_ % 1001) < (xs (i).toNat 3)))) zh1301 ?_ ?_
       · intro zh1303
         have zh1304 := orL zh1303
         have zh1305 := orR zh1303
         have zh1306 := ltF' zh1305
         refine yenv [(2, .slice (some ⟨b, o, none⟩) n c)] (ag_cons zh1300 (ag_nil)) ?_
         have zS1307 := zS1302.loc
         refine Y.move_ ?_
         exact ⟨zS1307.ch, Sp.mk_holds [] all_nil (h2 := (bif_f zh1303).symm)⟩
       intro zh1303
       exact Sp.mk_holds [] all_nil (h2 := (bif_t zh1303).symm)
     refine step_cons ?_ ?_
     · intro zy1308 zw1309 zhc1310 zhf1311 zhp1312
       have zh1313 : zy1308 11 = .int .i64 i := (zhf1311 11 (by kernel_rfl)).trans (by kernel_rfl)
       have zh1314 : zy1308 52 = .bool (zF1145 || (decide ((by_ % 1001) < (xs (i).toNat 3)))) := (Sp.out0 (zhp1312 13 52 (by kernel_rfl) (by kernel_rfl))).1
       have zS1315 := zS1144.quiet zhc1310
       refine step_if (zF1145 || (decide ((by_ % 1001) < (xs (i).toNat 3)))) zh1314 ?_ ?_
       · intro zh1316
         have zh1317 := orL zh1316
         have zh1318 := orR zh1316
         have zh1319 := ltF' zh1318
         refine yenv [(11, .int .i64 i)] (ag_cons zh1313 (ag_nil)) ?_
         have zS1320 := zS1315.loc
         refine Y.pure_ (.int .i64 i) ?_
         exact ⟨zS1320.ch, Sp.mk_holds [] all_nil (h2 := (bif_f zh1316).symm)⟩
       intro zh1316
       exact Sp.mk_holds [] all_nil (h2 := (bif_t zh1316).symm)
     refine step_cons ?_ ?_
     · intro zy1321 zw1322 zhc1323 zhf1324 zhp1325
       have zh1326 : zy1321 13 = .int .i64 3 := (zhf1324 13 (by kernel_rfl)).trans (by kernel_rfl)
       have zh1327 : zy1321 52 = .bool (zF1145 || (decide ((by_ % 1001) < (xs (i).toNat 3)))) := (Sp.out0 (zhp1325 13 52 (by kernel_rfl) (by kernel_rfl))).1
       have zS1328 := zS1144.quiet zhc1323
       refine step_if (zF1145 || (decide ((by_ % 1001) < (xs (i).toNat 3)))) zh1327 ?_ ?_
       · intro zh1329
         have zh1330 := orL zh1329
         have zh1331 := orR zh1329
         have zh1332 := ltF' zh1331
         refine yenv [(13, .int .i64 3)] (ag_cons zh1326 (ag_nil)) ?_
         have zS1333 := zS1328.loc
         refine Y.pure_ (.int .i64 3) ?_
         exact ⟨zS1333.ch, Sp.mk_holds [] all_nil (h2 := (bif_f zh1329).symm)⟩
       intro zh1329
       exact Sp.mk_holds [] all_nil (h2 := (bif_t zh1329).symm)
     refine step_cons ?_ ?_
     · intro zy1334 zw1335 zhc1336 zhf1337 zhp1338
       have zh1339 : zy1334 53 = (bif (zF1145 || (decide ((by_ % 1001) < (xs (i).toNat 3)))) then undef else (.slice (some ⟨b, o, none⟩) n c)) := (Sp.out0 (zhp1338 14 53 (by kernel_rfl) (by kernel_rfl))).1
       have zh1340 : zy1334 54 = (bif (zF1145 || (decide ((by_ % 1001) < (xs (i).toNat 3)))) then undef else (.int .i64 i)) := (Sp.out0 (zhp1338 15 54 (by kernel_rfl) (by kernel_rfl))).1
       have zh1341 : zy1334 52 = .bool (zF1145 || (decide ((by_ % 1001) < (xs (i).toNat 3)))) := (Sp.out0 (zhp1338 13 52 (by kernel_rfl) (by kernel_rfl))).1
       have zS1342 := zS1144.quiet zhc1336
       refine step_if (zF1145 || (decide ((by_ % 1001) < (xs (i).toNat 3)))) zh1341 ?_ ?_
       · intro zh1343
         have zh1344 := orL zh1343
         have zh1345 := orR zh1343
         have zh1346 := ltF' zh1345
         have zh1347 : zy1334 53 = .slice (some ⟨b, o, none⟩) n c := zh1339.trans (bif_f zh1343)
         have zh1348 : zy1334 54 = .int .i64 i := zh1340.trans (bif_f zh1343)
         refine yenv [(53, .slice (some ⟨b, o, none⟩) n c), (54, .int .i64 i)] (ag_cons zh1347 (ag_cons zh1348 (ag_nil))) ?_
         have zS1349 := zS1342.loc
         refine Y.idxS_ (e := 39) b o (i).toNat n 6 c .i64 i (by omega) (by omega) rfl ?_
         exact ⟨zS1349.ch, Sp.mk_holds [] all_nil (h2 := (bif_f zh1343).symm)⟩
       intro zh1343
       exact Sp.mk_holds [] all_nil (h2 := (bif_t zh1343).symm)
     refine step_cons ?_ ?_
     · intro zy1350 zw1351 zhc1352 zhf1353 zhp1354
       have zh1355 : zy1350 56 = (bif (zF1145 || (decide ((by_ % 1001) < (xs (i).toNat 3)))) then undef else (.pointer (some ⟨b, (o + (i).toNat * 6), none⟩))) := (Sp.out0 (zhp1354 17 56 (by kernel_rfl) (by kernel_rfl))).1
       have zh1356 : zy1350 52 = .bool (zF1145 || (decide ((by_ % 1001) < (xs (i).toNat 3)))) := (Sp.out0 (zhp1354 13 52 (by kernel_rfl) (by kernel_rfl))).1
       have zS1357 := zS1144.quiet zhc1352
       refine step_if (zF1145 || (decide ((by_ % 1001) < (xs (i).toNat 3)))) zh1356 ?_ ?_
       · intro zh1358
         have zh1359 := orL zh1358
         have zh1360 := orR zh1358
         have zh1361 := ltF' zh1360
         have zh1362 : zy1350 56 = .pointer (some ⟨b, (o + (i).toNat * 6), none⟩) := zh1355.trans (bif_f zh1358)
         refine yenv [(56, .pointer (some ⟨b, (o + (i).toNat * 6), none⟩))] (ag_cons zh1362 (ag_nil)) ?_
         have zS1363 := zS1357.loc
         refine Y.pure_ (.pointer (some ⟨b, (o + (i).toNat * 6 + 1), none⟩)) ?_
         exact ⟨zS1363.ch, Sp.mk_holds [] all_nil (h2 := (bif_f zh1358).symm)⟩
       intro zh1358
       exact Sp.mk_holds [] all_nil (h2 := (bif_t zh1358).symm)
     refine step_cons ?_ ?_
     · intro zy1364 zw1365 zhc1366 zhf1367 zhp1368
       have zh1369 : zy1364 57 = (bif (zF1145 || (decide ((by_ % 1001) < (xs (i).toNat 3)))) then undef else (.pointer (some ⟨b, (o + (i).toNat * 6 + 1), none⟩))) := (Sp.out0 (zhp1368 18 57 (by kernel_rfl) (by kernel_rfl))).1
       have zh1370 : zy1364 55 = (bif (zF1145 || (decide ((by_ % 1001) < (xs (i).toNat 3)))) then undef else (.int .i64 3)) := (Sp.out0 (zhp1368 16 55 (by kernel_rfl) (by kernel_rfl))).1
       have zh1371 : zy1364 52 = .bool (zF1145 || (decide ((by_ % 1001) < (xs (i).toNat 3)))) := (Sp.out0 (zhp1368 13 52 (by kernel_rfl) (by kernel_rfl))).1
       have zS1372 := zS1144.quiet zhc1366
       refine step_if (zF1145 || (decide ((by_ % 1001) < (xs (i).toNat 3)))) zh1371 ?_ ?_
       · intro zh1373
         have zh1374 := orL zh1373
         have zh1375 := orR zh1373
         have zh1376 := ltF' zh1375
         have zh1377 : zy1364 57 = .pointer (some ⟨b, (o + (i).toNat * 6 + 1), none⟩) := zh1369.trans (bif_f zh1373)
         have zh1378 : zy1364 55 = .int .i64 3 := zh1370.trans (bif_f zh1373)
         refine yenv [(57, .pointer (some ⟨b, (o + (i).toNat * 6 + 1), none⟩)), (55, .int .i64 3)] (ag_cons zh1377 (ag_cons zh1378 (ag_nil))) ?_
         have zS1379 := zS1372.loc
         refine Y.pure_ (.pointer (some ⟨b, (o + (i).toNat * 6 + 4), none⟩)) ?_
         exact ⟨zS1379.ch, Sp.mk_holds [] all_nil (h2 := (bif_f zh1373).symm)⟩
       intro zh1373
       exact Sp.mk_holds [] all_nil (h2 := (bif_t zh1373).symm)
     refine step_cons ?_ ?_
     · intro zy1380 zw1381 zhc1382 zhf1383 zhp1384
       have zh1385 : zy1380 58 = (bif (zF1145 || (decide ((by_ % 1001) < (xs (i).toNat 3)))) then undef else (.pointer (some ⟨b, (o + (i).toNat * 6 + 4), none⟩))) := (Sp.out0 (zhp1384 19 58 (by kernel_rfl) (by kernel_rfl))).1
       have zh1386 : zy1380 52 = .bool (zF1145 || (decide ((by_ % 1001) < (xs (i).toNat 3)))) := (Sp.out0 (zhp1384 13 52 (by kernel_rfl) (by kernel_rfl))).1
       have zS1387 := zS1144.quiet zhc1382
       refine step_if (zF1145 || (decide ((by_ % 1001) < (xs (i).toNat 3)))) zh1386 ?_ ?_
       · intro zh1388
         have zh1389 := orL zh1388
         have zh1390 := orR zh1388
         have zh1391 := ltF' zh1390
         have zh1392 : zy1380 58 = .pointer (some ⟨b, (o + (i).toNat * 6 + 4), none⟩) := zh1385.trans (bif_f zh1388)
         refine yenv [(58, .pointer (some ⟨b, (o + (i).toNat * 6 + 4), none⟩))] (ag_cons zh1392 (ag_nil)) ?_
         have zS1393 := zS1387.loc
         have zh1394 := hx ((i).toNat) 0
         have zh1395 := hx ((i).toNat) 1
         have zh1396 := hx ((i).toNat) 2
         have zh1397 := hx ((i).toNat) 3
         refine Y.loadO1_ zS1387 (.int .i64 (xs (i).toNat 3)) b (o + (i).toNat * 6 + 4) ((hl (i).toNat (by omega)) 4 _ rfl) (by simp) ?_
         exact ⟨zS1393.ch, Sp.mk_holds [] all_nil (h2 := (bif_f zh1388).symm)⟩
       intro zh1388
       exact Sp.mk_holds [] all_nil (h2 := (bif_t zh1388).symm)
     refine step_cons ?_ ?_
     · intro zy1398 zw1399 zhc1400 zhf1401 zhp1402
       have zh1403 : zy1398 8 = .pointer (some ⟨zb4, 0, none⟩) := (zhf1401 8 (by kernel_rfl)).trans (by kernel_rfl)
       have zh1404 : zy1398 52 = .bool (zF1145 || (decide ((by_ % 1001) < (xs (i).toNat 3)))) := (Sp.out0 (zhp1402 13 52 (by kernel_rfl) (by kernel_rfl))).1
       have zS1405 := zS1144.quiet zhc1400
       refine step_if (zF1145 || (decide ((by_ % 1001) < (xs (i).toNat 3)))) zh1404 ?_ ?_
       · intro zh1406
         have zh1407 := orL zh1406
         have zh1408 := orR zh1406
         have zh1409 := ltF' zh1408
         refine yenv [(8, .pointer (some ⟨zb4, 0, none⟩))] (ag_cons zh1403 (ag_nil)) ?_
         have zS1410 := zS1405.loc
         refine Y.pure_ (.pointer (some ⟨zb4, 47, none⟩)) ?_
         exact ⟨zS1410.ch, Sp.mk_holds [] all_nil (h2 := (bif_f zh1406).symm)⟩
       intro zh1406
       exact Sp.mk_holds [] all_nil (h2 := (bif_t zh1406).symm)
     refine step_cons ?_ ?_
     · intro zy1411 zw1412 zhc1413 zhf1414 zhp1415
       have zh1416 : zy1411 60 = (bif (zF1145 || (decide ((by_ % 1001) < (xs (i).toNat 3)))) then undef else (.pointer (some ⟨zb4, 47, none⟩))) := (Sp.out0 (zhp1415 21 60 (by kernel_rfl) (by kernel_rfl))).1
       have zh1417 : zy1411 52 = .bool (zF1145 || (decide ((by_ % 1001) < (xs (i).toNat 3)))) := (Sp.out0 (zhp1415 13 52 (by kernel_rfl) (by kernel_rfl))).1
       have zS1418 := zS1144.quiet zhc1413
       refine step_if (zF1145 || (decide ((by_ % 1001) < (xs (i).toNat 3)))) zh1417 ?_ ?_
       · intro zh1419
         have zh1420 := orL zh1419
         have zh1421 := orR zh1419
         have zh1422 := ltF' zh1421
         have zh1423 : zy1411 60 = .pointer (some ⟨zb4, 47, none⟩) := zh1416.trans (bif_f zh1419)
         refine yenv [(60, .pointer (some ⟨zb4, 47, none⟩))] (ag_cons zh1423 (ag_nil)) ?_
         have zS1424 := zS1418.loc
         refine Y.load1_ zS1424 0 (.int .i64 (by_ % 1001)) zb4 47 ?_
         exact ⟨zS1424.ch, Sp.mk_holds [] all_nil (h2 := (bif_f zh1419).symm)⟩
       intro zh1419
       exact Sp.mk_holds [] all_nil (h2 := (bif_t zh1419).symm)
     refine step_cons ?_ ?_
     · intro zy1425 zw1426 zhc1427 zhf1428 zhp1429
       have zh1430 : zy1425 61 = (bif (zF1145 || (decide ((by_ % 1001) < (xs (i).toNat 3)))) then undef else (.int .i64 (by_ % 1001))) := (Sp.out0 (zhp1429 22 61 (by kernel_rfl) (by kernel_rfl))).1
       have zh1431 : zy1425 52 = .bool (zF1145 || (decide ((by_ % 1001) < (xs (i).toNat 3)))) := (Sp.out0 (zhp1429 13 52 (by kernel_rfl) (by kernel_rfl))).1
       have zS1432 := zS1144.quiet zhc1427
       refine step_if (zF1145 || (decide ((by_ % 1001) < (xs (i).toNat 3)))) zh1431 ?_ ?_
       · intro zh1433
         have zh1434 := orL zh1433
         have zh1435 := orR zh1433
         have zh1436 := ltF' zh1435
         have zh1437 : zy1425 61 = .int .i64 (by_ % 1001) := zh1430.trans (bif_f zh1433)
         refine yenv [(61, .int .i64 (by_ % 1001))] (ag_cons zh1437 (ag_nil)) ?_
         have zS1438 := zS1432.loc
         refine Y.sum_ .i64 (0 - (by_ % 1001)) (IntWalk.i64_in _ (by omega)) ?_
         exact ⟨zS1438.ch, Sp.mk_holds [] all_nil (h2 := (bif_f zh1433).symm)⟩
       intro zh1433
       exact Sp.mk_holds [] all_nil (h2 := (bif_t zh1433).symm)
     refine step_cons ?_ ?_
     · intro zy1439 zw1440 zhc1441 zhf1442 zhp1443
       have zh1444 : zy1439 59 = (bif (zF1145 || (decide ((by_ % 1001) < (xs (i).toNat 3)))) then undef else (.int .i64 (xs (i).toNat 3))) := (Sp.out0 (zhp1443 20 59 (by kernel_rfl) (by kernel_rfl))).1
       have zh1445 : zy1439 62 = (bif (zF1145 || (decide ((by_ % 1001) < (xs (i).toNat 3)))) then undef else (.int .i64 (0 - (by_ % 1001)))) := (Sp.out0 (zhp1443 23 62 (by kernel_rfl) (by kernel_rfl))).1
       have zh1446 : zy1439 52 = .bool (zF1145 || (decide ((by_ % 1001) < (xs (i).toNat 3)))) := (Sp.out0 (zhp1443 13 52 (by kernel_rfl) (by kernel_rfl))).1
       have zS1447 := zS1144.quiet zhc1441
       refine step_if (zF1145 || (decide ((by_ % 1001) < (xs (i).toNat 3)))) zh1446 ?_ ?_
       · intro zh1448
         have zh1449 := orL zh1448
         have zh1450 := orR zh1448
         have zh1451 := ltF' zh1450
         have zh1452 : zy1439 59 = .int .i64 (xs (i).toNat 3) := zh1444.trans (bif_f zh1448)
         have zh1453 : zy1439 62 = .int .i64 (0 - (by_ % 1001)) := zh1445.trans (bif_f zh1448)
         refine yenv [(59, .int .i64 (xs (i).toNat 3)), (62, .int .i64 (0 - (by_ % 1001)))] (ag_cons zh1452 (ag_cons zh1453 (ag_nil))) ?_
         have zS1454 := zS1447.loc
         refine Y.pure_ (.bool (decide ((xs (i).toNat 3) < (0 - (by_ % 1001))))) ?_
         exact ⟨zS1454.ch, Sp.mk_holds [] all_nil (h2 := (bif_f zh1448).symm)⟩
       intro zh1448
       exact Sp.mk_holds [] all_nil (h2 := (bif_t zh1448).symm)
     refine step_cons ?_ ?_
     · intro zy1455 zw1456 zhc1457 zhf1458 zhp1459
       have zh1460 : zy1455 52 = .bool (zF1145 || (decide ((by_ % 1001) < (xs (i).toNat 3)))) := (Sp.out0 (zhp1459 13 52 (by kernel_rfl) (by kernel_rfl))).1
       have zh1461 : zy1455 63 = (bif (zF1145 || (decide ((by_ % 1001) < (xs (i).toNat 3)))) then undef else (.bool (decide ((xs (i).toNat 3) < (0 - (by_ % 1001)))))) := (Sp.out0 (zhp1459 24 63 (by kernel_rfl) (by kernel_rfl))).1
       have zS1462 := zS1144.quiet zhc1457
       refine step1 ?_
       refine yenv [(52, .bool (zF1145 || (decide ((by_ % 1001) < (xs (i).toNat 3))))), (63, (bif (zF1145 || (decide ((by_ % 1001) < (xs (i).toNat 3)))) then undef else (.bool (decide ((xs (i).toNat 3) < (0 - (by_ % 1001)))))))] (ag_cons zh1460 (ag_cons zh1461 (ag_nil))) ?_
       have zS1463 := zS1462.loc
       refine Y.pickB_ (zF1145 || (decide ((by_ % 1001) < (xs (i).toNat 3)))) ((zF1145 || (decide ((by_ % 1001) < (xs (i).toNat 3)))) || (decide ((xs (i).toNat 3) < (0 - (by_ % 1001))))) (.bool true) ((bif (zF1145 || (decide ((by_ % 1001) < (xs (i).toNat 3)))) then undef else (.bool (decide ((xs (i).toNat 3) < (0 - (by_ % 1001))))))) (fun h => (by rw [h]; rfl)) (fun h => (bif_f h).trans (by rw [h]; rfl)) ?_
       exact ⟨zS1463.ch, Sp.mk_holds [] (all_nil)⟩
     refine step_cons ?_ ?_
     · intro zy1464 zw1465 zhc1466 zhf1467 zhp1468
       have zh1469 : zy1464 64 = .bool ((zF1145 || (decide ((by_ % 1001) < (xs (i).toNat 3)))) || (decide ((xs (i).toNat 3) < (0 - (by_ % 1001))))) := (Sp.out0 (zhp1468 25 64 (by kernel_rfl) (by kernel_rfl))).1
       have zS1470 := zS1144.quiet zhc1466
       refine step1 ?_
       refine yenv [(64, .bool ((zF1145 || (decide ((by_ % 1001) < (xs (i).toNat 3)))) || (decide ((xs (i).toNat 3) < (0 - (by_ % 1001))))))] (ag_cons zh1469 (ag_nil)) ?_
       have zS1471 := zS1470.loc
       refine Y.assign_ ?_
       exact ⟨zS1471.ch, Sp.mk_holds [] (all_nil)⟩
     exact step_nil
   intro zv1472 zw1473 zhc1474 zha1475
   have zh1476 : zv1472 0 = .bool zF1145 := (Sp.out0 (zha1475 0 (by kernel_rfl))).1
   have zh1477 : zv1472 1 = .bool zF1145 := (Sp.out0 (zha1475 1 (by kernel_rfl))).1
   have zh1478 : zv1472 2 = (bif zF1145 then undef else (.slice (some ⟨b, o, none⟩) n c)) := (Sp.out0 (zha1475 2 (by kernel_rfl))).1
   have zh1479 : zv1472 3 = (bif zF1145 then undef else (.int .i64 i)) := (Sp.out0 (zha1475 3 (by kernel_rfl))).1
   have zh1480 : zv1472 4 = (bif zF1145 then undef else (.int .i64 3)) := (Sp.out0 (zha1475 4 (by kernel_rfl))).1
   have zh1481 : zv1472 5 = (bif zF1145 then undef else (.pointer (some ⟨b, (o + (i).toNat * 6), none⟩))) := (Sp.out0 (zha1475 5 (by kernel_rfl))).1
   have zh1482 : zv1472 6 = (bif zF1145 then undef else (.pointer (some ⟨b, (o + (i).toNat * 6 + 1), none⟩))) := (Sp.out0 (zha1475 6 (by kernel_rfl))).1
   have zh1483 : zv1472 7 = (bif zF1145 then undef else (.pointer (some ⟨b, (o + (i).toNat * 6 + 4), none⟩))) := (Sp.out0 (zha1475 7 (by kernel_rfl))).1
   have zh1484 : zv1472 8 = (bif zF1145 then undef else (.int .i64 (xs (i).toNat 3))) := (Sp.out0 (zha1475 8 (by kernel_rfl))).1
   have zh1485 : zv1472 9 = (bif zF1145 then undef else (.pointer (some ⟨zb4, 47, none⟩))) := (Sp.out0 (zha1475 9 (by kernel_rfl))).1
   have zh1486 : zv1472 10 = (bif zF1145 then undef else (.int .i64 (by_ % 1001))) := (Sp.out0 (zha1475 10 (by kernel_rfl))).1
   have zh1487 : zv1472 11 = (bif zF1145 then undef else (.bool (decide ((by_ % 1001) < (xs (i).toNat 3))))) := (Sp.out0 (zha1475 11 (by kernel_rfl))).1
   have zh1488 : zv1472 12 = .bool (zF1145 || (decide ((by_ % 1001) < (xs (i).toNat 3)))) := (Sp.out0 (zha1475 12 (by kernel_rfl))).1
   have zh1489 : zv1472 13 = .bool (zF1145 || (decide ((by_ % 1001) < (xs (i).toNat 3)))) := (Sp.out0 (zha1475 13 (by kernel_rfl))).1
   have zh1490 : zv1472 14 = (bif (zF1145 || (decide ((by_ % 1001) < (xs (i).toNat 3)))) then undef else (.slice (some ⟨b, o, none⟩) n c)) := (Sp.out0 (zha1475 14 (by kernel_rfl))).1
   have zh1491 : zv1472 15 = (bif (zF1145 || (decide ((by_ % 1001) < (xs (i).toNat 3)))) then undef else (.int .i64 i)) := (Sp.out0 (zha1475 15 (by kernel_rfl))).1
   have zh1492 : zv1472 16 = (bif (zF1145 || (decide ((by_ % 1001) < (xs (i).toNat 3)))) then undef else (.int .i64 3)) := (Sp.out0 (zha1475 16 (by kernel_rfl))).1
   have zh1493 : zv1472 17 = (bif (zF1145 || (decide ((by_ % 1001) < (xs (i).toNat 3)))) then undef else (.pointer (some ⟨b, (o + (i).toNat * 6), none⟩))) := (Sp.out0 (zha1475 17 (by kernel_rfl))).1
   have zh1494 : zv1472 18 = (bif (zF1145 || (decide ((by_ % 1001) < (xs (i).toNat 3)))) then undef else (.pointer (some ⟨b, (o + (i).toNat * 6 + 1), none⟩))) := (Sp.out0 (zha1475 18 (by kernel_rfl))).1
   have zh1495 : zv1472 19 = (bif (zF1145 || (decide ((by_ % 1001) < (xs (i).toNat 3)))) then undef else (.pointer (some ⟨b, (o + (i).toNat * 6 + 4), none⟩))) := (Sp.out0 (zha1475 19 (by kernel_rfl))).1
   have zh1496 : zv1472 20 = (bif (zF1145 || (decide ((by_ % 1001) < (xs (i).toNat 3)))) then undef else (.int .i64 (xs (i).toNat 3))) := (Sp.out0 (zha1475 20 (by kernel_rfl))).1
   have zh1497 : zv1472 21 = (bif (zF1145 || (decide ((by_ % 1001) < (xs (i).toNat 3)))) then undef else (.pointer (some ⟨zb4, 47, none⟩))) := (Sp.out0 (zha1475 21 (by kernel_rfl))).1
   have zh1498 : zv1472 22 = (bif (zF1145 || (decide ((by_ % 1001) < (xs (i).toNat 3)))) then undef else (.int .i64 (by_ % 1001))) := (Sp.out0 (zha1475 22 (by kernel_rfl))).1
   have zh1499 : zv1472 23 = (bif (zF1145 || (decide ((by_ % 1001) < (xs (i).toNat 3)))) then undef else (.int .i64 (0 - (by_ % 1001)))) := (Sp.out0 (zha1475 23 (by kernel_rfl))).1
   have zh1500 : zv1472 24 = (bif (zF1145 || (decide ((by_ % 1001) < (xs (i).toNat 3)))) then undef else (.bool (decide ((xs (i).toNat 3) < (0 - (by_ % 1001)))))) := (Sp.out0 (zha1475 24 (by kernel_rfl))).1
   have zh1501 : zv1472 25 = .bool ((zF1145 || (decide ((by_ % 1001) < (xs (i).toNat 3)))) || (decide ((xs (i).toNat 3) < (0 - (by_ % 1001))))) := (Sp.out0 (zha1475 25 (by kernel_rfl))).1
   have zh1502 : zv1472 26 = .bool ((zF1145 || (decide ((by_ % 1001) < (xs (i).toNat 3)))) || (decide ((xs (i).toNat 3) < (0 - (by_ % 1001))))) := (Sp.out0 (zha1475 26 (by kernel_rfl))).1
   have zS1503 := zS1144.quiet zhc1474
   refine ⟨[.bool zF1145, .bool zF1145, (bif zF1145 then undef else (.slice (some ⟨b, o, none⟩) n c)), (bif zF1145 then undef else (.int .i64 i)), (bif zF1145 then undef else (.int .i64 3)), (bif zF1145 then undef else (.pointer (some ⟨b, (o + (i).toNat * 6), none⟩))), (bif zF1145 then undef else (.pointer (some ⟨b, (o + (i).toNat * 6 + 1), none⟩))), (bif zF1145 then undef else (.pointer (some ⟨b, (o + (i).toNat * 6 + 4), none⟩))), (bif zF1145 then undef else (.int .i64 (xs (i).toNat 3))), (bif zF1145 then undef else (.pointer (some ⟨zb4, 47, none⟩))), (bif zF1145 then undef else (.int .i64 (by_ % 1001))), (bif zF1145 then undef else (.bool (decide ((by_ % 1001) < (xs (i).toNat 3))))), .bool (zF1145 || (decide ((by_ % 1001) < (xs (i).toNat 3)))), .bool (zF1145 || (decide ((by_ % 1001) < (xs (i).toNat 3)))), (bif (zF1145 || (decide ((by_ % 1001) < (xs (i).toNat 3)))) then undef else (.slice (some ⟨b, o, none⟩) n c)), (bif (zF1145 || (decide ((by_ % 1001) < (xs (i).toNat 3)))) then undef else (.int .i64 i)), (bif (zF1145 || (decide ((by_ % 1001) < (xs (i).toNat 3)))) then undef else (.int .i64 3)), (bif (zF1145 || (decide ((by_ % 1001) < (xs (i).toNat 3)))) then undef else (.pointer (some ⟨b, (o + (i).toNat * 6), none⟩))), (bif (zF1145 || (decide ((by_ % 1001) < (xs (i).toNat 3)))) then undef else (.pointer (some ⟨b, (o + (i).toNat * 6 + 1), none⟩))), (bif (zF1145 || (decide ((by_ % 1001) < (xs (i).toNat 3)))) then undef else (.pointer (some ⟨b, (o + (i).toNat * 6 + 4), none⟩))), (bif (zF1145 || (decide ((by_ % 1001) < (xs (i).toNat 3)))) then undef else (.int .i64 (xs (i).toNat 3))), (bif (zF1145 || (decide ((by_ % 1001) < (xs (i).toNat 3)))) then undef else (.pointer (some ⟨zb4, 47, none⟩))), (bif (zF1145 || (decide ((by_ % 1001) < (xs (i).toNat 3)))) then undef else (.int .i64 (by_ % 1001))), (bif (zF1145 || (decide ((by_ % 1001) < (xs (i).toNat 3)))) then undef else (.int .i64 (0 - (by_ % 1001)))), (bif (zF1145 || (decide ((by_ % 1001) < (xs (i).toNat 3)))) then undef else (.bool (decide ((xs (i).toNat 3) < (0 - (by_ % 1001)))))), .bool ((zF1145 || (decide ((by_ % 1001) < (xs (i).toNat 3)))) || (decide ((xs (i).toNat 3) < (0 - (by_ % 1001))))), .bool ((zF1145 || (decide ((by_ % 1001) < (xs (i).toNat 3)))) || (decide ((xs (i).toNat 3) < (0 - (by_ % 1001)))))], by kernel_rfl, va_cons zh1476 (va_cons zh1477 (va_cons zh1478 (va_cons zh1479 (va_cons zh1480 (va_cons zh1481 (va_cons zh1482 (va_cons zh1483 (va_cons zh1484 (va_cons zh1485 (va_cons zh1486 (va_cons zh1487 (va_cons zh1488 (va_cons zh1489 (va_cons zh1490 (va_cons zh1491 (va_cons zh1492 (va_cons zh1493 (va_cons zh1494 (va_cons zh1495 (va_cons zh1496 (va_cons zh1497 (va_cons zh1498 (va_cons zh1499 (va_cons zh1500 (va_cons zh1501 (va_cons zh1502 (va_nil))))))))))))))))))))))))))), ?_⟩
   refine nil_ (blk_n (then_n (reg_ ?_)))
   refine pure_ (.int .i64 3) ?_
   refine pure_ (.int .i64 4) ?_
   refine pure_ (.int .i64 4) ?_
   refine nil_ ?_
   obtain ⟨zF1504, hzF1504⟩ : ∃ z, z = ((zF1145 || (decide ((by_ % 1001) < (xs (i).toNat 3)))) || (decide ((xs (i).toNat 3) < (0 - (by_ % 1001))))) := ⟨_, rfl⟩
   rw [← hzF1504]
   refine again_ (seq_ (seq_ (reg_ ?_)))
   refine pure_ (.int .i64 4) ?_
   refine pure_ (.bool false) ?_
   refine nil_ (then_n (cond_F ?_))
   refine wp_exit (then_e (then_e (blk_e (then_n (seq_ (reg_ ?_))))))
   refine pure_ (.int .i64 rw) ?_
   refine sum_ .i64 (rw + 1) (IntWalk.i64_in _ (by omega)) ?_
   refine pure_ (.int .i64 (rw + 1)) ?_
   refine nil_ (then_n (seq_ (seq_ ?_)))
   refine textL_ 10 [⟨0, fun _ => .bool zF1504, fun _ => []⟩, ⟨0, fun _ => .bool (!zF1504), fun _ => []⟩, ⟨0, fun _ => .bool (!zF1504), fun _ => []⟩, ⟨0, fun _ => (bif (!zF1504) then undef else (.slice (some ⟨b, o, none⟩) n c)), fun _ => []⟩, ⟨0, fun _ => (bif (!zF1504) then undef else (.int .i64 i)), fun _ => []⟩, ⟨0, fun _ => (bif (!zF1504) then undef else (.pointer (some ⟨b, (o + (i).toNat * 6), none⟩))), fun _ => []⟩, ⟨0, fun _ => (bif (!zF1504) then undef else (.pointer (some ⟨b, (o + (i).toNat * 6), none⟩))), fun _ => []⟩, ⟨0, fun _ => (bif (!zF1504) then undef else (.bool (vd (i).toNat))), fun _ => []⟩, ⟨0, fun _ => (bif (!zF1504) then undef else (.bool (!(vd (i).toNat)))), fun _ => []⟩, ⟨0, fun _ => .bool ((!zF1504) || (!(vd (i).toNat))), fun _ => []⟩] [] ?_ ?_
   · refine step_cons ?_ ?_
     · intro zy1505 zw1506 zhc1507 zhf1508 zhp1509
       have zh1510 : zy1505 12 = .bool zF1504 := (zhf1508 12 (by kernel_rfl)).trans (by kernel_rfl)
       have zS1511 := zS1503.quiet zhc1507
       refine step1 ?_
       refine yenv [(12, .bool zF1504)] (ag_cons zh1510 (ag_nil)) ?_
       have zS1512 := zS1511.loc
       refine Y.pure_ (.bool zF1504) ?_
       exact ⟨zS1512.ch, Sp.mk_holds [] (all_nil)⟩
     refine step_cons ?_ ?_
     · intro zy1513 zw1514 zhc1515 zhf1516 zhp1517
       have zh1518 : zy1513 67 = .bool zF1504 := (Sp.out0 (zhp1517 0 67 (by kernel_rfl) (by kernel_rfl))).1
       have zS1519 := zS1503.quiet zhc1515
       refine step1 ?_
       refine yenv [(67, .bool zF1504)] (ag_cons zh1518 (ag_nil)) ?_
       have zS1520 := zS1519.loc
       refine Y.pure_ (.bool (!zF1504)) ?_
       exact ⟨zS1520.ch, Sp.mk_holds [] (all_nil)⟩
     refine step_cons ?_ ?_
     · intro zy1521 zw1522 zhc1523 zhf1524 zhp1525
       have zh1526 : zy1521 68 = .bool (!zF1504) := (Sp.out0 (zhp1525 1 68 (by kernel_rfl) (by kernel_rfl))).1
       have zS1527 := zS1503.quiet zhc1523
       refine step1 ?_
       refine yenv [(68, .bool (!zF1504))] (ag_cons zh1526 (ag_nil)) ?_
       have zS1528 := zS1527.loc
       refine Y.pure_ (.bool (!zF1504)) ?_
       exact ⟨zS1528.ch, Sp.mk_holds [] (all_nil)⟩
     refine step_cons ?_ ?_
     · intro zy1529 zw1530 zhc1531 zhf1532 zhp1533
       have zh1534 : zy1529 2 = .slice (some ⟨b, o, none⟩) n c := (zhf1532 2 (by kernel_rfl)).trans (by kernel_rfl)
       have zh1535 : zy1529 69 = .bool (!zF1504) := (Sp.out0 (zhp1533 2 69 (by kernel_rfl) (by kernel_rfl))).1
       have zS1536 := zS1503.quiet zhc1531
       refine step_if (!zF1504) zh1535 ?_ ?_
       · intro zh1537
         have zh1538 := notF' zh1537
         refine yenv [(2, .slice (some ⟨b, o, none⟩) n c)] (ag_cons zh1534 (ag_nil)) ?_
         have zS1539 := zS1536.loc
         refine Y.move_ ?_
         exact ⟨zS1539.ch, Sp.mk_holds [] all_nil (h2 := (bif_f zh1537).symm)⟩
       intro zh1537
       exact Sp.mk_holds [] all_nil (h2 := (bif_t zh1537).symm)
     refine step_cons ?_ ?_
     · intro zy1540 zw1541 zhc1542 zhf1543 zhp1544
       have zh1545 : zy1540 11 = .int .i64 i := (zhf1543 11 (by kernel_rfl)).trans (by kernel_rfl)
       have zh1546 : zy1540 69 = .bool (!zF1504) := (Sp.out0 (zhp1544 2 69 (by kernel_rfl) (by kernel_rfl))).1
       have zS1547 := zS1503.quiet zhc1542
       refine step_if (!zF1504) zh1546 ?_ ?_
       · intro zh1548
         have zh1549 := notF' zh1548
         refine yenv [(11, .int .i64 i)] (ag_cons zh1545 (ag_nil)) ?_
         have zS1550 := zS1547.loc
         refine Y.pure_ (.int .i64 i) ?_
         exact ⟨zS1550.ch, Sp.mk_holds [] all_nil (h2 := (bif_f zh1548).symm)⟩
       intro zh1548
       exact Sp.mk_holds [] all_nil (h2 := (bif_t zh1548).symm)
     refine step_cons ?_ ?_
     · intro zy1551 zw1552 zhc1553 zhf1554 zhp1555
       have zh1556 : zy1551 70 = (bif (!zF1504) then undef else (.slice (some ⟨b, o, none⟩) n c)) := (Sp.out0 (zhp1555 3 70 (by kernel_rfl) (by kernel_rfl))).1
       have zh1557 : zy1551 71 = (bif (!zF1504) then undef else (.int .i64 i)) := (Sp.out0 (zhp1555 4 71 (by kernel_rfl) (by kernel_rfl))).1
       have zh1558 : zy1551 69 = .bool (!zF1504) := (Sp.out0 (zhp1555 2 69 (by kernel_rfl) (by kernel_rfl))).1
       have zS1559 := zS1503.quiet zhc1553
       refine step_if (!zF1504) zh1558 ?_ ?_
       · intro zh1560
         have zh1561 := notF' zh1560
         have zh1562 : zy1551 70 = .slice (some ⟨b, o, none⟩) n c := zh1556.trans (bif_f zh1560)
         have zh1563 : zy1551 71 = .int .i64 i := zh1557.trans (bif_f zh1560)
         refine yenv [(70, .slice (some ⟨b, o, none⟩) n c), (71, .int .i64 i)] (ag_cons zh1562 (ag_cons zh1563 (ag_nil))) ?_
         have zS1564 := zS1559.loc
         refine Y.idxS_ (e := 39) b o (i).toNat n 6 c .i64 i (by omega) (by omega) rfl ?_
         exact ⟨zS1564.ch, Sp.mk_holds [] all_nil (h2 := (bif_f zh1560).symm)⟩
       intro zh1560
       exact Sp.mk_holds [] all_nil (h2 := (bif_t zh1560).symm)
     refine step_cons ?_ ?_
     · intro zy1565 zw1566 zhc1567 zhf1568 zhp1569
       have zh1570 : zy1565 72 = (bif (!zF1504) then undef else (.pointer (some ⟨b, (o + (i).toNat * 6), none⟩))) := (Sp.out0 (zhp1569 5 72 (by kernel_rfl) (by kernel_rfl))).1
       have zh1571 : zy1565 69 = .bool (!zF1504) := (Sp.out0 (zhp1569 2 69 (by kernel_rfl) (by kernel_rfl))).1
       have zS1572 := zS1503.quiet zhc1567
       refine step_if (!zF1504) zh1571 ?_ ?_
       · intro zh1573
         have zh1574 := notF' zh1573
         have zh1575 : zy1565 72 = .pointer (some ⟨b, (o + (i).toNat * 6), none⟩) := zh1570.trans (bif_f zh1573)
         refine yenv [(72, .pointer (some ⟨b, (o + (i).toNat * 6), none⟩))] (ag_cons zh1575 (ag_nil)) ?_
         have zS1576 := zS1572.loc
         refine Y.pure_ (.pointer (some ⟨b, (o + (i).toNat * 6), none⟩)) ?_
         exact ⟨zS1576.ch, Sp.mk_holds [] all_nil (h2 := (bif_f zh1573).symm)⟩
       intro zh1573
       exact Sp.mk_holds [] all_nil (h2 := (bif_t zh1573).symm)
     refine step_cons ?_ ?_
     · intro zy1577 zw1578 zhc1579 zhf1580 zhp1581
       have zh1582 : zy1577 73 = (bif (!zF1504) then undef else (.pointer (some ⟨b, (o + (i).toNat * 6), none⟩))) := (Sp.out0 (zhp1581 6 73 (by kernel_rfl) (by kernel_rfl))).1
       have zh1583 : zy1577 69 = .bool (!zF1504) := (Sp.out0 (zhp1581 2 69 (by kernel_rfl) (by kernel_rfl))).1
       have zS1584 := zS1503.quiet zhc1579
       refine step_if (!zF1504) zh1583 ?_ ?_
       · intro zh1585
         have zh1586 := notF' zh1585
         have zh1587 : zy1577 73 = .pointer (some ⟨b, (o + (i).toNat * 6), none⟩) := zh1582.trans (bif_f zh1585)
         refine yenv [(73, .pointer (some ⟨b, (o + (i).toNat * 6), none⟩))] (ag_cons zh1587 (ag_nil)) ?_
         have zS1588 := zS1584.loc
         have zh1589 := hx ((i).toNat) 0
         have zh1590 := hx ((i).toNat) 1
         have zh1591 := hx ((i).toNat) 2
         have zh1592 := hx ((i).toNat) 3
         refine Y.loadO1_ zS1584 (.bool (vd (i).toNat)) b (o + (i).toNat * 6) ((hl (i).toNat (by omega)) 0 _ rfl) (by simp) ?_
         exact ⟨zS1588.ch, Sp.mk_holds [] all_nil (h2 := (bif_f zh1585).symm)⟩
       intro zh1585
       exact Sp.mk_holds [] all_nil (h2 := (bif_t zh1585).symm)
     refine step_cons ?_ ?_
     · intro zy1593 zw1594 zhc1595 zhf1596 zhp1597
       have zh1598 : zy1593 74 = (bif (!zF1504) then undef else (.bool (vd (i).toNat))) := (Sp.out0 (zhp1597 7 74 (by kernel_rfl) (by kernel_rfl))).1
       have zh1599 : zy1593 69 = .bool (!zF1504) := (Sp.out0 (zhp1597 2 69 (by kernel_rfl) (by kernel_rfl))).1
       have zS1600 := zS1503.quiet zhc1595
       refine step_if (!zF1504) zh1599 ?_ ?_
       · intro zh1601
         have zh1602 := notF' zh1601
         have zh1603 : zy1593 74 = .bool (vd (i).toNat) := zh1598.trans (bif_f zh1601)
         refine yenv [(74, .bool (vd (i).toNat))] (ag_cons zh1603 (ag_nil)) ?_
         have zS1604 := zS1600.loc
         refine Y.pure_ (.bool (!(vd (i).toNat))) ?_
         exact ⟨zS1604.ch, Sp.mk_holds [] all_nil (h2 := (bif_f zh1601).symm)⟩
       intro zh1601
       exact Sp.mk_holds [] all_nil (h2 := (bif_t zh1601).symm)
     refine step_cons ?_ ?_
     · intro zy1605 zw1606 zhc1607 zhf1608 zhp1609
       have zh1610 : zy1605 69 = .bool (!zF1504) := (Sp.out0 (zhp1609 2 69 (by kernel_rfl) (by kernel_rfl))).1
       have zh1611 : zy1605 75 = (bif (!zF1504) then undef else (.bool (!(vd (i).toNat)))) := (Sp.out0 (zhp1609 8 75 (by kernel_rfl) (by kernel_rfl))).1
       have zS1612 := zS1503.quiet zhc1607
       refine step1 ?_
       refine yenv [(69, .bool (!zF1504)), (75, (bif (!zF1504) then undef else (.bool (!(vd (i).toNat)))))] (ag_cons zh1610 (ag_cons zh1611 (ag_nil))) ?_
       have zS1613 := zS1612.loc
       refine Y.pickB_ (!zF1504) ((!zF1504) || (!(vd (i).toNat))) (.bool true) ((bif (!zF1504) then undef else (.bool (!(vd (i).toNat))))) (fun h => (by rw [h]; rfl)) (fun h => (bif_f h).trans (by rw [h]; rfl)) ?_
       exact ⟨zS1613.ch, Sp.mk_holds [] (all_nil)⟩
     exact step_nil
   intro zv1614 zw1615 zhc1616 zha1617
   have zh1618 : zv1614 0 = .bool zF1504 := (Sp.out0 (zha1617 0 (by kernel_rfl))).1
   have zh1619 : zv1614 1 = .bool (!zF1504) := (Sp.out0 (zha1617 1 (by kernel_rfl))).1
   have zh1620 : zv1614 2 = .bool (!zF1504) := (Sp.out0 (zha1617 2 (by kernel_rfl))).1
   have zh1621 : zv1614 3 = (bif (!zF1504) then undef else (.slice (some ⟨b, o, none⟩) n c)) := (Sp.out0 (zha1617 3 (by kernel_rfl))).1
   have zh1622 : zv1614 4 = (bif (!zF1504) then undef else (.int .i64 i)) := (Sp.out0 (zha1617 4 (by kernel_rfl))).1
   have zh1623 : zv1614 5 = (bif (!zF1504) then undef else (.pointer (some ⟨b, (o + (i).toNat * 6), none⟩))) := (Sp.out0 (zha1617 5 (by kernel_rfl))).1
   have zh1624 : zv1614 6 = (bif (!zF1504) then undef else (.pointer (some ⟨b, (o + (i).toNat * 6), none⟩))) := (Sp.out0 (zha1617 6 (by kernel_rfl))).1
   have zh1625 : zv1614 7 = (bif (!zF1504) then undef else (.bool (vd (i).toNat))) := (Sp.out0 (zha1617 7 (by kernel_rfl))).1
   have zh1626 : zv1614 8 = (bif (!zF1504) then undef else (.bool (!(vd (i).toNat)))) := (Sp.out0 (zha1617 8 (by kernel_rfl))).1
   have zh1627 : zv1614 9 = .bool ((!zF1504) || (!(vd (i).toNat))) := (Sp.out0 (zha1617 9 (by kernel_rfl))).1
   have zS1628 := zS1503.quiet zhc1616
   refine ⟨[.bool zF1504, .bool (!zF1504), .bool (!zF1504), (bif (!zF1504) then undef else (.slice (some ⟨b, o, none⟩) n c)), (bif (!zF1504) then undef else (.int .i64 i)), (bif (!zF1504) then undef else (.pointer (some ⟨b, (o + (i).toNat * 6), none⟩))), (bif (!zF1504) then undef else (.pointer (some ⟨b, (o + (i).toNat * 6), none⟩))), (bif (!zF1504) then undef else (.bool (vd (i).toNat))), (bif (!zF1504) then undef else (.bool (!(vd (i).toNat)))), .bool ((!zF1504) || (!(vd (i).toNat)))], by kernel_rfl, va_cons zh1618 (va_cons zh1619 (va_cons zh1620 (va_cons zh1621 (va_cons zh1622 (va_cons zh1623 (va_cons zh1624 (va_cons zh1625 (va_cons zh1626 (va_cons zh1627 (va_nil)))))))))), ?_⟩
   refine nil_ (then_n ?_)
   refine cond_J ((!zF1504) || (!(vd (i).toNat))) (fun za zw => za = ⟨#[.int .u8 bn, .int .u16 by_, .slice (some ⟨b, o, none⟩) n c, undef, undef, undef, (zj9 0), .bool true, .pointer (some ⟨zb4, 0, none⟩), .int .i64 rn, .int .i64 (bif ((!zF1504) || (!(vd (i).toNat))) then (0 : Int) else (rw + 1)), .int .i64 i, .bool zF1504, .int .i64 4, (zj9 3), (zj9 4), .bool true, .int .u8 bn, .int .i64 bn, .int .i64 (bn % 16), .int .i64 (1 + (bn % 16)), .int .u16 by_, .int .i64 by_, .int .i64 (by_ % 1001), .agg #[.int .i64 0, .int .i64 0, .int .i64 0, .int .i64 0, .int .i64 0, .slice none 0 0, .slice none 0 0, .slice none 0 0, .slice none 0 0, .int .i64 0, .int .i64 0, .int .i64 0, .int .i64 0, .int .i64 0, .int .i64 0, .int .i64 0, .int .i64 0, .int .i64 0, .int .i64 0, .int .i64 0, .int .i64 0, .int .i64 0, .int .i64 0, .int .i64 0, .int .i64 0, .int .i64 0, .int .i64 0, .int .i64 0, .int .i64 0, .int .i64 0, .int .i64 0, .int .i64 0, .int .i64 0, .int .i64 0, .int .i64 0, .int .i64 0, .int .i64 0, .int .i64 0, .int .i64 0, .int .i64 0, .int .i64 0, .int .i64 0, .int .i64 0, .int .i64 0, .int .i64 0, .int .i64 0, .int .i64 (1 + (bn % 16)), .int .i64 (by_ % 1001), .int .i64 0, .int .i64 0, .int .i64 0, .int .i64 0, .int .i64 0, .int .i64 0, .int .i64 0, .int .i64 0], .int .i64 i, .slice (some ⟨b, o, none⟩) n c, .int .i64 ((n : Nat) : Int), .bool (decide (i < ((n : Nat) : Int))), .bool (decide (i < ((n : Nat) : Int))), (bif (decide (i < ((n : Nat) : Int))) then (.int .i64 i) else undef), (bif (decide (i < ((n : Nat) : Int))) then (.bool (decide (i < 60))) else undef), .bool ((decide (i < ((n : Nat) : Int))) && (decide (i < 60))), (zj9 13), (zj9 14), .int .i64 4, .bool false, .int .i64 3, .int .i64 4, .bool zF1145, .bool zF1145, (bif zF1145 then undef else (.slice (some ⟨b, o, none⟩) n c)), (bif zF1145 then undef else (.int .i64 i)), (bif zF1145 then undef else (.int .i64 3)), (bif zF1145 then undef else (.pointer (some ⟨b, (o + (i).toNat * 6), none⟩))), (bif zF1145 then undef else (.pointer (some ⟨b, (o + (i).toNat * 6 + 1), none⟩))), (bif zF1145 then undef else (.pointer (some ⟨b, (o + (i).toNat * 6 + 4), none⟩))), (bif zF1145 then undef else (.int .i64 (xs (i).toNat 3))), (bif zF1145 then undef else (.pointer (some ⟨zb4, 47, none⟩))), (bif zF1145 then undef else (.int .i64 (by_ % 1001))), (bif zF1145 then undef else (.bool (decide ((by_ % 1001) < (xs (i).toNat 3))))), .bool (zF1145 || (decide ((by_ % 1001) < (xs (i).toNat 3)))), .bool (zF1145 || (decide ((by_ % 1001) < (xs (i).toNat 3)))), (bif (zF1145 || (decide ((by_ % 1001) < (xs (i).toNat 3)))) then undef else (.slice (some ⟨b, o, none⟩) n c)), (bif (zF1145 || (decide ((by_ % 1001) < (xs (i).toNat 3)))) then undef else (.int .i64 i)), (bif (zF1145 || (decide ((by_ % 1001) < (xs (i).toNat 3)))) then undef else (.int .i64 3)), (bif (zF1145 || (decide ((by_ % 1001) < (xs (i).toNat 3)))) then undef else (.pointer (some ⟨b, (o + (i).toNat * 6), none⟩))), (bif (zF1145 || (decide ((by_ % 1001) < (xs (i).toNat 3)))) then undef else (.pointer (some ⟨b, (o + (i).toNat * 6 + 1), none⟩))), (bif (zF1145 || (decide ((by_ % 1001) < (xs (i).toNat 3)))) then undef else (.pointer (some ⟨b, (o + (i).toNat * 6 + 4), none⟩))), (bif (zF1145 || (decide ((by_ % 1001) < (xs (i).toNat 3)))) then undef else (.int .i64 (xs (i).toNat 3))), (bif (zF1145 || (decide ((by_ % 1001) < (xs (i).toNat 3)))) then undef else (.pointer (some ⟨zb4, 47, none⟩))), (bif (zF1145 || (decide ((by_ % 1001) < (xs (i).toNat 3)))) then undef else (.int .i64 (by_ % 1001))), (bif (zF1145 || (decide ((by_ % 1001) < (xs (i).toNat 3)))) then undef else (.int .i64 (0 - (by_ % 1001)))), (bif (zF1145 || (decide ((by_ % 1001) < (xs (i).toNat 3)))) then undef else (.bool (decide ((xs (i).toNat 3) < (0 - (by_ % 1001)))))), .bool zF1504, .int .i64 rw, .int .i64 (rw + 1), .bool zF1504, .bool (!zF1504), .bool (!zF1504), (bif (!zF1504) then undef else (.slice (some ⟨b, o, none⟩) n c)), (bif (!zF1504) then undef else (.int .i64 i)), (bif (!zF1504) then undef else (.pointer (some ⟨b, (o + (i).toNat * 6), none⟩))), (bif (!zF1504) then undef else (.pointer (some ⟨b, (o + (i).toNat * 6), none⟩))), (bif (!zF1504) then undef else (.bool (vd (i).toNat))), (bif (!zF1504) then undef else (.bool (!(vd (i).toNat)))), .bool ((!zF1504) || (!(vd (i).toNat))), (zj9 57), (zj9 58), (zj9 59), (zj9 60), (zj9 61), (zj9 62), (zj9 63), (zj9 64), (zj9 65), (zj9 66), (zj9 67), (zj9 68), (zj9 69), (zj9 70), (zj9 71), (zj9 72), (zj9 73), (zj9 74), (zj9 75), (zj9 76), (zj9 77), (zj9 78), (zj9 79), (zj9 80), (zj9 81), undef], []⟩ ∧ St [] w [⟨zb4, true, .cells #[.int .i64 0, .int .i64 0, .int .i64 0, .int .i64 0, .int .i64 0, .slice none 0 0, .slice none 0 0, .slice none 0 0, .slice none 0 0, .int .i64 0, .int .i64 0, .int .i64 0, .int .i64 0, .int .i64 0, .int .i64 0, .int .i64 0, .int .i64 0, .int .i64 0, .int .i64 0, .int .i64 0, .int .i64 0, .int .i64 0, .int .i64 0, .int .i64 0, .int .i64 0, .int .i64 0, .int .i64 0, .int .i64 0, .int .i64 0, .int .i64 0, .int .i64 0, .int .i64 0, .int .i64 0, .int .i64 0, .int .i64 0, .int .i64 0, .int .i64 0, .int .i64 0, .int .i64 0, .int .i64 0, .int .i64 0, .int .i64 0, .int .i64 0, .int .i64 0, .int .i64 0, .int .i64 0, .int .i64 (1 + (bn % 16)), .int .i64 (by_ % 1001), .int .i64 0, .int .i64 0, .int .i64 0, .int .i64 0, .int .i64 0, .int .i64 0, .int .i64 0, .int .i64 0] 37 (0, 0)⟩] zw) ?_ ?_ ?_
   · intro zh1629
     have zh1630 := zh1629
     simp at zh1630
     refine reg_ ?_
     refine pure_ (.int .i64 0) ?_
     refine nil_ ?_
     exact ⟨by (try rw [zh1629]) <;> kernel_rfl, zS1628.pick [0] (by (try rw [zh1629]) <;> kernel_rfl) (by decide)⟩
   · intro zh1631
     have zh1632 := orL zh1631
     have zh1633 := orR zh1631
     have zh1634 := notF' zh1632
     have zh1635 := notF' zh1633
     refine wp_skip ?_
     exact ⟨by (try rw [zh1631]) <;> kernel_rfl, zS1628.pick [0] (by (try rw [zh1631]) <;> kernel_rfl) (by decide)⟩
   rintro za1636 zw1637 ⟨rfl, zS1638⟩
   refine then_n (seq_ ?_)
   refine drawnL_ 11 [⟨0, fun _ => .agg #[.int .i64 0, .int .i64 0, .int .i64 0, .int .i64 0, .int .i64 0, .slice none 0 0, .slice none 0 0, .slice none 0 0, .slice none 0 0, .int .i64 0, .int .i64 0, .int .i64 0, .int .i64 0, .int .i64 0, .int .i64 0, .int .i64 0, .int .i64 0, .int .i64 0, .int .i64 0, .int .i64 0, .int .i64 0, .int .i64 0, .int .i64 0, .int .i64 0, .int .i64 0, .int .i64 0, .int .i64 0, .int .i64 0, .int .i64 0, .int .i64 0, .int .i64 0, .int .i64 0, .int .i64 0, .int .i64 0, .int .i64 0, .int .i64 0, .int .i64 0, .int .i64 0, .int .i64 0, .int .i64 0, .int .i64 0, .int .i64 0, .int .i64 0, .int .i64 0, .int .i64 0, .int .i64 0, .int .i64 (1 + (bn % 16)), .int .i64 (by_ % 1001), .int .i64 0, .int .i64 0, .int .i64 0, .int .i64 0, .int .i64 0, .int .i64 0, .int .i64 0, .int .i64 0], fun _ => []⟩, ⟨0, fun _ => .int .i64 rn, fun _ => []⟩, ⟨0, fun _ => .slice (some ⟨b, o, none⟩) n c, fun _ => []⟩, ⟨0, fun _ => .int .i64 i, fun _ => []⟩, ⟨0, fun _ => .pointer (some ⟨b, (o + (i).toNat * 6), none⟩), fun _ => []⟩, ⟨0, fun _ => .agg #[.bool (vd (i).toNat), .int .i64 (xs (i).toNat 0), .int .i64 (xs (i).toNat 1), .int .i64 (xs (i).toNat 2), .int .i64 (xs (i).toNat 3), .bool (gv (i).toNat)], fun _ => []⟩, ⟨0, fun _ => .tuple #[.int .i64 (runS (vd (i).toNat) (beyS (IntKind.i64.wrap (-(by_ % 1001))) (by_ % 1001) (xs (i).toNat 0) (xs (i).toNat 1) (xs (i).toNat 2) (xs (i).toNat 3)) rn (1 + (bn % 16))), .bool (overS (vd (i).toNat) (beyS (IntKind.i64.wrap (-(by_ % 1001))) (by_ % 1001) (xs (i).toNat 0) (xs (i).toNat 1) (xs (i).toNat 2) (xs (i).toNat 3)) rn (1 + (bn % 16)))], fun _ => []⟩, ⟨0, fun _ => .tuple #[.int .i64 (runS (vd (i).toNat) (beyS (IntKind.i64.wrap (-(by_ % 1001))) (by_ % 1001) (xs (i).toNat 0) (xs (i).toNat 1) (xs (i).toNat 2) (xs (i).toNat 3)) rn (1 + (bn % 16))), .bool (overS (vd (i).toNat) (beyS (IntKind.i64.wrap (-(by_ % 1001))) (by_ % 1001) (xs (i).toNat 0) (xs (i).toNat 1) (xs (i).toNat 2) (xs (i).toNat 3)) rn (1 + (bn % 16)))], fun _ => []⟩, ⟨0, fun _ => .int .i64 (runS (vd (i).toNat) (beyS (IntKind.i64.wrap (-(by_ % 1001))) (by_ % 1001) (xs (i).toNat 0) (xs (i).toNat 1) (xs (i).toNat 2) (xs (i).toNat 3)) rn (1 + (bn % 16))), fun _ => []⟩, ⟨0, fun _ => .bool (overS (vd (i).toNat) (beyS (IntKind.i64.wrap (-(by_ % 1001))) (by_ % 1001) (xs (i).toNat 0) (xs (i).toNat 1) (xs (i).toNat 2) (xs (i).toNat 3)) rn (1 + (bn % 16))), fun _ => []⟩, ⟨0, fun _ => .int .i64 (runS (vd (i).toNat) (beyS (IntKind.i64.wrap (-(by_ % 1001))) (by_ % 1001) (xs (i).toNat 0) (xs (i).toNat 1) (xs (i).toNat 2) (xs (i).toNat 3)) rn (1 + (bn % 16))), fun _ => []⟩] [[11, 0], [11, 1], [11, 2], [11, 3], [11, 4], [11, 5], [11, 6], [11, 7], [11, 8], [11, 9], [11, 10]] ?_ ?_
   · refine step_cons ?_ ?_
     · intro zy1639 zw1640 zhc1641 zhf1642 zhp1643
       have zh1644 : zy1639 8 = .pointer (some ⟨zb4, 0, none⟩) := (zhf1642 8 (by kernel_rfl)).trans (by kernel_rfl)
       have zS1645 := zS1638.quiet zhc1641
       refine step1 ?_
       refine yenv [(8, .pointer (some ⟨zb4, 0, none⟩))] (ag_cons zh1644 (ag_nil)) ?_
       have zS1646 := zS1645.loc
       refine Y.loadN_ zS1646 0 56 #[.int .i64 0, .int .i64 0, .int .i64 0, .int .i64 0, .int .i64 0, .slice none 0 0, .slice none 0 0, .slice none 0 0, .slice none 0 0, .int .i64 0, .int .i64 0, .int .i64 0, .int .i64 0, .int .i64 0, .int .i64 0, .int .i64 0, .int .i64 0, .int .i64 0, .int .i64 0, .int .i64 0, .int .i64 0, .int .i64 0, .int .i64 0, .int .i64 0, .int .i64 0, .int .i64 0, .int .i64 0, .int .i64 0, .int .i64 0, .int .i64 0, .int .i64 0, .int .i64 0, .int .i64 0, .int .i64 0, .int .i64 0, .int .i64 0, .int .i64 0, .int .i64 0, .int .i64 0, .int .i64 0, .int .i64 0, .int .i64 0, .int .i64 0, .int .i64 0, .int .i64 0, .int .i64 0, .int .i64 (1 + (bn % 16)), .int .i64 (by_ % 1001), .int .i64 0, .int .i64 0, .int .i64 0, .int .i64 0, .int .i64 0, .int .i64 0, .int .i64 0, .int .i64 0] zb4 0 ?_
       exact ⟨zS1646.ch, Sp.mk_holds [] (all_nil)⟩
     refine step_cons ?_ ?_
     · intro zy1647 zw1648 zhc1649 zhf1650 zhp1651
       have zh1652 : zy1647 9 = .int .i64 rn := (zhf1650 9 (by kernel_rfl)).trans (by kernel_rfl)
       have zS1653 := zS1638.quiet zhc1649
       refine step1 ?_
       refine yenv [(9, .int .i64 rn)] (ag_cons zh1652 (ag_nil)) ?_
       have zS1654 := zS1653.loc
       refine Y.pure_ (.int .i64 rn) ?_
       exact ⟨zS1654.ch, Sp.mk_holds [] (all_nil)⟩
     refine step_cons ?_ ?_
     · intro zy1655 zw1656 zhc1657 zhf1658 zhp1659
       have zh1660 : zy1655 2 = .slice (some ⟨b, o, none⟩) n c := (zhf1658 2 (by kernel_rfl)).trans (by kernel_rfl)
       have zS1661 := zS1638.quiet zhc1657
       refine step1 ?_
       refine yenv [(2, .slice (some ⟨b, o, none⟩) n c)] (ag_cons zh1660 (ag_nil)) ?_
       have zS1662 := zS1661.loc
       refine Y.move_ ?_
       exact ⟨zS1662.ch, Sp.mk_holds [] (all_nil)⟩
     refine step_cons ?_ ?_
     · intro zy1663 zw1664 zhc1665 zhf1666 zhp1667
       have zh1668 : zy1663 11 = .int .i64 i := (zhf1666 11 (by kernel_rfl)).trans (by kernel_rfl)
       have zS1669 := zS1638.quiet zhc1665
       refine step1 ?_
       refine yenv [(11, .int .i64 i)] (ag_cons zh1668 (ag_nil)) ?_
       have zS1670 := zS1669.loc
       refine Y.pure_ (.int .i64 i) ?_
       exact ⟨zS1670.ch, Sp.mk_holds [] (all_nil)⟩
     refine step_cons ?_ ?_
     · intro zy1671 zw1672 zhc1673 zhf1674 zhp1675
       have zh1676 : zy1671 80 = .slice (some ⟨b, o, none⟩) n c := (Sp.out0 (zhp1675 2 80 (by kernel_rfl) (by kernel_rfl))).1
       have zh1677 : zy1671 81 = .int .i64 i := (Sp.out0 (zhp1675 3 81 (by kernel_rfl) (by kernel_rfl))).1
       have zS1678 := zS1638.quiet zhc1673
       refine step1 ?_
       refine yenv [(80, .slice (some ⟨b, o, none⟩) n c), (81, .int .i64 i)] (ag_cons zh1676 (ag_cons zh1677 (ag_nil))) ?_
       have zS1679 := zS1678.loc
       refine Y.idxS_ (e := 39) b o (i).toNat n 6 c .i64 i (by omega) (by omega) rfl ?_
       exact ⟨zS1679.ch, Sp.mk_holds [] (all_nil)⟩
     refine step_cons ?_ ?_
     · intro zy1680 zw1681 zhc1682 zhf1683 zhp1684
       have zh1685 : zy1680 82 = .pointer (some ⟨b, (o + (i).toNat * 6), none⟩) := (Sp.out0 (zhp1684 4 82 (by kernel_rfl) (by kernel_rfl))).1
       have zS1686 := zS1638.quiet zhc1682
       refine step1 ?_
       refine yenv [(82, .pointer (some ⟨b, (o + (i).toNat * 6), none⟩))] (ag_cons zh1685 (ag_nil)) ?_
       have zS1687 := zS1686.loc
       have zh1688 := hx ((i).toNat) 0
       have zh1689 := hx ((i).toNat) 1
       have zh1690 := hx ((i).toNat) 2
       have zh1691 := hx ((i).toNat) 3
       refine Y.loadON_ zS1686 6 #[.bool (vd (i).toNat), .int .i64 (xs (i).toNat 0), .int .i64 (xs (i).toNat 1), .int .i64 (xs (i).toNat 2), .int .i64 (xs (i).toNat 3), .bool (gv (i).toNat)] b (o + (i).toNat * 6) (hl (i).toNat (by omega)) (by simp) ?_
       exact ⟨zS1687.ch, Sp.mk_holds [] (all_nil)⟩
     refine step_cons ?_ ?_
     · intro zy1692 zw1693 zhc1694 zhf1695 zhp1696
       have zh1697 : zy1692 78 = .agg #[.int .i64 0, .int .i64 0, .int .i64 0, .int .i64 0, .int .i64 0, .slice none 0 0, .slice none 0 0, .slice none 0 0, .slice none 0 0, .int .i64 0, .int .i64 0, .int .i64 0, .int .i64 0, .int .i64 0, .int .i64 0, .int .i64 0, .int .i64 0, .int .i64 0, .int .i64 0, .int .i64 0, .int .i64 0, .int .i64 0, .int .i64 0, .int .i64 0, .int .i64 0, .int .i64 0, .int .i64 0, .int .i64 0, .int .i64 0, .int .i64 0, .int .i64 0, .int .i64 0, .int .i64 0, .int .i64 0, .int .i64 0, .int .i64 0, .int .i64 0, .int .i64 0, .int .i64 0, .int .i64 0, .int .i64 0, .int .i64 0, .int .i64 0, .int .i64 0, .int .i64 0, .int .i64 0, .int .i64 (1 + (bn % 16)), .int .i64 (by_ % 1001), .int .i64 0, .int .i64 0, .int .i64 0, .int .i64 0, .int .i64 0, .int .i64 0, .int .i64 0, .int .i64 0] := (Sp.out0 (zhp1696 0 78 (by kernel_rfl) (by kernel_rfl))).1
       have zh1698 : zy1692 79 = .int .i64 rn := (Sp.out0 (zhp1696 1 79 (by kernel_rfl) (by kernel_rfl))).1
       have zh1699 : zy1692 83 = .agg #[.bool (vd (i).toNat), .int .i64 (xs (i).toNat 0), .int .i64 (xs (i).toNat 1), .int .i64 (xs (i).toNat 2), .int .i64 (xs (i).toNat 3), .bool (gv (i).toNat)] := (Sp.out0 (zhp1696 5 83 (by kernel_rfl) (by kernel_rfl))).1
       have zS1700 := zS1638.quiet zhc1694
       refine step1 ?_
       refine yenv [(78, .agg #[.int .i64 0, .int .i64 0, .int .i64 0, .int .i64 0, .int .i64 0, .slice none 0 0, .slice none 0 0, .slice none 0 0, .slice none 0 0, .int .i64 0, .int .i64 0, .int .i64 0, .int .i64 0, .int .i64 0, .int .i64 0, .int .i64 0, .int .i64 0, .int .i64 0, .int .i64 0, .int .i64 0, .int .i64 0, .int .i64 0, .int .i64 0, .int .i64 0, .int .i64 0, .int .i64 0, .int .i64 0, .int .i64 0, .int .i64 0, .int .i64 0, .int .i64 0, .int .i64 0, .int .i64 0, .int .i64 0, .int .i64 0, .int .i64 0, .int .i64 0, .int .i64 0, .int .i64 0, .int .i64 0, .int .i64 0, .int .i64 0, .int .i64 0, .int .i64 0, .int .i64 0, .int .i64 0, .int .i64 (1 + (bn % 16)), .int .i64 (by_ % 1001), .int .i64 0, .int .i64 0, .int .i64 0, .int .i64 0, .int .i64 0, .int .i64 0, .int .i64 0, .int .i64 0]), (79, .int .i64 rn), (83, .agg #[.bool (vd (i).toNat), .int .i64 (xs (i).toNat 0), .int .i64 (xs (i).toNat 1), .int .i64 (xs (i).toNat 2), .int .i64 (xs (i).toNat 3), .bool (gv (i).toNat)])] (ag_cons zh1697 (ag_cons zh1698 (ag_cons zh1699 (ag_nil)))) ?_
       have zS1701 := zS1700.loc
       refine Y.call_ 21 #[.agg #[.int .i64 0, .int .i64 0, .int .i64 0, .int .i64 0, .int .i64 0, .slice none 0 0, .slice none 0 0, .slice none 0 0, .slice none 0 0, .int .i64 0, .int .i64 0, .int .i64 0, .int .i64 0, .int .i64 0, .int .i64 0, .int .i64 0, .int .i64 0, .int .i64 0, .int .i64 0, .int .i64 0, .int .i64 0, .int .i64 0, .int .i64 0, .int .i64 0, .int .i64 0, .int .i64 0, .int .i64 0, .int .i64 0, .int .i64 0, .int .i64 0, .int .i64 0, .int .i64 0, .int .i64 0, .int .i64 0, .int .i64 0, .int .i64 0, .int .i64 0, .int .i64 0, .int .i64 0, .int .i64 0, .int .i64 0, .int .i64 0, .int .i64 0, .int .i64 0, .int .i64 0, .int .i64 0, .int .i64 (1 + (bn % 16)), .int .i64 (by_ % 1001), .int .i64 0, .int .i64 0, .int .i64 0, .int .i64 0, .int .i64 0, .int .i64 0, .int .i64 0, .int .i64 0], .int .i64 rn, .agg #[.bool (vd (i).toNat), .int .i64 (xs (i).toNat 0), .int .i64 (xs (i).toNat 1), .int .i64 (xs (i).toNat 2), .int .i64 (xs (i).toNat 3), .bool (gv (i).toNat)]] ?_
       refine (gives_of (see_any #[.int .i64 0, .int .i64 0, .int .i64 0, .int .i64 0, .int .i64 0, .slice none 0 0, .slice none 0 0, .slice none 0 0, .slice none 0 0, .int .i64 0, .int .i64 0, .int .i64 0, .int .i64 0, .int .i64 0, .int .i64 0, .int .i64 0, .int .i64 0, .int .i64 0, .int .i64 0, .int .i64 0, .int .i64 0, .int .i64 0, .int .i64 0, .int .i64 0, .int .i64 0, .int .i64 0, .int .i64 0, .int .i64 0, .int .i64 0, .int .i64 0, .int .i64 0, .int .i64 0, .int .i64 0, .int .i64 0, .int .i64 0, .int .i64 0, .int .i64 0, .int .i64 0, .int .i64 0, .int .i64 0, .int .i64 0, .int .i64 0, .int .i64 0, .int .i64 0, .int .i64 0, .int .i64 0, .int .i64 (1 + (bn % 16)), .int .i64 (by_ % 1001), .int .i64 0, .int .i64 0, .int .i64 0, .int .i64 0, .int .i64 0, .int .i64 0, .int .i64 0, .int .i64 0] (1 + (bn % 16)) (by_ % 1001) (IntKind.i64.wrap (-(by_ % 1001))) rn (xs (i).toNat 0) (xs (i).toNat 1) (xs (i).toNat 2) (xs (i).toNat 3) (vd (i).toNat) (gv (i).toNat) _ rfl rfl (Sd.i64 (by omega)) (Sd.i64 (by omega)) (Sd.i64 (by omega)) rfl (Sd.i64 (hx _ _)) (Sd.i64 (hx _ _)) (Sd.i64 (hx _ _)) (Sd.i64 (hx _ _)))).mono ?_; rintro _ zw1702 ⟨rfl, zhc1703⟩
       have zS1704 := zS1701.quiet zhc1703
       exact ⟨zS1704.ch, Sp.mk_holds [] (all_nil)⟩
     refine step_cons ?_ ?_
     · intro zy1705 zw1706 zhc1707 zhf1708 zhp1709
       have zh1710 : zy1705 84 = .tuple #[.int .i64 (runS (vd (i).toNat) (beyS (IntKind.i64.wrap (-(by_ % 1001))) (by_ % 1001) (xs (i).toNat 0) (xs (i).toNat 1) (xs (i).toNat 2) (xs (i).toNat 3)) rn (1 + (bn % 16))), .bool (overS (vd (i).toNat) (beyS (IntKind.i64.wrap (-(by_ % 1001))) (by_ % 1001) (xs (i).toNat 0) (xs (i).toNat 1) (xs (i).toNat 2) (xs (i).toNat 3)) rn (1 + (bn % 16)))] := (Sp.out0 (zhp1709 6 84 (by kernel_rfl) (by kernel_rfl))).1
       have zS1711 := zS1638.quiet zhc1707
       refine step1 ?_
       refine yenv [(84, .tuple #[.int .i64 (runS (vd (i).toNat) (beyS (IntKind.i64.wrap (-(by_ % 1001))) (by_ % 1001) (xs (i).toNat 0) (xs (i).toNat 1) (xs (i).toNat 2) (xs (i).toNat 3)) rn (1 + (bn % 16))), .bool (overS (vd (i).toNat) (beyS (IntKind.i64.wrap (-(by_ % 1001))) (by_ % 1001) (xs (i).toNat 0) (xs (i).toNat 1) (xs (i).toNat 2) (xs (i).toNat 3)) rn (1 + (bn % 16)))])] (ag_cons zh1710 (ag_nil)) ?_
       have zS1712 := zS1711.loc
       refine Y.move_ ?_
       exact ⟨zS1712.ch, Sp.mk_holds [] (all_nil)⟩
     refine step_cons ?_ ?_
     · intro zy1713 zw1714 zhc1715 zhf1716 zhp1717
       have zh1718 : zy1713 77 = .tuple #[.int .i64 (runS (vd (i).toNat) (beyS (IntKind.i64.wrap (-(by_ % 1001))) (by_ % 1001) (xs (i).toNat 0) (xs (i).toNat 1) (xs (i).toNat 2) (xs (i).toNat 3)) rn (1 + (bn % 16))), .bool (overS (vd (i).toNat) (beyS (IntKind.i64.wrap (-(by_ % 1001))) (by_ % 1001) (xs (i).toNat 0) (xs (i).toNat 1) (xs (i).toNat 2) (xs (i).toNat 3)) rn (1 + (bn % 16)))] := (Sp.out0 (zhp1717 7 77 (by kernel_rfl) (by kernel_rfl))).1
       have zS1719 := zS1638.quiet zhc1715
       refine step1 ?_
       refine yenv [(77, .tuple #[.int .i64 (runS (vd (i).toNat) (beyS (IntKind.i64.wrap (-(by_ % 1001))) (by_ % 1001) (xs (i).toNat 0) (xs (i).toNat 1) (xs (i).toNat 2) (xs (i).toNat 3)) rn (1 + (bn % 16))), .bool (overS (vd (i).toNat) (beyS (IntKind.i64.wrap (-(by_ % 1001))) (by_ % 1001) (xs (i).toNat 0) (xs (i).toNat 1) (xs (i).toNat 2) (xs (i).toNat 3)) rn (1 + (bn % 16)))])] (ag_cons zh1718 (ag_nil)) ?_
       have zS1720 := zS1719.loc
       refine Y.pure_ (.int .i64 (runS (vd (i).toNat) (beyS (IntKind.i64.wrap (-(by_ % 1001))) (by_ % 1001) (xs (i).toNat 0) (xs (i).toNat 1) (xs (i).toNat 2) (xs (i).toNat 3)) rn (1 + (bn % 16)))) ?_
       exact ⟨zS1720.ch, Sp.mk_holds [] (all_nil)⟩
     refine step_cons ?_ ?_
     · intro zy1721 zw1722 zhc1723 zhf1724 zhp1725
       have zh1726 : zy1721 77 = .tuple #[.int .i64 (runS (vd (i).toNat) (beyS (IntKind.i64.wrap (-(by_ % 1001))) (by_ % 1001) (xs (i).toNat 0) (xs (i).toNat 1) (xs (i).toNat 2) (xs (i).toNat 3)) rn (1 + (bn % 16))), .bool (overS (vd (i).toNat) (beyS (IntKind.i64.wrap (-(by_ % 1001))) (by_ % 1001) (xs (i).toNat 0) (xs (i).toNat 1) (xs (i).toNat 2) (xs (i).toNat 3)) rn (1 + (bn % 16)))] := (Sp.out0 (zhp1725 7 77 (by kernel_rfl) (by kernel_rfl))).1
       have zS1727 := zS1638.quiet zhc1723
       refine step1 ?_
       refine yenv [(77, .tuple #[.int .i64 (runS (vd (i).toNat) (beyS (IntKind.i64.wrap (-(by_ % 1001))) (by_ % 1001) (xs (i).toNat 0) (xs (i).toNat 1) (xs (i).toNat 2) (xs (i).toNat 3)) rn (1 + (bn % 16))), .bool (overS (vd (i).toNat) (beyS (IntKind.i64.wrap (-(by_ % 1001))) (by_ % 1001) (xs (i).toNat 0) (xs (i).toNat 1) (xs (i).toNat 2) (xs (i).toNat 3)) rn (1 + (bn % 16)))])] (ag_cons zh1726 (ag_nil)) ?_
       have zS1728 := zS1727.loc
       refine Y.pure_ (.bool (overS (vd (i).toNat) (beyS (IntKind.i64.wrap (-(by_ % 1001))) (by_ % 1001) (xs (i).toNat 0) (xs (i).toNat 1) (xs (i).toNat 2) (xs (i).toNat 3)) rn (1 + (bn % 16)))) ?_
       exact ⟨zS1728.ch, Sp.mk_holds [] (all_nil)⟩
     refine step_cons ?_ ?_
     · intro zy1729 zw1730 zhc1731 zhf1732 zhp1733
       have zh1734 : zy1729 85 = .int .i64 (runS (vd (i).toNat) (beyS (IntKind.i64.wrap (-(by_ % 1001))) (by_ % 1001) (xs (i).toNat 0) (xs (i).toNat 1) (xs (i).toNat 2) (xs (i).toNat 3)) rn (1 + (bn % 16))) := (Sp.out0 (zhp1733 8 85 (by kernel_rfl) (by kernel_rfl))).1
       have zS1735 := zS1638.quiet zhc1731
       refine step1 ?_
       refine yenv [(85, .int .i64 (runS (vd (i).toNat) (beyS (IntKind.i64.wrap (-(by_ % 1001))) (by_ % 1001) (xs (i).toNat 0) (xs (i).toNat 1) (xs (i).toNat 2) (xs (i).toNat 3)) rn (1 + (bn % 16))))] (ag_cons zh1734 (ag_nil)) ?_
       have zS1736 := zS1735.loc
       refine Y.assign_ ?_
       exact ⟨zS1736.ch, Sp.mk_holds [] (all_nil)⟩
     exact step_nil
   intro zv1737 zw1738 zhc1739 zha1740
   have zh1741 : zv1737 0 = .agg #[.int .i64 0, .int .i64 0, .int .i64 0, .int .i64 0, .int .i64 0, .slice none 0 0, .slice none 0 0, .slice none 0 0, .slice none 0 0, .int .i64 0, .int .i64 0, .int .i64 0, .int .i64 0, .int .i64 0, .int .i64 0, .int .i64 0, .int .i64 0, .int .i64 0, .int .i64 0, .int .i64 0, .int .i64 0, .int .i64 0, .int .i64 0, .int .i64 0, .int .i64 0, .int .i64 0, .int .i64 0, .int .i64 0, .int .i64 0, .int .i64 0, .int .i64 0, .int .i64 0, .int .i64 0, .int .i64 0, .int .i64 0, .int .i64 0, .int .i64 0, .int .i64 0, .int .i64 0, .int .i64 0, .int .i64 0, .int .i64 0, .int .i64 0, .int .i64 0, .int .i64 0, .int .i64 0, .int .i64 (1 + (bn % 16)), .int .i64 (by_ % 1001), .int .i64 0, .int .i64 0, .int .i64 0, .int .i64 0, .int .i64 0, .int .i64 0, .int .i64 0, .int .i64 0] := (Sp.out0 (zha1740 0 (by kernel_rfl))).1
   have zh1742 : zv1737 1 = .int .i64 rn := (Sp.out0 (zha1740 1 (by kernel_rfl))).1
   have zh1743 : zv1737 2 = .slice (some ⟨b, o, none⟩) n c := (Sp.out0 (zha1740 2 (by kernel_rfl))).1
   have zh1744 : zv1737 3 = .int .i64 i := (Sp.out0 (zha1740 3 (by kernel_rfl))).1
   have zh1745 : zv1737 4 = .pointer (some ⟨b, (o + (i).toNat * 6), none⟩) := (Sp.out0 (zha1740 4 (by kernel_rfl))).1
   have zh1746 : zv1737 5 = .agg #[.bool (vd (i).toNat), .int .i64 (xs (i).toNat 0), .int .i64 (xs (i).toNat 1), .int .i64 (xs (i).toNat 2), .int .i64 (xs (i).toNat 3), .bool (gv (i).toNat)] := (Sp.out0 (zha1740 5 (by kernel_rfl))).1
   have zh1747 : zv1737 6 = .tuple #[.int .i64 (runS (vd (i).toNat) (beyS (IntKind.i64.wrap (-(by_ % 1001))) (by_ % 1001) (xs (i).toNat 0) (xs (i).toNat 1) (xs (i).toNat 2) (xs (i).toNat 3)) rn (1 + (bn % 16))), .bool (overS (vd (i).toNat) (beyS (IntKind.i64.wrap (-(by_ % 1001))) (by_ % 1001) (xs (i).toNat 0) (xs (i).toNat 1) (xs (i).toNat 2) (xs (i).toNat 3)) rn (1 + (bn % 16)))] := (Sp.out0 (zha1740 6 (by kernel_rfl))).1
   have zh1748 : zv1737 7 = .tuple #[.int .i64 (runS (vd (i).toNat) (beyS (IntKind.i64.wrap (-(by_ % 1001))) (by_ % 1001) (xs (i).toNat 0) (xs (i).toNat 1) (xs (i).toNat 2) (xs (i).toNat 3)) rn (1 + (bn % 16))), .bool (overS (vd (i).toNat) (beyS (IntKind.i64.wrap (-(by_ % 1001))) (by_ % 1001) (xs (i).toNat 0) (xs (i).toNat 1) (xs (i).toNat 2) (xs (i).toNat 3)) rn (1 + (bn % 16)))] := (Sp.out0 (zha1740 7 (by kernel_rfl))).1
   have zh1749 : zv1737 8 = .int .i64 (runS (vd (i).toNat) (beyS (IntKind.i64.wrap (-(by_ % 1001))) (by_ % 1001) (xs (i).toNat 0) (xs (i).toNat 1) (xs (i).toNat 2) (xs (i).toNat 3)) rn (1 + (bn % 16))) := (Sp.out0 (zha1740 8 (by kernel_rfl))).1
   have zh1750 : zv1737 9 = .bool (overS (vd (i).toNat) (beyS (IntKind.i64.wrap (-(by_ % 1001))) (by_ % 1001) (xs (i).toNat 0) (xs (i).toNat 1) (xs (i).toNat 2) (xs (i).toNat 3)) rn (1 + (bn % 16))) := (Sp.out0 (zha1740 9 (by kernel_rfl))).1
   have zh1751 : zv1737 10 = .int .i64 (runS (vd (i).toNat) (beyS (IntKind.i64.wrap (-(by_ % 1001))) (by_ % 1001) (xs (i).toNat 0) (xs (i).toNat 1) (xs (i).toNat 2) (xs (i).toNat 3)) rn (1 + (bn % 16))) := (Sp.out0 (zha1740 10 (by kernel_rfl))).1
   have zS1752 := zS1638.quiet zhc1739
   refine ⟨[.agg #[.int .i64 0, .int .i64 0, .int .i64 0, .int .i64 0, .int .i64 0, .slice none 0 0, .slice none 0 0, .slice none 0 0, .slice none 0 0, .int .i64 0, .int .i64 0, .int .i64 0, .int .i64 0, .int .i64 0, .int .i64 0, .int .i64 0, .int .i64 0, .int .i64 0, .int .i64 0, .int .i64 0, .int .i64 0, .int .i64 0, .int .i64 0, .int .i64 0, .int .i64 0, .int .i64 0, .int .i64 0, .int .i64 0, .int .i64 0, .int .i64 0, .int .i64 0, .int .i64 0, .int .i64 0, .int .i64 0, .int .i64 0, .int .i64 0, .int .i64 0, .int .i64 0, .int .i64 0, .int .i64 0, .int .i64 0, .int .i64 0, .int .i64 0, .int .i64 0, .int .i64 0, .int .i64 0, .int .i64 (1 + (bn % 16)), .int .i64 (by_ % 1001), .int .i64 0, .int .i64 0, .int .i64 0, .int .i64 0, .int .i64 0, .int .i64 0, .int .i64 0, .int .i64 0], .int .i64 rn, .slice (some ⟨b, o, none⟩) n c, .int .i64 i, .pointer (some ⟨b, (o + (i).toNat * 6), none⟩), .agg #[.bool (vd (i).toNat), .int .i64 (xs (i).toNat 0), .int .i64 (xs (i).toNat 1), .int .i64 (xs (i).toNat 2), .int .i64 (xs (i).toNat 3), .bool (gv (i).toNat)], .tuple #[.int .i64 (runS (vd (i).toNat) (beyS (IntKind.i64.wrap (-(by_ % 1001))) (by_ % 1001) (xs (i).toNat 0) (xs (i).toNat 1) (xs (i).toNat 2) (xs (i).toNat 3)) rn (1 + (bn % 16))), .bool (overS (vd (i).toNat) (beyS (IntKind.i64.wrap (-(by_ % 1001))) (by_ % 1001) (xs (i).toNat 0) (xs (i).toNat 1) (xs (i).toNat 2) (xs (i).toNat 3)) rn (1 + (bn % 16)))], .tuple #[.int .i64 (runS (vd (i).toNat) (beyS (IntKind.i64.wrap (-(by_ % 1001))) (by_ % 1001) (xs (i).toNat 0) (xs (i).toNat 1) (xs (i).toNat 2) (xs (i).toNat 3)) rn (1 + (bn % 16))), .bool (overS (vd (i).toNat) (beyS (IntKind.i64.wrap (-(by_ % 1001))) (by_ % 1001) (xs (i).toNat 0) (xs (i).toNat 1) (xs (i).toNat 2) (xs (i).toNat 3)) rn (1 + (bn % 16)))], .int .i64 (runS (vd (i).toNat) (beyS (IntKind.i64.wrap (-(by_ % 1001))) (by_ % 1001) (xs (i).toNat 0) (xs (i).toNat 1) (xs (i).toNat 2) (xs (i).toNat 3)) rn (1 + (bn % 16))), .bool (overS (vd (i).toNat) (beyS (IntKind.i64.wrap (-(by_ % 1001))) (by_ % 1001) (xs (i).toNat 0) (xs (i).toNat 1) (xs (i).toNat 2) (xs (i).toNat 3)) rn (1 + (bn % 16))), .int .i64 (runS (vd (i).toNat) (beyS (IntKind.i64.wrap (-(by_ % 1001))) (by_ % 1001) (xs (i).toNat 0) (xs (i).toNat 1) (xs (i).toNat 2) (xs (i).toNat 3)) rn (1 + (bn % 16)))], by kernel_rfl, va_cons zh1741 (va_cons zh1742 (va_cons zh1743 (va_cons zh1744 (va_cons zh1745 (va_cons zh1746 (va_cons zh1747 (va_cons zh1748 (va_cons zh1749 (va_cons zh1750 (va_cons zh1751 (va_nil))))))))))), ?_⟩
   refine assign_ ?_
   refine nil_ (then_n (seq_ (seq_ (reg_ ?_))))
   refine move_ ?_
   refine move_ ?_
   refine pure_ (.pointer (some ⟨zb4, 46, none⟩)) ?_
   refine load1_ zS1752 0 (.int .i64 (1 + (bn % 16))) zb4 46 ?_
   refine pure_ (.bool (decide ((1 + (bn % 16)) ≤ (bif ((!zF1504) || (!(vd (i).toNat))) then (0 : Int) else (rw + 1))))) ?_
   refine pure_ (.bool (!((overS (vd (i).toNat) (beyS (IntKind.i64.wrap (-(by_ % 1001))) (by_ % 1001) (xs (i).toNat 0) (xs (i).toNat 1) (xs (i).toNat 2) (xs (i).toNat 3)) rn (1 + (bn % 16))) == (decide ((1 + (bn % 16)) ≤ (bif ((!zF1504) || (!(vd (i).toNat))) then (0 : Int) else (rw + 1))))))) ?_
   refine move_ ?_
   refine slotK_ 93 (!((overS (vd (i).toNat) (beyS (IntKind.i64.wrap (-(by_ % 1001))) (by_ % 1001) (xs (i).toNat 0) (xs (i).toNat 1) (xs (i).toNat 2) (xs (i).toNat 3)) rn (1 + (bn % 16))) == (decide ((1 + (bn % 16)) ≤ (bif ((!zF1504) || (!(vd (i).toNat))) then (0 : Int) else (rw + 1)))))) false (notF (beq_iff_eq.2 (by subst hzF1504; subst hzF1145; subst hzF786; subst hzF427; have zk := runs_key (by_ % 1001) (xs (i).toNat 0) (xs (i).toNat 1) (xs (i).toNat 2) (xs (i).toNat 3) (vd (i).toNat) rn rw (1 + (bn % 16)) (by omega) (by omega) (by omega); exact zk.1))) ?_
   refine move_ ?_
   refine move_ ?_
   refine pure_ (.pointer (some ⟨zb4, 46, none⟩)) ?_
   refine load1_ zS1752 0 (.int .i64 (1 + (bn % 16))) zb4 46 ?_
   refine pure_ (.int .i64 (if (1 + (bn % 16)) < (bif ((!zF1504) || (!(vd (i).toNat))) then (0 : Int) else (rw + 1)) then (1 + (bn % 16)) else (bif ((!zF1504) || (!(vd (i).toNat))) then (0 : Int) else (rw + 1)))) ?_
   have zh1753 : ((if (1 + (bn % 16)) < (bif ((!zF1504) || (!(vd (i).toNat))) then (0 : Int) else (rw + 1)) then (1 + (bn % 16)) else (bif ((!zF1504) || (!(vd (i).toNat))) then (0 : Int) else (rw + 1))) ≤ (bif ((!zF1504) || (!(vd (i).toNat))) then (0 : Int) else (rw + 1)) ∧ (if (1 + (bn % 16)) < (bif ((!zF1504) || (!(vd (i).toNat))) then (0 : Int) else (rw + 1)) then (1 + (bn % 16)) else (bif ((!zF1504) || (!(vd (i).toNat))) then (0 : Int) else (rw + 1))) ≤ (1 + (bn % 16))) ∧ ((if (1 + (bn % 16)) < (bif ((!zF1504) || (!(vd (i).toNat))) then (0 : Int) else (rw + 1)) then (1 + (bn % 16)) else (bif ((!zF1504) || (!(vd (i).toNat))) then (0 : Int) else (rw + 1))) = (bif ((!zF1504) || (!(vd (i).toNat))) then (0 : Int) else (rw + 1)) ∨ (if (1 + (bn % 16)) < (bif ((!zF1504) || (!(vd (i).toNat))) then (0 : Int) else (rw + 1)) then (1 + (bn % 16)) else (bif ((!zF1504) || (!(vd (i).toNat))) then (0 : Int) else (rw + 1))) = (1 + (bn % 16))) := by split <;> omega
   generalize (if (1 + (bn % 16)) < (bif ((!zF1504) || (!(vd (i).toNat))) then (0 : Int) else (rw + 1)) then (1 + (bn % 16)) else (bif ((!zF1504) || (!(vd (i).toNat))) then (0 : Int) else (rw + 1))) = zm1754 at *
   refine pureE_ (.bool ((runS (vd (i).toNat) (beyS (IntKind.i64.wrap (-(by_ % 1001))) (by_ % 1001) (xs (i).toNat 0) (xs (i).toNat 1) (xs (i).toNat 2) (xs (i).toNat 3)) rn (1 + (bn % 16))) != zm1754)) (.bool false) (congrArg Value.bool (neF (by subst hzF1504; subst hzF1145; subst hzF786; subst hzF427; have zk := runs_key (by_ % 1001) (xs (i).toNat 0) (xs (i).toNat 1) (xs (i).toNat 2) (xs (i).toNat 3) (vd (i).toNat) rn rw (1 + (bn % 16)) (by omega) (by omega) (by omega); omega))) ?_
   refine pure_ (.bool false) ?_
   refine nil_ (then_n (cond_F ?_))
   refine wp_skip (then_n (reg_ ?_))
   refine move_ ?_
   refine assign_ ?_
   refine nil_ (blk_n (then_n (reg_ ?_)))
   refine pure_ (.int .i64 i) ?_
   refine sum_ .i64 (i + 1) (IntWalk.i64_in _ (by omega)) ?_
   refine pure_ (.int .i64 (i + 1)) ?_
   refine nil_ ?_
   refine then_i ?_
   exact ⟨_, by omega, (runS (vd (i).toNat) (beyS (IntKind.i64.wrap (-(by_ % 1001))) (by_ % 1001) (xs (i).toNat 0) (xs (i).toNat 1) (xs (i).toNat 2) (xs (i).toNat 3)) rn (1 + (bn % 16))), (bif ((!zF1504) || (!(vd (i).toNat))) then (0 : Int) else (rw + 1)), (i + 1), (fun k => [(zj9 0), .bool zF1504, .int .i64 4, .int .i64 (runS (vd (i).toNat) (beyS (IntKind.i64.wrap (-(by_ % 1001))) (by_ % 1001) (xs (i).toNat 0) (xs (i).toNat 1) (xs (i).toNat 2) (xs (i).toNat 3)) rn (1 + (bn % 16))), .bool (overS (vd (i).toNat) (beyS (IntKind.i64.wrap (-(by_ % 1001))) (by_ % 1001) (xs (i).toNat 0) (xs (i).toNat 1) (xs (i).toNat 2) (xs (i).toNat 3)) rn (1 + (bn % 16))), .int .i64 i, .slice (some ⟨b, o, none⟩) n c, .int .i64 ((n : Nat) : Int), .bool (decide (i < ((n : Nat) : Int))), .bool (decide (i < ((n : Nat) : Int))), (bif (decide (i < ((n : Nat) : Int))) then (.int .i64 i) else undef), (bif (decide (i < ((n : Nat) : Int))) then (.bool (decide (i < 60))) else undef), .bool ((decide (i < ((n : Nat) : Int))) && (decide (i < 60))), .int .i64 i, .int .i64 (i + 1), .int .i64 4, .bool false, .int .i64 3, .int .i64 4, .bool zF1145, .bool zF1145, (bif zF1145 then undef else (.slice (some ⟨b, o, none⟩) n c)), (bif zF1145 then undef else (.int .i64 i)), (bif zF1145 then undef else (.int .i64 3)), (bif zF1145 then undef else (.pointer (some ⟨b, (o + (i).toNat * 6), none⟩))), (bif zF1145 then undef else (.pointer (some ⟨b, (o + (i).toNat * 6 + 1), none⟩))), (bif zF1145 then undef else (.pointer (some ⟨b, (o + (i).toNat * 6 + 4), none⟩))), (bif zF1145 then undef else (.int .i64 (xs (i).toNat 3))), (bif zF1145 then undef else (.pointer (some ⟨zb4, 47, none⟩))), (bif zF1145 then undef else (.int .i64 (by_ % 1001))), (bif zF1145 then undef else (.bool (decide ((by_ % 1001) < (xs (i).toNat 3))))), .bool (zF1145 || (decide ((by_ % 1001) < (xs (i).toNat 3)))), .bool (zF1145 || (decide ((by_ % 1001) < (xs (i).toNat 3)))), (bif (zF1145 || (decide ((by_ % 1001) < (xs (i).toNat 3)))) then undef else (.slice (some ⟨b, o, none⟩) n c)), (bif (zF1145 || (decide ((by_ % 1001) < (xs (i).toNat 3)))) then undef else (.int .i64 i)), (bif (zF1145 || (decide ((by_ % 1001) < (xs (i).toNat 3)))) then undef else (.int .i64 3)), (bif (zF1145 || (decide ((by_ % 1001) < (xs (i).toNat 3)))) then undef else (.pointer (some ⟨b, (o + (i).toNat * 6), none⟩))), (bif (zF1145 || (decide ((by_ % 1001) < (xs (i).toNat 3)))) then undef else (.pointer (some ⟨b, (o + (i).toNat * 6 + 1), none⟩))), (bif (zF1145 || (decide ((by_ % 1001) < (xs (i).toNat 3)))) then undef else (.pointer (some ⟨b, (o + (i).toNat * 6 + 4), none⟩))), (bif (zF1145 || (decide ((by_ % 1001) < (xs (i).toNat 3)))) then undef else (.int .i64 (xs (i).toNat 3))), (bif (zF1145 || (decide ((by_ % 1001) < (xs (i).toNat 3)))) then undef else (.pointer (some ⟨zb4, 47, none⟩))), (bif (zF1145 || (decide ((by_ % 1001) < (xs (i).toNat 3)))) then undef else (.int .i64 (by_ % 1001))), (bif (zF1145 || (decide ((by_ % 1001) < (xs (i).toNat 3)))) then undef else (.int .i64 (0 - (by_ % 1001)))), (bif (zF1145 || (decide ((by_ % 1001) < (xs (i).toNat 3)))) then undef else (.bool (decide ((xs (i).toNat 3) < (0 - (by_ % 1001)))))), .bool zF1504, .int .i64 rw, .int .i64 (rw + 1), .bool zF1504, .bool (!zF1504), .bool (!zF1504), (bif (!zF1504) then undef else (.slice (some ⟨b, o, none⟩) n c)), (bif (!zF1504) then undef else (.int .i64 i)), (bif (!zF1504) then undef else (.pointer (some ⟨b, (o + (i).toNat * 6), none⟩))), (bif (!zF1504) then undef else (.pointer (some ⟨b, (o + (i).toNat * 6), none⟩))), (bif (!zF1504) then undef else (.bool (vd (i).toNat))), (bif (!zF1504) then undef else (.bool (!(vd (i).toNat)))), .bool ((!zF1504) || (!(vd (i).toNat))), .tuple #[.int .i64 (runS (vd (i).toNat) (beyS (IntKind.i64.wrap (-(by_ % 1001))) (by_ % 1001) (xs (i).toNat 0) (xs (i).toNat 1) (xs (i).toNat 2) (xs (i).toNat 3)) rn (1 + (bn % 16))), .bool (overS (vd (i).toNat) (beyS (IntKind.i64.wrap (-(by_ % 1001))) (by_ % 1001) (xs (i).toNat 0) (xs (i).toNat 1) (xs (i).toNat 2) (xs (i).toNat 3)) rn (1 + (bn % 16)))], .agg #[.int .i64 0, .int .i64 0, .int .i64 0, .int .i64 0, .int .i64 0, .slice none 0 0, .slice none 0 0, .slice none 0 0, .slice none 0 0, .int .i64 0, .int .i64 0, .int .i64 0, .int .i64 0, .int .i64 0, .int .i64 0, .int .i64 0, .int .i64 0, .int .i64 0, .int .i64 0, .int .i64 0, .int .i64 0, .int .i64 0, .int .i64 0, .int .i64 0, .int .i64 0, .int .i64 0, .int .i64 0, .int .i64 0, .int .i64 0, .int .i64 0, .int .i64 0, .int .i64 0, .int .i64 0, .int .i64 0, .int .i64 0, .int .i64 0, .int .i64 0, .int .i64 0, .int .i64 0, .int .i64 0, .int .i64 0, .int .i64 0, .int .i64 0, .int .i64 0, .int .i64 0, .int .i64 0, .int .i64 (1 + (bn % 16)), .int .i64 (by_ % 1001), .int .i64 0, .int .i64 0, .int .i64 0, .int .i64 0, .int .i64 0, .int .i64 0, .int .i64 0, .int .i64 0], .int .i64 rn, .slice (some ⟨b, o, none⟩) n c, .int .i64 i, .pointer (some ⟨b, (o + (i).toNat * 6), none⟩), .agg #[.bool (vd (i).toNat), .int .i64 (xs (i).toNat 0), .int .i64 (xs (i).toNat 1), .int .i64 (xs (i).toNat 2), .int .i64 (xs (i).toNat 3), .bool (gv (i).toNat)], .tuple #[.int .i64 (runS (vd (i).toNat) (beyS (IntKind.i64.wrap (-(by_ % 1001))) (by_ % 1001) (xs (i).toNat 0) (xs (i).toNat 1) (xs (i).toNat 2) (xs (i).toNat 3)) rn (1 + (bn % 16))), .bool (overS (vd (i).toNat) (beyS (IntKind.i64.wrap (-(by_ % 1001))) (by_ % 1001) (xs (i).toNat 0) (xs (i).toNat 1) (xs (i).toNat 2) (xs (i).toNat 3)) rn (1 + (bn % 16)))], .int .i64 (runS (vd (i).toNat) (beyS (IntKind.i64.wrap (-(by_ % 1001))) (by_ % 1001) (xs (i).toNat 0) (xs (i).toNat 1) (xs (i).toNat 2) (xs (i).toNat 3)) rn (1 + (bn % 16))), .bool (overS (vd (i).toNat) (beyS (IntKind.i64.wrap (-(by_ % 1001))) (by_ % 1001) (xs (i).toNat 0) (xs (i).toNat 1) (xs (i).toNat 2) (xs (i).toNat 3)) rn (1 + (bn % 16))), .bool (overS (vd (i).toNat) (beyS (IntKind.i64.wrap (-(by_ % 1001))) (by_ % 1001) (xs (i).toNat 0) (xs (i).toNat 1) (xs (i).toNat 2) (xs (i).toNat 3)) rn (1 + (bn % 16))), .int .i64 (bif ((!zF1504) || (!(vd (i).toNat))) then (0 : Int) else (rw + 1)), .pointer (some ⟨zb4, 46, none⟩), .int .i64 (1 + (bn % 16)), .bool (decide ((1 + (bn % 16)) ≤ (bif ((!zF1504) || (!(vd (i).toNat))) then (0 : Int) else (rw + 1)))), .bool (!((overS (vd (i).toNat) (beyS (IntKind.i64.wrap (-(by_ % 1001))) (by_ % 1001) (xs (i).toNat 0) (xs (i).toNat 1) (xs (i).toNat 2) (xs (i).toNat 3)) rn (1 + (bn % 16))) == (decide ((1 + (bn % 16)) ≤ (bif ((!zF1504) || (!(vd (i).toNat))) then (0 : Int) else (rw + 1)))))), .bool false, .int .i64 (runS (vd (i).toNat) (beyS (IntKind.i64.wrap (-(by_ % 1001))) (by_ % 1001) (xs (i).toNat 0) (xs (i).toNat 1) (xs (i).toNat 2) (xs (i).toNat 3)) rn (1 + (bn % 16))), .int .i64 (bif ((!zF1504) || (!(vd (i).toNat))) then (0 : Int) else (rw + 1)), .pointer (some ⟨zb4, 46, none⟩), .int .i64 (1 + (bn % 16)), .int .i64 zm1754, .bool false, .bool false, .int .i64 (runS (vd (i).toNat) (beyS (IntKind.i64.wrap (-(by_ % 1001))) (by_ % 1001) (xs (i).toNat 0) (xs (i).toNat 1) (xs (i).toNat 2) (xs (i).toNat 3)) rn (1 + (bn % 16)))].getD k undef), ⟨rfl, by subst hzF1504; subst hzF1145; subst hzF786; subst hzF427; have zk := runs_key (by_ % 1001) (xs (i).toNat 0) (xs (i).toNat 1) (xs (i).toNat 2) (xs (i).toNat 3) (vd (i).toNat) rn rw (1 + (bn % 16)) (by omega) (by omega) (by omega); omega, by subst hzF1504; subst hzF1145; subst hzF786; subst hzF427; have zk := runs_key (by_ % 1001) (xs (i).toNat 0) (xs (i).toNat 1) (xs (i).toNat 2) (xs (i).toNat 3) (vd (i).toNat) rn rw (1 + (bn % 16)) (by omega) (by omega) (by omega); omega, by subst hzF1504; subst hzF1145; subst hzF786; subst hzF427; have zk := runs_key (by_ % 1001) (xs (i).toNat 0) (xs (i).toNat 1) (xs (i).toNat 2) (xs (i).toNat 3) (vd (i).toNat) rn rw (1 + (bn % 16)) (by omega) (by omega) (by omega); omega, by subst hzF1504; subst hzF1145; subst hzF786; subst hzF427; have zk := runs_key (by_ % 1001) (xs (i).toNat 0) (xs (i).toNat 1) (xs (i).toNat 2) (xs (i).toNat 3) (vd (i).toNat) rn rw (1 + (bn % 16)) (by omega) (by omega) (by omega); omega, by subst hzF1504; subst hzF1145; subst hzF786; subst hzF427; have zk := runs_key (by_ % 1001) (xs (i).toNat 0) (xs (i).toNat 1) (xs (i).toNat 2) (xs (i).toNat 3) (vd (i).toNat) rn rw (1 + (bn % 16)) (by omega) (by omega) (by omega); omega, by subst hzF1504; subst hzF1145; subst hzF786; subst hzF427; have zk := runs_key (by_ % 1001) (xs (i).toNat 0) (xs (i).toNat 1) (xs (i).toNat 2) (xs (i).toNat 3) (vd (i).toNat) rn rw (1 + (bn % 16)) (by omega) (by omega) (by omega); omega, by subst hzF1504; subst hzF1145; subst hzF786; subst hzF427; have zk := runs_key (by_ % 1001) (xs (i).toNat 0) (xs (i).toNat 1) (xs (i).toNat 2) (xs (i).toNat 3) (vd (i).toNat) rn rw (1 + (bn % 16)) (by omega) (by omega) (by omega); omega⟩, by kernel_rfl, zS1752.pick [0] (by kernel_rfl) (by decide)⟩
 intro zh1755
 refine wp_exit (then_e (then_e (blk_e (then_n (seq_ (reg_ ?_))))))
 refine pure_ (.bool true) ?_
 refine pure_ (.bool true) ?_
 refine nil_ (then_n (wp_ret ?_))
 refine ret_ rfl (res_ [.tmp 6] [.bool true] (.bool true) ⟨res_tmp, trivial⟩) ?_
 exact ⟨rfl, zS104.ch⟩

set_option maxRecDepth 100000 in
set_option maxHeartbeats 4000000 in
theorem stickRuns_nil (bn by_ : Int) (h0 : 0 ≤ bn ∧ bn ≤ 255) (h1 : 0 ≤ by_ ∧ by_ ≤ 65535) (w : World) :
    Gives Try.prog 5 #[.int .u8 bn, .int .u16 by_, .slice none 0 0] w fun v w1 => v = .bool true ∧ Ch [] w w1 := by
 have S0 := St.nil [] w
 refine enter_ Try.func5 rfl ?_
 refine seq_ (reg_ ?_)
 refine pure_ (.bool false) ?_
 refine nil_ (then_n (seq_ (reg_ ?_)))
 refine call_ 20 #[] ?_
 refine (gives_of (shown17 _) ).mono ?_; rintro _ zw1 ⟨rfl, zhc2⟩
 have zS3 := S0.quiet zhc2
 refine pure_ (.bool true) ?_
 refine nil_ (then_n (seq_ (reg_ ?_)))
 refine pure_ (.int .u8 bn) ?_
 refine sum_ .i64 bn (IntWalk.i64_in _ (by omega)) ?_
 refine pureE_ (.int .i64 (Int.tmod bn 16)) (.int .i64 (bn % 16)) (congrArg _ (IntWalk.rem_in _ _ (by omega))) ?_
 refine sum_ .i64 (1 + (bn % 16)) (IntWalk.i64_in _ (by omega)) ?_
 refine pure_ (.int .u16 by_) ?_
 refine sum_ .i64 by_ (IntWalk.i64_in _ (by omega)) ?_
 refine pureE_ (.int .i64 (Int.tmod by_ 1001)) (.int .i64 (by_ % 1001)) (congrArg _ (IntWalk.rem_in _ _ (by omega))) ?_
 refine pure_ (.agg #[.int .i64 0, .int .i64 0, .int .i64 0, .int .i64 0, .int .i64 0, .slice none 0 0, .slice none 0 0, .slice none 0 0, .slice none 0 0, .int .i64 0, .int .i64 0, .int .i64 0, .int .i64 0, .int .i64 0, .int .i64 0, .int .i64 0, .int .i64 0, .int .i64 0, .int .i64 0, .int .i64 0, .int .i64 0, .int .i64 0, .int .i64 0, .int .i64 0, .int .i64 0, .int .i64 0, .int .i64 0, .int .i64 0, .int .i64 0, .int .i64 0, .int .i64 0, .int .i64 0, .int .i64 0, .int .i64 0, .int .i64 0, .int .i64 0, .int .i64 0, .int .i64 0, .int .i64 0, .int .i64 0, .int .i64 0, .int .i64 0, .int .i64 0, .int .i64 0, .int .i64 0, .int .i64 0, .int .i64 (1 + (bn % 16)), .int .i64 (by_ % 1001), .int .i64 0, .int .i64 0, .int .i64 0, .int .i64 0, .int .i64 0, .int .i64 0, .int .i64 0, .int .i64 0]) ?_
 refine new_ zS3 (fun b => .pointer (some ⟨b, 0, none⟩)) (.cells #[.int .i64 0, .int .i64 0, .int .i64 0, .int .i64 0, .int .i64 0, .slice none 0 0, .slice none 0 0, .slice none 0 0, .slice none 0 0, .int .i64 0, .int .i64 0, .int .i64 0, .int .i64 0, .int .i64 0, .int .i64 0, .int .i64 0, .int .i64 0, .int .i64 0, .int .i64 0, .int .i64 0, .int .i64 0, .int .i64 0, .int .i64 0, .int .i64 0, .int .i64 0, .int .i64 0, .int .i64 0, .int .i64 0, .int .i64 0, .int .i64 0, .int .i64 0, .int .i64 0, .int .i64 0, .int .i64 0, .int .i64 0, .int .i64 0, .int .i64 0, .int .i64 0, .int .i64 0, .int .i64 0, .int .i64 0, .int .i64 0, .int .i64 0, .int .i64 0, .int .i64 0, .int .i64 0, .int .i64 0, .int .i64 0, .int .i64 0, .int .i64 0, .int .i64 0, .int .i64 0, .int .i64 0, .int .i64 0, .int .i64 0, .int .i64 0] 37) ?_
 intro zb4 zw5 zS6
 refine store_ zS6 0 (.agg #[.int .i64 0, .int .i64 0, .int .i64 0, .int .i64 0, .int .i64 0, .slice none 0 0, .slice none 0 0, .slice none 0 0, .slice none 0 0, .int .i64 0, .int .i64 0, .int .i64 0, .int .i64 0, .int .i64 0, .int .i64 0, .int .i64 0, .int .i64 0, .int .i64 0, .int .i64 0, .int .i64 0, .int .i64 0, .int .i64 0, .int .i64 0, .int .i64 0, .int .i64 0, .int .i64 0, .int .i64 0, .int .i64 0, .int .i64 0, .int .i64 0, .int .i64 0, .int .i64 0, .int .i64 0, .int .i64 0, .int .i64 0, .int .i64 0, .int .i64 0, .int .i64 0, .int .i64 0, .int .i64 0, .int .i64 0, .int .i64 0, .int .i64 0, .int .i64 0, .int .i64 0, .int .i64 0, .int .i64 (1 + (bn % 16)), .int .i64 (by_ % 1001), .int .i64 0, .int .i64 0, .int .i64 0, .int .i64 0, .int .i64 0, .int .i64 0, .int .i64 0, .int .i64 0]) zb4 0 ?_
 intro zw7 zS8
 refine nil_ (then_n (seq_ (reg_ ?_)))
 refine pure_ (.int .i64 0) ?_
 refine nil_ (then_n (seq_ (reg_ ?_)))
 refine pure_ (.int .i64 0) ?_
 refine nil_ (then_n (seq_ (seq_ (reg_ ?_))))
 refine pure_ (.int .i64 0) ?_
 refine nil_ (then_n (wp_block (loop_ 24 (seq_ (seq_ (reg_ ?_))))))
 refine pure_ (.int .i64 0) ?_
 refine pure_ (.slice none 0 0) ?_
 refine pure_ (.int .i64 0) ?_
 refine pure_ (.bool false) ?_
 refine pure_ (.bool false) ?_
 refine skip_ ?_
 refine skip_ ?_
 refine pure_ (.bool false) ?_
 refine nil_ (then_n (cond_F ?_))
 refine wp_exit (then_e (then_e (blk_e (then_n (seq_ (reg_ ?_))))))
 refine pure_ (.bool true) ?_
 refine pure_ (.bool true) ?_
 refine nil_ (then_n (wp_ret ?_))
 refine ret_ rfl (res_ [.tmp 6] [.bool true] (.bool true) ⟨res_tmp, trivial⟩) ?_
 exact ⟨rfl, zS8.ch⟩

end Go.Proofs.Ytabnjfboigmleaa
