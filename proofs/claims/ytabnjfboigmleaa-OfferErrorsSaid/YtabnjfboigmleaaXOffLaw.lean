/- OfferErrors: whichever bits and holder, the law returns true. No condition but what the types say. -/
import Derived.Test.YtabnjfboigmleaaRows
import Derived.Test.YtabnjfboigmleaaSE
import Derived.Test.YtabnjfboigmleaaSD
import Derived.Test.YtabnjfboigmleaaXOffer
namespace Go.Proofs.Ytabnjfboigmleaa
open Go Go.RowKit Go.BigFrame Sx
set_option linter.unusedVariables false

theorem offer_law (n : Int) (c1 c2 c4 c8 c16 : Bool) : makeCode (bif c1 then 0 else (1 + (n % 3))) (bif c2 then 65535 else 4) (bif c16 then (1 + ((1 + (n % 3)) % 3)) else (-1)) (1 + (n % 3)) (bif c4 then (1 + (n % 3)) else (1 + ((1 + (n % 3)) % 3))) (bif c8 then false else true)
    = (bif c1 then 20 else (bif c2 then 24 else (bif c4 then 25 else (bif c8 then 2 else (bif c16 then 28 else 0))))) := by
  have h1 : n % 3 = 0 ∨ n % 3 = 1 ∨ n % 3 = 2 := by omega
  rcases h1 with h | h | h <;> rw [h] <;> revert c1 c2 c4 c8 c16 <;> decide
theorem offer_law2 (n m : Int) : makeCode (1 + (n % 3)) 4 (-1) (1 + (n % 3)) (4 * (m % 2)) true = 2 := by
  have h1 : n % 3 = 0 ∨ n % 3 = 1 ∨ n % 3 = 2 := by omega
  have h2 : m % 2 = 0 ∨ m % 2 = 1 := by omega
  rcases h1 with h | h | h <;> rcases h2 with k | k <;> rw [h, k] <;> decide

set_option maxRecDepth 100000 in
set_option maxHeartbeats 4000000 in
theorem offerErrors_any (bt hol : Int) (hb : 0 ≤ bt ∧ bt ≤ 255) (hh : 0 ≤ hol ∧ hol ≤ 255) (w : World) :
    Gives Try.prog 10 #[.int .u8 bt, .int .u8 hol] w fun v w1 => v = .bool true ∧ Ch [] w w1 := by
 have S0 := St.nil [] w
 refine enter_ Try.func10 rfl ?_
 refine seq_ (reg_ ?_)
 refine pure_ (.bool false) ?_
 refine nil_ (then_n (seq_ (reg_ ?_)))
 refine call_ 25 #[] ?_
 refine (shown19 _).mono ?_; rintro _ zw1 ⟨rfl, zhc2⟩
 have zS3 := S0.quiet zhc2
 refine pure_ (.bool true) ?_
 refine nil_ (then_n (seq_ (reg_ ?_)))
 refine pure_ (.int .u8 hol) ?_
 refine sum_ .i64 hol (IntWalk.i64_in _ (by omega)) ?_
 refine pureE_ (.int .i64 (Int.tmod hol 3)) (.int .i64 (hol % 3)) (congrArg _ (IntWalk.rem_in _ _ (by omega))) ?_
 refine sum_ .i64 (1 + (hol % 3)) (IntWalk.i64_in _ (by omega)) ?_
 refine assign_ ?_
 refine nil_ (then_n (seq_ (reg_ ?_)))
 refine move_ ?_
 refine assign_ ?_
 refine nil_ (then_n (seq_ (reg_ ?_)))
 refine move_ ?_
 refine pureE_ (.int .i64 (Int.tmod (1 + (hol % 3)) 3)) (.int .i64 ((1 + (hol % 3)) % 3)) (congrArg _ (IntWalk.rem_in _ _ (by omega))) ?_
 refine sum_ .i64 (1 + ((1 + (hol % 3)) % 3)) (IntWalk.i64_in _ (by omega)) ?_
 refine assign_ ?_
 refine nil_ (then_n (seq_ (reg_ ?_)))
 refine move_ ?_
 refine pure_ (.agg #[.int .i64 (1 + (hol % 3)), .int .i64 4, .int .i64 (-1), .int .i64 0, .int .i64 0, .int .i64 0, .int .i64 0, .bool false]) ?_
 refine new_ zS3 (fun b => .pointer (some ⟨b, 0, none⟩)) (.cells #[.int .i64 0, .int .i64 0, .int .i64 0, .int .i64 0, .int .i64 0, .int .i64 0, .int .i64 0, .bool false] 47) ?_
 intro zb4 zw5 zS6
 refine store_ zS6 0 (.agg #[.int .i64 (1 + (hol % 3)), .int .i64 4, .int .i64 (-1), .int .i64 0, .int .i64 0, .int .i64 0, .int .i64 0, .bool false]) zb4 0 ?_
 intro zw7 zS8
 refine nil_ (then_n (seq_ (reg_ ?_)))
 refine pure_ (.int .i64 0) ?_
 refine nil_ (then_n (seq_ (reg_ ?_)))
 refine pure_ (.bool true) ?_
 refine nil_ (then_n (seq_ (seq_ (reg_ ?_))))
 refine pure_ (.int .u8 bt) ?_
 refine pure_ (.int .u8 (bits .and .u8 bt 16)) ?_
 refine pure_ (.bool ((bits .and .u8 bt 16) != 0)) ?_
 refine nil_ (then_n ?_)
 refine cond_J ((bits .and .u8 bt 16) != 0) (fun za zw => ∃ zd15 zd16 : Value, za = ⟨#[.int .u8 bt, .int .u8 hol, undef, undef, .bool false, .bool true, .int .i64 (1 + (hol % 3)), .int .i64 (1 + (hol % 3)), .int .i64 (1 + ((1 + (hol % 3)) % 3)), .pointer (some ⟨zb4, 0, none⟩), .int .i64 (bif ((bits .and .u8 bt 16) != 0) then (28 : Int) else 0), .bool true, undef, undef, undef, undef, .bool true, .int .u8 hol, .int .i64 hol, .int .i64 (hol % 3), .int .i64 (1 + (hol % 3)), .int .i64 (1 + (hol % 3)), .int .i64 (1 + (hol % 3)), .int .i64 ((1 + (hol % 3)) % 3), .int .i64 (1 + ((1 + (hol % 3)) % 3)), .int .i64 (1 + (hol % 3)), .agg #[.int .i64 (1 + (hol % 3)), .int .i64 4, .int .i64 (-1), .int .i64 0, .int .i64 0, .int .i64 0, .int .i64 0, .bool false], .int .u8 bt, .int .u8 (bits .and .u8 bt 16), .bool ((bits .and .u8 bt 16) != 0), zd15, zd16, undef, undef, undef, undef, undef, undef, undef, undef, undef, undef, undef, undef, undef, undef, undef, undef, undef, undef, undef, undef, undef, undef, undef, undef, undef, undef, undef, undef, undef, undef, undef, undef, undef, undef, undef, undef, undef, undef, undef, undef, undef, undef, undef, undef, undef, undef, undef, undef, undef, undef, undef, undef, undef, undef, undef, undef, undef, undef, undef, undef], []⟩ ∧ St [] w [⟨zb4, true, .cells #[.int .i64 (1 + (hol % 3)), .int .i64 4, .int .i64 (bif ((bits .and .u8 bt 16) != 0) then (1 + ((1 + (hol % 3)) % 3)) else (-1)), .int .i64 0, .int .i64 0, .int .i64 0, .int .i64 0, .bool false] 47 (0, 0)⟩] zw) ?_ ?_ ?_
 · intro zh9
   have zh10 := neT' zh9
   refine seq_ (reg_ ?_)
   refine move_ ?_
   refine pure_ (.pointer (some ⟨zb4, 2, none⟩)) ?_
   refine store_ zS8 0 (.int .i64 (1 + ((1 + (hol % 3)) % 3))) zb4 2 ?_
   intro zw11 zS12
   refine nil_ (then_n (reg_ ?_))
   refine pure_ (.int .i64 28) ?_
   refine nil_ ?_
   exact ⟨.int .i64 (1 + ((1 + (hol % 3)) % 3)), .pointer (some ⟨zb4, 2, none⟩), by (try rw [zh9]) <;> kernel_rfl, zS12.pick [0] (by (try rw [zh9]) <;> kernel_rfl) (by decide)⟩
 · intro zh13
   have zh14 := neF' zh13
   refine wp_skip ?_
   exact ⟨undef, undef, by (try rw [zh13]) <;> kernel_rfl, zS8.pick [0] (by (try rw [zh13]) <;> kernel_rfl) (by decide)⟩
 rintro za17 zw18 ⟨zd15, zd16, rfl, zS19⟩
 refine then_n (seq_ (seq_ (reg_ ?_)))
 refine pure_ (.int .u8 bt) ?_
 refine pure_ (.int .u8 (bits .and .u8 bt 8)) ?_
 refine pure_ (.bool ((bits .and .u8 bt 8) != 0)) ?_
 refine nil_ (then_n ?_)
 refine cond_J ((bits .and .u8 bt 8) != 0) (fun za zw => za = ⟨#[.int .u8 bt, .int .u8 hol, undef, undef, .bool false, .bool true, .int .i64 (1 + (hol % 3)), .int .i64 (1 + (hol % 3)), .int .i64 (1 + ((1 + (hol % 3)) % 3)), .pointer (some ⟨zb4, 0, none⟩), .int .i64 (bif ((bits .and .u8 bt 8) != 0) then (2 : Int) else (bif ((bits .and .u8 bt 16) != 0) then (28 : Int) else 0)), .bool (bif ((bits .and .u8 bt 8) != 0) then false else true), undef, undef, undef, undef, .bool true, .int .u8 hol, .int .i64 hol, .int .i64 (hol % 3), .int .i64 (1 + (hol % 3)), .int .i64 (1 + (hol % 3)), .int .i64 (1 + (hol % 3)), .int .i64 ((1 + (hol % 3)) % 3), .int .i64 (1 + ((1 + (hol % 3)) % 3)), .int .i64 (1 + (hol % 3)), .agg #[.int .i64 (1 + (hol % 3)), .int .i64 4, .int .i64 (-1), .int .i64 0, .int .i64 0, .int .i64 0, .int .i64 0, .bool false], .int .u8 bt, .int .u8 (bits .and .u8 bt 16), .bool ((bits .and .u8 bt 16) != 0), zd15, zd16, .int .u8 bt, .int .u8 (bits .and .u8 bt 8), .bool ((bits .and .u8 bt 8) != 0), undef, undef, undef, undef, undef, undef, undef, undef, undef, undef, undef, undef, undef, undef, undef, undef, undef, undef, undef, undef, undef, undef, undef, undef, undef, undef, undef, undef, undef, undef, undef, undef, undef, undef, undef, undef, undef, undef, undef, undef, undef, undef, undef, undef, undef, undef, undef, undef, undef, undef, undef, undef, undef, undef, undef, undef, undef], []⟩ ∧ St [] w [⟨zb4, true, .cells #[.int .i64 (1 + (hol % 3)), .int .i64 4, .int .i64 (bif ((bits .and .u8 bt 16) != 0) then (1 + ((1 + (hol % 3)) % 3)) else (-1)), .int .i64 0, .int .i64 0, .int .i64 0, .int .i64 0, .bool false] 47 (0, 0)⟩] zw) ?_ ?_ ?_
 · intro zh20
   have zh21 := neT' zh20
   refine seq_ (reg_ ?_)
   refine pure_ (.bool false) ?_
   refine nil_ (then_n (reg_ ?_))
   refine pure_ (.int .i64 2) ?_
   refine nil_ ?_
   exact ⟨by (try rw [zh20]) <;> kernel_rfl, zS19.pick [0] (by (try rw [zh20]) <;> kernel_rfl) (by decide)⟩
 · intro zh22
   have zh23 := neF' zh22
   refine wp_skip ?_
   exact ⟨by (try rw [zh22]) <;> kernel_rfl, zS19.pick [0] (by (try rw [zh22]) <;> kernel_rfl) (by decide)⟩
 rintro za24 zw25 ⟨rfl, zS26⟩
 refine then_n (seq_ (seq_ (reg_ ?_)))
 refine pure_ (.int .u8 bt) ?_
 refine pure_ (.int .u8 (bits .and .u8 bt 4)) ?_
 refine pure_ (.bool ((bits .and .u8 bt 4) != 0)) ?_
 refine nil_ (then_n ?_)
 refine cond_J ((bits .and .u8 bt 4) != 0) (fun za zw => ∃ zd31 : Value, za = ⟨#[.int .u8 bt, .int .u8 hol, undef, undef, .bool false, .bool true, .int .i64 (1 + (hol % 3)), .int .i64 (1 + (hol % 3)), .int .i64 (bif ((bits .and .u8 bt 4) != 0) then (1 + (hol % 3)) else (1 + ((1 + (hol % 3)) % 3))), .pointer (some ⟨zb4, 0, none⟩), .int .i64 (bif ((bits .and .u8 bt 4) != 0) then (25 : Int) else (bif ((bits .and .u8 bt 8) != 0) then (2 : Int) else (bif ((bits .and .u8 bt 16) != 0) then (28 : Int) else 0))), .bool (bif ((bits .and .u8 bt 8) != 0) then false else true), undef, undef, undef, undef, .bool true, .int .u8 hol, .int .i64 hol, .int .i64 (hol % 3), .int .i64 (1 + (hol % 3)), .int .i64 (1 + (hol % 3)), .int .i64 (1 + (hol % 3)), .int .i64 ((1 + (hol % 3)) % 3), .int .i64 (1 + ((1 + (hol % 3)) % 3)), .int .i64 (1 + (hol % 3)), .agg #[.int .i64 (1 + (hol % 3)), .int .i64 4, .int .i64 (-1), .int .i64 0, .int .i64 0, .int .i64 0, .int .i64 0, .bool false], .int .u8 bt, .int .u8 (bits .and .u8 bt 16), .bool ((bits .and .u8 bt 16) != 0), zd15, zd16, .int .u8 bt, .int .u8 (bits .and .u8 bt 8), .bool ((bits .and .u8 bt 8) != 0), .int .u8 bt, .int .u8 (bits .and .u8 bt 4), .bool ((bits .and .u8 bt 4) != 0), zd31, undef, undef, undef, undef, undef, undef, undef, undef, undef, undef, undef, undef, undef, undef, undef, undef, undef, undef, undef, undef, undef, undef, undef, undef, undef, undef, undef, undef, undef, undef, undef, undef, undef, undef, undef, undef, undef, undef, undef, undef, undef, undef, undef, undef, undef, undef, undef, undef, undef, undef, undef, undef, undef], []⟩ ∧ St [] w [⟨zb4, true, .cells #[.int .i64 (1 + (hol % 3)), .int .i64 4, .int .i64 (bif ((bits .and .u8 bt 16) != 0) then (1 + ((1 + (hol % 3)) % 3)) else (-1)), .int .i64 0, .int .i64 0, .int .i64 0, .int .i64 0, .bool false] 47 (0, 0)⟩] zw) ?_ ?_ ?_
 · intro zh27
   have zh28 := neT' zh27
   refine seq_ (reg_ ?_)
   refine move_ ?_
   refine assign_ ?_
   refine nil_ (then_n (reg_ ?_))
   refine pure_ (.int .i64 25) ?_
   refine nil_ ?_
   exact ⟨.int .i64 (1 + (hol % 3)), by (try rw [zh27]) <;> kernel_rfl, zS26.pick [0] (by (try rw [zh27]) <;> kernel_rfl) (by decide)⟩
 · intro zh29
   have zh30 := neF' zh29
   refine wp_skip ?_
   exact ⟨undef, by (try rw [zh29]) <;> kernel_rfl, zS26.pick [0] (by (try rw [zh29]) <;> kernel_rfl) (by decide)⟩
 rintro za32 zw33 ⟨zd31, rfl, zS34⟩
 refine then_n (seq_ (seq_ (reg_ ?_)))
 refine pure_ (.int .u8 bt) ?_
 refine pure_ (.int .u8 (bits .and .u8 bt 2)) ?_
 refine pure_ (.bool ((bits .and .u8 bt 2) != 0)) ?_
 refine nil_ (then_n ?_)
 refine cond_J ((bits .and .u8 bt 2) != 0) (fun za zw => ∃ zd41 : Value, za = ⟨#[.int .u8 bt, .int .u8 hol, undef, undef, .bool false, .bool true, .int .i64 (1 + (hol % 3)), .int .i64 (1 + (hol % 3)), .int .i64 (bif ((bits .and .u8 bt 4) != 0) then (1 + (hol % 3)) else (1 + ((1 + (hol % 3)) % 3))), .pointer (some ⟨zb4, 0, none⟩), .int .i64 (bif ((bits .and .u8 bt 2) != 0) then (24 : Int) else (bif ((bits .and .u8 bt 4) != 0) then (25 : Int) else (bif ((bits .and .u8 bt 8) != 0) then (2 : Int) else (bif ((bits .and .u8 bt 16) != 0) then (28 : Int) else 0)))), .bool (bif ((bits .and .u8 bt 8) != 0) then false else true), undef, undef, undef, undef, .bool true, .int .u8 hol, .int .i64 hol, .int .i64 (hol % 3), .int .i64 (1 + (hol % 3)), .int .i64 (1 + (hol % 3)), .int .i64 (1 + (hol % 3)), .int .i64 ((1 + (hol % 3)) % 3), .int .i64 (1 + ((1 + (hol % 3)) % 3)), .int .i64 (1 + (hol % 3)), .agg #[.int .i64 (1 + (hol % 3)), .int .i64 4, .int .i64 (-1), .int .i64 0, .int .i64 0, .int .i64 0, .int .i64 0, .bool false], .int .u8 bt, .int .u8 (bits .and .u8 bt 16), .bool ((bits .and .u8 bt 16) != 0), zd15, zd16, .int .u8 bt, .int .u8 (bits .and .u8 bt 8), .bool ((bits .and .u8 bt 8) != 0), .int .u8 bt, .int .u8 (bits .and .u8 bt 4), .bool ((bits .and .u8 bt 4) != 0), zd31, .int .u8 bt, .int .u8 (bits .and .u8 bt 2), .bool ((bits .and .u8 bt 2) != 0), zd41, undef, undef, undef, undef, undef, undef, undef, undef, undef, undef, undef, undef, undef, undef, undef, undef, undef, undef, undef, undef, undef, undef, undef, undef, undef, undef, undef, undef, undef, undef, undef, undef, undef, undef, undef, undef, undef, undef, undef, undef, undef, undef, undef, undef, undef, undef, undef, undef, undef], []⟩ ∧ St [] w [⟨zb4, true, .cells #[.int .i64 (1 + (hol % 3)), .int .i64 (bif ((bits .and .u8 bt 2) != 0) then (65535 : Int) else 4), .int .i64 (bif ((bits .and .u8 bt 16) != 0) then (1 + ((1 + (hol % 3)) % 3)) else (-1)), .int .i64 0, .int .i64 0, .int .i64 0, .int .i64 0, .bool false] 47 (0, 0)⟩] zw) ?_ ?_ ?_
 · intro zh35
   have zh36 := neT' zh35
   refine seq_ (reg_ ?_)
   refine pure_ (.pointer (some ⟨zb4, 1, none⟩)) ?_
   refine store_ zS34 0 (.int .i64 65535) zb4 1 ?_
   intro zw37 zS38
   refine nil_ (then_n (reg_ ?_))
   refine pure_ (.int .i64 24) ?_
   refine nil_ ?_
   exact ⟨.pointer (some ⟨zb4, 1, none⟩), by (try rw [zh35]) <;> kernel_rfl, zS38.pick [0] (by (try rw [zh35]) <;> kernel_rfl) (by decide)⟩
 · intro zh39
   have zh40 := neF' zh39
   refine wp_skip ?_
   exact ⟨undef, by (try rw [zh39]) <;> kernel_rfl, zS34.pick [0] (by (try rw [zh39]) <;> kernel_rfl) (by decide)⟩
 rintro za42 zw43 ⟨zd41, rfl, zS44⟩
 refine then_n (seq_ (seq_ (reg_ ?_)))
 refine pure_ (.int .u8 bt) ?_
 refine pureE_ (.int .u8 (bits .and .u8 bt 1)) (.int .u8 (bt % 2)) (congrArg _ (and_mask .u8 bt 1 2 1 (by decide) (by decide) (by decide))) ?_
 refine pure_ (.bool ((bt % 2) != 0)) ?_
 refine nil_ (then_n ?_)
 refine cond_J ((bt % 2) != 0) (fun za zw => ∃ zd52 : Value, za = ⟨#[.int .u8 bt, .int .u8 hol, undef, undef, .bool false, .bool true, .int .i64 (1 + (hol % 3)), .int .i64 (1 + (hol % 3)), .int .i64 (bif ((bits .and .u8 bt 4) != 0) then (1 + (hol % 3)) else (1 + ((1 + (hol % 3)) % 3))), .pointer (some ⟨zb4, 0, none⟩), .int .i64 (bif ((bt % 2) != 0) then (20 : Int) else (bif ((bits .and .u8 bt 2) != 0) then (24 : Int) else (bif ((bits .and .u8 bt 4) != 0) then (25 : Int) else (bif ((bits .and .u8 bt 8) != 0) then (2 : Int) else (bif ((bits .and .u8 bt 16) != 0) then (28 : Int) else 0))))), .bool (bif ((bits .and .u8 bt 8) != 0) then false else true), undef, undef, undef, undef, .bool true, .int .u8 hol, .int .i64 hol, .int .i64 (hol % 3), .int .i64 (1 + (hol % 3)), .int .i64 (1 + (hol % 3)), .int .i64 (1 + (hol % 3)), .int .i64 ((1 + (hol % 3)) % 3), .int .i64 (1 + ((1 + (hol % 3)) % 3)), .int .i64 (1 + (hol % 3)), .agg #[.int .i64 (1 + (hol % 3)), .int .i64 4, .int .i64 (-1), .int .i64 0, .int .i64 0, .int .i64 0, .int .i64 0, .bool false], .int .u8 bt, .int .u8 (bits .and .u8 bt 16), .bool ((bits .and .u8 bt 16) != 0), zd15, zd16, .int .u8 bt, .int .u8 (bits .and .u8 bt 8), .bool ((bits .and .u8 bt 8) != 0), .int .u8 bt, .int .u8 (bits .and .u8 bt 4), .bool ((bits .and .u8 bt 4) != 0), zd31, .int .u8 bt, .int .u8 (bits .and .u8 bt 2), .bool ((bits .and .u8 bt 2) != 0), zd41, .int .u8 bt, .int .u8 (bt % 2), .bool ((bt % 2) != 0), zd52, undef, undef, undef, undef, undef, undef, undef, undef, undef, undef, undef, undef, undef, undef, undef, undef, undef, undef, undef, undef, undef, undef, undef, undef, undef, undef, undef, undef, undef, undef, undef, undef, undef, undef, undef, undef, undef, undef, undef, undef, undef, undef, undef, undef, undef], []⟩ ∧ St [] w [⟨zb4, true, .cells #[.int .i64 (bif ((bt % 2) != 0) then (0 : Int) else (1 + (hol % 3))), .int .i64 (bif ((bits .and .u8 bt 2) != 0) then (65535 : Int) else 4), .int .i64 (bif ((bits .and .u8 bt 16) != 0) then (1 + ((1 + (hol % 3)) % 3)) else (-1)), .int .i64 0, .int .i64 0, .int .i64 0, .int .i64 0, .bool false] 47 (0, 0)⟩] zw) ?_ ?_ ?_
 · intro zh46
   have zh47 := neT' zh46
   refine seq_ (reg_ ?_)
   refine pure_ (.pointer (some ⟨zb4, 0, none⟩)) ?_
   refine store_ zS44 0 (.int .i64 0) zb4 0 ?_
   intro zw48 zS49
   refine nil_ (then_n (reg_ ?_))
   refine pure_ (.int .i64 20) ?_
   refine nil_ ?_
   exact ⟨.pointer (some ⟨zb4, 0, none⟩), by (try rw [zh46]) <;> kernel_rfl, zS49.pick [0] (by (try rw [zh46]) <;> kernel_rfl) (by decide)⟩
 · intro zh50
   have zh51 := neF' zh50
   refine wp_skip ?_
   exact ⟨undef, by (try rw [zh50]) <;> kernel_rfl, zS44.pick [0] (by (try rw [zh50]) <;> kernel_rfl) (by decide)⟩
 rintro za53 zw54 ⟨zd52, rfl, zS55⟩
 refine then_n (seq_ (reg_ ?_))
 refine pure_ (.agg #[.int .i64 0, .int .i64 0, .int .i64 0, .int .i64 0, .int .i64 0, .slice none 0 0, .slice none 0 0, .slice none 0 0, .slice none 0 0, .int .i64 0, .int .i64 0, .int .i64 0, .int .i64 0, .int .i64 0, .int .i64 0, .int .i64 0, .int .i64 0, .int .i64 0, .int .i64 0, .int .i64 0, .int .i64 0, .int .i64 0, .int .i64 0, .int .i64 0, .int .i64 0, .int .i64 0, .int .i64 0, .int .i64 0, .int .i64 0, .int .i64 0, .int .i64 0, .int .i64 0, .int .i64 0, .int .i64 0, .int .i64 0, .int .i64 0, .int .i64 0, .int .i64 0, .int .i64 0, .int .i64 0, .int .i64 0, .int .i64 0, .int .i64 0, .int .i64 0, .int .i64 2, .int .i64 0, .int .i64 0, .int .i64 0, .int .i64 0, .int .i64 0, .int .i64 0, .int .i64 0, .int .i64 0, .int .i64 0, .int .i64 0, .int .i64 0]) ?_
 refine loadN_ zS55 0 8 #[.int .i64 (bif ((bt % 2) != 0) then (0 : Int) else (1 + (hol % 3))), .int .i64 (bif ((bits .and .u8 bt 2) != 0) then (65535 : Int) else 4), .int .i64 (bif ((bits .and .u8 bt 16) != 0) then (1 + ((1 + (hol % 3)) % 3)) else (-1)), .int .i64 0, .int .i64 0, .int .i64 0, .int .i64 0, .bool false] zb4 0 ?_
 refine move_ ?_
 refine move_ ?_
 refine move_ ?_
 refine split_b ((makeCode (bif ((bt % 2) != 0) then (0 : Int) else (1 + (hol % 3))) (bif ((bits .and .u8 bt 2) != 0) then (65535 : Int) else 4) (bif ((bits .and .u8 bt 16) != 0) then (1 + ((1 + (hol % 3)) % 3)) else (-1)) (1 + (hol % 3)) (bif ((bits .and .u8 bt 4) != 0) then (1 + (hol % 3)) else (1 + ((1 + (hol % 3)) % 3))) (bif ((bits .and .u8 bt 8) != 0) then false else true)) == 0) ?_ ?_
 · intro zh56
   have zh57 := eqT' zh56
   refine call_ 26 #[.agg #[.int .i64 0, .int .i64 0, .int .i64 0, .int .i64 0, .int .i64 0, .slice none 0 0, .slice none 0 0, .slice none 0 0, .slice none 0 0, .int .i64 0, .int .i64 0, .int .i64 0, .int .i64 0, .int .i64 0, .int .i64 0, .int .i64 0, .int .i64 0, .int .i64 0, .int .i64 0, .int .i64 0, .int .i64 0, .int .i64 0, .int .i64 0, .int .i64 0, .int .i64 0, .int .i64 0, .int .i64 0, .int .i64 0, .int .i64 0, .int .i64 0, .int .i64 0, .int .i64 0, .int .i64 0, .int .i64 0, .int .i64 0, .int .i64 0, .int .i64 0, .int .i64 0, .int .i64 0, .int .i64 0, .int .i64 0, .int .i64 0, .int .i64 0, .int .i64 0, .int .i64 2, .int .i64 0, .int .i64 0, .int .i64 0, .int .i64 0, .int .i64 0, .int .i64 0, .int .i64 0, .int .i64 0, .int .i64 0, .int .i64 0, .int .i64 0], .agg #[.int .i64 (bif ((bt % 2) != 0) then (0 : Int) else (1 + (hol % 3))), .int .i64 (bif ((bits .and .u8 bt 2) != 0) then (65535 : Int) else 4), .int .i64 (bif ((bits .and .u8 bt 16) != 0) then (1 + ((1 + (hol % 3)) % 3)) else (-1)), .int .i64 0, .int .i64 0, .int .i64 0, .int .i64 0, .bool false], .int .i64 (1 + (hol % 3)), .int .i64 (bif ((bits .and .u8 bt 4) != 0) then (1 + (hol % 3)) else (1 + ((1 + (hol % 3)) % 3))), .bool (bif ((bits .and .u8 bt 8) != 0) then false else true)] ?_
   refine (make_yes (upd (fun _ => 0) 44 2) (fun _ => none) (fun _ => 0) (fun _ => 0) (bif ((bt % 2) != 0) then (0 : Int) else (1 + (hol % 3))) (bif ((bits .and .u8 bt 2) != 0) then (65535 : Int) else 4) (bif ((bits .and .u8 bt 16) != 0) then (1 + ((1 + (hol % 3)) % 3)) else (-1)) 0 0 0 0 false (1 + (hol % 3)) (bif ((bits .and .u8 bt 4) != 0) then (1 + (hol % 3)) else (1 + ((1 + (hol % 3)) % 3))) (bif ((bits .and .u8 bt 8) != 0) then false else true) _ (eqT' (zh56))).mono ?_; rintro _ zw58 ⟨rfl, zhc59⟩
   have zS60 := zS55.quiet zhc59
   refine move_ ?_
   refine pure_ (.agg #[.int .i64 (bif ((bt % 2) != 0) then (0 : Int) else (1 + (hol % 3))), .int .i64 (bif ((bits .and .u8 bt 2) != 0) then (65535 : Int) else 4), .int .i64 (bif ((bits .and .u8 bt 4) != 0) then (1 + (hol % 3)) else (1 + ((1 + (hol % 3)) % 3))), .int .i64 0, .int .i64 (max0 (upd (fun _ => 0) 44 2 44)), .int .i64 0, .int .i64 0, .bool false]) ?_
   refine pure_ (.int .i64 0) ?_
   refine new_ zS60 (fun b => .pointer (some ⟨b, 0, none⟩)) (.cells #[.int .i64 0, .int .i64 0, .int .i64 0, .int .i64 0, .int .i64 0, .int .i64 0, .int .i64 0, .bool false] 47) ?_
   intro zb61 zw62 zS63
   refine store_ zS63 0 (.agg #[.int .i64 (bif ((bt % 2) != 0) then (0 : Int) else (1 + (hol % 3))), .int .i64 (bif ((bits .and .u8 bt 2) != 0) then (65535 : Int) else 4), .int .i64 (bif ((bits .and .u8 bt 4) != 0) then (1 + (hol % 3)) else (1 + ((1 + (hol % 3)) % 3))), .int .i64 0, .int .i64 (max0 (upd (fun _ => 0) 44 2 44)), .int .i64 0, .int .i64 0, .bool false]) zb61 0 ?_
   intro zw64 zS65
   refine pure_ (.int .i64 0) ?_
   refine nil_ (then_n (seq_ (reg_ ?_)))
   refine pure_ (.agg #[.int .i64 0, .int .i64 0, .int .i64 0, .int .i64 0, .int .i64 0, .slice none 0 0, .slice none 0 0, .slice none 0 0, .slice none 0 0, .int .i64 0, .int .i64 0, .int .i64 0, .int .i64 0, .int .i64 0, .int .i64 0, .int .i64 0, .int .i64 0, .int .i64 0, .int .i64 0, .int .i64 0, .int .i64 0, .int .i64 0, .int .i64 0, .int .i64 0, .int .i64 0, .int .i64 0, .int .i64 0, .int .i64 0, .int .i64 0, .int .i64 0, .int .i64 0, .int .i64 0, .int .i64 0, .int .i64 0, .int .i64 0, .int .i64 0, .int .i64 0, .int .i64 0, .int .i64 0, .int .i64 0, .int .i64 0, .int .i64 0, .int .i64 0, .int .i64 0, .int .i64 2, .int .i64 0, .int .i64 0, .int .i64 0, .int .i64 0, .int .i64 0, .int .i64 0, .int .i64 0, .int .i64 0, .int .i64 0, .int .i64 0, .int .i64 0]) ?_
   refine move_ ?_
   refine pure_ (.agg #[.int .i64 (1 + (hol % 3)), .int .i64 4, .int .i64 (-1), .int .i64 0, .int .i64 0, .int .i64 0, .int .i64 0, .bool false]) ?_
   refine move_ ?_
   refine pure_ (.int .u8 bt) ?_
   refine pureE_ (.int .u8 (bits .and .u8 bt 1)) (.int .u8 (bt % 2)) (congrArg _ (and_mask .u8 bt 1 2 1 (by decide) (by decide) (by decide))) ?_
   refine sum_ .i64 (bt % 2) (IntWalk.i64_in _ (by omega)) ?_
   refine sum_ .i64 (4 * (bt % 2)) (IntWalk.i64_in _ (by omega)) ?_
   refine call_ 26 #[.agg #[.int .i64 0, .int .i64 0, .int .i64 0, .int .i64 0, .int .i64 0, .slice none 0 0, .slice none 0 0, .slice none 0 0, .slice none 0 0, .int .i64 0, .int .i64 0, .int .i64 0, .int .i64 0, .int .i64 0, .int .i64 0, .int .i64 0, .int .i64 0, .int .i64 0, .int .i64 0, .int .i64 0, .int .i64 0, .int .i64 0, .int .i64 0, .int .i64 0, .int .i64 0, .int .i64 0, .int .i64 0, .int .i64 0, .int .i64 0, .int .i64 0, .int .i64 0, .int .i64 0, .int .i64 0, .int .i64 0, .int .i64 0, .int .i64 0, .int .i64 0, .int .i64 0, .int .i64 0, .int .i64 0, .int .i64 0, .int .i64 0, .int .i64 0, .int .i64 0, .int .i64 2, .int .i64 0, .int .i64 0, .int .i64 0, .int .i64 0, .int .i64 0, .int .i64 0, .int .i64 0, .int .i64 0, .int .i64 0, .int .i64 0, .int .i64 0], .agg #[.int .i64 (1 + (hol % 3)), .int .i64 4, .int .i64 (-1), .int .i64 0, .int .i64 0, .int .i64 0, .int .i64 0, .bool false], .int .i64 (1 + (hol % 3)), .int .i64 (4 * (bt % 2)), .bool true] ?_
   refine (make_no (upd (fun _ => 0) 44 2) (fun _ => none) (fun _ => 0) (fun _ => 0) (1 + (hol % 3)) 4 (-1) 0 0 0 0 false (1 + (hol % 3)) (4 * (bt % 2)) true _ (eqF' (eqF (by rw [offer_law2]; decide)))).mono ?_; rintro _ zw67 ⟨rfl, zhc68⟩
   have zS69 := zS65.quiet zhc68
   refine move_ ?_
   refine pure_ (.agg #[.int .i64 (1 + (hol % 3)), .int .i64 4, .int .i64 (-1), .int .i64 0, .int .i64 0, .int .i64 0, .int .i64 0, .bool false]) ?_
   refine pure_ (.int .i64 (makeCode (1 + (hol % 3)) 4 (-1) (1 + (hol % 3)) (4 * (bt % 2)) true)) ?_
   refine new_ zS69 (fun b => .pointer (some ⟨b, 0, none⟩)) (.cells #[.int .i64 0, .int .i64 0, .int .i64 0, .int .i64 0, .int .i64 0, .int .i64 0, .int .i64 0, .bool false] 47) ?_
   intro zb70 zw71 zS72
   refine store_ zS72 0 (.agg #[.int .i64 (1 + (hol % 3)), .int .i64 4, .int .i64 (-1), .int .i64 0, .int .i64 0, .int .i64 0, .int .i64 0, .bool false]) zb70 0 ?_
   intro zw73 zS74
   refine assign_ ?_
   refine nil_ (then_n (seq_ (reg_ ?_)))
   refine pure_ (.bool true) ?_
   refine pure_ (.bool true) ?_
   refine pure_ (.int .i64 0) ?_
   refine move_ ?_
   refine pureE_ (.bool (0 == (bif ((bt % 2) != 0) then (20 : Int) else (bif ((bits .and .u8 bt 2) != 0) then (24 : Int) else (bif ((bits .and .u8 bt 4) != 0) then (25 : Int) else (bif ((bits .and .u8 bt 8) != 0) then (2 : Int) else (bif ((bits .and .u8 bt 16) != 0) then (28 : Int) else 0))))))) (.bool true) (congrArg Value.bool (eqT ((eqT' zh56).symm.trans (offer_law _ _ _ _ _ _)))) ?_
   refine pure_ (.bool true) ?_
   refine pure_ (.bool true) ?_
   refine pure_ (.int .i64 0) ?_
   refine pure_ (.bool true) ?_
   refine pure_ (.bool true) ?_
   refine skip_ ?_
   refine skip_ ?_
   refine skip_ ?_
   refine pure_ (.bool true) ?_
   refine pure_ (.bool true) ?_
   refine pure_ (.bool true) ?_
   refine move_ ?_
   refine pureE_ (.bool ((makeCode (1 + (hol % 3)) 4 (-1) (1 + (hol % 3)) (4 * (bt % 2)) true) == 2)) (.bool true) (congrArg Value.bool (eqT (offer_law2 _ _))) ?_
   refine pure_ (.bool true) ?_
   refine pure_ (.bool true) ?_
   refine pure_ (.pointer (some ⟨zb70, 2, none⟩)) ?_
   refine load1_ zS74 0 (.int .i64 (-1)) zb70 2 ?_
   refine pure_ (.bool true) ?_
   refine pure_ (.bool true) ?_
   refine pure_ (.bool true) ?_
   refine nil_ (then_n (wp_ret ?_))
   refine ret_ rfl (res_ [.tmp 4] [.bool true] (.bool true) ⟨res_tmp, trivial⟩) ?_
   exact ⟨rfl, zS74.ch⟩
 intro zh75
 have zh76 := eqF' zh75
 refine call_ 26 #[.agg #[.int .i64 0, .int .i64 0, .int .i64 0, .int .i64 0, .int .i64 0, .slice none 0 0, .slice none 0 0, .slice none 0 0, .slice none 0 0, .int .i64 0, .int .i64 0, .int .i64 0, .int .i64 0, .int .i64 0, .int .i64 0, .int .i64 0, .int .i64 0, .int .i64 0, .int .i64 0, .int .i64 0, .int .i64 0, .int .i64 0, .int .i64 0, .int .i64 0, .int .i64 0, .int .i64 0, .int .i64 0, .int .i64 0, .int .i64 0, .int .i64 0, .int .i64 0, .int .i64 0, .int .i64 0, .int .i64 0, .int .i64 0, .int .i64 0, .int .i64 0, .int .i64 0, .int .i64 0, .int .i64 0, .int .i64 0, .int .i64 0, .int .i64 0, .int .i64 0, .int .i64 2, .int .i64 0, .int .i64 0, .int .i64 0, .int .i64 0, .int .i64 0, .int .i64 0, .int .i64 0, .int .i64 0, .int .i64 0, .int .i64 0, .int .i64 0], .agg #[.int .i64 (bif ((bt % 2) != 0) then (0 : Int) else (1 + (hol % 3))), .int .i64 (bif ((bits .and .u8 bt 2) != 0) then (65535 : Int) else 4), .int .i64 (bif ((bits .and .u8 bt 16) != 0) then (1 + ((1 + (hol % 3)) % 3)) else (-1)), .int .i64 0, .int .i64 0, .int .i64 0, .int .i64 0, .bool false], .int .i64 (1 + (hol % 3)), .int .i64 (bif ((bits .and .u8 bt 4) != 0) then (1 + (hol % 3)) else (1 + ((1 + (hol % 3)) % 3))), .bool (bif ((bits .and .u8 bt 8) != 0) then false else true)] ?_
 refine (make_no (upd (fun _ => 0) 44 2) (fun _ => none) (fun _ => 0) (fun _ => 0) (bif ((bt % 2) != 0) then (0 : Int) else (1 + (hol % 3))) (bif ((bits .and .u8 bt 2) != 0) then (65535 : Int) else 4) (bif ((bits .and .u8 bt 16) != 0) then (1 + ((1 + (hol % 3)) % 3)) else (-1)) 0 0 0 0 false (1 + (hol % 3)) (bif ((bits .and .u8 bt 4) != 0) then (1 + (hol % 3)) else (1 + ((1 + (hol % 3)) % 3))) (bif ((bits .and .u8 bt 8) != 0) then false else true) _ (eqF' (zh75))).mono ?_; rintro _ zw77 ⟨rfl, zhc78⟩
 have zS79 := zS55.quiet zhc78
 refine move_ ?_
 refine pure_ (.agg #[.int .i64 (bif ((bt % 2) != 0) then (0 : Int) else (1 + (hol % 3))), .int .i64 (bif ((bits .and .u8 bt 2) != 0) then (65535 : Int) else 4), .int .i64 (bif ((bits .and .u8 bt 16) != 0) then (1 + ((1 + (hol % 3)) % 3)) else (-1)), .int .i64 0, .int .i64 0, .int .i64 0, .int .i64 0, .bool false]) ?_
 refine pure_ (.int .i64 (makeCode (bif ((bt % 2) != 0) then (0 : Int) else (1 + (hol % 3))) (bif ((bits .and .u8 bt 2) != 0) then (65535 : Int) else 4) (bif ((bits .and .u8 bt 16) != 0) then (1 + ((1 + (hol % 3)) % 3)) else (-1)) (1 + (hol % 3)) (bif ((bits .and .u8 bt 4) != 0) then (1 + (hol % 3)) else (1 + ((1 + (hol % 3)) % 3))) (bif ((bits .and .u8 bt 8) != 0) then false else true))) ?_
 refine new_ zS79 (fun b => .pointer (some ⟨b, 0, none⟩)) (.cells #[.int .i64 0, .int .i64 0, .int .i64 0, .int .i64 0, .int .i64 0, .int .i64 0, .int .i64 0, .bool false] 47) ?_
 intro zb80 zw81 zS82
 refine store_ zS82 0 (.agg #[.int .i64 (bif ((bt % 2) != 0) then (0 : Int) else (1 + (hol % 3))), .int .i64 (bif ((bits .and .u8 bt 2) != 0) then (65535 : Int) else 4), .int .i64 (bif ((bits .and .u8 bt 16) != 0) then (1 + ((1 + (hol % 3)) % 3)) else (-1)), .int .i64 0, .int .i64 0, .int .i64 0, .int .i64 0, .bool false]) zb80 0 ?_
 intro zw83 zS84
 refine assign_ ?_
 refine nil_ (then_n (seq_ (reg_ ?_)))
 refine pure_ (.agg #[.int .i64 0, .int .i64 0, .int .i64 0, .int .i64 0, .int .i64 0, .slice none 0 0, .slice none 0 0, .slice none 0 0, .slice none 0 0, .int .i64 0, .int .i64 0, .int .i64 0, .int .i64 0, .int .i64 0, .int .i64 0, .int .i64 0, .int .i64 0, .int .i64 0, .int .i64 0, .int .i64 0, .int .i64 0, .int .i64 0, .int .i64 0, .int .i64 0, .int .i64 0, .int .i64 0, .int .i64 0, .int .i64 0, .int .i64 0, .int .i64 0, .int .i64 0, .int .i64 0, .int .i64 0, .int .i64 0, .int .i64 0, .int .i64 0, .int .i64 0, .int .i64 0, .int .i64 0, .int .i64 0, .int .i64 0, .int .i64 0, .int .i64 0, .int .i64 0, .int .i64 2, .int .i64 0, .int .i64 0, .int .i64 0, .int .i64 0, .int .i64 0, .int .i64 0, .int .i64 0, .int .i64 0, .int .i64 0, .int .i64 0, .int .i64 0]) ?_
 refine move_ ?_
 refine pure_ (.agg #[.int .i64 (1 + (hol % 3)), .int .i64 4, .int .i64 (-1), .int .i64 0, .int .i64 0, .int .i64 0, .int .i64 0, .bool false]) ?_
 refine move_ ?_
 refine pure_ (.int .u8 bt) ?_
 refine pureE_ (.int .u8 (bits .and .u8 bt 1)) (.int .u8 (bt % 2)) (congrArg _ (and_mask .u8 bt 1 2 1 (by decide) (by decide) (by decide))) ?_
 refine sum_ .i64 (bt % 2) (IntWalk.i64_in _ (by omega)) ?_
 refine sum_ .i64 (4 * (bt % 2)) (IntWalk.i64_in _ (by omega)) ?_
 refine call_ 26 #[.agg #[.int .i64 0, .int .i64 0, .int .i64 0, .int .i64 0, .int .i64 0, .slice none 0 0, .slice none 0 0, .slice none 0 0, .slice none 0 0, .int .i64 0, .int .i64 0, .int .i64 0, .int .i64 0, .int .i64 0, .int .i64 0, .int .i64 0, .int .i64 0, .int .i64 0, .int .i64 0, .int .i64 0, .int .i64 0, .int .i64 0, .int .i64 0, .int .i64 0, .int .i64 0, .int .i64 0, .int .i64 0, .int .i64 0, .int .i64 0, .int .i64 0, .int .i64 0, .int .i64 0, .int .i64 0, .int .i64 0, .int .i64 0, .int .i64 0, .int .i64 0, .int .i64 0, .int .i64 0, .int .i64 0, .int .i64 0, .int .i64 0, .int .i64 0, .int .i64 0, .int .i64 2, .int .i64 0, .int .i64 0, .int .i64 0, .int .i64 0, .int .i64 0, .int .i64 0, .int .i64 0, .int .i64 0, .int .i64 0, .int .i64 0, .int .i64 0], .agg #[.int .i64 (1 + (hol % 3)), .int .i64 4, .int .i64 (-1), .int .i64 0, .int .i64 0, .int .i64 0, .int .i64 0, .bool false], .int .i64 (1 + (hol % 3)), .int .i64 (4 * (bt % 2)), .bool true] ?_
 refine (make_no (upd (fun _ => 0) 44 2) (fun _ => none) (fun _ => 0) (fun _ => 0) (1 + (hol % 3)) 4 (-1) 0 0 0 0 false (1 + (hol % 3)) (4 * (bt % 2)) true _ (eqF' (eqF (by rw [offer_law2]; decide)))).mono ?_; rintro _ zw86 ⟨rfl, zhc87⟩
 have zS88 := zS84.quiet zhc87
 refine move_ ?_
 refine pure_ (.agg #[.int .i64 (1 + (hol % 3)), .int .i64 4, .int .i64 (-1), .int .i64 0, .int .i64 0, .int .i64 0, .int .i64 0, .bool false]) ?_
 refine pure_ (.int .i64 (makeCode (1 + (hol % 3)) 4 (-1) (1 + (hol % 3)) (4 * (bt % 2)) true)) ?_
 refine new_ zS88 (fun b => .pointer (some ⟨b, 0, none⟩)) (.cells #[.int .i64 0, .int .i64 0, .int .i64 0, .int .i64 0, .int .i64 0, .int .i64 0, .int .i64 0, .bool false] 47) ?_
 intro zb89 zw90 zS91
 refine store_ zS91 0 (.agg #[.int .i64 (1 + (hol % 3)), .int .i64 4, .int .i64 (-1), .int .i64 0, .int .i64 0, .int .i64 0, .int .i64 0, .bool false]) zb89 0 ?_
 intro zw92 zS93
 refine assign_ ?_
 refine nil_ (then_n (seq_ (reg_ ?_)))
 refine pure_ (.bool true) ?_
 refine pure_ (.bool true) ?_
 refine move_ ?_
 refine move_ ?_
 refine pureE_ (.bool ((makeCode (bif ((bt % 2) != 0) then (0 : Int) else (1 + (hol % 3))) (bif ((bits .and .u8 bt 2) != 0) then (65535 : Int) else 4) (bif ((bits .and .u8 bt 16) != 0) then (1 + ((1 + (hol % 3)) % 3)) else (-1)) (1 + (hol % 3)) (bif ((bits .and .u8 bt 4) != 0) then (1 + (hol % 3)) else (1 + ((1 + (hol % 3)) % 3))) (bif ((bits .and .u8 bt 8) != 0) then false else true)) == (bif ((bt % 2) != 0) then (20 : Int) else (bif ((bits .and .u8 bt 2) != 0) then (24 : Int) else (bif ((bits .and .u8 bt 4) != 0) then (25 : Int) else (bif ((bits .and .u8 bt 8) != 0) then (2 : Int) else (bif ((bits .and .u8 bt 16) != 0) then (28 : Int) else 0))))))) (.bool true) (congrArg Value.bool (eqT (offer_law _ _ _ _ _ _))) ?_
 refine pure_ (.bool true) ?_
 refine pure_ (.bool true) ?_
 refine move_ ?_
 refine pureE_ (.bool ((makeCode (bif ((bt % 2) != 0) then (0 : Int) else (1 + (hol % 3))) (bif ((bits .and .u8 bt 2) != 0) then (65535 : Int) else 4) (bif ((bits .and .u8 bt 16) != 0) then (1 + ((1 + (hol % 3)) % 3)) else (-1)) (1 + (hol % 3)) (bif ((bits .and .u8 bt 4) != 0) then (1 + (hol % 3)) else (1 + ((1 + (hol % 3)) % 3))) (bif ((bits .and .u8 bt 8) != 0) then false else true)) == 0)) (.bool false) (congrArg Value.bool (zh75)) ?_
 refine pure_ (.bool false) ?_
 refine loadN_ zS93 1 8 #[.int .i64 (bif ((bt % 2) != 0) then (0 : Int) else (1 + (hol % 3))), .int .i64 (bif ((bits .and .u8 bt 2) != 0) then (65535 : Int) else 4), .int .i64 (bif ((bits .and .u8 bt 16) != 0) then (1 + ((1 + (hol % 3)) % 3)) else (-1)), .int .i64 0, .int .i64 0, .int .i64 0, .int .i64 0, .bool false] zb80 0 ?_
 refine loadN_ zS93 2 8 #[.int .i64 (bif ((bt % 2) != 0) then (0 : Int) else (1 + (hol % 3))), .int .i64 (bif ((bits .and .u8 bt 2) != 0) then (65535 : Int) else 4), .int .i64 (bif ((bits .and .u8 bt 16) != 0) then (1 + ((1 + (hol % 3)) % 3)) else (-1)), .int .i64 0, .int .i64 0, .int .i64 0, .int .i64 0, .bool false] zb4 0 ?_
 refine eqAgg_ false (((bif ((bt % 2) != 0) then (0 : Int) else (1 + (hol % 3))) == (bif ((bt % 2) != 0) then (0 : Int) else (1 + (hol % 3)))) && (((bif ((bits .and .u8 bt 2) != 0) then (65535 : Int) else 4) == (bif ((bits .and .u8 bt 2) != 0) then (65535 : Int) else 4)) && (((bif ((bits .and .u8 bt 16) != 0) then (1 + ((1 + (hol % 3)) % 3)) else (-1)) == (bif ((bits .and .u8 bt 16) != 0) then (1 + ((1 + (hol % 3)) % 3)) else (-1))) && true))) #[.int .i64 (bif ((bt % 2) != 0) then (0 : Int) else (1 + (hol % 3))), .int .i64 (bif ((bits .and .u8 bt 2) != 0) then (65535 : Int) else 4), .int .i64 (bif ((bits .and .u8 bt 16) != 0) then (1 + ((1 + (hol % 3)) % 3)) else (-1)), .int .i64 0, .int .i64 0, .int .i64 0, .int .i64 0, .bool false] #[.int .i64 (bif ((bt % 2) != 0) then (0 : Int) else (1 + (hol % 3))), .int .i64 (bif ((bits .and .u8 bt 2) != 0) then (65535 : Int) else 4), .int .i64 (bif ((bits .and .u8 bt 16) != 0) then (1 + ((1 + (hol % 3)) % 3)) else (-1)), .int .i64 0, .int .i64 0, .int .i64 0, .int .i64 0, .bool false] ?_
 refine pure_ (.bool (((bif ((bt % 2) != 0) then (0 : Int) else (1 + (hol % 3))) == (bif ((bt % 2) != 0) then (0 : Int) else (1 + (hol % 3)))) && (((bif ((bits .and .u8 bt 2) != 0) then (65535 : Int) else 4) == (bif ((bits .and .u8 bt 2) != 0) then (65535 : Int) else 4)) && (((bif ((bits .and .u8 bt 16) != 0) then (1 + ((1 + (hol % 3)) % 3)) else (-1)) == (bif ((bits .and .u8 bt 16) != 0) then (1 + ((1 + (hol % 3)) % 3)) else (-1))) && true)))) ?_
 refine pure_ (.bool (((bif ((bt % 2) != 0) then (0 : Int) else (1 + (hol % 3))) == (bif ((bt % 2) != 0) then (0 : Int) else (1 + (hol % 3)))) && (((bif ((bits .and .u8 bt 2) != 0) then (65535 : Int) else 4) == (bif ((bits .and .u8 bt 2) != 0) then (65535 : Int) else 4)) && (((bif ((bits .and .u8 bt 16) != 0) then (1 + ((1 + (hol % 3)) % 3)) else (-1)) == (bif ((bits .and .u8 bt 16) != 0) then (1 + ((1 + (hol % 3)) % 3)) else (-1))) && true)))) ?_
 refine move_ ?_
 refine slotK_ 83 (((bif ((bt % 2) != 0) then (0 : Int) else (1 + (hol % 3))) == (bif ((bt % 2) != 0) then (0 : Int) else (1 + (hol % 3)))) && (((bif ((bits .and .u8 bt 2) != 0) then (65535 : Int) else 4) == (bif ((bits .and .u8 bt 2) != 0) then (65535 : Int) else 4)) && (((bif ((bits .and .u8 bt 16) != 0) then (1 + ((1 + (hol % 3)) % 3)) else (-1)) == (bif ((bits .and .u8 bt 16) != 0) then (1 + ((1 + (hol % 3)) % 3)) else (-1))) && true))) true (andT (eqT (by omega)) (andT (eqT (by omega)) (andT (eqT (by omega)) (rfl)))) ?_
 refine move_ ?_
 refine pureE_ (.bool ((makeCode (1 + (hol % 3)) 4 (-1) (1 + (hol % 3)) (4 * (bt % 2)) true) == 2)) (.bool true) (congrArg Value.bool (eqT (offer_law2 _ _))) ?_
 refine pure_ (.bool true) ?_
 refine pure_ (.bool true) ?_
 refine pure_ (.pointer (some ⟨zb89, 2, none⟩)) ?_
 refine load1_ zS93 0 (.int .i64 (-1)) zb89 2 ?_
 refine pure_ (.bool true) ?_
 refine pure_ (.bool true) ?_
 refine pure_ (.bool true) ?_
 refine nil_ (then_n (wp_ret ?_))
 refine ret_ rfl (res_ [.tmp 4] [.bool true] (.bool true) ⟨res_tmp, trivial⟩) ?_
 exact ⟨rfl, zS93.ch⟩

end Go.Proofs.Ytabnjfboigmleaa
