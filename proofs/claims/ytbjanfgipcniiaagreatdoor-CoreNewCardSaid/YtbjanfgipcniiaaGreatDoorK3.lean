/- Packages pack, seal. -/
import Derived.Test.YtbjanfgipcniiaaGreatDoorK2
namespace Go.Proofs.YtbjanfgipcniiaaGreatDoor
open Go Go.RowKit Go.BigFrame Sx
set_option linter.unusedVariables false
set_option linter.unusedSimpArgs false

def putF (k : Nat) (x : Int) : Nat → Int := fun j => IntKind.u8.wrap (Int.fdiv x (2 ^ (8 * (k - 1 - j))))
theorem fdiv_zero (x : Int) (k : Nat) (h0 : 0 ≤ x) (h1 : x < 2 ^ k) : Int.fdiv x (2 ^ k) = 0 := by
  rw [Int.fdiv_eq_ediv_of_nonneg _ (Int.le_of_lt (Int.lt_of_le_of_lt h0 h1))]
  exact Int.ediv_eq_zero_of_lt h0 h1

set_option maxRecDepth 100000 in
set_option maxHeartbeats 4000000 in
theorem put_1 (x : Int) (hx : 0 ≤ x ∧ x < 256) (w : World) :
    Gives Tryz.prog 133 #[.int .u64 x, ι 1] w fun v w1 => ∃ b, v = .tuple #[σ b 0 1 1, ι 0] ∧ w.heap.size ≤ b ∧ w1.heap[b]? = some (.cells #[υ ((putF 1 x) 0)] 5 (0, 0)) ∧ Ch [] w w1 := by
 have S0 := St.nil [] w
 refine enter_ Tryz.func133 rfl (seq_ (reg_ (pure_ (.slice none 0 0) (pure_ (ι 0) (nil_ (then_n (seq_ (seq_ (reg_ (pure_ (ι 1) (pure_ (φ) (pure_ (φ) (pure_ (ι 1) (pure_ (φ) (pure_ (φ) (pure_ (φ) (pure_ (.int .u64 x) (pure_ (ι 1) (pure_ (ι 8) (pureE_ (.int .u64 (Int.fdiv x (2 ^ 8))) (.int .u64 0) (congrArg _ (fdiv_zero x 8 (by omega) (by omega))) (pure_ (φ) (pure_ (φ) (nil_ (then_n (cond_F (wp_skip (then_n (seq_ (reg_ (pure_ (ι 1) ?_))))))))))))))))))))))))))))))
 refine new_ S0 (fun b => σ b 0 1 1) (.cells #[υ 0] 5) ?_
 intro zb1 zw2 zS3
 refine assign_ (nil_ (then_n (seq_ (seq_ (reg_ (pure_ (ι 1) (pure_ (ι 0) (nil_ (then_n (wp_block (loop_ 24 (seq_ (reg_ (pure_ (τ) (nil_ (then_n (seq_ (cond_T (wp_skip (then_n (seq_ (wp_block (seq_ (reg_ (pure_ (ι 0) (pure_ (ι 0) (ns_ (move_ (pure_ (ι 0) (pure_ (.int .u64 x) (pure_ (ι 1) (pure_ (ι 0) (pure_ (ι 0) (pure_ (ι 0) (pure_ (ι 0) (pure_ (.int .u64 (Int.fdiv x (2 ^ 0))) (pure_ (υ (IntKind.u8.wrap (Int.fdiv x (2 ^ 0)))) (pure_ (π zb1 0) ?_))))))))))))))))))))))))))))))))))))))
 refine store_ zS3 0 (υ (IntKind.u8.wrap (Int.fdiv x (2 ^ 0)))) zb1 0 ?_
 intro zw4 zS5
 refine nil_ (blk_n (then_n (reg_ (pure_ (ι 1) (pure_ (ι 1) (nil_ (again_ (seq_ (reg_ (pure_ (φ) (nil_ (then_n (seq_ (cond_F (wp_exit (then_e (then_e (blk_e (then_n (seq_ (reg_ (move_ (assign_ (pure_ (ι 0) (nil_ (then_n (wp_ret (ret_ rfl (res_ [.tmp 4, .tmp 5] [σ zb1 0 1 1, ι 0] (.tuple #[σ zb1 0 1 1, ι 0]) ⟨res_tmp, res_tmp, trivial⟩) ?_))))))))))))))))))))))))))))
 have zc : St [] w [(β zb1 #[υ ((putF 1 x) 0)] 5)] _ := zS5.conv (by kernel_rfl)
 exact ⟨zb1, rfl, (zc.own 0 _ rfl rfl).resolve_left (by simp), zc.at_ 0 _ rfl, zc.ch⟩

set_option maxRecDepth 100000 in
set_option maxHeartbeats 4000000 in
theorem put_2 (x : Int) (hx : 0 ≤ x ∧ x < 65536) (w : World) :
    Gives Tryz.prog 133 #[.int .u64 x, ι 2] w fun v w1 => ∃ b, v = .tuple #[σ b 0 2 2, ι 0] ∧ w.heap.size ≤ b ∧ w1.heap[b]? = some (.cells #[υ ((putF 2 x) 0), υ ((putF 2 x) 1)] 5 (0, 0)) ∧ Ch [] w w1 := by
 have S0 := St.nil [] w
 refine enter_ Tryz.func133 rfl (seq_ (reg_ (pure_ (.slice none 0 0) (pure_ (ι 0) (nil_ (then_n (seq_ (seq_ (reg_ (pure_ (ι 2) (pure_ (φ) (pure_ (φ) (pure_ (ι 2) (pure_ (φ) (pure_ (φ) (pure_ (φ) (pure_ (.int .u64 x) (pure_ (ι 2) (pure_ (ι 16) (pureE_ (.int .u64 (Int.fdiv x (2 ^ 16))) (.int .u64 0) (congrArg _ (fdiv_zero x 16 (by omega) (by omega))) (pure_ (φ) (pure_ (φ) (nil_ (then_n (cond_F (wp_skip (then_n (seq_ (reg_ (pure_ (ι 2) ?_))))))))))))))))))))))))))))))
 refine new_ S0 (fun b => σ b 0 2 2) (.cells #[υ 0, υ 0] 5) ?_
 intro zb1 zw2 zS3
 refine assign_ (nil_ (then_n (seq_ (seq_ (reg_ (pure_ (ι 2) (pure_ (ι 0) (nil_ (then_n (wp_block (loop_ 24 (seq_ (reg_ (pure_ (τ) (nil_ (then_n (seq_ (cond_T (wp_skip (then_n (seq_ (wp_block (seq_ (reg_ (pure_ (ι 0) (pure_ (ι 0) (ns_ (move_ (pure_ (ι 0) (pure_ (.int .u64 x) (pure_ (ι 2) (pure_ (ι 1) (pure_ (ι 0) (pure_ (ι 1) (pure_ (ι 8) (pure_ (.int .u64 (Int.fdiv x (2 ^ 8))) (pure_ (υ (IntKind.u8.wrap (Int.fdiv x (2 ^ 8)))) (pure_ (π zb1 0) ?_))))))))))))))))))))))))))))))))))))))
 refine store_ zS3 0 (υ (IntKind.u8.wrap (Int.fdiv x (2 ^ 8)))) zb1 0 ?_
 intro zw4 zS5
 refine nil_ (blk_n (then_n (reg_ (pure_ (ι 1) (pure_ (ι 1) (nil_ (again_ (seq_ (reg_ (pure_ (τ) (nil_ (then_n (seq_ (cond_T (wp_skip (then_n (seq_ (wp_block (seq_ (reg_ (pure_ (ι 1) (pure_ (ι 1) (ns_ (move_ (pure_ (ι 1) (pure_ (.int .u64 x) (pure_ (ι 2) (pure_ (ι 1) (pure_ (ι 1) (pure_ (ι 0) (pure_ (ι 0) (pure_ (.int .u64 (Int.fdiv x (2 ^ 0))) (pure_ (υ (IntKind.u8.wrap (Int.fdiv x (2 ^ 0)))) (pure_ (π zb1 1) ?_))))))))))))))))))))))))))))))))))
 refine store_ zS5 0 (υ (IntKind.u8.wrap (Int.fdiv x (2 ^ 0)))) zb1 1 ?_
 intro zw6 zS7
 refine nil_ (blk_n (then_n (reg_ (pure_ (ι 2) (pure_ (ι 2) (nil_ (again_ (seq_ (reg_ (pure_ (φ) (nil_ (then_n (seq_ (cond_F (wp_exit (then_e (then_e (blk_e (then_n (seq_ (reg_ (move_ (assign_ (pure_ (ι 0) (nil_ (then_n (wp_ret (ret_ rfl (res_ [.tmp 4, .tmp 5] [σ zb1 0 2 2, ι 0] (.tuple #[σ zb1 0 2 2, ι 0]) ⟨res_tmp, res_tmp, trivial⟩) ?_))))))))))))))))))))))))))))
 have zc : St [] w [(β zb1 #[υ ((putF 2 x) 0), υ ((putF 2 x) 1)] 5)] _ := zS7.conv (by kernel_rfl)
 exact ⟨zb1, rfl, (zc.own 0 _ rfl rfl).resolve_left (by simp), zc.at_ 0 _ rfl, zc.ch⟩

set_option maxRecDepth 100000 in
set_option maxHeartbeats 4000000 in
theorem put_4 (x : Int) (hx : 0 ≤ x ∧ x < 4294967296) (w : World) :
    Gives Tryz.prog 133 #[.int .u64 x, ι 4] w fun v w1 => ∃ b, v = .tuple #[σ b 0 4 4, ι 0] ∧ w.heap.size ≤ b ∧ w1.heap[b]? = some (.cells #[υ ((putF 4 x) 0), υ ((putF 4 x) 1), υ ((putF 4 x) 2), υ ((putF 4 x) 3)] 5 (0, 0)) ∧ Ch [] w w1 := by
 have S0 := St.nil [] w
 refine enter_ Tryz.func133 rfl (seq_ (reg_ (pure_ (.slice none 0 0) (pure_ (ι 0) (nil_ (then_n (seq_ (seq_ (reg_ (pure_ (ι 4) (pure_ (φ) (pure_ (φ) (pure_ (ι 4) (pure_ (φ) (pure_ (φ) (pure_ (φ) (pure_ (.int .u64 x) (pure_ (ι 4) (pure_ (ι 32) (pureE_ (.int .u64 (Int.fdiv x (2 ^ 32))) (.int .u64 0) (congrArg _ (fdiv_zero x 32 (by omega) (by omega))) (pure_ (φ) (pure_ (φ) (nil_ (then_n (cond_F (wp_skip (then_n (seq_ (reg_ (pure_ (ι 4) ?_))))))))))))))))))))))))))))))
 refine new_ S0 (fun b => σ b 0 4 4) (.cells #[υ 0, υ 0, υ 0, υ 0] 5) ?_
 intro zb1 zw2 zS3
 refine assign_ (nil_ (then_n (seq_ (seq_ (reg_ (pure_ (ι 4) (pure_ (ι 0) (nil_ (then_n (wp_block (loop_ 24 (seq_ (reg_ (pure_ (τ) (nil_ (then_n (seq_ (cond_T (wp_skip (then_n (seq_ (wp_block (seq_ (reg_ (pure_ (ι 0) (pure_ (ι 0) (ns_ (move_ (pure_ (ι 0) (pure_ (.int .u64 x) (pure_ (ι 4) (pure_ (ι 3) (pure_ (ι 0) (pure_ (ι 3) (pure_ (ι 24) (pure_ (.int .u64 (Int.fdiv x (2 ^ 24))) (pure_ (υ (IntKind.u8.wrap (Int.fdiv x (2 ^ 24)))) (pure_ (π zb1 0) ?_))))))))))))))))))))))))))))))))))))))
 refine store_ zS3 0 (υ (IntKind.u8.wrap (Int.fdiv x (2 ^ 24)))) zb1 0 ?_
 intro zw4 zS5
 refine nil_ (blk_n (then_n (reg_ (pure_ (ι 1) (pure_ (ι 1) (nil_ (again_ (seq_ (reg_ (pure_ (τ) (nil_ (then_n (seq_ (cond_T (wp_skip (then_n (seq_ (wp_block (seq_ (reg_ (pure_ (ι 1) (pure_ (ι 1) (ns_ (move_ (pure_ (ι 1) (pure_ (.int .u64 x) (pure_ (ι 4) (pure_ (ι 3) (pure_ (ι 1) (pure_ (ι 2) (pure_ (ι 16) (pure_ (.int .u64 (Int.fdiv x (2 ^ 16))) (pure_ (υ (IntKind.u8.wrap (Int.fdiv x (2 ^ 16)))) (pure_ (π zb1 1) ?_))))))))))))))))))))))))))))))))))
 refine store_ zS5 0 (υ (IntKind.u8.wrap (Int.fdiv x (2 ^ 16)))) zb1 1 ?_
 intro zw6 zS7
 refine nil_ (blk_n (then_n (reg_ (pure_ (ι 2) (pure_ (ι 2) (nil_ (again_ (seq_ (reg_ (pure_ (τ) (nil_ (then_n (seq_ (cond_T (wp_skip (then_n (seq_ (wp_block (seq_ (reg_ (pure_ (ι 2) (pure_ (ι 2) (ns_ (move_ (pure_ (ι 2) (pure_ (.int .u64 x) (pure_ (ι 4) (pure_ (ι 3) (pure_ (ι 2) (pure_ (ι 1) (pure_ (ι 8) (pure_ (.int .u64 (Int.fdiv x (2 ^ 8))) (pure_ (υ (IntKind.u8.wrap (Int.fdiv x (2 ^ 8)))) (pure_ (π zb1 2) ?_))))))))))))))))))))))))))))))))))
 refine store_ zS7 0 (υ (IntKind.u8.wrap (Int.fdiv x (2 ^ 8)))) zb1 2 ?_
 intro zw8 zS9
 refine nil_ (blk_n (then_n (reg_ (pure_ (ι 3) (pure_ (ι 3) (nil_ (again_ (seq_ (reg_ (pure_ (τ) (nil_ (then_n (seq_ (cond_T (wp_skip (then_n (seq_ (wp_block (seq_ (reg_ (pure_ (ι 3) (pure_ (ι 3) (ns_ (move_ (pure_ (ι 3) (pure_ (.int .u64 x) (pure_ (ι 4) (pure_ (ι 3) (pure_ (ι 3) (pure_ (ι 0) (pure_ (ι 0) (pure_ (.int .u64 (Int.fdiv x (2 ^ 0))) (pure_ (υ (IntKind.u8.wrap (Int.fdiv x (2 ^ 0)))) (pure_ (π zb1 3) ?_))))))))))))))))))))))))))))))))))
 refine store_ zS9 0 (υ (IntKind.u8.wrap (Int.fdiv x (2 ^ 0)))) zb1 3 ?_
 intro zw10 zS11
 refine nil_ (blk_n (then_n (reg_ (pure_ (ι 4) (pure_ (ι 4) (nil_ (again_ (seq_ (reg_ (pure_ (φ) (nil_ (then_n (seq_ (cond_F (wp_exit (then_e (then_e (blk_e (then_n (seq_ (reg_ (move_ (assign_ (pure_ (ι 0) (nil_ (then_n (wp_ret (ret_ rfl (res_ [.tmp 4, .tmp 5] [σ zb1 0 4 4, ι 0] (.tuple #[σ zb1 0 4 4, ι 0]) ⟨res_tmp, res_tmp, trivial⟩) ?_))))))))))))))))))))))))))))
 have zc : St [] w [(β zb1 #[υ ((putF 4 x) 0), υ ((putF 4 x) 1), υ ((putF 4 x) 2), υ ((putF 4 x) 3)] 5)] _ := zS11.conv (by kernel_rfl)
 exact ⟨zb1, rfl, (zc.own 0 _ rfl rfl).resolve_left (by simp), zc.at_ 0 _ rfl, zc.ch⟩

set_option maxRecDepth 100000 in
set_option maxHeartbeats 4000000 in
theorem as_1 (n : Int) (hn : 0 ≤ n ∧ n < 4294967296) (w : World) :
    Gives Tryz.prog 222 #[ι n, ι 1] w fun v w1 => ∃ b, v = σ b 0 1 1 ∧ w.heap.size ≤ b ∧ w1.heap[b]? = some (.cells #[υ ((putF 1 (n % 256)) 0)] 5 (0, 0)) ∧ Ch [] w w1 := by
 have S0 := St.nil [] w
 refine enter_ Tryz.func222 rfl (seq_ (reg_ (pure_ (.slice none 0 0) (nsr_ (pure_ (ι n) (sum_ .u64 n (IntWalk.u64_in _ (by omega)) (pure_ (ι 1) (pure_ (ι 8) (pure_ (.int .u64 256) (pure_ (.int .u64 255) (pureE_ (.int .u64 (bits .and .u64 n 255)) (.int .u64 (n % 256)) (congrArg _ (and_mask .u64 n 255 256 8 (by decide) (by decide) (by decide))) (pure_ (ι 1) (call_ 133 #[.int .u64 (n % 256), ι 1] ?_)))))))))))))
 refine (put_1 (n % 256) (by omega) _).mono ?_; rintro _ zw2 ⟨zb5, rfl, zh6, zh7, zh3⟩
 have zS4 := S0.new zh3 zh6 zh7
 refine move_ (pure_ (σ zb5 0 1 1) (pure_ (ι 0) (assign_ (pure_ (ι 0) (nsr_ (move_ (assign_ (nil_ (then_n (wp_ret (ret_ rfl (res_ [.tmp 4] [σ zb5 0 1 1] (σ zb5 0 1 1) ⟨res_tmp, trivial⟩) ?_)))))))))))
 have zc : St [] w [(β zb5 #[υ ((putF 1 (n % 256)) 0)] 5)] _ := zS4.conv (by kernel_rfl)
 exact ⟨zb5, rfl, (zc.own 0 _ rfl rfl).resolve_left (by simp), zc.at_ 0 _ rfl, zc.ch⟩

set_option maxRecDepth 100000 in
set_option maxHeartbeats 4000000 in
theorem as_4 (n : Int) (hn : 0 ≤ n ∧ n < 4294967296) (w : World) :
    Gives Tryz.prog 222 #[ι n, ι 4] w fun v w1 => ∃ b, v = σ b 0 4 4 ∧ w.heap.size ≤ b ∧ w1.heap[b]? = some (.cells #[υ ((putF 4 (n % 4294967296)) 0), υ ((putF 4 (n % 4294967296)) 1), υ ((putF 4 (n % 4294967296)) 2), υ ((putF 4 (n % 4294967296)) 3)] 5 (0, 0)) ∧ Ch [] w w1 := by
 have S0 := St.nil [] w
 refine enter_ Tryz.func222 rfl (seq_ (reg_ (pure_ (.slice none 0 0) (nsr_ (pure_ (ι n) (sum_ .u64 n (IntWalk.u64_in _ (by omega)) (pure_ (ι 4) (pure_ (ι 32) (pure_ (.int .u64 4294967296) (pure_ (.int .u64 4294967295) (pureE_ (.int .u64 (bits .and .u64 n 4294967295)) (.int .u64 (n % 4294967296)) (congrArg _ (and_mask .u64 n 4294967295 4294967296 32 (by decide) (by decide) (by decide))) (pure_ (ι 4) (call_ 133 #[.int .u64 (n % 4294967296), ι 4] ?_)))))))))))))
 refine (put_4 (n % 4294967296) (by omega) _).mono ?_; rintro _ zw2 ⟨zb5, rfl, zh6, zh7, zh3⟩
 have zS4 := S0.new zh3 zh6 zh7
 refine move_ (pure_ (σ zb5 0 4 4) (pure_ (ι 0) (assign_ (pure_ (ι 0) (nsr_ (move_ (assign_ (nil_ (then_n (wp_ret (ret_ rfl (res_ [.tmp 4] [σ zb5 0 4 4] (σ zb5 0 4 4) ⟨res_tmp, trivial⟩) ?_)))))))))))
 have zc : St [] w [(β zb5 #[υ ((putF 4 (n % 4294967296)) 0), υ ((putF 4 (n % 4294967296)) 1), υ ((putF 4 (n % 4294967296)) 2), υ ((putF 4 (n % 4294967296)) 3)] 5)] _ := zS4.conv (by kernel_rfl)
 exact ⟨zb5, rfl, (zc.own 0 _ rfl rfl).resolve_left (by simp), zc.at_ 0 _ rfl, zc.ch⟩

set_option maxRecDepth 100000 in
set_option maxHeartbeats 4000000 in
theorem sjoin_3 (pb : Nat) (b0 o0 n0 c0 : Nat) (f0 : Nat → Int) (b1 o1 n1 c1 : Nat) (f1 : Nat → Int) (b2 o2 n2 c2 : Nat) (f2 : Nat → Int) (h0 : 0 < n0) (hn : n0 + n1 + n2 ≤ 1000000) (w : World) (hp : w.heap[pb]? = some (.cells #[σ b0 o0 n0 c0, σ b1 o1 n1 c1, σ b2 o2 n2 c2] 23 (0, 0))) (hB0 : At8 w b0 o0 n0 f0) (hB1 : At8 w b1 o1 n1 f1) (hB2 : At8 w b2 o2 n2 f2) :
    Gives Tryz.prog 192 #[σ pb 0 3 3] w fun v w1 => ∃ b c1, v = σ b 0 (n0 + n1 + n2) c1 ∧ n0 + n1 + n2 ≤ c1 ∧ w.heap.size ≤ b ∧ w1.heap[b]? = some (.cells (bvZ (n0 + n1 + n2) (cat3 n0 n1 f0 f1 f2) c1) 5 (0, 0)) ∧ Ch [] w w1 := by
 have S0 := St.given (w := w) [(pb, .cells #[σ b0 o0 n0 c0, σ b1 o1 n1 c1, σ b2 o2 n2 c2] 23 (0, 0))] (all_cons hp (all_nil))
 refine enter_ Tryz.func192 rfl (seq_ (reg_ (pure_ (.slice none 0 0) (nsr_ (pure_ (.slice none 0 0) (nil_ (then_n (seq_ (seq_ (reg_ (move_ (pure_ (ι 3) (pure_ (ι 0) (nil_ (then_n (wp_block (loop_ 24 (seq_ (reg_ (pure_ (τ) (nil_ (then_n (seq_ (cond_T (wp_skip (then_n (seq_ (wp_block (seq_ (reg_ (pure_ (π pb 0) (load1_ S0 0 (σ b0 o0 n0 c0) pb 0 (assign_ (ns_ (pure_ (.slice none 0 0) (move_ ?_))))))))))))))))))))))))))))))))))))
 have zS7 : St [] w ([⟨pb, false, .cells #[σ b0 o0 n0 c0, σ b1 o1 n1 c1, σ b2 o2 n2 c2] 23 (0, 0)⟩] ++ ([] : List Blk)) w := S0.re (R := ([] : List Blk)) [[⟨pb, false, .cells #[σ b0 o0 n0 c0, σ b1 o1 n1 c1, σ b2 o2 n2 c2] 23 (0, 0)⟩]] [0]
 have zS8 : St [] w ([⟨pb, false, .cells #[σ b0 o0 n0 c0, σ b1 o1 n1 c1, σ b2 o2 n2 c2] 23 (0, 0)⟩] ++ ([] ++ ([] : List Blk))) w := zS7.conv (by kernel_rfl)
 refine append8_ (n := 0) (c := 0) (f := (fun _ => 0)) (g := f0) (xv := σ b0 o0 n0 c0) zS8 (row8_nil 5) (src8 (e' := 5) (St.old8 S0 hB0 (by simp))) (by omega) ?_
 intro zx2 zc3 zq1 zw5 zh4 zS6
 have zo13 := row8_at zh4 (by omega)
 obtain ⟨zb9, zh12, zh10, zh11⟩ := zo13
 subst zh10; subst zh11
 refine assign_ (nil_ (blk_n (then_n (reg_ (pure_ (ι 1) (pure_ (ι 1) (nil_ (again_ (seq_ (reg_ (pure_ (τ) (nil_ (then_n (seq_ (cond_T (wp_skip (then_n (seq_ (wp_block (seq_ (reg_ (pure_ (π pb 1) (load1_ zS6 0 (σ b1 o1 n1 c1) pb 1 (assign_ (ns_ (move_ (move_ ?_)))))))))))))))))))))))))))
 have zS20 : St [] w ([⟨pb, false, .cells #[σ b0 o0 n0 c0, σ b1 o1 n1 c1, σ b2 o2 n2 c2] 23 (0, 0)⟩] ++ ([(β zb9 (bvZ (0 + n0) (catF 0 (fun _ => 0) f0) zc3) 5)] ++ ([] : List Blk))) zw5 := zS6.re (R := ([] : List Blk)) [[⟨pb, false, .cells #[σ b0 o0 n0 c0, σ b1 o1 n1 c1, σ b2 o2 n2 c2] 23 (0, 0)⟩], [(β zb9 (bvZ (0 + n0) (catF 0 (fun _ => 0) f0) zc3) 5)]] [0, 1]
 refine append8_ (n := (0 + n0)) (c := zc3) (f := (catF 0 (fun _ => 0) f0)) (g := f1) (xv := σ b1 o1 n1 c1) zS20 ⟨zh12, .inr ⟨_, rfl, rfl⟩⟩ (src8 (e' := 5) (St.old8 zS6 hB1 (by simp))) (by omega) ?_
 intro zx15 zc16 zq14 zw18 zh17 zS19
 have zo25 := row8_at zh17 (by omega)
 obtain ⟨zb21, zh24, zh22, zh23⟩ := zo25
 subst zh22; subst zh23
 refine assign_ (nil_ (blk_n (then_n (reg_ (pure_ (ι 2) (pure_ (ι 2) (nil_ (again_ (seq_ (reg_ (pure_ (τ) (nil_ (then_n (seq_ (cond_T (wp_skip (then_n (seq_ (wp_block (seq_ (reg_ (pure_ (π pb 2) (load1_ zS19 0 (σ b2 o2 n2 c2) pb 2 (assign_ (ns_ (move_ (move_ ?_)))))))))))))))))))))))))))
 have zS32 : St [] w ([⟨pb, false, .cells #[σ b0 o0 n0 c0, σ b1 o1 n1 c1, σ b2 o2 n2 c2] 23 (0, 0)⟩] ++ ([(β zb21 (bvZ ((0 + n0) + n1) (catF (0 + n0) (catF 0 (fun _ => 0) f0) f1) zc16) 5)] ++ ([] : List Blk))) zw18 := zS19.re (R := ([] : List Blk)) [[⟨pb, false, .cells #[σ b0 o0 n0 c0, σ b1 o1 n1 c1, σ b2 o2 n2 c2] 23 (0, 0)⟩], [(β zb21 (bvZ ((0 + n0) + n1) (catF (0 + n0) (catF 0 (fun _ => 0) f0) f1) zc16) 5)]] [0, 1]
 refine append8_ (n := ((0 + n0) + n1)) (c := zc16) (f := (catF (0 + n0) (catF 0 (fun _ => 0) f0) f1)) (g := f2) (xv := σ b2 o2 n2 c2) zS32 ⟨zh24, .inr ⟨_, rfl, rfl⟩⟩ (src8 (e' := 5) (St.old8 zS19 hB2 (by simp))) (by omega) ?_
 intro zx27 zc28 zq26 zw30 zh29 zS31
 have zo37 := row8_at zh29 (by omega)
 obtain ⟨zb33, zh36, zh34, zh35⟩ := zo37
 subst zh34; subst zh35
 refine assign_ (nil_ (blk_n (then_n (reg_ (pure_ (ι 3) (pure_ (ι 3) (nil_ (again_ (seq_ (reg_ (pure_ (φ) (nil_ (then_n (seq_ (cond_F (wp_exit (then_e (then_e (blk_e (then_n (seq_ (reg_ (move_ (assign_ (nil_ (then_n (wp_ret (ret_ rfl (res_ [.tmp 2] [σ zb33 0 (((0 + n0) + n1) + n2) zc28] (σ zb33 0 (((0 + n0) + n1) + n2) zc28) ⟨res_tmp, trivial⟩) ?_))))))))))))))))))))))))))))
 have ze : bvZ (((0 + n0) + n1) + n2) (catF ((0 + n0) + n1) (catF (0 + n0) (catF 0 (fun _ => 0) f0) f1) f2) zc28 = bvZ (n0 + n1 + n2) (cat3 n0 n1 f0 f1 f2) zc28 := bvZ_congr (by omega) fun i hi => by simp only [cat0, cat3, cat4, Nat.zero_add]
 exact ⟨zb33, zc28, by rw [show (((0 + n0) + n1) + n2) = n0 + n1 + n2 by omega], by have := zh36; omega, (zS31.own 1 _ rfl rfl).resolve_left (by simp), by rw [← ze]; exact zS31.at_ 1 _ rfl, zS31.ch⟩

def nonceF (kn : Nat) (kf : Nat → Int) (s n : Int) : Nat → Int := macF kn kf (1 + 1 + 4) (cat3 1 1 (fun _ => 78) (putF 1 (s % 256)) (putF 4 (n % 4294967296)))
set_option maxRecDepth 100000 in
set_option maxHeartbeats 4000000 in
theorem nonce_ (ka : Option Addr) (kn kc : Nat) (kf : Nat → Int) (s n : Int) (hkn : 1 ≤ kn ∧ kn ≤ 64) (hs : 0 ≤ s ∧ s < 4294967296) (hn : 0 ≤ n ∧ n < 4294967296) {tG : TypeId} (w : World) (hG : w.heap[(0)]? = some (.cells (rowF .u32 64 rootF) tG (0, 0))) (hk : KeyAt w ka kn kc kf) :
    Gives Tryz.prog 184 #[.slice ka kn kc, ι s, ι n] w fun v w1 => v = .agg (rowF .u8 8 (nonceF kn kf s n)) ∧ Ch [] w w1 := by
 have S0 := St.given (w := w) [((0), .cells (rowF .u32 64 rootF) tG (0, 0))] (all_cons hG (all_nil))
 refine enter_ Tryz.func184 rfl (seq_ (reg_ ?_))
 refine new_ S0 (fun b => π b 0) (.cells (rowF .u8 8 (fun _ => 0)) 78) ?_
 intro zb1 zw2 zS3
 refine nsr_ (pure_ (.slice ka kn kc) ?_)
 refine new_ zS3 (fun b => σ b 0 1 1) (.cells #[υ 78] 5) ?_
 intro zb4 zw5 zS6
 refine pure_ (ι s) (call_ 222 #[ι s, ι 1] ?_)
 refine (as_1 s (by omega) _).mono ?_; rintro _ zw7 ⟨zb10, rfl, zh11, zh12, zh8⟩
 have zS9 := zS6.new zh8 zh11 zh12
 refine pure_ (ι n) (call_ 222 #[ι n, ι 4] ?_)
 refine (as_4 n (by omega) _).mono ?_; rintro _ zw13 ⟨zb16, rfl, zh17, zh18, zh14⟩
 have zS15 := zS9.new zh14 zh17 zh18
 refine new_ zS15 (fun b => σ b 0 3 3) (.cells #[σ zb4 0 1 1, σ zb10 0 1 1, σ zb16 0 4 4] 23) ?_
 intro zb19 zw20 zS21
 refine call_ 192 #[σ zb19 0 3 3] ?_
 refine (sjoin_3 zb19 zb4 0 1 1 (fun _ => 78) zb10 0 1 1 (putF 1 (s % 256)) zb16 0 4 4 (putF 4 (n % 4294967296)) (by omega) (by omega) _ (zS21.at_ 0 _ rfl) (St.row8 (N := 1) (f := (fun _ => 78)) (wr := true) (t := 5) (fr := (0, 0)) zS21 3) (St.row8 (N := 1) (f := (putF 1 (s % 256))) (wr := true) (t := 5) (fr := (0, 0)) zS21 2) (St.row8 (N := 4) (f := (putF 4 (n % 4294967296))) (wr := true) (t := 5) (fr := (0, 0)) zS21 1)).mono ?_; rintro _ zw22 ⟨zb25, zc26, rfl, zh27, zh28, zh29, zh23⟩
 have zS24 := zS21.new zh23 zh28 zh29
 refine call_ 221 #[.slice ka kn kc, σ zb25 0 (1 + 1 + 4) zc26] ?_
 refine (tag_ ka kn kc kf zb25 0 (1 + 1 + 4) zc26 (cat3 1 1 (fun _ => 78) (putF 1 (s % 256)) (putF 4 (n % 4294967296))) (by omega) (by omega) _ (zS24.at_ 6 _ rfl) (KeyAt.quiet hk zS24.ch) (St.all8 (c := zc26) (wr := true) (t := 5) (fr := (0, 0)) zS24 0)).mono ?_; rintro _ zw30 ⟨rfl, zh31⟩
 have zS32 := zS24.quiet zh31
 refine store_ zS32 5 (.agg (rowF .u8 8 (macF kn kf (1 + 1 + 4) (cat3 1 1 (fun _ => 78) (putF 1 (s % 256)) (putF 4 (n % 4294967296)))))) zb1 0 ?_
 intro zw33 zS34
 refine nil_ (then_n (wp_ret (ret_ rfl (res_ [.cell 6 78] [.agg (rowF .u8 8 (macF kn kf (1 + 1 + 4) (cat3 1 1 (fun _ => 78) (putF 1 (s % 256)) (putF 4 (n % 4294967296)))))] (.agg (rowF .u8 8 (macF kn kf (1 + 1 + 4) (cat3 1 1 (fun _ => 78) (putF 1 (s % 256)) (putF 4 (n % 4294967296)))))) ⟨res_cellN zS34 5 8 zb1 0, trivial⟩) ?_)))
 exact ⟨by (unfold nonceF) <;> kernel_rfl, zS34.ch⟩

end Go.Proofs.YtbjanfgipcniiaaGreatDoor
