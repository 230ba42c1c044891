/- package offer: what Make tells -/
import Derived.Test.YtabnjfboigmleaaRows
import Derived.Test.YtabnjfboigmleaaSE
import Derived.Test.YtabnjfboigmleaaSD
import Derived.Test.YtabnjfboigmleaaXBase
namespace Go.Proofs.Ytabnjfboigmleaa
open Go Go.RowKit Go.BigFrame Sx
set_option linter.unusedVariables false

def makeCode (h e o fr to_ : Int) (there : Bool) : Int :=
  bif (fr != h) then 20 else bif decide (65535 ≤ e) then 24 else bif (to_ == fr) then 25 else bif (decide (to_ < 1) || (decide (3 < to_) || !there)) then 2 else bif decide (0 ≤ o) then 28 else 0
def max0 (n : Int) : Int := if n < 0 then 0 else n

set_option maxRecDepth 100000 in
set_option maxHeartbeats 4000000 in
theorem make_no (q : Nat → Int) (ka : Nat → Option Addr) (kn kc : Nat → Nat) (h e o a1 a2 b1 b2 : Int) (bd : Bool) (fr to_ : Int) (there : Bool) (w : World) (hc : ¬ makeCode h e o fr to_ there = 0) :
    Gives Try.prog 26 #[.agg (polC q ka kn kc), .agg #[.int .i64 h, .int .i64 e, .int .i64 o, .int .i64 a1, .int .i64 a2, .int .i64 b1, .int .i64 b2, .bool bd], .int .i64 fr, .int .i64 to_, .bool there] w fun v w1 => v = .tuple #[.agg #[.int .i64 h, .int .i64 e, .int .i64 o, .int .i64 a1, .int .i64 a2, .int .i64 b1, .int .i64 b2, .bool bd], .int .i64 (makeCode h e o fr to_ there)] ∧ Ch [] w w1 := by
 have S0 := St.nil [] w
 refine enter_ Try.func26 rfl ?_
 refine seq_ (reg_ ?_)
 refine new_ S0 (fun b => .pointer (some ⟨b, 0, none⟩)) (.cells (polC q ka kn kc) 37) ?_
 intro zb1 zw2 zS3
 refine new_ zS3 (fun b => .pointer (some ⟨b, 0, none⟩)) (.cells #[.int .i64 h, .int .i64 e, .int .i64 o, .int .i64 a1, .int .i64 a2, .int .i64 b1, .int .i64 b2, .bool bd] 47) ?_
 intro zb4 zw5 zS6
 refine new_ zS6 (fun b => .pointer (some ⟨b, 0, none⟩)) (.cells #[.int .i64 fr] 3) ?_
 intro zb7 zw8 zS9
 refine new_ zS9 (fun b => .pointer (some ⟨b, 0, none⟩)) (.cells #[.int .i64 to_] 3) ?_
 intro zb10 zw11 zS12
 refine new_ zS12 (fun b => .pointer (some ⟨b, 0, none⟩)) (.cells #[.bool there] 4) ?_
 intro zb13 zw14 zS15
 refine new_ zS15 (fun b => .pointer (some ⟨b, 0, none⟩)) (.cells #[.int .i64 0, .int .i64 0, .int .i64 0, .int .i64 0, .int .i64 0, .int .i64 0, .int .i64 0, .bool false] 47) ?_
 intro zb16 zw17 zS18
 refine pure_ (.int .i64 0) ?_
 refine nil_ (then_n (seq_ (reg_ ?_)))
 refine pure_ (.func (.func 42) #[] #[.pointer (some ⟨zb7, 0, none⟩), .pointer (some ⟨zb4, 0, none⟩)]) ?_
 refine pure_ (.agg #[.int .i64 20, .func (.func 42) #[] #[.pointer (some ⟨zb7, 0, none⟩), .pointer (some ⟨zb4, 0, none⟩)]]) ?_
 refine pure_ (.func (.func 43) #[] #[.pointer (some ⟨zb4, 0, none⟩)]) ?_
 refine pure_ (.agg #[.int .i64 24, .func (.func 43) #[] #[.pointer (some ⟨zb4, 0, none⟩)]]) ?_
 refine pure_ (.func (.func 44) #[] #[.pointer (some ⟨zb10, 0, none⟩), .pointer (some ⟨zb7, 0, none⟩)]) ?_
 refine pure_ (.agg #[.int .i64 25, .func (.func 44) #[] #[.pointer (some ⟨zb10, 0, none⟩), .pointer (some ⟨zb7, 0, none⟩)]]) ?_
 refine pure_ (.func (.func 45) #[] #[.pointer (some ⟨zb10, 0, none⟩), .pointer (some ⟨zb13, 0, none⟩)]) ?_
 refine pure_ (.agg #[.int .i64 2, .func (.func 45) #[] #[.pointer (some ⟨zb10, 0, none⟩), .pointer (some ⟨zb13, 0, none⟩)]]) ?_
 refine pure_ (.func (.func 46) #[] #[.pointer (some ⟨zb4, 0, none⟩)]) ?_
 refine pure_ (.agg #[.int .i64 28, .func (.func 46) #[] #[.pointer (some ⟨zb4, 0, none⟩)]]) ?_
 refine new_ zS18 (fun b => .slice (some ⟨b, 0, none⟩) 5 5) (.cells #[.int .i64 20, .func (.func 42) #[] #[.pointer (some ⟨zb7, 0, none⟩), .pointer (some ⟨zb4, 0, none⟩)], .int .i64 24, .func (.func 43) #[] #[.pointer (some ⟨zb4, 0, none⟩)], .int .i64 25, .func (.func 44) #[] #[.pointer (some ⟨zb10, 0, none⟩), .pointer (some ⟨zb7, 0, none⟩)], .int .i64 2, .func (.func 45) #[] #[.pointer (some ⟨zb10, 0, none⟩), .pointer (some ⟨zb13, 0, none⟩)], .int .i64 28, .func (.func 46) #[] #[.pointer (some ⟨zb4, 0, none⟩)]] 80) ?_
 intro zb19 zw20 zS21
 refine call_ 41 #[.slice (some ⟨zb19, 0, none⟩) 5 5] ?_
 refine enter_ Try.func41 rfl ?_
 refine seq_ (reg_ ?_)
 refine pure_ (.int .i64 0) ?_
 refine nil_ (then_n (seq_ (seq_ (reg_ ?_))))
 refine move_ ?_
 refine pure_ (.int .i64 5) ?_
 refine pure_ (.int .i64 0) ?_
 refine nil_ (then_n (wp_block (loop_ 24 (seq_ (reg_ ?_)))))
 refine pure_ (.bool true) ?_
 refine nil_ (then_n (seq_ (cond_T ?_)))
 refine wp_skip (then_n (seq_ (wp_block (seq_ (reg_ ?_)))))
 refine pure_ (.pointer (some ⟨zb19, 0, none⟩)) ?_
 refine loadN_ zS21 0 2 #[.int .i64 20, .func (.func 42) #[] #[.pointer (some ⟨zb7, 0, none⟩), .pointer (some ⟨zb4, 0, none⟩)]] zb19 0 ?_
 refine new_ zS21 (fun b => .pointer (some ⟨b, 0, none⟩)) (.cells #[.int .i64 0, .nilFunc] 80) ?_
 intro zb22 zw23 zS24
 refine store_ zS24 0 (.agg #[.int .i64 20, .func (.func 42) #[] #[.pointer (some ⟨zb7, 0, none⟩), .pointer (some ⟨zb4, 0, none⟩)]]) zb22 0 ?_
 intro zw25 zS26
 refine nil_ (then_n (seq_ (reg_ ?_)))
 refine pure_ (.pointer (some ⟨zb22, 1, none⟩)) ?_
 refine load1_ zS26 0 (.func (.func 42) #[] #[.pointer (some ⟨zb7, 0, none⟩), .pointer (some ⟨zb4, 0, none⟩)]) zb22 1 ?_
 refine call_ 42 #[.pointer (some ⟨zb7, 0, none⟩), .pointer (some ⟨zb4, 0, none⟩)] ?_
 refine enter_ Try.func42 rfl ?_
 refine seq_ (reg_ ?_)
 refine pure_ (.bool false) ?_
 refine nil_ (then_n (seq_ (reg_ ?_)))
 refine load1_ zS26 5 (.int .i64 fr) zb7 0 ?_
 refine pure_ (.pointer (some ⟨zb4, 0, none⟩)) ?_
 refine load1_ zS26 6 (.int .i64 h) zb4 0 ?_
 refine pure_ (.bool (fr != h)) ?_
 refine pure_ (.bool (fr != h)) ?_
 refine nil_ (then_n (wp_ret ?_))
 refine ret_ rfl (res_ [.tmp 2] [.bool (fr != h)] (.bool (fr != h)) ⟨res_tmp, trivial⟩) ?_
 refine nil_ (then_n ?_)
 refine cond_S (fr != h) ?_ ?_
 · intro zh27
   have zh28 := neT' zh27
   refine seq_ (reg_ ?_)
   refine pure_ (.pointer (some ⟨zb22, 0, none⟩)) ?_
   refine load1_ zS26 0 (.int .i64 20) zb22 0 ?_
   refine pure_ (.int .i64 20) ?_
   refine nil_ (then_n (wp_ret (blk_r (then_r (then_r (blk_r (then_r ?_)))))))
   refine ret_ rfl (res_ [.tmp 2] [.int .i64 20] (.int .i64 20) ⟨res_tmp, trivial⟩) ?_
   refine pure_ (.int .i64 20) ?_
   refine nil_ (then_n (seq_ (seq_ (reg_ ?_))))
   refine pure_ (.int .i64 20) ?_
   refine pure_ (.bool true) ?_
   refine nil_ (then_n (cond_T ?_))
   refine seq_ (reg_ ?_)
   refine loadN_ zS26 6 8 #[.int .i64 h, .int .i64 e, .int .i64 o, .int .i64 a1, .int .i64 a2, .int .i64 b1, .int .i64 b2, .bool bd] zb4 0 ?_
   refine pure_ (.int .i64 20) ?_
   refine store_ zS26 2 (.agg #[.int .i64 h, .int .i64 e, .int .i64 o, .int .i64 a1, .int .i64 a2, .int .i64 b1, .int .i64 b2, .bool bd]) zb16 0 ?_
   intro zw29 zS30
   refine pure_ (.int .i64 20) ?_
   refine nil_ (then_n (wp_ret (then_r ?_)))
   refine ret_ rfl (res_ [.cell 10 47, .tmp 11] [.agg #[.int .i64 h, .int .i64 e, .int .i64 o, .int .i64 a1, .int .i64 a2, .int .i64 b1, .int .i64 b2, .bool bd], .int .i64 20] (.tuple #[.agg #[.int .i64 h, .int .i64 e, .int .i64 o, .int .i64 a1, .int .i64 a2, .int .i64 b1, .int .i64 b2, .bool bd], .int .i64 20]) ⟨res_cellN zS30 2 8 zb16 0, res_tmp, trivial⟩) ?_
   have hk : makeCode h e o fr to_ there = 20 := by simp only [makeCode, cond_true, cond_false, Bool.true_or, Bool.or_true, Bool.false_or, Bool.or_false, Bool.not_true, Bool.not_false, zh27]
   exact ⟨by rw [hk], zS30.ch⟩
 intro zh31
 have zh32 := neF' zh31
 refine wp_skip (blk_n (then_n (reg_ ?_)))
 refine pure_ (.int .i64 1) ?_
 refine pure_ (.int .i64 1) ?_
 refine nil_ (again_ (seq_ (reg_ ?_)))
 refine pure_ (.bool true) ?_
 refine nil_ (then_n (seq_ (cond_T ?_)))
 refine wp_skip (then_n (seq_ (wp_block (seq_ (reg_ ?_)))))
 refine pure_ (.pointer (some ⟨zb19, 2, none⟩)) ?_
 refine loadN_ zS26 1 2 #[.int .i64 24, .func (.func 43) #[] #[.pointer (some ⟨zb4, 0, none⟩)]] zb19 2 ?_
 refine new_ zS26 (fun b => .pointer (some ⟨b, 0, none⟩)) (.cells #[.int .i64 0, .nilFunc] 80) ?_
 intro zb33 zw34 zS35
 refine store_ zS35 0 (.agg #[.int .i64 24, .func (.func 43) #[] #[.pointer (some ⟨zb4, 0, none⟩)]]) zb33 0 ?_
 intro zw36 zS37
 refine nil_ (then_n (seq_ (reg_ ?_)))
 refine pure_ (.pointer (some ⟨zb33, 1, none⟩)) ?_
 refine load1_ zS37 0 (.func (.func 43) #[] #[.pointer (some ⟨zb4, 0, none⟩)]) zb33 1 ?_
 refine call_ 43 #[.pointer (some ⟨zb4, 0, none⟩)] ?_
 refine enter_ Try.func43 rfl ?_
 refine seq_ (reg_ ?_)
 refine pure_ (.bool false) ?_
 refine nil_ (then_n (seq_ (reg_ ?_)))
 refine pure_ (.pointer (some ⟨zb4, 1, none⟩)) ?_
 refine load1_ zS37 7 (.int .i64 e) zb4 1 ?_
 refine pure_ (.bool (decide (65535 ≤ e))) ?_
 refine assign_ ?_
 refine nil_ (then_n (wp_ret ?_))
 refine ret_ rfl (res_ [.tmp 1] [.bool (decide (65535 ≤ e))] (.bool (decide (65535 ≤ e))) ⟨res_tmp, trivial⟩) ?_
 refine nil_ (then_n ?_)
 refine cond_S (decide (65535 ≤ e)) ?_ ?_
 · intro zh38
   have zh39 := leT' zh38
   refine seq_ (reg_ ?_)
   refine pure_ (.pointer (some ⟨zb33, 0, none⟩)) ?_
   refine load1_ zS37 0 (.int .i64 24) zb33 0 ?_
   refine pure_ (.int .i64 24) ?_
   refine nil_ (then_n (wp_ret (blk_r (then_r (then_r (blk_r (then_r ?_)))))))
   refine ret_ rfl (res_ [.tmp 2] [.int .i64 24] (.int .i64 24) ⟨res_tmp, trivial⟩) ?_
   refine pure_ (.int .i64 24) ?_
   refine nil_ (then_n (seq_ (seq_ (reg_ ?_))))
   refine pure_ (.int .i64 24) ?_
   refine pure_ (.bool true) ?_
   refine nil_ (then_n (cond_T ?_))
   refine seq_ (reg_ ?_)
   refine loadN_ zS37 7 8 #[.int .i64 h, .int .i64 e, .int .i64 o, .int .i64 a1, .int .i64 a2, .int .i64 b1, .int .i64 b2, .bool bd] zb4 0 ?_
   refine pure_ (.int .i64 24) ?_
   refine store_ zS37 3 (.agg #[.int .i64 h, .int .i64 e, .int .i64 o, .int .i64 a1, .int .i64 a2, .int .i64 b1, .int .i64 b2, .bool bd]) zb16 0 ?_
   intro zw40 zS41
   refine pure_ (.int .i64 24) ?_
   refine nil_ (then_n (wp_ret (then_r ?_)))
   refine ret_ rfl (res_ [.cell 10 47, .tmp 11] [.agg #[.int .i64 h, .int .i64 e, .int .i64 o, .int .i64 a1, .int .i64 a2, .int .i64 b1, .int .i64 b2, .bool bd], .int .i64 24] (.tuple #[.agg #[.int .i64 h, .int .i64 e, .int .i64 o, .int .i64 a1, .int .i64 a2, .int .i64 b1, .int .i64 b2, .bool bd], .int .i64 24]) ⟨res_cellN zS41 3 8 zb16 0, res_tmp, trivial⟩) ?_
   have hk : makeCode h e o fr to_ there = 24 := by simp only [makeCode, cond_true, cond_false, Bool.true_or, Bool.or_true, Bool.false_or, Bool.or_false, Bool.not_true, Bool.not_false, zh31, zh38]
   exact ⟨by rw [hk], zS41.ch⟩
 intro zh42
 have zh43 := leF' zh42
 refine wp_skip (blk_n (then_n (reg_ ?_)))
 refine pure_ (.int .i64 2) ?_
 refine pure_ (.int .i64 2) ?_
 refine nil_ (again_ (seq_ (reg_ ?_)))
 refine pure_ (.bool true) ?_
 refine nil_ (then_n (seq_ (cond_T ?_)))
 refine wp_skip (then_n (seq_ (wp_block (seq_ (reg_ ?_)))))
 refine pure_ (.pointer (some ⟨zb19, 4, none⟩)) ?_
 refine loadN_ zS37 2 2 #[.int .i64 25, .func (.func 44) #[] #[.pointer (some ⟨zb10, 0, none⟩), .pointer (some ⟨zb7, 0, none⟩)]] zb19 4 ?_
 refine new_ zS37 (fun b => .pointer (some ⟨b, 0, none⟩)) (.cells #[.int .i64 0, .nilFunc] 80) ?_
 intro zb44 zw45 zS46
 refine store_ zS46 0 (.agg #[.int .i64 25, .func (.func 44) #[] #[.pointer (some ⟨zb10, 0, none⟩), .pointer (some ⟨zb7, 0, none⟩)]]) zb44 0 ?_
 intro zw47 zS48
 refine nil_ (then_n (seq_ (reg_ ?_)))
 refine pure_ (.pointer (some ⟨zb44, 1, none⟩)) ?_
 refine load1_ zS48 0 (.func (.func 44) #[] #[.pointer (some ⟨zb10, 0, none⟩), .pointer (some ⟨zb7, 0, none⟩)]) zb44 1 ?_
 refine call_ 44 #[.pointer (some ⟨zb10, 0, none⟩), .pointer (some ⟨zb7, 0, none⟩)] ?_
 refine enter_ Try.func44 rfl ?_
 refine seq_ (reg_ ?_)
 refine pure_ (.bool false) ?_
 refine nil_ (then_n (seq_ (reg_ ?_)))
 refine load1_ zS48 6 (.int .i64 to_) zb10 0 ?_
 refine load1_ zS48 7 (.int .i64 fr) zb7 0 ?_
 refine pure_ (.bool (to_ == fr)) ?_
 refine pure_ (.bool (to_ == fr)) ?_
 refine nil_ (then_n (wp_ret ?_))
 refine ret_ rfl (res_ [.tmp 2] [.bool (to_ == fr)] (.bool (to_ == fr)) ⟨res_tmp, trivial⟩) ?_
 refine nil_ (then_n ?_)
 refine cond_S (to_ == fr) ?_ ?_
 · intro zh49
   have zh50 := eqT' zh49
   refine seq_ (reg_ ?_)
   refine pure_ (.pointer (some ⟨zb44, 0, none⟩)) ?_
   refine load1_ zS48 0 (.int .i64 25) zb44 0 ?_
   refine pure_ (.int .i64 25) ?_
   refine nil_ (then_n (wp_ret (blk_r (then_r (then_r (blk_r (then_r ?_)))))))
   refine ret_ rfl (res_ [.tmp 2] [.int .i64 25] (.int .i64 25) ⟨res_tmp, trivial⟩) ?_
   refine pure_ (.int .i64 25) ?_
   refine nil_ (then_n (seq_ (seq_ (reg_ ?_))))
   refine pure_ (.int .i64 25) ?_
   refine pure_ (.bool true) ?_
   refine nil_ (then_n (cond_T ?_))
   refine seq_ (reg_ ?_)
   refine loadN_ zS48 8 8 #[.int .i64 h, .int .i64 e, .int .i64 o, .int .i64 a1, .int .i64 a2, .int .i64 b1, .int .i64 b2, .bool bd] zb4 0 ?_
   refine pure_ (.int .i64 25) ?_
   refine store_ zS48 4 (.agg #[.int .i64 h, .int .i64 e, .int .i64 o, .int .i64 a1, .int .i64 a2, .int .i64 b1, .int .i64 b2, .bool bd]) zb16 0 ?_
   intro zw51 zS52
   refine pure_ (.int .i64 25) ?_
   refine nil_ (then_n (wp_ret (then_r ?_)))
   refine ret_ rfl (res_ [.cell 10 47, .tmp 11] [.agg #[.int .i64 h, .int .i64 e, .int .i64 o, .int .i64 a1, .int .i64 a2, .int .i64 b1, .int .i64 b2, .bool bd], .int .i64 25] (.tuple #[.agg #[.int .i64 h, .int .i64 e, .int .i64 o, .int .i64 a1, .int .i64 a2, .int .i64 b1, .int .i64 b2, .bool bd], .int .i64 25]) ⟨res_cellN zS52 4 8 zb16 0, res_tmp, trivial⟩) ?_
   have hk : makeCode h e o fr to_ there = 25 := by simp only [makeCode, cond_true, cond_false, Bool.true_or, Bool.or_true, Bool.false_or, Bool.or_false, Bool.not_true, Bool.not_false, zh31, zh42, zh49]
   exact ⟨by rw [hk], zS52.ch⟩
 intro zh53
 have zh54 := eqF' zh53
 refine wp_skip (blk_n (then_n (reg_ ?_)))
 refine pure_ (.int .i64 3) ?_
 refine pure_ (.int .i64 3) ?_
 refine nil_ (again_ (seq_ (reg_ ?_)))
 refine pure_ (.bool true) ?_
 refine nil_ (then_n (seq_ (cond_T ?_)))
 refine wp_skip (then_n (seq_ (wp_block (seq_ (reg_ ?_)))))
 refine pure_ (.pointer (some ⟨zb19, 6, none⟩)) ?_
 refine loadN_ zS48 3 2 #[.int .i64 2, .func (.func 45) #[] #[.pointer (some ⟨zb10, 0, none⟩), .pointer (some ⟨zb13, 0, none⟩)]] zb19 6 ?_
 refine new_ zS48 (fun b => .pointer (some ⟨b, 0, none⟩)) (.cells #[.int .i64 0, .nilFunc] 80) ?_
 intro zb55 zw56 zS57
 refine store_ zS57 0 (.agg #[.int .i64 2, .func (.func 45) #[] #[.pointer (some ⟨zb10, 0, none⟩), .pointer (some ⟨zb13, 0, none⟩)]]) zb55 0 ?_
 intro zw58 zS59
 refine nil_ (then_n (seq_ (reg_ ?_)))
 refine pure_ (.pointer (some ⟨zb55, 1, none⟩)) ?_
 refine load1_ zS59 0 (.func (.func 45) #[] #[.pointer (some ⟨zb10, 0, none⟩), .pointer (some ⟨zb13, 0, none⟩)]) zb55 1 ?_
 refine call_ 45 #[.pointer (some ⟨zb10, 0, none⟩), .pointer (some ⟨zb13, 0, none⟩)] ?_
 refine enter_ Try.func45 rfl ?_
 refine seq_ (reg_ ?_)
 refine pure_ (.bool false) ?_
 refine nil_ (then_n (seq_ (reg_ ?_)))
 refine load1_ zS59 7 (.int .i64 to_) zb10 0 ?_
 refine pure_ (.bool (decide (to_ < 1))) ?_
 refine pure_ (.bool (decide (to_ < 1))) ?_
 refine slot_ 5 (decide (to_ < 1)) ?_ ?_
 · intro zh60
   have zh61 := ltT' zh60
   refine skip_ ?_
   refine skip_ ?_
   refine pure_ (.bool true) ?_
   refine pure_ (.bool true) ?_
   refine skip_ ?_
   refine skip_ ?_
   refine pure_ (.bool true) ?_
   refine pure_ (.bool true) ?_
   refine nil_ (then_n (wp_ret ?_))
   refine ret_ rfl (res_ [.tmp 2] [.bool true] (.bool true) ⟨res_tmp, trivial⟩) ?_
   refine nil_ (then_n (cond_T ?_))
   refine seq_ (reg_ ?_)
   refine pure_ (.pointer (some ⟨zb55, 0, none⟩)) ?_
   refine load1_ zS59 0 (.int .i64 2) zb55 0 ?_
   refine pure_ (.int .i64 2) ?_
   refine nil_ (then_n (wp_ret (blk_r (then_r (then_r (blk_r (then_r ?_)))))))
   refine ret_ rfl (res_ [.tmp 2] [.int .i64 2] (.int .i64 2) ⟨res_tmp, trivial⟩) ?_
   refine pure_ (.int .i64 2) ?_
   refine nil_ (then_n (seq_ (seq_ (reg_ ?_))))
   refine pure_ (.int .i64 2) ?_
   refine pure_ (.bool true) ?_
   refine nil_ (then_n (cond_T ?_))
   refine seq_ (reg_ ?_)
   refine loadN_ zS59 9 8 #[.int .i64 h, .int .i64 e, .int .i64 o, .int .i64 a1, .int .i64 a2, .int .i64 b1, .int .i64 b2, .bool bd] zb4 0 ?_
   refine pure_ (.int .i64 2) ?_
   refine store_ zS59 5 (.agg #[.int .i64 h, .int .i64 e, .int .i64 o, .int .i64 a1, .int .i64 a2, .int .i64 b1, .int .i64 b2, .bool bd]) zb16 0 ?_
   intro zw62 zS63
   refine pure_ (.int .i64 2) ?_
   refine nil_ (then_n (wp_ret (then_r ?_)))
   refine ret_ rfl (res_ [.cell 10 47, .tmp 11] [.agg #[.int .i64 h, .int .i64 e, .int .i64 o, .int .i64 a1, .int .i64 a2, .int .i64 b1, .int .i64 b2, .bool bd], .int .i64 2] (.tuple #[.agg #[.int .i64 h, .int .i64 e, .int .i64 o, .int .i64 a1, .int .i64 a2, .int .i64 b1, .int .i64 b2, .bool bd], .int .i64 2]) ⟨res_cellN zS63 5 8 zb16 0, res_tmp, trivial⟩) ?_
   have hk : makeCode h e o fr to_ there = 2 := by simp only [makeCode, cond_true, cond_false, Bool.true_or, Bool.or_true, Bool.false_or, Bool.or_false, Bool.not_true, Bool.not_false, zh31, zh42, zh53, zh60]
   exact ⟨by rw [hk], zS63.ch⟩
 intro zh64
 have zh65 := ltF' zh64
 refine load1_ zS59 7 (.int .i64 to_) zb10 0 ?_
 refine pure_ (.bool (decide (3 < to_))) ?_
 refine pure_ (.bool (decide (3 < to_))) ?_
 refine pure_ (.bool (decide (3 < to_))) ?_
 refine slot_ 9 (decide (3 < to_)) ?_ ?_
 · intro zh66
   have zh67 := ltT' zh66
   refine skip_ ?_
   refine skip_ ?_
   refine pure_ (.bool true) ?_
   refine pure_ (.bool true) ?_
   refine nil_ (then_n (wp_ret ?_))
   refine ret_ rfl (res_ [.tmp 2] [.bool true] (.bool true) ⟨res_tmp, trivial⟩) ?_
   refine nil_ (then_n (cond_T ?_))
   refine seq_ (reg_ ?_)
   refine pure_ (.pointer (some ⟨zb55, 0, none⟩)) ?_
   refine load1_ zS59 0 (.int .i64 2) zb55 0 ?_
   refine pure_ (.int .i64 2) ?_
   refine nil_ (then_n (wp_ret (blk_r (then_r (then_r (blk_r (then_r ?_)))))))
   refine ret_ rfl (res_ [.tmp 2] [.int .i64 2] (.int .i64 2) ⟨res_tmp, trivial⟩) ?_
   refine pure_ (.int .i64 2) ?_
   refine nil_ (then_n (seq_ (seq_ (reg_ ?_))))
   refine pure_ (.int .i64 2) ?_
   refine pure_ (.bool true) ?_
   refine nil_ (then_n (cond_T ?_))
   refine seq_ (reg_ ?_)
   refine loadN_ zS59 9 8 #[.int .i64 h, .int .i64 e, .int .i64 o, .int .i64 a1, .int .i64 a2, .int .i64 b1, .int .i64 b2, .bool bd] zb4 0 ?_
   refine pure_ (.int .i64 2) ?_
   refine store_ zS59 5 (.agg #[.int .i64 h, .int .i64 e, .int .i64 o, .int .i64 a1, .int .i64 a2, .int .i64 b1, .int .i64 b2, .bool bd]) zb16 0 ?_
   intro zw68 zS69
   refine pure_ (.int .i64 2) ?_
   refine nil_ (then_n (wp_ret (then_r ?_)))
   refine ret_ rfl (res_ [.cell 10 47, .tmp 11] [.agg #[.int .i64 h, .int .i64 e, .int .i64 o, .int .i64 a1, .int .i64 a2, .int .i64 b1, .int .i64 b2, .bool bd], .int .i64 2] (.tuple #[.agg #[.int .i64 h, .int .i64 e, .int .i64 o, .int .i64 a1, .int .i64 a2, .int .i64 b1, .int .i64 b2, .bool bd], .int .i64 2]) ⟨res_cellN zS69 5 8 zb16 0, res_tmp, trivial⟩) ?_
   have hk : makeCode h e o fr to_ there = 2 := by simp only [makeCode, cond_true, cond_false, Bool.true_or, Bool.or_true, Bool.false_or, Bool.or_false, Bool.not_true, Bool.not_false, zh31, zh42, zh53, zh64, zh66]
   exact ⟨by rw [hk], zS69.ch⟩
 intro zh70
 have zh71 := ltF' zh70
 refine load1_ zS59 6 (.bool there) zb13 0 ?_
 refine pure_ (.bool (!there)) ?_
 refine pure_ (.bool (!there)) ?_
 refine pure_ (.bool (!there)) ?_
 refine nil_ (then_n (wp_ret ?_))
 refine ret_ rfl (res_ [.tmp 2] [.bool (!there)] (.bool (!there)) ⟨res_tmp, trivial⟩) ?_
 refine nil_ (then_n ?_)
 refine cond_S (!there) ?_ ?_
 · intro zh72
   have zh73 := notT' zh72
   refine seq_ (reg_ ?_)
   refine pure_ (.pointer (some ⟨zb55, 0, none⟩)) ?_
   refine load1_ zS59 0 (.int .i64 2) zb55 0 ?_
   refine pure_ (.int .i64 2) ?_
   refine nil_ (then_n (wp_ret (blk_r (then_r (then_r (blk_r (then_r ?_)))))))
   refine ret_ rfl (res_ [.tmp 2] [.int .i64 2] (.int .i64 2) ⟨res_tmp, trivial⟩) ?_
   refine pure_ (.int .i64 2) ?_
   refine nil_ (then_n (seq_ (seq_ (reg_ ?_))))
   refine pure_ (.int .i64 2) ?_
   refine pure_ (.bool true) ?_
   refine nil_ (then_n (cond_T ?_))
   refine seq_ (reg_ ?_)
   refine loadN_ zS59 9 8 #[.int .i64 h, .int .i64 e, .int .i64 o, .int .i64 a1, .int .i64 a2, .int .i64 b1, .int .i64 b2, .bool bd] zb4 0 ?_
   refine pure_ (.int .i64 2) ?_
   refine store_ zS59 5 (.agg #[.int .i64 h, .int .i64 e, .int .i64 o, .int .i64 a1, .int .i64 a2, .int .i64 b1, .int .i64 b2, .bool bd]) zb16 0 ?_
   intro zw74 zS75
   refine pure_ (.int .i64 2) ?_
   refine nil_ (then_n (wp_ret (then_r ?_)))
   refine ret_ rfl (res_ [.cell 10 47, .tmp 11] [.agg #[.int .i64 h, .int .i64 e, .int .i64 o, .int .i64 a1, .int .i64 a2, .int .i64 b1, .int .i64 b2, .bool bd], .int .i64 2] (.tuple #[.agg #[.int .i64 h, .int .i64 e, .int .i64 o, .int .i64 a1, .int .i64 a2, .int .i64 b1, .int .i64 b2, .bool bd], .int .i64 2]) ⟨res_cellN zS75 5 8 zb16 0, res_tmp, trivial⟩) ?_
   have hk : makeCode h e o fr to_ there = 2 := by simp only [makeCode, cond_true, cond_false, Bool.true_or, Bool.or_true, Bool.false_or, Bool.or_false, Bool.not_true, Bool.not_false, zh31, zh42, zh53, zh64, zh70, zh72, zh73]
   exact ⟨by rw [hk], zS75.ch⟩
 intro zh76
 have zh77 := notF' zh76
 refine wp_skip (blk_n (then_n (reg_ ?_)))
 refine pure_ (.int .i64 4) ?_
 refine pure_ (.int .i64 4) ?_
 refine nil_ (again_ (seq_ (reg_ ?_)))
 refine pure_ (.bool true) ?_
 refine nil_ (then_n (seq_ (cond_T ?_)))
 refine wp_skip (then_n (seq_ (wp_block (seq_ (reg_ ?_)))))
 refine pure_ (.pointer (some ⟨zb19, 8, none⟩)) ?_
 refine loadN_ zS59 4 2 #[.int .i64 28, .func (.func 46) #[] #[.pointer (some ⟨zb4, 0, none⟩)]] zb19 8 ?_
 refine new_ zS59 (fun b => .pointer (some ⟨b, 0, none⟩)) (.cells #[.int .i64 0, .nilFunc] 80) ?_
 intro zb78 zw79 zS80
 refine store_ zS80 0 (.agg #[.int .i64 28, .func (.func 46) #[] #[.pointer (some ⟨zb4, 0, none⟩)]]) zb78 0 ?_
 intro zw81 zS82
 refine nil_ (then_n (seq_ (reg_ ?_)))
 refine pure_ (.pointer (some ⟨zb78, 1, none⟩)) ?_
 refine load1_ zS82 0 (.func (.func 46) #[] #[.pointer (some ⟨zb4, 0, none⟩)]) zb78 1 ?_
 refine call_ 46 #[.pointer (some ⟨zb4, 0, none⟩)] ?_
 refine enter_ Try.func46 rfl ?_
 refine seq_ (reg_ ?_)
 refine pure_ (.bool false) ?_
 refine nil_ (then_n (seq_ (reg_ ?_)))
 refine loadN_ zS82 10 8 #[.int .i64 h, .int .i64 e, .int .i64 o, .int .i64 a1, .int .i64 a2, .int .i64 b1, .int .i64 b2, .bool bd] zb4 0 ?_
 refine call_ 47 #[.agg #[.int .i64 h, .int .i64 e, .int .i64 o, .int .i64 a1, .int .i64 a2, .int .i64 b1, .int .i64 b2, .bool bd]] ?_
 refine enter_ Try.func47 rfl ?_
 refine seq_ (reg_ ?_)
 refine new_ zS82 (fun b => .pointer (some ⟨b, 0, none⟩)) (.cells #[.int .i64 h, .int .i64 e, .int .i64 o, .int .i64 a1, .int .i64 a2, .int .i64 b1, .int .i64 b2, .bool bd] 47) ?_
 intro zb83 zw84 zS85
 refine pure_ (.bool false) ?_
 refine nil_ (then_n (seq_ (reg_ ?_)))
 refine pure_ (.pointer (some ⟨zb83, 2, none⟩)) ?_
 refine load1_ zS85 0 (.int .i64 o) zb83 2 ?_
 refine pure_ (.bool (decide (0 ≤ o))) ?_
 refine pure_ (.bool (decide (0 ≤ o))) ?_
 refine nil_ (then_n (wp_ret ?_))
 refine ret_ rfl (res_ [.tmp 2] [.bool (decide (0 ≤ o))] (.bool (decide (0 ≤ o))) ⟨res_tmp, trivial⟩) ?_
 refine pure_ (.bool (decide (0 ≤ o))) ?_
 refine nil_ (then_n (wp_ret ?_))
 refine ret_ rfl (res_ [.tmp 1] [.bool (decide (0 ≤ o))] (.bool (decide (0 ≤ o))) ⟨res_tmp, trivial⟩) ?_
 refine nil_ (then_n ?_)
 refine cond_S (decide (0 ≤ o)) ?_ ?_
 · intro zh86
   have zh87 := leT' zh86
   refine seq_ (reg_ ?_)
   refine pure_ (.pointer (some ⟨zb78, 0, none⟩)) ?_
   refine load1_ zS85 1 (.int .i64 28) zb78 0 ?_
   refine pure_ (.int .i64 28) ?_
   refine nil_ (then_n (wp_ret (blk_r (then_r (then_r (blk_r (then_r ?_)))))))
   refine ret_ rfl (res_ [.tmp 2] [.int .i64 28] (.int .i64 28) ⟨res_tmp, trivial⟩) ?_
   refine pure_ (.int .i64 28) ?_
   refine nil_ (then_n (seq_ (seq_ (reg_ ?_))))
   refine pure_ (.int .i64 28) ?_
   refine pure_ (.bool true) ?_
   refine nil_ (then_n (cond_T ?_))
   refine seq_ (reg_ ?_)
   refine loadN_ zS85 11 8 #[.int .i64 h, .int .i64 e, .int .i64 o, .int .i64 a1, .int .i64 a2, .int .i64 b1, .int .i64 b2, .bool bd] zb4 0 ?_
   refine pure_ (.int .i64 28) ?_
   refine store_ zS85 7 (.agg #[.int .i64 h, .int .i64 e, .int .i64 o, .int .i64 a1, .int .i64 a2, .int .i64 b1, .int .i64 b2, .bool bd]) zb16 0 ?_
   intro zw88 zS89
   refine pure_ (.int .i64 28) ?_
   refine nil_ (then_n (wp_ret (then_r ?_)))
   refine ret_ rfl (res_ [.cell 10 47, .tmp 11] [.agg #[.int .i64 h, .int .i64 e, .int .i64 o, .int .i64 a1, .int .i64 a2, .int .i64 b1, .int .i64 b2, .bool bd], .int .i64 28] (.tuple #[.agg #[.int .i64 h, .int .i64 e, .int .i64 o, .int .i64 a1, .int .i64 a2, .int .i64 b1, .int .i64 b2, .bool bd], .int .i64 28]) ⟨res_cellN zS89 7 8 zb16 0, res_tmp, trivial⟩) ?_
   have hk : makeCode h e o fr to_ there = 28 := by simp only [makeCode, cond_true, cond_false, Bool.true_or, Bool.or_true, Bool.false_or, Bool.or_false, Bool.not_true, Bool.not_false, zh31, zh42, zh53, zh64, zh70, zh76, zh77, zh86]
   exact ⟨by rw [hk], zS89.ch⟩
 intro zh90
 have zh91 := leF' zh90
 refine wp_skip (blk_n (then_n (reg_ ?_)))
 refine pure_ (.int .i64 5) ?_
 refine pure_ (.int .i64 5) ?_
 refine nil_ (again_ (seq_ (reg_ ?_)))
 refine pure_ (.bool false) ?_
 refine nil_ (then_n (seq_ (cond_F ?_)))
 refine wp_exit (then_e (then_e (blk_e (then_n (seq_ (reg_ ?_))))))
 refine pure_ (.int .i64 0) ?_
 refine nil_ (then_n (wp_ret ?_))
 refine ret_ rfl (res_ [.tmp 2] [.int .i64 0] (.int .i64 0) ⟨res_tmp, trivial⟩) ?_
 refine pure_ (.int .i64 0) ?_
 refine nil_ (then_n (seq_ (seq_ (reg_ ?_))))
 refine pure_ (.int .i64 0) ?_
 refine pure_ (.bool false) ?_
 refine nil_ (then_n (cond_F ?_))
 refine wp_skip (then_n (seq_ ?_))
 refine drawnL_ 5 [⟨0, fun _ => .int .i64 to_, fun _ => []⟩, ⟨0, fun _ => .pointer (some ⟨zb1, 44, none⟩), fun _ => []⟩, ⟨0, fun _ => .int .i64 (q 44), fun _ => []⟩, ⟨0, fun _ => .agg #[.int .i64 0, .int .i64 (max0 (q 44))], fun _ => []⟩, ⟨0, fun _ => .pointer (some ⟨zb4, 2, none⟩), fun _ => []⟩] [[5, 0], [5, 3, 2, 1], [5, 3, 2], [5, 3], [5, 4], [6, 0], [6, 1], [6, 2], [6, 3], [6, 4], [6, 5], [7, 0], [7, 1], [7, 2], [7, 3], [7, 4], [7, 5], [7, 6]] ?_ ?_
 · refine step_cons ?_ ?_
   · intro zy92 zw93 zhc94 zhf95 zhp96
     have zh97 : zy92 8 = .pointer (some ⟨zb10, 0, none⟩) := (zhf95 8 (by kernel_rfl)).trans (by kernel_rfl)
     have zS98 := zS85.quiet zhc94
     refine step1 ?_
     refine yenv [(8, .pointer (some ⟨zb10, 0, none⟩))] (ag_cons zh97 (ag_nil)) ?_
     have zS99 := zS98.loc
     refine Y.load1_ zS99 9 (.int .i64 to_) zb10 0 ?_
     exact ⟨zS99.ch, Sp.mk_holds [] (all_nil)⟩
   refine step_cons ?_ ?_
   · intro zy100 zw101 zhc102 zhf103 zhp104
     have zh105 : zy100 5 = .pointer (some ⟨zb1, 0, none⟩) := (zhf103 5 (by kernel_rfl)).trans (by kernel_rfl)
     have zS106 := zS85.quiet zhc102
     refine step1 ?_
     refine yenv [(5, .pointer (some ⟨zb1, 0, none⟩))] (ag_cons zh105 (ag_nil)) ?_
     have zS107 := zS106.loc
     refine Y.pure_ (.pointer (some ⟨zb1, 44, none⟩)) ?_
     exact ⟨zS107.ch, Sp.mk_holds [] (all_nil)⟩
   refine step_cons ?_ ?_
   · intro zy108 zw109 zhc110 zhf111 zhp112
     have zh113 : zy108 30 = .pointer (some ⟨zb1, 44, none⟩) := (Sp.out0 (zhp112 1 30 (by kernel_rfl) (by kernel_rfl))).1
     have zS114 := zS85.quiet zhc110
     refine step1 ?_
     refine yenv [(30, .pointer (some ⟨zb1, 44, none⟩))] (ag_cons zh113 (ag_nil)) ?_
     have zS115 := zS114.loc
     refine Y.load1_ zS115 12 (.int .i64 (q 44)) zb1 44 ?_
     exact ⟨zS115.ch, Sp.mk_holds [] (all_nil)⟩
   refine step_cons ?_ ?_
   · intro zy116 zw117 zhc118 zhf119 zhp120
     have zh121 : zy116 31 = .int .i64 (q 44) := (Sp.out0 (zhp120 2 31 (by kernel_rfl) (by kernel_rfl))).1
     have zS122 := zS85.quiet zhc118
     refine step1 ?_
     refine yenv [(31, .int .i64 (q 44))] (ag_cons zh121 (ag_nil)) ?_
     have zS123 := zS122.loc
     refine Y.call_ 17 #[.int .i64 (q 44)] ?_
     refine enter_ Try.func17 rfl ?_
     refine seq_ (reg_ ?_)
     refine new_ zS123 (fun b => .pointer (some ⟨b, 0, none⟩)) (.cells #[.int .i64 0, .int .i64 0] 25) ?_
     intro zb124 zw125 zS126
     refine nil_ (then_n (seq_ (reg_ ?_)))
     refine pure_ (.int .i64 (q 44)) ?_
     refine pureE_ (.int .i64 (if (q 44) < 0 then 0 else (q 44))) (.int .i64 (max0 (q 44))) (congrArg _ (rfl)) ?_
     refine pure_ (.agg #[.int .i64 0, .int .i64 (max0 (q 44))]) ?_
     refine store_ zS126 0 (.agg #[.int .i64 0, .int .i64 (max0 (q 44))]) zb124 0 ?_
     intro zw127 zS128
     refine nil_ (then_n (wp_ret ?_))
     refine ret_ rfl (res_ [.cell 2 25] [.agg #[.int .i64 0, .int .i64 (max0 (q 44))]] (.agg #[.int .i64 0, .int .i64 (max0 (q 44))]) ⟨res_cellN zS128 0 2 zb124 0, trivial⟩) ?_
     exact ⟨zS128.ch, Sp.mk_holds [] (all_nil)⟩
   refine step_cons ?_ ?_
   · intro zy129 zw130 zhc131 zhf132 zhp133
     have zh134 : zy129 6 = .pointer (some ⟨zb4, 0, none⟩) := (zhf132 6 (by kernel_rfl)).trans (by kernel_rfl)
     have zS135 := zS85.quiet zhc131
     refine step1 ?_
     refine yenv [(6, .pointer (some ⟨zb4, 0, none⟩))] (ag_cons zh134 (ag_nil)) ?_
     have zS136 := zS135.loc
     refine Y.pure_ (.pointer (some ⟨zb4, 2, none⟩)) ?_
     exact ⟨zS136.ch, Sp.mk_holds [] (all_nil)⟩
   exact step_nil
 intro zv137 zw138 zhc139 zha140
 have zh141 : zv137 0 = .int .i64 to_ := (Sp.out0 (zha140 0 (by kernel_rfl))).1
 have zh142 : zv137 1 = .pointer (some ⟨zb1, 44, none⟩) := (Sp.out0 (zha140 1 (by kernel_rfl))).1
 have zh143 : zv137 2 = .int .i64 (q 44) := (Sp.out0 (zha140 2 (by kernel_rfl))).1
 have zh144 : zv137 3 = .agg #[.int .i64 0, .int .i64 (max0 (q 44))] := (Sp.out0 (zha140 3 (by kernel_rfl))).1
 have zh145 : zv137 4 = .pointer (some ⟨zb4, 2, none⟩) := (Sp.out0 (zha140 4 (by kernel_rfl))).1
 have zS146 := zS85.quiet zhc139
 refine ⟨[.int .i64 to_, .pointer (some ⟨zb1, 44, none⟩), .int .i64 (q 44), .agg #[.int .i64 0, .int .i64 (max0 (q 44))], .pointer (some ⟨zb4, 2, none⟩)], by kernel_rfl, va_cons zh141 (va_cons zh142 (va_cons zh143 (va_cons zh144 (va_cons zh145 (va_nil))))), ?_⟩
 refine store_ zS146 11 (.int .i64 to_) zb4 2 ?_
 intro zw147 zS148
 refine pure_ (.pointer (some ⟨zb4, 3, none⟩)) ?_
 refine store_ zS148 11 (.agg #[.int .i64 0, .int .i64 (max0 (q 44))]) zb4 3 ?_
 intro zw149 zS150
 refine nil_ (then_n (seq_ (reg_ ?_)))
 refine loadN_ zS150 11 8 #[.int .i64 h, .int .i64 e, .int .i64 to_, .int .i64 0, .int .i64 (max0 (q 44)), .int .i64 b1, .int .i64 b2, .bool bd] zb4 0 ?_
 refine store_ zS150 7 (.agg #[.int .i64 h, .int .i64 e, .int .i64 to_, .int .i64 0, .int .i64 (max0 (q 44)), .int .i64 b1, .int .i64 b2, .bool bd]) zb16 0 ?_
 intro zw151 zS152
 refine pure_ (.int .i64 0) ?_
 refine nil_ (then_n (wp_ret ?_))
 refine ret_ rfl (res_ [.cell 10 47, .tmp 11] [.agg #[.int .i64 h, .int .i64 e, .int .i64 to_, .int .i64 0, .int .i64 (max0 (q 44)), .int .i64 b1, .int .i64 b2, .bool bd], .int .i64 0] (.tuple #[.agg #[.int .i64 h, .int .i64 e, .int .i64 to_, .int .i64 0, .int .i64 (max0 (q 44)), .int .i64 b1, .int .i64 b2, .bool bd], .int .i64 0]) ⟨res_cellN zS152 7 8 zb16 0, res_tmp, trivial⟩) ?_
 have hk : makeCode h e o fr to_ there = 0 := by simp only [makeCode, cond_true, cond_false, Bool.true_or, Bool.or_true, Bool.false_or, Bool.or_false, Bool.not_true, Bool.not_false, zh31, zh42, zh53, zh64, zh70, zh76, zh77, zh90]
 exact absurd hk hc

set_option maxRecDepth 100000 in
set_option maxHeartbeats 4000000 in
theorem make_yes (q : Nat → Int) (ka : Nat → Option Addr) (kn kc : Nat → Nat) (h e o a1 a2 b1 b2 : Int) (bd : Bool) (fr to_ : Int) (there : Bool) (w : World) (hc : makeCode h e o fr to_ there = 0) :
    Gives Try.prog 26 #[.agg (polC q ka kn kc), .agg #[.int .i64 h, .int .i64 e, .int .i64 o, .int .i64 a1, .int .i64 a2, .int .i64 b1, .int .i64 b2, .bool bd], .int .i64 fr, .int .i64 to_, .bool there] w fun v w1 => v = .tuple #[.agg #[.int .i64 h, .int .i64 e, .int .i64 to_, .int .i64 0, .int .i64 (max0 (q 44)), .int .i64 b1, .int .i64 b2, .bool bd], .int .i64 0] ∧ Ch [] w w1 := by
 have S0 := St.nil [] w
 refine enter_ Try.func26 rfl ?_
 refine seq_ (reg_ ?_)
 refine new_ S0 (fun b => .pointer (some ⟨b, 0, none⟩)) (.cells (polC q ka kn kc) 37) ?_
 intro zb1 zw2 zS3
 refine new_ zS3 (fun b => .pointer (some ⟨b, 0, none⟩)) (.cells #[.int .i64 h, .int .i64 e, .int .i64 o, .int .i64 a1, .int .i64 a2, .int .i64 b1, .int .i64 b2, .bool bd] 47) ?_
 intro zb4 zw5 zS6
 refine new_ zS6 (fun b => .pointer (some ⟨b, 0, none⟩)) (.cells #[.int .i64 fr] 3) ?_
 intro zb7 zw8 zS9
 refine new_ zS9 (fun b => .pointer (some ⟨b, 0, none⟩)) (.cells #[.int .i64 to_] 3) ?_
 intro zb10 zw11 zS12
 refine new_ zS12 (fun b => .pointer (some ⟨b, 0, none⟩)) (.cells #[.bool there] 4) ?_
 intro zb13 zw14 zS15
 refine new_ zS15 (fun b => .pointer (some ⟨b, 0, none⟩)) (.cells #[.int .i64 0, .int .i64 0, .int .i64 0, .int .i64 0, .int .i64 0, .int .i64 0, .int .i64 0, .bool false] 47) ?_
 intro zb16 zw17 zS18
 refine pure_ (.int .i64 0) ?_
 refine nil_ (then_n (seq_ (reg_ ?_)))
 refine pure_ (.func (.func 42) #[] #[.pointer (some ⟨zb7, 0, none⟩), .pointer (some ⟨zb4, 0, none⟩)]) ?_
 refine pure_ (.agg #[.int .i64 20, .func (.func 42) #[] #[.pointer (some ⟨zb7, 0, none⟩), .pointer (some ⟨zb4, 0, none⟩)]]) ?_
 refine pure_ (.func (.func 43) #[] #[.pointer (some ⟨zb4, 0, none⟩)]) ?_
 refine pure_ (.agg #[.int .i64 24, .func (.func 43) #[] #[.pointer (some ⟨zb4, 0, none⟩)]]) ?_
 refine pure_ (.func (.func 44) #[] #[.pointer (some ⟨zb10, 0, none⟩), .pointer (some ⟨zb7, 0, none⟩)]) ?_
 refine pure_ (.agg #[.int .i64 25, .func (.func 44) #[] #[.pointer (some ⟨zb10, 0, none⟩), .pointer (some ⟨zb7, 0, none⟩)]]) ?_
 refine pure_ (.func (.func 45) #[] #[.pointer (some ⟨zb10, 0, none⟩), .pointer (some ⟨zb13, 0, none⟩)]) ?_
 refine pure_ (.agg #[.int .i64 2, .func (.func 45) #[] #[.pointer (some ⟨zb10, 0, none⟩), .pointer (some ⟨zb13, 0, none⟩)]]) ?_
 refine pure_ (.func (.func 46) #[] #[.pointer (some ⟨zb4, 0, none⟩)]) ?_
 refine pure_ (.agg #[.int .i64 28, .func (.func 46) #[] #[.pointer (some ⟨zb4, 0, none⟩)]]) ?_
 refine new_ zS18 (fun b => .slice (some ⟨b, 0, none⟩) 5 5) (.cells #[.int .i64 20, .func (.func 42) #[] #[.pointer (some ⟨zb7, 0, none⟩), .pointer (some ⟨zb4, 0, none⟩)], .int .i64 24, .func (.func 43) #[] #[.pointer (some ⟨zb4, 0, none⟩)], .int .i64 25, .func (.func 44) #[] #[.pointer (some ⟨zb10, 0, none⟩), .pointer (some ⟨zb7, 0, none⟩)], .int .i64 2, .func (.func 45) #[] #[.pointer (some ⟨zb10, 0, none⟩), .pointer (some ⟨zb13, 0, none⟩)], .int .i64 28, .func (.func 46) #[] #[.pointer (some ⟨zb4, 0, none⟩)]] 80) ?_
 intro zb19 zw20 zS21
 refine call_ 41 #[.slice (some ⟨zb19, 0, none⟩) 5 5] ?_
 refine enter_ Try.func41 rfl ?_
 refine seq_ (reg_ ?_)
 refine pure_ (.int .i64 0) ?_
 refine nil_ (then_n (seq_ (seq_ (reg_ ?_))))
 refine move_ ?_
 refine pure_ (.int .i64 5) ?_
 refine pure_ (.int .i64 0) ?_
 refine nil_ (then_n (wp_block (loop_ 24 (seq_ (reg_ ?_)))))
 refine pure_ (.bool true) ?_
 refine nil_ (then_n (seq_ (cond_T ?_)))
 refine wp_skip (then_n (seq_ (wp_block (seq_ (reg_ ?_)))))
 refine pure_ (.pointer (some ⟨zb19, 0, none⟩)) ?_
 refine loadN_ zS21 0 2 #[.int .i64 20, .func (.func 42) #[] #[.pointer (some ⟨zb7, 0, none⟩), .pointer (some ⟨zb4, 0, none⟩)]] zb19 0 ?_
 refine new_ zS21 (fun b => .pointer (some ⟨b, 0, none⟩)) (.cells #[.int .i64 0, .nilFunc] 80) ?_
 intro zb22 zw23 zS24
 refine store_ zS24 0 (.agg #[.int .i64 20, .func (.func 42) #[] #[.pointer (some ⟨zb7, 0, none⟩), .pointer (some ⟨zb4, 0, none⟩)]]) zb22 0 ?_
 intro zw25 zS26
 refine nil_ (then_n (seq_ (reg_ ?_)))
 refine pure_ (.pointer (some ⟨zb22, 1, none⟩)) ?_
 refine load1_ zS26 0 (.func (.func 42) #[] #[.pointer (some ⟨zb7, 0, none⟩), .pointer (some ⟨zb4, 0, none⟩)]) zb22 1 ?_
 refine call_ 42 #[.pointer (some ⟨zb7, 0, none⟩), .pointer (some ⟨zb4, 0, none⟩)] ?_
 refine enter_ Try.func42 rfl ?_
 refine seq_ (reg_ ?_)
 refine pure_ (.bool false) ?_
 refine nil_ (then_n (seq_ (reg_ ?_)))
 refine load1_ zS26 5 (.int .i64 fr) zb7 0 ?_
 refine pure_ (.pointer (some ⟨zb4, 0, none⟩)) ?_
 refine load1_ zS26 6 (.int .i64 h) zb4 0 ?_
 refine pure_ (.bool (fr != h)) ?_
 refine pure_ (.bool (fr != h)) ?_
 refine nil_ (then_n (wp_ret ?_))
 refine ret_ rfl (res_ [.tmp 2] [.bool (fr != h)] (.bool (fr != h)) ⟨res_tmp, trivial⟩) ?_
 refine nil_ (then_n ?_)
 refine cond_S (fr != h) ?_ ?_
 · intro zh27
   have zh28 := neT' zh27
   refine seq_ (reg_ ?_)
   refine pure_ (.pointer (some ⟨zb22, 0, none⟩)) ?_
   refine load1_ zS26 0 (.int .i64 20) zb22 0 ?_
   refine pure_ (.int .i64 20) ?_
   refine nil_ (then_n (wp_ret (blk_r (then_r (then_r (blk_r (then_r ?_)))))))
   refine ret_ rfl (res_ [.tmp 2] [.int .i64 20] (.int .i64 20) ⟨res_tmp, trivial⟩) ?_
   refine pure_ (.int .i64 20) ?_
   refine nil_ (then_n (seq_ (seq_ (reg_ ?_))))
   refine pure_ (.int .i64 20) ?_
   refine pure_ (.bool true) ?_
   refine nil_ (then_n (cond_T ?_))
   refine seq_ (reg_ ?_)
   refine loadN_ zS26 6 8 #[.int .i64 h, .int .i64 e, .int .i64 o, .int .i64 a1, .int .i64 a2, .int .i64 b1, .int .i64 b2, .bool bd] zb4 0 ?_
   refine pure_ (.int .i64 20) ?_
   refine store_ zS26 2 (.agg #[.int .i64 h, .int .i64 e, .int .i64 o, .int .i64 a1, .int .i64 a2, .int .i64 b1, .int .i64 b2, .bool bd]) zb16 0 ?_
   intro zw29 zS30
   refine pure_ (.int .i64 20) ?_
   refine nil_ (then_n (wp_ret (then_r ?_)))
   refine ret_ rfl (res_ [.cell 10 47, .tmp 11] [.agg #[.int .i64 h, .int .i64 e, .int .i64 o, .int .i64 a1, .int .i64 a2, .int .i64 b1, .int .i64 b2, .bool bd], .int .i64 20] (.tuple #[.agg #[.int .i64 h, .int .i64 e, .int .i64 o, .int .i64 a1, .int .i64 a2, .int .i64 b1, .int .i64 b2, .bool bd], .int .i64 20]) ⟨res_cellN zS30 2 8 zb16 0, res_tmp, trivial⟩) ?_
   have hk : makeCode h e o fr to_ there = 20 := by simp only [makeCode, cond_true, cond_false, Bool.true_or, Bool.or_true, Bool.false_or, Bool.or_false, Bool.not_true, Bool.not_false, zh27]
   rw [hc] at hk
   exact absurd hk (by decide)
 intro zh31
 have zh32 := neF' zh31
 refine wp_skip (blk_n (then_n (reg_ ?_)))
 refine pure_ (.int .i64 1) ?_
 refine pure_ (.int .i64 1) ?_
 refine nil_ (again_ (seq_ (reg_ ?_)))
 refine pure_ (.bool true) ?_
 refine nil_ (then_n (seq_ (cond_T ?_)))
 refine wp_skip (then_n (seq_ (wp_block (seq_ (reg_ ?_)))))
 refine pure_ (.pointer (some ⟨zb19, 2, none⟩)) ?_
 refine loadN_ zS26 1 2 #[.int .i64 24, .func (.func 43) #[] #[.pointer (some ⟨zb4, 0, none⟩)]] zb19 2 ?_
 refine new_ zS26 (fun b => .pointer (some ⟨b, 0, none⟩)) (.cells #[.int .i64 0, .nilFunc] 80) ?_
 intro zb33 zw34 zS35
 refine store_ zS35 0 (.agg #[.int .i64 24, .func (.func 43) #[] #[.pointer (some ⟨zb4, 0, none⟩)]]) zb33 0 ?_
 intro zw36 zS37
 refine nil_ (then_n (seq_ (reg_ ?_)))
 refine pure_ (.pointer (some ⟨zb33, 1, none⟩)) ?_
 refine load1_ zS37 0 (.func (.func 43) #[] #[.pointer (some ⟨zb4, 0, none⟩)]) zb33 1 ?_
 refine call_ 43 #[.pointer (some ⟨zb4, 0, none⟩)] ?_
 refine enter_ Try.func43 rfl ?_
 refine seq_ (reg_ ?_)
 refine pure_ (.bool false) ?_
 refine nil_ (then_n (seq_ (reg_ ?_)))
 refine pure_ (.pointer (some ⟨zb4, 1, none⟩)) ?_
 refine load1_ zS37 7 (.int .i64 e) zb4 1 ?_
 refine pure_ (.bool (decide (65535 ≤ e))) ?_
 refine assign_ ?_
 refine nil_ (then_n (wp_ret ?_))
 refine ret_ rfl (res_ [.tmp 1] [.bool (decide (65535 ≤ e))] (.bool (decide (65535 ≤ e))) ⟨res_tmp, trivial⟩) ?_
 refine nil_ (then_n ?_)
 refine cond_S (decide (65535 ≤ e)) ?_ ?_
 · intro zh38
   have zh39 := leT' zh38
   refine seq_ (reg_ ?_)
   refine pure_ (.pointer (some ⟨zb33, 0, none⟩)) ?_
   refine load1_ zS37 0 (.int .i64 24) zb33 0 ?_
   refine pure_ (.int .i64 24) ?_
   refine nil_ (then_n (wp_ret (blk_r (then_r (then_r (blk_r (then_r ?_)))))))
   refine ret_ rfl (res_ [.tmp 2] [.int .i64 24] (.int .i64 24) ⟨res_tmp, trivial⟩) ?_
   refine pure_ (.int .i64 24) ?_
   refine nil_ (then_n (seq_ (seq_ (reg_ ?_))))
   refine pure_ (.int .i64 24) ?_
   refine pure_ (.bool true) ?_
   refine nil_ (then_n (cond_T ?_))
   refine seq_ (reg_ ?_)
   refine loadN_ zS37 7 8 #[.int .i64 h, .int .i64 e, .int .i64 o, .int .i64 a1, .int .i64 a2, .int .i64 b1, .int .i64 b2, .bool bd] zb4 0 ?_
   refine pure_ (.int .i64 24) ?_
   refine store_ zS37 3 (.agg #[.int .i64 h, .int .i64 e, .int .i64 o, .int .i64 a1, .int .i64 a2, .int .i64 b1, .int .i64 b2, .bool bd]) zb16 0 ?_
   intro zw40 zS41
   refine pure_ (.int .i64 24) ?_
   refine nil_ (then_n (wp_ret (then_r ?_)))
   refine ret_ rfl (res_ [.cell 10 47, .tmp 11] [.agg #[.int .i64 h, .int .i64 e, .int .i64 o, .int .i64 a1, .int .i64 a2, .int .i64 b1, .int .i64 b2, .bool bd], .int .i64 24] (.tuple #[.agg #[.int .i64 h, .int .i64 e, .int .i64 o, .int .i64 a1, .int .i64 a2, .int .i64 b1, .int .i64 b2, .bool bd], .int .i64 24]) ⟨res_cellN zS41 3 8 zb16 0, res_tmp, trivial⟩) ?_
   have hk : makeCode h e o fr to_ there = 24 := by simp only [makeCode, cond_true, cond_false, Bool.true_or, Bool.or_true, Bool.false_or, Bool.or_false, Bool.not_true, Bool.not_false, zh31, zh38]
   rw [hc] at hk
   exact absurd hk (by decide)
 intro zh42
 have zh43 := leF' zh42
 refine wp_skip (blk_n (then_n (reg_ ?_)))
 refine pure_ (.int .i64 2) ?_
 refine pure_ (.int .i64 2) ?_
 refine nil_ (again_ (seq_ (reg_ ?_)))
 refine pure_ (.bool true) ?_
 refine nil_ (then_n (seq_ (cond_T ?_)))
 refine wp_skip (then_n (seq_ (wp_block (seq_ (reg_ ?_)))))
 refine pure_ (.pointer (some ⟨zb19, 4, none⟩)) ?_
 refine loadN_ zS37 2 2 #[.int .i64 25, .func (.func 44) #[] #[.pointer (some ⟨zb10, 0, none⟩), .pointer (some ⟨zb7, 0, none⟩)]] zb19 4 ?_
 refine new_ zS37 (fun b => .pointer (some ⟨b, 0, none⟩)) (.cells #[.int .i64 0, .nilFunc] 80) ?_
 intro zb44 zw45 zS46
 refine store_ zS46 0 (.agg #[.int .i64 25, .func (.func 44) #[] #[.pointer (some ⟨zb10, 0, none⟩), .pointer (some ⟨zb7, 0, none⟩)]]) zb44 0 ?_
 intro zw47 zS48
 refine nil_ (then_n (seq_ (reg_ ?_)))
 refine pure_ (.pointer (some ⟨zb44, 1, none⟩)) ?_
 refine load1_ zS48 0 (.func (.func 44) #[] #[.pointer (some ⟨zb10, 0, none⟩), .pointer (some ⟨zb7, 0, none⟩)]) zb44 1 ?_
 refine call_ 44 #[.pointer (some ⟨zb10, 0, none⟩), .pointer (some ⟨zb7, 0, none⟩)] ?_
 refine enter_ Try.func44 rfl ?_
 refine seq_ (reg_ ?_)
 refine pure_ (.bool false) ?_
 refine nil_ (then_n (seq_ (reg_ ?_)))
 refine load1_ zS48 6 (.int .i64 to_) zb10 0 ?_
 refine load1_ zS48 7 (.int .i64 fr) zb7 0 ?_
 refine pure_ (.bool (to_ == fr)) ?_
 refine pure_ (.bool (to_ == fr)) ?_
 refine nil_ (then_n (wp_ret ?_))
 refine ret_ rfl (res_ [.tmp 2] [.bool (to_ == fr)] (.bool (to_ == fr)) ⟨res_tmp, trivial⟩) ?_
 refine nil_ (then_n ?_)
 refine cond_S (to_ == fr) ?_ ?_
 · intro zh49
   have zh50 := eqT' zh49
   refine seq_ (reg_ ?_)
   refine pure_ (.pointer (some ⟨zb44, 0, none⟩)) ?_
   refine load1_ zS48 0 (.int .i64 25) zb44 0 ?_
   refine pure_ (.int .i64 25) ?_
   refine nil_ (then_n (wp_ret (blk_r (then_r (then_r (blk_r (then_r ?_)))))))
   refine ret_ rfl (res_ [.tmp 2] [.int .i64 25] (.int .i64 25) ⟨res_tmp, trivial⟩) ?_
   refine pure_ (.int .i64 25) ?_
   refine nil_ (then_n (seq_ (seq_ (reg_ ?_))))
   refine pure_ (.int .i64 25) ?_
   refine pure_ (.bool true) ?_
   refine nil_ (then_n (cond_T ?_))
   refine seq_ (reg_ ?_)
   refine loadN_ zS48 8 8 #[.int .i64 h, .int .i64 e, .int .i64 o, .int .i64 a1, .int .i64 a2, .int .i64 b1, .int .i64 b2, .bool bd] zb4 0 ?_
   refine pure_ (.int .i64 25) ?_
   refine store_ zS48 4 (.agg #[.int .i64 h, .int .i64 e, .int .i64 o, .int .i64 a1, .int .i64 a2, .int .i64 b1, .int .i64 b2, .bool bd]) zb16 0 ?_
   intro zw51 zS52
   refine pure_ (.int .i64 25) ?_
   refine nil_ (then_n (wp_ret (then_r ?_)))
   refine ret_ rfl (res_ [.cell 10 47, .tmp 11] [.agg #[.int .i64 h, .int .i64 e, .int .i64 o, .int .i64 a1, .int .i64 a2, .int .i64 b1, .int .i64 b2, .bool bd], .int .i64 25] (.tuple #[.agg #[.int .i64 h, .int .i64 e, .int .i64 o, .int .i64 a1, .int .i64 a2, .int .i64 b1, .int .i64 b2, .bool bd], .int .i64 25]) ⟨res_cellN zS52 4 8 zb16 0, res_tmp, trivial⟩) ?_
   have hk : makeCode h e o fr to_ there = 25 := by simp only [makeCode, cond_true, cond_false, Bool.true_or, Bool.or_true, Bool.false_or, Bool.or_false, Bool.not_true, Bool.not_false, zh31, zh42, zh49]
   rw [hc] at hk
   exact absurd hk (by decide)
 intro zh53
 have zh54 := eqF' zh53
 refine wp_skip (blk_n (then_n (reg_ ?_)))
 refine pure_ (.int .i64 3) ?_
 refine pure_ (.int .i64 3) ?_
 refine nil_ (again_ (seq_ (reg_ ?_)))
 refine pure_ (.bool true) ?_
 refine nil_ (then_n (seq_ (cond_T ?_)))
 refine wp_skip (then_n (seq_ (wp_block (seq_ (reg_ ?_)))))
 refine pure_ (.pointer (some ⟨zb19, 6, none⟩)) ?_
 refine loadN_ zS48 3 2 #[.int .i64 2, .func (.func 45) #[] #[.pointer (some ⟨zb10, 0, none⟩), .pointer (some ⟨zb13, 0, none⟩)]] zb19 6 ?_
 refine new_ zS48 (fun b => .pointer (some ⟨b, 0, none⟩)) (.cells #[.int .i64 0, .nilFunc] 80) ?_
 intro zb55 zw56 zS57
 refine store_ zS57 0 (.agg #[.int .i64 2, .func (.func 45) #[] #[.pointer (some ⟨zb10, 0, none⟩), .pointer (some ⟨zb13, 0, none⟩)]]) zb55 0 ?_
 intro zw58 zS59
 refine nil_ (then_n (seq_ (reg_ ?_)))
 refine pure_ (.pointer (some ⟨zb55, 1, none⟩)) ?_
 refine load1_ zS59 0 (.func (.func 45) #[] #[.pointer (some ⟨zb10, 0, none⟩), .pointer (some ⟨zb13, 0, none⟩)]) zb55 1 ?_
 refine call_ 45 #[.pointer (some ⟨zb10, 0, none⟩), .pointer (some ⟨zb13, 0, none⟩)] ?_
 refine enter_ Try.func45 rfl ?_
 refine seq_ (reg_ ?_)
 refine pure_ (.bool false) ?_
 refine nil_ (then_n (seq_ (reg_ ?_)))
 refine load1_ zS59 7 (.int .i64 to_) zb10 0 ?_
 refine pure_ (.bool (decide (to_ < 1))) ?_
 refine pure_ (.bool (decide (to_ < 1))) ?_
 refine slot_ 5 (decide (to_ < 1)) ?_ ?_
 · intro zh60
   have zh61 := ltT' zh60
   refine skip_ ?_
   refine skip_ ?_
   refine pure_ (.bool true) ?_
   refine pure_ (.bool true) ?_
   refine skip_ ?_
   refine skip_ ?_
   refine pure_ (.bool true) ?_
   refine pure_ (.bool true) ?_
   refine nil_ (then_n (wp_ret ?_))
   refine ret_ rfl (res_ [.tmp 2] [.bool true] (.bool true) ⟨res_tmp, trivial⟩) ?_
   refine nil_ (then_n (cond_T ?_))
   refine seq_ (reg_ ?_)
   refine pure_ (.pointer (some ⟨zb55, 0, none⟩)) ?_
   refine load1_ zS59 0 (.int .i64 2) zb55 0 ?_
   refine pure_ (.int .i64 2) ?_
   refine nil_ (then_n (wp_ret (blk_r (then_r (then_r (blk_r (then_r ?_)))))))
   refine ret_ rfl (res_ [.tmp 2] [.int .i64 2] (.int .i64 2) ⟨res_tmp, trivial⟩) ?_
   refine pure_ (.int .i64 2) ?_
   refine nil_ (then_n (seq_ (seq_ (reg_ ?_))))
   refine pure_ (.int .i64 2) ?_
   refine pure_ (.bool true) ?_
   refine nil_ (then_n (cond_T ?_))
   refine seq_ (reg_ ?_)
   refine loadN_ zS59 9 8 #[.int .i64 h, .int .i64 e, .int .i64 o, .int .i64 a1, .int .i64 a2, .int .i64 b1, .int .i64 b2, .bool bd] zb4 0 ?_
   refine pure_ (.int .i64 2) ?_
   refine store_ zS59 5 (.agg #[.int .i64 h, .int .i64 e, .int .i64 o, .int .i64 a1, .int .i64 a2, .int .i64 b1, .int .i64 b2, .bool bd]) zb16 0 ?_
   intro zw62 zS63
   refine pure_ (.int .i64 2) ?_
   refine nil_ (then_n (wp_ret (then_r ?_)))
   refine ret_ rfl (res_ [.cell 10 47, .tmp 11] [.agg #[.int .i64 h, .int .i64 e, .int .i64 o, .int .i64 a1, .int .i64 a2, .int .i64 b1, .int .i64 b2, .bool bd], .int .i64 2] (.tuple #[.agg #[.int .i64 h, .int .i64 e, .int .i64 o, .int .i64 a1, .int .i64 a2, .int .i64 b1, .int .i64 b2, .bool bd], .int .i64 2]) ⟨res_cellN zS63 5 8 zb16 0, res_tmp, trivial⟩) ?_
   have hk : makeCode h e o fr to_ there = 2 := by simp only [makeCode, cond_true, cond_false, Bool.true_or, Bool.or_true, Bool.false_or, Bool.or_false, Bool.not_true, Bool.not_false, zh31, zh42, zh53, zh60]
   rw [hc] at hk
   exact absurd hk (by decide)
 intro zh64
 have zh65 := ltF' zh64
 refine load1_ zS59 7 (.int .i64 to_) zb10 0 ?_
 refine pure_ (.bool (decide (3 < to_))) ?_
 refine pure_ (.bool (decide (3 < to_))) ?_
 refine pure_ (.bool (decide (3 < to_))) ?_
 refine slot_ 9 (decide (3 < to_)) ?_ ?_
 · intro zh66
   have zh67 := ltT' zh66
   refine skip_ ?_
   refine skip_ ?_
   refine pure_ (.bool true) ?_
   refine pure_ (.bool true) ?_
   refine nil_ (then_n (wp_ret ?_))
   refine ret_ rfl (res_ [.tmp 2] [.bool true] (.bool true) ⟨res_tmp, trivial⟩) ?_
   refine nil_ (then_n (cond_T ?_))
   refine seq_ (reg_ ?_)
   refine pure_ (.pointer (some ⟨zb55, 0, none⟩)) ?_
   refine load1_ zS59 0 (.int .i64 2) zb55 0 ?_
   refine pure_ (.int .i64 2) ?_
   refine nil_ (then_n (wp_ret (blk_r (then_r (then_r (blk_r (then_r ?_)))))))
   refine ret_ rfl (res_ [.tmp 2] [.int .i64 2] (.int .i64 2) ⟨res_tmp, trivial⟩) ?_
   refine pure_ (.int .i64 2) ?_
   refine nil_ (then_n (seq_ (seq_ (reg_ ?_))))
   refine pure_ (.int .i64 2) ?_
   refine pure_ (.bool true) ?_
   refine nil_ (then_n (cond_T ?_))
   refine seq_ (reg_ ?_)
   refine loadN_ zS59 9 8 #[.int .i64 h, .int .i64 e, .int .i64 o, .int .i64 a1, .int .i64 a2, .int .i64 b1, .int .i64 b2, .bool bd] zb4 0 ?_
   refine pure_ (.int .i64 2) ?_
   refine store_ zS59 5 (.agg #[.int .i64 h, .int .i64 e, .int .i64 o, .int .i64 a1, .int .i64 a2, .int .i64 b1, .int .i64 b2, .bool bd]) zb16 0 ?_
   intro zw68 zS69
   refine pure_ (.int .i64 2) ?_
   refine nil_ (then_n (wp_ret (then_r ?_)))
   refine ret_ rfl (res_ [.cell 10 47, .tmp 11] [.agg #[.int .i64 h, .int .i64 e, .int .i64 o, .int .i64 a1, .int .i64 a2, .int .i64 b1, .int .i64 b2, .bool bd], .int .i64 2] (.tuple #[.agg #[.int .i64 h, .int .i64 e, .int .i64 o, .int .i64 a1, .int .i64 a2, .int .i64 b1, .int .i64 b2, .bool bd], .int .i64 2]) ⟨res_cellN zS69 5 8 zb16 0, res_tmp, trivial⟩) ?_
   have hk : makeCode h e o fr to_ there = 2 := by simp only [makeCode, cond_true, cond_false, Bool.true_or, Bool.or_true, Bool.false_or, Bool.or_false, Bool.not_true, Bool.not_false, zh31, zh42, zh53, zh64, zh66]
   rw [hc] at hk
   exact absurd hk (by decide)
 intro zh70
 have zh71 := ltF' zh70
 refine load1_ zS59 6 (.bool there) zb13 0 ?_
 refine pure_ (.bool (!there)) ?_
 refine pure_ (.bool (!there)) ?_
 refine pure_ (.bool (!there)) ?_
 refine nil_ (then_n (wp_ret ?_))
 refine ret_ rfl (res_ [.tmp 2] [.bool (!there)] (.bool (!there)) ⟨res_tmp, trivial⟩) ?_
 refine nil_ (then_n ?_)
 refine cond_S (!there) ?_ ?_
 · intro zh72
   have zh73 := notT' zh72
   refine seq_ (reg_ ?_)
   refine pure_ (.pointer (some ⟨zb55, 0, none⟩)) ?_
   refine load1_ zS59 0 (.int .i64 2) zb55 0 ?_
   refine pure_ (.int .i64 2) ?_
   refine nil_ (then_n (wp_ret (blk_r (then_r (then_r (blk_r (then_r ?_)))))))
   refine ret_ rfl (res_ [.tmp 2] [.int .i64 2] (.int .i64 2) ⟨res_tmp, trivial⟩) ?_
   refine pure_ (.int .i64 2) ?_
   refine nil_ (then_n (seq_ (seq_ (reg_ ?_))))
   refine pure_ (.int .i64 2) ?_
   refine pure_ (.bool true) ?_
   refine nil_ (then_n (cond_T ?_))
   refine seq_ (reg_ ?_)
   refine loadN_ zS59 9 8 #[.int .i64 h, .int .i64 e, .int .i64 o, .int .i64 a1, .int .i64 a2, .int .i64 b1, .int .i64 b2, .bool bd] zb4 0 ?_
   refine pure_ (.int .i64 2) ?_
   refine store_ zS59 5 (.agg #[.int .i64 h, .int .i64 e, .int .i64 o, .int .i64 a1, .int .i64 a2, .int .i64 b1, .int .i64 b2, .bool bd]) zb16 0 ?_
   intro zw74 zS75
   refine pure_ (.int .i64 2) ?_
   refine nil_ (then_n (wp_ret (then_r ?_)))
   refine ret_ rfl (res_ [.cell 10 47, .tmp 11] [.agg #[.int .i64 h, .int .i64 e, .int .i64 o, .int .i64 a1, .int .i64 a2, .int .i64 b1, .int .i64 b2, .bool bd], .int .i64 2] (.tuple #[.agg #[.int .i64 h, .int .i64 e, .int .i64 o, .int .i64 a1, .int .i64 a2, .int .i64 b1, .int .i64 b2, .bool bd], .int .i64 2]) ⟨res_cellN zS75 5 8 zb16 0, res_tmp, trivial⟩) ?_
   have hk : makeCode h e o fr to_ there = 2 := by simp only [makeCode, cond_true, cond_false, Bool.true_or, Bool.or_true, Bool.false_or, Bool.or_false, Bool.not_true, Bool.not_false, zh31, zh42, zh53, zh64, zh70, zh72, zh73]
   rw [hc] at hk
   exact absurd hk (by decide)
 intro zh76
 have zh77 := notF' zh76
 refine wp_skip (blk_n (then_n (reg_ ?_)))
 refine pure_ (.int .i64 4) ?_
 refine pure_ (.int .i64 4) ?_
 refine nil_ (again_ (seq_ (reg_ ?_)))
 refine pure_ (.bool true) ?_
 refine nil_ (then_n (seq_ (cond_T ?_)))
 refine wp_skip (then_n (seq_ (wp_block (seq_ (reg_ ?_)))))
 refine pure_ (.pointer (some ⟨zb19, 8, none⟩)) ?_
 refine loadN_ zS59 4 2 #[.int .i64 28, .func (.func 46) #[] #[.pointer (some ⟨zb4, 0, none⟩)]] zb19 8 ?_
 refine new_ zS59 (fun b => .pointer (some ⟨b, 0, none⟩)) (.cells #[.int .i64 0, .nilFunc] 80) ?_
 intro zb78 zw79 zS80
 refine store_ zS80 0 (.agg #[.int .i64 28, .func (.func 46) #[] #[.pointer (some ⟨zb4, 0, none⟩)]]) zb78 0 ?_
 intro zw81 zS82
 refine nil_ (then_n (seq_ (reg_ ?_)))
 refine pure_ (.pointer (some ⟨zb78, 1, none⟩)) ?_
 refine load1_ zS82 0 (.func (.func 46) #[] #[.pointer (some ⟨zb4, 0, none⟩)]) zb78 1 ?_
 refine call_ 46 #[.pointer (some ⟨zb4, 0, none⟩)] ?_
 refine enter_ Try.func46 rfl ?_
 refine seq_ (reg_ ?_)
 refine pure_ (.bool false) ?_
 refine nil_ (then_n (seq_ (reg_ ?_)))
 refine loadN_ zS82 10 8 #[.int .i64 h, .int .i64 e, .int .i64 o, .int .i64 a1, .int .i64 a2, .int .i64 b1, .int .i64 b2, .bool bd] zb4 0 ?_
 refine call_ 47 #[.agg #[.int .i64 h, .int .i64 e, .int .i64 o, .int .i64 a1, .int .i64 a2, .int .i64 b1, .int .i64 b2, .bool bd]] ?_
 refine enter_ Try.func47 rfl ?_
 refine seq_ (reg_ ?_)
 refine new_ zS82 (fun b => .pointer (some ⟨b, 0, none⟩)) (.cells #[.int .i64 h, .int .i64 e, .int .i64 o, .int .i64 a1, .int .i64 a2, .int .i64 b1, .int .i64 b2, .bool bd] 47) ?_
 intro zb83 zw84 zS85
 refine pure_ (.bool false) ?_
 refine nil_ (then_n (seq_ (reg_ ?_)))
 refine pure_ (.pointer (some ⟨zb83, 2, none⟩)) ?_
 refine load1_ zS85 0 (.int .i64 o) zb83 2 ?_
 refine pure_ (.bool (decide (0 ≤ o))) ?_
 refine pure_ (.bool (decide (0 ≤ o))) ?_
 refine nil_ (then_n (wp_ret ?_))
 refine ret_ rfl (res_ [.tmp 2] [.bool (decide (0 ≤ o))] (.bool (decide (0 ≤ o))) ⟨res_tmp, trivial⟩) ?_
 refine pure_ (.bool (decide (0 ≤ o))) ?_
 refine nil_ (then_n (wp_ret ?_))
 refine ret_ rfl (res_ [.tmp 1] [.bool (decide (0 ≤ o))] (.bool (decide (0 ≤ o))) ⟨res_tmp, trivial⟩) ?_
 refine nil_ (then_n ?_)
 refine cond_S (decide (0 ≤ o)) ?_ ?_
 · intro zh86
   have zh87 := leT' zh86
   refine seq_ (reg_ ?_)
   refine pure_ (.pointer (some ⟨zb78, 0, none⟩)) ?_
   refine load1_ zS85 1 (.int .i64 28) zb78 0 ?_
   refine pure_ (.int .i64 28) ?_
   refine nil_ (then_n (wp_ret (blk_r (then_r (then_r (blk_r (then_r ?_)))))))
   refine ret_ rfl (res_ [.tmp 2] [.int .i64 28] (.int .i64 28) ⟨res_tmp, trivial⟩) ?_
   refine pure_ (.int .i64 28) ?_
   refine nil_ (then_n (seq_ (seq_ (reg_ ?_))))
   refine pure_ (.int .i64 28) ?_
   refine pure_ (.bool true) ?_
   refine nil_ (then_n (cond_T ?_))
   refine seq_ (reg_ ?_)
   refine loadN_ zS85 11 8 #[.int .i64 h, .int .i64 e, .int .i64 o, .int .i64 a1, .int .i64 a2, .int .i64 b1, .int .i64 b2, .bool bd] zb4 0 ?_
   refine pure_ (.int .i64 28) ?_
   refine store_ zS85 7 (.agg #[.int .i64 h, .int .i64 e, .int .i64 o, .int .i64 a1, .int .i64 a2, .int .i64 b1, .int .i64 b2, .bool bd]) zb16 0 ?_
   intro zw88 zS89
   refine pure_ (.int .i64 28) ?_
   refine nil_ (then_n (wp_ret (then_r ?_)))
   refine ret_ rfl (res_ [.cell 10 47, .tmp 11] [.agg #[.int .i64 h, .int .i64 e, .int .i64 o, .int .i64 a1, .int .i64 a2, .int .i64 b1, .int .i64 b2, .bool bd], .int .i64 28] (.tuple #[.agg #[.int .i64 h, .int .i64 e, .int .i64 o, .int .i64 a1, .int .i64 a2, .int .i64 b1, .int .i64 b2, .bool bd], .int .i64 28]) ⟨res_cellN zS89 7 8 zb16 0, res_tmp, trivial⟩) ?_
   have hk : makeCode h e o fr to_ there = 28 := by simp only [makeCode, cond_true, cond_false, Bool.true_or, Bool.or_true, Bool.false_or, Bool.or_false, Bool.not_true, Bool.not_false, zh31, zh42, zh53, zh64, zh70, zh76, zh77, zh86]
   rw [hc] at hk
   exact absurd hk (by decide)
 intro zh90
 have zh91 := leF' zh90
 refine wp_skip (blk_n (then_n (reg_ ?_)))
 refine pure_ (.int .i64 5) ?_
 refine pure_ (.int .i64 5) ?_
 refine nil_ (again_ (seq_ (reg_ ?_)))
 refine pure_ (.bool false) ?_
 refine nil_ (then_n (seq_ (cond_F ?_)))
 refine wp_exit (then_e (then_e (blk_e (then_n (seq_ (reg_ ?_))))))
 refine pure_ (.int .i64 0) ?_
 refine nil_ (then_n (wp_ret ?_))
 refine ret_ rfl (res_ [.tmp 2] [.int .i64 0] (.int .i64 0) ⟨res_tmp, trivial⟩) ?_
 refine pure_ (.int .i64 0) ?_
 refine nil_ (then_n (seq_ (seq_ (reg_ ?_))))
 refine pure_ (.int .i64 0) ?_
 refine pure_ (.bool false) ?_
 refine nil_ (then_n (cond_F ?_))
 refine wp_skip (then_n (seq_ ?_))
 refine drawnL_ 5 [⟨0, fun _ => .int .i64 to_, fun _ => []⟩, ⟨0, fun _ => .pointer (some ⟨zb1, 44, none⟩), fun _ => []⟩, ⟨0, fun _ => .int .i64 (q 44), fun _ => []⟩, ⟨0, fun _ => .agg #[.int .i64 0, .int .i64 (max0 (q 44))], fun _ => []⟩, ⟨0, fun _ => .pointer (some ⟨zb4, 2, none⟩), fun _ => []⟩] [[5, 0], [5, 3, 2, 1], [5, 3, 2], [5, 3], [5, 4], [6, 0], [6, 1], [6, 2], [6, 3], [6, 4], [6, 5], [7, 0], [7, 1], [7, 2], [7, 3], [7, 4], [7, 5], [7, 6]] ?_ ?_
 · refine step_cons ?_ ?_
   · intro zy92 zw93 zhc94 zhf95 zhp96
     have zh97 : zy92 8 = .pointer (some ⟨zb10, 0, none⟩) := (zhf95 8 (by kernel_rfl)).trans (by kernel_rfl)
     have zS98 := zS85.quiet zhc94
     refine step1 ?_
     refine yenv [(8, .pointer (some ⟨zb10, 0, none⟩))] (ag_cons zh97 (ag_nil)) ?_
     have zS99 := zS98.loc
     refine Y.load1_ zS99 9 (.int .i64 to_) zb10 0 ?_
     exact ⟨zS99.ch, Sp.mk_holds [] (all_nil)⟩
   refine step_cons ?_ ?_
   · intro zy100 zw101 zhc102 zhf103 zhp104
     have zh105 : zy100 5 = .pointer (some ⟨zb1, 0, none⟩) := (zhf103 5 (by kernel_rfl)).trans (by kernel_rfl)
     have zS106 := zS85.quiet zhc102
     refine step1 ?_
     refine yenv [(5, .pointer (some ⟨zb1, 0, none⟩))] (ag_cons zh105 (ag_nil)) ?_
     have zS107 := zS106.loc
     refine Y.pure_ (.pointer (some ⟨zb1, 44, none⟩)) ?_
     exact ⟨zS107.ch, Sp.mk_holds [] (all_nil)⟩
   refine step_cons ?_ ?_
   · intro zy108 zw109 zhc110 zhf111 zhp112
     have zh113 : zy108 30 = .pointer (some ⟨zb1, 44, none⟩) := (Sp.out0 (zhp112 1 30 (by kernel_rfl) (by kernel_rfl))).1
     have zS114 := zS85.quiet zhc110
     refine step1 ?_
     refine yenv [(30, .pointer (some ⟨zb1, 44, none⟩))] (ag_cons zh113 (ag_nil)) ?_
     have zS115 := zS114.loc
     refine Y.load1_ zS115 12 (.int .i64 (q 44)) zb1 44 ?_
     exact ⟨zS115.ch, Sp.mk_holds [] (all_nil)⟩
   refine step_cons ?_ ?_
   · intro zy116 zw117 zhc118 zhf119 zhp120
     have zh121 : zy116 31 = .int .i64 (q 44) := (Sp.out0 (zhp120 2 31 (by kernel_rfl) (by kernel_rfl))).1
     have zS122 := zS85.quiet zhc118
     refine step1 ?_
     refine yenv [(31, .int .i64 (q 44))] (ag_cons zh121 (ag_nil)) ?_
     have zS123 := zS122.loc
     refine Y.call_ 17 #[.int .i64 (q 44)] ?_
     refine enter_ Try.func17 rfl ?_
     refine seq_ (reg_ ?_)
     refine new_ zS123 (fun b => .pointer (some ⟨b, 0, none⟩)) (.cells #[.int .i64 0, .int .i64 0] 25) ?_
     intro zb124 zw125 zS126
     refine nil_ (then_n (seq_ (reg_ ?_)))
     refine pure_ (.int .i64 (q 44)) ?_
     refine pureE_ (.int .i64 (if (q 44) < 0 then 0 else (q 44))) (.int .i64 (max0 (q 44))) (congrArg _ (rfl)) ?_
     refine pure_ (.agg #[.int .i64 0, .int .i64 (max0 (q 44))]) ?_
     refine store_ zS126 0 (.agg #[.int .i64 0, .int .i64 (max0 (q 44))]) zb124 0 ?_
     intro zw127 zS128
     refine nil_ (then_n (wp_ret ?_))
     refine ret_ rfl (res_ [.cell 2 25] [.agg #[.int .i64 0, .int .i64 (max0 (q 44))]] (.agg #[.int .i64 0, .int .i64 (max0 (q 44))]) ⟨res_cellN zS128 0 2 zb124 0, trivial⟩) ?_
     exact ⟨zS128.ch, Sp.mk_holds [] (all_nil)⟩
   refine step_cons ?_ ?_
   · intro zy129 zw130 zhc131 zhf132 zhp133
     have zh134 : zy129 6 = .pointer (some ⟨zb4, 0, none⟩) := (zhf132 6 (by kernel_rfl)).trans (by kernel_rfl)
     have zS135 := zS85.quiet zhc131
     refine step1 ?_
     refine yenv [(6, .pointer (some ⟨zb4, 0, none⟩))] (ag_cons zh134 (ag_nil)) ?_
     have zS136 := zS135.loc
     refine Y.pure_ (.pointer (some ⟨zb4, 2, none⟩)) ?_
     exact ⟨zS136.ch, Sp.mk_holds [] (all_nil)⟩
   exact step_nil
 intro zv137 zw138 zhc139 zha140
 have zh141 : zv137 0 = .int .i64 to_ := (Sp.out0 (zha140 0 (by kernel_rfl))).1
 have zh142 : zv137 1 = .pointer (some ⟨zb1, 44, none⟩) := (Sp.out0 (zha140 1 (by kernel_rfl))).1
 have zh143 : zv137 2 = .int .i64 (q 44) := (Sp.out0 (zha140 2 (by kernel_rfl))).1
 have zh144 : zv137 3 = .agg #[.int .i64 0, .int .i64 (max0 (q 44))] := (Sp.out0 (zha140 3 (by kernel_rfl))).1
 have zh145 : zv137 4 = .pointer (some ⟨zb4, 2, none⟩) := (Sp.out0 (zha140 4 (by kernel_rfl))).1
 have zS146 := zS85.quiet zhc139
 refine ⟨[.int .i64 to_, .pointer (some ⟨zb1, 44, none⟩), .int .i64 (q 44), .agg #[.int .i64 0, .int .i64 (max0 (q 44))], .pointer (some ⟨zb4, 2, none⟩)], by kernel_rfl, va_cons zh141 (va_cons zh142 (va_cons zh143 (va_cons zh144 (va_cons zh145 (va_nil))))), ?_⟩
 refine store_ zS146 11 (.int .i64 to_) zb4 2 ?_
 intro zw147 zS148
 refine pure_ (.pointer (some ⟨zb4, 3, none⟩)) ?_
 refine store_ zS148 11 (.agg #[.int .i64 0, .int .i64 (max0 (q 44))]) zb4 3 ?_
 intro zw149 zS150
 refine nil_ (then_n (seq_ (reg_ ?_)))
 refine loadN_ zS150 11 8 #[.int .i64 h, .int .i64 e, .int .i64 to_, .int .i64 0, .int .i64 (max0 (q 44)), .int .i64 b1, .int .i64 b2, .bool bd] zb4 0 ?_
 refine store_ zS150 7 (.agg #[.int .i64 h, .int .i64 e, .int .i64 to_, .int .i64 0, .int .i64 (max0 (q 44)), .int .i64 b1, .int .i64 b2, .bool bd]) zb16 0 ?_
 intro zw151 zS152
 refine pure_ (.int .i64 0) ?_
 refine nil_ (then_n (wp_ret ?_))
 refine ret_ rfl (res_ [.cell 10 47, .tmp 11] [.agg #[.int .i64 h, .int .i64 e, .int .i64 to_, .int .i64 0, .int .i64 (max0 (q 44)), .int .i64 b1, .int .i64 b2, .bool bd], .int .i64 0] (.tuple #[.agg #[.int .i64 h, .int .i64 e, .int .i64 to_, .int .i64 0, .int .i64 (max0 (q 44)), .int .i64 b1, .int .i64 b2, .bool bd], .int .i64 0]) ⟨res_cellN zS152 7 8 zb16 0, res_tmp, trivial⟩) ?_
 have hk : makeCode h e o fr to_ there = 0 := by simp only [makeCode, cond_true, cond_false, Bool.true_or, Bool.or_true, Bool.false_or, Bool.or_false, Bool.not_true, Bool.not_false, zh31, zh42, zh53, zh64, zh70, zh76, zh77, zh90]
 exact ⟨rfl, zS152.ch⟩

set_option maxRecDepth 100000 in
set_option maxHeartbeats 4000000 in
theorem shown19  (w : World) :
    Gives Try.prog 25 #[] w fun v w1 => v = .bool true ∧ Ch [] w w1 := by
 have S0 := St.nil [] w
 refine enter_ Try.func25 rfl ?_
 refine seq_ (reg_ ?_)
 refine pure_ (.bool false) ?_
 refine nil_ (then_n (seq_ (reg_ ?_)))
 refine pure_ (.agg #[.int .i64 1, .int .i64 5, .int .i64 (-1), .int .i64 0, .int .i64 0, .int .i64 0, .int .i64 0, .bool false]) ?_
 refine new_ S0 (fun b => .pointer (some ⟨b, 0, none⟩)) (.cells #[.int .i64 0, .int .i64 0, .int .i64 0, .int .i64 0, .int .i64 0, .int .i64 0, .int .i64 0, .bool false] 47) ?_
 intro zb1 zw2 zS3
 refine store_ zS3 0 (.agg #[.int .i64 1, .int .i64 5, .int .i64 (-1), .int .i64 0, .int .i64 0, .int .i64 0, .int .i64 0, .bool false]) zb1 0 ?_
 intro zw4 zS5
 refine nil_ (then_n (seq_ (reg_ ?_)))
 refine pure_ (.agg #[.int .i64 0, .int .i64 0, .int .i64 0, .int .i64 0, .int .i64 0, .slice none 0 0, .slice none 0 0, .slice none 0 0, .slice none 0 0, .int .i64 0, .int .i64 0, .int .i64 0, .int .i64 0, .int .i64 0, .int .i64 0, .int .i64 0, .int .i64 0, .int .i64 0, .int .i64 0, .int .i64 0, .int .i64 0, .int .i64 0, .int .i64 0, .int .i64 0, .int .i64 0, .int .i64 0, .int .i64 0, .int .i64 0, .int .i64 0, .int .i64 0, .int .i64 0, .int .i64 0, .int .i64 0, .int .i64 0, .int .i64 0, .int .i64 0, .int .i64 0, .int .i64 0, .int .i64 0, .int .i64 0, .int .i64 0, .int .i64 0, .int .i64 0, .int .i64 0, .int .i64 3, .int .i64 0, .int .i64 0, .int .i64 0, .int .i64 0, .int .i64 0, .int .i64 0, .int .i64 0, .int .i64 0, .int .i64 0, .int .i64 0, .int .i64 0]) ?_
 refine loadN_ zS5 0 8 #[.int .i64 1, .int .i64 5, .int .i64 (-1), .int .i64 0, .int .i64 0, .int .i64 0, .int .i64 0, .bool false] zb1 0 ?_
 refine call_ 26 #[.agg #[.int .i64 0, .int .i64 0, .int .i64 0, .int .i64 0, .int .i64 0, .slice none 0 0, .slice none 0 0, .slice none 0 0, .slice none 0 0, .int .i64 0, .int .i64 0, .int .i64 0, .int .i64 0, .int .i64 0, .int .i64 0, .int .i64 0, .int .i64 0, .int .i64 0, .int .i64 0, .int .i64 0, .int .i64 0, .int .i64 0, .int .i64 0, .int .i64 0, .int .i64 0, .int .i64 0, .int .i64 0, .int .i64 0, .int .i64 0, .int .i64 0, .int .i64 0, .int .i64 0, .int .i64 0, .int .i64 0, .int .i64 0, .int .i64 0, .int .i64 0, .int .i64 0, .int .i64 0, .int .i64 0, .int .i64 0, .int .i64 0, .int .i64 0, .int .i64 0, .int .i64 3, .int .i64 0, .int .i64 0, .int .i64 0, .int .i64 0, .int .i64 0, .int .i64 0, .int .i64 0, .int .i64 0, .int .i64 0, .int .i64 0, .int .i64 0], .agg #[.int .i64 1, .int .i64 5, .int .i64 (-1), .int .i64 0, .int .i64 0, .int .i64 0, .int .i64 0, .bool false], .int .i64 1, .int .i64 2, .bool true] ?_
 refine enter_ Try.func26 rfl ?_
 refine seq_ (reg_ ?_)
 refine new_ zS5 (fun b => .pointer (some ⟨b, 0, none⟩)) (.cells #[.int .i64 0, .int .i64 0, .int .i64 0, .int .i64 0, .int .i64 0, .slice none 0 0, .slice none 0 0, .slice none 0 0, .slice none 0 0, .int .i64 0, .int .i64 0, .int .i64 0, .int .i64 0, .int .i64 0, .int .i64 0, .int .i64 0, .int .i64 0, .int .i64 0, .int .i64 0, .int .i64 0, .int .i64 0, .int .i64 0, .int .i64 0, .int .i64 0, .int .i64 0, .int .i64 0, .int .i64 0, .int .i64 0, .int .i64 0, .int .i64 0, .int .i64 0, .int .i64 0, .int .i64 0, .int .i64 0, .int .i64 0, .int .i64 0, .int .i64 0, .int .i64 0, .int .i64 0, .int .i64 0, .int .i64 0, .int .i64 0, .int .i64 0, .int .i64 0, .int .i64 3, .int .i64 0, .int .i64 0, .int .i64 0, .int .i64 0, .int .i64 0, .int .i64 0, .int .i64 0, .int .i64 0, .int .i64 0, .int .i64 0, .int .i64 0] 37) ?_
 intro zb6 zw7 zS8
 refine new_ zS8 (fun b => .pointer (some ⟨b, 0, none⟩)) (.cells #[.int .i64 1, .int .i64 5, .int .i64 (-1), .int .i64 0, .int .i64 0, .int .i64 0, .int .i64 0, .bool false] 47) ?_
 intro zb9 zw10 zS11
 refine new_ zS11 (fun b => .pointer (some ⟨b, 0, none⟩)) (.cells #[.int .i64 1] 3) ?_
 intro zb12 zw13 zS14
 refine new_ zS14 (fun b => .pointer (some ⟨b, 0, none⟩)) (.cells #[.int .i64 2] 3) ?_
 intro zb15 zw16 zS17
 refine new_ zS17 (fun b => .pointer (some ⟨b, 0, none⟩)) (.cells #[.bool true] 4) ?_
 intro zb18 zw19 zS20
 refine new_ zS20 (fun b => .pointer (some ⟨b, 0, none⟩)) (.cells #[.int .i64 0, .int .i64 0, .int .i64 0, .int .i64 0, .int .i64 0, .int .i64 0, .int .i64 0, .bool false] 47) ?_
 intro zb21 zw22 zS23
 refine pure_ (.int .i64 0) ?_
 refine nil_ (then_n (seq_ (reg_ ?_)))
 refine pure_ (.func (.func 42) #[] #[.pointer (some ⟨zb12, 0, none⟩), .pointer (some ⟨zb9, 0, none⟩)]) ?_
 refine pure_ (.agg #[.int .i64 20, .func (.func 42) #[] #[.pointer (some ⟨zb12, 0, none⟩), .pointer (some ⟨zb9, 0, none⟩)]]) ?_
 refine pure_ (.func (.func 43) #[] #[.pointer (some ⟨zb9, 0, none⟩)]) ?_
 refine pure_ (.agg #[.int .i64 24, .func (.func 43) #[] #[.pointer (some ⟨zb9, 0, none⟩)]]) ?_
 refine pure_ (.func (.func 44) #[] #[.pointer (some ⟨zb15, 0, none⟩), .pointer (some ⟨zb12, 0, none⟩)]) ?_
 refine pure_ (.agg #[.int .i64 25, .func (.func 44) #[] #[.pointer (some ⟨zb15, 0, none⟩), .pointer (some ⟨zb12, 0, none⟩)]]) ?_
 refine pure_ (.func (.func 45) #[] #[.pointer (some ⟨zb15, 0, none⟩), .pointer (some ⟨zb18, 0, none⟩)]) ?_
 refine pure_ (.agg #[.int .i64 2, .func (.func 45) #[] #[.pointer (some ⟨zb15, 0, none⟩), .pointer (some ⟨zb18, 0, none⟩)]]) ?_
 refine pure_ (.func (.func 46) #[] #[.pointer (some ⟨zb9, 0, none⟩)]) ?_
 refine pure_ (.agg #[.int .i64 28, .func (.func 46) #[] #[.pointer (some ⟨zb9, 0, none⟩)]]) ?_
 refine new_ zS23 (fun b => .slice (some ⟨b, 0, none⟩) 5 5) (.cells #[.int .i64 20, .func (.func 42) #[] #[.pointer (some ⟨zb12, 0, none⟩), .pointer (some ⟨zb9, 0, none⟩)], .int .i64 24, .func (.func 43) #[] #[.pointer (some ⟨zb9, 0, none⟩)], .int .i64 25, .func (.func 44) #[] #[.pointer (some ⟨zb15, 0, none⟩), .pointer (some ⟨zb12, 0, none⟩)], .int .i64 2, .func (.func 45) #[] #[.pointer (some ⟨zb15, 0, none⟩), .pointer (some ⟨zb18, 0, none⟩)], .int .i64 28, .func (.func 46) #[] #[.pointer (some ⟨zb9, 0, none⟩)]] 80) ?_
 intro zb24 zw25 zS26
 refine call_ 41 #[.slice (some ⟨zb24, 0, none⟩) 5 5] ?_
 refine enter_ Try.func41 rfl ?_
 refine seq_ (reg_ ?_)
 refine pure_ (.int .i64 0) ?_
 refine nil_ (then_n (seq_ (seq_ (reg_ ?_))))
 refine move_ ?_
 refine pure_ (.int .i64 5) ?_
 refine pure_ (.int .i64 0) ?_
 refine nil_ (then_n (wp_block (loop_ 24 (seq_ (reg_ ?_)))))
 refine pure_ (.bool true) ?_
 refine nil_ (then_n (seq_ (cond_T ?_)))
 refine wp_skip (then_n (seq_ (wp_block (seq_ (reg_ ?_)))))
 refine pure_ (.pointer (some ⟨zb24, 0, none⟩)) ?_
 refine loadN_ zS26 0 2 #[.int .i64 20, .func (.func 42) #[] #[.pointer (some ⟨zb12, 0, none⟩), .pointer (some ⟨zb9, 0, none⟩)]] zb24 0 ?_
 refine new_ zS26 (fun b => .pointer (some ⟨b, 0, none⟩)) (.cells #[.int .i64 0, .nilFunc] 80) ?_
 intro zb27 zw28 zS29
 refine store_ zS29 0 (.agg #[.int .i64 20, .func (.func 42) #[] #[.pointer (some ⟨zb12, 0, none⟩), .pointer (some ⟨zb9, 0, none⟩)]]) zb27 0 ?_
 intro zw30 zS31
 refine nil_ (then_n (seq_ (reg_ ?_)))
 refine pure_ (.pointer (some ⟨zb27, 1, none⟩)) ?_
 refine load1_ zS31 0 (.func (.func 42) #[] #[.pointer (some ⟨zb12, 0, none⟩), .pointer (some ⟨zb9, 0, none⟩)]) zb27 1 ?_
 refine call_ 42 #[.pointer (some ⟨zb12, 0, none⟩), .pointer (some ⟨zb9, 0, none⟩)] ?_
 refine enter_ Try.func42 rfl ?_
 refine seq_ (reg_ ?_)
 refine pure_ (.bool false) ?_
 refine nil_ (then_n (seq_ (reg_ ?_)))
 refine load1_ zS31 5 (.int .i64 1) zb12 0 ?_
 refine pure_ (.pointer (some ⟨zb9, 0, none⟩)) ?_
 refine load1_ zS31 6 (.int .i64 1) zb9 0 ?_
 refine pure_ (.bool false) ?_
 refine pure_ (.bool false) ?_
 refine nil_ (then_n (wp_ret ?_))
 refine ret_ rfl (res_ [.tmp 2] [.bool false] (.bool false) ⟨res_tmp, trivial⟩) ?_
 refine nil_ (then_n (cond_F ?_))
 refine wp_skip (blk_n (then_n (reg_ ?_)))
 refine pure_ (.int .i64 1) ?_
 refine pure_ (.int .i64 1) ?_
 refine nil_ (again_ (seq_ (reg_ ?_)))
 refine pure_ (.bool true) ?_
 refine nil_ (then_n (seq_ (cond_T ?_)))
 refine wp_skip (then_n (seq_ (wp_block (seq_ (reg_ ?_)))))
 refine pure_ (.pointer (some ⟨zb24, 2, none⟩)) ?_
 refine loadN_ zS31 1 2 #[.int .i64 24, .func (.func 43) #[] #[.pointer (some ⟨zb9, 0, none⟩)]] zb24 2 ?_
 refine new_ zS31 (fun b => .pointer (some ⟨b, 0, none⟩)) (.cells #[.int .i64 0, .nilFunc] 80) ?_
 intro zb32 zw33 zS34
 refine store_ zS34 0 (.agg #[.int .i64 24, .func (.func 43) #[] #[.pointer (some ⟨zb9, 0, none⟩)]]) zb32 0 ?_
 intro zw35 zS36
 refine nil_ (then_n (seq_ (reg_ ?_)))
 refine pure_ (.pointer (some ⟨zb32, 1, none⟩)) ?_
 refine load1_ zS36 0 (.func (.func 43) #[] #[.pointer (some ⟨zb9, 0, none⟩)]) zb32 1 ?_
 refine call_ 43 #[.pointer (some ⟨zb9, 0, none⟩)] ?_
 refine enter_ Try.func43 rfl ?_
 refine seq_ (reg_ ?_)
 refine pure_ (.bool false) ?_
 refine nil_ (then_n (seq_ (reg_ ?_)))
 refine pure_ (.pointer (some ⟨zb9, 1, none⟩)) ?_
 refine load1_ zS36 7 (.int .i64 5) zb9 1 ?_
 refine pure_ (.bool false) ?_
 refine pure_ (.bool false) ?_
 refine nil_ (then_n (wp_ret ?_))
 refine ret_ rfl (res_ [.tmp 1] [.bool false] (.bool false) ⟨res_tmp, trivial⟩) ?_
 refine nil_ (then_n (cond_F ?_))
 refine wp_skip (blk_n (then_n (reg_ ?_)))
 refine pure_ (.int .i64 2) ?_
 refine pure_ (.int .i64 2) ?_
 refine nil_ (again_ (seq_ (reg_ ?_)))
 refine pure_ (.bool true) ?_
 refine nil_ (then_n (seq_ (cond_T ?_)))
 refine wp_skip (then_n (seq_ (wp_block (seq_ (reg_ ?_)))))
 refine pure_ (.pointer (some ⟨zb24, 4, none⟩)) ?_
 refine loadN_ zS36 2 2 #[.int .i64 25, .func (.func 44) #[] #[.pointer (some ⟨zb15, 0, none⟩), .pointer (some ⟨zb12, 0, none⟩)]] zb24 4 ?_
 refine new_ zS36 (fun b => .pointer (some ⟨b, 0, none⟩)) (.cells #[.int .i64 0, .nilFunc] 80) ?_
 intro zb37 zw38 zS39
 refine store_ zS39 0 (.agg #[.int .i64 25, .func (.func 44) #[] #[.pointer (some ⟨zb15, 0, none⟩), .pointer (some ⟨zb12, 0, none⟩)]]) zb37 0 ?_
 intro zw40 zS41
 refine nil_ (then_n (seq_ (reg_ ?_)))
 refine pure_ (.pointer (some ⟨zb37, 1, none⟩)) ?_
 refine load1_ zS41 0 (.func (.func 44) #[] #[.pointer (some ⟨zb15, 0, none⟩), .pointer (some ⟨zb12, 0, none⟩)]) zb37 1 ?_
 refine call_ 44 #[.pointer (some ⟨zb15, 0, none⟩), .pointer (some ⟨zb12, 0, none⟩)] ?_
 refine enter_ Try.func44 rfl ?_
 refine seq_ (reg_ ?_)
 refine pure_ (.bool false) ?_
 refine nil_ (then_n (seq_ (reg_ ?_)))
 refine load1_ zS41 6 (.int .i64 2) zb15 0 ?_
 refine load1_ zS41 7 (.int .i64 1) zb12 0 ?_
 refine pure_ (.bool false) ?_
 refine pure_ (.bool false) ?_
 refine nil_ (then_n (wp_ret ?_))
 refine ret_ rfl (res_ [.tmp 2] [.bool false] (.bool false) ⟨res_tmp, trivial⟩) ?_
 refine nil_ (then_n (cond_F ?_))
 refine wp_skip (blk_n (then_n (reg_ ?_)))
 refine pure_ (.int .i64 3) ?_
 refine pure_ (.int .i64 3) ?_
 refine nil_ (again_ (seq_ (reg_ ?_)))
 refine pure_ (.bool true) ?_
 refine nil_ (then_n (seq_ (cond_T ?_)))
 refine wp_skip (then_n (seq_ (wp_block (seq_ (reg_ ?_)))))
 refine pure_ (.pointer (some ⟨zb24, 6, none⟩)) ?_
 refine loadN_ zS41 3 2 #[.int .i64 2, .func (.func 45) #[] #[.pointer (some ⟨zb15, 0, none⟩), .pointer (some ⟨zb18, 0, none⟩)]] zb24 6 ?_
 refine new_ zS41 (fun b => .pointer (some ⟨b, 0, none⟩)) (.cells #[.int .i64 0, .nilFunc] 80) ?_
 intro zb42 zw43 zS44
 refine store_ zS44 0 (.agg #[.int .i64 2, .func (.func 45) #[] #[.pointer (some ⟨zb15, 0, none⟩), .pointer (some ⟨zb18, 0, none⟩)]]) zb42 0 ?_
 intro zw45 zS46
 refine nil_ (then_n (seq_ (reg_ ?_)))
 refine pure_ (.pointer (some ⟨zb42, 1, none⟩)) ?_
 refine load1_ zS46 0 (.func (.func 45) #[] #[.pointer (some ⟨zb15, 0, none⟩), .pointer (some ⟨zb18, 0, none⟩)]) zb42 1 ?_
 refine call_ 45 #[.pointer (some ⟨zb15, 0, none⟩), .pointer (some ⟨zb18, 0, none⟩)] ?_
 refine enter_ Try.func45 rfl ?_
 refine seq_ (reg_ ?_)
 refine pure_ (.bool false) ?_
 refine nil_ (then_n (seq_ (reg_ ?_)))
 refine load1_ zS46 7 (.int .i64 2) zb15 0 ?_
 refine pure_ (.bool false) ?_
 refine pure_ (.bool false) ?_
 refine load1_ zS46 7 (.int .i64 2) zb15 0 ?_
 refine pure_ (.bool false) ?_
 refine pure_ (.bool false) ?_
 refine pure_ (.bool false) ?_
 refine load1_ zS46 6 (.bool true) zb18 0 ?_
 refine pure_ (.bool false) ?_
 refine pure_ (.bool false) ?_
 refine pure_ (.bool false) ?_
 refine nil_ (then_n (wp_ret ?_))
 refine ret_ rfl (res_ [.tmp 2] [.bool false] (.bool false) ⟨res_tmp, trivial⟩) ?_
 refine nil_ (then_n (cond_F ?_))
 refine wp_skip (blk_n (then_n (reg_ ?_)))
 refine pure_ (.int .i64 4) ?_
 refine pure_ (.int .i64 4) ?_
 refine nil_ (again_ (seq_ (reg_ ?_)))
 refine pure_ (.bool true) ?_
 refine nil_ (then_n (seq_ (cond_T ?_)))
 refine wp_skip (then_n (seq_ (wp_block (seq_ (reg_ ?_)))))
 refine pure_ (.pointer (some ⟨zb24, 8, none⟩)) ?_
 refine loadN_ zS46 4 2 #[.int .i64 28, .func (.func 46) #[] #[.pointer (some ⟨zb9, 0, none⟩)]] zb24 8 ?_
 refine new_ zS46 (fun b => .pointer (some ⟨b, 0, none⟩)) (.cells #[.int .i64 0, .nilFunc] 80) ?_
 intro zb47 zw48 zS49
 refine store_ zS49 0 (.agg #[.int .i64 28, .func (.func 46) #[] #[.pointer (some ⟨zb9, 0, none⟩)]]) zb47 0 ?_
 intro zw50 zS51
 refine nil_ (then_n (seq_ (reg_ ?_)))
 refine pure_ (.pointer (some ⟨zb47, 1, none⟩)) ?_
 refine load1_ zS51 0 (.func (.func 46) #[] #[.pointer (some ⟨zb9, 0, none⟩)]) zb47 1 ?_
 refine call_ 46 #[.pointer (some ⟨zb9, 0, none⟩)] ?_
 refine enter_ Try.func46 rfl ?_
 refine seq_ (reg_ ?_)
 refine pure_ (.bool false) ?_
 refine nil_ (then_n (seq_ (reg_ ?_)))
 refine loadN_ zS51 10 8 #[.int .i64 1, .int .i64 5, .int .i64 (-1), .int .i64 0, .int .i64 0, .int .i64 0, .int .i64 0, .bool false] zb9 0 ?_
 refine call_ 47 #[.agg #[.int .i64 1, .int .i64 5, .int .i64 (-1), .int .i64 0, .int .i64 0, .int .i64 0, .int .i64 0, .bool false]] ?_
 refine enter_ Try.func47 rfl ?_
 refine seq_ (reg_ ?_)
 refine new_ zS51 (fun b => .pointer (some ⟨b, 0, none⟩)) (.cells #[.int .i64 1, .int .i64 5, .int .i64 (-1), .int .i64 0, .int .i64 0, .int .i64 0, .int .i64 0, .bool false] 47) ?_
 intro zb52 zw53 zS54
 refine pure_ (.bool false) ?_
 refine nil_ (then_n (seq_ (reg_ ?_)))
 refine pure_ (.pointer (some ⟨zb52, 2, none⟩)) ?_
 refine load1_ zS54 0 (.int .i64 (-1)) zb52 2 ?_
 refine pure_ (.bool false) ?_
 refine pure_ (.bool false) ?_
 refine nil_ (then_n (wp_ret ?_))
 refine ret_ rfl (res_ [.tmp 2] [.bool false] (.bool false) ⟨res_tmp, trivial⟩) ?_
 refine pure_ (.bool false) ?_
 refine nil_ (then_n (wp_ret ?_))
 refine ret_ rfl (res_ [.tmp 1] [.bool false] (.bool false) ⟨res_tmp, trivial⟩) ?_
 refine nil_ (then_n (cond_F ?_))
 refine wp_skip (blk_n (then_n (reg_ ?_)))
 refine pure_ (.int .i64 5) ?_
 refine pure_ (.int .i64 5) ?_
 refine nil_ (again_ (seq_ (reg_ ?_)))
 refine pure_ (.bool false) ?_
 refine nil_ (then_n (seq_ (cond_F ?_)))
 refine wp_exit (then_e (then_e (blk_e (then_n (seq_ (reg_ ?_))))))
 refine pure_ (.int .i64 0) ?_
 refine nil_ (then_n (wp_ret ?_))
 refine ret_ rfl (res_ [.tmp 2] [.int .i64 0] (.int .i64 0) ⟨res_tmp, trivial⟩) ?_
 refine pure_ (.int .i64 0) ?_
 refine nil_ (then_n (seq_ (seq_ (reg_ ?_))))
 refine pure_ (.int .i64 0) ?_
 refine pure_ (.bool false) ?_
 refine nil_ (then_n (cond_F ?_))
 refine wp_skip (then_n (seq_ ?_))
 refine drawnL_ 5 [⟨0, fun _ => .int .i64 2, fun _ => []⟩, ⟨0, fun _ => .pointer (some ⟨zb6, 44, none⟩), fun _ => []⟩, ⟨0, fun _ => .int .i64 3, fun _ => []⟩, ⟨0, fun _ => .agg #[.int .i64 0, .int .i64 3], fun _ => []⟩, ⟨0, fun _ => .pointer (some ⟨zb9, 2, none⟩), fun _ => []⟩] [[5, 0], [5, 3, 2, 1], [5, 3, 2], [5, 3], [5, 4], [6, 0], [6, 1], [6, 2], [6, 3], [6, 4], [6, 5], [7, 0], [7, 1], [7, 2], [7, 3], [7, 4], [7, 5], [7, 6]] ?_ ?_
 · refine step_cons ?_ ?_
   · intro zy55 zw56 zhc57 zhf58 zhp59
     have zh60 : zy55 8 = .pointer (some ⟨zb15, 0, none⟩) := (zhf58 8 (by kernel_rfl)).trans (by kernel_rfl)
     have zS61 := zS54.quiet zhc57
     refine step1 ?_
     refine yenv [(8, .pointer (some ⟨zb15, 0, none⟩))] (ag_cons zh60 (ag_nil)) ?_
     have zS62 := zS61.loc
     refine Y.load1_ zS62 9 (.int .i64 2) zb15 0 ?_
     exact ⟨zS62.ch, Sp.mk_holds [] (all_nil)⟩
   refine step_cons ?_ ?_
   · intro zy63 zw64 zhc65 zhf66 zhp67
     have zh68 : zy63 5 = .pointer (some ⟨zb6, 0, none⟩) := (zhf66 5 (by kernel_rfl)).trans (by kernel_rfl)
     have zS69 := zS54.quiet zhc65
     refine step1 ?_
     refine yenv [(5, .pointer (some ⟨zb6, 0, none⟩))] (ag_cons zh68 (ag_nil)) ?_
     have zS70 := zS69.loc
     refine Y.pure_ (.pointer (some ⟨zb6, 44, none⟩)) ?_
     exact ⟨zS70.ch, Sp.mk_holds [] (all_nil)⟩
   refine step_cons ?_ ?_
   · intro zy71 zw72 zhc73 zhf74 zhp75
     have zh76 : zy71 30 = .pointer (some ⟨zb6, 44, none⟩) := (Sp.out0 (zhp75 1 30 (by kernel_rfl) (by kernel_rfl))).1
     have zS77 := zS54.quiet zhc73
     refine step1 ?_
     refine yenv [(30, .pointer (some ⟨zb6, 44, none⟩))] (ag_cons zh76 (ag_nil)) ?_
     have zS78 := zS77.loc
     refine Y.load1_ zS78 12 (.int .i64 3) zb6 44 ?_
     exact ⟨zS78.ch, Sp.mk_holds [] (all_nil)⟩
   refine step_cons ?_ ?_
   · intro zy79 zw80 zhc81 zhf82 zhp83
     have zh84 : zy79 31 = .int .i64 3 := (Sp.out0 (zhp83 2 31 (by kernel_rfl) (by kernel_rfl))).1
     have zS85 := zS54.quiet zhc81
     refine step1 ?_
     refine yenv [(31, .int .i64 3)] (ag_cons zh84 (ag_nil)) ?_
     have zS86 := zS85.loc
     refine Y.call_ 17 #[.int .i64 3] ?_
     refine enter_ Try.func17 rfl ?_
     refine seq_ (reg_ ?_)
     refine new_ zS86 (fun b => .pointer (some ⟨b, 0, none⟩)) (.cells #[.int .i64 0, .int .i64 0] 25) ?_
     intro zb87 zw88 zS89
     refine nil_ (then_n (seq_ (reg_ ?_)))
     refine pure_ (.int .i64 3) ?_
     refine pure_ (.int .i64 3) ?_
     refine pure_ (.agg #[.int .i64 0, .int .i64 3]) ?_
     refine store_ zS89 0 (.agg #[.int .i64 0, .int .i64 3]) zb87 0 ?_
     intro zw90 zS91
     refine nil_ (then_n (wp_ret ?_))
     refine ret_ rfl (res_ [.cell 2 25] [.agg #[.int .i64 0, .int .i64 3]] (.agg #[.int .i64 0, .int .i64 3]) ⟨res_cellN zS91 0 2 zb87 0, trivial⟩) ?_
     exact ⟨zS91.ch, Sp.mk_holds [] (all_nil)⟩
   refine step_cons ?_ ?_
   · intro zy92 zw93 zhc94 zhf95 zhp96
     have zh97 : zy92 6 = .pointer (some ⟨zb9, 0, none⟩) := (zhf95 6 (by kernel_rfl)).trans (by kernel_rfl)
     have zS98 := zS54.quiet zhc94
     refine step1 ?_
     refine yenv [(6, .pointer (some ⟨zb9, 0, none⟩))] (ag_cons zh97 (ag_nil)) ?_
     have zS99 := zS98.loc
     refine Y.pure_ (.pointer (some ⟨zb9, 2, none⟩)) ?_
     exact ⟨zS99.ch, Sp.mk_holds [] (all_nil)⟩
   exact step_nil
 intro zv100 zw101 zhc102 zha103
 have zh104 : zv100 0 = .int .i64 2 := (Sp.out0 (zha103 0 (by kernel_rfl))).1
 have zh105 : zv100 1 = .pointer (some ⟨zb6, 44, none⟩) := (Sp.out0 (zha103 1 (by kernel_rfl))).1
 have zh106 : zv100 2 = .int .i64 3 := (Sp.out0 (zha103 2 (by kernel_rfl))).1
 have zh107 : zv100 3 = .agg #[.int .i64 0, .int .i64 3] := (Sp.out0 (zha103 3 (by kernel_rfl))).1
 have zh108 : zv100 4 = .pointer (some ⟨zb9, 2, none⟩) := (Sp.out0 (zha103 4 (by kernel_rfl))).1
 have zS109 := zS54.quiet zhc102
 refine ⟨[.int .i64 2, .pointer (some ⟨zb6, 44, none⟩), .int .i64 3, .agg #[.int .i64 0, .int .i64 3], .pointer (some ⟨zb9, 2, none⟩)], by kernel_rfl, va_cons zh104 (va_cons zh105 (va_cons zh106 (va_cons zh107 (va_cons zh108 (va_nil))))), ?_⟩
 refine store_ zS109 11 (.int .i64 2) zb9 2 ?_
 intro zw110 zS111
 refine pure_ (.pointer (some ⟨zb9, 3, none⟩)) ?_
 refine store_ zS111 11 (.agg #[.int .i64 0, .int .i64 3]) zb9 3 ?_
 intro zw112 zS113
 refine nil_ (then_n (seq_ (reg_ ?_)))
 refine loadN_ zS113 11 8 #[.int .i64 1, .int .i64 5, .int .i64 2, .int .i64 0, .int .i64 3, .int .i64 0, .int .i64 0, .bool false] zb9 0 ?_
 refine store_ zS113 7 (.agg #[.int .i64 1, .int .i64 5, .int .i64 2, .int .i64 0, .int .i64 3, .int .i64 0, .int .i64 0, .bool false]) zb21 0 ?_
 intro zw114 zS115
 refine pure_ (.int .i64 0) ?_
 refine nil_ (then_n (wp_ret ?_))
 refine ret_ rfl (res_ [.cell 10 47, .tmp 11] [.agg #[.int .i64 1, .int .i64 5, .int .i64 2, .int .i64 0, .int .i64 3, .int .i64 0, .int .i64 0, .bool false], .int .i64 0] (.tuple #[.agg #[.int .i64 1, .int .i64 5, .int .i64 2, .int .i64 0, .int .i64 3, .int .i64 0, .int .i64 0, .bool false], .int .i64 0]) ⟨res_cellN zS115 7 8 zb21 0, res_tmp, trivial⟩) ?_
 refine move_ ?_
 refine pure_ (.agg #[.int .i64 1, .int .i64 5, .int .i64 2, .int .i64 0, .int .i64 3, .int .i64 0, .int .i64 0, .bool false]) ?_
 refine pure_ (.int .i64 0) ?_
 refine new_ zS115 (fun b => .pointer (some ⟨b, 0, none⟩)) (.cells #[.int .i64 0, .int .i64 0, .int .i64 0, .int .i64 0, .int .i64 0, .int .i64 0, .int .i64 0, .bool false] 47) ?_
 intro zb116 zw117 zS118
 refine store_ zS118 0 (.agg #[.int .i64 1, .int .i64 5, .int .i64 2, .int .i64 0, .int .i64 3, .int .i64 0, .int .i64 0, .bool false]) zb116 0 ?_
 intro zw119 zS120
 refine pure_ (.int .i64 0) ?_
 refine nil_ (then_n (seq_ (reg_ ?_)))
 refine loadN_ zS120 0 8 #[.int .i64 1, .int .i64 5, .int .i64 2, .int .i64 0, .int .i64 3, .int .i64 0, .int .i64 0, .bool false] zb116 0 ?_
 refine call_ 40 #[.agg #[.int .i64 1, .int .i64 5, .int .i64 2, .int .i64 0, .int .i64 3, .int .i64 0, .int .i64 0, .bool false], .int .i64 2, .int .i64 5] ?_
 refine enter_ Try.func40 rfl ?_
 refine seq_ (reg_ ?_)
 refine new_ zS120 (fun b => .pointer (some ⟨b, 0, none⟩)) (.cells #[.int .i64 1, .int .i64 5, .int .i64 2, .int .i64 0, .int .i64 3, .int .i64 0, .int .i64 0, .bool false] 47) ?_
 intro zb121 zw122 zS123
 refine new_ zS123 (fun b => .pointer (some ⟨b, 0, none⟩)) (.cells #[.int .i64 2] 3) ?_
 intro zb124 zw125 zS126
 refine new_ zS126 (fun b => .pointer (some ⟨b, 0, none⟩)) (.cells #[.int .i64 5] 3) ?_
 intro zb127 zw128 zS129
 refine new_ zS129 (fun b => .pointer (some ⟨b, 0, none⟩)) (.cells #[.int .i64 0, .int .i64 0, .int .i64 0, .int .i64 0, .int .i64 0, .int .i64 0, .int .i64 0, .bool false] 47) ?_
 intro zb130 zw131 zS132
 refine pure_ (.int .i64 0) ?_
 refine nil_ (then_n (seq_ (reg_ ?_)))
 refine pure_ (.func (.func 65) #[] #[.pointer (some ⟨zb121, 0, none⟩), .pointer (some ⟨zb124, 0, none⟩)]) ?_
 refine pure_ (.agg #[.int .i64 28, .func (.func 65) #[] #[.pointer (some ⟨zb121, 0, none⟩), .pointer (some ⟨zb124, 0, none⟩)]]) ?_
 refine pure_ (.func (.func 66) #[] #[.pointer (some ⟨zb127, 0, none⟩), .pointer (some ⟨zb121, 0, none⟩)]) ?_
 refine pure_ (.agg #[.int .i64 21, .func (.func 66) #[] #[.pointer (some ⟨zb127, 0, none⟩), .pointer (some ⟨zb121, 0, none⟩)]]) ?_
 refine new_ zS132 (fun b => .slice (some ⟨b, 0, none⟩) 2 2) (.cells #[.int .i64 28, .func (.func 65) #[] #[.pointer (some ⟨zb121, 0, none⟩), .pointer (some ⟨zb124, 0, none⟩)], .int .i64 21, .func (.func 66) #[] #[.pointer (some ⟨zb127, 0, none⟩), .pointer (some ⟨zb121, 0, none⟩)]] 80) ?_
 intro zb133 zw134 zS135
 refine call_ 41 #[.slice (some ⟨zb133, 0, none⟩) 2 2] ?_
 refine enter_ Try.func41 rfl ?_
 refine seq_ (reg_ ?_)
 refine pure_ (.int .i64 0) ?_
 refine nil_ (then_n (seq_ (seq_ (reg_ ?_))))
 refine move_ ?_
 refine pure_ (.int .i64 2) ?_
 refine pure_ (.int .i64 0) ?_
 refine nil_ (then_n (wp_block (loop_ 24 (seq_ (reg_ ?_)))))
 refine pure_ (.bool true) ?_
 refine nil_ (then_n (seq_ (cond_T ?_)))
 refine wp_skip (then_n (seq_ (wp_block (seq_ (reg_ ?_)))))
 refine pure_ (.pointer (some ⟨zb133, 0, none⟩)) ?_
 refine loadN_ zS135 0 2 #[.int .i64 28, .func (.func 65) #[] #[.pointer (some ⟨zb121, 0, none⟩), .pointer (some ⟨zb124, 0, none⟩)]] zb133 0 ?_
 refine new_ zS135 (fun b => .pointer (some ⟨b, 0, none⟩)) (.cells #[.int .i64 0, .nilFunc] 80) ?_
 intro zb136 zw137 zS138
 refine store_ zS138 0 (.agg #[.int .i64 28, .func (.func 65) #[] #[.pointer (some ⟨zb121, 0, none⟩), .pointer (some ⟨zb124, 0, none⟩)]]) zb136 0 ?_
 intro zw139 zS140
 refine nil_ (then_n (seq_ (reg_ ?_)))
 refine pure_ (.pointer (some ⟨zb136, 1, none⟩)) ?_
 refine load1_ zS140 0 (.func (.func 65) #[] #[.pointer (some ⟨zb121, 0, none⟩), .pointer (some ⟨zb124, 0, none⟩)]) zb136 1 ?_
 refine call_ 65 #[.pointer (some ⟨zb121, 0, none⟩), .pointer (some ⟨zb124, 0, none⟩)] ?_
 refine enter_ Try.func65 rfl ?_
 refine seq_ (reg_ ?_)
 refine pure_ (.bool false) ?_
 refine nil_ (then_n (seq_ (reg_ ?_)))
 refine loadN_ zS140 5 8 #[.int .i64 1, .int .i64 5, .int .i64 2, .int .i64 0, .int .i64 3, .int .i64 0, .int .i64 0, .bool false] zb121 0 ?_
 refine call_ 47 #[.agg #[.int .i64 1, .int .i64 5, .int .i64 2, .int .i64 0, .int .i64 3, .int .i64 0, .int .i64 0, .bool false]] ?_
 refine enter_ Try.func47 rfl ?_
 refine seq_ (reg_ ?_)
 refine new_ zS140 (fun b => .pointer (some ⟨b, 0, none⟩)) (.cells #[.int .i64 1, .int .i64 5, .int .i64 2, .int .i64 0, .int .i64 3, .int .i64 0, .int .i64 0, .bool false] 47) ?_
 intro zb141 zw142 zS143
 refine pure_ (.bool false) ?_
 refine nil_ (then_n (seq_ (reg_ ?_)))
 refine pure_ (.pointer (some ⟨zb141, 2, none⟩)) ?_
 refine load1_ zS143 0 (.int .i64 2) zb141 2 ?_
 refine pure_ (.bool true) ?_
 refine pure_ (.bool true) ?_
 refine nil_ (then_n (wp_ret ?_))
 refine ret_ rfl (res_ [.tmp 2] [.bool true] (.bool true) ⟨res_tmp, trivial⟩) ?_
 refine pure_ (.bool false) ?_
 refine pure_ (.bool false) ?_
 refine pure_ (.pointer (some ⟨zb121, 2, none⟩)) ?_
 refine load1_ zS143 6 (.int .i64 2) zb121 2 ?_
 refine load1_ zS143 5 (.int .i64 2) zb124 0 ?_
 refine pure_ (.bool false) ?_
 refine pure_ (.bool false) ?_
 refine pure_ (.bool false) ?_
 refine nil_ (then_n (wp_ret ?_))
 refine ret_ rfl (res_ [.tmp 2] [.bool false] (.bool false) ⟨res_tmp, trivial⟩) ?_
 refine nil_ (then_n (cond_F ?_))
 refine wp_skip (blk_n (then_n (reg_ ?_)))
 refine pure_ (.int .i64 1) ?_
 refine pure_ (.int .i64 1) ?_
 refine nil_ (again_ (seq_ (reg_ ?_)))
 refine pure_ (.bool true) ?_
 refine nil_ (then_n (seq_ (cond_T ?_)))
 refine wp_skip (then_n (seq_ (wp_block (seq_ (reg_ ?_)))))
 refine pure_ (.pointer (some ⟨zb133, 2, none⟩)) ?_
 refine loadN_ zS143 2 2 #[.int .i64 21, .func (.func 66) #[] #[.pointer (some ⟨zb127, 0, none⟩), .pointer (some ⟨zb121, 0, none⟩)]] zb133 2 ?_
 refine new_ zS143 (fun b => .pointer (some ⟨b, 0, none⟩)) (.cells #[.int .i64 0, .nilFunc] 80) ?_
 intro zb144 zw145 zS146
 refine store_ zS146 0 (.agg #[.int .i64 21, .func (.func 66) #[] #[.pointer (some ⟨zb127, 0, none⟩), .pointer (some ⟨zb121, 0, none⟩)]]) zb144 0 ?_
 intro zw147 zS148
 refine nil_ (then_n (seq_ (reg_ ?_)))
 refine pure_ (.pointer (some ⟨zb144, 1, none⟩)) ?_
 refine load1_ zS148 0 (.func (.func 66) #[] #[.pointer (some ⟨zb127, 0, none⟩), .pointer (some ⟨zb121, 0, none⟩)]) zb144 1 ?_
 refine call_ 66 #[.pointer (some ⟨zb127, 0, none⟩), .pointer (some ⟨zb121, 0, none⟩)] ?_
 refine enter_ Try.func66 rfl ?_
 refine seq_ (reg_ ?_)
 refine pure_ (.bool false) ?_
 refine nil_ (then_n (seq_ (reg_ ?_)))
 refine load1_ zS148 5 (.int .i64 5) zb127 0 ?_
 refine pure_ (.pointer (some ⟨zb121, 1, none⟩)) ?_
 refine load1_ zS148 7 (.int .i64 5) zb121 1 ?_
 refine pure_ (.bool false) ?_
 refine pure_ (.bool false) ?_
 refine nil_ (then_n (wp_ret ?_))
 refine ret_ rfl (res_ [.tmp 2] [.bool false] (.bool false) ⟨res_tmp, trivial⟩) ?_
 refine nil_ (then_n (cond_F ?_))
 refine wp_skip (blk_n (then_n (reg_ ?_)))
 refine pure_ (.int .i64 2) ?_
 refine pure_ (.int .i64 2) ?_
 refine nil_ (again_ (seq_ (reg_ ?_)))
 refine pure_ (.bool false) ?_
 refine nil_ (then_n (seq_ (cond_F ?_)))
 refine wp_exit (then_e (then_e (blk_e (then_n (seq_ (reg_ ?_))))))
 refine pure_ (.int .i64 0) ?_
 refine nil_ (then_n (wp_ret ?_))
 refine ret_ rfl (res_ [.tmp 2] [.int .i64 0] (.int .i64 0) ⟨res_tmp, trivial⟩) ?_
 refine pure_ (.int .i64 0) ?_
 refine nil_ (then_n (seq_ (seq_ (reg_ ?_))))
 refine pure_ (.int .i64 0) ?_
 refine pure_ (.bool false) ?_
 refine nil_ (then_n (cond_F ?_))
 refine wp_skip (then_n (seq_ (reg_ ?_)))
 refine loadN_ zS148 7 8 #[.int .i64 1, .int .i64 5, .int .i64 2, .int .i64 0, .int .i64 3, .int .i64 0, .int .i64 0, .bool false] zb121 0 ?_
 refine load1_ zS148 6 (.int .i64 2) zb124 0 ?_
 refine call_ 23 #[.agg #[.int .i64 1, .int .i64 5, .int .i64 2, .int .i64 0, .int .i64 3, .int .i64 0, .int .i64 0, .bool false], .int .i64 2] ?_
 refine enter_ Try.func23 rfl ?_
 refine seq_ (reg_ ?_)
 refine new_ zS148 (fun b => .pointer (some ⟨b, 0, none⟩)) (.cells #[.int .i64 1, .int .i64 5, .int .i64 2, .int .i64 0, .int .i64 3, .int .i64 0, .int .i64 0, .bool false] 47) ?_
 intro zb149 zw150 zS151
 refine new_ zS151 (fun b => .pointer (some ⟨b, 0, none⟩)) (.cells #[.int .i64 0, .int .i64 0, .int .i64 0, .int .i64 0, .int .i64 0, .int .i64 0, .int .i64 0, .bool false] 47) ?_
 intro zb152 zw153 zS154
 refine pure_ (.int .i64 0) ?_
 refine nil_ (then_n (seq_ (wp_block (seq_ (reg_ ?_)))))
 refine pure_ (.int .i64 2) ?_
 refine pure_ (.bool false) ?_
 refine pure_ (.bool false) ?_
 refine pure_ (.int .i64 2) ?_
 refine pure_ (.bool false) ?_
 refine pure_ (.bool false) ?_
 refine pure_ (.bool false) ?_
 refine nil_ (then_n (cond_F ?_))
 refine seq_ (reg_ ?_)
 refine pure_ (.int .i64 2) ?_
 refine pure_ (.pointer (some ⟨zb149, 0, none⟩)) ?_
 refine load1_ zS154 1 (.int .i64 1) zb149 0 ?_
 refine pure_ (.bool false) ?_
 refine pure_ (.bool false) ?_
 refine nil_ (then_n (cond_F ?_))
 refine seq_ (reg_ ?_)
 refine pure_ (.pointer (some ⟨zb149, 1, none⟩)) ?_
 refine load1_ zS154 1 (.int .i64 5) zb149 1 ?_
 refine pure_ (.bool false) ?_
 refine pure_ (.bool false) ?_
 refine nil_ (then_n (cond_F ?_))
 refine wp_skip (blk_n (then_n (seq_ (reg_ ?_))))
 refine loadN_ zS154 1 8 #[.int .i64 1, .int .i64 5, .int .i64 2, .int .i64 0, .int .i64 3, .int .i64 0, .int .i64 0, .bool false] zb149 0 ?_
 refine pure_ (.func (.func 39) #[.agg #[.int .i64 1, .int .i64 5, .int .i64 2, .int .i64 0, .int .i64 3, .int .i64 0, .int .i64 0, .bool false]] #[]) ?_
 refine assign_ ?_
 refine nil_ (then_n (seq_ (reg_ ?_)))
 refine move_ ?_
 refine pure_ (.int .i64 2) ?_
 refine pure_ (.pointer (some ⟨zb149, 1, none⟩)) ?_
 refine load1_ zS154 1 (.int .i64 5) zb149 1 ?_
 refine pure_ (.int .i64 6) ?_
 refine call_ 39 #[.agg #[.int .i64 1, .int .i64 5, .int .i64 2, .int .i64 0, .int .i64 3, .int .i64 0, .int .i64 0, .bool false], .int .i64 2, .int .i64 6] ?_
 refine enter_ Try.func39 rfl ?_
 refine seq_ (reg_ ?_)
 refine new_ zS154 (fun b => .pointer (some ⟨b, 0, none⟩)) (.cells #[.int .i64 1, .int .i64 5, .int .i64 2, .int .i64 0, .int .i64 3, .int .i64 0, .int .i64 0, .bool false] 76) ?_
 intro zb155 zw156 zS157
 refine new_ zS157 (fun b => .pointer (some ⟨b, 0, none⟩)) (.cells #[.int .i64 0, .int .i64 0, .int .i64 0, .int .i64 0, .int .i64 0, .int .i64 0, .int .i64 0, .bool false] 47) ?_
 intro zb158 zw159 zS160
 refine nil_ (then_n (seq_ (reg_ ?_)))
 refine loadN_ zS160 1 8 #[.int .i64 1, .int .i64 5, .int .i64 2, .int .i64 0, .int .i64 3, .int .i64 0, .int .i64 0, .bool false] zb155 0 ?_
 refine new_ zS160 (fun b => .pointer (some ⟨b, 0, none⟩)) (.cells #[.int .i64 0, .int .i64 0, .int .i64 0, .int .i64 0, .int .i64 0, .int .i64 0, .int .i64 0, .bool false] 47) ?_
 intro zb161 zw162 zS163
 refine store_ zS163 0 (.agg #[.int .i64 1, .int .i64 5, .int .i64 2, .int .i64 0, .int .i64 3, .int .i64 0, .int .i64 0, .bool false]) zb161 0 ?_
 intro zw164 zS165
 refine nil_ (then_n (seq_ (reg_ ?_)))
 refine pure_ (.int .i64 2) ?_
 refine pure_ (.int .i64 6) ?_
 refine pure_ (.pointer (some ⟨zb161, 0, none⟩)) ?_
 refine store_ zS165 0 (.int .i64 2) zb161 0 ?_
 intro zw166 zS167
 refine pure_ (.pointer (some ⟨zb161, 1, none⟩)) ?_
 refine store_ zS167 0 (.int .i64 6) zb161 1 ?_
 intro zw168 zS169
 refine pure_ (.pointer (some ⟨zb161, 2, none⟩)) ?_
 refine store_ zS169 0 (.int .i64 (-1)) zb161 2 ?_
 intro zw170 zS171
 refine nil_ (then_n (seq_ (reg_ ?_)))
 refine pure_ (.agg #[.int .i64 0, .int .i64 0]) ?_
 refine pure_ (.agg #[.int .i64 0, .int .i64 0]) ?_
 refine pure_ (.pointer (some ⟨zb161, 3, none⟩)) ?_
 refine store_ zS171 0 (.agg #[.int .i64 0, .int .i64 0]) zb161 3 ?_
 intro zw172 zS173
 refine pure_ (.pointer (some ⟨zb161, 5, none⟩)) ?_
 refine store_ zS173 0 (.agg #[.int .i64 0, .int .i64 0]) zb161 5 ?_
 intro zw174 zS175
 refine nil_ (then_n (seq_ (reg_ ?_)))
 refine loadN_ zS175 0 8 #[.int .i64 2, .int .i64 6, .int .i64 (-1), .int .i64 0, .int .i64 0, .int .i64 0, .int .i64 0, .bool false] zb161 0 ?_
 refine store_ zS175 1 (.agg #[.int .i64 2, .int .i64 6, .int .i64 (-1), .int .i64 0, .int .i64 0, .int .i64 0, .int .i64 0, .bool false]) zb158 0 ?_
 intro zw176 zS177
 refine nil_ (then_n (wp_ret ?_))
 refine ret_ rfl (res_ [.cell 6 47] [.agg #[.int .i64 2, .int .i64 6, .int .i64 (-1), .int .i64 0, .int .i64 0, .int .i64 0, .int .i64 0, .bool false]] (.agg #[.int .i64 2, .int .i64 6, .int .i64 (-1), .int .i64 0, .int .i64 0, .int .i64 0, .int .i64 0, .bool false]) ⟨res_cellN zS177 1 8 zb158 0, trivial⟩) ?_
 refine store_ zS177 3 (.agg #[.int .i64 2, .int .i64 6, .int .i64 (-1), .int .i64 0, .int .i64 0, .int .i64 0, .int .i64 0, .bool false]) zb152 0 ?_
 intro zw178 zS179
 refine pure_ (.int .i64 0) ?_
 refine nil_ (then_n (wp_ret ?_))
 refine ret_ rfl (res_ [.cell 4 47, .tmp 5] [.agg #[.int .i64 2, .int .i64 6, .int .i64 (-1), .int .i64 0, .int .i64 0, .int .i64 0, .int .i64 0, .bool false], .int .i64 0] (.tuple #[.agg #[.int .i64 2, .int .i64 6, .int .i64 (-1), .int .i64 0, .int .i64 0, .int .i64 0, .int .i64 0, .bool false], .int .i64 0]) ⟨res_cellN zS179 3 8 zb152 0, res_tmp, trivial⟩) ?_
 refine pure_ (.agg #[.int .i64 2, .int .i64 6, .int .i64 (-1), .int .i64 0, .int .i64 0, .int .i64 0, .int .i64 0, .bool false]) ?_
 refine pure_ (.int .i64 0) ?_
 refine store_ zS179 9 (.agg #[.int .i64 2, .int .i64 6, .int .i64 (-1), .int .i64 0, .int .i64 0, .int .i64 0, .int .i64 0, .bool false]) zb130 0 ?_
 intro zw180 zS181
 refine pure_ (.int .i64 0) ?_
 refine nil_ (then_n (wp_ret ?_))
 refine ret_ rfl (res_ [.cell 6 47, .tmp 7] [.agg #[.int .i64 2, .int .i64 6, .int .i64 (-1), .int .i64 0, .int .i64 0, .int .i64 0, .int .i64 0, .bool false], .int .i64 0] (.tuple #[.agg #[.int .i64 2, .int .i64 6, .int .i64 (-1), .int .i64 0, .int .i64 0, .int .i64 0, .int .i64 0, .bool false], .int .i64 0]) ⟨res_cellN zS181 9 8 zb130 0, res_tmp, trivial⟩) ?_
 refine move_ ?_
 refine pure_ (.agg #[.int .i64 2, .int .i64 6, .int .i64 (-1), .int .i64 0, .int .i64 0, .int .i64 0, .int .i64 0, .bool false]) ?_
 refine pure_ (.int .i64 0) ?_
 refine new_ zS181 (fun b => .pointer (some ⟨b, 0, none⟩)) (.cells #[.int .i64 0, .int .i64 0, .int .i64 0, .int .i64 0, .int .i64 0, .int .i64 0, .int .i64 0, .bool false] 47) ?_
 intro zb182 zw183 zS184
 refine store_ zS184 0 (.agg #[.int .i64 2, .int .i64 6, .int .i64 (-1), .int .i64 0, .int .i64 0, .int .i64 0, .int .i64 0, .bool false]) zb182 0 ?_
 intro zw185 zS186
 refine pure_ (.int .i64 0) ?_
 refine nil_ (then_n (seq_ (reg_ ?_)))
 refine pure_ (.int .i64 0) ?_
 refine pure_ (.bool true) ?_
 refine pure_ (.bool true) ?_
 refine pure_ (.pointer (some ⟨zb116, 2, none⟩)) ?_
 refine load1_ zS186 14 (.int .i64 2) zb116 2 ?_
 refine pure_ (.bool true) ?_
 refine pure_ (.bool true) ?_
 refine pure_ (.bool true) ?_
 refine pure_ (.int .i64 0) ?_
 refine pure_ (.bool true) ?_
 refine pure_ (.bool true) ?_
 refine pure_ (.bool true) ?_
 refine pure_ (.pointer (some ⟨zb182, 0, none⟩)) ?_
 refine load1_ zS186 0 (.int .i64 2) zb182 0 ?_
 refine pure_ (.bool true) ?_
 refine pure_ (.bool true) ?_
 refine pure_ (.bool true) ?_
 refine pure_ (.pointer (some ⟨zb182, 1, none⟩)) ?_
 refine load1_ zS186 0 (.int .i64 6) zb182 1 ?_
 refine pure_ (.bool true) ?_
 refine pure_ (.bool true) ?_
 refine pure_ (.bool true) ?_
 refine nil_ (then_n (wp_ret ?_))
 refine ret_ rfl (res_ [.tmp 0] [.bool true] (.bool true) ⟨res_tmp, trivial⟩) ?_
 exact ⟨rfl, zS186.ch⟩

end Go.Proofs.Ytabnjfboigmleaa
