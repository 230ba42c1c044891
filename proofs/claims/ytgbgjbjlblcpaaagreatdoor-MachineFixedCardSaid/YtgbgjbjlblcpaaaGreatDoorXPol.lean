/- package policy: what Check tells of any policy -/
import Derived.Test.YtgbgjbjlblcpaaaGreatDoorRows
import Derived.Test.YtgbgjbjlblcpaaaGreatDoorSE
import Derived.Test.YtgbgjbjlblcpaaaGreatDoorSD
import Derived.Test.YtgbgjbjlblcpaaaGreatDoorXBase
namespace Go.Proofs.YtgbgjbjlblcpaaaGreatDoor
open Go Go.RowKit Go.BigFrame Sx
set_option linter.unusedVariables false
set_option linter.unusedSimpArgs false

def inB (lo hi n : Int) : Bool := decide (lo ≤ n) && decide (n ≤ hi)
def isIn (a b c k : Int) : Bool := k == a || (k == b || k == c)
def ordB (q : Nat → Int) : Bool := q 0 == 0 && (q 4 == 4 && (isIn (q 1) (q 2) (q 3) 1 && (isIn (q 1) (q 2) (q 3) 2 && isIn (q 1) (q 2) (q 3) 3)))
def keyB (n : Nat) : Bool := decide (1 ≤ (n : Int)) && decide ((n : Int) ≤ 64)
def setB (n : Int) : Bool := inB 0 15 n && n % 2 == 0
def allI (lo hi : Int) : List Int → Bool
  | [] => true
  | x :: xs => inB lo hi x && allI lo hi xs
def keys3 (kn : Nat → Nat) : Bool := keyB (kn 0) && (keyB (kn 1) && keyB (kn 2))
def roles3 (q : Nat → Int) : Bool := setB (q 10) && (setB (q 11) && setB (q 12))
def tab5 (q : Nat → Int) : Bool := allI 0 15 [q 14, q 15, q 16, q 17] && (allI 0 15 [q 18, q 19, q 20, q 21] && (allI 0 15 [q 22, q 23, q 24, q 25] && (allI 0 15 [q 26, q 27, q 28, q 29] && allI 0 15 [q 30, q 31, q 32, q 33])))
def polCode (q : Nat → Int) (kn : Nat → Nat) : Int :=
  if ordB q = false then 40 else if (keys3 kn && keyB (kn 3)) = false then 41 else if (q 9 == 1 && (q 13 == 0 && roles3 q)) = false then 42
  else if tab5 q = false then 43
  else if allI 0 31 [q 34, q 35, q 36, q 37, q 38] = false then 44
  else if allI 0 4 [q 39, q 40, q 41] = false then 45 else if allI 1 1000 [q 42, q 43, q 44, q 45] = false then 46 else if (inB 1 1000 (q 46) && inB 0 1000 (q 47)) = false then 47 else if allI 1 3 [q 48, q 49] = false then 48
  else if (q 50 == 0 && (allI 0 1000 [q 51, q 52, q 53] && inB 1 1000 (q 54))) = false then 49 else if inB 0 65535 (q 55) = false then 50 else 0
theorem inB_no (lo hi : Int) (n : Int) (h : inB lo hi n = false) : n < lo ∨ hi < n := by simp [inB] at h; omega
theorem inB_is (lo hi : Int) (n : Int) (h : inB lo hi n = true) : lo ≤ n ∧ n ≤ hi := by simpa [inB] using h

set_option maxRecDepth 100000 in
set_option maxHeartbeats 4000000 in
theorem within1_any (lo hi n : Int) (bl bh : Nat) {tl th : TypeId} (w : World) (hl : w.heap[bl]? = some (.cells #[.int .i64 lo] tl (0, 0))) (hh : w.heap[bh]? = some (.cells #[.int .i64 hi] th (0, 0))) :
    Gives Tryz.prog 84 #[.int .i64 n, .pointer (some ⟨bl, 0, none⟩), .pointer (some ⟨bh, 0, none⟩)] w fun v w1 => v = .bool (inB lo hi n) ∧ Ch [] w w1 := by
 have S0 := St.given (w := w) [(bl, .cells #[.int .i64 lo] tl (0, 0)), (bh, .cells #[.int .i64 hi] th (0, 0))] (all_cons hl (all_cons hh (all_nil)))
 refine enter_ Tryz.func84 rfl ?_
 refine seq_ (reg_ ?_)
 refine pure_ (.bool false) ?_
 refine nil_ (then_n (seq_ (reg_ ?_)))
 refine load1_ S0 0 (.int .i64 lo) bl 0 ?_
 refine pure_ (.int .i64 n) ?_
 refine pure_ (.bool (decide (lo ≤ n))) ?_
 refine pure_ (.bool (decide (lo ≤ n))) ?_
 refine slot_ 8 (decide (lo ≤ n)) ?_ ?_
 · intro zh1
   have zh2 := leT' zh1
   refine pure_ (.int .i64 n) ?_
   refine load1_ S0 1 (.int .i64 hi) bh 0 ?_
   refine pure_ (.bool (decide (n ≤ hi))) ?_
   refine pure_ (.bool (decide (n ≤ hi))) ?_
   refine pure_ (.bool (decide (n ≤ hi))) ?_
   refine nil_ (then_n (wp_ret ?_))
   refine ret_ rfl (res_ [.tmp 4] [.bool (decide (n ≤ hi))] (.bool (decide (n ≤ hi))) ⟨res_tmp, trivial⟩) ?_
   exact ⟨congrArg Value.bool (by simp [inB, zh1]), S0.ch⟩
 intro zh3
 have zh4 := leF' zh3
 refine skip_ ?_
 refine skip_ ?_
 refine skip_ ?_
 refine pure_ (.bool false) ?_
 refine pure_ (.bool false) ?_
 refine nil_ (then_n (wp_ret ?_))
 refine ret_ rfl (res_ [.tmp 4] [.bool false] (.bool false) ⟨res_tmp, trivial⟩) ?_
 exact ⟨congrArg Value.bool (by simp [inB, zh3]), S0.ch⟩

set_option maxRecDepth 100000 in
set_option maxHeartbeats 4000000 in
theorem all_s2 (lo hi x0 x1 : Int) (bs bl bh : Nat) {ts tl th : TypeId} (w : World) (hs : w.heap[bs]? = some (.cells #[.int .i64 x0, .int .i64 x1] ts (0, 0))) (hl : w.heap[bl]? = some (.cells #[.int .i64 lo] tl (0, 0))) (hh : w.heap[bh]? = some (.cells #[.int .i64 hi] th (0, 0))) :
    Gives Tryz.prog 58 #[.slice (some ⟨bs, 0, none⟩) 2 2, .func (.func 84) #[] #[.pointer (some ⟨bl, 0, none⟩), .pointer (some ⟨bh, 0, none⟩)]] w fun v w1 => v = .bool (allI lo hi [x0, x1]) ∧ Ch [] w w1 := by
 have S0 := St.given (w := w) [(bs, .cells #[.int .i64 x0, .int .i64 x1] ts (0, 0)), (bl, .cells #[.int .i64 lo] tl (0, 0)), (bh, .cells #[.int .i64 hi] th (0, 0))] (all_cons hs (all_cons hl (all_cons hh (all_nil))))
 refine enter_ Tryz.func58 rfl ?_
 refine seq_ (reg_ ?_)
 refine pure_ (.bool false) ?_
 refine nil_ (then_n (seq_ (seq_ (reg_ ?_))))
 refine move_ ?_
 refine pure_ (.int .i64 2) ?_
 refine pure_ (.int .i64 0) ?_
 refine nil_ (then_n (wp_block (loop_ 24 (seq_ (reg_ ?_)))))
 refine pure_ (.bool true) ?_
 refine nil_ (then_n (seq_ (cond_T ?_)))
 refine wp_skip (then_n (seq_ (wp_block (seq_ (reg_ ?_)))))
 refine pure_ (.pointer (some ⟨bs, 0, none⟩)) ?_
 refine load1_ S0 0 (.int .i64 x0) bs 0 ?_
 refine pure_ (.int .i64 x0) ?_
 refine nil_ (then_n (seq_ (reg_ ?_)))
 refine move_ ?_
 refine pure_ (.int .i64 x0) ?_
 refine call_ 84 #[.int .i64 x0, .pointer (some ⟨bl, 0, none⟩), .pointer (some ⟨bh, 0, none⟩)] ?_
 refine (within1_any lo hi x0 bl bh _ (S0.ob 1 false tl) (S0.ob 2 false th)).mono ?_; rintro _ zw1 ⟨rfl, zhc2⟩
 have zS3 := S0.quiet zhc2
 refine pure_ (.bool (!(inB lo hi x0))) ?_
 refine nil_ (then_n ?_)
 refine cond_S (!(inB lo hi x0)) ?_ ?_
 · intro zh4
   have zh5 := notT' zh4
   refine seq_ (reg_ ?_)
   refine pure_ (.bool false) ?_
   refine nil_ (then_n (wp_ret (blk_r (then_r (then_r (blk_r (then_r ?_)))))))
   refine ret_ rfl (res_ [.tmp 4] [.bool false] (.bool false) ⟨res_tmp, trivial⟩) ?_
   exact ⟨congrArg Value.bool (by simp [allI, zh4, zh5]), zS3.ch⟩
 intro zh6
 have zh7 := notF' zh6
 have zh8 := inB_is _ _ _ zh7
 refine wp_skip (blk_n (then_n (reg_ ?_)))
 refine pure_ (.int .i64 1) ?_
 refine pure_ (.int .i64 1) ?_
 refine nil_ (again_ (seq_ (reg_ ?_)))
 refine pure_ (.bool true) ?_
 refine nil_ (then_n (seq_ (cond_T ?_)))
 refine wp_skip (then_n (seq_ (wp_block (seq_ (reg_ ?_)))))
 refine pure_ (.pointer (some ⟨bs, 1, none⟩)) ?_
 refine load1_ zS3 0 (.int .i64 x1) bs 1 ?_
 refine pure_ (.int .i64 x1) ?_
 refine nil_ (then_n (seq_ (reg_ ?_)))
 refine move_ ?_
 refine pure_ (.int .i64 x1) ?_
 refine call_ 84 #[.int .i64 x1, .pointer (some ⟨bl, 0, none⟩), .pointer (some ⟨bh, 0, none⟩)] ?_
 refine (within1_any lo hi x1 bl bh _ (zS3.ob 1 false tl) (zS3.ob 2 false th)).mono ?_; rintro _ zw9 ⟨rfl, zhc10⟩
 have zS11 := zS3.quiet zhc10
 refine pure_ (.bool (!(inB lo hi x1))) ?_
 refine nil_ (then_n ?_)
 refine cond_S (!(inB lo hi x1)) ?_ ?_
 · intro zh12
   have zh13 := notT' zh12
   refine seq_ (reg_ ?_)
   refine pure_ (.bool false) ?_
   refine nil_ (then_n (wp_ret (blk_r (then_r (then_r (blk_r (then_r ?_)))))))
   refine ret_ rfl (res_ [.tmp 4] [.bool false] (.bool false) ⟨res_tmp, trivial⟩) ?_
   exact ⟨congrArg Value.bool (by simp [allI, zh6, zh7, zh12, zh13]), zS11.ch⟩
 intro zh14
 have zh15 := notF' zh14
 have zh16 := inB_is _ _ _ zh15
 refine wp_skip (blk_n (then_n (reg_ ?_)))
 refine pure_ (.int .i64 2) ?_
 refine pure_ (.int .i64 2) ?_
 refine nil_ (again_ (seq_ (reg_ ?_)))
 refine pure_ (.bool false) ?_
 refine nil_ (then_n (seq_ (cond_F ?_)))
 refine wp_exit (then_e (then_e (blk_e (then_n (seq_ (reg_ ?_))))))
 refine pure_ (.bool true) ?_
 refine nil_ (then_n (wp_ret ?_))
 refine ret_ rfl (res_ [.tmp 4] [.bool true] (.bool true) ⟨res_tmp, trivial⟩) ?_
 exact ⟨congrArg Value.bool (by simp [allI, zh6, zh7, zh14, zh15]), zS11.ch⟩

set_option maxRecDepth 100000 in
set_option maxHeartbeats 4000000 in
theorem all_s3 (lo hi x0 x1 x2 : Int) (bs bl bh : Nat) {ts tl th : TypeId} (w : World) (hs : w.heap[bs]? = some (.cells #[.int .i64 x0, .int .i64 x1, .int .i64 x2] ts (0, 0))) (hl : w.heap[bl]? = some (.cells #[.int .i64 lo] tl (0, 0))) (hh : w.heap[bh]? = some (.cells #[.int .i64 hi] th (0, 0))) :
    Gives Tryz.prog 58 #[.slice (some ⟨bs, 0, none⟩) 3 3, .func (.func 84) #[] #[.pointer (some ⟨bl, 0, none⟩), .pointer (some ⟨bh, 0, none⟩)]] w fun v w1 => v = .bool (allI lo hi [x0, x1, x2]) ∧ Ch [] w w1 := by
 have S0 := St.given (w := w) [(bs, .cells #[.int .i64 x0, .int .i64 x1, .int .i64 x2] ts (0, 0)), (bl, .cells #[.int .i64 lo] tl (0, 0)), (bh, .cells #[.int .i64 hi] th (0, 0))] (all_cons hs (all_cons hl (all_cons hh (all_nil))))
 refine enter_ Tryz.func58 rfl ?_
 refine seq_ (reg_ ?_)
 refine pure_ (.bool false) ?_
 refine nil_ (then_n (seq_ (seq_ (reg_ ?_))))
 refine move_ ?_
 refine pure_ (.int .i64 3) ?_
 refine pure_ (.int .i64 0) ?_
 refine nil_ (then_n (wp_block (loop_ 24 (seq_ (reg_ ?_)))))
 refine pure_ (.bool true) ?_
 refine nil_ (then_n (seq_ (cond_T ?_)))
 refine wp_skip (then_n (seq_ (wp_block (seq_ (reg_ ?_)))))
 refine pure_ (.pointer (some ⟨bs, 0, none⟩)) ?_
 refine load1_ S0 0 (.int .i64 x0) bs 0 ?_
 refine pure_ (.int .i64 x0) ?_
 refine nil_ (then_n (seq_ (reg_ ?_)))
 refine move_ ?_
 refine pure_ (.int .i64 x0) ?_
 refine call_ 84 #[.int .i64 x0, .pointer (some ⟨bl, 0, none⟩), .pointer (some ⟨bh, 0, none⟩)] ?_
 refine (within1_any lo hi x0 bl bh _ (S0.ob 1 false tl) (S0.ob 2 false th)).mono ?_; rintro _ zw1 ⟨rfl, zhc2⟩
 have zS3 := S0.quiet zhc2
 refine pure_ (.bool (!(inB lo hi x0))) ?_
 refine nil_ (then_n ?_)
 refine cond_S (!(inB lo hi x0)) ?_ ?_
 · intro zh4
   have zh5 := notT' zh4
   refine seq_ (reg_ ?_)
   refine pure_ (.bool false) ?_
   refine nil_ (then_n (wp_ret (blk_r (then_r (then_r (blk_r (then_r ?_)))))))
   refine ret_ rfl (res_ [.tmp 4] [.bool false] (.bool false) ⟨res_tmp, trivial⟩) ?_
   exact ⟨congrArg Value.bool (by simp [allI, zh4, zh5]), zS3.ch⟩
 intro zh6
 have zh7 := notF' zh6
 have zh8 := inB_is _ _ _ zh7
 refine wp_skip (blk_n (then_n (reg_ ?_)))
 refine pure_ (.int .i64 1) ?_
 refine pure_ (.int .i64 1) ?_
 refine nil_ (again_ (seq_ (reg_ ?_)))
 refine pure_ (.bool true) ?_
 refine nil_ (then_n (seq_ (cond_T ?_)))
 refine wp_skip (then_n (seq_ (wp_block (seq_ (reg_ ?_)))))
 refine pure_ (.pointer (some ⟨bs, 1, none⟩)) ?_
 refine load1_ zS3 0 (.int .i64 x1) bs 1 ?_
 refine pure_ (.int .i64 x1) ?_
 refine nil_ (then_n (seq_ (reg_ ?_)))
 refine move_ ?_
 refine pure_ (.int .i64 x1) ?_
 refine call_ 84 #[.int .i64 x1, .pointer (some ⟨bl, 0, none⟩), .pointer (some ⟨bh, 0, none⟩)] ?_
 refine (within1_any lo hi x1 bl bh _ (zS3.ob 1 false tl) (zS3.ob 2 false th)).mono ?_; rintro _ zw9 ⟨rfl, zhc10⟩
 have zS11 := zS3.quiet zhc10
 refine pure_ (.bool (!(inB lo hi x1))) ?_
 refine nil_ (then_n ?_)
 refine cond_S (!(inB lo hi x1)) ?_ ?_
 · intro zh12
   have zh13 := notT' zh12
   refine seq_ (reg_ ?_)
   refine pure_ (.bool false) ?_
   refine nil_ (then_n (wp_ret (blk_r (then_r (then_r (blk_r (then_r ?_)))))))
   refine ret_ rfl (res_ [.tmp 4] [.bool false] (.bool false) ⟨res_tmp, trivial⟩) ?_
   exact ⟨congrArg Value.bool (by simp [allI, zh6, zh7, zh12, zh13]), zS11.ch⟩
 intro zh14
 have zh15 := notF' zh14
 have zh16 := inB_is _ _ _ zh15
 refine wp_skip (blk_n (then_n (reg_ ?_)))
 refine pure_ (.int .i64 2) ?_
 refine pure_ (.int .i64 2) ?_
 refine nil_ (again_ (seq_ (reg_ ?_)))
 refine pure_ (.bool true) ?_
 refine nil_ (then_n (seq_ (cond_T ?_)))
 refine wp_skip (then_n (seq_ (wp_block (seq_ (reg_ ?_)))))
 refine pure_ (.pointer (some ⟨bs, 2, none⟩)) ?_
 refine load1_ zS11 0 (.int .i64 x2) bs 2 ?_
 refine pure_ (.int .i64 x2) ?_
 refine nil_ (then_n (seq_ (reg_ ?_)))
 refine move_ ?_
 refine pure_ (.int .i64 x2) ?_
 refine call_ 84 #[.int .i64 x2, .pointer (some ⟨bl, 0, none⟩), .pointer (some ⟨bh, 0, none⟩)] ?_
 refine (within1_any lo hi x2 bl bh _ (zS11.ob 1 false tl) (zS11.ob 2 false th)).mono ?_; rintro _ zw17 ⟨rfl, zhc18⟩
 have zS19 := zS11.quiet zhc18
 refine pure_ (.bool (!(inB lo hi x2))) ?_
 refine nil_ (then_n ?_)
 refine cond_S (!(inB lo hi x2)) ?_ ?_
 · intro zh20
   have zh21 := notT' zh20
   refine seq_ (reg_ ?_)
   refine pure_ (.bool false) ?_
   refine nil_ (then_n (wp_ret (blk_r (then_r (then_r (blk_r (then_r ?_)))))))
   refine ret_ rfl (res_ [.tmp 4] [.bool false] (.bool false) ⟨res_tmp, trivial⟩) ?_
   exact ⟨congrArg Value.bool (by simp [allI, zh6, zh7, zh14, zh15, zh20, zh21]), zS19.ch⟩
 intro zh22
 have zh23 := notF' zh22
 have zh24 := inB_is _ _ _ zh23
 refine wp_skip (blk_n (then_n (reg_ ?_)))
 refine pure_ (.int .i64 3) ?_
 refine pure_ (.int .i64 3) ?_
 refine nil_ (again_ (seq_ (reg_ ?_)))
 refine pure_ (.bool false) ?_
 refine nil_ (then_n (seq_ (cond_F ?_)))
 refine wp_exit (then_e (then_e (blk_e (then_n (seq_ (reg_ ?_))))))
 refine pure_ (.bool true) ?_
 refine nil_ (then_n (wp_ret ?_))
 refine ret_ rfl (res_ [.tmp 4] [.bool true] (.bool true) ⟨res_tmp, trivial⟩) ?_
 exact ⟨congrArg Value.bool (by simp [allI, zh6, zh7, zh14, zh15, zh22, zh23]), zS19.ch⟩

set_option maxRecDepth 100000 in
set_option maxHeartbeats 4000000 in
theorem all_s4 (lo hi x0 x1 x2 x3 : Int) (bs bl bh : Nat) {ts tl th : TypeId} (w : World) (hs : w.heap[bs]? = some (.cells #[.int .i64 x0, .int .i64 x1, .int .i64 x2, .int .i64 x3] ts (0, 0))) (hl : w.heap[bl]? = some (.cells #[.int .i64 lo] tl (0, 0))) (hh : w.heap[bh]? = some (.cells #[.int .i64 hi] th (0, 0))) :
    Gives Tryz.prog 58 #[.slice (some ⟨bs, 0, none⟩) 4 4, .func (.func 84) #[] #[.pointer (some ⟨bl, 0, none⟩), .pointer (some ⟨bh, 0, none⟩)]] w fun v w1 => v = .bool (allI lo hi [x0, x1, x2, x3]) ∧ Ch [] w w1 := by
 have S0 := St.given (w := w) [(bs, .cells #[.int .i64 x0, .int .i64 x1, .int .i64 x2, .int .i64 x3] ts (0, 0)), (bl, .cells #[.int .i64 lo] tl (0, 0)), (bh, .cells #[.int .i64 hi] th (0, 0))] (all_cons hs (all_cons hl (all_cons hh (all_nil))))
 refine enter_ Tryz.func58 rfl ?_
 refine seq_ (reg_ ?_)
 refine pure_ (.bool false) ?_
 refine nil_ (then_n (seq_ (seq_ (reg_ ?_))))
 refine move_ ?_
 refine pure_ (.int .i64 4) ?_
 refine pure_ (.int .i64 0) ?_
 refine nil_ (then_n (wp_block (loop_ 24 (seq_ (reg_ ?_)))))
 refine pure_ (.bool true) ?_
 refine nil_ (then_n (seq_ (cond_T ?_)))
 refine wp_skip (then_n (seq_ (wp_block (seq_ (reg_ ?_)))))
 refine pure_ (.pointer (some ⟨bs, 0, none⟩)) ?_
 refine load1_ S0 0 (.int .i64 x0) bs 0 ?_
 refine pure_ (.int .i64 x0) ?_
 refine nil_ (then_n (seq_ (reg_ ?_)))
 refine move_ ?_
 refine pure_ (.int .i64 x0) ?_
 refine call_ 84 #[.int .i64 x0, .pointer (some ⟨bl, 0, none⟩), .pointer (some ⟨bh, 0, none⟩)] ?_
 refine (within1_any lo hi x0 bl bh _ (S0.ob 1 false tl) (S0.ob 2 false th)).mono ?_; rintro _ zw1 ⟨rfl, zhc2⟩
 have zS3 := S0.quiet zhc2
 refine pure_ (.bool (!(inB lo hi x0))) ?_
 refine nil_ (then_n ?_)
 refine cond_S (!(inB lo hi x0)) ?_ ?_
 · intro zh4
   have zh5 := notT' zh4
   refine seq_ (reg_ ?_)
   refine pure_ (.bool false) ?_
   refine nil_ (then_n (wp_ret (blk_r (then_r (then_r (blk_r (then_r ?_)))))))
   refine ret_ rfl (res_ [.tmp 4] [.bool false] (.bool false) ⟨res_tmp, trivial⟩) ?_
   exact ⟨congrArg Value.bool (by simp [allI, zh4, zh5]), zS3.ch⟩
 intro zh6
 have zh7 := notF' zh6
 have zh8 := inB_is _ _ _ zh7
 refine wp_skip (blk_n (then_n (reg_ ?_)))
 refine pure_ (.int .i64 1) ?_
 refine pure_ (.int .i64 1) ?_
 refine nil_ (again_ (seq_ (reg_ ?_)))
 refine pure_ (.bool true) ?_
 refine nil_ (then_n (seq_ (cond_T ?_)))
 refine wp_skip (then_n (seq_ (wp_block (seq_ (reg_ ?_)))))
 refine pure_ (.pointer (some ⟨bs, 1, none⟩)) ?_
 refine load1_ zS3 0 (.int .i64 x1) bs 1 ?_
 refine pure_ (.int .i64 x1) ?_
 refine nil_ (then_n (seq_ (reg_ ?_)))
 refine move_ ?_
 refine pure_ (.int .i64 x1) ?_
 refine call_ 84 #[.int .i64 x1, .pointer (some ⟨bl, 0, none⟩), .pointer (some ⟨bh, 0, none⟩)] ?_
 refine (within1_any lo hi x1 bl bh _ (zS3.ob 1 false tl) (zS3.ob 2 false th)).mono ?_; rintro _ zw9 ⟨rfl, zhc10⟩
 have zS11 := zS3.quiet zhc10
 refine pure_ (.bool (!(inB lo hi x1))) ?_
 refine nil_ (then_n ?_)
 refine cond_S (!(inB lo hi x1)) ?_ ?_
 · intro zh12
   have zh13 := notT' zh12
   refine seq_ (reg_ ?_)
   refine pure_ (.bool false) ?_
   refine nil_ (then_n (wp_ret (blk_r (then_r (then_r (blk_r (then_r ?_)))))))
   refine ret_ rfl (res_ [.tmp 4] [.bool false] (.bool false) ⟨res_tmp, trivial⟩) ?_
   exact ⟨congrArg Value.bool (by simp [allI, zh6, zh7, zh12, zh13]), zS11.ch⟩
 intro zh14
 have zh15 := notF' zh14
 have zh16 := inB_is _ _ _ zh15
 refine wp_skip (blk_n (then_n (reg_ ?_)))
 refine pure_ (.int .i64 2) ?_
 refine pure_ (.int .i64 2) ?_
 refine nil_ (again_ (seq_ (reg_ ?_)))
 refine pure_ (.bool true) ?_
 refine nil_ (then_n (seq_ (cond_T ?_)))
 refine wp_skip (then_n (seq_ (wp_block (seq_ (reg_ ?_)))))
 refine pure_ (.pointer (some ⟨bs, 2, none⟩)) ?_
 refine load1_ zS11 0 (.int .i64 x2) bs 2 ?_
 refine pure_ (.int .i64 x2) ?_
 refine nil_ (then_n (seq_ (reg_ ?_)))
 refine move_ ?_
 refine pure_ (.int .i64 x2) ?_
 refine call_ 84 #[.int .i64 x2, .pointer (some ⟨bl, 0, none⟩), .pointer (some ⟨bh, 0, none⟩)] ?_
 refine (within1_any lo hi x2 bl bh _ (zS11.ob 1 false tl) (zS11.ob 2 false th)).mono ?_; rintro _ zw17 ⟨rfl, zhc18⟩
 have zS19 := zS11.quiet zhc18
 refine pure_ (.bool (!(inB lo hi x2))) ?_
 refine nil_ (then_n ?_)
 refine cond_S (!(inB lo hi x2)) ?_ ?_
 · intro zh20
   have zh21 := notT' zh20
   refine seq_ (reg_ ?_)
   refine pure_ (.bool false) ?_
   refine nil_ (then_n (wp_ret (blk_r (then_r (then_r (blk_r (then_r ?_)))))))
   refine ret_ rfl (res_ [.tmp 4] [.bool false] (.bool false) ⟨res_tmp, trivial⟩) ?_
   exact ⟨congrArg Value.bool (by simp [allI, zh6, zh7, zh14, zh15, zh20, zh21]), zS19.ch⟩
 intro zh22
 have zh23 := notF' zh22
 have zh24 := inB_is _ _ _ zh23
 refine wp_skip (blk_n (then_n (reg_ ?_)))
 refine pure_ (.int .i64 3) ?_
 refine pure_ (.int .i64 3) ?_
 refine nil_ (again_ (seq_ (reg_ ?_)))
 refine pure_ (.bool true) ?_
 refine nil_ (then_n (seq_ (cond_T ?_)))
 refine wp_skip (then_n (seq_ (wp_block (seq_ (reg_ ?_)))))
 refine pure_ (.pointer (some ⟨bs, 3, none⟩)) ?_
 refine load1_ zS19 0 (.int .i64 x3) bs 3 ?_
 refine pure_ (.int .i64 x3) ?_
 refine nil_ (then_n (seq_ (reg_ ?_)))
 refine move_ ?_
 refine pure_ (.int .i64 x3) ?_
 refine call_ 84 #[.int .i64 x3, .pointer (some ⟨bl, 0, none⟩), .pointer (some ⟨bh, 0, none⟩)] ?_
 refine (within1_any lo hi x3 bl bh _ (zS19.ob 1 false tl) (zS19.ob 2 false th)).mono ?_; rintro _ zw25 ⟨rfl, zhc26⟩
 have zS27 := zS19.quiet zhc26
 refine pure_ (.bool (!(inB lo hi x3))) ?_
 refine nil_ (then_n ?_)
 refine cond_S (!(inB lo hi x3)) ?_ ?_
 · intro zh28
   have zh29 := notT' zh28
   refine seq_ (reg_ ?_)
   refine pure_ (.bool false) ?_
   refine nil_ (then_n (wp_ret (blk_r (then_r (then_r (blk_r (then_r ?_)))))))
   refine ret_ rfl (res_ [.tmp 4] [.bool false] (.bool false) ⟨res_tmp, trivial⟩) ?_
   exact ⟨congrArg Value.bool (by simp [allI, zh6, zh7, zh14, zh15, zh22, zh23, zh28, zh29]), zS27.ch⟩
 intro zh30
 have zh31 := notF' zh30
 have zh32 := inB_is _ _ _ zh31
 refine wp_skip (blk_n (then_n (reg_ ?_)))
 refine pure_ (.int .i64 4) ?_
 refine pure_ (.int .i64 4) ?_
 refine nil_ (again_ (seq_ (reg_ ?_)))
 refine pure_ (.bool false) ?_
 refine nil_ (then_n (seq_ (cond_F ?_)))
 refine wp_exit (then_e (then_e (blk_e (then_n (seq_ (reg_ ?_))))))
 refine pure_ (.bool true) ?_
 refine nil_ (then_n (wp_ret ?_))
 refine ret_ rfl (res_ [.tmp 4] [.bool true] (.bool true) ⟨res_tmp, trivial⟩) ?_
 exact ⟨congrArg Value.bool (by simp [allI, zh6, zh7, zh14, zh15, zh22, zh23, zh30, zh31]), zS27.ch⟩

set_option maxRecDepth 100000 in
set_option maxHeartbeats 4000000 in
theorem all_p34_5 (lo hi : Int) (q : Nat → Int) (ka : Nat → Option Addr) (kn kc : Nat → Nat) (bs bl bh : Nat) {ts tl th : TypeId} (w : World) (hs : w.heap[bs]? = some (.cells (polC q ka kn kc) ts (0, 0))) (hl : w.heap[bl]? = some (.cells #[.int .i64 lo] tl (0, 0))) (hh : w.heap[bh]? = some (.cells #[.int .i64 hi] th (0, 0))) :
    Gives Tryz.prog 58 #[.slice (some ⟨bs, 34, none⟩) 5 5, .func (.func 84) #[] #[.pointer (some ⟨bl, 0, none⟩), .pointer (some ⟨bh, 0, none⟩)]] w fun v w1 => v = .bool (allI lo hi [q 34, q 35, q 36, q 37, q 38]) ∧ Ch [] w w1 := by
 have S0 := St.given (w := w) [(bs, .cells (polC q ka kn kc) ts (0, 0)), (bl, .cells #[.int .i64 lo] tl (0, 0)), (bh, .cells #[.int .i64 hi] th (0, 0))] (all_cons hs (all_cons hl (all_cons hh (all_nil))))
 refine enter_ Tryz.func58 rfl ?_
 refine seq_ (reg_ ?_)
 refine pure_ (.bool false) ?_
 refine nil_ (then_n (seq_ (seq_ (reg_ ?_))))
 refine move_ ?_
 refine pure_ (.int .i64 5) ?_
 refine pure_ (.int .i64 0) ?_
 refine nil_ (then_n (wp_block (loop_ 24 (seq_ (reg_ ?_)))))
 refine pure_ (.bool true) ?_
 refine nil_ (then_n (seq_ (cond_T ?_)))
 refine wp_skip (then_n (seq_ (wp_block (seq_ (reg_ ?_)))))
 refine pure_ (.pointer (some ⟨bs, 34, none⟩)) ?_
 refine load1_ S0 0 (.int .i64 (q 34)) bs 34 ?_
 refine pure_ (.int .i64 (q 34)) ?_
 refine nil_ (then_n (seq_ (reg_ ?_)))
 refine move_ ?_
 refine pure_ (.int .i64 (q 34)) ?_
 refine call_ 84 #[.int .i64 (q 34), .pointer (some ⟨bl, 0, none⟩), .pointer (some ⟨bh, 0, none⟩)] ?_
 refine (within1_any lo hi (q 34) bl bh _ (S0.ob 1 false tl) (S0.ob 2 false th)).mono ?_; rintro _ zw1 ⟨rfl, zhc2⟩
 have zS3 := S0.quiet zhc2
 refine pure_ (.bool (!(inB lo hi (q 34)))) ?_
 refine nil_ (then_n ?_)
 refine cond_S (!(inB lo hi (q 34))) ?_ ?_
 · intro zh4
   have zh5 := notT' zh4
   refine seq_ (reg_ ?_)
   refine pure_ (.bool false) ?_
   refine nil_ (then_n (wp_ret (blk_r (then_r (then_r (blk_r (then_r ?_)))))))
   refine ret_ rfl (res_ [.tmp 4] [.bool false] (.bool false) ⟨res_tmp, trivial⟩) ?_
   exact ⟨congrArg Value.bool (by simp [allI, zh4, zh5]), zS3.ch⟩
 intro zh6
 have zh7 := notF' zh6
 have zh8 := inB_is _ _ _ zh7
 refine wp_skip (blk_n (then_n (reg_ ?_)))
 refine pure_ (.int .i64 1) ?_
 refine pure_ (.int .i64 1) ?_
 refine nil_ (again_ (seq_ (reg_ ?_)))
 refine pure_ (.bool true) ?_
 refine nil_ (then_n (seq_ (cond_T ?_)))
 refine wp_skip (then_n (seq_ (wp_block (seq_ (reg_ ?_)))))
 refine pure_ (.pointer (some ⟨bs, 35, none⟩)) ?_
 refine load1_ zS3 0 (.int .i64 (q 35)) bs 35 ?_
 refine pure_ (.int .i64 (q 35)) ?_
 refine nil_ (then_n (seq_ (reg_ ?_)))
 refine move_ ?_
 refine pure_ (.int .i64 (q 35)) ?_
 refine call_ 84 #[.int .i64 (q 35), .pointer (some ⟨bl, 0, none⟩), .pointer (some ⟨bh, 0, none⟩)] ?_
 refine (within1_any lo hi (q 35) bl bh _ (zS3.ob 1 false tl) (zS3.ob 2 false th)).mono ?_; rintro _ zw9 ⟨rfl, zhc10⟩
 have zS11 := zS3.quiet zhc10
 refine pure_ (.bool (!(inB lo hi (q 35)))) ?_
 refine nil_ (then_n ?_)
 refine cond_S (!(inB lo hi (q 35))) ?_ ?_
 · intro zh12
   have zh13 := notT' zh12
   refine seq_ (reg_ ?_)
   refine pure_ (.bool false) ?_
   refine nil_ (then_n (wp_ret (blk_r (then_r (then_r (blk_r (then_r ?_)))))))
   refine ret_ rfl (res_ [.tmp 4] [.bool false] (.bool false) ⟨res_tmp, trivial⟩) ?_
   exact ⟨congrArg Value.bool (by simp [allI, zh6, zh7, zh12, zh13]), zS11.ch⟩
 intro zh14
 have zh15 := notF' zh14
 have zh16 := inB_is _ _ _ zh15
 refine wp_skip (blk_n (then_n (reg_ ?_)))
 refine pure_ (.int .i64 2) ?_
 refine pure_ (.int .i64 2) ?_
 refine nil_ (again_ (seq_ (reg_ ?_)))
 refine pure_ (.bool true) ?_
 refine nil_ (then_n (seq_ (cond_T ?_)))
 refine wp_skip (then_n (seq_ (wp_block (seq_ (reg_ ?_)))))
 refine pure_ (.pointer (some ⟨bs, 36, none⟩)) ?_
 refine load1_ zS11 0 (.int .i64 (q 36)) bs 36 ?_
 refine pure_ (.int .i64 (q 36)) ?_
 refine nil_ (then_n (seq_ (reg_ ?_)))
 refine move_ ?_
 refine pure_ (.int .i64 (q 36)) ?_
 refine call_ 84 #[.int .i64 (q 36), .pointer (some ⟨bl, 0, none⟩), .pointer (some ⟨bh, 0, none⟩)] ?_
 refine (within1_any lo hi (q 36) bl bh _ (zS11.ob 1 false tl) (zS11.ob 2 false th)).mono ?_; rintro _ zw17 ⟨rfl, zhc18⟩
 have zS19 := zS11.quiet zhc18
 refine pure_ (.bool (!(inB lo hi (q 36)))) ?_
 refine nil_ (then_n ?_)
 refine cond_S (!(inB lo hi (q 36))) ?_ ?_
 · intro zh20
   have zh21 := notT' zh20
   refine seq_ (reg_ ?_)
   refine pure_ (.bool false) ?_
   refine nil_ (then_n (wp_ret (blk_r (then_r (then_r (blk_r (then_r ?_)))))))
   refine ret_ rfl (res_ [.tmp 4] [.bool false] (.bool false) ⟨res_tmp, trivial⟩) ?_
   exact ⟨congrArg Value.bool (by simp [allI, zh6, zh7, zh14, zh15, zh20, zh21]), zS19.ch⟩
 intro zh22
 have zh23 := notF' zh22
 have zh24 := inB_is _ _ _ zh23
 refine wp_skip (blk_n (then_n (reg_ ?_)))
 refine pure_ (.int .i64 3) ?_
 refine pure_ (.int .i64 3) ?_
 refine nil_ (again_ (seq_ (reg_ ?_)))
 refine pure_ (.bool true) ?_
 refine nil_ (then_n (seq_ (cond_T ?_)))
 refine wp_skip (then_n (seq_ (wp_block (seq_ (reg_ ?_)))))
 refine pure_ (.pointer (some ⟨bs, 37, none⟩)) ?_
 refine load1_ zS19 0 (.int .i64 (q 37)) bs 37 ?_
 refine pure_ (.int .i64 (q 37)) ?_
 refine nil_ (then_n (seq_ (reg_ ?_)))
 refine move_ ?_
 refine pure_ (.int .i64 (q 37)) ?_
 refine call_ 84 #[.int .i64 (q 37), .pointer (some ⟨bl, 0, none⟩), .pointer (some ⟨bh, 0, none⟩)] ?_
 refine (within1_any lo hi (q 37) bl bh _ (zS19.ob 1 false tl) (zS19.ob 2 false th)).mono ?_; rintro _ zw25 ⟨rfl, zhc26⟩
 have zS27 := zS19.quiet zhc26
 refine pure_ (.bool (!(inB lo hi (q 37)))) ?_
 refine nil_ (then_n ?_)
 refine cond_S (!(inB lo hi (q 37))) ?_ ?_
 · intro zh28
   have zh29 := notT' zh28
   refine seq_ (reg_ ?_)
   refine pure_ (.bool false) ?_
   refine nil_ (then_n (wp_ret (blk_r (then_r (then_r (blk_r (then_r ?_)))))))
   refine ret_ rfl (res_ [.tmp 4] [.bool false] (.bool false) ⟨res_tmp, trivial⟩) ?_
   exact ⟨congrArg Value.bool (by simp [allI, zh6, zh7, zh14, zh15, zh22, zh23, zh28, zh29]), zS27.ch⟩
 intro zh30
 have zh31 := notF' zh30
 have zh32 := inB_is _ _ _ zh31
 refine wp_skip (blk_n (then_n (reg_ ?_)))
 refine pure_ (.int .i64 4) ?_
 refine pure_ (.int .i64 4) ?_
 refine nil_ (again_ (seq_ (reg_ ?_)))
 refine pure_ (.bool true) ?_
 refine nil_ (then_n (seq_ (cond_T ?_)))
 refine wp_skip (then_n (seq_ (wp_block (seq_ (reg_ ?_)))))
 refine pure_ (.pointer (some ⟨bs, 38, none⟩)) ?_
 refine load1_ zS27 0 (.int .i64 (q 38)) bs 38 ?_
 refine pure_ (.int .i64 (q 38)) ?_
 refine nil_ (then_n (seq_ (reg_ ?_)))
 refine move_ ?_
 refine pure_ (.int .i64 (q 38)) ?_
 refine call_ 84 #[.int .i64 (q 38), .pointer (some ⟨bl, 0, none⟩), .pointer (some ⟨bh, 0, none⟩)] ?_
 refine (within1_any lo hi (q 38) bl bh _ (zS27.ob 1 false tl) (zS27.ob 2 false th)).mono ?_; rintro _ zw33 ⟨rfl, zhc34⟩
 have zS35 := zS27.quiet zhc34
 refine pure_ (.bool (!(inB lo hi (q 38)))) ?_
 refine nil_ (then_n ?_)
 refine cond_S (!(inB lo hi (q 38))) ?_ ?_
 · intro zh36
   have zh37 := notT' zh36
   refine seq_ (reg_ ?_)
   refine pure_ (.bool false) ?_
   refine nil_ (then_n (wp_ret (blk_r (then_r (then_r (blk_r (then_r ?_)))))))
   refine ret_ rfl (res_ [.tmp 4] [.bool false] (.bool false) ⟨res_tmp, trivial⟩) ?_
   exact ⟨congrArg Value.bool (by simp [allI, zh6, zh7, zh14, zh15, zh22, zh23, zh30, zh31, zh36, zh37]), zS35.ch⟩
 intro zh38
 have zh39 := notF' zh38
 have zh40 := inB_is _ _ _ zh39
 refine wp_skip (blk_n (then_n (reg_ ?_)))
 refine pure_ (.int .i64 5) ?_
 refine pure_ (.int .i64 5) ?_
 refine nil_ (again_ (seq_ (reg_ ?_)))
 refine pure_ (.bool false) ?_
 refine nil_ (then_n (seq_ (cond_F ?_)))
 refine wp_exit (then_e (then_e (blk_e (then_n (seq_ (reg_ ?_))))))
 refine pure_ (.bool true) ?_
 refine nil_ (then_n (wp_ret ?_))
 refine ret_ rfl (res_ [.tmp 4] [.bool true] (.bool true) ⟨res_tmp, trivial⟩) ?_
 exact ⟨congrArg Value.bool (by simp [allI, zh6, zh7, zh14, zh15, zh22, zh23, zh30, zh31, zh38, zh39]), zS35.ch⟩

set_option maxRecDepth 100000 in
set_option maxHeartbeats 4000000 in
theorem all_p51_3 (lo hi : Int) (q : Nat → Int) (ka : Nat → Option Addr) (kn kc : Nat → Nat) (bs bl bh : Nat) {ts tl th : TypeId} (w : World) (hs : w.heap[bs]? = some (.cells (polC q ka kn kc) ts (0, 0))) (hl : w.heap[bl]? = some (.cells #[.int .i64 lo] tl (0, 0))) (hh : w.heap[bh]? = some (.cells #[.int .i64 hi] th (0, 0))) :
    Gives Tryz.prog 58 #[.slice (some ⟨bs, 51, none⟩) 3 3, .func (.func 84) #[] #[.pointer (some ⟨bl, 0, none⟩), .pointer (some ⟨bh, 0, none⟩)]] w fun v w1 => v = .bool (allI lo hi [q 51, q 52, q 53]) ∧ Ch [] w w1 := by
 have S0 := St.given (w := w) [(bs, .cells (polC q ka kn kc) ts (0, 0)), (bl, .cells #[.int .i64 lo] tl (0, 0)), (bh, .cells #[.int .i64 hi] th (0, 0))] (all_cons hs (all_cons hl (all_cons hh (all_nil))))
 refine enter_ Tryz.func58 rfl ?_
 refine seq_ (reg_ ?_)
 refine pure_ (.bool false) ?_
 refine nil_ (then_n (seq_ (seq_ (reg_ ?_))))
 refine move_ ?_
 refine pure_ (.int .i64 3) ?_
 refine pure_ (.int .i64 0) ?_
 refine nil_ (then_n (wp_block (loop_ 24 (seq_ (reg_ ?_)))))
 refine pure_ (.bool true) ?_
 refine nil_ (then_n (seq_ (cond_T ?_)))
 refine wp_skip (then_n (seq_ (wp_block (seq_ (reg_ ?_)))))
 refine pure_ (.pointer (some ⟨bs, 51, none⟩)) ?_
 refine load1_ S0 0 (.int .i64 (q 51)) bs 51 ?_
 refine pure_ (.int .i64 (q 51)) ?_
 refine nil_ (then_n (seq_ (reg_ ?_)))
 refine move_ ?_
 refine pure_ (.int .i64 (q 51)) ?_
 refine call_ 84 #[.int .i64 (q 51), .pointer (some ⟨bl, 0, none⟩), .pointer (some ⟨bh, 0, none⟩)] ?_
 refine (within1_any lo hi (q 51) bl bh _ (S0.ob 1 false tl) (S0.ob 2 false th)).mono ?_; rintro _ zw1 ⟨rfl, zhc2⟩
 have zS3 := S0.quiet zhc2
 refine pure_ (.bool (!(inB lo hi (q 51)))) ?_
 refine nil_ (then_n ?_)
 refine cond_S (!(inB lo hi (q 51))) ?_ ?_
 · intro zh4
   have zh5 := notT' zh4
   refine seq_ (reg_ ?_)
   refine pure_ (.bool false) ?_
   refine nil_ (then_n (wp_ret (blk_r (then_r (then_r (blk_r (then_r ?_)))))))
   refine ret_ rfl (res_ [.tmp 4] [.bool false] (.bool false) ⟨res_tmp, trivial⟩) ?_
   exact ⟨congrArg Value.bool (by simp [allI, zh4, zh5]), zS3.ch⟩
 intro zh6
 have zh7 := notF' zh6
 have zh8 := inB_is _ _ _ zh7
 refine wp_skip (blk_n (then_n (reg_ ?_)))
 refine pure_ (.int .i64 1) ?_
 refine pure_ (.int .i64 1) ?_
 refine nil_ (again_ (seq_ (reg_ ?_)))
 refine pure_ (.bool true) ?_
 refine nil_ (then_n (seq_ (cond_T ?_)))
 refine wp_skip (then_n (seq_ (wp_block (seq_ (reg_ ?_)))))
 refine pure_ (.pointer (some ⟨bs, 52, none⟩)) ?_
 refine load1_ zS3 0 (.int .i64 (q 52)) bs 52 ?_
 refine pure_ (.int .i64 (q 52)) ?_
 refine nil_ (then_n (seq_ (reg_ ?_)))
 refine move_ ?_
 refine pure_ (.int .i64 (q 52)) ?_
 refine call_ 84 #[.int .i64 (q 52), .pointer (some ⟨bl, 0, none⟩), .pointer (some ⟨bh, 0, none⟩)] ?_
 refine (within1_any lo hi (q 52) bl bh _ (zS3.ob 1 false tl) (zS3.ob 2 false th)).mono ?_; rintro _ zw9 ⟨rfl, zhc10⟩
 have zS11 := zS3.quiet zhc10
 refine pure_ (.bool (!(inB lo hi (q 52)))) ?_
 refine nil_ (then_n ?_)
 refine cond_S (!(inB lo hi (q 52))) ?_ ?_
 · intro zh12
   have zh13 := notT' zh12
   refine seq_ (reg_ ?_)
   refine pure_ (.bool false) ?_
   refine nil_ (then_n (wp_ret (blk_r (then_r (then_r (blk_r (then_r ?_)))))))
   refine ret_ rfl (res_ [.tmp 4] [.bool false] (.bool false) ⟨res_tmp, trivial⟩) ?_
   exact ⟨congrArg Value.bool (by simp [allI, zh6, zh7, zh12, zh13]), zS11.ch⟩
 intro zh14
 have zh15 := notF' zh14
 have zh16 := inB_is _ _ _ zh15
 refine wp_skip (blk_n (then_n (reg_ ?_)))
 refine pure_ (.int .i64 2) ?_
 refine pure_ (.int .i64 2) ?_
 refine nil_ (again_ (seq_ (reg_ ?_)))
 refine pure_ (.bool true) ?_
 refine nil_ (then_n (seq_ (cond_T ?_)))
 refine wp_skip (then_n (seq_ (wp_block (seq_ (reg_ ?_)))))
 refine pure_ (.pointer (some ⟨bs, 53, none⟩)) ?_
 refine load1_ zS11 0 (.int .i64 (q 53)) bs 53 ?_
 refine pure_ (.int .i64 (q 53)) ?_
 refine nil_ (then_n (seq_ (reg_ ?_)))
 refine move_ ?_
 refine pure_ (.int .i64 (q 53)) ?_
 refine call_ 84 #[.int .i64 (q 53), .pointer (some ⟨bl, 0, none⟩), .pointer (some ⟨bh, 0, none⟩)] ?_
 refine (within1_any lo hi (q 53) bl bh _ (zS11.ob 1 false tl) (zS11.ob 2 false th)).mono ?_; rintro _ zw17 ⟨rfl, zhc18⟩
 have zS19 := zS11.quiet zhc18
 refine pure_ (.bool (!(inB lo hi (q 53)))) ?_
 refine nil_ (then_n ?_)
 refine cond_S (!(inB lo hi (q 53))) ?_ ?_
 · intro zh20
   have zh21 := notT' zh20
   refine seq_ (reg_ ?_)
   refine pure_ (.bool false) ?_
   refine nil_ (then_n (wp_ret (blk_r (then_r (then_r (blk_r (then_r ?_)))))))
   refine ret_ rfl (res_ [.tmp 4] [.bool false] (.bool false) ⟨res_tmp, trivial⟩) ?_
   exact ⟨congrArg Value.bool (by simp [allI, zh6, zh7, zh14, zh15, zh20, zh21]), zS19.ch⟩
 intro zh22
 have zh23 := notF' zh22
 have zh24 := inB_is _ _ _ zh23
 refine wp_skip (blk_n (then_n (reg_ ?_)))
 refine pure_ (.int .i64 3) ?_
 refine pure_ (.int .i64 3) ?_
 refine nil_ (again_ (seq_ (reg_ ?_)))
 refine pure_ (.bool false) ?_
 refine nil_ (then_n (seq_ (cond_F ?_)))
 refine wp_exit (then_e (then_e (blk_e (then_n (seq_ (reg_ ?_))))))
 refine pure_ (.bool true) ?_
 refine nil_ (then_n (wp_ret ?_))
 refine ret_ rfl (res_ [.tmp 4] [.bool true] (.bool true) ⟨res_tmp, trivial⟩) ?_
 exact ⟨congrArg Value.bool (by simp [allI, zh6, zh7, zh14, zh15, zh22, zh23]), zS19.ch⟩

set_option maxRecDepth 100000 in
set_option maxHeartbeats 4000000 in
theorem key_any (a : Option Addr) (n c : Nat) (w : World) :
    Gives Tryz.prog 57 #[.slice a n c] w fun v w1 => v = .bool (keyB n) ∧ Ch [] w w1 := by
 have S0 := St.nil [] w
 refine enter_ Tryz.func57 rfl ?_
 refine seq_ (reg_ ?_)
 refine pure_ (.bool false) ?_
 refine nil_ (then_n (seq_ (reg_ ?_)))
 refine pure_ (.slice a n c) ?_
 refine pure_ (.int .i64 ((n : Nat) : Int)) ?_
 refine pure_ (.bool (decide (1 ≤ ((n : Nat) : Int)))) ?_
 refine move_ ?_
 refine slot_ 6 (decide (1 ≤ ((n : Nat) : Int))) ?_ ?_
 · intro zh1
   have zh2 := leT' zh1
   refine pure_ (.slice a n c) ?_
   refine pure_ (.int .i64 ((n : Nat) : Int)) ?_
   refine pure_ (.bool (decide (((n : Nat) : Int) ≤ 64))) ?_
   refine pure_ (.bool (decide (((n : Nat) : Int) ≤ 64))) ?_
   refine assign_ ?_
   refine nil_ (then_n (wp_ret ?_))
   refine ret_ rfl (res_ [.tmp 2] [.bool (decide (((n : Nat) : Int) ≤ 64))] (.bool (decide (((n : Nat) : Int) ≤ 64))) ⟨res_tmp, trivial⟩) ?_
   exact ⟨congrArg Value.bool (by simp [keyB, zh1]), S0.ch⟩
 intro zh3
 have zh4 := leF' zh3
 refine skip_ ?_
 refine skip_ ?_
 refine skip_ ?_
 refine pure_ (.bool false) ?_
 refine pure_ (.bool false) ?_
 refine nil_ (then_n (wp_ret ?_))
 refine ret_ rfl (res_ [.tmp 2] [.bool false] (.bool false) ⟨res_tmp, trivial⟩) ?_
 exact ⟨congrArg Value.bool (by simp [keyB, zh3]), S0.ch⟩

set_option maxRecDepth 100000 in
set_option maxHeartbeats 4000000 in
theorem roles_any (n : Int) (w : World) :
    Gives Tryz.prog 59 #[.int .i64 n] w fun v w1 => v = .bool (setB n) ∧ Ch [] w w1 := by
 have S0 := St.nil [] w
 refine enter_ Tryz.func59 rfl ?_
 refine seq_ (reg_ ?_)
 refine pure_ (.bool false) ?_
 refine nil_ (then_n (seq_ (reg_ ?_)))
 refine call_ 62 #[.int .i64 0, .int .i64 15] ?_
 refine enter_ Tryz.func62 rfl ?_
 refine seq_ (reg_ ?_)
 refine new_ S0 (fun b => .pointer (some ⟨b, 0, none⟩)) (.cells #[.int .i64 0] 3) ?_
 intro zb1 zw2 zS3
 refine new_ zS3 (fun b => .pointer (some ⟨b, 0, none⟩)) (.cells #[.int .i64 15] 3) ?_
 intro zb4 zw5 zS6
 refine pure_ (.nilFunc) ?_
 refine nil_ (then_n (seq_ (reg_ ?_)))
 refine pure_ (.func (.func 84) #[] #[.pointer (some ⟨zb1, 0, none⟩), .pointer (some ⟨zb4, 0, none⟩)]) ?_
 refine assign_ ?_
 refine nil_ (then_n (wp_ret ?_))
 refine ret_ rfl (res_ [.tmp 4] [.func (.func 84) #[] #[.pointer (some ⟨zb1, 0, none⟩), .pointer (some ⟨zb4, 0, none⟩)]] (.func (.func 84) #[] #[.pointer (some ⟨zb1, 0, none⟩), .pointer (some ⟨zb4, 0, none⟩)]) ⟨res_tmp, trivial⟩) ?_
 refine pure_ (.int .i64 n) ?_
 refine call_ 84 #[.int .i64 n, .pointer (some ⟨zb1, 0, none⟩), .pointer (some ⟨zb4, 0, none⟩)] ?_
 refine (within1_any 0 15 n zb1 zb4 _ (zS6.ob 1 true 3) (zS6.ob 0 true 3)).mono ?_; rintro _ zw7 ⟨rfl, zhc8⟩
 have zS9 := zS6.quiet zhc8
 refine pure_ (.bool (inB 0 15 n)) ?_
 refine slot_ 6 (inB 0 15 n) ?_ ?_
 · intro zh10
   have zh11 := inB_is _ _ _ zh10
   refine pure_ (.int .i64 n) ?_
   refine pureE_ (.int .i64 (Int.tmod n 2)) (.int .i64 (n % 2)) (congrArg _ (IntWalk.rem_in _ _ (by omega))) ?_
   refine pure_ (.bool ((n % 2) == 0)) ?_
   refine pure_ (.bool ((n % 2) == 0)) ?_
   refine pure_ (.bool ((n % 2) == 0)) ?_
   refine nil_ (then_n (wp_ret ?_))
   refine ret_ rfl (res_ [.tmp 2] [.bool ((n % 2) == 0)] (.bool ((n % 2) == 0)) ⟨res_tmp, trivial⟩) ?_
   exact ⟨congrArg Value.bool (by simp [setB, zh10]), zS9.ch⟩
 intro zh12
 refine skip_ ?_
 refine skip_ ?_
 refine skip_ ?_
 refine pure_ (.bool false) ?_
 refine pure_ (.bool false) ?_
 refine nil_ (then_n (wp_ret ?_))
 refine ret_ rfl (res_ [.tmp 2] [.bool false] (.bool false) ⟨res_tmp, trivial⟩) ?_
 exact ⟨congrArg Value.bool (by simp [setB, zh12]), zS9.ch⟩

set_option maxRecDepth 100000 in
set_option maxHeartbeats 4000000 in
theorem caps_any (x0 x1 x2 x3 : Int) (w : World) :
    Gives Tryz.prog 61 #[.agg #[.int .i64 x0, .int .i64 x1, .int .i64 x2, .int .i64 x3]] w fun v w1 => v = .bool (allI 0 15 [x0, x1, x2, x3]) ∧ Ch [] w w1 := by
 have S0 := St.nil [] w
 refine enter_ Tryz.func61 rfl ?_
 refine seq_ (reg_ ?_)
 refine new_ S0 (fun b => .pointer (some ⟨b, 0, none⟩)) (.cells #[.int .i64 x0, .int .i64 x1, .int .i64 x2, .int .i64 x3] 25) ?_
 intro zb1 zw2 zS3
 refine pure_ (.bool false) ?_
 refine nil_ (then_n (seq_ ?_))
 refine drawnL_ 2 [⟨0, fun _ => .slice (some ⟨zb1, 0, none⟩) 4 4, fun _ => []⟩, ⟨2, fun ids => .func (.func 84) #[] #[.pointer (some ⟨(ids.getD 0 0), 0, none⟩), .pointer (some ⟨(ids.getD 1 0), 0, none⟩)], fun ids => [((ids.getD 0 0), .cells #[.int .i64 0] 3 (0, 0)), ((ids.getD 1 0), .cells #[.int .i64 15] 3 (0, 0))]⟩] [[2, 0], [2, 1], [3, 0], [3, 1], [3, 2]] ?_ ?_
 · refine step_cons ?_ ?_
   · intro zy4 zw5 zhc6 zhf7 zhp8
     have zh9 : zy4 1 = .pointer (some ⟨zb1, 0, none⟩) := (zhf7 1 (by kernel_rfl)).trans (by kernel_rfl)
     have zS10 := zS3.quiet zhc6
     refine step1 ?_
     refine yenv [(1, .pointer (some ⟨zb1, 0, none⟩))] (ag_cons zh9 (ag_nil)) ?_
     have zS11 := zS10.loc
     refine Y.pure_ (.slice (some ⟨zb1, 0, none⟩) 4 4) ?_
     exact ⟨zS11.ch, Sp.mk_holds [] (all_nil)⟩
   refine step_cons ?_ ?_
   · intro zy12 zw13 zhc14 zhf15 zhp16
     have zS17 := zS3.quiet zhc14
     refine step1 ?_
     refine yenv [] (ag_nil) ?_
     have zS18 := zS17.loc
     refine Y.call_ 62 #[.int .i64 0, .int .i64 15] ?_
     refine enter_ Tryz.func62 rfl ?_
     refine seq_ (reg_ ?_)
     refine new_ zS18 (fun b => .pointer (some ⟨b, 0, none⟩)) (.cells #[.int .i64 0] 3) ?_
     intro zb19 zw20 zS21
     refine new_ zS21 (fun b => .pointer (some ⟨b, 0, none⟩)) (.cells #[.int .i64 15] 3) ?_
     intro zb22 zw23 zS24
     refine pure_ (.nilFunc) ?_
     refine nil_ (then_n (seq_ (reg_ ?_)))
     refine pure_ (.func (.func 84) #[] #[.pointer (some ⟨zb19, 0, none⟩), .pointer (some ⟨zb22, 0, none⟩)]) ?_
     refine assign_ ?_
     refine nil_ (then_n (wp_ret ?_))
     refine ret_ rfl (res_ [.tmp 4] [.func (.func 84) #[] #[.pointer (some ⟨zb19, 0, none⟩), .pointer (some ⟨zb22, 0, none⟩)]] (.func (.func 84) #[] #[.pointer (some ⟨zb19, 0, none⟩), .pointer (some ⟨zb22, 0, none⟩)]) ⟨res_tmp, trivial⟩) ?_
     exact ⟨zS24.ch, Sp.mk_holds [zb19, zb22] (all_cons (zS24.isNew zhc14.size 1 (by kernel_rfl)) (all_cons (zS24.isNew zhc14.size 0 (by kernel_rfl)) (all_nil)))⟩
   exact step_nil
 intro zv25 zw26 zhc27 zha28
 have zh29 : zv25 0 = .slice (some ⟨zb1, 0, none⟩) 4 4 := (Sp.out0 (zha28 0 (by kernel_rfl))).1
 obtain ⟨zb31, zb32, zh30', zg33'⟩ := Sp.out2 (zha28 1 (by kernel_rfl))
 have zh30 : zv25 1 = .func (.func 84) #[] #[.pointer (some ⟨zb31, 0, none⟩), .pointer (some ⟨zb32, 0, none⟩)] := zh30'
 have zg33 : ∀ p ∈ ([(zb31, .cells #[.int .i64 0] 3 (0, 0)), (zb32, .cells #[.int .i64 15] 3 (0, 0))] : List (Nat × Obj)), zw2.heap.size ≤ p.1 ∧ zw26.heap[p.1]? = some p.2 := zg33'
 have zS34 := zS3.ro zhc27 ([(zb31, .cells #[.int .i64 0] 3 (0, 0)), (zb32, .cells #[.int .i64 15] 3 (0, 0))]) (zg33)
 refine ⟨[.slice (some ⟨zb1, 0, none⟩) 4 4, .func (.func 84) #[] #[.pointer (some ⟨zb31, 0, none⟩), .pointer (some ⟨zb32, 0, none⟩)]], by kernel_rfl, va_cons zh29 (va_cons zh30 (va_nil)), ?_⟩
 refine call_ 58 #[.slice (some ⟨zb1, 0, none⟩) 4 4, .func (.func 84) #[] #[.pointer (some ⟨zb31, 0, none⟩), .pointer (some ⟨zb32, 0, none⟩)]] ?_
 refine (all_s4 0 15 x0 x1 x2 x3 zb1 zb31 zb32 _ (zS34.ob 2 true 25) (zS34.ob 0 false 3) (zS34.ob 1 false 3)).mono ?_; rintro _ zw35 ⟨rfl, zhc36⟩
 have zS37 := zS34.quiet zhc36
 refine assign_ ?_
 refine nil_ (then_n (wp_ret ?_))
 refine ret_ rfl (res_ [.tmp 2] [.bool (allI 0 15 [x0, x1, x2, x3])] (.bool (allI 0 15 [x0, x1, x2, x3])) ⟨res_tmp, trivial⟩) ?_
 exact ⟨rfl, zS37.ch⟩

set_option maxRecDepth 100000 in
set_option maxHeartbeats 4000000 in
theorem all_keys (q : Nat → Int) (ka : Nat → Option Addr) (kn kc : Nat → Nat) (bs : Nat) {ts : TypeId} (w : World) (hs : w.heap[bs]? = some (.cells (polC q ka kn kc) ts (0, 0))) :
    Gives Tryz.prog 56 #[.slice (some ⟨bs, 5, none⟩) 3 3, .func (.func 57) #[] #[]] w fun v w1 => v = .bool (keys3 kn) ∧ Ch [] w w1 := by
 have S0 := St.given (w := w) [(bs, .cells (polC q ka kn kc) ts (0, 0))] (all_cons hs (all_nil))
 refine enter_ Tryz.func56 rfl ?_
 refine seq_ (reg_ ?_)
 refine pure_ (.bool false) ?_
 refine nil_ (then_n (seq_ (seq_ (reg_ ?_))))
 refine move_ ?_
 refine pure_ (.int .i64 3) ?_
 refine pure_ (.int .i64 0) ?_
 refine nil_ (then_n (wp_block (loop_ 24 (seq_ (reg_ ?_)))))
 refine pure_ (.bool true) ?_
 refine nil_ (then_n (seq_ (cond_T ?_)))
 refine wp_skip (then_n (seq_ (wp_block (seq_ (reg_ ?_)))))
 refine pure_ (.pointer (some ⟨bs, 5, none⟩)) ?_
 refine load1_ S0 0 (.slice (ka 0) (kn 0) (kc 0)) bs 5 ?_
 refine assign_ ?_
 refine nil_ (then_n (seq_ (reg_ ?_)))
 refine pure_ (.func (.func 57) #[] #[]) ?_
 refine move_ ?_
 refine call_ 57 #[.slice (ka 0) (kn 0) (kc 0)] ?_
 refine (key_any (ka 0) (kn 0) (kc 0) _).mono ?_; rintro _ zw1 ⟨rfl, zhc2⟩
 have zS3 := S0.quiet zhc2
 refine pure_ (.bool (!(keyB (kn 0)))) ?_
 refine nil_ (then_n ?_)
 refine cond_S (!(keyB (kn 0))) ?_ ?_
 · intro zh4
   have zh5 := notT' zh4
   refine seq_ (reg_ ?_)
   refine pure_ (.bool false) ?_
   refine nil_ (then_n (wp_ret (blk_r (then_r (then_r (blk_r (then_r ?_)))))))
   refine ret_ rfl (res_ [.tmp 4] [.bool false] (.bool false) ⟨res_tmp, trivial⟩) ?_
   exact ⟨congrArg Value.bool (by simp [keys3, roles3, tab5, zh4, zh5]), zS3.ch⟩
 intro zh6
 have zh7 := notF' zh6
 refine wp_skip (blk_n (then_n (reg_ ?_)))
 refine pure_ (.int .i64 1) ?_
 refine pure_ (.int .i64 1) ?_
 refine nil_ (again_ (seq_ (reg_ ?_)))
 refine pure_ (.bool true) ?_
 refine nil_ (then_n (seq_ (cond_T ?_)))
 refine wp_skip (then_n (seq_ (wp_block (seq_ (reg_ ?_)))))
 refine pure_ (.pointer (some ⟨bs, 6, none⟩)) ?_
 refine load1_ zS3 0 (.slice (ka 1) (kn 1) (kc 1)) bs 6 ?_
 refine assign_ ?_
 refine nil_ (then_n (seq_ (reg_ ?_)))
 refine pure_ (.func (.func 57) #[] #[]) ?_
 refine move_ ?_
 refine call_ 57 #[.slice (ka 1) (kn 1) (kc 1)] ?_
 refine (key_any (ka 1) (kn 1) (kc 1) _).mono ?_; rintro _ zw8 ⟨rfl, zhc9⟩
 have zS10 := zS3.quiet zhc9
 refine pure_ (.bool (!(keyB (kn 1)))) ?_
 refine nil_ (then_n ?_)
 refine cond_S (!(keyB (kn 1))) ?_ ?_
 · intro zh11
   have zh12 := notT' zh11
   refine seq_ (reg_ ?_)
   refine pure_ (.bool false) ?_
   refine nil_ (then_n (wp_ret (blk_r (then_r (then_r (blk_r (then_r ?_)))))))
   refine ret_ rfl (res_ [.tmp 4] [.bool false] (.bool false) ⟨res_tmp, trivial⟩) ?_
   exact ⟨congrArg Value.bool (by simp [keys3, roles3, tab5, zh6, zh7, zh11, zh12]), zS10.ch⟩
 intro zh13
 have zh14 := notF' zh13
 refine wp_skip (blk_n (then_n (reg_ ?_)))
 refine pure_ (.int .i64 2) ?_
 refine pure_ (.int .i64 2) ?_
 refine nil_ (again_ (seq_ (reg_ ?_)))
 refine pure_ (.bool true) ?_
 refine nil_ (then_n (seq_ (cond_T ?_)))
 refine wp_skip (then_n (seq_ (wp_block (seq_ (reg_ ?_)))))
 refine pure_ (.pointer (some ⟨bs, 7, none⟩)) ?_
 refine load1_ zS10 0 (.slice (ka 2) (kn 2) (kc 2)) bs 7 ?_
 refine assign_ ?_
 refine nil_ (then_n (seq_ (reg_ ?_)))
 refine pure_ (.func (.func 57) #[] #[]) ?_
 refine move_ ?_
 refine call_ 57 #[.slice (ka 2) (kn 2) (kc 2)] ?_
 refine (key_any (ka 2) (kn 2) (kc 2) _).mono ?_; rintro _ zw15 ⟨rfl, zhc16⟩
 have zS17 := zS10.quiet zhc16
 refine pure_ (.bool (!(keyB (kn 2)))) ?_
 refine nil_ (then_n ?_)
 refine cond_S (!(keyB (kn 2))) ?_ ?_
 · intro zh18
   have zh19 := notT' zh18
   refine seq_ (reg_ ?_)
   refine pure_ (.bool false) ?_
   refine nil_ (then_n (wp_ret (blk_r (then_r (then_r (blk_r (then_r ?_)))))))
   refine ret_ rfl (res_ [.tmp 4] [.bool false] (.bool false) ⟨res_tmp, trivial⟩) ?_
   exact ⟨congrArg Value.bool (by simp [keys3, roles3, tab5, zh6, zh7, zh13, zh14, zh18, zh19]), zS17.ch⟩
 intro zh20
 have zh21 := notF' zh20
 refine wp_skip (blk_n (then_n (reg_ ?_)))
 refine pure_ (.int .i64 3) ?_
 refine pure_ (.int .i64 3) ?_
 refine nil_ (again_ (seq_ (reg_ ?_)))
 refine pure_ (.bool false) ?_
 refine nil_ (then_n (seq_ (cond_F ?_)))
 refine wp_exit (then_e (then_e (blk_e (then_n (seq_ (reg_ ?_))))))
 refine pure_ (.bool true) ?_
 refine nil_ (then_n (wp_ret ?_))
 refine ret_ rfl (res_ [.tmp 4] [.bool true] (.bool true) ⟨res_tmp, trivial⟩) ?_
 exact ⟨congrArg Value.bool (by simp [keys3, roles3, tab5, zh6, zh7, zh13, zh14, zh20, zh21]), zS17.ch⟩

set_option maxRecDepth 100000 in
set_option maxHeartbeats 4000000 in
theorem all_roles (q : Nat → Int) (ka : Nat → Option Addr) (kn kc : Nat → Nat) (bs : Nat) {ts : TypeId} (w : World) (hs : w.heap[bs]? = some (.cells (polC q ka kn kc) ts (0, 0))) :
    Gives Tryz.prog 58 #[.slice (some ⟨bs, 10, none⟩) 3 4, .func (.func 59) #[] #[]] w fun v w1 => v = .bool (roles3 q) ∧ Ch [] w w1 := by
 have S0 := St.given (w := w) [(bs, .cells (polC q ka kn kc) ts (0, 0))] (all_cons hs (all_nil))
 refine enter_ Tryz.func58 rfl ?_
 refine seq_ (reg_ ?_)
 refine pure_ (.bool false) ?_
 refine nil_ (then_n (seq_ (seq_ (reg_ ?_))))
 refine move_ ?_
 refine pure_ (.int .i64 3) ?_
 refine pure_ (.int .i64 0) ?_
 refine nil_ (then_n (wp_block (loop_ 24 (seq_ (reg_ ?_)))))
 refine pure_ (.bool true) ?_
 refine nil_ (then_n (seq_ (cond_T ?_)))
 refine wp_skip (then_n (seq_ (wp_block (seq_ (reg_ ?_)))))
 refine pure_ (.pointer (some ⟨bs, 10, none⟩)) ?_
 refine load1_ S0 0 (.int .i64 (q 10)) bs 10 ?_
 refine pure_ (.int .i64 (q 10)) ?_
 refine nil_ (then_n (seq_ (reg_ ?_)))
 refine pure_ (.func (.func 59) #[] #[]) ?_
 refine pure_ (.int .i64 (q 10)) ?_
 refine call_ 59 #[.int .i64 (q 10)] ?_
 refine (roles_any (q 10) _).mono ?_; rintro _ zw1 ⟨rfl, zhc2⟩
 have zS3 := S0.quiet zhc2
 refine pure_ (.bool (!(setB (q 10)))) ?_
 refine nil_ (then_n ?_)
 refine cond_S (!(setB (q 10))) ?_ ?_
 · intro zh4
   have zh5 := notT' zh4
   refine seq_ (reg_ ?_)
   refine pure_ (.bool false) ?_
   refine nil_ (then_n (wp_ret (blk_r (then_r (then_r (blk_r (then_r ?_)))))))
   refine ret_ rfl (res_ [.tmp 4] [.bool false] (.bool false) ⟨res_tmp, trivial⟩) ?_
   exact ⟨congrArg Value.bool (by simp [keys3, roles3, tab5, zh4, zh5]), zS3.ch⟩
 intro zh6
 have zh7 := notF' zh6
 refine wp_skip (blk_n (then_n (reg_ ?_)))
 refine pure_ (.int .i64 1) ?_
 refine pure_ (.int .i64 1) ?_
 refine nil_ (again_ (seq_ (reg_ ?_)))
 refine pure_ (.bool true) ?_
 refine nil_ (then_n (seq_ (cond_T ?_)))
 refine wp_skip (then_n (seq_ (wp_block (seq_ (reg_ ?_)))))
 refine pure_ (.pointer (some ⟨bs, 11, none⟩)) ?_
 refine load1_ zS3 0 (.int .i64 (q 11)) bs 11 ?_
 refine pure_ (.int .i64 (q 11)) ?_
 refine nil_ (then_n (seq_ (reg_ ?_)))
 refine pure_ (.func (.func 59) #[] #[]) ?_
 refine pure_ (.int .i64 (q 11)) ?_
 refine call_ 59 #[.int .i64 (q 11)] ?_
 refine (roles_any (q 11) _).mono ?_; rintro _ zw8 ⟨rfl, zhc9⟩
 have zS10 := zS3.quiet zhc9
 refine pure_ (.bool (!(setB (q 11)))) ?_
 refine nil_ (then_n ?_)
 refine cond_S (!(setB (q 11))) ?_ ?_
 · intro zh11
   have zh12 := notT' zh11
   refine seq_ (reg_ ?_)
   refine pure_ (.bool false) ?_
   refine nil_ (then_n (wp_ret (blk_r (then_r (then_r (blk_r (then_r ?_)))))))
   refine ret_ rfl (res_ [.tmp 4] [.bool false] (.bool false) ⟨res_tmp, trivial⟩) ?_
   exact ⟨congrArg Value.bool (by simp [keys3, roles3, tab5, zh6, zh7, zh11, zh12]), zS10.ch⟩
 intro zh13
 have zh14 := notF' zh13
 refine wp_skip (blk_n (then_n (reg_ ?_)))
 refine pure_ (.int .i64 2) ?_
 refine pure_ (.int .i64 2) ?_
 refine nil_ (again_ (seq_ (reg_ ?_)))
 refine pure_ (.bool true) ?_
 refine nil_ (then_n (seq_ (cond_T ?_)))
 refine wp_skip (then_n (seq_ (wp_block (seq_ (reg_ ?_)))))
 refine pure_ (.pointer (some ⟨bs, 12, none⟩)) ?_
 refine load1_ zS10 0 (.int .i64 (q 12)) bs 12 ?_
 refine pure_ (.int .i64 (q 12)) ?_
 refine nil_ (then_n (seq_ (reg_ ?_)))
 refine pure_ (.func (.func 59) #[] #[]) ?_
 refine pure_ (.int .i64 (q 12)) ?_
 refine call_ 59 #[.int .i64 (q 12)] ?_
 refine (roles_any (q 12) _).mono ?_; rintro _ zw15 ⟨rfl, zhc16⟩
 have zS17 := zS10.quiet zhc16
 refine pure_ (.bool (!(setB (q 12)))) ?_
 refine nil_ (then_n ?_)
 refine cond_S (!(setB (q 12))) ?_ ?_
 · intro zh18
   have zh19 := notT' zh18
   refine seq_ (reg_ ?_)
   refine pure_ (.bool false) ?_
   refine nil_ (then_n (wp_ret (blk_r (then_r (then_r (blk_r (then_r ?_)))))))
   refine ret_ rfl (res_ [.tmp 4] [.bool false] (.bool false) ⟨res_tmp, trivial⟩) ?_
   exact ⟨congrArg Value.bool (by simp [keys3, roles3, tab5, zh6, zh7, zh13, zh14, zh18, zh19]), zS17.ch⟩
 intro zh20
 have zh21 := notF' zh20
 refine wp_skip (blk_n (then_n (reg_ ?_)))
 refine pure_ (.int .i64 3) ?_
 refine pure_ (.int .i64 3) ?_
 refine nil_ (again_ (seq_ (reg_ ?_)))
 refine pure_ (.bool false) ?_
 refine nil_ (then_n (seq_ (cond_F ?_)))
 refine wp_exit (then_e (then_e (blk_e (then_n (seq_ (reg_ ?_))))))
 refine pure_ (.bool true) ?_
 refine nil_ (then_n (wp_ret ?_))
 refine ret_ rfl (res_ [.tmp 4] [.bool true] (.bool true) ⟨res_tmp, trivial⟩) ?_
 exact ⟨congrArg Value.bool (by simp [keys3, roles3, tab5, zh6, zh7, zh13, zh14, zh20, zh21]), zS17.ch⟩

set_option maxRecDepth 100000 in
set_option maxHeartbeats 4000000 in
theorem all_table (q : Nat → Int) (ka : Nat → Option Addr) (kn kc : Nat → Nat) (bs : Nat) {ts : TypeId} (w : World) (hs : w.heap[bs]? = some (.cells (polC q ka kn kc) ts (0, 0))) :
    Gives Tryz.prog 60 #[.slice (some ⟨bs, 14, none⟩) 5 5, .func (.func 61) #[] #[]] w fun v w1 => v = .bool (tab5 q) ∧ Ch [] w w1 := by
 have S0 := St.given (w := w) [(bs, .cells (polC q ka kn kc) ts (0, 0))] (all_cons hs (all_nil))
 refine enter_ Tryz.func60 rfl ?_
 refine seq_ (reg_ ?_)
 refine pure_ (.bool false) ?_
 refine nil_ (then_n (seq_ (seq_ (reg_ ?_))))
 refine move_ ?_
 refine pure_ (.int .i64 5) ?_
 refine pure_ (.int .i64 0) ?_
 refine nil_ (then_n (wp_block (loop_ 24 (seq_ (reg_ ?_)))))
 refine pure_ (.bool true) ?_
 refine nil_ (then_n (seq_ (cond_T ?_)))
 refine wp_skip (then_n (seq_ (wp_block (seq_ (reg_ ?_)))))
 refine pure_ (.pointer (some ⟨bs, 14, none⟩)) ?_
 refine loadN_ S0 0 4 #[.int .i64 (q 14), .int .i64 (q 15), .int .i64 (q 16), .int .i64 (q 17)] bs 14 ?_
 refine new_ S0 (fun b => .pointer (some ⟨b, 0, none⟩)) (.cells #[.int .i64 0, .int .i64 0, .int .i64 0, .int .i64 0] 25) ?_
 intro zb1 zw2 zS3
 refine store_ zS3 0 (.agg #[.int .i64 (q 14), .int .i64 (q 15), .int .i64 (q 16), .int .i64 (q 17)]) zb1 0 ?_
 intro zw4 zS5
 refine nil_ (then_n (seq_ (reg_ ?_)))
 refine pure_ (.func (.func 61) #[] #[]) ?_
 refine loadN_ zS5 0 4 #[.int .i64 (q 14), .int .i64 (q 15), .int .i64 (q 16), .int .i64 (q 17)] zb1 0 ?_
 refine call_ 61 #[.agg #[.int .i64 (q 14), .int .i64 (q 15), .int .i64 (q 16), .int .i64 (q 17)]] ?_
 refine (caps_any (q 14) (q 15) (q 16) (q 17) _).mono ?_; rintro _ zw6 ⟨rfl, zhc7⟩
 have zS8 := zS5.quiet zhc7
 refine pure_ (.bool (!(allI 0 15 [(q 14), (q 15), (q 16), (q 17)]))) ?_
 refine nil_ (then_n ?_)
 refine cond_S (!(allI 0 15 [(q 14), (q 15), (q 16), (q 17)])) ?_ ?_
 · intro zh9
   have zh10 := notT' zh9
   refine seq_ (reg_ ?_)
   refine pure_ (.bool false) ?_
   refine nil_ (then_n (wp_ret (blk_r (then_r (then_r (blk_r (then_r ?_)))))))
   refine ret_ rfl (res_ [.tmp 4] [.bool false] (.bool false) ⟨res_tmp, trivial⟩) ?_
   exact ⟨congrArg Value.bool (by simp [keys3, roles3, tab5, zh9, zh10]), zS8.ch⟩
 intro zh11
 have zh12 := notF' zh11
 refine wp_skip (blk_n (then_n (reg_ ?_)))
 refine pure_ (.int .i64 1) ?_
 refine pure_ (.int .i64 1) ?_
 refine nil_ (again_ (seq_ (reg_ ?_)))
 refine pure_ (.bool true) ?_
 refine nil_ (then_n (seq_ (cond_T ?_)))
 refine wp_skip (then_n (seq_ (wp_block (seq_ (reg_ ?_)))))
 refine pure_ (.pointer (some ⟨bs, 18, none⟩)) ?_
 refine loadN_ zS8 1 4 #[.int .i64 (q 18), .int .i64 (q 19), .int .i64 (q 20), .int .i64 (q 21)] bs 18 ?_
 refine new_ zS8 (fun b => .pointer (some ⟨b, 0, none⟩)) (.cells #[.int .i64 0, .int .i64 0, .int .i64 0, .int .i64 0] 25) ?_
 intro zb13 zw14 zS15
 refine store_ zS15 0 (.agg #[.int .i64 (q 18), .int .i64 (q 19), .int .i64 (q 20), .int .i64 (q 21)]) zb13 0 ?_
 intro zw16 zS17
 refine nil_ (then_n (seq_ (reg_ ?_)))
 refine pure_ (.func (.func 61) #[] #[]) ?_
 refine loadN_ zS17 0 4 #[.int .i64 (q 18), .int .i64 (q 19), .int .i64 (q 20), .int .i64 (q 21)] zb13 0 ?_
 refine call_ 61 #[.agg #[.int .i64 (q 18), .int .i64 (q 19), .int .i64 (q 20), .int .i64 (q 21)]] ?_
 refine (caps_any (q 18) (q 19) (q 20) (q 21) _).mono ?_; rintro _ zw18 ⟨rfl, zhc19⟩
 have zS20 := zS17.quiet zhc19
 refine pure_ (.bool (!(allI 0 15 [(q 18), (q 19), (q 20), (q 21)]))) ?_
 refine nil_ (then_n ?_)
 refine cond_S (!(allI 0 15 [(q 18), (q 19), (q 20), (q 21)])) ?_ ?_
 · intro zh21
   have zh22 := notT' zh21
   refine seq_ (reg_ ?_)
   refine pure_ (.bool false) ?_
   refine nil_ (then_n (wp_ret (blk_r (then_r (then_r (blk_r (then_r ?_)))))))
   refine ret_ rfl (res_ [.tmp 4] [.bool false] (.bool false) ⟨res_tmp, trivial⟩) ?_
   exact ⟨congrArg Value.bool (by simp [keys3, roles3, tab5, zh11, zh12, zh21, zh22]), zS20.ch⟩
 intro zh23
 have zh24 := notF' zh23
 refine wp_skip (blk_n (then_n (reg_ ?_)))
 refine pure_ (.int .i64 2) ?_
 refine pure_ (.int .i64 2) ?_
 refine nil_ (again_ (seq_ (reg_ ?_)))
 refine pure_ (.bool true) ?_
 refine nil_ (then_n (seq_ (cond_T ?_)))
 refine wp_skip (then_n (seq_ (wp_block (seq_ (reg_ ?_)))))
 refine pure_ (.pointer (some ⟨bs, 22, none⟩)) ?_
 refine loadN_ zS20 2 4 #[.int .i64 (q 22), .int .i64 (q 23), .int .i64 (q 24), .int .i64 (q 25)] bs 22 ?_
 refine new_ zS20 (fun b => .pointer (some ⟨b, 0, none⟩)) (.cells #[.int .i64 0, .int .i64 0, .int .i64 0, .int .i64 0] 25) ?_
 intro zb25 zw26 zS27
 refine store_ zS27 0 (.agg #[.int .i64 (q 22), .int .i64 (q 23), .int .i64 (q 24), .int .i64 (q 25)]) zb25 0 ?_
 intro zw28 zS29
 refine nil_ (then_n (seq_ (reg_ ?_)))
 refine pure_ (.func (.func 61) #[] #[]) ?_
 refine loadN_ zS29 0 4 #[.int .i64 (q 22), .int .i64 (q 23), .int .i64 (q 24), .int .i64 (q 25)] zb25 0 ?_
 refine call_ 61 #[.agg #[.int .i64 (q 22), .int .i64 (q 23), .int .i64 (q 24), .int .i64 (q 25)]] ?_
 refine (caps_any (q 22) (q 23) (q 24) (q 25) _).mono ?_; rintro _ zw30 ⟨rfl, zhc31⟩
 have zS32 := zS29.quiet zhc31
 refine pure_ (.bool (!(allI 0 15 [(q 22), (q 23), (q 24), (q 25)]))) ?_
 refine nil_ (then_n ?_)
 refine cond_S (!(allI 0 15 [(q 22), (q 23), (q 24), (q 25)])) ?_ ?_
 · intro zh33
   have zh34 := notT' zh33
   refine seq_ (reg_ ?_)
   refine pure_ (.bool false) ?_
   refine nil_ (then_n (wp_ret (blk_r (then_r (then_r (blk_r (then_r ?_)))))))
   refine ret_ rfl (res_ [.tmp 4] [.bool false] (.bool false) ⟨res_tmp, trivial⟩) ?_
   exact ⟨congrArg Value.bool (by simp [keys3, roles3, tab5, zh11, zh12, zh23, zh24, zh33, zh34]), zS32.ch⟩
 intro zh35
 have zh36 := notF' zh35
 refine wp_skip (blk_n (then_n (reg_ ?_)))
 refine pure_ (.int .i64 3) ?_
 refine pure_ (.int .i64 3) ?_
 refine nil_ (again_ (seq_ (reg_ ?_)))
 refine pure_ (.bool true) ?_
 refine nil_ (then_n (seq_ (cond_T ?_)))
 refine wp_skip (then_n (seq_ (wp_block (seq_ (reg_ ?_)))))
 refine pure_ (.pointer (some ⟨bs, 26, none⟩)) ?_
 refine loadN_ zS32 3 4 #[.int .i64 (q 26), .int .i64 (q 27), .int .i64 (q 28), .int .i64 (q 29)] bs 26 ?_
 refine new_ zS32 (fun b => .pointer (some ⟨b, 0, none⟩)) (.cells #[.int .i64 0, .int .i64 0, .int .i64 0, .int .i64 0] 25) ?_
 intro zb37 zw38 zS39
 refine store_ zS39 0 (.agg #[.int .i64 (q 26), .int .i64 (q 27), .int .i64 (q 28), .int .i64 (q 29)]) zb37 0 ?_
 intro zw40 zS41
 refine nil_ (then_n (seq_ (reg_ ?_)))
 refine pure_ (.func (.func 61) #[] #[]) ?_
 refine loadN_ zS41 0 4 #[.int .i64 (q 26), .int .i64 (q 27), .int .i64 (q 28), .int .i64 (q 29)] zb37 0 ?_
 refine call_ 61 #[.agg #[.int .i64 (q 26), .int .i64 (q 27), .int .i64 (q 28), .int .i64 (q 29)]] ?_
 refine (caps_any (q 26) (q 27) (q 28) (q 29) _).mono ?_; rintro _ zw42 ⟨rfl, zhc43⟩
 have zS44 := zS41.quiet zhc43
 refine pure_ (.bool (!(allI 0 15 [(q 26), (q 27), (q 28), (q 29)]))) ?_
 refine nil_ (then_n ?_)
 refine cond_S (!(allI 0 15 [(q 26), (q 27), (q 28), (q 29)])) ?_ ?_
 · intro zh45
   have zh46 := notT' zh45
   refine seq_ (reg_ ?_)
   refine pure_ (.bool false) ?_
   refine nil_ (then_n (wp_ret (blk_r (then_r (then_r (blk_r (then_r ?_)))))))
   refine ret_ rfl (res_ [.tmp 4] [.bool false] (.bool false) ⟨res_tmp, trivial⟩) ?_
   exact ⟨congrArg Value.bool (by simp [keys3, roles3, tab5, zh11, zh12, zh23, zh24, zh35, zh36, zh45, zh46]), zS44.ch⟩
 intro zh47
 have zh48 := notF' zh47
 refine wp_skip (blk_n (then_n (reg_ ?_)))
 refine pure_ (.int .i64 4) ?_
 refine pure_ (.int .i64 4) ?_
 refine nil_ (again_ (seq_ (reg_ ?_)))
 refine pure_ (.bool true) ?_
 refine nil_ (then_n (seq_ (cond_T ?_)))
 refine wp_skip (then_n (seq_ (wp_block (seq_ (reg_ ?_)))))
 refine pure_ (.pointer (some ⟨bs, 30, none⟩)) ?_
 refine loadN_ zS44 4 4 #[.int .i64 (q 30), .int .i64 (q 31), .int .i64 (q 32), .int .i64 (q 33)] bs 30 ?_
 refine new_ zS44 (fun b => .pointer (some ⟨b, 0, none⟩)) (.cells #[.int .i64 0, .int .i64 0, .int .i64 0, .int .i64 0] 25) ?_
 intro zb49 zw50 zS51
 refine store_ zS51 0 (.agg #[.int .i64 (q 30), .int .i64 (q 31), .int .i64 (q 32), .int .i64 (q 33)]) zb49 0 ?_
 intro zw52 zS53
 refine nil_ (then_n (seq_ (reg_ ?_)))
 refine pure_ (.func (.func 61) #[] #[]) ?_
 refine loadN_ zS53 0 4 #[.int .i64 (q 30), .int .i64 (q 31), .int .i64 (q 32), .int .i64 (q 33)] zb49 0 ?_
 refine call_ 61 #[.agg #[.int .i64 (q 30), .int .i64 (q 31), .int .i64 (q 32), .int .i64 (q 33)]] ?_
 refine (caps_any (q 30) (q 31) (q 32) (q 33) _).mono ?_; rintro _ zw54 ⟨rfl, zhc55⟩
 have zS56 := zS53.quiet zhc55
 refine pure_ (.bool (!(allI 0 15 [(q 30), (q 31), (q 32), (q 33)]))) ?_
 refine nil_ (then_n ?_)
 refine cond_S (!(allI 0 15 [(q 30), (q 31), (q 32), (q 33)])) ?_ ?_
 · intro zh57
   have zh58 := notT' zh57
   refine seq_ (reg_ ?_)
   refine pure_ (.bool false) ?_
   refine nil_ (then_n (wp_ret (blk_r (then_r (then_r (blk_r (then_r ?_)))))))
   refine ret_ rfl (res_ [.tmp 4] [.bool false] (.bool false) ⟨res_tmp, trivial⟩) ?_
   exact ⟨congrArg Value.bool (by simp [keys3, roles3, tab5, zh11, zh12, zh23, zh24, zh35, zh36, zh47, zh48, zh57, zh58]), zS56.ch⟩
 intro zh59
 have zh60 := notF' zh59
 refine wp_skip (blk_n (then_n (reg_ ?_)))
 refine pure_ (.int .i64 5) ?_
 refine pure_ (.int .i64 5) ?_
 refine nil_ (again_ (seq_ (reg_ ?_)))
 refine pure_ (.bool false) ?_
 refine nil_ (then_n (seq_ (cond_F ?_)))
 refine wp_exit (then_e (then_e (blk_e (then_n (seq_ (reg_ ?_))))))
 refine pure_ (.bool true) ?_
 refine nil_ (then_n (wp_ret ?_))
 refine ret_ rfl (res_ [.tmp 4] [.bool true] (.bool true) ⟨res_tmp, trivial⟩) ?_
 exact ⟨congrArg Value.bool (by simp [keys3, roles3, tab5, zh11, zh12, zh23, zh24, zh35, zh36, zh47, zh48, zh59, zh60]), zS56.ch⟩

set_option maxRecDepth 100000 in
set_option maxHeartbeats 4000000 in
theorem ordered1_any (x0 x1 x2 x3 x4 k : Int) (bo : Nat) {ts : TypeId} (w : World) (ho : w.heap[bo]? = some (.cells #[.int .i64 x0, .int .i64 x1, .int .i64 x2, .int .i64 x3, .int .i64 x4] ts (0, 0))) :
    Gives Tryz.prog 82 #[.int .i64 k, .pointer (some ⟨bo, 0, none⟩)] w fun v w1 => v = .bool (isIn x1 x2 x3 k) ∧ Ch [] w w1 := by
 have S0 := St.given (w := w) [(bo, .cells #[.int .i64 x0, .int .i64 x1, .int .i64 x2, .int .i64 x3, .int .i64 x4] ts (0, 0))] (all_cons ho (all_nil))
 refine enter_ Tryz.func82 rfl ?_
 refine seq_ (reg_ ?_)
 refine pure_ (.bool false) ?_
 refine nil_ (then_n (seq_ (reg_ ?_)))
 refine pure_ (.slice (some ⟨bo, 1, none⟩) 3 4) ?_
 refine pure_ (.int .i64 k) ?_
 refine call_ 83 #[.slice (some ⟨bo, 1, none⟩) 3 4, .int .i64 k] ?_
 refine enter_ Tryz.func83 rfl ?_
 refine seq_ (reg_ ?_)
 refine pure_ (.bool false) ?_
 refine nil_ (then_n (seq_ (reg_ ?_)))
 refine move_ ?_
 refine pure_ (.int .i64 k) ?_
 refine call_ 117 #[.slice (some ⟨bo, 1, none⟩) 3 4, .int .i64 k] ?_
 refine enter_ Tryz.func117 rfl ?_
 refine seq_ (reg_ ?_)
 refine pure_ (.int .i64 0) ?_
 refine nil_ (then_n (seq_ (seq_ (reg_ ?_))))
 refine move_ ?_
 refine pure_ (.int .i64 3) ?_
 refine pure_ (.int .i64 0) ?_
 refine nil_ (then_n (wp_block (loop_ 24 (seq_ (reg_ ?_)))))
 refine pure_ (.bool true) ?_
 refine nil_ (then_n (seq_ (cond_T ?_)))
 refine wp_skip (then_n (seq_ (wp_block (seq_ (reg_ ?_)))))
 refine pure_ (.int .i64 0) ?_
 refine pure_ (.int .i64 0) ?_
 refine nil_ (then_n (seq_ (reg_ ?_)))
 refine pure_ (.int .i64 k) ?_
 refine move_ ?_
 refine pure_ (.int .i64 0) ?_
 refine pure_ (.pointer (some ⟨bo, 1, none⟩)) ?_
 refine load1_ S0 0 (.int .i64 x1) bo 1 ?_
 refine pure_ (.bool (k == x1)) ?_
 refine nil_ (then_n ?_)
 refine cond_S (k == x1) ?_ ?_
 · intro zh1
   have zh2 := eqT' zh1
   refine seq_ (reg_ ?_)
   refine pure_ (.int .i64 0) ?_
   refine pure_ (.int .i64 0) ?_
   refine nil_ (then_n (wp_ret (blk_r (then_r (then_r (blk_r (then_r ?_)))))))
   refine ret_ rfl (res_ [.tmp 4] [.int .i64 0] (.int .i64 0) ⟨res_tmp, trivial⟩) ?_
   refine pure_ (.bool true) ?_
   refine pure_ (.bool true) ?_
   refine nil_ (then_n (wp_ret ?_))
   refine ret_ rfl (res_ [.tmp 4] [.bool true] (.bool true) ⟨res_tmp, trivial⟩) ?_
   refine pure_ (.bool true) ?_
   refine nil_ (then_n (wp_ret ?_))
   refine ret_ rfl (res_ [.tmp 3] [.bool true] (.bool true) ⟨res_tmp, trivial⟩) ?_
   exact ⟨congrArg Value.bool (by simp [isIn, zh1, zh2]), S0.ch⟩
 intro zh3
 have zh4 := eqF' zh3
 refine wp_skip (blk_n (then_n (reg_ ?_)))
 refine pure_ (.int .i64 1) ?_
 refine pure_ (.int .i64 1) ?_
 refine nil_ (again_ (seq_ (reg_ ?_)))
 refine pure_ (.bool true) ?_
 refine nil_ (then_n (seq_ (cond_T ?_)))
 refine wp_skip (then_n (seq_ (wp_block (seq_ (reg_ ?_)))))
 refine pure_ (.int .i64 1) ?_
 refine pure_ (.int .i64 1) ?_
 refine nil_ (then_n (seq_ (reg_ ?_)))
 refine pure_ (.int .i64 k) ?_
 refine move_ ?_
 refine pure_ (.int .i64 1) ?_
 refine pure_ (.pointer (some ⟨bo, 2, none⟩)) ?_
 refine load1_ S0 0 (.int .i64 x2) bo 2 ?_
 refine pure_ (.bool (k == x2)) ?_
 refine nil_ (then_n ?_)
 refine cond_S (k == x2) ?_ ?_
 · intro zh5
   have zh6 := eqT' zh5
   refine seq_ (reg_ ?_)
   refine pure_ (.int .i64 1) ?_
   refine pure_ (.int .i64 1) ?_
   refine nil_ (then_n (wp_ret (blk_r (then_r (then_r (blk_r (then_r ?_)))))))
   refine ret_ rfl (res_ [.tmp 4] [.int .i64 1] (.int .i64 1) ⟨res_tmp, trivial⟩) ?_
   refine pure_ (.bool true) ?_
   refine pure_ (.bool true) ?_
   refine nil_ (then_n (wp_ret ?_))
   refine ret_ rfl (res_ [.tmp 4] [.bool true] (.bool true) ⟨res_tmp, trivial⟩) ?_
   refine pure_ (.bool true) ?_
   refine nil_ (then_n (wp_ret ?_))
   refine ret_ rfl (res_ [.tmp 3] [.bool true] (.bool true) ⟨res_tmp, trivial⟩) ?_
   exact ⟨congrArg Value.bool (by simp [isIn, zh3, zh5, zh4, zh6]), S0.ch⟩
 intro zh7
 have zh8 := eqF' zh7
 refine wp_skip (blk_n (then_n (reg_ ?_)))
 refine pure_ (.int .i64 2) ?_
 refine pure_ (.int .i64 2) ?_
 refine nil_ (again_ (seq_ (reg_ ?_)))
 refine pure_ (.bool true) ?_
 refine nil_ (then_n (seq_ (cond_T ?_)))
 refine wp_skip (then_n (seq_ (wp_block (seq_ (reg_ ?_)))))
 refine pure_ (.int .i64 2) ?_
 refine pure_ (.int .i64 2) ?_
 refine nil_ (then_n (seq_ (reg_ ?_)))
 refine pure_ (.int .i64 k) ?_
 refine move_ ?_
 refine pure_ (.int .i64 2) ?_
 refine pure_ (.pointer (some ⟨bo, 3, none⟩)) ?_
 refine load1_ S0 0 (.int .i64 x3) bo 3 ?_
 refine pure_ (.bool (k == x3)) ?_
 refine nil_ (then_n ?_)
 refine cond_S (k == x3) ?_ ?_
 · intro zh9
   have zh10 := eqT' zh9
   refine seq_ (reg_ ?_)
   refine pure_ (.int .i64 2) ?_
   refine pure_ (.int .i64 2) ?_
   refine nil_ (then_n (wp_ret (blk_r (then_r (then_r (blk_r (then_r ?_)))))))
   refine ret_ rfl (res_ [.tmp 4] [.int .i64 2] (.int .i64 2) ⟨res_tmp, trivial⟩) ?_
   refine pure_ (.bool true) ?_
   refine pure_ (.bool true) ?_
   refine nil_ (then_n (wp_ret ?_))
   refine ret_ rfl (res_ [.tmp 4] [.bool true] (.bool true) ⟨res_tmp, trivial⟩) ?_
   refine pure_ (.bool true) ?_
   refine nil_ (then_n (wp_ret ?_))
   refine ret_ rfl (res_ [.tmp 3] [.bool true] (.bool true) ⟨res_tmp, trivial⟩) ?_
   exact ⟨congrArg Value.bool (by simp [isIn, zh3, zh7, zh9, zh4, zh8, zh10]), S0.ch⟩
 intro zh11
 have zh12 := eqF' zh11
 refine wp_skip (blk_n (then_n (reg_ ?_)))
 refine pure_ (.int .i64 3) ?_
 refine pure_ (.int .i64 3) ?_
 refine nil_ (again_ (seq_ (reg_ ?_)))
 refine pure_ (.bool false) ?_
 refine nil_ (then_n (seq_ (cond_F ?_)))
 refine wp_exit (then_e (then_e (blk_e (then_n (seq_ (reg_ ?_))))))
 refine pure_ (.int .i64 (-1)) ?_
 refine nil_ (then_n (wp_ret ?_))
 refine ret_ rfl (res_ [.tmp 4] [.int .i64 (-1)] (.int .i64 (-1)) ⟨res_tmp, trivial⟩) ?_
 refine pure_ (.bool false) ?_
 refine pure_ (.bool false) ?_
 refine nil_ (then_n (wp_ret ?_))
 refine ret_ rfl (res_ [.tmp 4] [.bool false] (.bool false) ⟨res_tmp, trivial⟩) ?_
 refine pure_ (.bool false) ?_
 refine nil_ (then_n (wp_ret ?_))
 refine ret_ rfl (res_ [.tmp 3] [.bool false] (.bool false) ⟨res_tmp, trivial⟩) ?_
 exact ⟨congrArg Value.bool (by simp [isIn, zh3, zh7, zh11, zh4, zh8, zh12]), S0.ch⟩

set_option maxRecDepth 100000 in
set_option maxHeartbeats 4000000 in
theorem ordered_any (q : Nat → Int) (ka : Nat → Option Addr) (kn kc : Nat → Nat) (w : World) :
    Gives Tryz.prog 55 #[.agg #[.int .i64 (q 0), .int .i64 (q 1), .int .i64 (q 2), .int .i64 (q 3), .int .i64 (q 4)]] w fun v w1 => v = .bool (ordB q) ∧ Ch [] w w1 := by
 have S0 := St.nil [] w
 refine enter_ Tryz.func55 rfl ?_
 refine seq_ (reg_ ?_)
 refine new_ S0 (fun b => .pointer (some ⟨b, 0, none⟩)) (.cells #[.int .i64 (q 0), .int .i64 (q 1), .int .i64 (q 2), .int .i64 (q 3), .int .i64 (q 4)] 22) ?_
 intro zb1 zw2 zS3
 refine pure_ (.bool false) ?_
 refine nil_ (then_n (seq_ (seq_ (reg_ ?_))))
 refine pure_ (.pointer (some ⟨zb1, 0, none⟩)) ?_
 refine load1_ zS3 0 (.int .i64 (q 0)) zb1 0 ?_
 refine pure_ (.bool ((q 0) != 0)) ?_
 refine pure_ (.bool ((q 0) != 0)) ?_
 refine slot_ 6 ((q 0) != 0) ?_ ?_
 · intro zh4
   have zh5 := neT' zh4
   refine skip_ ?_
   refine skip_ ?_
   refine skip_ ?_
   refine pure_ (.bool true) ?_
   refine nil_ (then_n (cond_T ?_))
   refine seq_ (reg_ ?_)
   refine pure_ (.bool false) ?_
   refine nil_ (then_n (wp_ret (then_r ?_)))
   refine ret_ rfl (res_ [.tmp 2] [.bool false] (.bool false) ⟨res_tmp, trivial⟩) ?_
   exact ⟨congrArg Value.bool (by simp [ordB, zh4, zh5]), zS3.ch⟩
 intro zh6
 have zh7 := neF' zh6
 refine pure_ (.pointer (some ⟨zb1, 4, none⟩)) ?_
 refine load1_ zS3 0 (.int .i64 (q 4)) zb1 4 ?_
 refine pure_ (.bool ((q 4) != 4)) ?_
 refine pure_ (.bool ((q 4) != 4)) ?_
 refine nil_ (then_n ?_)
 refine cond_S ((q 4) != 4) ?_ ?_
 · intro zh8
   have zh9 := neT' zh8
   refine seq_ (reg_ ?_)
   refine pure_ (.bool false) ?_
   refine nil_ (then_n (wp_ret (then_r ?_)))
   refine ret_ rfl (res_ [.tmp 2] [.bool false] (.bool false) ⟨res_tmp, trivial⟩) ?_
   exact ⟨congrArg Value.bool (by simp [ordB, zh6, zh8, zh7, zh9]), zS3.ch⟩
 intro zh10
 have zh11 := neF' zh10
 refine wp_skip (then_n (seq_ (reg_ ?_)))
 refine new_ zS3 (fun b => .slice (some ⟨b, 0, none⟩) 3 3) (.cells #[.int .i64 1, .int .i64 2, .int .i64 3] 3) ?_
 intro zb12 zw13 zS14
 refine pure_ (.func (.func 82) #[] #[.pointer (some ⟨zb1, 0, none⟩)]) ?_
 refine call_ 58 #[.slice (some ⟨zb12, 0, none⟩) 3 3, .func (.func 82) #[] #[.pointer (some ⟨zb1, 0, none⟩)]] ?_
 refine enter_ Tryz.func58 rfl ?_
 refine seq_ (reg_ ?_)
 refine pure_ (.bool false) ?_
 refine nil_ (then_n (seq_ (seq_ (reg_ ?_))))
 refine move_ ?_
 refine pure_ (.int .i64 3) ?_
 refine pure_ (.int .i64 0) ?_
 refine nil_ (then_n (wp_block (loop_ 24 (seq_ (reg_ ?_)))))
 refine pure_ (.bool true) ?_
 refine nil_ (then_n (seq_ (cond_T ?_)))
 refine wp_skip (then_n (seq_ (wp_block (seq_ (reg_ ?_)))))
 refine pure_ (.pointer (some ⟨zb12, 0, none⟩)) ?_
 refine load1_ zS14 0 (.int .i64 1) zb12 0 ?_
 refine pure_ (.int .i64 1) ?_
 refine nil_ (then_n (seq_ (reg_ ?_)))
 refine move_ ?_
 refine pure_ (.int .i64 1) ?_
 refine call_ 82 #[.int .i64 1, .pointer (some ⟨zb1, 0, none⟩)] ?_
 refine (ordered1_any (q 0) (q 1) (q 2) (q 3) (q 4) 1 zb1 _ (zS14.ob 1 true 22)).mono ?_; rintro _ zw15 ⟨rfl, zhc16⟩
 have zS17 := zS14.quiet zhc16
 refine pure_ (.bool (!(isIn (q 1) (q 2) (q 3) 1))) ?_
 refine nil_ (then_n ?_)
 refine cond_S (!(isIn (q 1) (q 2) (q 3) 1)) ?_ ?_
 · intro zh18
   have zh19 := notT' zh18
   refine seq_ (reg_ ?_)
   refine pure_ (.bool false) ?_
   refine nil_ (then_n (wp_ret (blk_r (then_r (then_r (blk_r (then_r ?_)))))))
   refine ret_ rfl (res_ [.tmp 4] [.bool false] (.bool false) ⟨res_tmp, trivial⟩) ?_
   refine pure_ (.bool false) ?_
   refine nil_ (then_n (wp_ret ?_))
   refine ret_ rfl (res_ [.tmp 2] [.bool false] (.bool false) ⟨res_tmp, trivial⟩) ?_
   exact ⟨congrArg Value.bool (by simp [ordB, zh6, zh10, zh18, zh19, zh7, zh11]), zS17.ch⟩
 intro zh20
 have zh21 := notF' zh20
 refine wp_skip (blk_n (then_n (reg_ ?_)))
 refine pure_ (.int .i64 1) ?_
 refine pure_ (.int .i64 1) ?_
 refine nil_ (again_ (seq_ (reg_ ?_)))
 refine pure_ (.bool true) ?_
 refine nil_ (then_n (seq_ (cond_T ?_)))
 refine wp_skip (then_n (seq_ (wp_block (seq_ (reg_ ?_)))))
 refine pure_ (.pointer (some ⟨zb12, 1, none⟩)) ?_
 refine load1_ zS17 0 (.int .i64 2) zb12 1 ?_
 refine pure_ (.int .i64 2) ?_
 refine nil_ (then_n (seq_ (reg_ ?_)))
 refine move_ ?_
 refine pure_ (.int .i64 2) ?_
 refine call_ 82 #[.int .i64 2, .pointer (some ⟨zb1, 0, none⟩)] ?_
 refine (ordered1_any (q 0) (q 1) (q 2) (q 3) (q 4) 2 zb1 _ (zS17.ob 1 true 22)).mono ?_; rintro _ zw22 ⟨rfl, zhc23⟩
 have zS24 := zS17.quiet zhc23
 refine pure_ (.bool (!(isIn (q 1) (q 2) (q 3) 2))) ?_
 refine nil_ (then_n ?_)
 refine cond_S (!(isIn (q 1) (q 2) (q 3) 2)) ?_ ?_
 · intro zh25
   have zh26 := notT' zh25
   refine seq_ (reg_ ?_)
   refine pure_ (.bool false) ?_
   refine nil_ (then_n (wp_ret (blk_r (then_r (then_r (blk_r (then_r ?_)))))))
   refine ret_ rfl (res_ [.tmp 4] [.bool false] (.bool false) ⟨res_tmp, trivial⟩) ?_
   refine pure_ (.bool false) ?_
   refine nil_ (then_n (wp_ret ?_))
   refine ret_ rfl (res_ [.tmp 2] [.bool false] (.bool false) ⟨res_tmp, trivial⟩) ?_
   exact ⟨congrArg Value.bool (by simp [ordB, zh6, zh10, zh20, zh21, zh25, zh26, zh7, zh11]), zS24.ch⟩
 intro zh27
 have zh28 := notF' zh27
 refine wp_skip (blk_n (then_n (reg_ ?_)))
 refine pure_ (.int .i64 2) ?_
 refine pure_ (.int .i64 2) ?_
 refine nil_ (again_ (seq_ (reg_ ?_)))
 refine pure_ (.bool true) ?_
 refine nil_ (then_n (seq_ (cond_T ?_)))
 refine wp_skip (then_n (seq_ (wp_block (seq_ (reg_ ?_)))))
 refine pure_ (.pointer (some ⟨zb12, 2, none⟩)) ?_
 refine load1_ zS24 0 (.int .i64 3) zb12 2 ?_
 refine pure_ (.int .i64 3) ?_
 refine nil_ (then_n (seq_ (reg_ ?_)))
 refine move_ ?_
 refine pure_ (.int .i64 3) ?_
 refine call_ 82 #[.int .i64 3, .pointer (some ⟨zb1, 0, none⟩)] ?_
 refine (ordered1_any (q 0) (q 1) (q 2) (q 3) (q 4) 3 zb1 _ (zS24.ob 1 true 22)).mono ?_; rintro _ zw29 ⟨rfl, zhc30⟩
 have zS31 := zS24.quiet zhc30
 refine pure_ (.bool (!(isIn (q 1) (q 2) (q 3) 3))) ?_
 refine nil_ (then_n ?_)
 refine cond_S (!(isIn (q 1) (q 2) (q 3) 3)) ?_ ?_
 · intro zh32
   have zh33 := notT' zh32
   refine seq_ (reg_ ?_)
   refine pure_ (.bool false) ?_
   refine nil_ (then_n (wp_ret (blk_r (then_r (then_r (blk_r (then_r ?_)))))))
   refine ret_ rfl (res_ [.tmp 4] [.bool false] (.bool false) ⟨res_tmp, trivial⟩) ?_
   refine pure_ (.bool false) ?_
   refine nil_ (then_n (wp_ret ?_))
   refine ret_ rfl (res_ [.tmp 2] [.bool false] (.bool false) ⟨res_tmp, trivial⟩) ?_
   exact ⟨congrArg Value.bool (by simp [ordB, zh6, zh10, zh20, zh21, zh27, zh28, zh32, zh33, zh7, zh11]), zS31.ch⟩
 intro zh34
 have zh35 := notF' zh34
 refine wp_skip (blk_n (then_n (reg_ ?_)))
 refine pure_ (.int .i64 3) ?_
 refine pure_ (.int .i64 3) ?_
 refine nil_ (again_ (seq_ (reg_ ?_)))
 refine pure_ (.bool false) ?_
 refine nil_ (then_n (seq_ (cond_F ?_)))
 refine wp_exit (then_e (then_e (blk_e (then_n (seq_ (reg_ ?_))))))
 refine pure_ (.bool true) ?_
 refine nil_ (then_n (wp_ret ?_))
 refine ret_ rfl (res_ [.tmp 4] [.bool true] (.bool true) ⟨res_tmp, trivial⟩) ?_
 refine pure_ (.bool true) ?_
 refine nil_ (then_n (wp_ret ?_))
 refine ret_ rfl (res_ [.tmp 2] [.bool true] (.bool true) ⟨res_tmp, trivial⟩) ?_
 exact ⟨congrArg Value.bool (by simp [ordB, zh6, zh10, zh20, zh21, zh27, zh28, zh34, zh35, zh7, zh11]), zS31.ch⟩

set_option maxRecDepth 100000 in
set_option maxHeartbeats 4000000 in
theorem check_any (q : Nat → Int) (ka : Nat → Option Addr) (kn kc : Nat → Nat) (w : World) :
    Gives Tryz.prog 23 #[.agg (polC q ka kn kc)] w fun v w1 => v = .int .i64 (polCode q kn) ∧ Ch [] w w1 := by
 have S0 := St.nil [] w
 refine enter_ Tryz.func23 rfl ?_
 refine seq_ (reg_ ?_)
 refine new_ S0 (fun b => .pointer (some ⟨b, 0, none⟩)) (.cells (polC q ka kn kc) 28) ?_
 intro zb1 zw2 zS3
 refine pure_ (.int .i64 0) ?_
 refine nil_ (then_n (seq_ (wp_block (seq_ (reg_ ?_)))))
 refine pure_ (.pointer (some ⟨zb1, 0, none⟩)) ?_
 refine loadN_ zS3 0 5 #[.int .i64 (q 0), .int .i64 (q 1), .int .i64 (q 2), .int .i64 (q 3), .int .i64 (q 4)] zb1 0 ?_
 refine call_ 55 #[.agg #[.int .i64 (q 0), .int .i64 (q 1), .int .i64 (q 2), .int .i64 (q 3), .int .i64 (q 4)]] ?_
 refine (ordered_any q ka kn kc _).mono ?_; rintro _ zw4 ⟨rfl, zhc5⟩
 have zS6 := zS3.quiet zhc5
 refine pure_ (.bool (!(ordB q))) ?_
 refine pure_ (.bool (!(ordB q))) ?_
 refine nil_ (then_n ?_)
 refine cond_S (!(ordB q)) ?_ ?_
 · intro zh7
   have zh8 := notT' zh7
   refine seq_ (reg_ ?_)
   refine pure_ (.int .i64 40) ?_
   refine nil_ (then_n (wp_ret (blk_r (then_r ?_))))
   refine ret_ rfl (res_ [.tmp 2] [.int .i64 40] (.int .i64 40) ⟨res_tmp, trivial⟩) ?_
   exact ⟨congrArg _ (by simp [polCode, zh7, zh8]), zS6.ch⟩
 intro zh9
 have zh10 := notF' zh9
 refine seq_ (reg_ ?_)
 refine pure_ (.pointer (some ⟨zb1, 5, none⟩)) ?_
 refine pure_ (.slice (some ⟨zb1, 5, none⟩) 3 3) ?_
 refine call_ 56 #[.slice (some ⟨zb1, 5, none⟩) 3 3, .func (.func 57) #[] #[]] ?_
 refine (all_keys q ka kn kc zb1 _ (zS6.ob 0 true 28)).mono ?_; rintro _ zw11 ⟨rfl, zhc12⟩
 have zS13 := zS6.quiet zhc12
 refine pure_ (.bool (!(keys3 kn))) ?_
 refine pure_ (.bool (!(keys3 kn))) ?_
 refine slot_ 13 (!(keys3 kn)) ?_ ?_
 · intro zh14
   have zh15 := notT' zh14
   refine skip_ ?_
   refine skip_ ?_
   refine skip_ ?_
   refine skip_ ?_
   refine pure_ (.bool true) ?_
   refine pure_ (.bool true) ?_
   refine nil_ (then_n (cond_T ?_))
   refine seq_ (reg_ ?_)
   refine pure_ (.int .i64 41) ?_
   refine nil_ (then_n (wp_ret (blk_r (then_r ?_))))
   refine ret_ rfl (res_ [.tmp 2] [.int .i64 41] (.int .i64 41) ⟨res_tmp, trivial⟩) ?_
   exact ⟨congrArg _ (by simp [polCode, zh9, zh10, zh14, zh15]), zS13.ch⟩
 intro zh16
 have zh17 := notF' zh16
 refine pure_ (.pointer (some ⟨zb1, 8, none⟩)) ?_
 refine load1_ zS13 0 (.slice (ka 3) (kn 3) (kc 3)) zb1 8 ?_
 refine call_ 57 #[.slice (ka 3) (kn 3) (kc 3)] ?_
 refine (key_any (ka 3) (kn 3) (kc 3) _).mono ?_; rintro _ zw18 ⟨rfl, zhc19⟩
 have zS20 := zS13.quiet zhc19
 refine pure_ (.bool (!(keyB (kn 3)))) ?_
 refine pure_ (.bool (!(keyB (kn 3)))) ?_
 refine pure_ (.bool (!(keyB (kn 3)))) ?_
 refine nil_ (then_n ?_)
 refine cond_S (!(keyB (kn 3))) ?_ ?_
 · intro zh21
   have zh22 := notT' zh21
   refine seq_ (reg_ ?_)
   refine pure_ (.int .i64 41) ?_
   refine nil_ (then_n (wp_ret (blk_r (then_r ?_))))
   refine ret_ rfl (res_ [.tmp 2] [.int .i64 41] (.int .i64 41) ⟨res_tmp, trivial⟩) ?_
   exact ⟨congrArg _ (by simp [polCode, zh9, zh10, zh16, zh17, zh21, zh22]), zS20.ch⟩
 intro zh23
 have zh24 := notF' zh23
 refine seq_ (reg_ ?_)
 refine pure_ (.pointer (some ⟨zb1, 9, none⟩)) ?_
 refine pure_ (.pointer (some ⟨zb1, 9, none⟩)) ?_
 refine load1_ zS20 0 (.int .i64 (q 9)) zb1 9 ?_
 refine pure_ (.bool ((q 9) != 1)) ?_
 refine pure_ (.bool ((q 9) != 1)) ?_
 refine slot_ 24 ((q 9) != 1) ?_ ?_
 · intro zh25
   have zh26 := neT' zh25
   refine skip_ ?_
   refine skip_ ?_
   refine skip_ ?_
   refine skip_ ?_
   refine pure_ (.bool true) ?_
   refine pure_ (.bool true) ?_
   refine skip_ ?_
   refine skip_ ?_
   refine skip_ ?_
   refine skip_ ?_
   refine pure_ (.bool true) ?_
   refine pure_ (.bool true) ?_
   refine nil_ (then_n (cond_T ?_))
   refine seq_ (reg_ ?_)
   refine pure_ (.int .i64 42) ?_
   refine nil_ (then_n (wp_ret (blk_r (then_r ?_))))
   refine ret_ rfl (res_ [.tmp 2] [.int .i64 42] (.int .i64 42) ⟨res_tmp, trivial⟩) ?_
   exact ⟨congrArg _ (by simp [polCode, zh9, zh10, zh16, zh17, zh23, zh24, zh25, zh26]), zS20.ch⟩
 intro zh27
 have zh28 := neF' zh27
 refine pure_ (.pointer (some ⟨zb1, 9, none⟩)) ?_
 refine pure_ (.pointer (some ⟨zb1, 13, none⟩)) ?_
 refine load1_ zS20 0 (.int .i64 (q 13)) zb1 13 ?_
 refine pure_ (.bool ((q 13) != 0)) ?_
 refine pure_ (.bool ((q 13) != 0)) ?_
 refine pure_ (.bool ((q 13) != 0)) ?_
 refine slot_ 30 ((q 13) != 0) ?_ ?_
 · intro zh29
   have zh30 := neT' zh29
   refine skip_ ?_
   refine skip_ ?_
   refine skip_ ?_
   refine skip_ ?_
   refine pure_ (.bool true) ?_
   refine pure_ (.bool true) ?_
   refine nil_ (then_n (cond_T ?_))
   refine seq_ (reg_ ?_)
   refine pure_ (.int .i64 42) ?_
   refine nil_ (then_n (wp_ret (blk_r (then_r ?_))))
   refine ret_ rfl (res_ [.tmp 2] [.int .i64 42] (.int .i64 42) ⟨res_tmp, trivial⟩) ?_
   exact ⟨congrArg _ (by simp [polCode, zh9, zh10, zh16, zh17, zh23, zh24, zh27, zh29, zh28, zh30]), zS20.ch⟩
 intro zh31
 have zh32 := neF' zh31
 refine pure_ (.pointer (some ⟨zb1, 9, none⟩)) ?_
 refine pure_ (.slice (some ⟨zb1, 10, none⟩) 3 4) ?_
 refine call_ 58 #[.slice (some ⟨zb1, 10, none⟩) 3 4, .func (.func 59) #[] #[]] ?_
 refine (all_roles q ka kn kc zb1 _ (zS20.ob 0 true 28)).mono ?_; rintro _ zw33 ⟨rfl, zhc34⟩
 have zS35 := zS20.quiet zhc34
 refine pure_ (.bool (!(roles3 q))) ?_
 refine pure_ (.bool (!(roles3 q))) ?_
 refine pure_ (.bool (!(roles3 q))) ?_
 refine nil_ (then_n ?_)
 refine cond_S (!(roles3 q)) ?_ ?_
 · intro zh36
   have zh37 := notT' zh36
   refine seq_ (reg_ ?_)
   refine pure_ (.int .i64 42) ?_
   refine nil_ (then_n (wp_ret (blk_r (then_r ?_))))
   refine ret_ rfl (res_ [.tmp 2] [.int .i64 42] (.int .i64 42) ⟨res_tmp, trivial⟩) ?_
   exact ⟨congrArg _ (by simp [polCode, zh9, zh10, zh16, zh17, zh23, zh24, zh27, zh31, zh36, zh37, zh28, zh32]), zS35.ch⟩
 intro zh38
 have zh39 := notF' zh38
 refine seq_ (reg_ ?_)
 refine pure_ (.pointer (some ⟨zb1, 14, none⟩)) ?_
 refine pure_ (.slice (some ⟨zb1, 14, none⟩) 5 5) ?_
 refine call_ 60 #[.slice (some ⟨zb1, 14, none⟩) 5 5, .func (.func 61) #[] #[]] ?_
 refine (all_table q ka kn kc zb1 _ (zS35.ob 0 true 28)).mono ?_; rintro _ zw40 ⟨rfl, zhc41⟩
 have zS42 := zS35.quiet zhc41
 refine pure_ (.bool (!(tab5 q))) ?_
 refine pure_ (.bool (!(tab5 q))) ?_
 refine nil_ (then_n ?_)
 refine cond_S (!(tab5 q)) ?_ ?_
 · intro zh43
   have zh44 := notT' zh43
   refine seq_ (reg_ ?_)
   refine pure_ (.int .i64 43) ?_
   refine nil_ (then_n (wp_ret (blk_r (then_r ?_))))
   refine ret_ rfl (res_ [.tmp 2] [.int .i64 43] (.int .i64 43) ⟨res_tmp, trivial⟩) ?_
   exact ⟨congrArg _ (by simp [polCode, zh9, zh10, zh16, zh17, zh23, zh24, zh27, zh31, zh38, zh39, zh43, zh44, zh28, zh32]), zS42.ch⟩
 intro zh45
 have zh46 := notF' zh45
 refine seq_ ?_
 refine drawnL_ 3 [⟨0, fun _ => .pointer (some ⟨zb1, 34, none⟩), fun _ => []⟩, ⟨0, fun _ => .slice (some ⟨zb1, 34, none⟩) 5 5, fun _ => []⟩, ⟨2, fun ids => .func (.func 84) #[] #[.pointer (some ⟨(ids.getD 0 0), 0, none⟩), .pointer (some ⟨(ids.getD 1 0), 0, none⟩)], fun ids => [((ids.getD 0 0), .cells #[.int .i64 0] 3 (0, 0)), ((ids.getD 1 0), .cells #[.int .i64 31] 3 (0, 0))]⟩] [[3, 1, 0], [3, 1], [3, 2], [4, 3, 1, 0], [4, 3, 1], [4, 3, 2], [4, 3], [5, 3, 1, 0], [5, 3, 1], [5, 3, 2], [5, 3], [5, 4]] ?_ ?_
 · refine step_cons ?_ ?_
   · intro zy47 zw48 zhc49 zhf50 zhp51
     have zh52 : zy47 1 = .pointer (some ⟨zb1, 0, none⟩) := (zhf50 1 (by kernel_rfl)).trans (by kernel_rfl)
     have zS53 := zS42.quiet zhc49
     refine step1 ?_
     refine yenv [(1, .pointer (some ⟨zb1, 0, none⟩))] (ag_cons zh52 (ag_nil)) ?_
     have zS54 := zS53.loc
     refine Y.pure_ (.pointer (some ⟨zb1, 34, none⟩)) ?_
     exact ⟨zS54.ch, Sp.mk_holds [] (all_nil)⟩
   refine step_cons ?_ ?_
   · intro zy55 zw56 zhc57 zhf58 zhp59
     have zh60 : zy55 42 = .pointer (some ⟨zb1, 34, none⟩) := (Sp.out0 (zhp59 0 42 (by kernel_rfl) (by kernel_rfl))).1
     have zS61 := zS42.quiet zhc57
     refine step1 ?_
     refine yenv [(42, .pointer (some ⟨zb1, 34, none⟩))] (ag_cons zh60 (ag_nil)) ?_
     have zS62 := zS61.loc
     refine Y.pure_ (.slice (some ⟨zb1, 34, none⟩) 5 5) ?_
     exact ⟨zS62.ch, Sp.mk_holds [] (all_nil)⟩
   refine step_cons ?_ ?_
   · intro zy63 zw64 zhc65 zhf66 zhp67
     have zS68 := zS42.quiet zhc65
     refine step1 ?_
     refine yenv [] (ag_nil) ?_
     have zS69 := zS68.loc
     refine Y.call_ 62 #[.int .i64 0, .int .i64 31] ?_
     refine enter_ Tryz.func62 rfl ?_
     refine seq_ (reg_ ?_)
     refine new_ zS69 (fun b => .pointer (some ⟨b, 0, none⟩)) (.cells #[.int .i64 0] 3) ?_
     intro zb70 zw71 zS72
     refine new_ zS72 (fun b => .pointer (some ⟨b, 0, none⟩)) (.cells #[.int .i64 31] 3) ?_
     intro zb73 zw74 zS75
     refine pure_ (.nilFunc) ?_
     refine nil_ (then_n (seq_ (reg_ ?_)))
     refine pure_ (.func (.func 84) #[] #[.pointer (some ⟨zb70, 0, none⟩), .pointer (some ⟨zb73, 0, none⟩)]) ?_
     refine assign_ ?_
     refine nil_ (then_n (wp_ret ?_))
     refine ret_ rfl (res_ [.tmp 4] [.func (.func 84) #[] #[.pointer (some ⟨zb70, 0, none⟩), .pointer (some ⟨zb73, 0, none⟩)]] (.func (.func 84) #[] #[.pointer (some ⟨zb70, 0, none⟩), .pointer (some ⟨zb73, 0, none⟩)]) ⟨res_tmp, trivial⟩) ?_
     exact ⟨zS75.ch, Sp.mk_holds [zb70, zb73] (all_cons (zS75.isNew zhc65.size 1 (by kernel_rfl)) (all_cons (zS75.isNew zhc65.size 0 (by kernel_rfl)) (all_nil)))⟩
   exact step_nil
 intro zv76 zw77 zhc78 zha79
 have zh80 : zv76 0 = .pointer (some ⟨zb1, 34, none⟩) := (Sp.out0 (zha79 0 (by kernel_rfl))).1
 have zh81 : zv76 1 = .slice (some ⟨zb1, 34, none⟩) 5 5 := (Sp.out0 (zha79 1 (by kernel_rfl))).1
 obtain ⟨zb83, zb84, zh82', zg85'⟩ := Sp.out2 (zha79 2 (by kernel_rfl))
 have zh82 : zv76 2 = .func (.func 84) #[] #[.pointer (some ⟨zb83, 0, none⟩), .pointer (some ⟨zb84, 0, none⟩)] := zh82'
 have zg85 : ∀ p ∈ ([(zb83, .cells #[.int .i64 0] 3 (0, 0)), (zb84, .cells #[.int .i64 31] 3 (0, 0))] : List (Nat × Obj)), zw40.heap.size ≤ p.1 ∧ zw77.heap[p.1]? = some p.2 := zg85'
 have zS86 := zS42.ro zhc78 ([(zb83, .cells #[.int .i64 0] 3 (0, 0)), (zb84, .cells #[.int .i64 31] 3 (0, 0))]) (zg85)
 refine ⟨[.pointer (some ⟨zb1, 34, none⟩), .slice (some ⟨zb1, 34, none⟩) 5 5, .func (.func 84) #[] #[.pointer (some ⟨zb83, 0, none⟩), .pointer (some ⟨zb84, 0, none⟩)]], by kernel_rfl, va_cons zh80 (va_cons zh81 (va_cons zh82 (va_nil))), ?_⟩
 refine call_ 58 #[.slice (some ⟨zb1, 34, none⟩) 5 5, .func (.func 84) #[] #[.pointer (some ⟨zb83, 0, none⟩), .pointer (some ⟨zb84, 0, none⟩)]] ?_
 refine (all_p34_5 0 31 q ka kn kc zb1 zb83 zb84 _ (zS86.ob 2 true 28) (zS86.ob 0 false 3) (zS86.ob 1 false 3)).mono ?_; rintro _ zw87 ⟨rfl, zhc88⟩
 have zS89 := zS86.quiet zhc88
 refine pure_ (.bool (!(allI 0 31 [(q 34), (q 35), (q 36), (q 37), (q 38)]))) ?_
 refine assign_ ?_
 refine nil_ (then_n ?_)
 refine cond_S (!(allI 0 31 [(q 34), (q 35), (q 36), (q 37), (q 38)])) ?_ ?_
 · intro zh90
   have zh91 := notT' zh90
   refine seq_ (reg_ ?_)
   refine pure_ (.int .i64 44) ?_
   refine nil_ (then_n (wp_ret (blk_r (then_r ?_))))
   refine ret_ rfl (res_ [.tmp 2] [.int .i64 44] (.int .i64 44) ⟨res_tmp, trivial⟩) ?_
   exact ⟨congrArg _ (by simp [polCode, zh9, zh10, zh16, zh17, zh23, zh24, zh27, zh31, zh38, zh39, zh45, zh46, zh90, zh91, zh28, zh32]), zS89.ch⟩
 intro zh92
 have zh93 := notF' zh92
 refine seq_ ?_
 refine drawnL_ 8 [⟨0, fun _ => .pointer (some ⟨zb1, 39, none⟩), fun _ => []⟩, ⟨0, fun _ => .int .i64 (q 39), fun _ => []⟩, ⟨0, fun _ => .pointer (some ⟨zb1, 40, none⟩), fun _ => []⟩, ⟨0, fun _ => .int .i64 (q 40), fun _ => []⟩, ⟨0, fun _ => .pointer (some ⟨zb1, 41, none⟩), fun _ => []⟩, ⟨0, fun _ => .int .i64 (q 41), fun _ => []⟩, ⟨1, fun ids => .slice (some ⟨(ids.getD 0 0), 0, none⟩) 3 3, fun ids => [((ids.getD 0 0), .cells #[.int .i64 (q 39), .int .i64 (q 40), .int .i64 (q 41)] 3 (0, 0))]⟩, ⟨2, fun ids => .func (.func 84) #[] #[.pointer (some ⟨(ids.getD 0 0), 0, none⟩), .pointer (some ⟨(ids.getD 1 0), 0, none⟩)], fun ids => [((ids.getD 0 0), .cells #[.int .i64 0] 3 (0, 0)), ((ids.getD 1 0), .cells #[.int .i64 4] 3 (0, 0))]⟩] [[8, 6, 1, 0], [8, 6, 1], [8, 6, 3, 2], [8, 6, 3], [8, 6, 5, 4], [8, 6, 5], [8, 6], [8, 7], [9, 8, 6, 1, 0], [9, 8, 6, 1], [9, 8, 6, 3, 2], [9, 8, 6, 3], [9, 8, 6, 5, 4], [9, 8, 6, 5], [9, 8, 6], [9, 8, 7], [9, 8], [10, 8, 6, 1, 0], [10, 8, 6, 1], [10, 8, 6, 3, 2], [10, 8, 6, 3], [10, 8, 6, 5, 4], [10, 8, 6, 5], [10, 8, 6], [10, 8, 7], [10, 8], [10, 9]] ?_ ?_
 · refine step_cons ?_ ?_
   · intro zy94 zw95 zhc96 zhf97 zhp98
     have zh99 : zy94 1 = .pointer (some ⟨zb1, 0, none⟩) := (zhf97 1 (by kernel_rfl)).trans (by kernel_rfl)
     have zS100 := zS89.quiet zhc96
     refine step1 ?_
     refine yenv [(1, .pointer (some ⟨zb1, 0, none⟩))] (ag_cons zh99 (ag_nil)) ?_
     have zS101 := zS100.loc
     refine Y.pure_ (.pointer (some ⟨zb1, 39, none⟩)) ?_
     exact ⟨zS101.ch, Sp.mk_holds [] (all_nil)⟩
   refine step_cons ?_ ?_
   · intro zy102 zw103 zhc104 zhf105 zhp106
     have zh107 : zy102 48 = .pointer (some ⟨zb1, 39, none⟩) := (Sp.out0 (zhp106 0 48 (by kernel_rfl) (by kernel_rfl))).1
     have zS108 := zS89.quiet zhc104
     refine step1 ?_
     refine yenv [(48, .pointer (some ⟨zb1, 39, none⟩))] (ag_cons zh107 (ag_nil)) ?_
     have zS109 := zS108.loc
     refine Y.load1_ zS109 2 (.int .i64 (q 39)) zb1 39 ?_
     exact ⟨zS109.ch, Sp.mk_holds [] (all_nil)⟩
   refine step_cons ?_ ?_
   · intro zy110 zw111 zhc112 zhf113 zhp114
     have zh115 : zy110 1 = .pointer (some ⟨zb1, 0, none⟩) := (zhf113 1 (by kernel_rfl)).trans (by kernel_rfl)
     have zS116 := zS89.quiet zhc112
     refine step1 ?_
     refine yenv [(1, .pointer (some ⟨zb1, 0, none⟩))] (ag_cons zh115 (ag_nil)) ?_
     have zS117 := zS116.loc
     refine Y.pure_ (.pointer (some ⟨zb1, 40, none⟩)) ?_
     exact ⟨zS117.ch, Sp.mk_holds [] (all_nil)⟩
   refine step_cons ?_ ?_
   · intro zy118 zw119 zhc120 zhf121 zhp122
     have zh123 : zy118 50 = .pointer (some ⟨zb1, 40, none⟩) := (Sp.out0 (zhp122 2 50 (by kernel_rfl) (by kernel_rfl))).1
     have zS124 := zS89.quiet zhc120
     refine step1 ?_
     refine yenv [(50, .pointer (some ⟨zb1, 40, none⟩))] (ag_cons zh123 (ag_nil)) ?_
     have zS125 := zS124.loc
     refine Y.load1_ zS125 2 (.int .i64 (q 40)) zb1 40 ?_
     exact ⟨zS125.ch, Sp.mk_holds [] (all_nil)⟩
   refine step_cons ?_ ?_
   · intro zy126 zw127 zhc128 zhf129 zhp130
     have zh131 : zy126 1 = .pointer (some ⟨zb1, 0, none⟩) := (zhf129 1 (by kernel_rfl)).trans (by kernel_rfl)
     have zS132 := zS89.quiet zhc128
     refine step1 ?_
     refine yenv [(1, .pointer (some ⟨zb1, 0, none⟩))] (ag_cons zh131 (ag_nil)) ?_
     have zS133 := zS132.loc
     refine Y.pure_ (.pointer (some ⟨zb1, 41, none⟩)) ?_
     exact ⟨zS133.ch, Sp.mk_holds [] (all_nil)⟩
   refine step_cons ?_ ?_
   · intro zy134 zw135 zhc136 zhf137 zhp138
     have zh139 : zy134 52 = .pointer (some ⟨zb1, 41, none⟩) := (Sp.out0 (zhp138 4 52 (by kernel_rfl) (by kernel_rfl))).1
     have zS140 := zS89.quiet zhc136
     refine step1 ?_
     refine yenv [(52, .pointer (some ⟨zb1, 41, none⟩))] (ag_cons zh139 (ag_nil)) ?_
     have zS141 := zS140.loc
     refine Y.load1_ zS141 2 (.int .i64 (q 41)) zb1 41 ?_
     exact ⟨zS141.ch, Sp.mk_holds [] (all_nil)⟩
   refine step_cons ?_ ?_
   · intro zy142 zw143 zhc144 zhf145 zhp146
     have zh147 : zy142 49 = .int .i64 (q 39) := (Sp.out0 (zhp146 1 49 (by kernel_rfl) (by kernel_rfl))).1
     have zh148 : zy142 51 = .int .i64 (q 40) := (Sp.out0 (zhp146 3 51 (by kernel_rfl) (by kernel_rfl))).1
     have zh149 : zy142 53 = .int .i64 (q 41) := (Sp.out0 (zhp146 5 53 (by kernel_rfl) (by kernel_rfl))).1
     have zS150 := zS89.quiet zhc144
     refine step1 ?_
     refine yenv [(49, .int .i64 (q 39)), (51, .int .i64 (q 40)), (53, .int .i64 (q 41))] (ag_cons zh147 (ag_cons zh148 (ag_cons zh149 (ag_nil)))) ?_
     have zS151 := zS150.loc
     refine Y.new_ zS151 (fun b => .slice (some ⟨b, 0, none⟩) 3 3) (.cells #[.int .i64 (q 39), .int .i64 (q 40), .int .i64 (q 41)] 3) ?_
     intro zb152 zw153 zS154
     exact ⟨zS154.ch, Sp.mk_holds [zb152] (all_cons (zS154.isNew zhc144.size 0 (by kernel_rfl)) (all_nil))⟩
   refine step_cons ?_ ?_
   · intro zy155 zw156 zhc157 zhf158 zhp159
     have zS160 := zS89.quiet zhc157
     refine step1 ?_
     refine yenv [] (ag_nil) ?_
     have zS161 := zS160.loc
     refine Y.call_ 62 #[.int .i64 0, .int .i64 4] ?_
     refine enter_ Tryz.func62 rfl ?_
     refine seq_ (reg_ ?_)
     refine new_ zS161 (fun b => .pointer (some ⟨b, 0, none⟩)) (.cells #[.int .i64 0] 3) ?_
     intro zb162 zw163 zS164
     refine new_ zS164 (fun b => .pointer (some ⟨b, 0, none⟩)) (.cells #[.int .i64 4] 3) ?_
     intro zb165 zw166 zS167
     refine pure_ (.nilFunc) ?_
     refine nil_ (then_n (seq_ (reg_ ?_)))
     refine pure_ (.func (.func 84) #[] #[.pointer (some ⟨zb162, 0, none⟩), .pointer (some ⟨zb165, 0, none⟩)]) ?_
     refine assign_ ?_
     refine nil_ (then_n (wp_ret ?_))
     refine ret_ rfl (res_ [.tmp 4] [.func (.func 84) #[] #[.pointer (some ⟨zb162, 0, none⟩), .pointer (some ⟨zb165, 0, none⟩)]] (.func (.func 84) #[] #[.pointer (some ⟨zb162, 0, none⟩), .pointer (some ⟨zb165, 0, none⟩)]) ⟨res_tmp, trivial⟩) ?_
     exact ⟨zS167.ch, Sp.mk_holds [zb162, zb165] (all_cons (zS167.isNew zhc157.size 1 (by kernel_rfl)) (all_cons (zS167.isNew zhc157.size 0 (by kernel_rfl)) (all_nil)))⟩
   exact step_nil
 intro zv168 zw169 zhc170 zha171
 have zh172 : zv168 0 = .pointer (some ⟨zb1, 39, none⟩) := (Sp.out0 (zha171 0 (by kernel_rfl))).1
 have zh173 : zv168 1 = .int .i64 (q 39) := (Sp.out0 (zha171 1 (by kernel_rfl))).1
 have zh174 : zv168 2 = .pointer (some ⟨zb1, 40, none⟩) := (Sp.out0 (zha171 2 (by kernel_rfl))).1
 have zh175 : zv168 3 = .int .i64 (q 40) := (Sp.out0 (zha171 3 (by kernel_rfl))).1
 have zh176 : zv168 4 = .pointer (some ⟨zb1, 41, none⟩) := (Sp.out0 (zha171 4 (by kernel_rfl))).1
 have zh177 : zv168 5 = .int .i64 (q 41) := (Sp.out0 (zha171 5 (by kernel_rfl))).1
 obtain ⟨zb179, zh178', zg180'⟩ := Sp.out1 (zha171 6 (by kernel_rfl))
 have zh178 : zv168 6 = .slice (some ⟨zb179, 0, none⟩) 3 3 := zh178'
 have zg180 : ∀ p ∈ ([(zb179, .cells #[.int .i64 (q 39), .int .i64 (q 40), .int .i64 (q 41)] 3 (0, 0))] : List (Nat × Obj)), zw87.heap.size ≤ p.1 ∧ zw169.heap[p.1]? = some p.2 := zg180'
 obtain ⟨zb182, zb183, zh181', zg184'⟩ := Sp.out2 (zha171 7 (by kernel_rfl))
 have zh181 : zv168 7 = .func (.func 84) #[] #[.pointer (some ⟨zb182, 0, none⟩), .pointer (some ⟨zb183, 0, none⟩)] := zh181'
 have zg184 : ∀ p ∈ ([(zb182, .cells #[.int .i64 0] 3 (0, 0)), (zb183, .cells #[.int .i64 4] 3 (0, 0))] : List (Nat × Obj)), zw87.heap.size ≤ p.1 ∧ zw169.heap[p.1]? = some p.2 := zg184'
 have zS185 := zS89.ro zhc170 ([(zb179, .cells #[.int .i64 (q 39), .int .i64 (q 40), .int .i64 (q 41)] 3 (0, 0))] ++ [(zb182, .cells #[.int .i64 0] 3 (0, 0)), (zb183, .cells #[.int .i64 4] 3 (0, 0))]) (List.forall_mem_append.2 ⟨zg180, zg184⟩)
 refine ⟨[.pointer (some ⟨zb1, 39, none⟩), .int .i64 (q 39), .pointer (some ⟨zb1, 40, none⟩), .int .i64 (q 40), .pointer (some ⟨zb1, 41, none⟩), .int .i64 (q 41), .slice (some ⟨zb179, 0, none⟩) 3 3, .func (.func 84) #[] #[.pointer (some ⟨zb182, 0, none⟩), .pointer (some ⟨zb183, 0, none⟩)]], by kernel_rfl, va_cons zh172 (va_cons zh173 (va_cons zh174 (va_cons zh175 (va_cons zh176 (va_cons zh177 (va_cons zh178 (va_cons zh181 (va_nil)))))))), ?_⟩
 refine call_ 58 #[.slice (some ⟨zb179, 0, none⟩) 3 3, .func (.func 84) #[] #[.pointer (some ⟨zb182, 0, none⟩), .pointer (some ⟨zb183, 0, none⟩)]] ?_
 refine (all_s3 0 4 (q 39) (q 40) (q 41) zb179 zb182 zb183 _ (zS185.ob 0 false 3) (zS185.ob 1 false 3) (zS185.ob 2 false 3)).mono ?_; rintro _ zw186 ⟨rfl, zhc187⟩
 have zS188 := zS185.quiet zhc187
 refine pure_ (.bool (!(allI 0 4 [(q 39), (q 40), (q 41)]))) ?_
 refine assign_ ?_
 refine nil_ (then_n ?_)
 refine cond_S (!(allI 0 4 [(q 39), (q 40), (q 41)])) ?_ ?_
 · intro zh189
   have zh190 := notT' zh189
   refine seq_ (reg_ ?_)
   refine pure_ (.int .i64 45) ?_
   refine nil_ (then_n (wp_ret (blk_r (then_r ?_))))
   refine ret_ rfl (res_ [.tmp 2] [.int .i64 45] (.int .i64 45) ⟨res_tmp, trivial⟩) ?_
   exact ⟨congrArg _ (by simp [polCode, zh9, zh10, zh16, zh17, zh23, zh24, zh27, zh31, zh38, zh39, zh45, zh46, zh92, zh93, zh189, zh190, zh28, zh32]), zS188.ch⟩
 intro zh191
 have zh192 := notF' zh191
 refine seq_ ?_
 refine drawnL_ 10 [⟨0, fun _ => .pointer (some ⟨zb1, 42, none⟩), fun _ => []⟩, ⟨0, fun _ => .int .i64 (q 42), fun _ => []⟩, ⟨0, fun _ => .pointer (some ⟨zb1, 43, none⟩), fun _ => []⟩, ⟨0, fun _ => .int .i64 (q 43), fun _ => []⟩, ⟨0, fun _ => .pointer (some ⟨zb1, 44, none⟩), fun _ => []⟩, ⟨0, fun _ => .int .i64 (q 44), fun _ => []⟩, ⟨0, fun _ => .pointer (some ⟨zb1, 45, none⟩), fun _ => []⟩, ⟨0, fun _ => .int .i64 (q 45), fun _ => []⟩, ⟨1, fun ids => .slice (some ⟨(ids.getD 0 0), 0, none⟩) 4 4, fun ids => [((ids.getD 0 0), .cells #[.int .i64 (q 42), .int .i64 (q 43), .int .i64 (q 44), .int .i64 (q 45)] 3 (0, 0))]⟩, ⟨2, fun ids => .func (.func 84) #[] #[.pointer (some ⟨(ids.getD 0 0), 0, none⟩), .pointer (some ⟨(ids.getD 1 0), 0, none⟩)], fun ids => [((ids.getD 0 0), .cells #[.int .i64 1] 3 (0, 0)), ((ids.getD 1 0), .cells #[.int .i64 1000] 3 (0, 0))]⟩] [[10, 8, 1, 0], [10, 8, 1], [10, 8, 3, 2], [10, 8, 3], [10, 8, 5, 4], [10, 8, 5], [10, 8, 7, 6], [10, 8, 7], [10, 8], [10, 9], [11, 10, 8, 1, 0], [11, 10, 8, 1], [11, 10, 8, 3, 2], [11, 10, 8, 3], [11, 10, 8, 5, 4], [11, 10, 8, 5], [11, 10, 8, 7, 6], [11, 10, 8, 7], [11, 10, 8], [11, 10, 9], [11, 10], [12, 10, 8, 1, 0], [12, 10, 8, 1], [12, 10, 8, 3, 2], [12, 10, 8, 3], [12, 10, 8, 5, 4], [12, 10, 8, 5], [12, 10, 8, 7, 6], [12, 10, 8, 7], [12, 10, 8], [12, 10, 9], [12, 10], [12, 11]] ?_ ?_
 · refine step_cons ?_ ?_
   · intro zy193 zw194 zhc195 zhf196 zhp197
     have zh198 : zy193 1 = .pointer (some ⟨zb1, 0, none⟩) := (zhf196 1 (by kernel_rfl)).trans (by kernel_rfl)
     have zS199 := zS188.quiet zhc195
     refine step1 ?_
     refine yenv [(1, .pointer (some ⟨zb1, 0, none⟩))] (ag_cons zh198 (ag_nil)) ?_
     have zS200 := zS199.loc
     refine Y.pure_ (.pointer (some ⟨zb1, 42, none⟩)) ?_
     exact ⟨zS200.ch, Sp.mk_holds [] (all_nil)⟩
   refine step_cons ?_ ?_
   · intro zy201 zw202 zhc203 zhf204 zhp205
     have zh206 : zy201 59 = .pointer (some ⟨zb1, 42, none⟩) := (Sp.out0 (zhp205 0 59 (by kernel_rfl) (by kernel_rfl))).1
     have zS207 := zS188.quiet zhc203
     refine step1 ?_
     refine yenv [(59, .pointer (some ⟨zb1, 42, none⟩))] (ag_cons zh206 (ag_nil)) ?_
     have zS208 := zS207.loc
     refine Y.load1_ zS208 5 (.int .i64 (q 42)) zb1 42 ?_
     exact ⟨zS208.ch, Sp.mk_holds [] (all_nil)⟩
   refine step_cons ?_ ?_
   · intro zy209 zw210 zhc211 zhf212 zhp213
     have zh214 : zy209 1 = .pointer (some ⟨zb1, 0, none⟩) := (zhf212 1 (by kernel_rfl)).trans (by kernel_rfl)
     have zS215 := zS188.quiet zhc211
     refine step1 ?_
     refine yenv [(1, .pointer (some ⟨zb1, 0, none⟩))] (ag_cons zh214 (ag_nil)) ?_
     have zS216 := zS215.loc
     refine Y.pure_ (.pointer (some ⟨zb1, 43, none⟩)) ?_
     exact ⟨zS216.ch, Sp.mk_holds [] (all_nil)⟩
   refine step_cons ?_ ?_
   · intro zy217 zw218 zhc219 zhf220 zhp221
     have zh222 : zy217 61 = .pointer (some ⟨zb1, 43, none⟩) := (Sp.out0 (zhp221 2 61 (by kernel_rfl) (by kernel_rfl))).1
     have zS223 := zS188.quiet zhc219
     refine step1 ?_
     refine yenv [(61, .pointer (some ⟨zb1, 43, none⟩))] (ag_cons zh222 (ag_nil)) ?_
     have zS224 := zS223.loc
     refine Y.load1_ zS224 5 (.int .i64 (q 43)) zb1 43 ?_
     exact ⟨zS224.ch, Sp.mk_holds [] (all_nil)⟩
   refine step_cons ?_ ?_
   · intro zy225 zw226 zhc227 zhf228 zhp229
     have zh230 : zy225 1 = .pointer (some ⟨zb1, 0, none⟩) := (zhf228 1 (by kernel_rfl)).trans (by kernel_rfl)
     have zS231 := zS188.quiet zhc227
     refine step1 ?_
     refine yenv [(1, .pointer (some ⟨zb1, 0, none⟩))] (ag_cons zh230 (ag_nil)) ?_
     have zS232 := zS231.loc
     refine Y.pure_ (.pointer (some ⟨zb1, 44, none⟩)) ?_
     exact ⟨zS232.ch, Sp.mk_holds [] (all_nil)⟩
   refine step_cons ?_ ?_
   · intro zy233 zw234 zhc235 zhf236 zhp237
     have zh238 : zy233 63 = .pointer (some ⟨zb1, 44, none⟩) := (Sp.out0 (zhp237 4 63 (by kernel_rfl) (by kernel_rfl))).1
     have zS239 := zS188.quiet zhc235
     refine step1 ?_
     refine yenv [(63, .pointer (some ⟨zb1, 44, none⟩))] (ag_cons zh238 (ag_nil)) ?_
     have zS240 := zS239.loc
     refine Y.load1_ zS240 5 (.int .i64 (q 44)) zb1 44 ?_
     exact ⟨zS240.ch, Sp.mk_holds [] (all_nil)⟩
   refine step_cons ?_ ?_
   · intro zy241 zw242 zhc243 zhf244 zhp245
     have zh246 : zy241 1 = .pointer (some ⟨zb1, 0, none⟩) := (zhf244 1 (by kernel_rfl)).trans (by kernel_rfl)
     have zS247 := zS188.quiet zhc243
     refine step1 ?_
     refine yenv [(1, .pointer (some ⟨zb1, 0, none⟩))] (ag_cons zh246 (ag_nil)) ?_
     have zS248 := zS247.loc
     refine Y.pure_ (.pointer (some ⟨zb1, 45, none⟩)) ?_
     exact ⟨zS248.ch, Sp.mk_holds [] (all_nil)⟩
   refine step_cons ?_ ?_
   · intro zy249 zw250 zhc251 zhf252 zhp253
     have zh254 : zy249 65 = .pointer (some ⟨zb1, 45, none⟩) := (Sp.out0 (zhp253 6 65 (by kernel_rfl) (by kernel_rfl))).1
     have zS255 := zS188.quiet zhc251
     refine step1 ?_
     refine yenv [(65, .pointer (some ⟨zb1, 45, none⟩))] (ag_cons zh254 (ag_nil)) ?_
     have zS256 := zS255.loc
     refine Y.load1_ zS256 5 (.int .i64 (q 45)) zb1 45 ?_
     exact ⟨zS256.ch, Sp.mk_holds [] (all_nil)⟩
   refine step_cons ?_ ?_
   · intro zy257 zw258 zhc259 zhf260 zhp261
     have zh262 : zy257 60 = .int .i64 (q 42) := (Sp.out0 (zhp261 1 60 (by kernel_rfl) (by kernel_rfl))).1
     have zh263 : zy257 62 = .int .i64 (q 43) := (Sp.out0 (zhp261 3 62 (by kernel_rfl) (by kernel_rfl))).1
     have zh264 : zy257 64 = .int .i64 (q 44) := (Sp.out0 (zhp261 5 64 (by kernel_rfl) (by kernel_rfl))).1
     have zh265 : zy257 66 = .int .i64 (q 45) := (Sp.out0 (zhp261 7 66 (by kernel_rfl) (by kernel_rfl))).1
     have zS266 := zS188.quiet zhc259
     refine step1 ?_
     refine yenv [(60, .int .i64 (q 42)), (62, .int .i64 (q 43)), (64, .int .i64 (q 44)), (66, .int .i64 (q 45))] (ag_cons zh262 (ag_cons zh263 (ag_cons zh264 (ag_cons zh265 (ag_nil))))) ?_
     have zS267 := zS266.loc
     refine Y.new_ zS267 (fun b => .slice (some ⟨b, 0, none⟩) 4 4) (.cells #[.int .i64 (q 42), .int .i64 (q 43), .int .i64 (q 44), .int .i64 (q 45)] 3) ?_
     intro zb268 zw269 zS270
     exact ⟨zS270.ch, Sp.mk_holds [zb268] (all_cons (zS270.isNew zhc259.size 0 (by kernel_rfl)) (all_nil))⟩
   refine step_cons ?_ ?_
   · intro zy271 zw272 zhc273 zhf274 zhp275
     have zS276 := zS188.quiet zhc273
     refine step1 ?_
     refine yenv [] (ag_nil) ?_
     have zS277 := zS276.loc
     refine Y.call_ 62 #[.int .i64 1, .int .i64 1000] ?_
     refine enter_ Tryz.func62 rfl ?_
     refine seq_ (reg_ ?_)
     refine new_ zS277 (fun b => .pointer (some ⟨b, 0, none⟩)) (.cells #[.int .i64 1] 3) ?_
     intro zb278 zw279 zS280
     refine new_ zS280 (fun b => .pointer (some ⟨b, 0, none⟩)) (.cells #[.int .i64 1000] 3) ?_
     intro zb281 zw282 zS283
     refine pure_ (.nilFunc) ?_
     refine nil_ (then_n (seq_ (reg_ ?_)))
     refine pure_ (.func (.func 84) #[] #[.pointer (some ⟨zb278, 0, none⟩), .pointer (some ⟨zb281, 0, none⟩)]) ?_
     refine assign_ ?_
     refine nil_ (then_n (wp_ret ?_))
     refine ret_ rfl (res_ [.tmp 4] [.func (.func 84) #[] #[.pointer (some ⟨zb278, 0, none⟩), .pointer (some ⟨zb281, 0, none⟩)]] (.func (.func 84) #[] #[.pointer (some ⟨zb278, 0, none⟩), .pointer (some ⟨zb281, 0, none⟩)]) ⟨res_tmp, trivial⟩) ?_
     exact ⟨zS283.ch, Sp.mk_holds [zb278, zb281] (all_cons (zS283.isNew zhc273.size 1 (by kernel_rfl)) (all_cons (zS283.isNew zhc273.size 0 (by kernel_rfl)) (all_nil)))⟩
   exact step_nil
 intro zv284 zw285 zhc286 zha287
 have zh288 : zv284 0 = .pointer (some ⟨zb1, 42, none⟩) := (Sp.out0 (zha287 0 (by kernel_rfl))).1
 have zh289 : zv284 1 = .int .i64 (q 42) := (Sp.out0 (zha287 1 (by kernel_rfl))).1
 have zh290 : zv284 2 = .pointer (some ⟨zb1, 43, none⟩) := (Sp.out0 (zha287 2 (by kernel_rfl))).1
 have zh291 : zv284 3 = .int .i64 (q 43) := (Sp.out0 (zha287 3 (by kernel_rfl))).1
 have zh292 : zv284 4 = .pointer (some ⟨zb1, 44, none⟩) := (Sp.out0 (zha287 4 (by kernel_rfl))).1
 have zh293 : zv284 5 = .int .i64 (q 44) := (Sp.out0 (zha287 5 (by kernel_rfl))).1
 have zh294 : zv284 6 = .pointer (some ⟨zb1, 45, none⟩) := (Sp.out0 (zha287 6 (by kernel_rfl))).1
 have zh295 : zv284 7 = .int .i64 (q 45) := (Sp.out0 (zha287 7 (by kernel_rfl))).1
 obtain ⟨zb297, zh296', zg298'⟩ := Sp.out1 (zha287 8 (by kernel_rfl))
 have zh296 : zv284 8 = .slice (some ⟨zb297, 0, none⟩) 4 4 := zh296'
 have zg298 : ∀ p ∈ ([(zb297, .cells #[.int .i64 (q 42), .int .i64 (q 43), .int .i64 (q 44), .int .i64 (q 45)] 3 (0, 0))] : List (Nat × Obj)), zw186.heap.size ≤ p.1 ∧ zw285.heap[p.1]? = some p.2 := zg298'
 obtain ⟨zb300, zb301, zh299', zg302'⟩ := Sp.out2 (zha287 9 (by kernel_rfl))
 have zh299 : zv284 9 = .func (.func 84) #[] #[.pointer (some ⟨zb300, 0, none⟩), .pointer (some ⟨zb301, 0, none⟩)] := zh299'
 have zg302 : ∀ p ∈ ([(zb300, .cells #[.int .i64 1] 3 (0, 0)), (zb301, .cells #[.int .i64 1000] 3 (0, 0))] : List (Nat × Obj)), zw186.heap.size ≤ p.1 ∧ zw285.heap[p.1]? = some p.2 := zg302'
 have zS303 := zS188.ro zhc286 ([(zb297, .cells #[.int .i64 (q 42), .int .i64 (q 43), .int .i64 (q 44), .int .i64 (q 45)] 3 (0, 0))] ++ [(zb300, .cells #[.int .i64 1] 3 (0, 0)), (zb301, .cells #[.int .i64 1000] 3 (0, 0))]) (List.forall_mem_append.2 ⟨zg298, zg302⟩)
 refine ⟨[.pointer (some ⟨zb1, 42, none⟩), .int .i64 (q 42), .pointer (some ⟨zb1, 43, none⟩), .int .i64 (q 43), .pointer (some ⟨zb1, 44, none⟩), .int .i64 (q 44), .pointer (some ⟨zb1, 45, none⟩), .int .i64 (q 45), .slice (some ⟨zb297, 0, none⟩) 4 4, .func (.func 84) #[] #[.pointer (some ⟨zb300, 0, none⟩), .pointer (some ⟨zb301, 0, none⟩)]], by kernel_rfl, va_cons zh288 (va_cons zh289 (va_cons zh290 (va_cons zh291 (va_cons zh292 (va_cons zh293 (va_cons zh294 (va_cons zh295 (va_cons zh296 (va_cons zh299 (va_nil)))))))))), ?_⟩
 refine call_ 58 #[.slice (some ⟨zb297, 0, none⟩) 4 4, .func (.func 84) #[] #[.pointer (some ⟨zb300, 0, none⟩), .pointer (some ⟨zb301, 0, none⟩)]] ?_
 refine (all_s4 1 1000 (q 42) (q 43) (q 44) (q 45) zb297 zb300 zb301 _ (zS303.ob 0 false 3) (zS303.ob 1 false 3) (zS303.ob 2 false 3)).mono ?_; rintro _ zw304 ⟨rfl, zhc305⟩
 have zS306 := zS303.quiet zhc305
 refine pure_ (.bool (!(allI 1 1000 [(q 42), (q 43), (q 44), (q 45)]))) ?_
 refine assign_ ?_
 refine nil_ (then_n ?_)
 refine cond_S (!(allI 1 1000 [(q 42), (q 43), (q 44), (q 45)])) ?_ ?_
 · intro zh307
   have zh308 := notT' zh307
   refine seq_ (reg_ ?_)
   refine pure_ (.int .i64 46) ?_
   refine nil_ (then_n (wp_ret (blk_r (then_r ?_))))
   refine ret_ rfl (res_ [.tmp 2] [.int .i64 46] (.int .i64 46) ⟨res_tmp, trivial⟩) ?_
   exact ⟨congrArg _ (by simp [polCode, zh9, zh10, zh16, zh17, zh23, zh24, zh27, zh31, zh38, zh39, zh45, zh46, zh92, zh93, zh191, zh192, zh307, zh308, zh28, zh32]), zS306.ch⟩
 intro zh309
 have zh310 := notF' zh309
 refine seq_ ?_
 refine split_b (!(inB 1 1000 (q 46))) ?_ ?_
 · intro zh378
   have zh379 := notT' zh378
   refine drawnL_ 13 [⟨2, fun ids => .func (.func 84) #[] #[.pointer (some ⟨(ids.getD 0 0), 0, none⟩), .pointer (some ⟨(ids.getD 1 0), 0, none⟩)], fun ids => [((ids.getD 0 0), .cells #[.int .i64 1] 3 (0, 0)), ((ids.getD 1 0), .cells #[.int .i64 1000] 3 (0, 0))]⟩, ⟨0, fun _ => .pointer (some ⟨zb1, 46, none⟩), fun _ => []⟩, ⟨0, fun _ => .int .i64 (q 46), fun _ => []⟩, ⟨0, fun _ => .bool (inB 1 1000 (q 46)), fun _ => []⟩, ⟨0, fun _ => .bool true, fun _ => []⟩, ⟨0, fun _ => .bool true, fun _ => []⟩, ⟨0, fun _ => undef, fun _ => []⟩, ⟨0, fun _ => undef, fun _ => []⟩, ⟨0, fun _ => undef, fun _ => []⟩, ⟨0, fun _ => undef, fun _ => []⟩, ⟨0, fun _ => undef, fun _ => []⟩, ⟨0, fun _ => .bool true, fun _ => []⟩, ⟨0, fun _ => .bool true, fun _ => []⟩] [] ?_ ?_
   · refine step_cons ?_ ?_
     · intro zy380 zw381 zhc382 zhf383 zhp384
       have zS385 := zS306.quiet zhc382
       refine step1 ?_
       refine yenv [] (ag_nil) ?_
       have zS386 := zS385.loc
       refine Y.call_ 62 #[.int .i64 1, .int .i64 1000] ?_
       refine enter_ Tryz.func62 rfl ?_
       refine seq_ (reg_ ?_)
       refine new_ zS386 (fun b => .pointer (some ⟨b, 0, none⟩)) (.cells #[.int .i64 1] 3) ?_
       intro zb387 zw388 zS389
       refine new_ zS389 (fun b => .pointer (some ⟨b, 0, none⟩)) (.cells #[.int .i64 1000] 3) ?_
       intro zb390 zw391 zS392
       refine pure_ (.nilFunc) ?_
       refine nil_ (then_n (seq_ (reg_ ?_)))
       refine pure_ (.func (.func 84) #[] #[.pointer (some ⟨zb387, 0, none⟩), .pointer (some ⟨zb390, 0, none⟩)]) ?_
       refine assign_ ?_
       refine nil_ (then_n (wp_ret ?_))
       refine ret_ rfl (res_ [.tmp 4] [.func (.func 84) #[] #[.pointer (some ⟨zb387, 0, none⟩), .pointer (some ⟨zb390, 0, none⟩)]] (.func (.func 84) #[] #[.pointer (some ⟨zb387, 0, none⟩), .pointer (some ⟨zb390, 0, none⟩)]) ⟨res_tmp, trivial⟩) ?_
       exact ⟨zS392.ch, Sp.mk_holds [zb387, zb390] (all_cons (zS392.isNew zhc382.size 1 (by kernel_rfl)) (all_cons (zS392.isNew zhc382.size 0 (by kernel_rfl)) (all_nil)))⟩
     refine step_cons ?_ ?_
     · intro zy393 zw394 zhc395 zhf396 zhp397
       have zh398 : zy393 1 = .pointer (some ⟨zb1, 0, none⟩) := (zhf396 1 (by kernel_rfl)).trans (by kernel_rfl)
       have zS399 := zS306.quiet zhc395
       refine step1 ?_
       refine yenv [(1, .pointer (some ⟨zb1, 0, none⟩))] (ag_cons zh398 (ag_nil)) ?_
       have zS400 := zS399.loc
       refine Y.pure_ (.pointer (some ⟨zb1, 46, none⟩)) ?_
       exact ⟨zS400.ch, Sp.mk_holds [] (all_nil)⟩
     refine step_cons ?_ ?_
     · intro zy401 zw402 zhc403 zhf404 zhp405
       have zh406 : zy401 73 = .pointer (some ⟨zb1, 46, none⟩) := (Sp.out0 (zhp405 1 73 (by kernel_rfl) (by kernel_rfl))).1
       have zS407 := zS306.quiet zhc403
       refine step1 ?_
       refine yenv [(73, .pointer (some ⟨zb1, 46, none⟩))] (ag_cons zh406 (ag_nil)) ?_
       have zS408 := zS407.loc
       refine Y.load1_ zS408 8 (.int .i64 (q 46)) zb1 46 ?_
       exact ⟨zS408.ch, Sp.mk_holds [] (all_nil)⟩
     refine step_cons ?_ ?_
     · intro zy409 zw410 zhc411 zhf412 zhp413
       obtain ⟨zb415, zb416, zh414', zg417'⟩ := Sp.out2 (zhp413 0 72 (by kernel_rfl) (by kernel_rfl))
       have zh414 : zy409 72 = .func (.func 84) #[] #[.pointer (some ⟨zb415, 0, none⟩), .pointer (some ⟨zb416, 0, none⟩)] := zh414'
       have zg417 : ∀ p ∈ ([(zb415, .cells #[.int .i64 1] 3 (0, 0)), (zb416, .cells #[.int .i64 1000] 3 (0, 0))] : List (Nat × Obj)), zw304.heap.size ≤ p.1 ∧ zw410.heap[p.1]? = some p.2 := zg417'
       have zh418 : zy409 74 = .int .i64 (q 46) := (Sp.out0 (zhp413 2 74 (by kernel_rfl) (by kernel_rfl))).1
       have zS419 := zS306.ro zhc411 ([(zb415, .cells #[.int .i64 1] 3 (0, 0)), (zb416, .cells #[.int .i64 1000] 3 (0, 0))]) (zg417)
       refine step1 ?_
       refine yenv [(72, .func (.func 84) #[] #[.pointer (some ⟨zb415, 0, none⟩), .pointer (some ⟨zb416, 0, none⟩)]), (74, .int .i64 (q 46))] (ag_cons zh414 (ag_cons zh418 (ag_nil))) ?_
       have zS420 := zS419.loc
       refine Y.call_ 84 #[.int .i64 (q 46), .pointer (some ⟨zb415, 0, none⟩), .pointer (some ⟨zb416, 0, none⟩)] ?_
       refine (within1_any 1 1000 (q 46) zb415 zb416 _ (zS420.ob 0 false 3) (zS420.ob 1 false 3)).mono ?_; rintro _ zw421 ⟨rfl, zhc422⟩
       have zS423 := zS420.quiet zhc422
       exact ⟨zS423.ch, Sp.mk_holds [] (all_nil)⟩
     refine step_cons ?_ ?_
     · intro zy424 zw425 zhc426 zhf427 zhp428
       have zh429 : zy424 75 = .bool (inB 1 1000 (q 46)) := (Sp.out0 (zhp428 3 75 (by kernel_rfl) (by kernel_rfl))).1
       have zh430 : zy424 75 = .bool false := zh429.trans (congrArg Value.bool (zh379))
       have zS431 := zS306.quiet zhc426
       refine step1 ?_
       refine yenv [(75, .bool false)] (ag_cons zh430 (ag_nil)) ?_
       have zS432 := zS431.loc
       refine Y.pure_ (.bool true) ?_
       exact ⟨zS432.ch, Sp.mk_holds [] (all_nil)⟩
     refine step_cons ?_ ?_
     · intro zy433 zw434 zhc435 zhf436 zhp437
       have zh438 : zy433 76 = .bool true := (Sp.out0 (zhp437 4 76 (by kernel_rfl) (by kernel_rfl))).1
       have zS439 := zS306.quiet zhc435
       refine step1 ?_
       refine yenv [(76, .bool true)] (ag_cons zh438 (ag_nil)) ?_
       have zS440 := zS439.loc
       refine Y.pure_ (.bool true) ?_
       exact ⟨zS440.ch, Sp.mk_holds [] (all_nil)⟩
     refine step_cons ?_ ?_
     · intro zy441 zw442 zhc443 zhf444 zhp445
       have zh446 : zy441 77 = .bool true := (Sp.out0 (zhp445 5 77 (by kernel_rfl) (by kernel_rfl))).1
       have zS447 := zS306.quiet zhc443
       refine step_no (wY_f zh446) ?_
       exact Sp.mk_holds [] all_nil
     refine step_cons ?_ ?_
     · intro zy448 zw449 zhc450 zhf451 zhp452
       have zh453 : zy448 1 = .pointer (some ⟨zb1, 0, none⟩) := (zhf451 1 (by kernel_rfl)).trans (by kernel_rfl)
       have zh454 : zy448 77 = .bool true := (Sp.out0 (zhp452 5 77 (by kernel_rfl) (by kernel_rfl))).1
       have zS455 := zS306.quiet zhc450
       refine step_no (wY_f zh454) ?_
       exact Sp.mk_holds [] all_nil
     refine step_cons ?_ ?_
     · intro zy456 zw457 zhc458 zhf459 zhp460
       have zh461 : zy456 79 = undef := (Sp.out0 (zhp460 7 79 (by kernel_rfl) (by kernel_rfl))).1
       have zh462 : zy456 77 = .bool true := (Sp.out0 (zhp460 5 77 (by kernel_rfl) (by kernel_rfl))).1
       have zS463 := zS306.quiet zhc458
       refine step_no (wY_f zh462) ?_
       exact Sp.mk_holds [] all_nil
     refine step_cons ?_ ?_
     · intro zy464 zw465 zhc466 zhf467 zhp468
       have zh469 : zy464 78 = undef := (Sp.out0 (zhp468 6 78 (by kernel_rfl) (by kernel_rfl))).1
       have zh470 : zy464 80 = undef := (Sp.out0 (zhp468 8 80 (by kernel_rfl) (by kernel_rfl))).1
       have zh471 : zy464 77 = .bool true := (Sp.out0 (zhp468 5 77 (by kernel_rfl) (by kernel_rfl))).1
       have zS472 := zS306.quiet zhc466
       refine step_no (wY_f zh471) ?_
       exact Sp.mk_holds [] all_nil
     refine step_cons ?_ ?_
     · intro zy473 zw474 zhc475 zhf476 zhp477
       have zh478 : zy473 81 = undef := (Sp.out0 (zhp477 9 81 (by kernel_rfl) (by kernel_rfl))).1
       have zh479 : zy473 77 = .bool true := (Sp.out0 (zhp477 5 77 (by kernel_rfl) (by kernel_rfl))).1
       have zS480 := zS306.quiet zhc475
       refine step_no (wY_f zh479) ?_
       exact Sp.mk_holds [] all_nil
     refine step_cons ?_ ?_
     · intro zy481 zw482 zhc483 zhf484 zhp485
       have zh486 : zy481 77 = .bool true := (Sp.out0 (zhp485 5 77 (by kernel_rfl) (by kernel_rfl))).1
       have zh487 : zy481 82 = undef := (Sp.out0 (zhp485 10 82 (by kernel_rfl) (by kernel_rfl))).1
       have zS488 := zS306.quiet zhc483
       refine step1 ?_
       refine yenv [(77, .bool true), (82, undef)] (ag_cons zh486 (ag_cons zh487 (ag_nil))) ?_
       have zS489 := zS488.loc
       refine Y.pure_ (.bool true) ?_
       exact ⟨zS489.ch, Sp.mk_holds [] (all_nil)⟩
     refine step_cons ?_ ?_
     · intro zy490 zw491 zhc492 zhf493 zhp494
       have zh495 : zy490 83 = .bool true := (Sp.out0 (zhp494 11 83 (by kernel_rfl) (by kernel_rfl))).1
       have zS496 := zS306.quiet zhc492
       refine step1 ?_
       refine yenv [(83, .bool true)] (ag_cons zh495 (ag_nil)) ?_
       have zS497 := zS496.loc
       refine Y.pure_ (.bool true) ?_
       exact ⟨zS497.ch, Sp.mk_holds [] (all_nil)⟩
     exact step_nil
   intro zv498 zw499 zhc500 zha501
   obtain ⟨zb503, zb504, zh502', zg505'⟩ := Sp.out2 (zha501 0 (by kernel_rfl))
   have zh502 : zv498 0 = .func (.func 84) #[] #[.pointer (some ⟨zb503, 0, none⟩), .pointer (some ⟨zb504, 0, none⟩)] := zh502'
   have zg505 : ∀ p ∈ ([(zb503, .cells #[.int .i64 1] 3 (0, 0)), (zb504, .cells #[.int .i64 1000] 3 (0, 0))] : List (Nat × Obj)), zw304.heap.size ≤ p.1 ∧ zw499.heap[p.1]? = some p.2 := zg505'
   have zh506 : zv498 1 = .pointer (some ⟨zb1, 46, none⟩) := (Sp.out0 (zha501 1 (by kernel_rfl))).1
   have zh507 : zv498 2 = .int .i64 (q 46) := (Sp.out0 (zha501 2 (by kernel_rfl))).1
   have zh508 : zv498 3 = .bool (inB 1 1000 (q 46)) := (Sp.out0 (zha501 3 (by kernel_rfl))).1
   have zh509 : zv498 4 = .bool true := (Sp.out0 (zha501 4 (by kernel_rfl))).1
   have zh510 : zv498 5 = .bool true := (Sp.out0 (zha501 5 (by kernel_rfl))).1
   have zh511 : zv498 6 = undef := (Sp.out0 (zha501 6 (by kernel_rfl))).1
   have zh512 : zv498 7 = undef := (Sp.out0 (zha501 7 (by kernel_rfl))).1
   have zh513 : zv498 8 = undef := (Sp.out0 (zha501 8 (by kernel_rfl))).1
   have zh514 : zv498 9 = undef := (Sp.out0 (zha501 9 (by kernel_rfl))).1
   have zh515 : zv498 10 = undef := (Sp.out0 (zha501 10 (by kernel_rfl))).1
   have zh516 : zv498 11 = .bool true := (Sp.out0 (zha501 11 (by kernel_rfl))).1
   have zh517 : zv498 12 = .bool true := (Sp.out0 (zha501 12 (by kernel_rfl))).1
   have zS518 := zS306.ro zhc500 ([(zb503, .cells #[.int .i64 1] 3 (0, 0)), (zb504, .cells #[.int .i64 1000] 3 (0, 0))]) (zg505)
   refine ⟨[.func (.func 84) #[] #[.pointer (some ⟨zb503, 0, none⟩), .pointer (some ⟨zb504, 0, none⟩)], .pointer (some ⟨zb1, 46, none⟩), .int .i64 (q 46), .bool (inB 1 1000 (q 46)), .bool true, .bool true, undef, undef, undef, undef, undef, .bool true, .bool true], by kernel_rfl, va_cons zh502 (va_cons zh506 (va_cons zh507 (va_cons zh508 (va_cons zh509 (va_cons zh510 (va_cons zh511 (va_cons zh512 (va_cons zh513 (va_cons zh514 (va_cons zh515 (va_cons zh516 (va_cons zh517 (va_nil))))))))))))), ?_⟩
   refine nil_ (then_n (cond_T ?_))
   refine seq_ (reg_ ?_)
   refine pure_ (.int .i64 47) ?_
   refine nil_ (then_n (wp_ret (blk_r (then_r ?_))))
   refine ret_ rfl (res_ [.tmp 2] [.int .i64 47] (.int .i64 47) ⟨res_tmp, trivial⟩) ?_
   exact ⟨congrArg _ (by simp [polCode, zh9, zh10, zh16, zh17, zh23, zh24, zh27, zh31, zh38, zh39, zh45, zh46, zh92, zh93, zh191, zh192, zh309, zh310, zh378, zh379, zh28, zh32]), zS518.ch⟩
 intro zh519
 have zh520 := notF' zh519
 have zh521 := inB_is _ _ _ zh520
 refine drawnL_ 13 [⟨2, fun ids => .func (.func 84) #[] #[.pointer (some ⟨(ids.getD 0 0), 0, none⟩), .pointer (some ⟨(ids.getD 1 0), 0, none⟩)], fun ids => [((ids.getD 0 0), .cells #[.int .i64 1] 3 (0, 0)), ((ids.getD 1 0), .cells #[.int .i64 1000] 3 (0, 0))]⟩, ⟨0, fun _ => .pointer (some ⟨zb1, 46, none⟩), fun _ => []⟩, ⟨0, fun _ => .int .i64 (q 46), fun _ => []⟩, ⟨0, fun _ => .bool (inB 1 1000 (q 46)), fun _ => []⟩, ⟨0, fun _ => .bool false, fun _ => []⟩, ⟨0, fun _ => .bool false, fun _ => []⟩, ⟨2, fun ids => .func (.func 84) #[] #[.pointer (some ⟨(ids.getD 0 0), 0, none⟩), .pointer (some ⟨(ids.getD 1 0), 0, none⟩)], fun ids => [((ids.getD 0 0), .cells #[.int .i64 0] 3 (0, 0)), ((ids.getD 1 0), .cells #[.int .i64 1000] 3 (0, 0))]⟩, ⟨0, fun _ => .pointer (some ⟨zb1, 47, none⟩), fun _ => []⟩, ⟨0, fun _ => .int .i64 (q 47), fun _ => []⟩, ⟨0, fun _ => .bool (inB 0 1000 (q 47)), fun _ => []⟩, ⟨0, fun _ => .bool (!(inB 0 1000 (q 47))), fun _ => []⟩, ⟨0, fun _ => .bool (!(inB 0 1000 (q 47))), fun _ => []⟩, ⟨0, fun _ => .bool (!(inB 0 1000 (q 47))), fun _ => []⟩] [] ?_ ?_
 · refine step_cons ?_ ?_
   · intro zy522 zw523 zhc524 zhf525 zhp526
     have zS527 := zS306.quiet zhc524
     refine step1 ?_
     refine yenv [] (ag_nil) ?_
     have zS528 := zS527.loc
     refine Y.call_ 62 #[.int .i64 1, .int .i64 1000] ?_
     refine enter_ Tryz.func62 rfl ?_
     refine seq_ (reg_ ?_)
     refine new_ zS528 (fun b => .pointer (some ⟨b, 0, none⟩)) (.cells #[.int .i64 1] 3) ?_
     intro zb529 zw530 zS531
     refine new_ zS531 (fun b => .pointer (some ⟨b, 0, none⟩)) (.cells #[.int .i64 1000] 3) ?_
     intro zb532 zw533 zS534
     refine pure_ (.nilFunc) ?_
     refine nil_ (then_n (seq_ (reg_ ?_)))
     refine pure_ (.func (.func 84) #[] #[.pointer (some ⟨zb529, 0, none⟩), .pointer (some ⟨zb532, 0, none⟩)]) ?_
     refine assign_ ?_
     refine nil_ (then_n (wp_ret ?_))
     refine ret_ rfl (res_ [.tmp 4] [.func (.func 84) #[] #[.pointer (some ⟨zb529, 0, none⟩), .pointer (some ⟨zb532, 0, none⟩)]] (.func (.func 84) #[] #[.pointer (some ⟨zb529, 0, none⟩), .pointer (some ⟨zb532, 0, none⟩)]) ⟨res_tmp, trivial⟩) ?_
     exact ⟨zS534.ch, Sp.mk_holds [zb529, zb532] (all_cons (zS534.isNew zhc524.size 1 (by kernel_rfl)) (all_cons (zS534.isNew zhc524.size 0 (by kernel_rfl)) (all_nil)))⟩
   refine step_cons ?_ ?_
   · intro zy535 zw536 zhc537 zhf538 zhp539
     have zh540 : zy535 1 = .pointer (some ⟨zb1, 0, none⟩) := (zhf538 1 (by kernel_rfl)).trans (by kernel_rfl)
     have zS541 := zS306.quiet zhc537
     refine step1 ?_
     refine yenv [(1, .pointer (some ⟨zb1, 0, none⟩))] (ag_cons zh540 (ag_nil)) ?_
     have zS542 := zS541.loc
     refine Y.pure_ (.pointer (some ⟨zb1, 46, none⟩)) ?_
     exact ⟨zS542.ch, Sp.mk_holds [] (all_nil)⟩
   refine step_cons ?_ ?_
   · intro zy543 zw544 zhc545 zhf546 zhp547
     have zh548 : zy543 73 = .pointer (some ⟨zb1, 46, none⟩) := (Sp.out0 (zhp547 1 73 (by kernel_rfl) (by kernel_rfl))).1
     have zS549 := zS306.quiet zhc545
     refine step1 ?_
     refine yenv [(73, .pointer (some ⟨zb1, 46, none⟩))] (ag_cons zh548 (ag_nil)) ?_
     have zS550 := zS549.loc
     refine Y.load1_ zS550 8 (.int .i64 (q 46)) zb1 46 ?_
     exact ⟨zS550.ch, Sp.mk_holds [] (all_nil)⟩
   refine step_cons ?_ ?_
   · intro zy551 zw552 zhc553 zhf554 zhp555
     obtain ⟨zb557, zb558, zh556', zg559'⟩ := Sp.out2 (zhp555 0 72 (by kernel_rfl) (by kernel_rfl))
     have zh556 : zy551 72 = .func (.func 84) #[] #[.pointer (some ⟨zb557, 0, none⟩), .pointer (some ⟨zb558, 0, none⟩)] := zh556'
     have zg559 : ∀ p ∈ ([(zb557, .cells #[.int .i64 1] 3 (0, 0)), (zb558, .cells #[.int .i64 1000] 3 (0, 0))] : List (Nat × Obj)), zw304.heap.size ≤ p.1 ∧ zw552.heap[p.1]? = some p.2 := zg559'
     have zh560 : zy551 74 = .int .i64 (q 46) := (Sp.out0 (zhp555 2 74 (by kernel_rfl) (by kernel_rfl))).1
     have zS561 := zS306.ro zhc553 ([(zb557, .cells #[.int .i64 1] 3 (0, 0)), (zb558, .cells #[.int .i64 1000] 3 (0, 0))]) (zg559)
     refine step1 ?_
     refine yenv [(72, .func (.func 84) #[] #[.pointer (some ⟨zb557, 0, none⟩), .pointer (some ⟨zb558, 0, none⟩)]), (74, .int .i64 (q 46))] (ag_cons zh556 (ag_cons zh560 (ag_nil))) ?_
     have zS562 := zS561.loc
     refine Y.call_ 84 #[.int .i64 (q 46), .pointer (some ⟨zb557, 0, none⟩), .pointer (some ⟨zb558, 0, none⟩)] ?_
     refine (within1_any 1 1000 (q 46) zb557 zb558 _ (zS562.ob 0 false 3) (zS562.ob 1 false 3)).mono ?_; rintro _ zw563 ⟨rfl, zhc564⟩
     have zS565 := zS562.quiet zhc564
     exact ⟨zS565.ch, Sp.mk_holds [] (all_nil)⟩
   refine step_cons ?_ ?_
   · intro zy566 zw567 zhc568 zhf569 zhp570
     have zh571 : zy566 75 = .bool (inB 1 1000 (q 46)) := (Sp.out0 (zhp570 3 75 (by kernel_rfl) (by kernel_rfl))).1
     have zh572 : zy566 75 = .bool true := zh571.trans (congrArg Value.bool (zh520))
     have zS573 := zS306.quiet zhc568
     refine step1 ?_
     refine yenv [(75, .bool true)] (ag_cons zh572 (ag_nil)) ?_
     have zS574 := zS573.loc
     refine Y.pure_ (.bool false) ?_
     exact ⟨zS574.ch, Sp.mk_holds [] (all_nil)⟩
   refine step_cons ?_ ?_
   · intro zy575 zw576 zhc577 zhf578 zhp579
     have zh580 : zy575 76 = .bool false := (Sp.out0 (zhp579 4 76 (by kernel_rfl) (by kernel_rfl))).1
     have zS581 := zS306.quiet zhc577
     refine step1 ?_
     refine yenv [(76, .bool false)] (ag_cons zh580 (ag_nil)) ?_
     have zS582 := zS581.loc
     refine Y.pure_ (.bool false) ?_
     exact ⟨zS582.ch, Sp.mk_holds [] (all_nil)⟩
   refine step_cons ?_ ?_
   · intro zy583 zw584 zhc585 zhf586 zhp587
     have zh588 : zy583 77 = .bool false := (Sp.out0 (zhp587 5 77 (by kernel_rfl) (by kernel_rfl))).1
     have zS589 := zS306.quiet zhc585
     refine step_yes (wY_t zh588) ?_
     refine yenv [] (ag_nil) ?_
     have zS590 := zS589.loc
     refine Y.call_ 62 #[.int .i64 0, .int .i64 1000] ?_
     refine enter_ Tryz.func62 rfl ?_
     refine seq_ (reg_ ?_)
     refine new_ zS590 (fun b => .pointer (some ⟨b, 0, none⟩)) (.cells #[.int .i64 0] 3) ?_
     intro zb591 zw592 zS593
     refine new_ zS593 (fun b => .pointer (some ⟨b, 0, none⟩)) (.cells #[.int .i64 1000] 3) ?_
     intro zb594 zw595 zS596
     refine pure_ (.nilFunc) ?_
     refine nil_ (then_n (seq_ (reg_ ?_)))
     refine pure_ (.func (.func 84) #[] #[.pointer (some ⟨zb591, 0, none⟩), .pointer (some ⟨zb594, 0, none⟩)]) ?_
     refine assign_ ?_
     refine nil_ (then_n (wp_ret ?_))
     refine ret_ rfl (res_ [.tmp 4] [.func (.func 84) #[] #[.pointer (some ⟨zb591, 0, none⟩), .pointer (some ⟨zb594, 0, none⟩)]] (.func (.func 84) #[] #[.pointer (some ⟨zb591, 0, none⟩), .pointer (some ⟨zb594, 0, none⟩)]) ⟨res_tmp, trivial⟩) ?_
     exact ⟨zS596.ch, Sp.mk_holds [zb591, zb594] (all_cons (zS596.isNew zhc585.size 1 (by kernel_rfl)) (all_cons (zS596.isNew zhc585.size 0 (by kernel_rfl)) (all_nil)))⟩
   refine step_cons ?_ ?_
   · intro zy597 zw598 zhc599 zhf600 zhp601
     have zh602 : zy597 1 = .pointer (some ⟨zb1, 0, none⟩) := (zhf600 1 (by kernel_rfl)).trans (by kernel_rfl)
     have zh603 : zy597 77 = .bool false := (Sp.out0 (zhp601 5 77 (by kernel_rfl) (by kernel_rfl))).1
     have zS604 := zS306.quiet zhc599
     refine step_yes (wY_t zh603) ?_
     refine yenv [(1, .pointer (some ⟨zb1, 0, none⟩))] (ag_cons zh602 (ag_nil)) ?_
     have zS605 := zS604.loc
     refine Y.pure_ (.pointer (some ⟨zb1, 47, none⟩)) ?_
     exact ⟨zS605.ch, Sp.mk_holds [] (all_nil)⟩
   refine step_cons ?_ ?_
   · intro zy606 zw607 zhc608 zhf609 zhp610
     have zh611 : zy606 79 = .pointer (some ⟨zb1, 47, none⟩) := (Sp.out0 (zhp610 7 79 (by kernel_rfl) (by kernel_rfl))).1
     have zh612 : zy606 77 = .bool false := (Sp.out0 (zhp610 5 77 (by kernel_rfl) (by kernel_rfl))).1
     have zS613 := zS306.quiet zhc608
     refine step_yes (wY_t zh612) ?_
     refine yenv [(79, .pointer (some ⟨zb1, 47, none⟩))] (ag_cons zh611 (ag_nil)) ?_
     have zS614 := zS613.loc
     refine Y.load1_ zS614 8 (.int .i64 (q 47)) zb1 47 ?_
     exact ⟨zS614.ch, Sp.mk_holds [] (all_nil)⟩
   refine step_cons ?_ ?_
   · intro zy615 zw616 zhc617 zhf618 zhp619
     obtain ⟨zb621, zb622, zh620', zg623'⟩ := Sp.out2 (zhp619 6 78 (by kernel_rfl) (by kernel_rfl))
     have zh620 : zy615 78 = .func (.func 84) #[] #[.pointer (some ⟨zb621, 0, none⟩), .pointer (some ⟨zb622, 0, none⟩)] := zh620'
     have zg623 : ∀ p ∈ ([(zb621, .cells #[.int .i64 0] 3 (0, 0)), (zb622, .cells #[.int .i64 1000] 3 (0, 0))] : List (Nat × Obj)), zw304.heap.size ≤ p.1 ∧ zw616.heap[p.1]? = some p.2 := zg623'
     have zh624 : zy615 80 = .int .i64 (q 47) := (Sp.out0 (zhp619 8 80 (by kernel_rfl) (by kernel_rfl))).1
     have zh625 : zy615 77 = .bool false := (Sp.out0 (zhp619 5 77 (by kernel_rfl) (by kernel_rfl))).1
     have zS626 := zS306.ro zhc617 ([(zb621, .cells #[.int .i64 0] 3 (0, 0)), (zb622, .cells #[.int .i64 1000] 3 (0, 0))]) (zg623)
     refine step_yes (wY_t zh625) ?_
     refine yenv [(78, .func (.func 84) #[] #[.pointer (some ⟨zb621, 0, none⟩), .pointer (some ⟨zb622, 0, none⟩)]), (80, .int .i64 (q 47))] (ag_cons zh620 (ag_cons zh624 (ag_nil))) ?_
     have zS627 := zS626.loc
     refine Y.call_ 84 #[.int .i64 (q 47), .pointer (some ⟨zb621, 0, none⟩), .pointer (some ⟨zb622, 0, none⟩)] ?_
     refine (within1_any 0 1000 (q 47) zb621 zb622 _ (zS627.ob 0 false 3) (zS627.ob 1 false 3)).mono ?_; rintro _ zw628 ⟨rfl, zhc629⟩
     have zS630 := zS627.quiet zhc629
     exact ⟨zS630.ch, Sp.mk_holds [] (all_nil)⟩
   refine step_cons ?_ ?_
   · intro zy631 zw632 zhc633 zhf634 zhp635
     have zh636 : zy631 81 = .bool (inB 0 1000 (q 47)) := (Sp.out0 (zhp635 9 81 (by kernel_rfl) (by kernel_rfl))).1
     have zh637 : zy631 77 = .bool false := (Sp.out0 (zhp635 5 77 (by kernel_rfl) (by kernel_rfl))).1
     have zS638 := zS306.quiet zhc633
     refine step_yes (wY_t zh637) ?_
     refine yenv [(81, .bool (inB 0 1000 (q 47)))] (ag_cons zh636 (ag_nil)) ?_
     have zS639 := zS638.loc
     refine Y.pure_ (.bool (!(inB 0 1000 (q 47)))) ?_
     exact ⟨zS639.ch, Sp.mk_holds [] (all_nil)⟩
   refine step_cons ?_ ?_
   · intro zy640 zw641 zhc642 zhf643 zhp644
     have zh645 : zy640 77 = .bool false := (Sp.out0 (zhp644 5 77 (by kernel_rfl) (by kernel_rfl))).1
     have zh646 : zy640 82 = .bool (!(inB 0 1000 (q 47))) := (Sp.out0 (zhp644 10 82 (by kernel_rfl) (by kernel_rfl))).1
     have zS647 := zS306.quiet zhc642
     refine step1 ?_
     refine yenv [(77, .bool false), (82, .bool (!(inB 0 1000 (q 47))))] (ag_cons zh645 (ag_cons zh646 (ag_nil))) ?_
     have zS648 := zS647.loc
     refine Y.pure_ (.bool (!(inB 0 1000 (q 47)))) ?_
     exact ⟨zS648.ch, Sp.mk_holds [] (all_nil)⟩
   refine step_cons ?_ ?_
   · intro zy649 zw650 zhc651 zhf652 zhp653
     have zh654 : zy649 83 = .bool (!(inB 0 1000 (q 47))) := (Sp.out0 (zhp653 11 83 (by kernel_rfl) (by kernel_rfl))).1
     have zS655 := zS306.quiet zhc651
     refine step1 ?_
     refine yenv [(83, .bool (!(inB 0 1000 (q 47))))] (ag_cons zh654 (ag_nil)) ?_
     have zS656 := zS655.loc
     refine Y.assign_ ?_
     exact ⟨zS656.ch, Sp.mk_holds [] (all_nil)⟩
   exact step_nil
 intro zv657 zw658 zhc659 zha660
 obtain ⟨zb662, zb663, zh661', zg664'⟩ := Sp.out2 (zha660 0 (by kernel_rfl))
 have zh661 : zv657 0 = .func (.func 84) #[] #[.pointer (some ⟨zb662, 0, none⟩), .pointer (some ⟨zb663, 0, none⟩)] := zh661'
 have zg664 : ∀ p ∈ ([(zb662, .cells #[.int .i64 1] 3 (0, 0)), (zb663, .cells #[.int .i64 1000] 3 (0, 0))] : List (Nat × Obj)), zw304.heap.size ≤ p.1 ∧ zw658.heap[p.1]? = some p.2 := zg664'
 have zh665 : zv657 1 = .pointer (some ⟨zb1, 46, none⟩) := (Sp.out0 (zha660 1 (by kernel_rfl))).1
 have zh666 : zv657 2 = .int .i64 (q 46) := (Sp.out0 (zha660 2 (by kernel_rfl))).1
 have zh667 : zv657 3 = .bool (inB 1 1000 (q 46)) := (Sp.out0 (zha660 3 (by kernel_rfl))).1
 have zh668 : zv657 4 = .bool false := (Sp.out0 (zha660 4 (by kernel_rfl))).1
 have zh669 : zv657 5 = .bool false := (Sp.out0 (zha660 5 (by kernel_rfl))).1
 obtain ⟨zb671, zb672, zh670', zg673'⟩ := Sp.out2 (zha660 6 (by kernel_rfl))
 have zh670 : zv657 6 = .func (.func 84) #[] #[.pointer (some ⟨zb671, 0, none⟩), .pointer (some ⟨zb672, 0, none⟩)] := zh670'
 have zg673 : ∀ p ∈ ([(zb671, .cells #[.int .i64 0] 3 (0, 0)), (zb672, .cells #[.int .i64 1000] 3 (0, 0))] : List (Nat × Obj)), zw304.heap.size ≤ p.1 ∧ zw658.heap[p.1]? = some p.2 := zg673'
 have zh674 : zv657 7 = .pointer (some ⟨zb1, 47, none⟩) := (Sp.out0 (zha660 7 (by kernel_rfl))).1
 have zh675 : zv657 8 = .int .i64 (q 47) := (Sp.out0 (zha660 8 (by kernel_rfl))).1
 have zh676 : zv657 9 = .bool (inB 0 1000 (q 47)) := (Sp.out0 (zha660 9 (by kernel_rfl))).1
 have zh677 : zv657 10 = .bool (!(inB 0 1000 (q 47))) := (Sp.out0 (zha660 10 (by kernel_rfl))).1
 have zh678 : zv657 11 = .bool (!(inB 0 1000 (q 47))) := (Sp.out0 (zha660 11 (by kernel_rfl))).1
 have zh679 : zv657 12 = .bool (!(inB 0 1000 (q 47))) := (Sp.out0 (zha660 12 (by kernel_rfl))).1
 have zS680 := zS306.ro zhc659 ([(zb662, .cells #[.int .i64 1] 3 (0, 0)), (zb663, .cells #[.int .i64 1000] 3 (0, 0))] ++ [(zb671, .cells #[.int .i64 0] 3 (0, 0)), (zb672, .cells #[.int .i64 1000] 3 (0, 0))]) (List.forall_mem_append.2 ⟨zg664, zg673⟩)
 refine ⟨[.func (.func 84) #[] #[.pointer (some ⟨zb662, 0, none⟩), .pointer (some ⟨zb663, 0, none⟩)], .pointer (some ⟨zb1, 46, none⟩), .int .i64 (q 46), .bool (inB 1 1000 (q 46)), .bool false, .bool false, .func (.func 84) #[] #[.pointer (some ⟨zb671, 0, none⟩), .pointer (some ⟨zb672, 0, none⟩)], .pointer (some ⟨zb1, 47, none⟩), .int .i64 (q 47), .bool (inB 0 1000 (q 47)), .bool (!(inB 0 1000 (q 47))), .bool (!(inB 0 1000 (q 47))), .bool (!(inB 0 1000 (q 47)))], by kernel_rfl, va_cons zh661 (va_cons zh665 (va_cons zh666 (va_cons zh667 (va_cons zh668 (va_cons zh669 (va_cons zh670 (va_cons zh674 (va_cons zh675 (va_cons zh676 (va_cons zh677 (va_cons zh678 (va_cons zh679 (va_nil))))))))))))), ?_⟩
 refine nil_ (then_n ?_)
 refine cond_S (!(inB 0 1000 (q 47))) ?_ ?_
 · intro zh681
   have zh682 := notT' zh681
   refine seq_ (reg_ ?_)
   refine pure_ (.int .i64 47) ?_
   refine nil_ (then_n (wp_ret (blk_r (then_r ?_))))
   refine ret_ rfl (res_ [.tmp 2] [.int .i64 47] (.int .i64 47) ⟨res_tmp, trivial⟩) ?_
   exact ⟨congrArg _ (by simp [polCode, zh9, zh10, zh16, zh17, zh23, zh24, zh27, zh31, zh38, zh39, zh45, zh46, zh92, zh93, zh191, zh192, zh309, zh310, zh519, zh520, zh681, zh682, zh28, zh32]), zS680.ch⟩
 intro zh683
 have zh684 := notF' zh683
 have zh685 := inB_is _ _ _ zh684
 refine seq_ ?_
 refine drawnL_ 6 [⟨0, fun _ => .pointer (some ⟨zb1, 48, none⟩), fun _ => []⟩, ⟨0, fun _ => .int .i64 (q 48), fun _ => []⟩, ⟨0, fun _ => .pointer (some ⟨zb1, 49, none⟩), fun _ => []⟩, ⟨0, fun _ => .int .i64 (q 49), fun _ => []⟩, ⟨1, fun ids => .slice (some ⟨(ids.getD 0 0), 0, none⟩) 2 2, fun ids => [((ids.getD 0 0), .cells #[.int .i64 (q 48), .int .i64 (q 49)] 3 (0, 0))]⟩, ⟨2, fun ids => .func (.func 84) #[] #[.pointer (some ⟨(ids.getD 0 0), 0, none⟩), .pointer (some ⟨(ids.getD 1 0), 0, none⟩)], fun ids => [((ids.getD 0 0), .cells #[.int .i64 1] 3 (0, 0)), ((ids.getD 1 0), .cells #[.int .i64 3] 3 (0, 0))]⟩] [[6, 4, 1, 0], [6, 4, 1], [6, 4, 3, 2], [6, 4, 3], [6, 4], [6, 5], [7, 6, 4, 1, 0], [7, 6, 4, 1], [7, 6, 4, 3, 2], [7, 6, 4, 3], [7, 6, 4], [7, 6, 5], [7, 6], [8, 6, 4, 1, 0], [8, 6, 4, 1], [8, 6, 4, 3, 2], [8, 6, 4, 3], [8, 6, 4], [8, 6, 5], [8, 6], [8, 7]] ?_ ?_
 · refine step_cons ?_ ?_
   · intro zy686 zw687 zhc688 zhf689 zhp690
     have zh691 : zy686 1 = .pointer (some ⟨zb1, 0, none⟩) := (zhf689 1 (by kernel_rfl)).trans (by kernel_rfl)
     have zS692 := zS680.quiet zhc688
     refine step1 ?_
     refine yenv [(1, .pointer (some ⟨zb1, 0, none⟩))] (ag_cons zh691 (ag_nil)) ?_
     have zS693 := zS692.loc
     refine Y.pure_ (.pointer (some ⟨zb1, 48, none⟩)) ?_
     exact ⟨zS693.ch, Sp.mk_holds [] (all_nil)⟩
   refine step_cons ?_ ?_
   · intro zy694 zw695 zhc696 zhf697 zhp698
     have zh699 : zy694 85 = .pointer (some ⟨zb1, 48, none⟩) := (Sp.out0 (zhp698 0 85 (by kernel_rfl) (by kernel_rfl))).1
     have zS700 := zS680.quiet zhc696
     refine step1 ?_
     refine yenv [(85, .pointer (some ⟨zb1, 48, none⟩))] (ag_cons zh699 (ag_nil)) ?_
     have zS701 := zS700.loc
     refine Y.load1_ zS701 12 (.int .i64 (q 48)) zb1 48 ?_
     exact ⟨zS701.ch, Sp.mk_holds [] (all_nil)⟩
   refine step_cons ?_ ?_
   · intro zy702 zw703 zhc704 zhf705 zhp706
     have zh707 : zy702 1 = .pointer (some ⟨zb1, 0, none⟩) := (zhf705 1 (by kernel_rfl)).trans (by kernel_rfl)
     have zS708 := zS680.quiet zhc704
     refine step1 ?_
     refine yenv [(1, .pointer (some ⟨zb1, 0, none⟩))] (ag_cons zh707 (ag_nil)) ?_
     have zS709 := zS708.loc
     refine Y.pure_ (.pointer (some ⟨zb1, 49, none⟩)) ?_
     exact ⟨zS709.ch, Sp.mk_holds [] (all_nil)⟩
   refine step_cons ?_ ?_
   · intro zy710 zw711 zhc712 zhf713 zhp714
     have zh715 : zy710 87 = .pointer (some ⟨zb1, 49, none⟩) := (Sp.out0 (zhp714 2 87 (by kernel_rfl) (by kernel_rfl))).1
     have zS716 := zS680.quiet zhc712
     refine step1 ?_
     refine yenv [(87, .pointer (some ⟨zb1, 49, none⟩))] (ag_cons zh715 (ag_nil)) ?_
     have zS717 := zS716.loc
     refine Y.load1_ zS717 12 (.int .i64 (q 49)) zb1 49 ?_
     exact ⟨zS717.ch, Sp.mk_holds [] (all_nil)⟩
   refine step_cons ?_ ?_
   · intro zy718 zw719 zhc720 zhf721 zhp722
     have zh723 : zy718 86 = .int .i64 (q 48) := (Sp.out0 (zhp722 1 86 (by kernel_rfl) (by kernel_rfl))).1
     have zh724 : zy718 88 = .int .i64 (q 49) := (Sp.out0 (zhp722 3 88 (by kernel_rfl) (by kernel_rfl))).1
     have zS725 := zS680.quiet zhc720
     refine step1 ?_
     refine yenv [(86, .int .i64 (q 48)), (88, .int .i64 (q 49))] (ag_cons zh723 (ag_cons zh724 (ag_nil))) ?_
     have zS726 := zS725.loc
     refine Y.new_ zS726 (fun b => .slice (some ⟨b, 0, none⟩) 2 2) (.cells #[.int .i64 (q 48), .int .i64 (q 49)] 3) ?_
     intro zb727 zw728 zS729
     exact ⟨zS729.ch, Sp.mk_holds [zb727] (all_cons (zS729.isNew zhc720.size 0 (by kernel_rfl)) (all_nil))⟩
   refine step_cons ?_ ?_
   · intro zy730 zw731 zhc732 zhf733 zhp734
     have zS735 := zS680.quiet zhc732
     refine step1 ?_
     refine yenv [] (ag_nil) ?_
     have zS736 := zS735.loc
     refine Y.call_ 62 #[.int .i64 1, .int .i64 3] ?_
     refine enter_ Tryz.func62 rfl ?_
     refine seq_ (reg_ ?_)
     refine new_ zS736 (fun b => .pointer (some ⟨b, 0, none⟩)) (.cells #[.int .i64 1] 3) ?_
     intro zb737 zw738 zS739
     refine new_ zS739 (fun b => .pointer (some ⟨b, 0, none⟩)) (.cells #[.int .i64 3] 3) ?_
     intro zb740 zw741 zS742
     refine pure_ (.nilFunc) ?_
     refine nil_ (then_n (seq_ (reg_ ?_)))
     refine pure_ (.func (.func 84) #[] #[.pointer (some ⟨zb737, 0, none⟩), .pointer (some ⟨zb740, 0, none⟩)]) ?_
     refine assign_ ?_
     refine nil_ (then_n (wp_ret ?_))
     refine ret_ rfl (res_ [.tmp 4] [.func (.func 84) #[] #[.pointer (some ⟨zb737, 0, none⟩), .pointer (some ⟨zb740, 0, none⟩)]] (.func (.func 84) #[] #[.pointer (some ⟨zb737, 0, none⟩), .pointer (some ⟨zb740, 0, none⟩)]) ⟨res_tmp, trivial⟩) ?_
     exact ⟨zS742.ch, Sp.mk_holds [zb737, zb740] (all_cons (zS742.isNew zhc732.size 1 (by kernel_rfl)) (all_cons (zS742.isNew zhc732.size 0 (by kernel_rfl)) (all_nil)))⟩
   exact step_nil
 intro zv743 zw744 zhc745 zha746
 have zh747 : zv743 0 = .pointer (some ⟨zb1, 48, none⟩) := (Sp.out0 (zha746 0 (by kernel_rfl))).1
 have zh748 : zv743 1 = .int .i64 (q 48) := (Sp.out0 (zha746 1 (by kernel_rfl))).1
 have zh749 : zv743 2 = .pointer (some ⟨zb1, 49, none⟩) := (Sp.out0 (zha746 2 (by kernel_rfl))).1
 have zh750 : zv743 3 = .int .i64 (q 49) := (Sp.out0 (zha746 3 (by kernel_rfl))).1
 obtain ⟨zb752, zh751', zg753'⟩ := Sp.out1 (zha746 4 (by kernel_rfl))
 have zh751 : zv743 4 = .slice (some ⟨zb752, 0, none⟩) 2 2 := zh751'
 have zg753 : ∀ p ∈ ([(zb752, .cells #[.int .i64 (q 48), .int .i64 (q 49)] 3 (0, 0))] : List (Nat × Obj)), zw658.heap.size ≤ p.1 ∧ zw744.heap[p.1]? = some p.2 := zg753'
 obtain ⟨zb755, zb756, zh754', zg757'⟩ := Sp.out2 (zha746 5 (by kernel_rfl))
 have zh754 : zv743 5 = .func (.func 84) #[] #[.pointer (some ⟨zb755, 0, none⟩), .pointer (some ⟨zb756, 0, none⟩)] := zh754'
 have zg757 : ∀ p ∈ ([(zb755, .cells #[.int .i64 1] 3 (0, 0)), (zb756, .cells #[.int .i64 3] 3 (0, 0))] : List (Nat × Obj)), zw658.heap.size ≤ p.1 ∧ zw744.heap[p.1]? = some p.2 := zg757'
 have zS758 := zS680.ro zhc745 ([(zb752, .cells #[.int .i64 (q 48), .int .i64 (q 49)] 3 (0, 0))] ++ [(zb755, .cells #[.int .i64 1] 3 (0, 0)), (zb756, .cells #[.int .i64 3] 3 (0, 0))]) (List.forall_mem_append.2 ⟨zg753, zg757⟩)
 refine ⟨[.pointer (some ⟨zb1, 48, none⟩), .int .i64 (q 48), .pointer (some ⟨zb1, 49, none⟩), .int .i64 (q 49), .slice (some ⟨zb752, 0, none⟩) 2 2, .func (.func 84) #[] #[.pointer (some ⟨zb755, 0, none⟩), .pointer (some ⟨zb756, 0, none⟩)]], by kernel_rfl, va_cons zh747 (va_cons zh748 (va_cons zh749 (va_cons zh750 (va_cons zh751 (va_cons zh754 (va_nil)))))), ?_⟩
 refine call_ 58 #[.slice (some ⟨zb752, 0, none⟩) 2 2, .func (.func 84) #[] #[.pointer (some ⟨zb755, 0, none⟩), .pointer (some ⟨zb756, 0, none⟩)]] ?_
 refine (all_s2 1 3 (q 48) (q 49) zb752 zb755 zb756 _ (zS758.ob 0 false 3) (zS758.ob 1 false 3) (zS758.ob 2 false 3)).mono ?_; rintro _ zw759 ⟨rfl, zhc760⟩
 have zS761 := zS758.quiet zhc760
 refine pure_ (.bool (!(allI 1 3 [(q 48), (q 49)]))) ?_
 refine assign_ ?_
 refine nil_ (then_n ?_)
 refine cond_S (!(allI 1 3 [(q 48), (q 49)])) ?_ ?_
 · intro zh762
   have zh763 := notT' zh762
   refine seq_ (reg_ ?_)
   refine pure_ (.int .i64 48) ?_
   refine nil_ (then_n (wp_ret (blk_r (then_r ?_))))
   refine ret_ rfl (res_ [.tmp 2] [.int .i64 48] (.int .i64 48) ⟨res_tmp, trivial⟩) ?_
   exact ⟨congrArg _ (by simp [polCode, zh9, zh10, zh16, zh17, zh23, zh24, zh27, zh31, zh38, zh39, zh45, zh46, zh92, zh93, zh191, zh192, zh309, zh310, zh519, zh520, zh683, zh684, zh762, zh763, zh28, zh32]), zS761.ch⟩
 intro zh764
 have zh765 := notF' zh764
 refine seq_ ?_
 refine split_b ((q 50) != 0) ?_ ?_
 · intro zh814
   have zh815 := neT' zh814
   refine drawnL_ 19 [⟨0, fun _ => .pointer (some ⟨zb1, 50, none⟩), fun _ => []⟩, ⟨0, fun _ => .pointer (some ⟨zb1, 50, none⟩), fun _ => []⟩, ⟨0, fun _ => .int .i64 (q 50), fun _ => []⟩, ⟨0, fun _ => .bool true, fun _ => []⟩, ⟨0, fun _ => .bool true, fun _ => []⟩, ⟨0, fun _ => undef, fun _ => []⟩, ⟨0, fun _ => undef, fun _ => []⟩, ⟨0, fun _ => undef, fun _ => []⟩, ⟨0, fun _ => undef, fun _ => []⟩, ⟨0, fun _ => undef, fun _ => []⟩, ⟨0, fun _ => .bool true, fun _ => []⟩, ⟨0, fun _ => .bool true, fun _ => []⟩, ⟨0, fun _ => undef, fun _ => []⟩, ⟨0, fun _ => undef, fun _ => []⟩, ⟨0, fun _ => undef, fun _ => []⟩, ⟨0, fun _ => undef, fun _ => []⟩, ⟨0, fun _ => undef, fun _ => []⟩, ⟨0, fun _ => .bool true, fun _ => []⟩, ⟨0, fun _ => .bool true, fun _ => []⟩] [] ?_ ?_
   · refine step_cons ?_ ?_
     · intro zy816 zw817 zhc818 zhf819 zhp820
       have zh821 : zy816 1 = .pointer (some ⟨zb1, 0, none⟩) := (zhf819 1 (by kernel_rfl)).trans (by kernel_rfl)
       have zS822 := zS761.quiet zhc818
       refine step1 ?_
       refine yenv [(1, .pointer (some ⟨zb1, 0, none⟩))] (ag_cons zh821 (ag_nil)) ?_
       have zS823 := zS822.loc
       refine Y.pure_ (.pointer (some ⟨zb1, 50, none⟩)) ?_
       exact ⟨zS823.ch, Sp.mk_holds [] (all_nil)⟩
     refine step_cons ?_ ?_
     · intro zy824 zw825 zhc826 zhf827 zhp828
       have zh829 : zy824 94 = .pointer (some ⟨zb1, 50, none⟩) := (Sp.out0 (zhp828 0 94 (by kernel_rfl) (by kernel_rfl))).1
       have zS830 := zS761.quiet zhc826
       refine step1 ?_
       refine yenv [(94, .pointer (some ⟨zb1, 50, none⟩))] (ag_cons zh829 (ag_nil)) ?_
       have zS831 := zS830.loc
       refine Y.pure_ (.pointer (some ⟨zb1, 50, none⟩)) ?_
       exact ⟨zS831.ch, Sp.mk_holds [] (all_nil)⟩
     refine step_cons ?_ ?_
     · intro zy832 zw833 zhc834 zhf835 zhp836
       have zh837 : zy832 95 = .pointer (some ⟨zb1, 50, none⟩) := (Sp.out0 (zhp836 1 95 (by kernel_rfl) (by kernel_rfl))).1
       have zS838 := zS761.quiet zhc834
       refine step1 ?_
       refine yenv [(95, .pointer (some ⟨zb1, 50, none⟩))] (ag_cons zh837 (ag_nil)) ?_
       have zS839 := zS838.loc
       refine Y.load1_ zS839 15 (.int .i64 (q 50)) zb1 50 ?_
       exact ⟨zS839.ch, Sp.mk_holds [] (all_nil)⟩
     refine step_cons ?_ ?_
     · intro zy840 zw841 zhc842 zhf843 zhp844
       have zh845 : zy840 96 = .int .i64 (q 50) := (Sp.out0 (zhp844 2 96 (by kernel_rfl) (by kernel_rfl))).1
       have zS846 := zS761.quiet zhc842
       refine step1 ?_
       refine yenv [(96, .int .i64 (q 50))] (ag_cons zh845 (ag_nil)) ?_
       have zS847 := zS846.loc
       refine Y.pureE_ (.bool ((q 50) != 0)) (.bool true) (congrArg Value.bool (zh814)) ?_
       exact ⟨zS847.ch, Sp.mk_holds [] (all_nil)⟩
     refine step_cons ?_ ?_
     · intro zy848 zw849 zhc850 zhf851 zhp852
       have zh853 : zy848 97 = .bool true := (Sp.out0 (zhp852 3 97 (by kernel_rfl) (by kernel_rfl))).1
       have zS854 := zS761.quiet zhc850
       refine step1 ?_
       refine yenv [(97, .bool true)] (ag_cons zh853 (ag_nil)) ?_
       have zS855 := zS854.loc
       refine Y.pure_ (.bool true) ?_
       exact ⟨zS855.ch, Sp.mk_holds [] (all_nil)⟩
     refine step_cons ?_ ?_
     · intro zy856 zw857 zhc858 zhf859 zhp860
       have zh861 : zy856 1 = .pointer (some ⟨zb1, 0, none⟩) := (zhf859 1 (by kernel_rfl)).trans (by kernel_rfl)
       have zh862 : zy856 98 = .bool true := (Sp.out0 (zhp860 4 98 (by kernel_rfl) (by kernel_rfl))).1
       have zS863 := zS761.quiet zhc858
       refine step_no (wY_f zh862) ?_
       exact Sp.mk_holds [] all_nil
     refine step_cons ?_ ?_
     · intro zy864 zw865 zhc866 zhf867 zhp868
       have zh869 : zy864 99 = undef := (Sp.out0 (zhp868 5 99 (by kernel_rfl) (by kernel_rfl))).1
       have zh870 : zy864 98 = .bool true := (Sp.out0 (zhp868 4 98 (by kernel_rfl) (by kernel_rfl))).1
       have zS871 := zS761.quiet zhc866
       refine step_no (wY_f zh870) ?_
       exact Sp.mk_holds [] all_nil
     refine step_cons ?_ ?_
     · intro zy872 zw873 zhc874 zhf875 zhp876
       have zh877 : zy872 98 = .bool true := (Sp.out0 (zhp876 4 98 (by kernel_rfl) (by kernel_rfl))).1
       have zS878 := zS761.quiet zhc874
       refine step_no (wY_f zh877) ?_
       exact Sp.mk_holds [] all_nil
     refine step_cons ?_ ?_
     · intro zy879 zw880 zhc881 zhf882 zhp883
       have zh884 : zy879 100 = undef := (Sp.out0 (zhp883 6 100 (by kernel_rfl) (by kernel_rfl))).1
       have zh885 : zy879 101 = undef := (Sp.out0 (zhp883 7 101 (by kernel_rfl) (by kernel_rfl))).1
       have zh886 : zy879 98 = .bool true := (Sp.out0 (zhp883 4 98 (by kernel_rfl) (by kernel_rfl))).1
       have zS887 := zS761.quiet zhc881
       refine step_no (wY_f zh886) ?_
       exact Sp.mk_holds [] all_nil
     refine step_cons ?_ ?_
     · intro zy888 zw889 zhc890 zhf891 zhp892
       have zh893 : zy888 102 = undef := (Sp.out0 (zhp892 8 102 (by kernel_rfl) (by kernel_rfl))).1
       have zh894 : zy888 98 = .bool true := (Sp.out0 (zhp892 4 98 (by kernel_rfl) (by kernel_rfl))).1
       have zS895 := zS761.quiet zhc890
       refine step_no (wY_f zh894) ?_
       exact Sp.mk_holds [] all_nil
     refine step_cons ?_ ?_
     · intro zy896 zw897 zhc898 zhf899 zhp900
       have zh901 : zy896 98 = .bool true := (Sp.out0 (zhp900 4 98 (by kernel_rfl) (by kernel_rfl))).1
       have zh902 : zy896 103 = undef := (Sp.out0 (zhp900 9 103 (by kernel_rfl) (by kernel_rfl))).1
       have zS903 := zS761.quiet zhc898
       refine step1 ?_
       refine yenv [(98, .bool true), (103, undef)] (ag_cons zh901 (ag_cons zh902 (ag_nil))) ?_
       have zS904 := zS903.loc
       refine Y.pure_ (.bool true) ?_
       exact ⟨zS904.ch, Sp.mk_holds [] (all_nil)⟩
     refine step_cons ?_ ?_
     · intro zy905 zw906 zhc907 zhf908 zhp909
       have zh910 : zy905 104 = .bool true := (Sp.out0 (zhp909 10 104 (by kernel_rfl) (by kernel_rfl))).1
       have zS911 := zS761.quiet zhc907
       refine step1 ?_
       refine yenv [(104, .bool true)] (ag_cons zh910 (ag_nil)) ?_
       have zS912 := zS911.loc
       refine Y.pure_ (.bool true) ?_
       exact ⟨zS912.ch, Sp.mk_holds [] (all_nil)⟩
     refine step_cons ?_ ?_
     · intro zy913 zw914 zhc915 zhf916 zhp917
       have zh918 : zy913 105 = .bool true := (Sp.out0 (zhp917 11 105 (by kernel_rfl) (by kernel_rfl))).1
       have zS919 := zS761.quiet zhc915
       refine step_no (wY_f zh918) ?_
       exact Sp.mk_holds [] all_nil
     refine step_cons ?_ ?_
     · intro zy920 zw921 zhc922 zhf923 zhp924
       have zh925 : zy920 1 = .pointer (some ⟨zb1, 0, none⟩) := (zhf923 1 (by kernel_rfl)).trans (by kernel_rfl)
       have zh926 : zy920 105 = .bool true := (Sp.out0 (zhp924 11 105 (by kernel_rfl) (by kernel_rfl))).1
       have zS927 := zS761.quiet zhc922
       refine step_no (wY_f zh926) ?_
       exact Sp.mk_holds [] all_nil
     refine step_cons ?_ ?_
     · intro zy928 zw929 zhc930 zhf931 zhp932
       have zh933 : zy928 107 = undef := (Sp.out0 (zhp932 13 107 (by kernel_rfl) (by kernel_rfl))).1
       have zh934 : zy928 105 = .bool true := (Sp.out0 (zhp932 11 105 (by kernel_rfl) (by kernel_rfl))).1
       have zS935 := zS761.quiet zhc930
       refine step_no (wY_f zh934) ?_
       exact Sp.mk_holds [] all_nil
     refine step_cons ?_ ?_
     · intro zy936 zw937 zhc938 zhf939 zhp940
       have zh941 : zy936 106 = undef := (Sp.out0 (zhp940 12 106 (by kernel_rfl) (by kernel_rfl))).1
       have zh942 : zy936 108 = undef := (Sp.out0 (zhp940 14 108 (by kernel_rfl) (by kernel_rfl))).1
       have zh943 : zy936 105 = .bool true := (Sp.out0 (zhp940 11 105 (by kernel_rfl) (by kernel_rfl))).1
       have zS944 := zS761.quiet zhc938
       refine step_no (wY_f zh943) ?_
       exact Sp.mk_holds [] all_nil
     refine step_cons ?_ ?_
     · intro zy945 zw946 zhc947 zhf948 zhp949
       have zh950 : zy945 109 = undef := (Sp.out0 (zhp949 15 109 (by kernel_rfl) (by kernel_rfl))).1
       have zh951 : zy945 105 = .bool true := (Sp.out0 (zhp949 11 105 (by kernel_rfl) (by kernel_rfl))).1
       have zS952 := zS761.quiet zhc947
       refine step_no (wY_f zh951) ?_
       exact Sp.mk_holds [] all_nil
     refine step_cons ?_ ?_
     · intro zy953 zw954 zhc955 zhf956 zhp957
       have zh958 : zy953 105 = .bool true := (Sp.out0 (zhp957 11 105 (by kernel_rfl) (by kernel_rfl))).1
       have zh959 : zy953 110 = undef := (Sp.out0 (zhp957 16 110 (by kernel_rfl) (by kernel_rfl))).1
       have zS960 := zS761.quiet zhc955
       refine step1 ?_
       refine yenv [(105, .bool true), (110, undef)] (ag_cons zh958 (ag_cons zh959 (ag_nil))) ?_
       have zS961 := zS960.loc
       refine Y.pure_ (.bool true) ?_
       exact ⟨zS961.ch, Sp.mk_holds [] (all_nil)⟩
     refine step_cons ?_ ?_
     · intro zy962 zw963 zhc964 zhf965 zhp966
       have zh967 : zy962 111 = .bool true := (Sp.out0 (zhp966 17 111 (by kernel_rfl) (by kernel_rfl))).1
       have zS968 := zS761.quiet zhc964
       refine step1 ?_
       refine yenv [(111, .bool true)] (ag_cons zh967 (ag_nil)) ?_
       have zS969 := zS968.loc
       refine Y.pure_ (.bool true) ?_
       exact ⟨zS969.ch, Sp.mk_holds [] (all_nil)⟩
     exact step_nil
   intro zv970 zw971 zhc972 zha973
   have zh974 : zv970 0 = .pointer (some ⟨zb1, 50, none⟩) := (Sp.out0 (zha973 0 (by kernel_rfl))).1
   have zh975 : zv970 1 = .pointer (some ⟨zb1, 50, none⟩) := (Sp.out0 (zha973 1 (by kernel_rfl))).1
   have zh976 : zv970 2 = .int .i64 (q 50) := (Sp.out0 (zha973 2 (by kernel_rfl))).1
   have zh977 : zv970 3 = .bool true := (Sp.out0 (zha973 3 (by kernel_rfl))).1
   have zh978 : zv970 4 = .bool true := (Sp.out0 (zha973 4 (by kernel_rfl))).1
   have zh979 : zv970 5 = undef := (Sp.out0 (zha973 5 (by kernel_rfl))).1
   have zh980 : zv970 6 = undef := (Sp.out0 (zha973 6 (by kernel_rfl))).1
   have zh981 : zv970 7 = undef := (Sp.out0 (zha973 7 (by kernel_rfl))).1
   have zh982 : zv970 8 = undef := (Sp.out0 (zha973 8 (by kernel_rfl))).1
   have zh983 : zv970 9 = undef := (Sp.out0 (zha973 9 (by kernel_rfl))).1
   have zh984 : zv970 10 = .bool true := (Sp.out0 (zha973 10 (by kernel_rfl))).1
   have zh985 : zv970 11 = .bool true := (Sp.out0 (zha973 11 (by kernel_rfl))).1
   have zh986 : zv970 12 = undef := (Sp.out0 (zha973 12 (by kernel_rfl))).1
   have zh987 : zv970 13 = undef := (Sp.out0 (zha973 13 (by kernel_rfl))).1
   have zh988 : zv970 14 = undef := (Sp.out0 (zha973 14 (by kernel_rfl))).1
   have zh989 : zv970 15 = undef := (Sp.out0 (zha973 15 (by kernel_rfl))).1
   have zh990 : zv970 16 = undef := (Sp.out0 (zha973 16 (by kernel_rfl))).1
   have zh991 : zv970 17 = .bool true := (Sp.out0 (zha973 17 (by kernel_rfl))).1
   have zh992 : zv970 18 = .bool true := (Sp.out0 (zha973 18 (by kernel_rfl))).1
   have zS993 := zS761.quiet zhc972
   refine ⟨[.pointer (some ⟨zb1, 50, none⟩), .pointer (some ⟨zb1, 50, none⟩), .int .i64 (q 50), .bool true, .bool true, undef, undef, undef, undef, undef, .bool true, .bool true, undef, undef, undef, undef, undef, .bool true, .bool true], by kernel_rfl, va_cons zh974 (va_cons zh975 (va_cons zh976 (va_cons zh977 (va_cons zh978 (va_cons zh979 (va_cons zh980 (va_cons zh981 (va_cons zh982 (va_cons zh983 (va_cons zh984 (va_cons zh985 (va_cons zh986 (va_cons zh987 (va_cons zh988 (va_cons zh989 (va_cons zh990 (va_cons zh991 (va_cons zh992 (va_nil))))))))))))))))))), ?_⟩
   refine nil_ (then_n (cond_T ?_))
   refine seq_ (reg_ ?_)
   refine pure_ (.int .i64 49) ?_
   refine nil_ (then_n (wp_ret (blk_r (then_r ?_))))
   refine ret_ rfl (res_ [.tmp 2] [.int .i64 49] (.int .i64 49) ⟨res_tmp, trivial⟩) ?_
   exact ⟨congrArg _ (by simp [polCode, zh9, zh10, zh16, zh17, zh23, zh24, zh27, zh31, zh38, zh39, zh45, zh46, zh92, zh93, zh191, zh192, zh309, zh310, zh519, zh520, zh683, zh684, zh764, zh765, zh814, zh28, zh32, zh815]), zS993.ch⟩
 intro zh994
 have zh995 := neF' zh994
 refine split_b (!(allI 0 1000 [(q 51), (q 52), (q 53)])) ?_ ?_
 · intro zh1117
   have zh1118 := notT' zh1117
   refine drawnL_ 19 [⟨0, fun _ => .pointer (some ⟨zb1, 50, none⟩), fun _ => []⟩, ⟨0, fun _ => .pointer (some ⟨zb1, 50, none⟩), fun _ => []⟩, ⟨0, fun _ => .int .i64 (q 50), fun _ => []⟩, ⟨0, fun _ => .bool false, fun _ => []⟩, ⟨0, fun _ => .bool false, fun _ => []⟩, ⟨0, fun _ => .pointer (some ⟨zb1, 50, none⟩), fun _ => []⟩, ⟨0, fun _ => .slice (some ⟨zb1, 51, none⟩) 3 3, fun _ => []⟩, ⟨2, fun ids => .func (.func 84) #[] #[.pointer (some ⟨(ids.getD 0 0), 0, none⟩), .pointer (some ⟨(ids.getD 1 0), 0, none⟩)], fun ids => [((ids.getD 0 0), .cells #[.int .i64 0] 3 (0, 0)), ((ids.getD 1 0), .cells #[.int .i64 1000] 3 (0, 0))]⟩, ⟨0, fun _ => .bool (allI 0 1000 [(q 51), (q 52), (q 53)]), fun _ => []⟩, ⟨0, fun _ => .bool true, fun _ => []⟩, ⟨0, fun _ => .bool true, fun _ => []⟩, ⟨0, fun _ => .bool true, fun _ => []⟩, ⟨0, fun _ => undef, fun _ => []⟩, ⟨0, fun _ => undef, fun _ => []⟩, ⟨0, fun _ => undef, fun _ => []⟩, ⟨0, fun _ => undef, fun _ => []⟩, ⟨0, fun _ => undef, fun _ => []⟩, ⟨0, fun _ => .bool true, fun _ => []⟩, ⟨0, fun _ => .bool true, fun _ => []⟩] [] ?_ ?_
   · refine step_cons ?_ ?_
     · intro zy1119 zw1120 zhc1121 zhf1122 zhp1123
       have zh1124 : zy1119 1 = .pointer (some ⟨zb1, 0, none⟩) := (zhf1122 1 (by kernel_rfl)).trans (by kernel_rfl)
       have zS1125 := zS761.quiet zhc1121
       refine step1 ?_
       refine yenv [(1, .pointer (some ⟨zb1, 0, none⟩))] (ag_cons zh1124 (ag_nil)) ?_
       have zS1126 := zS1125.loc
       refine Y.pure_ (.pointer (some ⟨zb1, 50, none⟩)) ?_
       exact ⟨zS1126.ch, Sp.mk_holds [] (all_nil)⟩
     refine step_cons ?_ ?_
     · intro zy1127 zw1128 zhc1129 zhf1130 zhp1131
       have zh1132 : zy1127 94 = .pointer (some ⟨zb1, 50, none⟩) := (Sp.out0 (zhp1131 0 94 (by kernel_rfl) (by kernel_rfl))).1
       have zS1133 := zS761.quiet zhc1129
       refine step1 ?_
       refine yenv [(94, .pointer (some ⟨zb1, 50, none⟩))] (ag_cons zh1132 (ag_nil)) ?_
       have zS1134 := zS1133.loc
       refine Y.pure_ (.pointer (some ⟨zb1, 50, none⟩)) ?_
       exact ⟨zS1134.ch, Sp.mk_holds [] (all_nil)⟩
     refine step_cons ?_ ?_
     · intro zy1135 zw1136 zhc1137 zhf1138 zhp1139
       have zh1140 : zy1135 95 = .pointer (some ⟨zb1, 50, none⟩) := (Sp.out0 (zhp1139 1 95 (by kernel_rfl) (by kernel_rfl))).1
       have zS1141 := zS761.quiet zhc1137
       refine step1 ?_
       refine yenv [(95, .pointer (some ⟨zb1, 50, none⟩))] (ag_cons zh1140 (ag_nil)) ?_
       have zS1142 := zS1141.loc
       refine Y.load1_ zS1142 15 (.int .i64 (q 50)) zb1 50 ?_
       exact ⟨zS1142.ch, Sp.mk_holds [] (all_nil)⟩
     refine step_cons ?_ ?_
     · intro zy1143 zw1144 zhc1145 zhf1146 zhp1147
       have zh1148 : zy1143 96 = .int .i64 (q 50) := (Sp.out0 (zhp1147 2 96 (by kernel_rfl) (by kernel_rfl))).1
       have zS1149 := zS761.quiet zhc1145
       refine step1 ?_
       refine yenv [(96, .int .i64 (q 50))] (ag_cons zh1148 (ag_nil)) ?_
       have zS1150 := zS1149.loc
       refine Y.pureE_ (.bool ((q 50) != 0)) (.bool false) (congrArg Value.bool (zh994)) ?_
       exact ⟨zS1150.ch, Sp.mk_holds [] (all_nil)⟩
     refine step_cons ?_ ?_
     · intro zy1151 zw1152 zhc1153 zhf1154 zhp1155
       have zh1156 : zy1151 97 = .bool false := (Sp.out0 (zhp1155 3 97 (by kernel_rfl) (by kernel_rfl))).1
       have zS1157 := zS761.quiet zhc1153
       refine step1 ?_
       refine yenv [(97, .bool false)] (ag_cons zh1156 (ag_nil)) ?_
       have zS1158 := zS1157.loc
       refine Y.pure_ (.bool false) ?_
       exact ⟨zS1158.ch, Sp.mk_holds [] (all_nil)⟩
     refine step_cons ?_ ?_
     · intro zy1159 zw1160 zhc1161 zhf1162 zhp1163
       have zh1164 : zy1159 1 = .pointer (some ⟨zb1, 0, none⟩) := (zhf1162 1 (by kernel_rfl)).trans (by kernel_rfl)
       have zh1165 : zy1159 98 = .bool false := (Sp.out0 (zhp1163 4 98 (by kernel_rfl) (by kernel_rfl))).1
       have zS1166 := zS761.quiet zhc1161
       refine step_yes (wY_t zh1165) ?_
       refine yenv [(1, .pointer (some ⟨zb1, 0, none⟩))] (ag_cons zh1164 (ag_nil)) ?_
       have zS1167 := zS1166.loc
       refine Y.pure_ (.pointer (some ⟨zb1, 50, none⟩)) ?_
       exact ⟨zS1167.ch, Sp.mk_holds [] (all_nil)⟩
     refine step_cons ?_ ?_
     · intro zy1168 zw1169 zhc1170 zhf1171 zhp1172
       have zh1173 : zy1168 99 = .pointer (some ⟨zb1, 50, none⟩) := (Sp.out0 (zhp1172 5 99 (by kernel_rfl) (by kernel_rfl))).1
       have zh1174 : zy1168 98 = .bool false := (Sp.out0 (zhp1172 4 98 (by kernel_rfl) (by kernel_rfl))).1
       have zS1175 := zS761.quiet zhc1170
       refine step_yes (wY_t zh1174) ?_
       refine yenv [(99, .pointer (some ⟨zb1, 50, none⟩))] (ag_cons zh1173 (ag_nil)) ?_
       have zS1176 := zS1175.loc
       refine Y.pure_ (.slice (some ⟨zb1, 51, none⟩) 3 3) ?_
       exact ⟨zS1176.ch, Sp.mk_holds [] (all_nil)⟩
     refine step_cons ?_ ?_
     · intro zy1177 zw1178 zhc1179 zhf1180 zhp1181
       have zh1182 : zy1177 98 = .bool false := (Sp.out0 (zhp1181 4 98 (by kernel_rfl) (by kernel_rfl))).1
       have zS1183 := zS761.quiet zhc1179
       refine step_yes (wY_t zh1182) ?_
       refine yenv [] (ag_nil) ?_
       have zS1184 := zS1183.loc
       refine Y.call_ 62 #[.int .i64 0, .int .i64 1000] ?_
       refine enter_ Tryz.func62 rfl ?_
       refine seq_ (reg_ ?_)
       refine new_ zS1184 (fun b => .pointer (some ⟨b, 0, none⟩)) (.cells #[.int .i64 0] 3) ?_
       intro zb1185 zw1186 zS1187
       refine new_ zS1187 (fun b => .pointer (some ⟨b, 0, none⟩)) (.cells #[.int .i64 1000] 3) ?_
       intro zb1188 zw1189 zS1190
       refine pure_ (.nilFunc) ?_
       refine nil_ (then_n (seq_ (reg_ ?_)))
       refine pure_ (.func (.func 84) #[] #[.pointer (some ⟨zb1185, 0, none⟩), .pointer (some ⟨zb1188, 0, none⟩)]) ?_
       refine assign_ ?_
       refine nil_ (then_n (wp_ret ?_))
       refine ret_ rfl (res_ [.tmp 4] [.func (.func 84) #[] #[.pointer (some ⟨zb1185, 0, none⟩), .pointer (some ⟨zb1188, 0, none⟩)]] (.func (.func 84) #[] #[.pointer (some ⟨zb1185, 0, none⟩), .pointer (some ⟨zb1188, 0, none⟩)]) ⟨res_tmp, trivial⟩) ?_
       exact ⟨zS1190.ch, Sp.mk_holds [zb1185, zb1188] (all_cons (zS1190.isNew zhc1179.size 1 (by kernel_rfl)) (all_cons (zS1190.isNew zhc1179.size 0 (by kernel_rfl)) (all_nil)))⟩
     refine step_cons ?_ ?_
     · intro zy1191 zw1192 zhc1193 zhf1194 zhp1195
       have zh1196 : zy1191 100 = .slice (some ⟨zb1, 51, none⟩) 3 3 := (Sp.out0 (zhp1195 6 100 (by kernel_rfl) (by kernel_rfl))).1
       obtain ⟨zb1198, zb1199, zh1197', zg1200'⟩ := Sp.out2 (zhp1195 7 101 (by kernel_rfl) (by kernel_rfl))
       have zh1197 : zy1191 101 = .func (.func 84) #[] #[.pointer (some ⟨zb1198, 0, none⟩), .pointer (some ⟨zb1199, 0, none⟩)] := zh1197'
       have zg1200 : ∀ p ∈ ([(zb1198, .cells #[.int .i64 0] 3 (0, 0)), (zb1199, .cells #[.int .i64 1000] 3 (0, 0))] : List (Nat × Obj)), zw759.heap.size ≤ p.1 ∧ zw1192.heap[p.1]? = some p.2 := zg1200'
       have zh1201 : zy1191 98 = .bool false := (Sp.out0 (zhp1195 4 98 (by kernel_rfl) (by kernel_rfl))).1
       have zS1202 := zS761.ro zhc1193 ([(zb1198, .cells #[.int .i64 0] 3 (0, 0)), (zb1199, .cells #[.int .i64 1000] 3 (0, 0))]) (zg1200)
       refine step_yes (wY_t zh1201) ?_
       refine yenv [(100, .slice (some ⟨zb1, 51, none⟩) 3 3), (101, .func (.func 84) #[] #[.pointer (some ⟨zb1198, 0, none⟩), .pointer (some ⟨zb1199, 0, none⟩)])] (ag_cons zh1196 (ag_cons zh1197 (ag_nil))) ?_
       have zS1203 := zS1202.loc
       refine Y.call_ 58 #[.slice (some ⟨zb1, 51, none⟩) 3 3, .func (.func 84) #[] #[.pointer (some ⟨zb1198, 0, none⟩), .pointer (some ⟨zb1199, 0, none⟩)]] ?_
       refine (all_p51_3 0 1000 q ka kn kc zb1 zb1198 zb1199 _ (zS1203.ob 17 false 28) (zS1203.ob 0 false 3) (zS1203.ob 1 false 3)).mono ?_; rintro _ zw1204 ⟨rfl, zhc1205⟩
       have zS1206 := zS1203.quiet zhc1205
       exact ⟨zS1206.ch, Sp.mk_holds [] (all_nil)⟩
     refine step_cons ?_ ?_
     · intro zy1207 zw1208 zhc1209 zhf1210 zhp1211
       have zh1212 : zy1207 102 = .bool (allI 0 1000 [(q 51), (q 52), (q 53)]) := (Sp.out0 (zhp1211 8 102 (by kernel_rfl) (by kernel_rfl))).1
       have zh1213 : zy1207 102 = .bool false := zh1212.trans (congrArg Value.bool (zh1118))
       have zh1214 : zy1207 98 = .bool false := (Sp.out0 (zhp1211 4 98 (by kernel_rfl) (by kernel_rfl))).1
       have zS1215 := zS761.quiet zhc1209
       refine step_yes (wY_t zh1214) ?_
       refine yenv [(102, .bool false)] (ag_cons zh1213 (ag_nil)) ?_
       have zS1216 := zS1215.loc
       refine Y.pure_ (.bool true) ?_
       exact ⟨zS1216.ch, Sp.mk_holds [] (all_nil)⟩
     refine step_cons ?_ ?_
     · intro zy1217 zw1218 zhc1219 zhf1220 zhp1221
       have zh1222 : zy1217 98 = .bool false := (Sp.out0 (zhp1221 4 98 (by kernel_rfl) (by kernel_rfl))).1
       have zh1223 : zy1217 103 = .bool true := (Sp.out0 (zhp1221 9 103 (by kernel_rfl) (by kernel_rfl))).1
       have zS1224 := zS761.quiet zhc1219
       refine step1 ?_
       refine yenv [(98, .bool false), (103, .bool true)] (ag_cons zh1222 (ag_cons zh1223 (ag_nil))) ?_
       have zS1225 := zS1224.loc
       refine Y.pure_ (.bool true) ?_
       exact ⟨zS1225.ch, Sp.mk_holds [] (all_nil)⟩
     refine step_cons ?_ ?_
     · intro zy1226 zw1227 zhc1228 zhf1229 zhp1230
       have zh1231 : zy1226 104 = .bool true := (Sp.out0 (zhp1230 10 104 (by kernel_rfl) (by kernel_rfl))).1
       have zS1232 := zS761.quiet zhc1228
       refine step1 ?_
       refine yenv [(104, .bool true)] (ag_cons zh1231 (ag_nil)) ?_
       have zS1233 := zS1232.loc
       refine Y.pure_ (.bool true) ?_
       exact ⟨zS1233.ch, Sp.mk_holds [] (all_nil)⟩
     refine step_cons ?_ ?_
     · intro zy1234 zw1235 zhc1236 zhf1237 zhp1238
       have zh1239 : zy1234 105 = .bool true := (Sp.out0 (zhp1238 11 105 (by kernel_rfl) (by kernel_rfl))).1
       have zS1240 := zS761.quiet zhc1236
       refine step_no (wY_f zh1239) ?_
       exact Sp.mk_holds [] all_nil
     refine step_cons ?_ ?_
     · intro zy1241 zw1242 zhc1243 zhf1244 zhp1245
       have zh1246 : zy1241 1 = .pointer (some ⟨zb1, 0, none⟩) := (zhf1244 1 (by kernel_rfl)).trans (by kernel_rfl)
       have zh1247 : zy1241 105 = .bool true := (Sp.out0 (zhp1245 11 105 (by kernel_rfl) (by kernel_rfl))).1
       have zS1248 := zS761.quiet zhc1243
       refine step_no (wY_f zh1247) ?_
       exact Sp.mk_holds [] all_nil
     refine step_cons ?_ ?_
     · intro zy1249 zw1250 zhc1251 zhf1252 zhp1253
       have zh1254 : zy1249 107 = undef := (Sp.out0 (zhp1253 13 107 (by kernel_rfl) (by kernel_rfl))).1
       have zh1255 : zy1249 105 = .bool true := (Sp.out0 (zhp1253 11 105 (by kernel_rfl) (by kernel_rfl))).1
       have zS1256 := zS761.quiet zhc1251
       refine step_no (wY_f zh1255) ?_
       exact Sp.mk_holds [] all_nil
     refine step_cons ?_ ?_
     · intro zy1257 zw1258 zhc1259 zhf1260 zhp1261
       have zh1262 : zy1257 106 = undef := (Sp.out0 (zhp1261 12 106 (by kernel_rfl) (by kernel_rfl))).1
       have zh1263 : zy1257 108 = undef := (Sp.out0 (zhp1261 14 108 (by kernel_rfl) (by kernel_rfl))).1
       have zh1264 : zy1257 105 = .bool true := (Sp.out0 (zhp1261 11 105 (by kernel_rfl) (by kernel_rfl))).1
       have zS1265 := zS761.quiet zhc1259
       refine step_no (wY_f zh1264) ?_
       exact Sp.mk_holds [] all_nil
     refine step_cons ?_ ?_
     · intro zy1266 zw1267 zhc1268 zhf1269 zhp1270
       have zh1271 : zy1266 109 = undef := (Sp.out0 (zhp1270 15 109 (by kernel_rfl) (by kernel_rfl))).1
       have zh1272 : zy1266 105 = .bool true := (Sp.out0 (zhp1270 11 105 (by kernel_rfl) (by kernel_rfl))).1
       have zS1273 := zS761.quiet zhc1268
       refine step_no (wY_f zh1272) ?_
       exact Sp.mk_holds [] all_nil
     refine step_cons ?_ ?_
     · intro zy1274 zw1275 zhc1276 zhf1277 zhp1278
       have zh1279 : zy1274 105 = .bool true := (Sp.out0 (zhp1278 11 105 (by kernel_rfl) (by kernel_rfl))).1
       have zh1280 : zy1274 110 = undef := (Sp.out0 (zhp1278 16 110 (by kernel_rfl) (by kernel_rfl))).1
       have zS1281 := zS761.quiet zhc1276
       refine step1 ?_
       refine yenv [(105, .bool true), (110, undef)] (ag_cons zh1279 (ag_cons zh1280 (ag_nil))) ?_
       have zS1282 := zS1281.loc
       refine Y.pure_ (.bool true) ?_
       exact ⟨zS1282.ch, Sp.mk_holds [] (all_nil)⟩
     refine step_cons ?_ ?_
     · intro zy1283 zw1284 zhc1285 zhf1286 zhp1287
       have zh1288 : zy1283 111 = .bool true := (Sp.out0 (zhp1287 17 111 (by kernel_rfl) (by kernel_rfl))).1
       have zS1289 := zS761.quiet zhc1285
       refine step1 ?_
       refine yenv [(111, .bool true)] (ag_cons zh1288 (ag_nil)) ?_
       have zS1290 := zS1289.loc
       refine Y.pure_ (.bool true) ?_
       exact ⟨zS1290.ch, Sp.mk_holds [] (all_nil)⟩
     exact step_nil
   intro zv1291 zw1292 zhc1293 zha1294
   have zh1295 : zv1291 0 = .pointer (some ⟨zb1, 50, none⟩) := (Sp.out0 (zha1294 0 (by kernel_rfl))).1
   have zh1296 : zv1291 1 = .pointer (some ⟨zb1, 50, none⟩) := (Sp.out0 (zha1294 1 (by kernel_rfl))).1
   have zh1297 : zv1291 2 = .int .i64 (q 50) := (Sp.out0 (zha1294 2 (by kernel_rfl))).1
   have zh1298 : zv1291 3 = .bool false := (Sp.out0 (zha1294 3 (by kernel_rfl))).1
   have zh1299 : zv1291 4 = .bool false := (Sp.out0 (zha1294 4 (by kernel_rfl))).1
   have zh1300 : zv1291 5 = .pointer (some ⟨zb1, 50, none⟩) := (Sp.out0 (zha1294 5 (by kernel_rfl))).1
   have zh1301 : zv1291 6 = .slice (some ⟨zb1, 51, none⟩) 3 3 := (Sp.out0 (zha1294 6 (by kernel_rfl))).1
   obtain ⟨zb1303, zb1304, zh1302', zg1305'⟩ := Sp.out2 (zha1294 7 (by kernel_rfl))
   have zh1302 : zv1291 7 = .func (.func 84) #[] #[.pointer (some ⟨zb1303, 0, none⟩), .pointer (some ⟨zb1304, 0, none⟩)] := zh1302'
   have zg1305 : ∀ p ∈ ([(zb1303, .cells #[.int .i64 0] 3 (0, 0)), (zb1304, .cells #[.int .i64 1000] 3 (0, 0))] : List (Nat × Obj)), zw759.heap.size ≤ p.1 ∧ zw1292.heap[p.1]? = some p.2 := zg1305'
   have zh1306 : zv1291 8 = .bool (allI 0 1000 [(q 51), (q 52), (q 53)]) := (Sp.out0 (zha1294 8 (by kernel_rfl))).1
   have zh1307 : zv1291 9 = .bool true := (Sp.out0 (zha1294 9 (by kernel_rfl))).1
   have zh1308 : zv1291 10 = .bool true := (Sp.out0 (zha1294 10 (by kernel_rfl))).1
   have zh1309 : zv1291 11 = .bool true := (Sp.out0 (zha1294 11 (by kernel_rfl))).1
   have zh1310 : zv1291 12 = undef := (Sp.out0 (zha1294 12 (by kernel_rfl))).1
   have zh1311 : zv1291 13 = undef := (Sp.out0 (zha1294 13 (by kernel_rfl))).1
   have zh1312 : zv1291 14 = undef := (Sp.out0 (zha1294 14 (by kernel_rfl))).1
   have zh1313 : zv1291 15 = undef := (Sp.out0 (zha1294 15 (by kernel_rfl))).1
   have zh1314 : zv1291 16 = undef := (Sp.out0 (zha1294 16 (by kernel_rfl))).1
   have zh1315 : zv1291 17 = .bool true := (Sp.out0 (zha1294 17 (by kernel_rfl))).1
   have zh1316 : zv1291 18 = .bool true := (Sp.out0 (zha1294 18 (by kernel_rfl))).1
   have zS1317 := zS761.ro zhc1293 ([(zb1303, .cells #[.int .i64 0] 3 (0, 0)), (zb1304, .cells #[.int .i64 1000] 3 (0, 0))]) (zg1305)
   refine ⟨[.pointer (some ⟨zb1, 50, none⟩), .pointer (some ⟨zb1, 50, none⟩), .int .i64 (q 50), .bool false, .bool false, .pointer (some ⟨zb1, 50, none⟩), .slice (some ⟨zb1, 51, none⟩) 3 3, .func (.func 84) #[] #[.pointer (some ⟨zb1303, 0, none⟩), .pointer (some ⟨zb1304, 0, none⟩)], .bool (allI 0 1000 [(q 51), (q 52), (q 53)]), .bool true, .bool true, .bool true, undef, undef, undef, undef, undef, .bool true, .bool true], by kernel_rfl, va_cons zh1295 (va_cons zh1296 (va_cons zh1297 (va_cons zh1298 (va_cons zh1299 (va_cons zh1300 (va_cons zh1301 (va_cons zh1302 (va_cons zh1306 (va_cons zh1307 (va_cons zh1308 (va_cons zh1309 (va_cons zh1310 (va_cons zh1311 (va_cons zh1312 (va_cons zh1313 (va_cons zh1314 (va_cons zh1315 (va_cons zh1316 (va_nil))))))))))))))))))), ?_⟩
   refine nil_ (then_n (cond_T ?_))
   refine seq_ (reg_ ?_)
   refine pure_ (.int .i64 49) ?_
   refine nil_ (then_n (wp_ret (blk_r (then_r ?_))))
   refine ret_ rfl (res_ [.tmp 2] [.int .i64 49] (.int .i64 49) ⟨res_tmp, trivial⟩) ?_
   exact ⟨congrArg _ (by simp [polCode, zh9, zh10, zh16, zh17, zh23, zh24, zh27, zh31, zh38, zh39, zh45, zh46, zh92, zh93, zh191, zh192, zh309, zh310, zh519, zh520, zh683, zh684, zh764, zh765, zh994, zh1117, zh1118, zh28, zh32, zh995]), zS1317.ch⟩
 intro zh1318
 have zh1319 := notF' zh1318
 refine drawnL_ 19 [⟨0, fun _ => .pointer (some ⟨zb1, 50, none⟩), fun _ => []⟩, ⟨0, fun _ => .pointer (some ⟨zb1, 50, none⟩), fun _ => []⟩, ⟨0, fun _ => .int .i64 (q 50), fun _ => []⟩, ⟨0, fun _ => .bool false, fun _ => []⟩, ⟨0, fun _ => .bool false, fun _ => []⟩, ⟨0, fun _ => .pointer (some ⟨zb1, 50, none⟩), fun _ => []⟩, ⟨0, fun _ => .slice (some ⟨zb1, 51, none⟩) 3 3, fun _ => []⟩, ⟨2, fun ids => .func (.func 84) #[] #[.pointer (some ⟨(ids.getD 0 0), 0, none⟩), .pointer (some ⟨(ids.getD 1 0), 0, none⟩)], fun ids => [((ids.getD 0 0), .cells #[.int .i64 0] 3 (0, 0)), ((ids.getD 1 0), .cells #[.int .i64 1000] 3 (0, 0))]⟩, ⟨0, fun _ => .bool (allI 0 1000 [(q 51), (q 52), (q 53)]), fun _ => []⟩, ⟨0, fun _ => .bool false, fun _ => []⟩, ⟨0, fun _ => .bool false, fun _ => []⟩, ⟨0, fun _ => .bool false, fun _ => []⟩, ⟨2, fun ids => .func (.func 84) #[] #[.pointer (some ⟨(ids.getD 0 0), 0, none⟩), .pointer (some ⟨(ids.getD 1 0), 0, none⟩)], fun ids => [((ids.getD 0 0), .cells #[.int .i64 1] 3 (0, 0)), ((ids.getD 1 0), .cells #[.int .i64 1000] 3 (0, 0))]⟩, ⟨0, fun _ => .pointer (some ⟨zb1, 54, none⟩), fun _ => []⟩, ⟨0, fun _ => .int .i64 (q 54), fun _ => []⟩, ⟨0, fun _ => .bool (inB 1 1000 (q 54)), fun _ => []⟩, ⟨0, fun _ => .bool (!(inB 1 1000 (q 54))), fun _ => []⟩, ⟨0, fun _ => .bool (!(inB 1 1000 (q 54))), fun _ => []⟩, ⟨0, fun _ => .bool (!(inB 1 1000 (q 54))), fun _ => []⟩] [] ?_ ?_
 · refine step_cons ?_ ?_
   · intro zy1320 zw1321 zhc1322 zhf1323 zhp1324
     have zh1325 : zy1320 1 = .pointer (some ⟨zb1, 0, none⟩) := (zhf1323 1 (by kernel_rfl)).trans (by kernel_rfl)
     have zS1326 := zS761.quiet zhc1322
     refine step1 ?_
     refine yenv [(1, .pointer (some ⟨zb1, 0, none⟩))] (ag_cons zh1325 (ag_nil)) ?_
     have zS1327 := zS1326.loc
     refine Y.pure_ (.pointer (some ⟨zb1, 50, none⟩)) ?_
     exact ⟨zS1327.ch, Sp.mk_holds [] (all_nil)⟩
   refine step_cons ?_ ?_
   · intro zy1328 zw1329 zhc1330 zhf1331 zhp1332
     have zh1333 : zy1328 94 = .pointer (some ⟨zb1, 50, none⟩) := (Sp.out0 (zhp1332 0 94 (by kernel_rfl) (by kernel_rfl))).1
     have zS1334 := zS761.quiet zhc1330
     refine step1 ?_
     refine yenv [(94, .pointer (some ⟨zb1, 50, none⟩))] (ag_cons zh1333 (ag_nil)) ?_
     have zS1335 := zS1334.loc
     refine Y.pure_ (.pointer (some ⟨zb1, 50, none⟩)) ?_
     exact ⟨zS1335.ch, Sp.mk_holds [] (all_nil)⟩
   refine step_cons ?_ ?_
   · intro zy1336 zw1337 zhc1338 zhf1339 zhp1340
     have zh1341 : zy1336 95 = .pointer (some ⟨zb1, 50, none⟩) := (Sp.out0 (zhp1340 1 95 (by kernel_rfl) (by kernel_rfl))).1
     have zS1342 := zS761.quiet zhc1338
     refine step1 ?_
     refine yenv [(95, .pointer (some ⟨zb1, 50, none⟩))] (ag_cons zh1341 (ag_nil)) ?_
     have zS1343 := zS1342.loc
     refine Y.load1_ zS1343 15 (.int .i64 (q 50)) zb1 50 ?_
     exact ⟨zS1343.ch, Sp.mk_holds [] (all_nil)⟩
   refine step_cons ?_ ?_
   · intro zy1344 zw1345 zhc1346 zhf1347 zhp1348
     have zh1349 : zy1344 96 = .int .i64 (q 50) := (Sp.out0 (zhp1348 2 96 (by kernel_rfl) (by kernel_rfl))).1
     have zS1350 := zS761.quiet zhc1346
     refine step1 ?_
     refine yenv [(96, .int .i64 (q 50))] (ag_cons zh1349 (ag_nil)) ?_
     have zS1351 := zS1350.loc
     refine Y.pureE_ (.bool ((q 50) != 0)) (.bool false) (congrArg Value.bool (zh994)) ?_
     exact ⟨zS1351.ch, Sp.mk_holds [] (all_nil)⟩
   refine step_cons ?_ ?_
   · intro zy1352 zw1353 zhc1354 zhf1355 zhp1356
     have zh1357 : zy1352 97 = .bool false := (Sp.out0 (zhp1356 3 97 (by kernel_rfl) (by kernel_rfl))).1
     have zS1358 := zS761.quiet zhc1354
     refine step1 ?_
     refine yenv [(97, .bool false)] (ag_cons zh1357 (ag_nil)) ?_
     have zS1359 := zS1358.loc
     refine Y.pure_ (.bool false) ?_
     exact ⟨zS1359.ch, Sp.mk_holds [] (all_nil)⟩
   refine step_cons ?_ ?_
   · intro zy1360 zw1361 zhc1362 zhf1363 zhp1364
     have zh1365 : zy1360 1 = .pointer (some ⟨zb1, 0, none⟩) := (zhf1363 1 (by kernel_rfl)).trans (by kernel_rfl)
     have zh1366 : zy1360 98 = .bool false := (Sp.out0 (zhp1364 4 98 (by kernel_rfl) (by kernel_rfl))).1
     have zS1367 := zS761.quiet zhc1362
     refine step_yes (wY_t zh1366) ?_
     refine yenv [(1, .pointer (some ⟨zb1, 0, none⟩))] (ag_cons zh1365 (ag_nil)) ?_
     have zS1368 := zS1367.loc
     refine Y.pure_ (.pointer (some ⟨zb1, 50, none⟩)) ?_
     exact ⟨zS1368.ch, Sp.mk_holds [] (all_nil)⟩
   refine step_cons ?_ ?_
   · intro zy1369 zw1370 zhc1371 zhf1372 zhp1373
     have zh1374 : zy1369 99 = .pointer (some ⟨zb1, 50, none⟩) := (Sp.out0 (zhp1373 5 99 (by kernel_rfl) (by kernel_rfl))).1
     have zh1375 : zy1369 98 = .bool false := (Sp.out0 (zhp1373 4 98 (by kernel_rfl) (by kernel_rfl))).1
     have zS1376 := zS761.quiet zhc1371
     refine step_yes (wY_t zh1375) ?_
     refine yenv [(99, .pointer (some ⟨zb1, 50, none⟩))] (ag_cons zh1374 (ag_nil)) ?_
     have zS1377 := zS1376.loc
     refine Y.pure_ (.slice (some ⟨zb1, 51, none⟩) 3 3) ?_
     exact ⟨zS1377.ch, Sp.mk_holds [] (all_nil)⟩
   refine step_cons ?_ ?_
   · intro zy1378 zw1379 zhc1380 zhf1381 zhp1382
     have zh1383 : zy1378 98 = .bool false := (Sp.out0 (zhp1382 4 98 (by kernel_rfl) (by kernel_rfl))).1
     have zS1384 := zS761.quiet zhc1380
     refine step_yes (wY_t zh1383) ?_
     refine yenv [] (ag_nil) ?_
     have zS1385 := zS1384.loc
     refine Y.call_ 62 #[.int .i64 0, .int .i64 1000] ?_
     refine enter_ Tryz.func62 rfl ?_
     refine seq_ (reg_ ?_)
     refine new_ zS1385 (fun b => .pointer (some ⟨b, 0, none⟩)) (.cells #[.int .i64 0] 3) ?_
     intro zb1386 zw1387 zS1388
     refine new_ zS1388 (fun b => .pointer (some ⟨b, 0, none⟩)) (.cells #[.int .i64 1000] 3) ?_
     intro zb1389 zw1390 zS1391
     refine pure_ (.nilFunc) ?_
     refine nil_ (then_n (seq_ (reg_ ?_)))
     refine pure_ (.func (.func 84) #[] #[.pointer (some ⟨zb1386, 0, none⟩), .pointer (some ⟨zb1389, 0, none⟩)]) ?_
     refine assign_ ?_
     refine nil_ (then_n (wp_ret ?_))
     refine ret_ rfl (res_ [.tmp 4] [.func (.func 84) #[] #[.pointer (some ⟨zb1386, 0, none⟩), .pointer (some ⟨zb1389, 0, none⟩)]] (.func (.func 84) #[] #[.pointer (some ⟨zb1386, 0, none⟩), .pointer (some ⟨zb1389, 0, none⟩)]) ⟨res_tmp, trivial⟩) ?_
     exact ⟨zS1391.ch, Sp.mk_holds [zb1386, zb1389] (all_cons (zS1391.isNew zhc1380.size 1 (by kernel_rfl)) (all_cons (zS1391.isNew zhc1380.size 0 (by kernel_rfl)) (all_nil)))⟩
   refine step_cons ?_ ?_
   · intro zy1392 zw1393 zhc1394 zhf1395 zhp1396
     have zh1397 : zy1392 100 = .slice (some ⟨zb1, 51, none⟩) 3 3 := (Sp.out0 (zhp1396 6 100 (by kernel_rfl) (by kernel_rfl))).1
     obtain ⟨zb1399, zb1400, zh1398', zg1401'⟩ := Sp.out2 (zhp1396 7 101 (by kernel_rfl) (by kernel_rfl))
     have zh1398 : zy1392 101 = .func (.func 84) #[] #[.pointer (some ⟨zb1399, 0, none⟩), .pointer (some ⟨zb1400, 0, none⟩)] := zh1398'
     have zg1401 : ∀ p ∈ ([(zb1399, .cells #[.int .i64 0] 3 (0, 0)), (zb1400, .cells #[.int .i64 1000] 3 (0, 0))] : List (Nat × Obj)), zw759.heap.size ≤ p.1 ∧ zw1393.heap[p.1]? = some p.2 := zg1401'
     have zh1402 : zy1392 98 = .bool false := (Sp.out0 (zhp1396 4 98 (by kernel_rfl) (by kernel_rfl))).1
     have zS1403 := zS761.ro zhc1394 ([(zb1399, .cells #[.int .i64 0] 3 (0, 0)), (zb1400, .cells #[.int .i64 1000] 3 (0, 0))]) (zg1401)
     refine step_yes (wY_t zh1402) ?_
     refine yenv [(100, .slice (some ⟨zb1, 51, none⟩) 3 3), (101, .func (.func 84) #[] #[.pointer (some ⟨zb1399, 0, none⟩), .pointer (some ⟨zb1400, 0, none⟩)])] (ag_cons zh1397 (ag_cons zh1398 (ag_nil))) ?_
     have zS1404 := zS1403.loc
     refine Y.call_ 58 #[.slice (some ⟨zb1, 51, none⟩) 3 3, .func (.func 84) #[] #[.pointer (some ⟨zb1399, 0, none⟩), .pointer (some ⟨zb1400, 0, none⟩)]] ?_
     refine (all_p51_3 0 1000 q ka kn kc zb1 zb1399 zb1400 _ (zS1404.ob 17 false 28) (zS1404.ob 0 false 3) (zS1404.ob 1 false 3)).mono ?_; rintro _ zw1405 ⟨rfl, zhc1406⟩
     have zS1407 := zS1404.quiet zhc1406
     exact ⟨zS1407.ch, Sp.mk_holds [] (all_nil)⟩
   refine step_cons ?_ ?_
   · intro zy1408 zw1409 zhc1410 zhf1411 zhp1412
     have zh1413 : zy1408 102 = .bool (allI 0 1000 [(q 51), (q 52), (q 53)]) := (Sp.out0 (zhp1412 8 102 (by kernel_rfl) (by kernel_rfl))).1
     have zh1414 : zy1408 102 = .bool true := zh1413.trans (congrArg Value.bool (zh1319))
     have zh1415 : zy1408 98 = .bool false := (Sp.out0 (zhp1412 4 98 (by kernel_rfl) (by kernel_rfl))).1
     have zS1416 := zS761.quiet zhc1410
     refine step_yes (wY_t zh1415) ?_
     refine yenv [(102, .bool true)] (ag_cons zh1414 (ag_nil)) ?_
     have zS1417 := zS1416.loc
     refine Y.pure_ (.bool false) ?_
     exact ⟨zS1417.ch, Sp.mk_holds [] (all_nil)⟩
   refine step_cons ?_ ?_
   · intro zy1418 zw1419 zhc1420 zhf1421 zhp1422
     have zh1423 : zy1418 98 = .bool false := (Sp.out0 (zhp1422 4 98 (by kernel_rfl) (by kernel_rfl))).1
     have zh1424 : zy1418 103 = .bool false := (Sp.out0 (zhp1422 9 103 (by kernel_rfl) (by kernel_rfl))).1
     have zS1425 := zS761.quiet zhc1420
     refine step1 ?_
     refine yenv [(98, .bool false), (103, .bool false)] (ag_cons zh1423 (ag_cons zh1424 (ag_nil))) ?_
     have zS1426 := zS1425.loc
     refine Y.pure_ (.bool false) ?_
     exact ⟨zS1426.ch, Sp.mk_holds [] (all_nil)⟩
   refine step_cons ?_ ?_
   · intro zy1427 zw1428 zhc1429 zhf1430 zhp1431
     have zh1432 : zy1427 104 = .bool false := (Sp.out0 (zhp1431 10 104 (by kernel_rfl) (by kernel_rfl))).1
     have zS1433 := zS761.quiet zhc1429
     refine step1 ?_
     refine yenv [(104, .bool false)] (ag_cons zh1432 (ag_nil)) ?_
     have zS1434 := zS1433.loc
     refine Y.pure_ (.bool false) ?_
     exact ⟨zS1434.ch, Sp.mk_holds [] (all_nil)⟩
   refine step_cons ?_ ?_
   · intro zy1435 zw1436 zhc1437 zhf1438 zhp1439
     have zh1440 : zy1435 105 = .bool false := (Sp.out0 (zhp1439 11 105 (by kernel_rfl) (by kernel_rfl))).1
     have zS1441 := zS761.quiet zhc1437
     refine step_yes (wY_t zh1440) ?_
     refine yenv [] (ag_nil) ?_
     have zS1442 := zS1441.loc
     refine Y.call_ 62 #[.int .i64 1, .int .i64 1000] ?_
     refine enter_ Tryz.func62 rfl ?_
     refine seq_ (reg_ ?_)
     refine new_ zS1442 (fun b => .pointer (some ⟨b, 0, none⟩)) (.cells #[.int .i64 1] 3) ?_
     intro zb1443 zw1444 zS1445
     refine new_ zS1445 (fun b => .pointer (some ⟨b, 0, none⟩)) (.cells #[.int .i64 1000] 3) ?_
     intro zb1446 zw1447 zS1448
     refine pure_ (.nilFunc) ?_
     refine nil_ (then_n (seq_ (reg_ ?_)))
     refine pure_ (.func (.func 84) #[] #[.pointer (some ⟨zb1443, 0, none⟩), .pointer (some ⟨zb1446, 0, none⟩)]) ?_
     refine assign_ ?_
     refine nil_ (then_n (wp_ret ?_))
     refine ret_ rfl (res_ [.tmp 4] [.func (.func 84) #[] #[.pointer (some ⟨zb1443, 0, none⟩), .pointer (some ⟨zb1446, 0, none⟩)]] (.func (.func 84) #[] #[.pointer (some ⟨zb1443, 0, none⟩), .pointer (some ⟨zb1446, 0, none⟩)]) ⟨res_tmp, trivial⟩) ?_
     exact ⟨zS1448.ch, Sp.mk_holds [zb1443, zb1446] (all_cons (zS1448.isNew zhc1437.size 1 (by kernel_rfl)) (all_cons (zS1448.isNew zhc1437.size 0 (by kernel_rfl)) (all_nil)))⟩
   refine step_cons ?_ ?_
   · intro zy1449 zw1450 zhc1451 zhf1452 zhp1453
     have zh1454 : zy1449 1 = .pointer (some ⟨zb1, 0, none⟩) := (zhf1452 1 (by kernel_rfl)).trans (by kernel_rfl)
     have zh1455 : zy1449 105 = .bool false := (Sp.out0 (zhp1453 11 105 (by kernel_rfl) (by kernel_rfl))).1
     have zS1456 := zS761.quiet zhc1451
     refine step_yes (wY_t zh1455) ?_
     refine yenv [(1, .pointer (some ⟨zb1, 0, none⟩))] (ag_cons zh1454 (ag_nil)) ?_
     have zS1457 := zS1456.loc
     refine Y.pure_ (.pointer (some ⟨zb1, 54, none⟩)) ?_
     exact ⟨zS1457.ch, Sp.mk_holds [] (all_nil)⟩
   refine step_cons ?_ ?_
   · intro zy1458 zw1459 zhc1460 zhf1461 zhp1462
     have zh1463 : zy1458 107 = .pointer (some ⟨zb1, 54, none⟩) := (Sp.out0 (zhp1462 13 107 (by kernel_rfl) (by kernel_rfl))).1
     have zh1464 : zy1458 105 = .bool false := (Sp.out0 (zhp1462 11 105 (by kernel_rfl) (by kernel_rfl))).1
     have zS1465 := zS761.quiet zhc1460
     refine step_yes (wY_t zh1464) ?_
     refine yenv [(107, .pointer (some ⟨zb1, 54, none⟩))] (ag_cons zh1463 (ag_nil)) ?_
     have zS1466 := zS1465.loc
     refine Y.load1_ zS1466 15 (.int .i64 (q 54)) zb1 54 ?_
     exact ⟨zS1466.ch, Sp.mk_holds [] (all_nil)⟩
   refine step_cons ?_ ?_
   · intro zy1467 zw1468 zhc1469 zhf1470 zhp1471
     obtain ⟨zb1473, zb1474, zh1472', zg1475'⟩ := Sp.out2 (zhp1471 12 106 (by kernel_rfl) (by kernel_rfl))
     have zh1472 : zy1467 106 = .func (.func 84) #[] #[.pointer (some ⟨zb1473, 0, none⟩), .pointer (some ⟨zb1474, 0, none⟩)] := zh1472'
     have zg1475 : ∀ p ∈ ([(zb1473, .cells #[.int .i64 1] 3 (0, 0)), (zb1474, .cells #[.int .i64 1000] 3 (0, 0))] : List (Nat × Obj)), zw759.heap.size ≤ p.1 ∧ zw1468.heap[p.1]? = some p.2 := zg1475'
     have zh1476 : zy1467 108 = .int .i64 (q 54) := (Sp.out0 (zhp1471 14 108 (by kernel_rfl) (by kernel_rfl))).1
     have zh1477 : zy1467 105 = .bool false := (Sp.out0 (zhp1471 11 105 (by kernel_rfl) (by kernel_rfl))).1
     have zS1478 := zS761.ro zhc1469 ([(zb1473, .cells #[.int .i64 1] 3 (0, 0)), (zb1474, .cells #[.int .i64 1000] 3 (0, 0))]) (zg1475)
     refine step_yes (wY_t zh1477) ?_
     refine yenv [(106, .func (.func 84) #[] #[.pointer (some ⟨zb1473, 0, none⟩), .pointer (some ⟨zb1474, 0, none⟩)]), (108, .int .i64 (q 54))] (ag_cons zh1472 (ag_cons zh1476 (ag_nil))) ?_
     have zS1479 := zS1478.loc
     refine Y.call_ 84 #[.int .i64 (q 54), .pointer (some ⟨zb1473, 0, none⟩), .pointer (some ⟨zb1474, 0, none⟩)] ?_
     refine (within1_any 1 1000 (q 54) zb1473 zb1474 _ (zS1479.ob 0 false 3) (zS1479.ob 1 false 3)).mono ?_; rintro _ zw1480 ⟨rfl, zhc1481⟩
     have zS1482 := zS1479.quiet zhc1481
     exact ⟨zS1482.ch, Sp.mk_holds [] (all_nil)⟩
   refine step_cons ?_ ?_
   · intro zy1483 zw1484 zhc1485 zhf1486 zhp1487
     have zh1488 : zy1483 109 = .bool (inB 1 1000 (q 54)) := (Sp.out0 (zhp1487 15 109 (by kernel_rfl) (by kernel_rfl))).1
     have zh1489 : zy1483 105 = .bool false := (Sp.out0 (zhp1487 11 105 (by kernel_rfl) (by kernel_rfl))).1
     have zS1490 := zS761.quiet zhc1485
     refine step_yes (wY_t zh1489) ?_
     refine yenv [(109, .bool (inB 1 1000 (q 54)))] (ag_cons zh1488 (ag_nil)) ?_
     have zS1491 := zS1490.loc
     refine Y.pure_ (.bool (!(inB 1 1000 (q 54)))) ?_
     exact ⟨zS1491.ch, Sp.mk_holds [] (all_nil)⟩
   refine step_cons ?_ ?_
   · intro zy1492 zw1493 zhc1494 zhf1495 zhp1496
     have zh1497 : zy1492 105 = .bool false := (Sp.out0 (zhp1496 11 105 (by kernel_rfl) (by kernel_rfl))).1
     have zh1498 : zy1492 110 = .bool (!(inB 1 1000 (q 54))) := (Sp.out0 (zhp1496 16 110 (by kernel_rfl) (by kernel_rfl))).1
     have zS1499 := zS761.quiet zhc1494
     refine step1 ?_
     refine yenv [(105, .bool false), (110, .bool (!(inB 1 1000 (q 54))))] (ag_cons zh1497 (ag_cons zh1498 (ag_nil))) ?_
     have zS1500 := zS1499.loc
     refine Y.pure_ (.bool (!(inB 1 1000 (q 54)))) ?_
     exact ⟨zS1500.ch, Sp.mk_holds [] (all_nil)⟩
   refine step_cons ?_ ?_
   · intro zy1501 zw1502 zhc1503 zhf1504 zhp1505
     have zh1506 : zy1501 111 = .bool (!(inB 1 1000 (q 54))) := (Sp.out0 (zhp1505 17 111 (by kernel_rfl) (by kernel_rfl))).1
     have zS1507 := zS761.quiet zhc1503
     refine step1 ?_
     refine yenv [(111, .bool (!(inB 1 1000 (q 54))))] (ag_cons zh1506 (ag_nil)) ?_
     have zS1508 := zS1507.loc
     refine Y.assign_ ?_
     exact ⟨zS1508.ch, Sp.mk_holds [] (all_nil)⟩
   exact step_nil
 intro zv1509 zw1510 zhc1511 zha1512
 have zh1513 : zv1509 0 = .pointer (some ⟨zb1, 50, none⟩) := (Sp.out0 (zha1512 0 (by kernel_rfl))).1
 have zh1514 : zv1509 1 = .pointer (some ⟨zb1, 50, none⟩) := (Sp.out0 (zha1512 1 (by kernel_rfl))).1
 have zh1515 : zv1509 2 = .int .i64 (q 50) := (Sp.out0 (zha1512 2 (by kernel_rfl))).1
 have zh1516 : zv1509 3 = .bool false := (Sp.out0 (zha1512 3 (by kernel_rfl))).1
 have zh1517 : zv1509 4 = .bool false := (Sp.out0 (zha1512 4 (by kernel_rfl))).1
 have zh1518 : zv1509 5 = .pointer (some ⟨zb1, 50, none⟩) := (Sp.out0 (zha1512 5 (by kernel_rfl))).1
 have zh1519 : zv1509 6 = .slice (some ⟨zb1, 51, none⟩) 3 3 := (Sp.out0 (zha1512 6 (by kernel_rfl))).1
 obtain ⟨zb1521, zb1522, zh1520', zg1523'⟩ := Sp.out2 (zha1512 7 (by kernel_rfl))
 have zh1520 : zv1509 7 = .func (.func 84) #[] #[.pointer (some ⟨zb1521, 0, none⟩), .pointer (some ⟨zb1522, 0, none⟩)] := zh1520'
 have zg1523 : ∀ p ∈ ([(zb1521, .cells #[.int .i64 0] 3 (0, 0)), (zb1522, .cells #[.int .i64 1000] 3 (0, 0))] : List (Nat × Obj)), zw759.heap.size ≤ p.1 ∧ zw1510.heap[p.1]? = some p.2 := zg1523'
 have zh1524 : zv1509 8 = .bool (allI 0 1000 [(q 51), (q 52), (q 53)]) := (Sp.out0 (zha1512 8 (by kernel_rfl))).1
 have zh1525 : zv1509 9 = .bool false := (Sp.out0 (zha1512 9 (by kernel_rfl))).1
 have zh1526 : zv1509 10 = .bool false := (Sp.out0 (zha1512 10 (by kernel_rfl))).1
 have zh1527 : zv1509 11 = .bool false := (Sp.out0 (zha1512 11 (by kernel_rfl))).1
 obtain ⟨zb1529, zb1530, zh1528', zg1531'⟩ := Sp.out2 (zha1512 12 (by kernel_rfl))
 have zh1528 : zv1509 12 = .func (.func 84) #[] #[.pointer (some ⟨zb1529, 0, none⟩), .pointer (some ⟨zb1530, 0, none⟩)] := zh1528'
 have zg1531 : ∀ p ∈ ([(zb1529, .cells #[.int .i64 1] 3 (0, 0)), (zb1530, .cells #[.int .i64 1000] 3 (0, 0))] : List (Nat × Obj)), zw759.heap.size ≤ p.1 ∧ zw1510.heap[p.1]? = some p.2 := zg1531'
 have zh1532 : zv1509 13 = .pointer (some ⟨zb1, 54, none⟩) := (Sp.out0 (zha1512 13 (by kernel_rfl))).1
 have zh1533 : zv1509 14 = .int .i64 (q 54) := (Sp.out0 (zha1512 14 (by kernel_rfl))).1
 have zh1534 : zv1509 15 = .bool (inB 1 1000 (q 54)) := (Sp.out0 (zha1512 15 (by kernel_rfl))).1
 have zh1535 : zv1509 16 = .bool (!(inB 1 1000 (q 54))) := (Sp.out0 (zha1512 16 (by kernel_rfl))).1
 have zh1536 : zv1509 17 = .bool (!(inB 1 1000 (q 54))) := (Sp.out0 (zha1512 17 (by kernel_rfl))).1
 have zh1537 : zv1509 18 = .bool (!(inB 1 1000 (q 54))) := (Sp.out0 (zha1512 18 (by kernel_rfl))).1
 have zS1538 := zS761.ro zhc1511 ([(zb1521, .cells #[.int .i64 0] 3 (0, 0)), (zb1522, .cells #[.int .i64 1000] 3 (0, 0))] ++ [(zb1529, .cells #[.int .i64 1] 3 (0, 0)), (zb1530, .cells #[.int .i64 1000] 3 (0, 0))]) (List.forall_mem_append.2 ⟨zg1523, zg1531⟩)
 refine ⟨[.pointer (some ⟨zb1, 50, none⟩), .pointer (some ⟨zb1, 50, none⟩), .int .i64 (q 50), .bool false, .bool false, .pointer (some ⟨zb1, 50, none⟩), .slice (some ⟨zb1, 51, none⟩) 3 3, .func (.func 84) #[] #[.pointer (some ⟨zb1521, 0, none⟩), .pointer (some ⟨zb1522, 0, none⟩)], .bool (allI 0 1000 [(q 51), (q 52), (q 53)]), .bool false, .bool false, .bool false, .func (.func 84) #[] #[.pointer (some ⟨zb1529, 0, none⟩), .pointer (some ⟨zb1530, 0, none⟩)], .pointer (some ⟨zb1, 54, none⟩), .int .i64 (q 54), .bool (inB 1 1000 (q 54)), .bool (!(inB 1 1000 (q 54))), .bool (!(inB 1 1000 (q 54))), .bool (!(inB 1 1000 (q 54)))], by kernel_rfl, va_cons zh1513 (va_cons zh1514 (va_cons zh1515 (va_cons zh1516 (va_cons zh1517 (va_cons zh1518 (va_cons zh1519 (va_cons zh1520 (va_cons zh1524 (va_cons zh1525 (va_cons zh1526 (va_cons zh1527 (va_cons zh1528 (va_cons zh1532 (va_cons zh1533 (va_cons zh1534 (va_cons zh1535 (va_cons zh1536 (va_cons zh1537 (va_nil))))))))))))))))))), ?_⟩
 refine nil_ (then_n ?_)
 refine cond_S (!(inB 1 1000 (q 54))) ?_ ?_
 · intro zh1539
   have zh1540 := notT' zh1539
   refine seq_ (reg_ ?_)
   refine pure_ (.int .i64 49) ?_
   refine nil_ (then_n (wp_ret (blk_r (then_r ?_))))
   refine ret_ rfl (res_ [.tmp 2] [.int .i64 49] (.int .i64 49) ⟨res_tmp, trivial⟩) ?_
   exact ⟨congrArg _ (by simp [polCode, zh9, zh10, zh16, zh17, zh23, zh24, zh27, zh31, zh38, zh39, zh45, zh46, zh92, zh93, zh191, zh192, zh309, zh310, zh519, zh520, zh683, zh684, zh764, zh765, zh994, zh1318, zh1319, zh1539, zh1540, zh28, zh32, zh995]), zS1538.ch⟩
 intro zh1541
 have zh1542 := notF' zh1541
 have zh1543 := inB_is _ _ _ zh1542
 refine seq_ ?_
 refine drawnL_ 3 [⟨2, fun ids => .func (.func 84) #[] #[.pointer (some ⟨(ids.getD 0 0), 0, none⟩), .pointer (some ⟨(ids.getD 1 0), 0, none⟩)], fun ids => [((ids.getD 0 0), .cells #[.int .i64 0] 3 (0, 0)), ((ids.getD 1 0), .cells #[.int .i64 65535] 3 (0, 0))]⟩, ⟨0, fun _ => .pointer (some ⟨zb1, 55, none⟩), fun _ => []⟩, ⟨0, fun _ => .int .i64 (q 55), fun _ => []⟩] [[3, 0], [3, 2, 1], [3, 2], [4, 3, 0], [4, 3, 2, 1], [4, 3, 2], [4, 3], [5, 3, 0], [5, 3, 2, 1], [5, 3, 2], [5, 3], [5, 4]] ?_ ?_
 · refine step_cons ?_ ?_
   · intro zy1544 zw1545 zhc1546 zhf1547 zhp1548
     have zS1549 := zS1538.quiet zhc1546
     refine step1 ?_
     refine yenv [] (ag_nil) ?_
     have zS1550 := zS1549.loc
     refine Y.call_ 62 #[.int .i64 0, .int .i64 65535] ?_
     refine enter_ Tryz.func62 rfl ?_
     refine seq_ (reg_ ?_)
     refine new_ zS1550 (fun b => .pointer (some ⟨b, 0, none⟩)) (.cells #[.int .i64 0] 3) ?_
     intro zb1551 zw1552 zS1553
     refine new_ zS1553 (fun b => .pointer (some ⟨b, 0, none⟩)) (.cells #[.int .i64 65535] 3) ?_
     intro zb1554 zw1555 zS1556
     refine pure_ (.nilFunc) ?_
     refine nil_ (then_n (seq_ (reg_ ?_)))
     refine pure_ (.func (.func 84) #[] #[.pointer (some ⟨zb1551, 0, none⟩), .pointer (some ⟨zb1554, 0, none⟩)]) ?_
     refine assign_ ?_
     refine nil_ (then_n (wp_ret ?_))
     refine ret_ rfl (res_ [.tmp 4] [.func (.func 84) #[] #[.pointer (some ⟨zb1551, 0, none⟩), .pointer (some ⟨zb1554, 0, none⟩)]] (.func (.func 84) #[] #[.pointer (some ⟨zb1551, 0, none⟩), .pointer (some ⟨zb1554, 0, none⟩)]) ⟨res_tmp, trivial⟩) ?_
     exact ⟨zS1556.ch, Sp.mk_holds [zb1551, zb1554] (all_cons (zS1556.isNew zhc1546.size 1 (by kernel_rfl)) (all_cons (zS1556.isNew zhc1546.size 0 (by kernel_rfl)) (all_nil)))⟩
   refine step_cons ?_ ?_
   · intro zy1557 zw1558 zhc1559 zhf1560 zhp1561
     have zh1562 : zy1557 1 = .pointer (some ⟨zb1, 0, none⟩) := (zhf1560 1 (by kernel_rfl)).trans (by kernel_rfl)
     have zS1563 := zS1538.quiet zhc1559
     refine step1 ?_
     refine yenv [(1, .pointer (some ⟨zb1, 0, none⟩))] (ag_cons zh1562 (ag_nil)) ?_
     have zS1564 := zS1563.loc
     refine Y.pure_ (.pointer (some ⟨zb1, 55, none⟩)) ?_
     exact ⟨zS1564.ch, Sp.mk_holds [] (all_nil)⟩
   refine step_cons ?_ ?_
   · intro zy1565 zw1566 zhc1567 zhf1568 zhp1569
     have zh1570 : zy1565 114 = .pointer (some ⟨zb1, 55, none⟩) := (Sp.out0 (zhp1569 1 114 (by kernel_rfl) (by kernel_rfl))).1
     have zS1571 := zS1538.quiet zhc1567
     refine step1 ?_
     refine yenv [(114, .pointer (some ⟨zb1, 55, none⟩))] (ag_cons zh1570 (ag_nil)) ?_
     have zS1572 := zS1571.loc
     refine Y.load1_ zS1572 19 (.int .i64 (q 55)) zb1 55 ?_
     exact ⟨zS1572.ch, Sp.mk_holds [] (all_nil)⟩
   exact step_nil
 intro zv1573 zw1574 zhc1575 zha1576
 obtain ⟨zb1578, zb1579, zh1577', zg1580'⟩ := Sp.out2 (zha1576 0 (by kernel_rfl))
 have zh1577 : zv1573 0 = .func (.func 84) #[] #[.pointer (some ⟨zb1578, 0, none⟩), .pointer (some ⟨zb1579, 0, none⟩)] := zh1577'
 have zg1580 : ∀ p ∈ ([(zb1578, .cells #[.int .i64 0] 3 (0, 0)), (zb1579, .cells #[.int .i64 65535] 3 (0, 0))] : List (Nat × Obj)), zw1510.heap.size ≤ p.1 ∧ zw1574.heap[p.1]? = some p.2 := zg1580'
 have zh1581 : zv1573 1 = .pointer (some ⟨zb1, 55, none⟩) := (Sp.out0 (zha1576 1 (by kernel_rfl))).1
 have zh1582 : zv1573 2 = .int .i64 (q 55) := (Sp.out0 (zha1576 2 (by kernel_rfl))).1
 have zS1583 := zS1538.ro zhc1575 ([(zb1578, .cells #[.int .i64 0] 3 (0, 0)), (zb1579, .cells #[.int .i64 65535] 3 (0, 0))]) (zg1580)
 refine ⟨[.func (.func 84) #[] #[.pointer (some ⟨zb1578, 0, none⟩), .pointer (some ⟨zb1579, 0, none⟩)], .pointer (some ⟨zb1, 55, none⟩), .int .i64 (q 55)], by kernel_rfl, va_cons zh1577 (va_cons zh1581 (va_cons zh1582 (va_nil))), ?_⟩
 refine call_ 84 #[.int .i64 (q 55), .pointer (some ⟨zb1578, 0, none⟩), .pointer (some ⟨zb1579, 0, none⟩)] ?_
 refine (within1_any 0 65535 (q 55) zb1578 zb1579 _ (zS1583.ob 0 false 3) (zS1583.ob 1 false 3)).mono ?_; rintro _ zw1584 ⟨rfl, zhc1585⟩
 have zS1586 := zS1583.quiet zhc1585
 refine pure_ (.bool (!(inB 0 65535 (q 55)))) ?_
 refine assign_ ?_
 refine nil_ (then_n ?_)
 refine cond_S (!(inB 0 65535 (q 55))) ?_ ?_
 · intro zh1587
   have zh1588 := notT' zh1587
   refine seq_ (reg_ ?_)
   refine pure_ (.int .i64 50) ?_
   refine nil_ (then_n (wp_ret (blk_r (then_r ?_))))
   refine ret_ rfl (res_ [.tmp 2] [.int .i64 50] (.int .i64 50) ⟨res_tmp, trivial⟩) ?_
   exact ⟨congrArg _ (by simp [polCode, zh9, zh10, zh16, zh17, zh23, zh24, zh27, zh31, zh38, zh39, zh45, zh46, zh92, zh93, zh191, zh192, zh309, zh310, zh519, zh520, zh683, zh684, zh764, zh765, zh994, zh1318, zh1319, zh1541, zh1542, zh1587, zh1588, zh28, zh32, zh995]), zS1586.ch⟩
 intro zh1589
 have zh1590 := notF' zh1589
 have zh1591 := inB_is _ _ _ zh1590
 refine wp_skip (blk_n (then_n (seq_ (reg_ ?_))))
 refine pure_ (.int .i64 0) ?_
 refine nil_ (then_n (wp_ret ?_))
 refine ret_ rfl (res_ [.tmp 2] [.int .i64 0] (.int .i64 0) ⟨res_tmp, trivial⟩) ?_
 exact ⟨congrArg _ (by simp [polCode, zh9, zh10, zh16, zh17, zh23, zh24, zh27, zh31, zh38, zh39, zh45, zh46, zh92, zh93, zh191, zh192, zh309, zh310, zh519, zh520, zh683, zh684, zh764, zh765, zh994, zh1318, zh1319, zh1541, zh1542, zh1589, zh1590, zh28, zh32, zh995]), zS1586.ch⟩

end Go.Proofs.YtgbgjbjlblcpaaaGreatDoor
