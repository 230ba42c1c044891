/- package policy: what Check tells of any policy -/
import Derived.Test.YtbjanfgipcniiaaGreatDoorRows
import Derived.Test.YtbjanfgipcniiaaGreatDoorSQE
import Derived.Test.YtbjanfgipcniiaaGreatDoorXBase
namespace Go.Proofs.YtbjanfgipcniiaaGreatDoor
open Go Go.RowKit Go.BigFrame Sx
set_option linter.unusedVariables false
set_option linter.unusedSimpArgs false

def inB (lo hi n : Int) : Bool := decide (lo ≤ n) && decide (n ≤ hi)
def isIn (a b c k : Int) : Bool := k == a || (k == b || k == c)
def ordB (q : Nat → Int) : Bool := q 0 == 0 && (q 4 == 4 && (isIn (q 1) (q 2) (q 3) 1 && (isIn (q 1) (q 2) (q 3) 2 && isIn (q 1) (q 2) (q 3) 3)))
def keyB (n : Nat) : Bool := decide (1 ≤ (n : Int)) && decide ((n : Int) ≤ 64)
def setB (n : Int) : Bool := inB 0 15 n && n % 2 == 0
def allI (lo hi : Int) : List Int → Bool
  | [] => true
  | x :: xs => inB lo hi x && allI lo hi xs
def keys3 (kn : Nat → Nat) : Bool := keyB (kn 0) && (keyB (kn 1) && keyB (kn 2))
def roles3 (q : Nat → Int) : Bool := setB (q 10) && (setB (q 11) && setB (q 12))
def tab5 (q : Nat → Int) : Bool := allI 0 15 [q 14, q 15, q 16, q 17] && (allI 0 15 [q 18, q 19, q 20, q 21] && (allI 0 15 [q 22, q 23, q 24, q 25] && (allI 0 15 [q 26, q 27, q 28, q 29] && allI 0 15 [q 30, q 31, q 32, q 33])))
def polCode (q : Nat → Int) (kn : Nat → Nat) : Int :=
  if ordB q = false then 40 else if (keys3 kn && keyB (kn 3)) = false then 41 else if (q 9 == 1 && (q 13 == 0 && roles3 q)) = false then 42
  else if tab5 q = false then 43
  else if allI 0 31 [q 34, q 35, q 36, q 37, q 38] = false then 44
  else if allI 0 4 [q 39, q 40, q 41] = false then 45 else if allI 1 1000 [q 42, q 43, q 44, q 45] = false then 46 else if (inB 1 1000 (q 46) && inB 0 1000 (q 47)) = false then 47 else if allI 1 3 [q 48, q 49] = false then 48
  else if (q 50 == 0 && (allI 0 1000 [q 51, q 52, q 53] && inB 1 1000 (q 54))) = false then 49 else if inB 0 65535 (q 55) = false then 50 else 0
theorem inB_no (lo hi : Int) (n : Int) (h : inB lo hi n = false) : n < lo ∨ hi < n := by simp [inB] at h; omega
theorem inB_is (lo hi : Int) (n : Int) (h : inB lo hi n = true) : lo ≤ n ∧ n ≤ hi := by simpa [inB] using h

set_option maxRecDepth 100000 in
set_option maxHeartbeats 4000000 in
theorem within1_any (lo hi n : Int) (bl bh : Nat) {tl th : TypeId} (w : World) (hl : w.heap[bl]? = some (.cells #[ι lo] tl (0, 0))) (hh : w.heap[bh]? = some (.cells #[ι hi] th (0, 0))) :
    Gives Tryz.prog 111 #[ι n, π bl 0, π bh 0] w fun v w1 => v = .bool (inB lo hi n) ∧ Ch [] w w1 := by
 have S0 := St.given (w := w) [(bl, .cells #[ι lo] tl (0, 0)), (bh, .cells #[ι hi] th (0, 0))] (all_cons hl (all_cons hh (all_nil)))
 refine enter_ Tryz.func111 rfl (seq_ (reg_ (pure_ (φ) (nsr_ (load1_ S0 0 (ι lo) bl 0 (pure_ (ι n) (pure_ (.bool (decide (lo ≤ n))) (pure_ (.bool (decide (lo ≤ n))) ?_))))))))
 refine slot_ 8 (decide (lo ≤ n)) ?_ ?_
 · intro zh1
   have zh2 := leT' zh1
   refine pure_ (ι n) (load1_ S0 1 (ι hi) bh 0 (pure_ (.bool (decide (n ≤ hi))) (pure_ (.bool (decide (n ≤ hi))) (pure_ (.bool (decide (n ≤ hi))) (nil_ (then_n (wp_ret (ret_ rfl (res_ [.tmp 4] [.bool (decide (n ≤ hi))] (.bool (decide (n ≤ hi))) ⟨res_tmp, trivial⟩) ?_))))))))
   exact ⟨congrArg Value.bool (by simp [inB, zh1]), S0.ch⟩
 intro zh3
 have zh4 := leF' zh3
 refine skip_ (skip_ (skip_ (pure_ (φ) (pure_ (φ) (nil_ (then_n (wp_ret (ret_ rfl (res_ [.tmp 4] [φ] (φ) ⟨res_tmp, trivial⟩) ?_))))))))
 exact ⟨congrArg Value.bool (by simp [inB, zh3]), S0.ch⟩

set_option maxRecDepth 100000 in
set_option maxHeartbeats 4000000 in
theorem all_s2 (lo hi x0 x1 : Int) (bs bl bh : Nat) {ts tl th : TypeId} (w : World) (hs : w.heap[bs]? = some (.cells #[ι x0, ι x1] ts (0, 0))) (hl : w.heap[bl]? = some (.cells #[ι lo] tl (0, 0))) (hh : w.heap[bh]? = some (.cells #[ι hi] th (0, 0))) :
    Gives Tryz.prog 65 #[σ bs 0 2 2, .func (.func 111) #[] #[π bl 0, π bh 0]] w fun v w1 => v = .bool (allI lo hi [x0, x1]) ∧ Ch [] w w1 := by
 have S0 := St.given (w := w) [(bs, .cells #[ι x0, ι x1] ts (0, 0)), (bl, .cells #[ι lo] tl (0, 0)), (bh, .cells #[ι hi] th (0, 0))] (all_cons hs (all_cons hl (all_cons hh (all_nil))))
 refine enter_ Tryz.func65 rfl (seq_ (reg_ (pure_ (φ) (nil_ (then_n (seq_ (seq_ (reg_ (move_ (pure_ (ι 2) (pure_ (ι 0) (nil_ (then_n (wp_block (loop_ 24 (seq_ (reg_ (pure_ (τ) (nil_ (then_n (seq_ (cond_T (wp_skip (then_n (seq_ (wp_block (seq_ (reg_ (pure_ (π bs 0) (load1_ S0 0 (ι x0) bs 0 (pure_ (ι x0) (nsr_ (move_ (pure_ (ι x0) (call_ 111 #[ι x0, π bl 0, π bh 0] ?_)))))))))))))))))))))))))))))))))))
 refine (within1_any lo hi x0 bl bh _ (S0.ob 1 false tl) (S0.ob 2 false th)).mono ?_; rintro _ zw1 ⟨rfl, zhc2⟩
 have zS3 := S0.quiet zhc2
 refine pure_ (.bool (!(inB lo hi x0))) (nil_ (then_n ?_))
 refine cond_S (!(inB lo hi x0)) ?_ ?_
 · intro zh4
   have zh5 := notT' zh4
   refine seq_ (reg_ (pure_ (φ) (nil_ (then_n (wp_ret (blk_r (then_r (then_r (blk_r (then_r (ret_ rfl (res_ [.tmp 4] [φ] (φ) ⟨res_tmp, trivial⟩) ?_)))))))))))
   exact ⟨congrArg Value.bool (by simp [allI, zh4, zh5]), zS3.ch⟩
 intro zh6
 have zh7 := notF' zh6
 have zh8 := inB_is _ _ _ zh7
 refine wp_skip (blk_n (then_n (reg_ (pure_ (ι 1) (pure_ (ι 1) (nil_ (again_ (seq_ (reg_ (pure_ (τ) (nil_ (then_n (seq_ (cond_T (wp_skip (then_n (seq_ (wp_block (seq_ (reg_ (pure_ (π bs 1) (load1_ zS3 0 (ι x1) bs 1 (pure_ (ι x1) (nsr_ (move_ (pure_ (ι x1) (call_ 111 #[ι x1, π bl 0, π bh 0] ?_)))))))))))))))))))))))))))
 refine (within1_any lo hi x1 bl bh _ (zS3.ob 1 false tl) (zS3.ob 2 false th)).mono ?_; rintro _ zw9 ⟨rfl, zhc10⟩
 have zS11 := zS3.quiet zhc10
 refine pure_ (.bool (!(inB lo hi x1))) (nil_ (then_n ?_))
 refine cond_S (!(inB lo hi x1)) ?_ ?_
 · intro zh12
   have zh13 := notT' zh12
   refine seq_ (reg_ (pure_ (φ) (nil_ (then_n (wp_ret (blk_r (then_r (then_r (blk_r (then_r (ret_ rfl (res_ [.tmp 4] [φ] (φ) ⟨res_tmp, trivial⟩) ?_)))))))))))
   exact ⟨congrArg Value.bool (by simp [allI, zh6, zh7, zh12, zh13]), zS11.ch⟩
 intro zh14
 have zh15 := notF' zh14
 have zh16 := inB_is _ _ _ zh15
 refine wp_skip (blk_n (then_n (reg_ (pure_ (ι 2) (pure_ (ι 2) (nil_ (again_ (seq_ (reg_ (pure_ (φ) (nil_ (then_n (seq_ (cond_F (wp_exit (then_e (then_e (blk_e (then_n (seq_ (reg_ (pure_ (τ) (nil_ (then_n (wp_ret (ret_ rfl (res_ [.tmp 4] [τ] (τ) ⟨res_tmp, trivial⟩) ?_))))))))))))))))))))))))))
 exact ⟨congrArg Value.bool (by simp [allI, zh6, zh7, zh14, zh15]), zS11.ch⟩

set_option maxRecDepth 100000 in
set_option maxHeartbeats 4000000 in
theorem all_s3 (lo hi x0 x1 x2 : Int) (bs bl bh : Nat) {ts tl th : TypeId} (w : World) (hs : w.heap[bs]? = some (.cells #[ι x0, ι x1, ι x2] ts (0, 0))) (hl : w.heap[bl]? = some (.cells #[ι lo] tl (0, 0))) (hh : w.heap[bh]? = some (.cells #[ι hi] th (0, 0))) :
    Gives Tryz.prog 65 #[σ bs 0 3 3, .func (.func 111) #[] #[π bl 0, π bh 0]] w fun v w1 => v = .bool (allI lo hi [x0, x1, x2]) ∧ Ch [] w w1 := by
 have S0 := St.given (w := w) [(bs, .cells #[ι x0, ι x1, ι x2] ts (0, 0)), (bl, .cells #[ι lo] tl (0, 0)), (bh, .cells #[ι hi] th (0, 0))] (all_cons hs (all_cons hl (all_cons hh (all_nil))))
 refine enter_ Tryz.func65 rfl (seq_ (reg_ (pure_ (φ) (nil_ (then_n (seq_ (seq_ (reg_ (move_ (pure_ (ι 3) (pure_ (ι 0) (nil_ (then_n (wp_block (loop_ 24 (seq_ (reg_ (pure_ (τ) (nil_ (then_n (seq_ (cond_T (wp_skip (then_n (seq_ (wp_block (seq_ (reg_ (pure_ (π bs 0) (load1_ S0 0 (ι x0) bs 0 (pure_ (ι x0) (nsr_ (move_ (pure_ (ι x0) (call_ 111 #[ι x0, π bl 0, π bh 0] ?_)))))))))))))))))))))))))))))))))))
 refine (within1_any lo hi x0 bl bh _ (S0.ob 1 false tl) (S0.ob 2 false th)).mono ?_; rintro _ zw1 ⟨rfl, zhc2⟩
 have zS3 := S0.quiet zhc2
 refine pure_ (.bool (!(inB lo hi x0))) (nil_ (then_n ?_))
 refine cond_S (!(inB lo hi x0)) ?_ ?_
 · intro zh4
   have zh5 := notT' zh4
   refine seq_ (reg_ (pure_ (φ) (nil_ (then_n (wp_ret (blk_r (then_r (then_r (blk_r (then_r (ret_ rfl (res_ [.tmp 4] [φ] (φ) ⟨res_tmp, trivial⟩) ?_)))))))))))
   exact ⟨congrArg Value.bool (by simp [allI, zh4, zh5]), zS3.ch⟩
 intro zh6
 have zh7 := notF' zh6
 have zh8 := inB_is _ _ _ zh7
 refine wp_skip (blk_n (then_n (reg_ (pure_ (ι 1) (pure_ (ι 1) (nil_ (again_ (seq_ (reg_ (pure_ (τ) (nil_ (then_n (seq_ (cond_T (wp_skip (then_n (seq_ (wp_block (seq_ (reg_ (pure_ (π bs 1) (load1_ zS3 0 (ι x1) bs 1 (pure_ (ι x1) (nsr_ (move_ (pure_ (ι x1) (call_ 111 #[ι x1, π bl 0, π bh 0] ?_)))))))))))))))))))))))))))
 refine (within1_any lo hi x1 bl bh _ (zS3.ob 1 false tl) (zS3.ob 2 false th)).mono ?_; rintro _ zw9 ⟨rfl, zhc10⟩
 have zS11 := zS3.quiet zhc10
 refine pure_ (.bool (!(inB lo hi x1))) (nil_ (then_n ?_))
 refine cond_S (!(inB lo hi x1)) ?_ ?_
 · intro zh12
   have zh13 := notT' zh12
   refine seq_ (reg_ (pure_ (φ) (nil_ (then_n (wp_ret (blk_r (then_r (then_r (blk_r (then_r (ret_ rfl (res_ [.tmp 4] [φ] (φ) ⟨res_tmp, trivial⟩) ?_)))))))))))
   exact ⟨congrArg Value.bool (by simp [allI, zh6, zh7, zh12, zh13]), zS11.ch⟩
 intro zh14
 have zh15 := notF' zh14
 have zh16 := inB_is _ _ _ zh15
 refine wp_skip (blk_n (then_n (reg_ (pure_ (ι 2) (pure_ (ι 2) (nil_ (again_ (seq_ (reg_ (pure_ (τ) (nil_ (then_n (seq_ (cond_T (wp_skip (then_n (seq_ (wp_block (seq_ (reg_ (pure_ (π bs 2) (load1_ zS11 0 (ι x2) bs 2 (pure_ (ι x2) (nsr_ (move_ (pure_ (ι x2) (call_ 111 #[ι x2, π bl 0, π bh 0] ?_)))))))))))))))))))))))))))
 refine (within1_any lo hi x2 bl bh _ (zS11.ob 1 false tl) (zS11.ob 2 false th)).mono ?_; rintro _ zw17 ⟨rfl, zhc18⟩
 have zS19 := zS11.quiet zhc18
 refine pure_ (.bool (!(inB lo hi x2))) (nil_ (then_n ?_))
 refine cond_S (!(inB lo hi x2)) ?_ ?_
 · intro zh20
   have zh21 := notT' zh20
   refine seq_ (reg_ (pure_ (φ) (nil_ (then_n (wp_ret (blk_r (then_r (then_r (blk_r (then_r (ret_ rfl (res_ [.tmp 4] [φ] (φ) ⟨res_tmp, trivial⟩) ?_)))))))))))
   exact ⟨congrArg Value.bool (by simp [allI, zh6, zh7, zh14, zh15, zh20, zh21]), zS19.ch⟩
 intro zh22
 have zh23 := notF' zh22
 have zh24 := inB_is _ _ _ zh23
 refine wp_skip (blk_n (then_n (reg_ (pure_ (ι 3) (pure_ (ι 3) (nil_ (again_ (seq_ (reg_ (pure_ (φ) (nil_ (then_n (seq_ (cond_F (wp_exit (then_e (then_e (blk_e (then_n (seq_ (reg_ (pure_ (τ) (nil_ (then_n (wp_ret (ret_ rfl (res_ [.tmp 4] [τ] (τ) ⟨res_tmp, trivial⟩) ?_))))))))))))))))))))))))))
 exact ⟨congrArg Value.bool (by simp [allI, zh6, zh7, zh14, zh15, zh22, zh23]), zS19.ch⟩

set_option maxRecDepth 100000 in
set_option maxHeartbeats 4000000 in
theorem all_s4 (lo hi x0 x1 x2 x3 : Int) (bs bl bh : Nat) {ts tl th : TypeId} (w : World) (hs : w.heap[bs]? = some (.cells #[ι x0, ι x1, ι x2, ι x3] ts (0, 0))) (hl : w.heap[bl]? = some (.cells #[ι lo] tl (0, 0))) (hh : w.heap[bh]? = some (.cells #[ι hi] th (0, 0))) :
    Gives Tryz.prog 65 #[σ bs 0 4 4, .func (.func 111) #[] #[π bl 0, π bh 0]] w fun v w1 => v = .bool (allI lo hi [x0, x1, x2, x3]) ∧ Ch [] w w1 := by
 have S0 := St.given (w := w) [(bs, .cells #[ι x0, ι x1, ι x2, ι x3] ts (0, 0)), (bl, .cells #[ι lo] tl (0, 0)), (bh, .cells #[ι hi] th (0, 0))] (all_cons hs (all_cons hl (all_cons hh (all_nil))))
 refine enter_ Tryz.func65 rfl (seq_ (reg_ (pure_ (φ) (nil_ (then_n (seq_ (seq_ (reg_ (move_ (pure_ (ι 4) (pure_ (ι 0) (nil_ (then_n (wp_block (loop_ 24 (seq_ (reg_ (pure_ (τ) (nil_ (then_n (seq_ (cond_T (wp_skip (then_n (seq_ (wp_block (seq_ (reg_ (pure_ (π bs 0) (load1_ S0 0 (ι x0) bs 0 (pure_ (ι x0) (nsr_ (move_ (pure_ (ι x0) (call_ 111 #[ι x0, π bl 0, π bh 0] ?_)))))))))))))))))))))))))))))))))))
 refine (within1_any lo hi x0 bl bh _ (S0.ob 1 false tl) (S0.ob 2 false th)).mono ?_; rintro _ zw1 ⟨rfl, zhc2⟩
 have zS3 := S0.quiet zhc2
 refine pure_ (.bool (!(inB lo hi x0))) (nil_ (then_n ?_))
 refine cond_S (!(inB lo hi x0)) ?_ ?_
 · intro zh4
   have zh5 := notT' zh4
   refine seq_ (reg_ (pure_ (φ) (nil_ (then_n (wp_ret (blk_r (then_r (then_r (blk_r (then_r (ret_ rfl (res_ [.tmp 4] [φ] (φ) ⟨res_tmp, trivial⟩) ?_)))))))))))
   exact ⟨congrArg Value.bool (by simp [allI, zh4, zh5]), zS3.ch⟩
 intro zh6
 have zh7 := notF' zh6
 have zh8 := inB_is _ _ _ zh7
 refine wp_skip (blk_n (then_n (reg_ (pure_ (ι 1) (pure_ (ι 1) (nil_ (again_ (seq_ (reg_ (pure_ (τ) (nil_ (then_n (seq_ (cond_T (wp_skip (then_n (seq_ (wp_block (seq_ (reg_ (pure_ (π bs 1) (load1_ zS3 0 (ι x1) bs 1 (pure_ (ι x1) (nsr_ (move_ (pure_ (ι x1) (call_ 111 #[ι x1, π bl 0, π bh 0] ?_)))))))))))))))))))))))))))
 refine (within1_any lo hi x1 bl bh _ (zS3.ob 1 false tl) (zS3.ob 2 false th)).mono ?_; rintro _ zw9 ⟨rfl, zhc10⟩
 have zS11 := zS3.quiet zhc10
 refine pure_ (.bool (!(inB lo hi x1))) (nil_ (then_n ?_))
 refine cond_S (!(inB lo hi x1)) ?_ ?_
 · intro zh12
   have zh13 := notT' zh12
   refine seq_ (reg_ (pure_ (φ) (nil_ (then_n (wp_ret (blk_r (then_r (then_r (blk_r (then_r (ret_ rfl (res_ [.tmp 4] [φ] (φ) ⟨res_tmp, trivial⟩) ?_)))))))))))
   exact ⟨congrArg Value.bool (by simp [allI, zh6, zh7, zh12, zh13]), zS11.ch⟩
 intro zh14
 have zh15 := notF' zh14
 have zh16 := inB_is _ _ _ zh15
 refine wp_skip (blk_n (then_n (reg_ (pure_ (ι 2) (pure_ (ι 2) (nil_ (again_ (seq_ (reg_ (pure_ (τ) (nil_ (then_n (seq_ (cond_T (wp_skip (then_n (seq_ (wp_block (seq_ (reg_ (pure_ (π bs 2) (load1_ zS11 0 (ι x2) bs 2 (pure_ (ι x2) (nsr_ (move_ (pure_ (ι x2) (call_ 111 #[ι x2, π bl 0, π bh 0] ?_)))))))))))))))))))))))))))
 refine (within1_any lo hi x2 bl bh _ (zS11.ob 1 false tl) (zS11.ob 2 false th)).mono ?_; rintro _ zw17 ⟨rfl, zhc18⟩
 have zS19 := zS11.quiet zhc18
 refine pure_ (.bool (!(inB lo hi x2))) (nil_ (then_n ?_))
 refine cond_S (!(inB lo hi x2)) ?_ ?_
 · intro zh20
   have zh21 := notT' zh20
   refine seq_ (reg_ (pure_ (φ) (nil_ (then_n (wp_ret (blk_r (then_r (then_r (blk_r (then_r (ret_ rfl (res_ [.tmp 4] [φ] (φ) ⟨res_tmp, trivial⟩) ?_)))))))))))
   exact ⟨congrArg Value.bool (by simp [allI, zh6, zh7, zh14, zh15, zh20, zh21]), zS19.ch⟩
 intro zh22
 have zh23 := notF' zh22
 have zh24 := inB_is _ _ _ zh23
 refine wp_skip (blk_n (then_n (reg_ (pure_ (ι 3) (pure_ (ι 3) (nil_ (again_ (seq_ (reg_ (pure_ (τ) (nil_ (then_n (seq_ (cond_T (wp_skip (then_n (seq_ (wp_block (seq_ (reg_ (pure_ (π bs 3) (load1_ zS19 0 (ι x3) bs 3 (pure_ (ι x3) (nsr_ (move_ (pure_ (ι x3) (call_ 111 #[ι x3, π bl 0, π bh 0] ?_)))))))))))))))))))))))))))
 refine (within1_any lo hi x3 bl bh _ (zS19.ob 1 false tl) (zS19.ob 2 false th)).mono ?_; rintro _ zw25 ⟨rfl, zhc26⟩
 have zS27 := zS19.quiet zhc26
 refine pure_ (.bool (!(inB lo hi x3))) (nil_ (then_n ?_))
 refine cond_S (!(inB lo hi x3)) ?_ ?_
 · intro zh28
   have zh29 := notT' zh28
   refine seq_ (reg_ (pure_ (φ) (nil_ (then_n (wp_ret (blk_r (then_r (then_r (blk_r (then_r (ret_ rfl (res_ [.tmp 4] [φ] (φ) ⟨res_tmp, trivial⟩) ?_)))))))))))
   exact ⟨congrArg Value.bool (by simp [allI, zh6, zh7, zh14, zh15, zh22, zh23, zh28, zh29]), zS27.ch⟩
 intro zh30
 have zh31 := notF' zh30
 have zh32 := inB_is _ _ _ zh31
 refine wp_skip (blk_n (then_n (reg_ (pure_ (ι 4) (pure_ (ι 4) (nil_ (again_ (seq_ (reg_ (pure_ (φ) (nil_ (then_n (seq_ (cond_F (wp_exit (then_e (then_e (blk_e (then_n (seq_ (reg_ (pure_ (τ) (nil_ (then_n (wp_ret (ret_ rfl (res_ [.tmp 4] [τ] (τ) ⟨res_tmp, trivial⟩) ?_))))))))))))))))))))))))))
 exact ⟨congrArg Value.bool (by simp [allI, zh6, zh7, zh14, zh15, zh22, zh23, zh30, zh31]), zS27.ch⟩

set_option maxRecDepth 100000 in
set_option maxHeartbeats 4000000 in
theorem all_p34_5 (lo hi : Int) (q : Nat → Int) (ka : Nat → Option Addr) (kn kc : Nat → Nat) (bs bl bh : Nat) {ts tl th : TypeId} (w : World) (hs : w.heap[bs]? = some (.cells (polC q ka kn kc) ts (0, 0))) (hl : w.heap[bl]? = some (.cells #[ι lo] tl (0, 0))) (hh : w.heap[bh]? = some (.cells #[ι hi] th (0, 0))) :
    Gives Tryz.prog 65 #[σ bs 34 5 5, .func (.func 111) #[] #[π bl 0, π bh 0]] w fun v w1 => v = .bool (allI lo hi [q 34, q 35, q 36, q 37, q 38]) ∧ Ch [] w w1 := by
 have S0 := St.given (w := w) [(bs, .cells (polC q ka kn kc) ts (0, 0)), (bl, .cells #[ι lo] tl (0, 0)), (bh, .cells #[ι hi] th (0, 0))] (all_cons hs (all_cons hl (all_cons hh (all_nil))))
 refine enter_ Tryz.func65 rfl (seq_ (reg_ (pure_ (φ) (nil_ (then_n (seq_ (seq_ (reg_ (move_ (pure_ (ι 5) (pure_ (ι 0) (nil_ (then_n (wp_block (loop_ 24 (seq_ (reg_ (pure_ (τ) (nil_ (then_n (seq_ (cond_T (wp_skip (then_n (seq_ (wp_block (seq_ (reg_ (pure_ (π bs 34) (load1_ S0 0 (ι (q 34)) bs 34 (pure_ (ι (q 34)) (nsr_ (move_ (pure_ (ι (q 34)) (call_ 111 #[ι (q 34), π bl 0, π bh 0] ?_)))))))))))))))))))))))))))))))))))
 refine (within1_any lo hi (q 34) bl bh _ (S0.ob 1 false tl) (S0.ob 2 false th)).mono ?_; rintro _ zw1 ⟨rfl, zhc2⟩
 have zS3 := S0.quiet zhc2
 refine pure_ (.bool (!(inB lo hi (q 34)))) (nil_ (then_n ?_))
 refine cond_S (!(inB lo hi (q 34))) ?_ ?_
 · intro zh4
   have zh5 := notT' zh4
   refine seq_ (reg_ (pure_ (φ) (nil_ (then_n (wp_ret (blk_r (then_r (then_r (blk_r (then_r (ret_ rfl (res_ [.tmp 4] [φ] (φ) ⟨res_tmp, trivial⟩) ?_)))))))))))
   exact ⟨congrArg Value.bool (by simp [allI, zh4, zh5]), zS3.ch⟩
 intro zh6
 have zh7 := notF' zh6
 have zh8 := inB_is _ _ _ zh7
 refine wp_skip (blk_n (then_n (reg_ (pure_ (ι 1) (pure_ (ι 1) (nil_ (again_ (seq_ (reg_ (pure_ (τ) (nil_ (then_n (seq_ (cond_T (wp_skip (then_n (seq_ (wp_block (seq_ (reg_ (pure_ (π bs 35) (load1_ zS3 0 (ι (q 35)) bs 35 (pure_ (ι (q 35)) (nsr_ (move_ (pure_ (ι (q 35)) (call_ 111 #[ι (q 35), π bl 0, π bh 0] ?_)))))))))))))))))))))))))))
 refine (within1_any lo hi (q 35) bl bh _ (zS3.ob 1 false tl) (zS3.ob 2 false th)).mono ?_; rintro _ zw9 ⟨rfl, zhc10⟩
 have zS11 := zS3.quiet zhc10
 refine pure_ (.bool (!(inB lo hi (q 35)))) (nil_ (then_n ?_))
 refine cond_S (!(inB lo hi (q 35))) ?_ ?_
 · intro zh12
   have zh13 := notT' zh12
   refine seq_ (reg_ (pure_ (φ) (nil_ (then_n (wp_ret (blk_r (then_r (then_r (blk_r (then_r (ret_ rfl (res_ [.tmp 4] [φ] (φ) ⟨res_tmp, trivial⟩) ?_)))))))))))
   exact ⟨congrArg Value.bool (by simp [allI, zh6, zh7, zh12, zh13]), zS11.ch⟩
 intro zh14
 have zh15 := notF' zh14
 have zh16 := inB_is _ _ _ zh15
 refine wp_skip (blk_n (then_n (reg_ (pure_ (ι 2) (pure_ (ι 2) (nil_ (again_ (seq_ (reg_ (pure_ (τ) (nil_ (then_n (seq_ (cond_T (wp_skip (then_n (seq_ (wp_block (seq_ (reg_ (pure_ (π bs 36) (load1_ zS11 0 (ι (q 36)) bs 36 (pure_ (ι (q 36)) (nsr_ (move_ (pure_ (ι (q 36)) (call_ 111 #[ι (q 36), π bl 0, π bh 0] ?_)))))))))))))))))))))))))))
 refine (within1_any lo hi (q 36) bl bh _ (zS11.ob 1 false tl) (zS11.ob 2 false th)).mono ?_; rintro _ zw17 ⟨rfl, zhc18⟩
 have zS19 := zS11.quiet zhc18
 refine pure_ (.bool (!(inB lo hi (q 36)))) (nil_ (then_n ?_))
 refine cond_S (!(inB lo hi (q 36))) ?_ ?_
 · intro zh20
   have zh21 := notT' zh20
   refine seq_ (reg_ (pure_ (φ) (nil_ (then_n (wp_ret (blk_r (then_r (then_r (blk_r (then_r (ret_ rfl (res_ [.tmp 4] [φ] (φ) ⟨res_tmp, trivial⟩) ?_)))))))))))
   exact ⟨congrArg Value.bool (by simp [allI, zh6, zh7, zh14, zh15, zh20, zh21]), zS19.ch⟩
 intro zh22
 have zh23 := notF' zh22
 have zh24 := inB_is _ _ _ zh23
 refine wp_skip (blk_n (then_n (reg_ (pure_ (ι 3) (pure_ (ι 3) (nil_ (again_ (seq_ (reg_ (pure_ (τ) (nil_ (then_n (seq_ (cond_T (wp_skip (then_n (seq_ (wp_block (seq_ (reg_ (pure_ (π bs 37) (load1_ zS19 0 (ι (q 37)) bs 37 (pure_ (ι (q 37)) (nsr_ (move_ (pure_ (ι (q 37)) (call_ 111 #[ι (q 37), π bl 0, π bh 0] ?_)))))))))))))))))))))))))))
 refine (within1_any lo hi (q 37) bl bh _ (zS19.ob 1 false tl) (zS19.ob 2 false th)).mono ?_; rintro _ zw25 ⟨rfl, zhc26⟩
 have zS27 := zS19.quiet zhc26
 refine pure_ (.bool (!(inB lo hi (q 37)))) (nil_ (then_n ?_))
 refine cond_S (!(inB lo hi (q 37))) ?_ ?_
 · intro zh28
   have zh29 := notT' zh28
   refine seq_ (reg_ (pure_ (φ) (nil_ (then_n (wp_ret (blk_r (then_r (then_r (blk_r (then_r (ret_ rfl (res_ [.tmp 4] [φ] (φ) ⟨res_tmp, trivial⟩) ?_)))))))))))
   exact ⟨congrArg Value.bool (by simp [allI, zh6, zh7, zh14, zh15, zh22, zh23, zh28, zh29]), zS27.ch⟩
 intro zh30
 have zh31 := notF' zh30
 have zh32 := inB_is _ _ _ zh31
 refine wp_skip (blk_n (then_n (reg_ (pure_ (ι 4) (pure_ (ι 4) (nil_ (again_ (seq_ (reg_ (pure_ (τ) (nil_ (then_n (seq_ (cond_T (wp_skip (then_n (seq_ (wp_block (seq_ (reg_ (pure_ (π bs 38) (load1_ zS27 0 (ι (q 38)) bs 38 (pure_ (ι (q 38)) (nsr_ (move_ (pure_ (ι (q 38)) (call_ 111 #[ι (q 38), π bl 0, π bh 0] ?_)))))))))))))))))))))))))))
 refine (within1_any lo hi (q 38) bl bh _ (zS27.ob 1 false tl) (zS27.ob 2 false th)).mono ?_; rintro _ zw33 ⟨rfl, zhc34⟩
 have zS35 := zS27.quiet zhc34
 refine pure_ (.bool (!(inB lo hi (q 38)))) (nil_ (then_n ?_))
 refine cond_S (!(inB lo hi (q 38))) ?_ ?_
 · intro zh36
   have zh37 := notT' zh36
   refine seq_ (reg_ (pure_ (φ) (nil_ (then_n (wp_ret (blk_r (then_r (then_r (blk_r (then_r (ret_ rfl (res_ [.tmp 4] [φ] (φ) ⟨res_tmp, trivial⟩) ?_)))))))))))
   exact ⟨congrArg Value.bool (by simp [allI, zh6, zh7, zh14, zh15, zh22, zh23, zh30, zh31, zh36, zh37]), zS35.ch⟩
 intro zh38
 have zh39 := notF' zh38
 have zh40 := inB_is _ _ _ zh39
 refine wp_skip (blk_n (then_n (reg_ (pure_ (ι 5) (pure_ (ι 5) (nil_ (again_ (seq_ (reg_ (pure_ (φ) (nil_ (then_n (seq_ (cond_F (wp_exit (then_e (then_e (blk_e (then_n (seq_ (reg_ (pure_ (τ) (nil_ (then_n (wp_ret (ret_ rfl (res_ [.tmp 4] [τ] (τ) ⟨res_tmp, trivial⟩) ?_))))))))))))))))))))))))))
 exact ⟨congrArg Value.bool (by simp [allI, zh6, zh7, zh14, zh15, zh22, zh23, zh30, zh31, zh38, zh39]), zS35.ch⟩

set_option maxRecDepth 100000 in
set_option maxHeartbeats 4000000 in
theorem all_p51_3 (lo hi : Int) (q : Nat → Int) (ka : Nat → Option Addr) (kn kc : Nat → Nat) (bs bl bh : Nat) {ts tl th : TypeId} (w : World) (hs : w.heap[bs]? = some (.cells (polC q ka kn kc) ts (0, 0))) (hl : w.heap[bl]? = some (.cells #[ι lo] tl (0, 0))) (hh : w.heap[bh]? = some (.cells #[ι hi] th (0, 0))) :
    Gives Tryz.prog 65 #[σ bs 51 3 3, .func (.func 111) #[] #[π bl 0, π bh 0]] w fun v w1 => v = .bool (allI lo hi [q 51, q 52, q 53]) ∧ Ch [] w w1 := by
 have S0 := St.given (w := w) [(bs, .cells (polC q ka kn kc) ts (0, 0)), (bl, .cells #[ι lo] tl (0, 0)), (bh, .cells #[ι hi] th (0, 0))] (all_cons hs (all_cons hl (all_cons hh (all_nil))))
 refine enter_ Tryz.func65 rfl (seq_ (reg_ (pure_ (φ) (nil_ (then_n (seq_ (seq_ (reg_ (move_ (pure_ (ι 3) (pure_ (ι 0) (nil_ (then_n (wp_block (loop_ 24 (seq_ (reg_ (pure_ (τ) (nil_ (then_n (seq_ (cond_T (wp_skip (then_n (seq_ (wp_block (seq_ (reg_ (pure_ (π bs 51) (load1_ S0 0 (ι (q 51)) bs 51 (pure_ (ι (q 51)) (nsr_ (move_ (pure_ (ι (q 51)) (call_ 111 #[ι (q 51), π bl 0, π bh 0] ?_)))))))))))))))))))))))))))))))))))
 refine (within1_any lo hi (q 51) bl bh _ (S0.ob 1 false tl) (S0.ob 2 false th)).mono ?_; rintro _ zw1 ⟨rfl, zhc2⟩
 have zS3 := S0.quiet zhc2
 refine pure_ (.bool (!(inB lo hi (q 51)))) (nil_ (then_n ?_))
 refine cond_S (!(inB lo hi (q 51))) ?_ ?_
 · intro zh4
   have zh5 := notT' zh4
   refine seq_ (reg_ (pure_ (φ) (nil_ (then_n (wp_ret (blk_r (then_r (then_r (blk_r (then_r (ret_ rfl (res_ [.tmp 4] [φ] (φ) ⟨res_tmp, trivial⟩) ?_)))))))))))
   exact ⟨congrArg Value.bool (by simp [allI, zh4, zh5]), zS3.ch⟩
 intro zh6
 have zh7 := notF' zh6
 have zh8 := inB_is _ _ _ zh7
 refine wp_skip (blk_n (then_n (reg_ (pure_ (ι 1) (pure_ (ι 1) (nil_ (again_ (seq_ (reg_ (pure_ (τ) (nil_ (then_n (seq_ (cond_T (wp_skip (then_n (seq_ (wp_block (seq_ (reg_ (pure_ (π bs 52) (load1_ zS3 0 (ι (q 52)) bs 52 (pure_ (ι (q 52)) (nsr_ (move_ (pure_ (ι (q 52)) (call_ 111 #[ι (q 52), π bl 0, π bh 0] ?_)))))))))))))))))))))))))))
 refine (within1_any lo hi (q 52) bl bh _ (zS3.ob 1 false tl) (zS3.ob 2 false th)).mono ?_; rintro _ zw9 ⟨rfl, zhc10⟩
 have zS11 := zS3.quiet zhc10
 refine pure_ (.bool (!(inB lo hi (q 52)))) (nil_ (then_n ?_))
 refine cond_S (!(inB lo hi (q 52))) ?_ ?_
 · intro zh12
   have zh13 := notT' zh12
   refine seq_ (reg_ (pure_ (φ) (nil_ (then_n (wp_ret (blk_r (then_r (then_r (blk_r (then_r (ret_ rfl (res_ [.tmp 4] [φ] (φ) ⟨res_tmp, trivial⟩) ?_)))))))))))
   exact ⟨congrArg Value.bool (by simp [allI, zh6, zh7, zh12, zh13]), zS11.ch⟩
 intro zh14
 have zh15 := notF' zh14
 have zh16 := inB_is _ _ _ zh15
 refine wp_skip (blk_n (then_n (reg_ (pure_ (ι 2) (pure_ (ι 2) (nil_ (again_ (seq_ (reg_ (pure_ (τ) (nil_ (then_n (seq_ (cond_T (wp_skip (then_n (seq_ (wp_block (seq_ (reg_ (pure_ (π bs 53) (load1_ zS11 0 (ι (q 53)) bs 53 (pure_ (ι (q 53)) (nsr_ (move_ (pure_ (ι (q 53)) (call_ 111 #[ι (q 53), π bl 0, π bh 0] ?_)))))))))))))))))))))))))))
 refine (within1_any lo hi (q 53) bl bh _ (zS11.ob 1 false tl) (zS11.ob 2 false th)).mono ?_; rintro _ zw17 ⟨rfl, zhc18⟩
 have zS19 := zS11.quiet zhc18
 refine pure_ (.bool (!(inB lo hi (q 53)))) (nil_ (then_n ?_))
 refine cond_S (!(inB lo hi (q 53))) ?_ ?_
 · intro zh20
   have zh21 := notT' zh20
   refine seq_ (reg_ (pure_ (φ) (nil_ (then_n (wp_ret (blk_r (then_r (then_r (blk_r (then_r (ret_ rfl (res_ [.tmp 4] [φ] (φ) ⟨res_tmp, trivial⟩) ?_)))))))))))
   exact ⟨congrArg Value.bool (by simp [allI, zh6, zh7, zh14, zh15, zh20, zh21]), zS19.ch⟩
 intro zh22
 have zh23 := notF' zh22
 have zh24 := inB_is _ _ _ zh23
 refine wp_skip (blk_n (then_n (reg_ (pure_ (ι 3) (pure_ (ι 3) (nil_ (again_ (seq_ (reg_ (pure_ (φ) (nil_ (then_n (seq_ (cond_F (wp_exit (then_e (then_e (blk_e (then_n (seq_ (reg_ (pure_ (τ) (nil_ (then_n (wp_ret (ret_ rfl (res_ [.tmp 4] [τ] (τ) ⟨res_tmp, trivial⟩) ?_))))))))))))))))))))))))))
 exact ⟨congrArg Value.bool (by simp [allI, zh6, zh7, zh14, zh15, zh22, zh23]), zS19.ch⟩

set_option maxRecDepth 100000 in
set_option maxHeartbeats 4000000 in
theorem key_any (a : Option Addr) (n c : Nat) (w : World) :
    Gives Tryz.prog 64 #[.slice a n c] w fun v w1 => v = .bool (keyB n) ∧ Ch [] w w1 := by
 have S0 := St.nil [] w
 refine enter_ Tryz.func64 rfl (seq_ (reg_ (pure_ (φ) (nsr_ (pure_ (.slice a n c) (pure_ (ι ((n : Nat) : Int)) (pure_ (.bool (decide (1 ≤ ((n : Nat) : Int)))) (move_ ?_))))))))
 refine slot_ 6 (decide (1 ≤ ((n : Nat) : Int))) ?_ ?_
 · intro zh1
   have zh2 := leT' zh1
   refine pure_ (.slice a n c) (pure_ (ι ((n : Nat) : Int)) (pure_ (.bool (decide (((n : Nat) : Int) ≤ 64))) (pure_ (.bool (decide (((n : Nat) : Int) ≤ 64))) (assign_ (nil_ (then_n (wp_ret (ret_ rfl (res_ [.tmp 2] [.bool (decide (((n : Nat) : Int) ≤ 64))] (.bool (decide (((n : Nat) : Int) ≤ 64))) ⟨res_tmp, trivial⟩) ?_))))))))
   exact ⟨congrArg Value.bool (by simp [keyB, zh1]), S0.ch⟩
 intro zh3
 have zh4 := leF' zh3
 refine skip_ (skip_ (skip_ (pure_ (φ) (pure_ (φ) (nil_ (then_n (wp_ret (ret_ rfl (res_ [.tmp 2] [φ] (φ) ⟨res_tmp, trivial⟩) ?_))))))))
 exact ⟨congrArg Value.bool (by simp [keyB, zh3]), S0.ch⟩

set_option maxRecDepth 100000 in
set_option maxHeartbeats 4000000 in
theorem roles_any (n : Int) (w : World) :
    Gives Tryz.prog 66 #[ι n] w fun v w1 => v = .bool (setB n) ∧ Ch [] w w1 := by
 have S0 := St.nil [] w
 refine enter_ Tryz.func66 rfl (seq_ (reg_ (pure_ (φ) (nsr_ (call_ 69 #[ι 0, ι 15] (enter_ Tryz.func69 rfl (seq_ (reg_ ?_))))))))
 refine new_ S0 (fun b => π b 0) (.cells #[ι 0] 3) ?_
 intro zb1 zw2 zS3
 refine new_ zS3 (fun b => π b 0) (.cells #[ι 15] 3) ?_
 intro zb4 zw5 zS6
 refine pure_ (.nilFunc) (nsr_ (pure_ (.func (.func 111) #[] #[π zb1 0, π zb4 0]) (assign_ (nil_ (then_n (wp_ret (ret_ rfl (res_ [.tmp 4] [.func (.func 111) #[] #[π zb1 0, π zb4 0]] (.func (.func 111) #[] #[π zb1 0, π zb4 0]) ⟨res_tmp, trivial⟩) (pure_ (ι n) (call_ 111 #[ι n, π zb1 0, π zb4 0] ?_)))))))))
 refine (within1_any 0 15 n zb1 zb4 _ (zS6.ob 1 true 3) (zS6.ob 0 true 3)).mono ?_; rintro _ zw7 ⟨rfl, zhc8⟩
 have zS9 := zS6.quiet zhc8
 refine pure_ (.bool (inB 0 15 n)) ?_
 refine slot_ 6 (inB 0 15 n) ?_ ?_
 · intro zh10
   have zh11 := inB_is _ _ _ zh10
   refine pure_ (ι n) (pureE_ (ι (Int.tmod n 2)) (ι (n % 2)) (congrArg _ (IntWalk.rem_in _ _ (by omega))) (pure_ (.bool ((n % 2) == 0)) (pure_ (.bool ((n % 2) == 0)) (pure_ (.bool ((n % 2) == 0)) (nil_ (then_n (wp_ret (ret_ rfl (res_ [.tmp 2] [.bool ((n % 2) == 0)] (.bool ((n % 2) == 0)) ⟨res_tmp, trivial⟩) ?_))))))))
   exact ⟨congrArg Value.bool (by simp [setB, zh10]), zS9.ch⟩
 intro zh12
 refine skip_ (skip_ (skip_ (pure_ (φ) (pure_ (φ) (nil_ (then_n (wp_ret (ret_ rfl (res_ [.tmp 2] [φ] (φ) ⟨res_tmp, trivial⟩) ?_))))))))
 exact ⟨congrArg Value.bool (by simp [setB, zh12]), zS9.ch⟩

set_option maxRecDepth 100000 in
set_option maxHeartbeats 4000000 in
theorem caps_any (x0 x1 x2 x3 : Int) (w : World) :
    Gives Tryz.prog 68 #[.agg #[ι x0, ι x1, ι x2, ι x3]] w fun v w1 => v = .bool (allI 0 15 [x0, x1, x2, x3]) ∧ Ch [] w w1 := by
 have S0 := St.nil [] w
 refine enter_ Tryz.func68 rfl (seq_ (reg_ ?_))
 refine new_ S0 (fun b => π b 0) (.cells #[ι x0, ι x1, ι x2, ι x3] 25) ?_
 intro zb1 zw2 zS3
 refine pure_ (φ) (nil_ (then_n (seq_ ?_)))
 refine drawnL_ 2 [⟨0, fun _ => σ zb1 0 4 4, fun _ => []⟩, ⟨2, fun ids => .func (.func 111) #[] #[π (ids.getD 0 0) 0, π (ids.getD 1 0) 0], fun ids => [((ids.getD 0 0), .cells #[ι 0] 3 (0, 0)), ((ids.getD 1 0), .cells #[ι 15] 3 (0, 0))]⟩] [[2, 0], [2, 1], [3, 0], [3, 1], [3, 2]] ?_ ?_
 · refine step_cons qP_ ?_
   refine step_cons ?_ ?_
   · intro zy4 zw5 zhc6 zhf7 zhp8
     have zS9 := zS3.quiet zhc6
     refine step1 ?_
     refine yenv [] (ag_nil) ?_
     have zS10 := zS9.loc
     refine Y.call_ 69 #[ι 0, ι 15] ?_
     refine enter_ Tryz.func69 rfl (seq_ (reg_ ?_))
     refine new_ zS10 (fun b => π b 0) (.cells #[ι 0] 3) ?_
     intro zb11 zw12 zS13
     refine new_ zS13 (fun b => π b 0) (.cells #[ι 15] 3) ?_
     intro zb14 zw15 zS16
     refine pure_ (.nilFunc) (nsr_ (pure_ (.func (.func 111) #[] #[π zb11 0, π zb14 0]) (assign_ (nil_ (then_n (wp_ret (ret_ rfl (res_ [.tmp 4] [.func (.func 111) #[] #[π zb11 0, π zb14 0]] (.func (.func 111) #[] #[π zb11 0, π zb14 0]) ⟨res_tmp, trivial⟩) ?_)))))))
     exact ⟨zS16.ch, Sp.mk_holds [zb11, zb14] (all_cons (zS16.isNew zhc6.size 1 (by kernel_rfl)) (all_cons (zS16.isNew zhc6.size 0 (by kernel_rfl)) (all_nil)))⟩
   exact step_nil
 intro zv17 zw18 zhc19 zha20
 have zh21 : zv17 0 = σ zb1 0 4 4 := (Sp.out0 (zha20 0 (by kernel_rfl))).1
 obtain ⟨zb23, zb24, zh22', zg25'⟩ := Sp.out2 (zha20 1 (by kernel_rfl))
 have zh22 : zv17 1 = .func (.func 111) #[] #[π zb23 0, π zb24 0] := zh22'
 have zg25 : ∀ zp ∈ ([(zb23, .cells #[ι 0] 3 (0, 0)), (zb24, .cells #[ι 15] 3 (0, 0))] : List (Nat × Obj)), zw2.heap.size ≤ zp.1 ∧ zw18.heap[zp.1]? = some zp.2 := zg25'
 have zS26 := zS3.ro zhc19 ([(zb23, .cells #[ι 0] 3 (0, 0)), (zb24, .cells #[ι 15] 3 (0, 0))]) (zg25)
 refine ⟨[σ zb1 0 4 4, .func (.func 111) #[] #[π zb23 0, π zb24 0]], by kernel_rfl, va_cons zh21 (va_cons zh22 (va_nil)), ?_⟩
 refine call_ 65 #[σ zb1 0 4 4, .func (.func 111) #[] #[π zb23 0, π zb24 0]] ?_
 refine (all_s4 0 15 x0 x1 x2 x3 zb1 zb23 zb24 _ (zS26.ob 2 true 25) (zS26.ob 0 false 3) (zS26.ob 1 false 3)).mono ?_; rintro _ zw27 ⟨rfl, zhc28⟩
 have zS29 := zS26.quiet zhc28
 refine assign_ (nil_ (then_n (wp_ret (ret_ rfl (res_ [.tmp 2] [.bool (allI 0 15 [x0, x1, x2, x3])] (.bool (allI 0 15 [x0, x1, x2, x3])) ⟨res_tmp, trivial⟩) ?_))))
 exact ⟨rfl, zS29.ch⟩

set_option maxRecDepth 100000 in
set_option maxHeartbeats 4000000 in
theorem all_keys (q : Nat → Int) (ka : Nat → Option Addr) (kn kc : Nat → Nat) (bs : Nat) {ts : TypeId} (w : World) (hs : w.heap[bs]? = some (.cells (polC q ka kn kc) ts (0, 0))) :
    Gives Tryz.prog 63 #[σ bs 5 3 3, .func (.func 64) #[] #[]] w fun v w1 => v = .bool (keys3 kn) ∧ Ch [] w w1 := by
 have S0 := St.given (w := w) [(bs, .cells (polC q ka kn kc) ts (0, 0))] (all_cons hs (all_nil))
 refine enter_ Tryz.func63 rfl (seq_ (reg_ (pure_ (φ) (nil_ (then_n (seq_ (seq_ (reg_ (move_ (pure_ (ι 3) (pure_ (ι 0) (nil_ (then_n (wp_block (loop_ 24 (seq_ (reg_ (pure_ (τ) (nil_ (then_n (seq_ (cond_T (wp_skip (then_n (seq_ (wp_block (seq_ (reg_ (pure_ (π bs 5) (load1_ S0 0 (.slice (ka 0) (kn 0) (kc 0)) bs 5 (assign_ (nsr_ (pure_ (.func (.func 64) #[] #[]) (move_ (call_ 64 #[.slice (ka 0) (kn 0) (kc 0)] ?_)))))))))))))))))))))))))))))))))))
 refine (key_any (ka 0) (kn 0) (kc 0) _).mono ?_; rintro _ zw1 ⟨rfl, zhc2⟩
 have zS3 := S0.quiet zhc2
 refine pure_ (.bool (!(keyB (kn 0)))) (nil_ (then_n ?_))
 refine cond_S (!(keyB (kn 0))) ?_ ?_
 · intro zh4
   have zh5 := notT' zh4
   refine seq_ (reg_ (pure_ (φ) (nil_ (then_n (wp_ret (blk_r (then_r (then_r (blk_r (then_r (ret_ rfl (res_ [.tmp 4] [φ] (φ) ⟨res_tmp, trivial⟩) ?_)))))))))))
   exact ⟨congrArg Value.bool (by simp [keys3, roles3, tab5, zh4, zh5]), zS3.ch⟩
 intro zh6
 have zh7 := notF' zh6
 refine wp_skip (blk_n (then_n (reg_ (pure_ (ι 1) (pure_ (ι 1) (nil_ (again_ (seq_ (reg_ (pure_ (τ) (nil_ (then_n (seq_ (cond_T (wp_skip (then_n (seq_ (wp_block (seq_ (reg_ (pure_ (π bs 6) (load1_ zS3 0 (.slice (ka 1) (kn 1) (kc 1)) bs 6 (assign_ (nsr_ (pure_ (.func (.func 64) #[] #[]) (move_ (call_ 64 #[.slice (ka 1) (kn 1) (kc 1)] ?_)))))))))))))))))))))))))))
 refine (key_any (ka 1) (kn 1) (kc 1) _).mono ?_; rintro _ zw8 ⟨rfl, zhc9⟩
 have zS10 := zS3.quiet zhc9
 refine pure_ (.bool (!(keyB (kn 1)))) (nil_ (then_n ?_))
 refine cond_S (!(keyB (kn 1))) ?_ ?_
 · intro zh11
   have zh12 := notT' zh11
   refine seq_ (reg_ (pure_ (φ) (nil_ (then_n (wp_ret (blk_r (then_r (then_r (blk_r (then_r (ret_ rfl (res_ [.tmp 4] [φ] (φ) ⟨res_tmp, trivial⟩) ?_)))))))))))
   exact ⟨congrArg Value.bool (by simp [keys3, roles3, tab5, zh6, zh7, zh11, zh12]), zS10.ch⟩
 intro zh13
 have zh14 := notF' zh13
 refine wp_skip (blk_n (then_n (reg_ (pure_ (ι 2) (pure_ (ι 2) (nil_ (again_ (seq_ (reg_ (pure_ (τ) (nil_ (then_n (seq_ (cond_T (wp_skip (then_n (seq_ (wp_block (seq_ (reg_ (pure_ (π bs 7) (load1_ zS10 0 (.slice (ka 2) (kn 2) (kc 2)) bs 7 (assign_ (nsr_ (pure_ (.func (.func 64) #[] #[]) (move_ (call_ 64 #[.slice (ka 2) (kn 2) (kc 2)] ?_)))))))))))))))))))))))))))
 refine (key_any (ka 2) (kn 2) (kc 2) _).mono ?_; rintro _ zw15 ⟨rfl, zhc16⟩
 have zS17 := zS10.quiet zhc16
 refine pure_ (.bool (!(keyB (kn 2)))) (nil_ (then_n ?_))
 refine cond_S (!(keyB (kn 2))) ?_ ?_
 · intro zh18
   have zh19 := notT' zh18
   refine seq_ (reg_ (pure_ (φ) (nil_ (then_n (wp_ret (blk_r (then_r (then_r (blk_r (then_r (ret_ rfl (res_ [.tmp 4] [φ] (φ) ⟨res_tmp, trivial⟩) ?_)))))))))))
   exact ⟨congrArg Value.bool (by simp [keys3, roles3, tab5, zh6, zh7, zh13, zh14, zh18, zh19]), zS17.ch⟩
 intro zh20
 have zh21 := notF' zh20
 refine wp_skip (blk_n (then_n (reg_ (pure_ (ι 3) (pure_ (ι 3) (nil_ (again_ (seq_ (reg_ (pure_ (φ) (nil_ (then_n (seq_ (cond_F (wp_exit (then_e (then_e (blk_e (then_n (seq_ (reg_ (pure_ (τ) (nil_ (then_n (wp_ret (ret_ rfl (res_ [.tmp 4] [τ] (τ) ⟨res_tmp, trivial⟩) ?_))))))))))))))))))))))))))
 exact ⟨congrArg Value.bool (by simp [keys3, roles3, tab5, zh6, zh7, zh13, zh14, zh20, zh21]), zS17.ch⟩

set_option maxRecDepth 100000 in
set_option maxHeartbeats 4000000 in
theorem all_roles (q : Nat → Int) (ka : Nat → Option Addr) (kn kc : Nat → Nat) (bs : Nat) {ts : TypeId} (w : World) (hs : w.heap[bs]? = some (.cells (polC q ka kn kc) ts (0, 0))) :
    Gives Tryz.prog 65 #[σ bs 10 3 4, .func (.func 66) #[] #[]] w fun v w1 => v = .bool (roles3 q) ∧ Ch [] w w1 := by
 have S0 := St.given (w := w) [(bs, .cells (polC q ka kn kc) ts (0, 0))] (all_cons hs (all_nil))
 refine enter_ Tryz.func65 rfl (seq_ (reg_ (pure_ (φ) (nil_ (then_n (seq_ (seq_ (reg_ (move_ (pure_ (ι 3) (pure_ (ι 0) (nil_ (then_n (wp_block (loop_ 24 (seq_ (reg_ (pure_ (τ) (nil_ (then_n (seq_ (cond_T (wp_skip (then_n (seq_ (wp_block (seq_ (reg_ (pure_ (π bs 10) (load1_ S0 0 (ι (q 10)) bs 10 (pure_ (ι (q 10)) (nsr_ (pure_ (.func (.func 66) #[] #[]) (pure_ (ι (q 10)) (call_ 66 #[ι (q 10)] ?_)))))))))))))))))))))))))))))))))))
 refine (roles_any (q 10) _).mono ?_; rintro _ zw1 ⟨rfl, zhc2⟩
 have zS3 := S0.quiet zhc2
 refine pure_ (.bool (!(setB (q 10)))) (nil_ (then_n ?_))
 refine cond_S (!(setB (q 10))) ?_ ?_
 · intro zh4
   have zh5 := notT' zh4
   refine seq_ (reg_ (pure_ (φ) (nil_ (then_n (wp_ret (blk_r (then_r (then_r (blk_r (then_r (ret_ rfl (res_ [.tmp 4] [φ] (φ) ⟨res_tmp, trivial⟩) ?_)))))))))))
   exact ⟨congrArg Value.bool (by simp [keys3, roles3, tab5, zh4, zh5]), zS3.ch⟩
 intro zh6
 have zh7 := notF' zh6
 refine wp_skip (blk_n (then_n (reg_ (pure_ (ι 1) (pure_ (ι 1) (nil_ (again_ (seq_ (reg_ (pure_ (τ) (nil_ (then_n (seq_ (cond_T (wp_skip (then_n (seq_ (wp_block (seq_ (reg_ (pure_ (π bs 11) (load1_ zS3 0 (ι (q 11)) bs 11 (pure_ (ι (q 11)) (nsr_ (pure_ (.func (.func 66) #[] #[]) (pure_ (ι (q 11)) (call_ 66 #[ι (q 11)] ?_)))))))))))))))))))))))))))
 refine (roles_any (q 11) _).mono ?_; rintro _ zw8 ⟨rfl, zhc9⟩
 have zS10 := zS3.quiet zhc9
 refine pure_ (.bool (!(setB (q 11)))) (nil_ (then_n ?_))
 refine cond_S (!(setB (q 11))) ?_ ?_
 · intro zh11
   have zh12 := notT' zh11
   refine seq_ (reg_ (pure_ (φ) (nil_ (then_n (wp_ret (blk_r (then_r (then_r (blk_r (then_r (ret_ rfl (res_ [.tmp 4] [φ] (φ) ⟨res_tmp, trivial⟩) ?_)))))))))))
   exact ⟨congrArg Value.bool (by simp [keys3, roles3, tab5, zh6, zh7, zh11, zh12]), zS10.ch⟩
 intro zh13
 have zh14 := notF' zh13
 refine wp_skip (blk_n (then_n (reg_ (pure_ (ι 2) (pure_ (ι 2) (nil_ (again_ (seq_ (reg_ (pure_ (τ) (nil_ (then_n (seq_ (cond_T (wp_skip (then_n (seq_ (wp_block (seq_ (reg_ (pure_ (π bs 12) (load1_ zS10 0 (ι (q 12)) bs 12 (pure_ (ι (q 12)) (nsr_ (pure_ (.func (.func 66) #[] #[]) (pure_ (ι (q 12)) (call_ 66 #[ι (q 12)] ?_)))))))))))))))))))))))))))
 refine (roles_any (q 12) _).mono ?_; rintro _ zw15 ⟨rfl, zhc16⟩
 have zS17 := zS10.quiet zhc16
 refine pure_ (.bool (!(setB (q 12)))) (nil_ (then_n ?_))
 refine cond_S (!(setB (q 12))) ?_ ?_
 · intro zh18
   have zh19 := notT' zh18
   refine seq_ (reg_ (pure_ (φ) (nil_ (then_n (wp_ret (blk_r (then_r (then_r (blk_r (then_r (ret_ rfl (res_ [.tmp 4] [φ] (φ) ⟨res_tmp, trivial⟩) ?_)))))))))))
   exact ⟨congrArg Value.bool (by simp [keys3, roles3, tab5, zh6, zh7, zh13, zh14, zh18, zh19]), zS17.ch⟩
 intro zh20
 have zh21 := notF' zh20
 refine wp_skip (blk_n (then_n (reg_ (pure_ (ι 3) (pure_ (ι 3) (nil_ (again_ (seq_ (reg_ (pure_ (φ) (nil_ (then_n (seq_ (cond_F (wp_exit (then_e (then_e (blk_e (then_n (seq_ (reg_ (pure_ (τ) (nil_ (then_n (wp_ret (ret_ rfl (res_ [.tmp 4] [τ] (τ) ⟨res_tmp, trivial⟩) ?_))))))))))))))))))))))))))
 exact ⟨congrArg Value.bool (by simp [keys3, roles3, tab5, zh6, zh7, zh13, zh14, zh20, zh21]), zS17.ch⟩

set_option maxRecDepth 100000 in
set_option maxHeartbeats 4000000 in
theorem all_table (q : Nat → Int) (ka : Nat → Option Addr) (kn kc : Nat → Nat) (bs : Nat) {ts : TypeId} (w : World) (hs : w.heap[bs]? = some (.cells (polC q ka kn kc) ts (0, 0))) :
    Gives Tryz.prog 67 #[σ bs 14 5 5, .func (.func 68) #[] #[]] w fun v w1 => v = .bool (tab5 q) ∧ Ch [] w w1 := by
 have S0 := St.given (w := w) [(bs, .cells (polC q ka kn kc) ts (0, 0))] (all_cons hs (all_nil))
 refine enter_ Tryz.func67 rfl (seq_ (reg_ (pure_ (φ) (nil_ (then_n (seq_ (seq_ (reg_ (move_ (pure_ (ι 5) (pure_ (ι 0) (nil_ (then_n (wp_block (loop_ 24 (seq_ (reg_ (pure_ (τ) (nil_ (then_n (seq_ (cond_T (wp_skip (then_n (seq_ (wp_block (seq_ (reg_ (pure_ (π bs 14) (loadN_ S0 0 4 #[ι (q 14), ι (q 15), ι (q 16), ι (q 17)] bs 14 ?_))))))))))))))))))))))))))))))
 refine new_ S0 (fun b => π b 0) (.cells #[ι 0, ι 0, ι 0, ι 0] 25) ?_
 intro zb1 zw2 zS3
 refine store_ zS3 0 (.agg #[ι (q 14), ι (q 15), ι (q 16), ι (q 17)]) zb1 0 ?_
 intro zw4 zS5
 refine nsr_ (pure_ (.func (.func 68) #[] #[]) (loadN_ zS5 0 4 #[ι (q 14), ι (q 15), ι (q 16), ι (q 17)] zb1 0 (call_ 68 #[.agg #[ι (q 14), ι (q 15), ι (q 16), ι (q 17)]] ?_)))
 refine (caps_any (q 14) (q 15) (q 16) (q 17) _).mono ?_; rintro _ zw6 ⟨rfl, zhc7⟩
 have zS8 := zS5.quiet zhc7
 refine pure_ (.bool (!(allI 0 15 [(q 14), (q 15), (q 16), (q 17)]))) (nil_ (then_n ?_))
 refine cond_S (!(allI 0 15 [(q 14), (q 15), (q 16), (q 17)])) ?_ ?_
 · intro zh9
   have zh10 := notT' zh9
   refine seq_ (reg_ (pure_ (φ) (nil_ (then_n (wp_ret (blk_r (then_r (then_r (blk_r (then_r (ret_ rfl (res_ [.tmp 4] [φ] (φ) ⟨res_tmp, trivial⟩) ?_)))))))))))
   exact ⟨congrArg Value.bool (by simp [keys3, roles3, tab5, zh9, zh10]), zS8.ch⟩
 intro zh11
 have zh12 := notF' zh11
 refine wp_skip (blk_n (then_n (reg_ (pure_ (ι 1) (pure_ (ι 1) (nil_ (again_ (seq_ (reg_ (pure_ (τ) (nil_ (then_n (seq_ (cond_T (wp_skip (then_n (seq_ (wp_block (seq_ (reg_ (pure_ (π bs 18) (loadN_ zS8 1 4 #[ι (q 18), ι (q 19), ι (q 20), ι (q 21)] bs 18 ?_))))))))))))))))))))))
 refine new_ zS8 (fun b => π b 0) (.cells #[ι 0, ι 0, ι 0, ι 0] 25) ?_
 intro zb13 zw14 zS15
 refine store_ zS15 0 (.agg #[ι (q 18), ι (q 19), ι (q 20), ι (q 21)]) zb13 0 ?_
 intro zw16 zS17
 refine nsr_ (pure_ (.func (.func 68) #[] #[]) (loadN_ zS17 0 4 #[ι (q 18), ι (q 19), ι (q 20), ι (q 21)] zb13 0 (call_ 68 #[.agg #[ι (q 18), ι (q 19), ι (q 20), ι (q 21)]] ?_)))
 refine (caps_any (q 18) (q 19) (q 20) (q 21) _).mono ?_; rintro _ zw18 ⟨rfl, zhc19⟩
 have zS20 := zS17.quiet zhc19
 refine pure_ (.bool (!(allI 0 15 [(q 18), (q 19), (q 20), (q 21)]))) (nil_ (then_n ?_))
 refine cond_S (!(allI 0 15 [(q 18), (q 19), (q 20), (q 21)])) ?_ ?_
 · intro zh21
   have zh22 := notT' zh21
   refine seq_ (reg_ (pure_ (φ) (nil_ (then_n (wp_ret (blk_r (then_r (then_r (blk_r (then_r (ret_ rfl (res_ [.tmp 4] [φ] (φ) ⟨res_tmp, trivial⟩) ?_)))))))))))
   exact ⟨congrArg Value.bool (by simp [keys3, roles3, tab5, zh11, zh12, zh21, zh22]), zS20.ch⟩
 intro zh23
 have zh24 := notF' zh23
 refine wp_skip (blk_n (then_n (reg_ (pure_ (ι 2) (pure_ (ι 2) (nil_ (again_ (seq_ (reg_ (pure_ (τ) (nil_ (then_n (seq_ (cond_T (wp_skip (then_n (seq_ (wp_block (seq_ (reg_ (pure_ (π bs 22) (loadN_ zS20 2 4 #[ι (q 22), ι (q 23), ι (q 24), ι (q 25)] bs 22 ?_))))))))))))))))))))))
 refine new_ zS20 (fun b => π b 0) (.cells #[ι 0, ι 0, ι 0, ι 0] 25) ?_
 intro zb25 zw26 zS27
 refine store_ zS27 0 (.agg #[ι (q 22), ι (q 23), ι (q 24), ι (q 25)]) zb25 0 ?_
 intro zw28 zS29
 refine nsr_ (pure_ (.func (.func 68) #[] #[]) (loadN_ zS29 0 4 #[ι (q 22), ι (q 23), ι (q 24), ι (q 25)] zb25 0 (call_ 68 #[.agg #[ι (q 22), ι (q 23), ι (q 24), ι (q 25)]] ?_)))
 refine (caps_any (q 22) (q 23) (q 24) (q 25) _).mono ?_; rintro _ zw30 ⟨rfl, zhc31⟩
 have zS32 := zS29.quiet zhc31
 refine pure_ (.bool (!(allI 0 15 [(q 22), (q 23), (q 24), (q 25)]))) (nil_ (then_n ?_))
 refine cond_S (!(allI 0 15 [(q 22), (q 23), (q 24), (q 25)])) ?_ ?_
 · intro zh33
   have zh34 := notT' zh33
   refine seq_ (reg_ (pure_ (φ) (nil_ (then_n (wp_ret (blk_r (then_r (then_r (blk_r (then_r (ret_ rfl (res_ [.tmp 4] [φ] (φ) ⟨res_tmp, trivial⟩) ?_)))))))))))
   exact ⟨congrArg Value.bool (by simp [keys3, roles3, tab5, zh11, zh12, zh23, zh24, zh33, zh34]), zS32.ch⟩
 intro zh35
 have zh36 := notF' zh35
 refine wp_skip (blk_n (then_n (reg_ (pure_ (ι 3) (pure_ (ι 3) (nil_ (again_ (seq_ (reg_ (pure_ (τ) (nil_ (then_n (seq_ (cond_T (wp_skip (then_n (seq_ (wp_block (seq_ (reg_ (pure_ (π bs 26) (loadN_ zS32 3 4 #[ι (q 26), ι (q 27), ι (q 28), ι (q 29)] bs 26 ?_))))))))))))))))))))))
 refine new_ zS32 (fun b => π b 0) (.cells #[ι 0, ι 0, ι 0, ι 0] 25) ?_
 intro zb37 zw38 zS39
 refine store_ zS39 0 (.agg #[ι (q 26), ι (q 27), ι (q 28), ι (q 29)]) zb37 0 ?_
 intro zw40 zS41
 refine nsr_ (pure_ (.func (.func 68) #[] #[]) (loadN_ zS41 0 4 #[ι (q 26), ι (q 27), ι (q 28), ι (q 29)] zb37 0 (call_ 68 #[.agg #[ι (q 26), ι (q 27), ι (q 28), ι (q 29)]] ?_)))
 refine (caps_any (q 26) (q 27) (q 28) (q 29) _).mono ?_; rintro _ zw42 ⟨rfl, zhc43⟩
 have zS44 := zS41.quiet zhc43
 refine pure_ (.bool (!(allI 0 15 [(q 26), (q 27), (q 28), (q 29)]))) (nil_ (then_n ?_))
 refine cond_S (!(allI 0 15 [(q 26), (q 27), (q 28), (q 29)])) ?_ ?_
 · intro zh45
   have zh46 := notT' zh45
   refine seq_ (reg_ (pure_ (φ) (nil_ (then_n (wp_ret (blk_r (then_r (then_r (blk_r (then_r (ret_ rfl (res_ [.tmp 4] [φ] (φ) ⟨res_tmp, trivial⟩) ?_)))))))))))
   exact ⟨congrArg Value.bool (by simp [keys3, roles3, tab5, zh11, zh12, zh23, zh24, zh35, zh36, zh45, zh46]), zS44.ch⟩
 intro zh47
 have zh48 := notF' zh47
 refine wp_skip (blk_n (then_n (reg_ (pure_ (ι 4) (pure_ (ι 4) (nil_ (again_ (seq_ (reg_ (pure_ (τ) (nil_ (then_n (seq_ (cond_T (wp_skip (then_n (seq_ (wp_block (seq_ (reg_ (pure_ (π bs 30) (loadN_ zS44 4 4 #[ι (q 30), ι (q 31), ι (q 32), ι (q 33)] bs 30 ?_))))))))))))))))))))))
 refine new_ zS44 (fun b => π b 0) (.cells #[ι 0, ι 0, ι 0, ι 0] 25) ?_
 intro zb49 zw50 zS51
 refine store_ zS51 0 (.agg #[ι (q 30), ι (q 31), ι (q 32), ι (q 33)]) zb49 0 ?_
 intro zw52 zS53
 refine nsr_ (pure_ (.func (.func 68) #[] #[]) (loadN_ zS53 0 4 #[ι (q 30), ι (q 31), ι (q 32), ι (q 33)] zb49 0 (call_ 68 #[.agg #[ι (q 30), ι (q 31), ι (q 32), ι (q 33)]] ?_)))
 refine (caps_any (q 30) (q 31) (q 32) (q 33) _).mono ?_; rintro _ zw54 ⟨rfl, zhc55⟩
 have zS56 := zS53.quiet zhc55
 refine pure_ (.bool (!(allI 0 15 [(q 30), (q 31), (q 32), (q 33)]))) (nil_ (then_n ?_))
 refine cond_S (!(allI 0 15 [(q 30), (q 31), (q 32), (q 33)])) ?_ ?_
 · intro zh57
   have zh58 := notT' zh57
   refine seq_ (reg_ (pure_ (φ) (nil_ (then_n (wp_ret (blk_r (then_r (then_r (blk_r (then_r (ret_ rfl (res_ [.tmp 4] [φ] (φ) ⟨res_tmp, trivial⟩) ?_)))))))))))
   exact ⟨congrArg Value.bool (by simp [keys3, roles3, tab5, zh11, zh12, zh23, zh24, zh35, zh36, zh47, zh48, zh57, zh58]), zS56.ch⟩
 intro zh59
 have zh60 := notF' zh59
 refine wp_skip (blk_n (then_n (reg_ (pure_ (ι 5) (pure_ (ι 5) (nil_ (again_ (seq_ (reg_ (pure_ (φ) (nil_ (then_n (seq_ (cond_F (wp_exit (then_e (then_e (blk_e (then_n (seq_ (reg_ (pure_ (τ) (nil_ (then_n (wp_ret (ret_ rfl (res_ [.tmp 4] [τ] (τ) ⟨res_tmp, trivial⟩) ?_))))))))))))))))))))))))))
 exact ⟨congrArg Value.bool (by simp [keys3, roles3, tab5, zh11, zh12, zh23, zh24, zh35, zh36, zh47, zh48, zh59, zh60]), zS56.ch⟩

set_option maxRecDepth 100000 in
set_option maxHeartbeats 4000000 in
theorem ordered1_any (x0 x1 x2 x3 x4 k : Int) (bo : Nat) {ts : TypeId} (w : World) (ho : w.heap[bo]? = some (.cells #[ι x0, ι x1, ι x2, ι x3, ι x4] ts (0, 0))) :
    Gives Tryz.prog 109 #[ι k, π bo 0] w fun v w1 => v = .bool (isIn x1 x2 x3 k) ∧ Ch [] w w1 := by
 have S0 := St.given (w := w) [(bo, .cells #[ι x0, ι x1, ι x2, ι x3, ι x4] ts (0, 0))] (all_cons ho (all_nil))
 refine enter_ Tryz.func109 rfl (seq_ (reg_ (pure_ (φ) (nsr_ (pure_ (σ bo 1 3 4) (pure_ (ι k) (call_ 110 #[σ bo 1 3 4, ι k] (enter_ Tryz.func110 rfl (seq_ (reg_ (pure_ (φ) (nsr_ (move_ (pure_ (ι k) (call_ 164 #[σ bo 1 3 4, ι k] (enter_ Tryz.func164 rfl (seq_ (reg_ (pure_ (ι 0) (nil_ (then_n (seq_ (seq_ (reg_ (move_ (pure_ (ι 3) (pure_ (ι 0) (nil_ (then_n (wp_block (loop_ 24 (seq_ (reg_ (pure_ (τ) (nil_ (then_n (seq_ (cond_T (wp_skip (then_n (seq_ (wp_block (seq_ (reg_ (pure_ (ι 0) (pure_ (ι 0) (nsr_ (pure_ (ι k) (move_ (pure_ (ι 0) (pure_ (π bo 1) (load1_ S0 0 (ι x1) bo 1 (pure_ (.bool (k == x1)) (nil_ (then_n ?_)))))))))))))))))))))))))))))))))))))))))))))))))))))))
 refine cond_S (k == x1) ?_ ?_
 · intro zh1
   have zh2 := eqT' zh1
   refine seq_ (reg_ (pure_ (ι 0) (pure_ (ι 0) (nil_ (then_n (wp_ret (blk_r (then_r (then_r (blk_r (then_r (ret_ rfl (res_ [.tmp 4] [ι 0] (ι 0) ⟨res_tmp, trivial⟩) (pure_ (τ) (pure_ (τ) (nil_ (then_n (wp_ret (ret_ rfl (res_ [.tmp 4] [τ] (τ) ⟨res_tmp, trivial⟩) (pure_ (τ) (nil_ (then_n (wp_ret (ret_ rfl (res_ [.tmp 3] [τ] (τ) ⟨res_tmp, trivial⟩) ?_)))))))))))))))))))))))
   exact ⟨congrArg Value.bool (by simp [isIn, zh1, zh2]), S0.ch⟩
 intro zh3
 have zh4 := eqF' zh3
 refine wp_skip (blk_n (then_n (reg_ (pure_ (ι 1) (pure_ (ι 1) (nil_ (again_ (seq_ (reg_ (pure_ (τ) (nil_ (then_n (seq_ (cond_T (wp_skip (then_n (seq_ (wp_block (seq_ (reg_ (pure_ (ι 1) (pure_ (ι 1) (nsr_ (pure_ (ι k) (move_ (pure_ (ι 1) (pure_ (π bo 2) (load1_ S0 0 (ι x2) bo 2 (pure_ (.bool (k == x2)) (nil_ (then_n ?_)))))))))))))))))))))))))))))))
 refine cond_S (k == x2) ?_ ?_
 · intro zh5
   have zh6 := eqT' zh5
   refine seq_ (reg_ (pure_ (ι 1) (pure_ (ι 1) (nil_ (then_n (wp_ret (blk_r (then_r (then_r (blk_r (then_r (ret_ rfl (res_ [.tmp 4] [ι 1] (ι 1) ⟨res_tmp, trivial⟩) (pure_ (τ) (pure_ (τ) (nil_ (then_n (wp_ret (ret_ rfl (res_ [.tmp 4] [τ] (τ) ⟨res_tmp, trivial⟩) (pure_ (τ) (nil_ (then_n (wp_ret (ret_ rfl (res_ [.tmp 3] [τ] (τ) ⟨res_tmp, trivial⟩) ?_)))))))))))))))))))))))
   exact ⟨congrArg Value.bool (by simp [isIn, zh3, zh5, zh4, zh6]), S0.ch⟩
 intro zh7
 have zh8 := eqF' zh7
 refine wp_skip (blk_n (then_n (reg_ (pure_ (ι 2) (pure_ (ι 2) (nil_ (again_ (seq_ (reg_ (pure_ (τ) (nil_ (then_n (seq_ (cond_T (wp_skip (then_n (seq_ (wp_block (seq_ (reg_ (pure_ (ι 2) (pure_ (ι 2) (nsr_ (pure_ (ι k) (move_ (pure_ (ι 2) (pure_ (π bo 3) (load1_ S0 0 (ι x3) bo 3 (pure_ (.bool (k == x3)) (nil_ (then_n ?_)))))))))))))))))))))))))))))))
 refine cond_S (k == x3) ?_ ?_
 · intro zh9
   have zh10 := eqT' zh9
   refine seq_ (reg_ (pure_ (ι 2) (pure_ (ι 2) (nil_ (then_n (wp_ret (blk_r (then_r (then_r (blk_r (then_r (ret_ rfl (res_ [.tmp 4] [ι 2] (ι 2) ⟨res_tmp, trivial⟩) (pure_ (τ) (pure_ (τ) (nil_ (then_n (wp_ret (ret_ rfl (res_ [.tmp 4] [τ] (τ) ⟨res_tmp, trivial⟩) (pure_ (τ) (nil_ (then_n (wp_ret (ret_ rfl (res_ [.tmp 3] [τ] (τ) ⟨res_tmp, trivial⟩) ?_)))))))))))))))))))))))
   exact ⟨congrArg Value.bool (by simp [isIn, zh3, zh7, zh9, zh4, zh8, zh10]), S0.ch⟩
 intro zh11
 have zh12 := eqF' zh11
 refine wp_skip (blk_n (then_n (reg_ (pure_ (ι 3) (pure_ (ι 3) (nil_ (again_ (seq_ (reg_ (pure_ (φ) (nil_ (then_n (seq_ (cond_F (wp_exit (then_e (then_e (blk_e (then_n (seq_ (reg_ (pure_ (ι (-1)) (nil_ (then_n (wp_ret (ret_ rfl (res_ [.tmp 4] [ι (-1)] (ι (-1)) ⟨res_tmp, trivial⟩) (pure_ (φ) (pure_ (φ) (nil_ (then_n (wp_ret (ret_ rfl (res_ [.tmp 4] [φ] (φ) ⟨res_tmp, trivial⟩) (pure_ (φ) (nil_ (then_n (wp_ret (ret_ rfl (res_ [.tmp 3] [φ] (φ) ⟨res_tmp, trivial⟩) ?_)))))))))))))))))))))))))))))))))))))
 exact ⟨congrArg Value.bool (by simp [isIn, zh3, zh7, zh11, zh4, zh8, zh12]), S0.ch⟩

set_option maxRecDepth 100000 in
set_option maxHeartbeats 4000000 in
theorem ordered_any (q : Nat → Int) (ka : Nat → Option Addr) (kn kc : Nat → Nat) (w : World) :
    Gives Tryz.prog 62 #[.agg #[ι (q 0), ι (q 1), ι (q 2), ι (q 3), ι (q 4)]] w fun v w1 => v = .bool (ordB q) ∧ Ch [] w w1 := by
 have S0 := St.nil [] w
 refine enter_ Tryz.func62 rfl (seq_ (reg_ ?_))
 refine new_ S0 (fun b => π b 0) (.cells #[ι (q 0), ι (q 1), ι (q 2), ι (q 3), ι (q 4)] 22) ?_
 intro zb1 zw2 zS3
 refine pure_ (φ) (nil_ (then_n (seq_ (seq_ (reg_ (pure_ (π zb1 0) (load1_ zS3 0 (ι (q 0)) zb1 0 (pure_ (.bool ((q 0) != 0)) (pure_ (.bool ((q 0) != 0)) ?_)))))))))
 refine slot_ 6 ((q 0) != 0) ?_ ?_
 · intro zh4
   have zh5 := neT' zh4
   refine skip_ (skip_ (skip_ (pure_ (τ) (nil_ (then_n (cond_T (seq_ (reg_ (pure_ (φ) (nil_ (then_n (wp_ret (then_r (ret_ rfl (res_ [.tmp 2] [φ] (φ) ⟨res_tmp, trivial⟩) ?_))))))))))))))
   exact ⟨congrArg Value.bool (by simp [ordB, zh4, zh5]), zS3.ch⟩
 intro zh6
 have zh7 := neF' zh6
 refine pure_ (π zb1 4) (load1_ zS3 0 (ι (q 4)) zb1 4 (pure_ (.bool ((q 4) != 4)) (pure_ (.bool ((q 4) != 4)) (nil_ (then_n ?_)))))
 refine cond_S ((q 4) != 4) ?_ ?_
 · intro zh8
   have zh9 := neT' zh8
   refine seq_ (reg_ (pure_ (φ) (nil_ (then_n (wp_ret (then_r (ret_ rfl (res_ [.tmp 2] [φ] (φ) ⟨res_tmp, trivial⟩) ?_)))))))
   exact ⟨congrArg Value.bool (by simp [ordB, zh6, zh8, zh7, zh9]), zS3.ch⟩
 intro zh10
 have zh11 := neF' zh10
 refine wp_skip (then_n (seq_ (reg_ ?_)))
 refine new_ zS3 (fun b => σ b 0 3 3) (.cells #[ι 1, ι 2, ι 3] 3) ?_
 intro zb12 zw13 zS14
 refine pure_ (.func (.func 109) #[] #[π zb1 0]) (call_ 65 #[σ zb12 0 3 3, .func (.func 109) #[] #[π zb1 0]] (enter_ Tryz.func65 rfl (seq_ (reg_ (pure_ (φ) (nil_ (then_n (seq_ (seq_ (reg_ (move_ (pure_ (ι 3) (pure_ (ι 0) (nil_ (then_n (wp_block (loop_ 24 (seq_ (reg_ (pure_ (τ) (nil_ (then_n (seq_ (cond_T (wp_skip (then_n (seq_ (wp_block (seq_ (reg_ (pure_ (π zb12 0) (load1_ zS14 0 (ι 1) zb12 0 (pure_ (ι 1) (nsr_ (move_ (pure_ (ι 1) (call_ 109 #[ι 1, π zb1 0] ?_)))))))))))))))))))))))))))))))))))))
 refine (ordered1_any (q 0) (q 1) (q 2) (q 3) (q 4) 1 zb1 _ (zS14.ob 1 true 22)).mono ?_; rintro _ zw15 ⟨rfl, zhc16⟩
 have zS17 := zS14.quiet zhc16
 refine pure_ (.bool (!(isIn (q 1) (q 2) (q 3) 1))) (nil_ (then_n ?_))
 refine cond_S (!(isIn (q 1) (q 2) (q 3) 1)) ?_ ?_
 · intro zh18
   have zh19 := notT' zh18
   refine seq_ (reg_ (pure_ (φ) (nil_ (then_n (wp_ret (blk_r (then_r (then_r (blk_r (then_r (ret_ rfl (res_ [.tmp 4] [φ] (φ) ⟨res_tmp, trivial⟩) (pure_ (φ) (nil_ (then_n (wp_ret (ret_ rfl (res_ [.tmp 2] [φ] (φ) ⟨res_tmp, trivial⟩) ?_))))))))))))))))
   exact ⟨congrArg Value.bool (by simp [ordB, zh6, zh10, zh18, zh19, zh7, zh11]), zS17.ch⟩
 intro zh20
 have zh21 := notF' zh20
 refine wp_skip (blk_n (then_n (reg_ (pure_ (ι 1) (pure_ (ι 1) (nil_ (again_ (seq_ (reg_ (pure_ (τ) (nil_ (then_n (seq_ (cond_T (wp_skip (then_n (seq_ (wp_block (seq_ (reg_ (pure_ (π zb12 1) (load1_ zS17 0 (ι 2) zb12 1 (pure_ (ι 2) (nsr_ (move_ (pure_ (ι 2) (call_ 109 #[ι 2, π zb1 0] ?_)))))))))))))))))))))))))))
 refine (ordered1_any (q 0) (q 1) (q 2) (q 3) (q 4) 2 zb1 _ (zS17.ob 1 true 22)).mono ?_; rintro _ zw22 ⟨rfl, zhc23⟩
 have zS24 := zS17.quiet zhc23
 refine pure_ (.bool (!(isIn (q 1) (q 2) (q 3) 2))) (nil_ (then_n ?_))
 refine cond_S (!(isIn (q 1) (q 2) (q 3) 2)) ?_ ?_
 · intro zh25
   have zh26 := notT' zh25
   refine seq_ (reg_ (pure_ (φ) (nil_ (then_n (wp_ret (blk_r (then_r (then_r (blk_r (then_r (ret_ rfl (res_ [.tmp 4] [φ] (φ) ⟨res_tmp, trivial⟩) (pure_ (φ) (nil_ (then_n (wp_ret (ret_ rfl (res_ [.tmp 2] [φ] (φ) ⟨res_tmp, trivial⟩) ?_))))))))))))))))
   exact ⟨congrArg Value.bool (by simp [ordB, zh6, zh10, zh20, zh21, zh25, zh26, zh7, zh11]), zS24.ch⟩
 intro zh27
 have zh28 := notF' zh27
 refine wp_skip (blk_n (then_n (reg_ (pure_ (ι 2) (pure_ (ι 2) (nil_ (again_ (seq_ (reg_ (pure_ (τ) (nil_ (then_n (seq_ (cond_T (wp_skip (then_n (seq_ (wp_block (seq_ (reg_ (pure_ (π zb12 2) (load1_ zS24 0 (ι 3) zb12 2 (pure_ (ι 3) (nsr_ (move_ (pure_ (ι 3) (call_ 109 #[ι 3, π zb1 0] ?_)))))))))))))))))))))))))))
 refine (ordered1_any (q 0) (q 1) (q 2) (q 3) (q 4) 3 zb1 _ (zS24.ob 1 true 22)).mono ?_; rintro _ zw29 ⟨rfl, zhc30⟩
 have zS31 := zS24.quiet zhc30
 refine pure_ (.bool (!(isIn (q 1) (q 2) (q 3) 3))) (nil_ (then_n ?_))
 refine cond_S (!(isIn (q 1) (q 2) (q 3) 3)) ?_ ?_
 · intro zh32
   have zh33 := notT' zh32
   refine seq_ (reg_ (pure_ (φ) (nil_ (then_n (wp_ret (blk_r (then_r (then_r (blk_r (then_r (ret_ rfl (res_ [.tmp 4] [φ] (φ) ⟨res_tmp, trivial⟩) (pure_ (φ) (nil_ (then_n (wp_ret (ret_ rfl (res_ [.tmp 2] [φ] (φ) ⟨res_tmp, trivial⟩) ?_))))))))))))))))
   exact ⟨congrArg Value.bool (by simp [ordB, zh6, zh10, zh20, zh21, zh27, zh28, zh32, zh33, zh7, zh11]), zS31.ch⟩
 intro zh34
 have zh35 := notF' zh34
 refine wp_skip (blk_n (then_n (reg_ (pure_ (ι 3) (pure_ (ι 3) (nil_ (again_ (seq_ (reg_ (pure_ (φ) (nil_ (then_n (seq_ (cond_F (wp_exit (then_e (then_e (blk_e (then_n (seq_ (reg_ (pure_ (τ) (nil_ (then_n (wp_ret (ret_ rfl (res_ [.tmp 4] [τ] (τ) ⟨res_tmp, trivial⟩) (pure_ (τ) (nil_ (then_n (wp_ret (ret_ rfl (res_ [.tmp 2] [τ] (τ) ⟨res_tmp, trivial⟩) ?_)))))))))))))))))))))))))))))))
 exact ⟨congrArg Value.bool (by simp [ordB, zh6, zh10, zh20, zh21, zh27, zh28, zh34, zh35, zh7, zh11]), zS31.ch⟩

set_option maxRecDepth 100000 in
set_option maxHeartbeats 4000000 in
theorem check_any (q : Nat → Int) (ka : Nat → Option Addr) (kn kc : Nat → Nat) (w : World) :
    Gives Tryz.prog 28 #[.agg (polC q ka kn kc)] w fun v w1 => v = ι (polCode q kn) ∧ Ch [] w w1 := by
 have S0 := St.nil [] w
 refine enter_ Tryz.func28 rfl (seq_ (reg_ ?_))
 refine new_ S0 (fun b => π b 0) (.cells (polC q ka kn kc) 28) ?_
 intro zb1 zw2 zS3
 refine pure_ (ι 0) (nil_ (then_n (seq_ (wp_block (seq_ (reg_ (pure_ (π zb1 0) (loadN_ zS3 0 5 #[ι (q 0), ι (q 1), ι (q 2), ι (q 3), ι (q 4)] zb1 0 (call_ 62 #[.agg #[ι (q 0), ι (q 1), ι (q 2), ι (q 3), ι (q 4)]] ?_)))))))))
 refine (ordered_any q ka kn kc _).mono ?_; rintro _ zw4 ⟨rfl, zhc5⟩
 have zS6 := zS3.quiet zhc5
 refine pure_ (.bool (!(ordB q))) (pure_ (.bool (!(ordB q))) (nil_ (then_n ?_)))
 refine cond_S (!(ordB q)) ?_ ?_
 · intro zh7
   have zh8 := notT' zh7
   refine seq_ (reg_ (pure_ (ι 40) (nil_ (then_n (wp_ret (blk_r (then_r (ret_ rfl (res_ [.tmp 2] [ι 40] (ι 40) ⟨res_tmp, trivial⟩) ?_))))))))
   exact ⟨congrArg _ (by simp [polCode, zh7, zh8]), zS6.ch⟩
 intro zh9
 have zh10 := notF' zh9
 refine seq_ (reg_ (pure_ (π zb1 5) (pure_ (σ zb1 5 3 3) (call_ 63 #[σ zb1 5 3 3, .func (.func 64) #[] #[]] ?_))))
 refine (all_keys q ka kn kc zb1 _ (zS6.ob 0 true 28)).mono ?_; rintro _ zw11 ⟨rfl, zhc12⟩
 have zS13 := zS6.quiet zhc12
 refine pure_ (.bool (!(keys3 kn))) (pure_ (.bool (!(keys3 kn))) ?_)
 refine slot_ 13 (!(keys3 kn)) ?_ ?_
 · intro zh14
   have zh15 := notT' zh14
   refine skip_ (skip_ (skip_ (skip_ (pure_ (τ) (pure_ (τ) (nil_ (then_n (cond_T (seq_ (reg_ (pure_ (ι 41) (nil_ (then_n (wp_ret (blk_r (then_r (ret_ rfl (res_ [.tmp 2] [ι 41] (ι 41) ⟨res_tmp, trivial⟩) ?_)))))))))))))))))
   exact ⟨congrArg _ (by simp [polCode, zh9, zh10, zh14, zh15]), zS13.ch⟩
 intro zh16
 have zh17 := notF' zh16
 refine pure_ (π zb1 8) (load1_ zS13 0 (.slice (ka 3) (kn 3) (kc 3)) zb1 8 (call_ 64 #[.slice (ka 3) (kn 3) (kc 3)] ?_))
 refine (key_any (ka 3) (kn 3) (kc 3) _).mono ?_; rintro _ zw18 ⟨rfl, zhc19⟩
 have zS20 := zS13.quiet zhc19
 refine pure_ (.bool (!(keyB (kn 3)))) (pure_ (.bool (!(keyB (kn 3)))) (pure_ (.bool (!(keyB (kn 3)))) (nil_ (then_n ?_))))
 refine cond_S (!(keyB (kn 3))) ?_ ?_
 · intro zh21
   have zh22 := notT' zh21
   refine seq_ (reg_ (pure_ (ι 41) (nil_ (then_n (wp_ret (blk_r (then_r (ret_ rfl (res_ [.tmp 2] [ι 41] (ι 41) ⟨res_tmp, trivial⟩) ?_))))))))
   exact ⟨congrArg _ (by simp [polCode, zh9, zh10, zh16, zh17, zh21, zh22]), zS20.ch⟩
 intro zh23
 have zh24 := notF' zh23
 refine seq_ (reg_ (pure_ (π zb1 9) (pure_ (π zb1 9) (load1_ zS20 0 (ι (q 9)) zb1 9 (pure_ (.bool ((q 9) != 1)) (pure_ (.bool ((q 9) != 1)) ?_))))))
 refine slot_ 24 ((q 9) != 1) ?_ ?_
 · intro zh25
   have zh26 := neT' zh25
   refine skip_ (skip_ (skip_ (skip_ (pure_ (τ) (pure_ (τ) (skip_ (skip_ (skip_ (skip_ (pure_ (τ) (pure_ (τ) (nil_ (then_n (cond_T (seq_ (reg_ (pure_ (ι 42) (nil_ (then_n (wp_ret (blk_r (then_r (ret_ rfl (res_ [.tmp 2] [ι 42] (ι 42) ⟨res_tmp, trivial⟩) ?_)))))))))))))))))))))))
   exact ⟨congrArg _ (by simp [polCode, zh9, zh10, zh16, zh17, zh23, zh24, zh25, zh26]), zS20.ch⟩
 intro zh27
 have zh28 := neF' zh27
 refine pure_ (π zb1 9) (pure_ (π zb1 13) (load1_ zS20 0 (ι (q 13)) zb1 13 (pure_ (.bool ((q 13) != 0)) (pure_ (.bool ((q 13) != 0)) (pure_ (.bool ((q 13) != 0)) ?_)))))
 refine slot_ 30 ((q 13) != 0) ?_ ?_
 · intro zh29
   have zh30 := neT' zh29
   refine skip_ (skip_ (skip_ (skip_ (pure_ (τ) (pure_ (τ) (nil_ (then_n (cond_T (seq_ (reg_ (pure_ (ι 42) (nil_ (then_n (wp_ret (blk_r (then_r (ret_ rfl (res_ [.tmp 2] [ι 42] (ι 42) ⟨res_tmp, trivial⟩) ?_)))))))))))))))))
   exact ⟨congrArg _ (by simp [polCode, zh9, zh10, zh16, zh17, zh23, zh24, zh27, zh29, zh28, zh30]), zS20.ch⟩
 intro zh31
 have zh32 := neF' zh31
 refine pure_ (π zb1 9) (pure_ (σ zb1 10 3 4) (call_ 65 #[σ zb1 10 3 4, .func (.func 66) #[] #[]] ?_))
 refine (all_roles q ka kn kc zb1 _ (zS20.ob 0 true 28)).mono ?_; rintro _ zw33 ⟨rfl, zhc34⟩
 have zS35 := zS20.quiet zhc34
 refine pure_ (.bool (!(roles3 q))) (pure_ (.bool (!(roles3 q))) (pure_ (.bool (!(roles3 q))) (nil_ (then_n ?_))))
 refine cond_S (!(roles3 q)) ?_ ?_
 · intro zh36
   have zh37 := notT' zh36
   refine seq_ (reg_ (pure_ (ι 42) (nil_ (then_n (wp_ret (blk_r (then_r (ret_ rfl (res_ [.tmp 2] [ι 42] (ι 42) ⟨res_tmp, trivial⟩) ?_))))))))
   exact ⟨congrArg _ (by simp [polCode, zh9, zh10, zh16, zh17, zh23, zh24, zh27, zh31, zh36, zh37, zh28, zh32]), zS35.ch⟩
 intro zh38
 have zh39 := notF' zh38
 refine seq_ (reg_ (pure_ (π zb1 14) (pure_ (σ zb1 14 5 5) (call_ 67 #[σ zb1 14 5 5, .func (.func 68) #[] #[]] ?_))))
 refine (all_table q ka kn kc zb1 _ (zS35.ob 0 true 28)).mono ?_; rintro _ zw40 ⟨rfl, zhc41⟩
 have zS42 := zS35.quiet zhc41
 refine pure_ (.bool (!(tab5 q))) (pure_ (.bool (!(tab5 q))) (nil_ (then_n ?_)))
 refine cond_S (!(tab5 q)) ?_ ?_
 · intro zh43
   have zh44 := notT' zh43
   refine seq_ (reg_ (pure_ (ι 43) (nil_ (then_n (wp_ret (blk_r (then_r (ret_ rfl (res_ [.tmp 2] [ι 43] (ι 43) ⟨res_tmp, trivial⟩) ?_))))))))
   exact ⟨congrArg _ (by simp [polCode, zh9, zh10, zh16, zh17, zh23, zh24, zh27, zh31, zh38, zh39, zh43, zh44, zh28, zh32]), zS42.ch⟩
 intro zh45
 have zh46 := notF' zh45
 refine seq_ ?_
 refine drawnL_ 3 [⟨0, fun _ => π zb1 34, fun _ => []⟩, ⟨0, fun _ => σ zb1 34 5 5, fun _ => []⟩, ⟨2, fun ids => .func (.func 111) #[] #[π (ids.getD 0 0) 0, π (ids.getD 1 0) 0], fun ids => [((ids.getD 0 0), .cells #[ι 0] 3 (0, 0)), ((ids.getD 1 0), .cells #[ι 31] 3 (0, 0))]⟩] [[3, 1, 0], [3, 1], [3, 2], [4, 3, 1, 0], [4, 3, 1], [4, 3, 2], [4, 3], [5, 3, 1, 0], [5, 3, 1], [5, 3, 2], [5, 3], [5, 4]] ?_ ?_
 · refine step_cons qP_ ?_
   refine step_cons qP_ ?_
   refine step_cons ?_ ?_
   · intro zy47 zw48 zhc49 zhf50 zhp51
     have zS52 := zS42.quiet zhc49
     refine step1 ?_
     refine yenv [] (ag_nil) ?_
     have zS53 := zS52.loc
     refine Y.call_ 69 #[ι 0, ι 31] ?_
     refine enter_ Tryz.func69 rfl (seq_ (reg_ ?_))
     refine new_ zS53 (fun b => π b 0) (.cells #[ι 0] 3) ?_
     intro zb54 zw55 zS56
     refine new_ zS56 (fun b => π b 0) (.cells #[ι 31] 3) ?_
     intro zb57 zw58 zS59
     refine pure_ (.nilFunc) (nsr_ (pure_ (.func (.func 111) #[] #[π zb54 0, π zb57 0]) (assign_ (nil_ (then_n (wp_ret (ret_ rfl (res_ [.tmp 4] [.func (.func 111) #[] #[π zb54 0, π zb57 0]] (.func (.func 111) #[] #[π zb54 0, π zb57 0]) ⟨res_tmp, trivial⟩) ?_)))))))
     exact ⟨zS59.ch, Sp.mk_holds [zb54, zb57] (all_cons (zS59.isNew zhc49.size 1 (by kernel_rfl)) (all_cons (zS59.isNew zhc49.size 0 (by kernel_rfl)) (all_nil)))⟩
   exact step_nil
 intro zv60 zw61 zhc62 zha63
 have zh64 : zv60 0 = π zb1 34 := (Sp.out0 (zha63 0 (by kernel_rfl))).1
 have zh65 : zv60 1 = σ zb1 34 5 5 := (Sp.out0 (zha63 1 (by kernel_rfl))).1
 obtain ⟨zb67, zb68, zh66', zg69'⟩ := Sp.out2 (zha63 2 (by kernel_rfl))
 have zh66 : zv60 2 = .func (.func 111) #[] #[π zb67 0, π zb68 0] := zh66'
 have zg69 : ∀ zp ∈ ([(zb67, .cells #[ι 0] 3 (0, 0)), (zb68, .cells #[ι 31] 3 (0, 0))] : List (Nat × Obj)), zw40.heap.size ≤ zp.1 ∧ zw61.heap[zp.1]? = some zp.2 := zg69'
 have zS70 := zS42.ro zhc62 ([(zb67, .cells #[ι 0] 3 (0, 0)), (zb68, .cells #[ι 31] 3 (0, 0))]) (zg69)
 refine ⟨[π zb1 34, σ zb1 34 5 5, .func (.func 111) #[] #[π zb67 0, π zb68 0]], by kernel_rfl, va_cons zh64 (va_cons zh65 (va_cons zh66 (va_nil))), ?_⟩
 refine call_ 65 #[σ zb1 34 5 5, .func (.func 111) #[] #[π zb67 0, π zb68 0]] ?_
 refine (all_p34_5 0 31 q ka kn kc zb1 zb67 zb68 _ (zS70.ob 2 true 28) (zS70.ob 0 false 3) (zS70.ob 1 false 3)).mono ?_; rintro _ zw71 ⟨rfl, zhc72⟩
 have zS73 := zS70.quiet zhc72
 refine pure_ (.bool (!(allI 0 31 [(q 34), (q 35), (q 36), (q 37), (q 38)]))) (assign_ (nil_ (then_n ?_)))
 refine cond_S (!(allI 0 31 [(q 34), (q 35), (q 36), (q 37), (q 38)])) ?_ ?_
 · intro zh74
   have zh75 := notT' zh74
   refine seq_ (reg_ (pure_ (ι 44) (nil_ (then_n (wp_ret (blk_r (then_r (ret_ rfl (res_ [.tmp 2] [ι 44] (ι 44) ⟨res_tmp, trivial⟩) ?_))))))))
   exact ⟨congrArg _ (by simp [polCode, zh9, zh10, zh16, zh17, zh23, zh24, zh27, zh31, zh38, zh39, zh45, zh46, zh74, zh75, zh28, zh32]), zS73.ch⟩
 intro zh76
 have zh77 := notF' zh76
 refine seq_ ?_
 refine drawnL_ 8 [⟨0, fun _ => π zb1 39, fun _ => []⟩, ⟨0, fun _ => ι (q 39), fun _ => []⟩, ⟨0, fun _ => π zb1 40, fun _ => []⟩, ⟨0, fun _ => ι (q 40), fun _ => []⟩, ⟨0, fun _ => π zb1 41, fun _ => []⟩, ⟨0, fun _ => ι (q 41), fun _ => []⟩, ⟨1, fun ids => σ (ids.getD 0 0) 0 3 3, fun ids => [((ids.getD 0 0), .cells #[ι (q 39), ι (q 40), ι (q 41)] 3 (0, 0))]⟩, ⟨2, fun ids => .func (.func 111) #[] #[π (ids.getD 0 0) 0, π (ids.getD 1 0) 0], fun ids => [((ids.getD 0 0), .cells #[ι 0] 3 (0, 0)), ((ids.getD 1 0), .cells #[ι 4] 3 (0, 0))]⟩] [[8, 6, 1, 0], [8, 6, 1], [8, 6, 3, 2], [8, 6, 3], [8, 6, 5, 4], [8, 6, 5], [8, 6], [8, 7], [9, 8, 6, 1, 0], [9, 8, 6, 1], [9, 8, 6, 3, 2], [9, 8, 6, 3], [9, 8, 6, 5, 4], [9, 8, 6, 5], [9, 8, 6], [9, 8, 7], [9, 8], [10, 8, 6, 1, 0], [10, 8, 6, 1], [10, 8, 6, 3, 2], [10, 8, 6, 3], [10, 8, 6, 5, 4], [10, 8, 6, 5], [10, 8, 6], [10, 8, 7], [10, 8], [10, 9]] ?_ ?_
 · refine step_cons qP_ ?_
   refine step_cons (qL_ zS73 2 zb1 39) ?_
   refine step_cons qP_ ?_
   refine step_cons (qL_ zS73 2 zb1 40) ?_
   refine step_cons qP_ ?_
   refine step_cons (qL_ zS73 2 zb1 41) ?_
   refine step_cons ?_ ?_
   · intro zy78 zw79 zhc80 zhf81 zhp82
     have zh83 : zy78 49 = ι (q 39) := (Sp.out0 (zhp82 1 49 (by kernel_rfl) (by kernel_rfl))).1
     have zh84 : zy78 51 = ι (q 40) := (Sp.out0 (zhp82 3 51 (by kernel_rfl) (by kernel_rfl))).1
     have zh85 : zy78 53 = ι (q 41) := (Sp.out0 (zhp82 5 53 (by kernel_rfl) (by kernel_rfl))).1
     have zS86 := zS73.quiet zhc80
     refine step1 ?_
     refine yenv [(49, ι (q 39)), (51, ι (q 40)), (53, ι (q 41))] (ag_cons zh83 (ag_cons zh84 (ag_cons zh85 (ag_nil)))) ?_
     have zS87 := zS86.loc
     refine Y.new_ zS87 (fun b => σ b 0 3 3) (.cells #[ι (q 39), ι (q 40), ι (q 41)] 3) ?_
     intro zb88 zw89 zS90
     exact ⟨zS90.ch, Sp.mk_holds [zb88] (all_cons (zS90.isNew zhc80.size 0 (by kernel_rfl)) (all_nil))⟩
   refine step_cons ?_ ?_
   · intro zy91 zw92 zhc93 zhf94 zhp95
     have zS96 := zS73.quiet zhc93
     refine step1 ?_
     refine yenv [] (ag_nil) ?_
     have zS97 := zS96.loc
     refine Y.call_ 69 #[ι 0, ι 4] ?_
     refine enter_ Tryz.func69 rfl (seq_ (reg_ ?_))
     refine new_ zS97 (fun b => π b 0) (.cells #[ι 0] 3) ?_
     intro zb98 zw99 zS100
     refine new_ zS100 (fun b => π b 0) (.cells #[ι 4] 3) ?_
     intro zb101 zw102 zS103
     refine pure_ (.nilFunc) (nsr_ (pure_ (.func (.func 111) #[] #[π zb98 0, π zb101 0]) (assign_ (nil_ (then_n (wp_ret (ret_ rfl (res_ [.tmp 4] [.func (.func 111) #[] #[π zb98 0, π zb101 0]] (.func (.func 111) #[] #[π zb98 0, π zb101 0]) ⟨res_tmp, trivial⟩) ?_)))))))
     exact ⟨zS103.ch, Sp.mk_holds [zb98, zb101] (all_cons (zS103.isNew zhc93.size 1 (by kernel_rfl)) (all_cons (zS103.isNew zhc93.size 0 (by kernel_rfl)) (all_nil)))⟩
   exact step_nil
 intro zv104 zw105 zhc106 zha107
 have zh108 : zv104 0 = π zb1 39 := (Sp.out0 (zha107 0 (by kernel_rfl))).1
 have zh109 : zv104 1 = ι (q 39) := (Sp.out0 (zha107 1 (by kernel_rfl))).1
 have zh110 : zv104 2 = π zb1 40 := (Sp.out0 (zha107 2 (by kernel_rfl))).1
 have zh111 : zv104 3 = ι (q 40) := (Sp.out0 (zha107 3 (by kernel_rfl))).1
 have zh112 : zv104 4 = π zb1 41 := (Sp.out0 (zha107 4 (by kernel_rfl))).1
 have zh113 : zv104 5 = ι (q 41) := (Sp.out0 (zha107 5 (by kernel_rfl))).1
 obtain ⟨zb115, zh114', zg116'⟩ := Sp.out1 (zha107 6 (by kernel_rfl))
 have zh114 : zv104 6 = σ zb115 0 3 3 := zh114'
 have zg116 : ∀ zp ∈ ([(zb115, .cells #[ι (q 39), ι (q 40), ι (q 41)] 3 (0, 0))] : List (Nat × Obj)), zw71.heap.size ≤ zp.1 ∧ zw105.heap[zp.1]? = some zp.2 := zg116'
 obtain ⟨zb118, zb119, zh117', zg120'⟩ := Sp.out2 (zha107 7 (by kernel_rfl))
 have zh117 : zv104 7 = .func (.func 111) #[] #[π zb118 0, π zb119 0] := zh117'
 have zg120 : ∀ zp ∈ ([(zb118, .cells #[ι 0] 3 (0, 0)), (zb119, .cells #[ι 4] 3 (0, 0))] : List (Nat × Obj)), zw71.heap.size ≤ zp.1 ∧ zw105.heap[zp.1]? = some zp.2 := zg120'
 have zS121 := zS73.ro zhc106 (([(zb115, .cells #[ι (q 39), ι (q 40), ι (q 41)] 3 (0, 0))] ++ [(zb118, .cells #[ι 0] 3 (0, 0)), (zb119, .cells #[ι 4] 3 (0, 0))])) (List.forall_mem_append.2 ⟨zg116, zg120⟩)
 refine ⟨[π zb1 39, ι (q 39), π zb1 40, ι (q 40), π zb1 41, ι (q 41), σ zb115 0 3 3, .func (.func 111) #[] #[π zb118 0, π zb119 0]], by kernel_rfl, va_cons zh108 (va_cons zh109 (va_cons zh110 (va_cons zh111 (va_cons zh112 (va_cons zh113 (va_cons zh114 (va_cons zh117 (va_nil)))))))), ?_⟩
 refine call_ 65 #[σ zb115 0 3 3, .func (.func 111) #[] #[π zb118 0, π zb119 0]] ?_
 refine (all_s3 0 4 (q 39) (q 40) (q 41) zb115 zb118 zb119 _ (zS121.ob 0 false 3) (zS121.ob 1 false 3) (zS121.ob 2 false 3)).mono ?_; rintro _ zw122 ⟨rfl, zhc123⟩
 have zS124 := zS121.quiet zhc123
 refine pure_ (.bool (!(allI 0 4 [(q 39), (q 40), (q 41)]))) (assign_ (nil_ (then_n ?_)))
 refine cond_S (!(allI 0 4 [(q 39), (q 40), (q 41)])) ?_ ?_
 · intro zh125
   have zh126 := notT' zh125
   refine seq_ (reg_ (pure_ (ι 45) (nil_ (then_n (wp_ret (blk_r (then_r (ret_ rfl (res_ [.tmp 2] [ι 45] (ι 45) ⟨res_tmp, trivial⟩) ?_))))))))
   exact ⟨congrArg _ (by simp [polCode, zh9, zh10, zh16, zh17, zh23, zh24, zh27, zh31, zh38, zh39, zh45, zh46, zh76, zh77, zh125, zh126, zh28, zh32]), zS124.ch⟩
 intro zh127
 have zh128 := notF' zh127
 refine seq_ ?_
 refine drawnL_ 10 [⟨0, fun _ => π zb1 42, fun _ => []⟩, ⟨0, fun _ => ι (q 42), fun _ => []⟩, ⟨0, fun _ => π zb1 43, fun _ => []⟩, ⟨0, fun _ => ι (q 43), fun _ => []⟩, ⟨0, fun _ => π zb1 44, fun _ => []⟩, ⟨0, fun _ => ι (q 44), fun _ => []⟩, ⟨0, fun _ => π zb1 45, fun _ => []⟩, ⟨0, fun _ => ι (q 45), fun _ => []⟩, ⟨1, fun ids => σ (ids.getD 0 0) 0 4 4, fun ids => [((ids.getD 0 0), .cells #[ι (q 42), ι (q 43), ι (q 44), ι (q 45)] 3 (0, 0))]⟩, ⟨2, fun ids => .func (.func 111) #[] #[π (ids.getD 0 0) 0, π (ids.getD 1 0) 0], fun ids => [((ids.getD 0 0), .cells #[ι 1] 3 (0, 0)), ((ids.getD 1 0), .cells #[ι 1000] 3 (0, 0))]⟩] [[10, 8, 1, 0], [10, 8, 1], [10, 8, 3, 2], [10, 8, 3], [10, 8, 5, 4], [10, 8, 5], [10, 8, 7, 6], [10, 8, 7], [10, 8], [10, 9], [11, 10, 8, 1, 0], [11, 10, 8, 1], [11, 10, 8, 3, 2], [11, 10, 8, 3], [11, 10, 8, 5, 4], [11, 10, 8, 5], [11, 10, 8, 7, 6], [11, 10, 8, 7], [11, 10, 8], [11, 10, 9], [11, 10], [12, 10, 8, 1, 0], [12, 10, 8, 1], [12, 10, 8, 3, 2], [12, 10, 8, 3], [12, 10, 8, 5, 4], [12, 10, 8, 5], [12, 10, 8, 7, 6], [12, 10, 8, 7], [12, 10, 8], [12, 10, 9], [12, 10], [12, 11]] ?_ ?_
 · refine step_cons qP_ ?_
   refine step_cons (qL_ zS124 5 zb1 42) ?_
   refine step_cons qP_ ?_
   refine step_cons (qL_ zS124 5 zb1 43) ?_
   refine step_cons qP_ ?_
   refine step_cons (qL_ zS124 5 zb1 44) ?_
   refine step_cons qP_ ?_
   refine step_cons (qL_ zS124 5 zb1 45) ?_
   refine step_cons ?_ ?_
   · intro zy129 zw130 zhc131 zhf132 zhp133
     have zh134 : zy129 60 = ι (q 42) := (Sp.out0 (zhp133 1 60 (by kernel_rfl) (by kernel_rfl))).1
     have zh135 : zy129 62 = ι (q 43) := (Sp.out0 (zhp133 3 62 (by kernel_rfl) (by kernel_rfl))).1
     have zh136 : zy129 64 = ι (q 44) := (Sp.out0 (zhp133 5 64 (by kernel_rfl) (by kernel_rfl))).1
     have zh137 : zy129 66 = ι (q 45) := (Sp.out0 (zhp133 7 66 (by kernel_rfl) (by kernel_rfl))).1
     have zS138 := zS124.quiet zhc131
     refine step1 ?_
     refine yenv [(60, ι (q 42)), (62, ι (q 43)), (64, ι (q 44)), (66, ι (q 45))] (ag_cons zh134 (ag_cons zh135 (ag_cons zh136 (ag_cons zh137 (ag_nil))))) ?_
     have zS139 := zS138.loc
     refine Y.new_ zS139 (fun b => σ b 0 4 4) (.cells #[ι (q 42), ι (q 43), ι (q 44), ι (q 45)] 3) ?_
     intro zb140 zw141 zS142
     exact ⟨zS142.ch, Sp.mk_holds [zb140] (all_cons (zS142.isNew zhc131.size 0 (by kernel_rfl)) (all_nil))⟩
   refine step_cons ?_ ?_
   · intro zy143 zw144 zhc145 zhf146 zhp147
     have zS148 := zS124.quiet zhc145
     refine step1 ?_
     refine yenv [] (ag_nil) ?_
     have zS149 := zS148.loc
     refine Y.call_ 69 #[ι 1, ι 1000] ?_
     refine enter_ Tryz.func69 rfl (seq_ (reg_ ?_))
     refine new_ zS149 (fun b => π b 0) (.cells #[ι 1] 3) ?_
     intro zb150 zw151 zS152
     refine new_ zS152 (fun b => π b 0) (.cells #[ι 1000] 3) ?_
     intro zb153 zw154 zS155
     refine pure_ (.nilFunc) (nsr_ (pure_ (.func (.func 111) #[] #[π zb150 0, π zb153 0]) (assign_ (nil_ (then_n (wp_ret (ret_ rfl (res_ [.tmp 4] [.func (.func 111) #[] #[π zb150 0, π zb153 0]] (.func (.func 111) #[] #[π zb150 0, π zb153 0]) ⟨res_tmp, trivial⟩) ?_)))))))
     exact ⟨zS155.ch, Sp.mk_holds [zb150, zb153] (all_cons (zS155.isNew zhc145.size 1 (by kernel_rfl)) (all_cons (zS155.isNew zhc145.size 0 (by kernel_rfl)) (all_nil)))⟩
   exact step_nil
 intro zv156 zw157 zhc158 zha159
 have zh160 : zv156 0 = π zb1 42 := (Sp.out0 (zha159 0 (by kernel_rfl))).1
 have zh161 : zv156 1 = ι (q 42) := (Sp.out0 (zha159 1 (by kernel_rfl))).1
 have zh162 : zv156 2 = π zb1 43 := (Sp.out0 (zha159 2 (by kernel_rfl))).1
 have zh163 : zv156 3 = ι (q 43) := (Sp.out0 (zha159 3 (by kernel_rfl))).1
 have zh164 : zv156 4 = π zb1 44 := (Sp.out0 (zha159 4 (by kernel_rfl))).1
 have zh165 : zv156 5 = ι (q 44) := (Sp.out0 (zha159 5 (by kernel_rfl))).1
 have zh166 : zv156 6 = π zb1 45 := (Sp.out0 (zha159 6 (by kernel_rfl))).1
 have zh167 : zv156 7 = ι (q 45) := (Sp.out0 (zha159 7 (by kernel_rfl))).1
 obtain ⟨zb169, zh168', zg170'⟩ := Sp.out1 (zha159 8 (by kernel_rfl))
 have zh168 : zv156 8 = σ zb169 0 4 4 := zh168'
 have zg170 : ∀ zp ∈ ([(zb169, .cells #[ι (q 42), ι (q 43), ι (q 44), ι (q 45)] 3 (0, 0))] : List (Nat × Obj)), zw122.heap.size ≤ zp.1 ∧ zw157.heap[zp.1]? = some zp.2 := zg170'
 obtain ⟨zb172, zb173, zh171', zg174'⟩ := Sp.out2 (zha159 9 (by kernel_rfl))
 have zh171 : zv156 9 = .func (.func 111) #[] #[π zb172 0, π zb173 0] := zh171'
 have zg174 : ∀ zp ∈ ([(zb172, .cells #[ι 1] 3 (0, 0)), (zb173, .cells #[ι 1000] 3 (0, 0))] : List (Nat × Obj)), zw122.heap.size ≤ zp.1 ∧ zw157.heap[zp.1]? = some zp.2 := zg174'
 have zS175 := zS124.ro zhc158 (([(zb169, .cells #[ι (q 42), ι (q 43), ι (q 44), ι (q 45)] 3 (0, 0))] ++ [(zb172, .cells #[ι 1] 3 (0, 0)), (zb173, .cells #[ι 1000] 3 (0, 0))])) (List.forall_mem_append.2 ⟨zg170, zg174⟩)
 refine ⟨[π zb1 42, ι (q 42), π zb1 43, ι (q 43), π zb1 44, ι (q 44), π zb1 45, ι (q 45), σ zb169 0 4 4, .func (.func 111) #[] #[π zb172 0, π zb173 0]], by kernel_rfl, va_cons zh160 (va_cons zh161 (va_cons zh162 (va_cons zh163 (va_cons zh164 (va_cons zh165 (va_cons zh166 (va_cons zh167 (va_cons zh168 (va_cons zh171 (va_nil)))))))))), ?_⟩
 refine call_ 65 #[σ zb169 0 4 4, .func (.func 111) #[] #[π zb172 0, π zb173 0]] ?_
 refine (all_s4 1 1000 (q 42) (q 43) (q 44) (q 45) zb169 zb172 zb173 _ (zS175.ob 0 false 3) (zS175.ob 1 false 3) (zS175.ob 2 false 3)).mono ?_; rintro _ zw176 ⟨rfl, zhc177⟩
 have zS178 := zS175.quiet zhc177
 refine pure_ (.bool (!(allI 1 1000 [(q 42), (q 43), (q 44), (q 45)]))) (assign_ (nil_ (then_n ?_)))
 refine cond_S (!(allI 1 1000 [(q 42), (q 43), (q 44), (q 45)])) ?_ ?_
 · intro zh179
   have zh180 := notT' zh179
   refine seq_ (reg_ (pure_ (ι 46) (nil_ (then_n (wp_ret (blk_r (then_r (ret_ rfl (res_ [.tmp 2] [ι 46] (ι 46) ⟨res_tmp, trivial⟩) ?_))))))))
   exact ⟨congrArg _ (by simp [polCode, zh9, zh10, zh16, zh17, zh23, zh24, zh27, zh31, zh38, zh39, zh45, zh46, zh76, zh77, zh127, zh128, zh179, zh180, zh28, zh32]), zS178.ch⟩
 intro zh181
 have zh182 := notF' zh181
 refine seq_ ?_
 refine split_b (!(inB 1 1000 (q 46))) ?_ ?_
 · intro zh218
   have zh219 := notT' zh218
   refine drawnL_ 9 [⟨2, fun ids => .func (.func 111) #[] #[π (ids.getD 0 0) 0, π (ids.getD 1 0) 0], fun ids => [((ids.getD 0 0), .cells #[ι 1] 3 (0, 0)), ((ids.getD 1 0), .cells #[ι 1000] 3 (0, 0))]⟩, ⟨0, fun _ => π zb1 46, fun _ => []⟩, ⟨0, fun _ => ι (q 46), fun _ => []⟩, ⟨0, fun _ => .bool (inB 1 1000 (q 46)), fun _ => []⟩, ⟨0, fun _ => .bool (!(inB 1 1000 (q 46))), fun _ => []⟩, ⟨0, fun _ => .bool (!(inB 1 1000 (q 46))), fun _ => []⟩, ⟨0, fun _ => undef, fun _ => []⟩, ⟨0, fun _ => undef, fun _ => []⟩, ⟨0, fun _ => undef, fun _ => []⟩] [[9, 5, 3, 0], [9, 5, 3, 2, 1], [9, 5, 3, 2], [9, 5, 3], [9, 5, 4], [9, 5], [9, 6], [9, 8, 7], [9, 8], [10, 5, 3, 0], [10, 5, 3, 2, 1], [10, 5, 3, 2], [10, 5, 3], [10, 5, 4], [10, 5], [10, 9, 6], [10, 9, 8, 7], [10, 9, 8], [10, 9], [11, 5, 3, 0], [11, 5, 3, 2, 1], [11, 5, 3, 2], [11, 5, 3], [11, 5, 4], [11, 5], [11, 10, 9, 6], [11, 10, 9, 8, 7], [11, 10, 9, 8], [11, 10, 9], [11, 10], [12, 11, 5, 3, 0], [12, 11, 5, 3, 2, 1], [12, 11, 5, 3, 2], [12, 11, 5, 3], [12, 11, 5, 4], [12, 11, 5], [12, 9, 6], [12, 9, 8, 7], [12, 9, 8], [12, 9], [12, 11, 10], [12, 11]] ?_ ?_
   · refine step_cons ?_ ?_
     · intro zy220 zw221 zhc222 zhf223 zhp224
       have zS225 := zS178.quiet zhc222
       refine step1 ?_
       refine yenv [] (ag_nil) ?_
       have zS226 := zS225.loc
       refine Y.call_ 69 #[ι 1, ι 1000] ?_
       refine enter_ Tryz.func69 rfl (seq_ (reg_ ?_))
       refine new_ zS226 (fun b => π b 0) (.cells #[ι 1] 3) ?_
       intro zb227 zw228 zS229
       refine new_ zS229 (fun b => π b 0) (.cells #[ι 1000] 3) ?_
       intro zb230 zw231 zS232
       refine pure_ (.nilFunc) (nsr_ (pure_ (.func (.func 111) #[] #[π zb227 0, π zb230 0]) (assign_ (nil_ (then_n (wp_ret (ret_ rfl (res_ [.tmp 4] [.func (.func 111) #[] #[π zb227 0, π zb230 0]] (.func (.func 111) #[] #[π zb227 0, π zb230 0]) ⟨res_tmp, trivial⟩) ?_)))))))
       exact ⟨zS232.ch, Sp.mk_holds [zb227, zb230] (all_cons (zS232.isNew zhc222.size 1 (by kernel_rfl)) (all_cons (zS232.isNew zhc222.size 0 (by kernel_rfl)) (all_nil)))⟩
     refine step_cons qP_ ?_
     refine step_cons (qL_ zS178 8 zb1 46) ?_
     refine step_cons ?_ ?_
     · intro zy233 zw234 zhc235 zhf236 zhp237
       obtain ⟨zb239, zb240, zh238', zg241'⟩ := Sp.out2 (zhp237 0 72 (by kernel_rfl) (by kernel_rfl))
       have zh238 : zy233 72 = .func (.func 111) #[] #[π zb239 0, π zb240 0] := zh238'
       have zg241 : ∀ zp ∈ ([(zb239, .cells #[ι 1] 3 (0, 0)), (zb240, .cells #[ι 1000] 3 (0, 0))] : List (Nat × Obj)), zw176.heap.size ≤ zp.1 ∧ zw234.heap[zp.1]? = some zp.2 := zg241'
       have zh242 : zy233 74 = ι (q 46) := (Sp.out0 (zhp237 2 74 (by kernel_rfl) (by kernel_rfl))).1
       have zS243 := zS178.ro zhc235 ([(zb239, .cells #[ι 1] 3 (0, 0)), (zb240, .cells #[ι 1000] 3 (0, 0))]) (zg241)
       refine step1 ?_
       refine yenv [(72, .func (.func 111) #[] #[π zb239 0, π zb240 0]), (74, ι (q 46))] (ag_cons zh238 (ag_cons zh242 (ag_nil))) ?_
       have zS244 := zS243.loc
       refine Y.call_ 111 #[ι (q 46), π zb239 0, π zb240 0] ?_
       refine (within1_any 1 1000 (q 46) zb239 zb240 _ (zS244.ob 0 false 3) (zS244.ob 1 false 3)).mono ?_; rintro _ zw245 ⟨rfl, zhc246⟩
       have zS247 := zS244.quiet zhc246
       exact ⟨zS247.ch, Sp.mk_holds [] (all_nil)⟩
     refine step_cons qP_ ?_
     refine step_cons qP_ ?_
     refine step_cons ?_ ?_
     · intro zy248 zw249 zhc250 zhf251 zhp252
       have zh253 : zy248 77 = .bool (!(inB 1 1000 (q 46))) := (Sp.out0 (zhp252 5 77 (by kernel_rfl) (by kernel_rfl))).1
       have zh254 : zy248 77 = τ := zh253.trans (congrArg Value.bool (zh218))
       have zS255 := zS178.quiet zhc250
       refine step_no (wY_f zh254) ?_
       exact Sp.mk_holds [] all_nil
     refine step_cons ?_ ?_
     · intro zy256 zw257 zhc258 zhf259 zhp260
       have zh261 : zy256 1 = π zb1 0 := (zhf259 1 (by kernel_rfl)).trans (by kernel_rfl)
       have zh262 : zy256 77 = .bool (!(inB 1 1000 (q 46))) := (Sp.out0 (zhp260 5 77 (by kernel_rfl) (by kernel_rfl))).1
       have zh263 : zy256 77 = τ := zh262.trans (congrArg Value.bool (zh218))
       have zS264 := zS178.quiet zhc258
       refine step_no (wY_f zh263) ?_
       exact Sp.mk_holds [] all_nil
     refine step_cons ?_ ?_
     · intro zy265 zw266 zhc267 zhf268 zhp269
       have zh270 : zy265 79 = undef := (Sp.out0 (zhp269 7 79 (by kernel_rfl) (by kernel_rfl))).1
       have zh271 : zy265 77 = .bool (!(inB 1 1000 (q 46))) := (Sp.out0 (zhp269 5 77 (by kernel_rfl) (by kernel_rfl))).1
       have zh272 : zy265 77 = τ := zh271.trans (congrArg Value.bool (zh218))
       have zS273 := zS178.quiet zhc267
       refine step_no (wY_f zh272) ?_
       exact Sp.mk_holds [] all_nil
     exact step_nil
   intro zv274 zw275 zhc276 zha277
   obtain ⟨zb279, zb280, zh278', zg281'⟩ := Sp.out2 (zha277 0 (by kernel_rfl))
   have zh278 : zv274 0 = .func (.func 111) #[] #[π zb279 0, π zb280 0] := zh278'
   have zg281 : ∀ zp ∈ ([(zb279, .cells #[ι 1] 3 (0, 0)), (zb280, .cells #[ι 1000] 3 (0, 0))] : List (Nat × Obj)), zw176.heap.size ≤ zp.1 ∧ zw275.heap[zp.1]? = some zp.2 := zg281'
   have zh282 : zv274 1 = π zb1 46 := (Sp.out0 (zha277 1 (by kernel_rfl))).1
   have zh283 : zv274 2 = ι (q 46) := (Sp.out0 (zha277 2 (by kernel_rfl))).1
   have zh284 : zv274 3 = .bool (inB 1 1000 (q 46)) := (Sp.out0 (zha277 3 (by kernel_rfl))).1
   have zh285 : zv274 4 = .bool (!(inB 1 1000 (q 46))) := (Sp.out0 (zha277 4 (by kernel_rfl))).1
   have zh286 : zv274 5 = .bool (!(inB 1 1000 (q 46))) := (Sp.out0 (zha277 5 (by kernel_rfl))).1
   have zh287 : zv274 6 = undef := (Sp.out0 (zha277 6 (by kernel_rfl))).1
   have zh288 : zv274 7 = undef := (Sp.out0 (zha277 7 (by kernel_rfl))).1
   have zh289 : zv274 8 = undef := (Sp.out0 (zha277 8 (by kernel_rfl))).1
   have zS290 := zS178.ro zhc276 ([(zb279, .cells #[ι 1] 3 (0, 0)), (zb280, .cells #[ι 1000] 3 (0, 0))]) (zg281)
   refine ⟨[.func (.func 111) #[] #[π zb279 0, π zb280 0], π zb1 46, ι (q 46), .bool (inB 1 1000 (q 46)), .bool (!(inB 1 1000 (q 46))), .bool (!(inB 1 1000 (q 46))), undef, undef, undef], by kernel_rfl, va_cons zh278 (va_cons zh282 (va_cons zh283 (va_cons zh284 (va_cons zh285 (va_cons zh286 (va_cons zh287 (va_cons zh288 (va_cons zh289 (va_nil))))))))), ?_⟩
   refine slotK_ 77 (!(inB 1 1000 (q 46))) true (zh218) (skip_ (skip_ (pure_ (τ) (pure_ (τ) (nil_ (then_n (cond_T (seq_ (reg_ (pure_ (ι 47) (nil_ (then_n (wp_ret (blk_r (then_r (ret_ rfl (res_ [.tmp 2] [ι 47] (ι 47) ⟨res_tmp, trivial⟩) ?_))))))))))))))))
   exact ⟨congrArg _ (by simp [polCode, zh9, zh10, zh16, zh17, zh23, zh24, zh27, zh31, zh38, zh39, zh45, zh46, zh76, zh77, zh127, zh128, zh181, zh182, zh218, zh219, zh28, zh32]), zS290.ch⟩
 intro zh291
 have zh292 := notF' zh291
 have zh293 := inB_is _ _ _ zh292
 refine drawnL_ 9 [⟨2, fun ids => .func (.func 111) #[] #[π (ids.getD 0 0) 0, π (ids.getD 1 0) 0], fun ids => [((ids.getD 0 0), .cells #[ι 1] 3 (0, 0)), ((ids.getD 1 0), .cells #[ι 1000] 3 (0, 0))]⟩, ⟨0, fun _ => π zb1 46, fun _ => []⟩, ⟨0, fun _ => ι (q 46), fun _ => []⟩, ⟨0, fun _ => .bool (inB 1 1000 (q 46)), fun _ => []⟩, ⟨0, fun _ => .bool (!(inB 1 1000 (q 46))), fun _ => []⟩, ⟨0, fun _ => .bool (!(inB 1 1000 (q 46))), fun _ => []⟩, ⟨2, fun ids => .func (.func 111) #[] #[π (ids.getD 0 0) 0, π (ids.getD 1 0) 0], fun ids => [((ids.getD 0 0), .cells #[ι 0] 3 (0, 0)), ((ids.getD 1 0), .cells #[ι 1000] 3 (0, 0))]⟩, ⟨0, fun _ => π zb1 47, fun _ => []⟩, ⟨0, fun _ => ι (q 47), fun _ => []⟩] [[9, 5, 3, 0], [9, 5, 3, 2, 1], [9, 5, 3, 2], [9, 5, 3], [9, 5, 4], [9, 5], [9, 6], [9, 8, 7], [9, 8], [10, 5, 3, 0], [10, 5, 3, 2, 1], [10, 5, 3, 2], [10, 5, 3], [10, 5, 4], [10, 5], [10, 9, 6], [10, 9, 8, 7], [10, 9, 8], [10, 9], [11, 5, 3, 0], [11, 5, 3, 2, 1], [11, 5, 3, 2], [11, 5, 3], [11, 5, 4], [11, 5], [11, 10, 9, 6], [11, 10, 9, 8, 7], [11, 10, 9, 8], [11, 10, 9], [11, 10], [12, 11, 5, 3, 0], [12, 11, 5, 3, 2, 1], [12, 11, 5, 3, 2], [12, 11, 5, 3], [12, 11, 5, 4], [12, 11, 5], [12, 9, 6], [12, 9, 8, 7], [12, 9, 8], [12, 9], [12, 11, 10], [12, 11]] ?_ ?_
 · refine step_cons ?_ ?_
   · intro zy294 zw295 zhc296 zhf297 zhp298
     have zS299 := zS178.quiet zhc296
     refine step1 ?_
     refine yenv [] (ag_nil) ?_
     have zS300 := zS299.loc
     refine Y.call_ 69 #[ι 1, ι 1000] ?_
     refine enter_ Tryz.func69 rfl (seq_ (reg_ ?_))
     refine new_ zS300 (fun b => π b 0) (.cells #[ι 1] 3) ?_
     intro zb301 zw302 zS303
     refine new_ zS303 (fun b => π b 0) (.cells #[ι 1000] 3) ?_
     intro zb304 zw305 zS306
     refine pure_ (.nilFunc) (nsr_ (pure_ (.func (.func 111) #[] #[π zb301 0, π zb304 0]) (assign_ (nil_ (then_n (wp_ret (ret_ rfl (res_ [.tmp 4] [.func (.func 111) #[] #[π zb301 0, π zb304 0]] (.func (.func 111) #[] #[π zb301 0, π zb304 0]) ⟨res_tmp, trivial⟩) ?_)))))))
     exact ⟨zS306.ch, Sp.mk_holds [zb301, zb304] (all_cons (zS306.isNew zhc296.size 1 (by kernel_rfl)) (all_cons (zS306.isNew zhc296.size 0 (by kernel_rfl)) (all_nil)))⟩
   refine step_cons qP_ ?_
   refine step_cons (qL_ zS178 8 zb1 46) ?_
   refine step_cons ?_ ?_
   · intro zy307 zw308 zhc309 zhf310 zhp311
     obtain ⟨zb313, zb314, zh312', zg315'⟩ := Sp.out2 (zhp311 0 72 (by kernel_rfl) (by kernel_rfl))
     have zh312 : zy307 72 = .func (.func 111) #[] #[π zb313 0, π zb314 0] := zh312'
     have zg315 : ∀ zp ∈ ([(zb313, .cells #[ι 1] 3 (0, 0)), (zb314, .cells #[ι 1000] 3 (0, 0))] : List (Nat × Obj)), zw176.heap.size ≤ zp.1 ∧ zw308.heap[zp.1]? = some zp.2 := zg315'
     have zh316 : zy307 74 = ι (q 46) := (Sp.out0 (zhp311 2 74 (by kernel_rfl) (by kernel_rfl))).1
     have zS317 := zS178.ro zhc309 ([(zb313, .cells #[ι 1] 3 (0, 0)), (zb314, .cells #[ι 1000] 3 (0, 0))]) (zg315)
     refine step1 ?_
     refine yenv [(72, .func (.func 111) #[] #[π zb313 0, π zb314 0]), (74, ι (q 46))] (ag_cons zh312 (ag_cons zh316 (ag_nil))) ?_
     have zS318 := zS317.loc
     refine Y.call_ 111 #[ι (q 46), π zb313 0, π zb314 0] ?_
     refine (within1_any 1 1000 (q 46) zb313 zb314 _ (zS318.ob 0 false 3) (zS318.ob 1 false 3)).mono ?_; rintro _ zw319 ⟨rfl, zhc320⟩
     have zS321 := zS318.quiet zhc320
     exact ⟨zS321.ch, Sp.mk_holds [] (all_nil)⟩
   refine step_cons qP_ ?_
   refine step_cons qP_ ?_
   refine step_cons ?_ ?_
   · intro zy322 zw323 zhc324 zhf325 zhp326
     have zh327 : zy322 77 = .bool (!(inB 1 1000 (q 46))) := (Sp.out0 (zhp326 5 77 (by kernel_rfl) (by kernel_rfl))).1
     have zh328 : zy322 77 = φ := zh327.trans (congrArg Value.bool (zh291))
     have zS329 := zS178.quiet zhc324
     refine step_yes (wY_t zh328) ?_
     refine yenv [] (ag_nil) ?_
     have zS330 := zS329.loc
     refine Y.call_ 69 #[ι 0, ι 1000] ?_
     refine enter_ Tryz.func69 rfl (seq_ (reg_ ?_))
     refine new_ zS330 (fun b => π b 0) (.cells #[ι 0] 3) ?_
     intro zb331 zw332 zS333
     refine new_ zS333 (fun b => π b 0) (.cells #[ι 1000] 3) ?_
     intro zb334 zw335 zS336
     refine pure_ (.nilFunc) (nsr_ (pure_ (.func (.func 111) #[] #[π zb331 0, π zb334 0]) (assign_ (nil_ (then_n (wp_ret (ret_ rfl (res_ [.tmp 4] [.func (.func 111) #[] #[π zb331 0, π zb334 0]] (.func (.func 111) #[] #[π zb331 0, π zb334 0]) ⟨res_tmp, trivial⟩) ?_)))))))
     exact ⟨zS336.ch, Sp.mk_holds [zb331, zb334] (all_cons (zS336.isNew zhc324.size 1 (by kernel_rfl)) (all_cons (zS336.isNew zhc324.size 0 (by kernel_rfl)) (all_nil)))⟩
   refine step_cons ?_ ?_
   · intro zy337 zw338 zhc339 zhf340 zhp341
     have zh342 : zy337 1 = π zb1 0 := (zhf340 1 (by kernel_rfl)).trans (by kernel_rfl)
     have zh343 : zy337 77 = .bool (!(inB 1 1000 (q 46))) := (Sp.out0 (zhp341 5 77 (by kernel_rfl) (by kernel_rfl))).1
     have zh344 : zy337 77 = φ := zh343.trans (congrArg Value.bool (zh291))
     have zS345 := zS178.quiet zhc339
     refine step_yes (wY_t zh344) ?_
     refine yenv [(1, π zb1 0)] (ag_cons zh342 (ag_nil)) ?_
     have zS346 := zS345.loc
     refine Y.pure_ (π zb1 47) ?_
     exact ⟨zS346.ch, Sp.mk_holds [] (all_nil)⟩
   refine step_cons ?_ ?_
   · intro zy347 zw348 zhc349 zhf350 zhp351
     have zh352 : zy347 79 = π zb1 47 := (Sp.out0 (zhp351 7 79 (by kernel_rfl) (by kernel_rfl))).1
     have zh353 : zy347 77 = .bool (!(inB 1 1000 (q 46))) := (Sp.out0 (zhp351 5 77 (by kernel_rfl) (by kernel_rfl))).1
     have zh354 : zy347 77 = φ := zh353.trans (congrArg Value.bool (zh291))
     have zS355 := zS178.quiet zhc349
     refine step_yes (wY_t zh354) ?_
     refine yenv [(79, π zb1 47)] (ag_cons zh352 (ag_nil)) ?_
     have zS356 := zS355.loc
     refine Y.load1_ zS356 8 (ι (q 47)) zb1 47 ?_
     exact ⟨zS356.ch, Sp.mk_holds [] (all_nil)⟩
   exact step_nil
 intro zv357 zw358 zhc359 zha360
 obtain ⟨zb362, zb363, zh361', zg364'⟩ := Sp.out2 (zha360 0 (by kernel_rfl))
 have zh361 : zv357 0 = .func (.func 111) #[] #[π zb362 0, π zb363 0] := zh361'
 have zg364 : ∀ zp ∈ ([(zb362, .cells #[ι 1] 3 (0, 0)), (zb363, .cells #[ι 1000] 3 (0, 0))] : List (Nat × Obj)), zw176.heap.size ≤ zp.1 ∧ zw358.heap[zp.1]? = some zp.2 := zg364'
 have zh365 : zv357 1 = π zb1 46 := (Sp.out0 (zha360 1 (by kernel_rfl))).1
 have zh366 : zv357 2 = ι (q 46) := (Sp.out0 (zha360 2 (by kernel_rfl))).1
 have zh367 : zv357 3 = .bool (inB 1 1000 (q 46)) := (Sp.out0 (zha360 3 (by kernel_rfl))).1
 have zh368 : zv357 4 = .bool (!(inB 1 1000 (q 46))) := (Sp.out0 (zha360 4 (by kernel_rfl))).1
 have zh369 : zv357 5 = .bool (!(inB 1 1000 (q 46))) := (Sp.out0 (zha360 5 (by kernel_rfl))).1
 obtain ⟨zb371, zb372, zh370', zg373'⟩ := Sp.out2 (zha360 6 (by kernel_rfl))
 have zh370 : zv357 6 = .func (.func 111) #[] #[π zb371 0, π zb372 0] := zh370'
 have zg373 : ∀ zp ∈ ([(zb371, .cells #[ι 0] 3 (0, 0)), (zb372, .cells #[ι 1000] 3 (0, 0))] : List (Nat × Obj)), zw176.heap.size ≤ zp.1 ∧ zw358.heap[zp.1]? = some zp.2 := zg373'
 have zh374 : zv357 7 = π zb1 47 := (Sp.out0 (zha360 7 (by kernel_rfl))).1
 have zh375 : zv357 8 = ι (q 47) := (Sp.out0 (zha360 8 (by kernel_rfl))).1
 have zS376 := zS178.ro zhc359 (([(zb362, .cells #[ι 1] 3 (0, 0)), (zb363, .cells #[ι 1000] 3 (0, 0))] ++ [(zb371, .cells #[ι 0] 3 (0, 0)), (zb372, .cells #[ι 1000] 3 (0, 0))])) (List.forall_mem_append.2 ⟨zg364, zg373⟩)
 refine ⟨[.func (.func 111) #[] #[π zb362 0, π zb363 0], π zb1 46, ι (q 46), .bool (inB 1 1000 (q 46)), .bool (!(inB 1 1000 (q 46))), .bool (!(inB 1 1000 (q 46))), .func (.func 111) #[] #[π zb371 0, π zb372 0], π zb1 47, ι (q 47)], by kernel_rfl, va_cons zh361 (va_cons zh365 (va_cons zh366 (va_cons zh367 (va_cons zh368 (va_cons zh369 (va_cons zh370 (va_cons zh374 (va_cons zh375 (va_nil))))))))), ?_⟩
 refine slotK_ 77 (!(inB 1 1000 (q 46))) false (zh291) (call_ 111 #[ι (q 47), π zb371 0, π zb372 0] ?_)
 refine (within1_any 0 1000 (q 47) zb371 zb372 _ (zS376.ob 2 false 3) (zS376.ob 3 false 3)).mono ?_; rintro _ zw377 ⟨rfl, zhc378⟩
 have zS379 := zS376.quiet zhc378
 refine pure_ (.bool (!(inB 0 1000 (q 47)))) (pure_ (.bool (!(inB 0 1000 (q 47)))) (assign_ (nil_ (then_n ?_))))
 refine cond_S (!(inB 0 1000 (q 47))) ?_ ?_
 · intro zh380
   have zh381 := notT' zh380
   refine seq_ (reg_ (pure_ (ι 47) (nil_ (then_n (wp_ret (blk_r (then_r (ret_ rfl (res_ [.tmp 2] [ι 47] (ι 47) ⟨res_tmp, trivial⟩) ?_))))))))
   exact ⟨congrArg _ (by simp [polCode, zh9, zh10, zh16, zh17, zh23, zh24, zh27, zh31, zh38, zh39, zh45, zh46, zh76, zh77, zh127, zh128, zh181, zh182, zh291, zh292, zh380, zh381, zh28, zh32]), zS379.ch⟩
 intro zh382
 have zh383 := notF' zh382
 have zh384 := inB_is _ _ _ zh383
 refine seq_ ?_
 refine drawnL_ 6 [⟨0, fun _ => π zb1 48, fun _ => []⟩, ⟨0, fun _ => ι (q 48), fun _ => []⟩, ⟨0, fun _ => π zb1 49, fun _ => []⟩, ⟨0, fun _ => ι (q 49), fun _ => []⟩, ⟨1, fun ids => σ (ids.getD 0 0) 0 2 2, fun ids => [((ids.getD 0 0), .cells #[ι (q 48), ι (q 49)] 3 (0, 0))]⟩, ⟨2, fun ids => .func (.func 111) #[] #[π (ids.getD 0 0) 0, π (ids.getD 1 0) 0], fun ids => [((ids.getD 0 0), .cells #[ι 1] 3 (0, 0)), ((ids.getD 1 0), .cells #[ι 3] 3 (0, 0))]⟩] [[6, 4, 1, 0], [6, 4, 1], [6, 4, 3, 2], [6, 4, 3], [6, 4], [6, 5], [7, 6, 4, 1, 0], [7, 6, 4, 1], [7, 6, 4, 3, 2], [7, 6, 4, 3], [7, 6, 4], [7, 6, 5], [7, 6], [8, 6, 4, 1, 0], [8, 6, 4, 1], [8, 6, 4, 3, 2], [8, 6, 4, 3], [8, 6, 4], [8, 6, 5], [8, 6], [8, 7]] ?_ ?_
 · refine step_cons qP_ ?_
   refine step_cons (qL_ zS379 12 zb1 48) ?_
   refine step_cons qP_ ?_
   refine step_cons (qL_ zS379 12 zb1 49) ?_
   refine step_cons ?_ ?_
   · intro zy385 zw386 zhc387 zhf388 zhp389
     have zh390 : zy385 86 = ι (q 48) := (Sp.out0 (zhp389 1 86 (by kernel_rfl) (by kernel_rfl))).1
     have zh391 : zy385 88 = ι (q 49) := (Sp.out0 (zhp389 3 88 (by kernel_rfl) (by kernel_rfl))).1
     have zS392 := zS379.quiet zhc387
     refine step1 ?_
     refine yenv [(86, ι (q 48)), (88, ι (q 49))] (ag_cons zh390 (ag_cons zh391 (ag_nil))) ?_
     have zS393 := zS392.loc
     refine Y.new_ zS393 (fun b => σ b 0 2 2) (.cells #[ι (q 48), ι (q 49)] 3) ?_
     intro zb394 zw395 zS396
     exact ⟨zS396.ch, Sp.mk_holds [zb394] (all_cons (zS396.isNew zhc387.size 0 (by kernel_rfl)) (all_nil))⟩
   refine step_cons ?_ ?_
   · intro zy397 zw398 zhc399 zhf400 zhp401
     have zS402 := zS379.quiet zhc399
     refine step1 ?_
     refine yenv [] (ag_nil) ?_
     have zS403 := zS402.loc
     refine Y.call_ 69 #[ι 1, ι 3] ?_
     refine enter_ Tryz.func69 rfl (seq_ (reg_ ?_))
     refine new_ zS403 (fun b => π b 0) (.cells #[ι 1] 3) ?_
     intro zb404 zw405 zS406
     refine new_ zS406 (fun b => π b 0) (.cells #[ι 3] 3) ?_
     intro zb407 zw408 zS409
     refine pure_ (.nilFunc) (nsr_ (pure_ (.func (.func 111) #[] #[π zb404 0, π zb407 0]) (assign_ (nil_ (then_n (wp_ret (ret_ rfl (res_ [.tmp 4] [.func (.func 111) #[] #[π zb404 0, π zb407 0]] (.func (.func 111) #[] #[π zb404 0, π zb407 0]) ⟨res_tmp, trivial⟩) ?_)))))))
     exact ⟨zS409.ch, Sp.mk_holds [zb404, zb407] (all_cons (zS409.isNew zhc399.size 1 (by kernel_rfl)) (all_cons (zS409.isNew zhc399.size 0 (by kernel_rfl)) (all_nil)))⟩
   exact step_nil
 intro zv410 zw411 zhc412 zha413
 have zh414 : zv410 0 = π zb1 48 := (Sp.out0 (zha413 0 (by kernel_rfl))).1
 have zh415 : zv410 1 = ι (q 48) := (Sp.out0 (zha413 1 (by kernel_rfl))).1
 have zh416 : zv410 2 = π zb1 49 := (Sp.out0 (zha413 2 (by kernel_rfl))).1
 have zh417 : zv410 3 = ι (q 49) := (Sp.out0 (zha413 3 (by kernel_rfl))).1
 obtain ⟨zb419, zh418', zg420'⟩ := Sp.out1 (zha413 4 (by kernel_rfl))
 have zh418 : zv410 4 = σ zb419 0 2 2 := zh418'
 have zg420 : ∀ zp ∈ ([(zb419, .cells #[ι (q 48), ι (q 49)] 3 (0, 0))] : List (Nat × Obj)), zw377.heap.size ≤ zp.1 ∧ zw411.heap[zp.1]? = some zp.2 := zg420'
 obtain ⟨zb422, zb423, zh421', zg424'⟩ := Sp.out2 (zha413 5 (by kernel_rfl))
 have zh421 : zv410 5 = .func (.func 111) #[] #[π zb422 0, π zb423 0] := zh421'
 have zg424 : ∀ zp ∈ ([(zb422, .cells #[ι 1] 3 (0, 0)), (zb423, .cells #[ι 3] 3 (0, 0))] : List (Nat × Obj)), zw377.heap.size ≤ zp.1 ∧ zw411.heap[zp.1]? = some zp.2 := zg424'
 have zS425 := zS379.ro zhc412 (([(zb419, .cells #[ι (q 48), ι (q 49)] 3 (0, 0))] ++ [(zb422, .cells #[ι 1] 3 (0, 0)), (zb423, .cells #[ι 3] 3 (0, 0))])) (List.forall_mem_append.2 ⟨zg420, zg424⟩)
 refine ⟨[π zb1 48, ι (q 48), π zb1 49, ι (q 49), σ zb419 0 2 2, .func (.func 111) #[] #[π zb422 0, π zb423 0]], by kernel_rfl, va_cons zh414 (va_cons zh415 (va_cons zh416 (va_cons zh417 (va_cons zh418 (va_cons zh421 (va_nil)))))), ?_⟩
 refine call_ 65 #[σ zb419 0 2 2, .func (.func 111) #[] #[π zb422 0, π zb423 0]] ?_
 refine (all_s2 1 3 (q 48) (q 49) zb419 zb422 zb423 _ (zS425.ob 0 false 3) (zS425.ob 1 false 3) (zS425.ob 2 false 3)).mono ?_; rintro _ zw426 ⟨rfl, zhc427⟩
 have zS428 := zS425.quiet zhc427
 refine pure_ (.bool (!(allI 1 3 [(q 48), (q 49)]))) (assign_ (nil_ (then_n ?_)))
 refine cond_S (!(allI 1 3 [(q 48), (q 49)])) ?_ ?_
 · intro zh429
   have zh430 := notT' zh429
   refine seq_ (reg_ (pure_ (ι 48) (nil_ (then_n (wp_ret (blk_r (then_r (ret_ rfl (res_ [.tmp 2] [ι 48] (ι 48) ⟨res_tmp, trivial⟩) ?_))))))))
   exact ⟨congrArg _ (by simp [polCode, zh9, zh10, zh16, zh17, zh23, zh24, zh27, zh31, zh38, zh39, zh45, zh46, zh76, zh77, zh127, zh128, zh181, zh182, zh291, zh292, zh382, zh383, zh429, zh430, zh28, zh32]), zS428.ch⟩
 intro zh431
 have zh432 := notF' zh431
 refine seq_ ?_
 refine split_b ((q 50) != 0) ?_ ?_
 · intro zh433
   have zh434 := neT' zh433
   refine quietL_ 15 [π zb1 50, π zb1 50, ι (q 50), τ, τ, undef, undef, undef, undef, undef, τ, τ, undef, undef, undef] [[15, 11, 10, 4, 3, 2, 1, 0], [15, 11, 10, 4, 3, 2, 1], [15, 11, 10, 4, 3, 2], [15, 11, 10, 4, 3], [15, 11, 10, 4], [15, 11, 8, 6, 5], [15, 11, 8, 6], [15, 11, 8, 7], [15, 11, 8], [15, 11, 10, 9], [15, 11, 10], [15, 11], [15, 12], [15, 14, 13], [15, 14], [16, 11, 10, 4, 3, 2, 1, 0], [16, 11, 10, 4, 3, 2, 1], [16, 11, 10, 4, 3, 2], [16, 11, 10, 4, 3], [16, 11, 10, 4], [16, 11, 8, 6, 5], [16, 11, 8, 6], [16, 11, 8, 7], [16, 11, 8], [16, 11, 10, 9], [16, 11, 10], [16, 11], [16, 15, 12], [16, 15, 14, 13], [16, 15, 14], [16, 15], [17, 11, 10, 4, 3, 2, 1, 0], [17, 11, 10, 4, 3, 2, 1], [17, 11, 10, 4, 3, 2], [17, 11, 10, 4, 3], [17, 11, 10, 4], [17, 11, 8, 6, 5], [17, 11, 8, 6], [17, 11, 8, 7], [17, 11, 8], [17, 11, 10, 9], [17, 11, 10], [17, 11], [17, 16, 15, 12], [17, 16, 15, 14, 13], [17, 16, 15, 14], [17, 16, 15], [17, 16], [18, 17, 11, 10, 4, 3, 2, 1, 0], [18, 17, 11, 10, 4, 3, 2, 1], [18, 17, 11, 10, 4, 3, 2], [18, 17, 11, 10, 4, 3], [18, 17, 11, 10, 4], [18, 17, 11, 8, 6, 5], [18, 17, 11, 8, 6], [18, 17, 11, 8, 7], [18, 17, 11, 8], [18, 17, 11, 10, 9], [18, 17, 11, 10], [18, 17, 11], [18, 15, 12], [18, 15, 14, 13], [18, 15, 14], [18, 15], [18, 17, 16], [18, 17]] (step_cons qP_ (step_cons qP_ (step_cons (qL_ zS428 15 zb1 50) (step_cons (qE_ (.bool ((q 50) != 0)) (congrArg Value.bool (zh433))) (step_cons qP_ (step_cons (qX_ 4 98 false true) (step_cons (qX_ 4 98 false true) (step_cons (qX_ 4 98 false true) (step_cons (qX_ 4 98 false true) (step_cons (qX_ 4 98 false true) (step_cons qP_ (step_cons qP_ (step_cons (qX_ 11 105 false true) (step_cons (qX_ 11 105 false true) (step_cons (qX_ 11 105 false true) (step_nil)))))))))))))))) ?_
   intro zw435 zh437
   have zS436 := zS428.quiet zh437
   refine skip_ (skip_ (pure_ (τ) (pure_ (τ) (nil_ (then_n (cond_T (seq_ (reg_ (pure_ (ι 49) (nil_ (then_n (wp_ret (blk_r (then_r (ret_ rfl (res_ [.tmp 2] [ι 49] (ι 49) ⟨res_tmp, trivial⟩) ?_)))))))))))))))
   exact ⟨congrArg _ (by simp [polCode, zh9, zh10, zh16, zh17, zh23, zh24, zh27, zh31, zh38, zh39, zh45, zh46, zh76, zh77, zh127, zh128, zh181, zh182, zh291, zh292, zh382, zh383, zh431, zh432, zh433, zh28, zh32, zh434]), zS436.ch⟩
 intro zh438
 have zh439 := neF' zh438
 refine split_b (!(allI 0 1000 [(q 51), (q 52), (q 53)])) ?_ ?_
 · intro zh477
   have zh478 := notT' zh477
   refine drawnL_ 15 [⟨0, fun _ => π zb1 50, fun _ => []⟩, ⟨0, fun _ => π zb1 50, fun _ => []⟩, ⟨0, fun _ => ι (q 50), fun _ => []⟩, ⟨0, fun _ => φ, fun _ => []⟩, ⟨0, fun _ => φ, fun _ => []⟩, ⟨0, fun _ => π zb1 50, fun _ => []⟩, ⟨0, fun _ => σ zb1 51 3 3, fun _ => []⟩, ⟨2, fun ids => .func (.func 111) #[] #[π (ids.getD 0 0) 0, π (ids.getD 1 0) 0], fun ids => [((ids.getD 0 0), .cells #[ι 0] 3 (0, 0)), ((ids.getD 1 0), .cells #[ι 1000] 3 (0, 0))]⟩, ⟨0, fun _ => .bool (allI 0 1000 [(q 51), (q 52), (q 53)]), fun _ => []⟩, ⟨0, fun _ => .bool (!(allI 0 1000 [(q 51), (q 52), (q 53)])), fun _ => []⟩, ⟨0, fun _ => .bool (!(allI 0 1000 [(q 51), (q 52), (q 53)])), fun _ => []⟩, ⟨0, fun _ => .bool (!(allI 0 1000 [(q 51), (q 52), (q 53)])), fun _ => []⟩, ⟨0, fun _ => undef, fun _ => []⟩, ⟨0, fun _ => undef, fun _ => []⟩, ⟨0, fun _ => undef, fun _ => []⟩] [[15, 11, 10, 4, 3, 2, 1, 0], [15, 11, 10, 4, 3, 2, 1], [15, 11, 10, 4, 3, 2], [15, 11, 10, 4, 3], [15, 11, 10, 4], [15, 11, 8, 6, 5], [15, 11, 8, 6], [15, 11, 8, 7], [15, 11, 8], [15, 11, 10, 9], [15, 11, 10], [15, 11], [15, 12], [15, 14, 13], [15, 14], [16, 11, 10, 4, 3, 2, 1, 0], [16, 11, 10, 4, 3, 2, 1], [16, 11, 10, 4, 3, 2], [16, 11, 10, 4, 3], [16, 11, 10, 4], [16, 11, 8, 6, 5], [16, 11, 8, 6], [16, 11, 8, 7], [16, 11, 8], [16, 11, 10, 9], [16, 11, 10], [16, 11], [16, 15, 12], [16, 15, 14, 13], [16, 15, 14], [16, 15], [17, 11, 10, 4, 3, 2, 1, 0], [17, 11, 10, 4, 3, 2, 1], [17, 11, 10, 4, 3, 2], [17, 11, 10, 4, 3], [17, 11, 10, 4], [17, 11, 8, 6, 5], [17, 11, 8, 6], [17, 11, 8, 7], [17, 11, 8], [17, 11, 10, 9], [17, 11, 10], [17, 11], [17, 16, 15, 12], [17, 16, 15, 14, 13], [17, 16, 15, 14], [17, 16, 15], [17, 16], [18, 17, 11, 10, 4, 3, 2, 1, 0], [18, 17, 11, 10, 4, 3, 2, 1], [18, 17, 11, 10, 4, 3, 2], [18, 17, 11, 10, 4, 3], [18, 17, 11, 10, 4], [18, 17, 11, 8, 6, 5], [18, 17, 11, 8, 6], [18, 17, 11, 8, 7], [18, 17, 11, 8], [18, 17, 11, 10, 9], [18, 17, 11, 10], [18, 17, 11], [18, 15, 12], [18, 15, 14, 13], [18, 15, 14], [18, 15], [18, 17, 16], [18, 17]] ?_ ?_
   · refine step_cons qP_ ?_
     refine step_cons qP_ ?_
     refine step_cons (qL_ zS428 15 zb1 50) ?_
     refine step_cons (qE_ (.bool ((q 50) != 0)) (congrArg Value.bool (zh438))) ?_
     refine step_cons qP_ ?_
     refine step_cons (qU_ 4 98 false qP_) ?_
     refine step_cons (qU_ 4 98 false qP_) ?_
     refine step_cons ?_ ?_
     · intro zy479 zw480 zhc481 zhf482 zhp483
       have zh484 : zy479 98 = φ := (Sp.out0 (zhp483 4 98 (by kernel_rfl) (by kernel_rfl))).1
       have zS485 := zS428.quiet zhc481
       refine step_yes (wY_t zh484) ?_
       refine yenv [] (ag_nil) ?_
       have zS486 := zS485.loc
       refine Y.call_ 69 #[ι 0, ι 1000] ?_
       refine enter_ Tryz.func69 rfl (seq_ (reg_ ?_))
       refine new_ zS486 (fun b => π b 0) (.cells #[ι 0] 3) ?_
       intro zb487 zw488 zS489
       refine new_ zS489 (fun b => π b 0) (.cells #[ι 1000] 3) ?_
       intro zb490 zw491 zS492
       refine pure_ (.nilFunc) (nsr_ (pure_ (.func (.func 111) #[] #[π zb487 0, π zb490 0]) (assign_ (nil_ (then_n (wp_ret (ret_ rfl (res_ [.tmp 4] [.func (.func 111) #[] #[π zb487 0, π zb490 0]] (.func (.func 111) #[] #[π zb487 0, π zb490 0]) ⟨res_tmp, trivial⟩) ?_)))))))
       exact ⟨zS492.ch, Sp.mk_holds [zb487, zb490] (all_cons (zS492.isNew zhc481.size 1 (by kernel_rfl)) (all_cons (zS492.isNew zhc481.size 0 (by kernel_rfl)) (all_nil)))⟩
     refine step_cons ?_ ?_
     · intro zy493 zw494 zhc495 zhf496 zhp497
       have zh498 : zy493 100 = σ zb1 51 3 3 := (Sp.out0 (zhp497 6 100 (by kernel_rfl) (by kernel_rfl))).1
       obtain ⟨zb500, zb501, zh499', zg502'⟩ := Sp.out2 (zhp497 7 101 (by kernel_rfl) (by kernel_rfl))
       have zh499 : zy493 101 = .func (.func 111) #[] #[π zb500 0, π zb501 0] := zh499'
       have zg502 : ∀ zp ∈ ([(zb500, .cells #[ι 0] 3 (0, 0)), (zb501, .cells #[ι 1000] 3 (0, 0))] : List (Nat × Obj)), zw426.heap.size ≤ zp.1 ∧ zw494.heap[zp.1]? = some zp.2 := zg502'
       have zh503 : zy493 98 = φ := (Sp.out0 (zhp497 4 98 (by kernel_rfl) (by kernel_rfl))).1
       have zS504 := zS428.ro zhc495 ([(zb500, .cells #[ι 0] 3 (0, 0)), (zb501, .cells #[ι 1000] 3 (0, 0))]) (zg502)
       refine step_yes (wY_t zh503) ?_
       refine yenv [(100, σ zb1 51 3 3), (101, .func (.func 111) #[] #[π zb500 0, π zb501 0])] (ag_cons zh498 (ag_cons zh499 (ag_nil))) ?_
       have zS505 := zS504.loc
       refine Y.call_ 65 #[σ zb1 51 3 3, .func (.func 111) #[] #[π zb500 0, π zb501 0]] ?_
       refine (all_p51_3 0 1000 q ka kn kc zb1 zb500 zb501 _ (zS505.ob 17 false 28) (zS505.ob 0 false 3) (zS505.ob 1 false 3)).mono ?_; rintro _ zw506 ⟨rfl, zhc507⟩
       have zS508 := zS505.quiet zhc507
       exact ⟨zS508.ch, Sp.mk_holds [] (all_nil)⟩
     refine step_cons (qU_ 4 98 false qP_) ?_
     refine step_cons qP_ ?_
     refine step_cons qP_ ?_
     refine step_cons ?_ ?_
     · intro zy509 zw510 zhc511 zhf512 zhp513
       have zh514 : zy509 105 = .bool (!(allI 0 1000 [(q 51), (q 52), (q 53)])) := (Sp.out0 (zhp513 11 105 (by kernel_rfl) (by kernel_rfl))).1
       have zh515 : zy509 105 = τ := zh514.trans (congrArg Value.bool (zh477))
       have zS516 := zS428.quiet zhc511
       refine step_no (wY_f zh515) ?_
       exact Sp.mk_holds [] all_nil
     refine step_cons ?_ ?_
     · intro zy517 zw518 zhc519 zhf520 zhp521
       have zh522 : zy517 1 = π zb1 0 := (zhf520 1 (by kernel_rfl)).trans (by kernel_rfl)
       have zh523 : zy517 105 = .bool (!(allI 0 1000 [(q 51), (q 52), (q 53)])) := (Sp.out0 (zhp521 11 105 (by kernel_rfl) (by kernel_rfl))).1
       have zh524 : zy517 105 = τ := zh523.trans (congrArg Value.bool (zh477))
       have zS525 := zS428.quiet zhc519
       refine step_no (wY_f zh524) ?_
       exact Sp.mk_holds [] all_nil
     refine step_cons ?_ ?_
     · intro zy526 zw527 zhc528 zhf529 zhp530
       have zh531 : zy526 107 = undef := (Sp.out0 (zhp530 13 107 (by kernel_rfl) (by kernel_rfl))).1
       have zh532 : zy526 105 = .bool (!(allI 0 1000 [(q 51), (q 52), (q 53)])) := (Sp.out0 (zhp530 11 105 (by kernel_rfl) (by kernel_rfl))).1
       have zh533 : zy526 105 = τ := zh532.trans (congrArg Value.bool (zh477))
       have zS534 := zS428.quiet zhc528
       refine step_no (wY_f zh533) ?_
       exact Sp.mk_holds [] all_nil
     exact step_nil
   intro zv535 zw536 zhc537 zha538
   have zh539 : zv535 0 = π zb1 50 := (Sp.out0 (zha538 0 (by kernel_rfl))).1
   have zh540 : zv535 1 = π zb1 50 := (Sp.out0 (zha538 1 (by kernel_rfl))).1
   have zh541 : zv535 2 = ι (q 50) := (Sp.out0 (zha538 2 (by kernel_rfl))).1
   have zh542 : zv535 3 = φ := (Sp.out0 (zha538 3 (by kernel_rfl))).1
   have zh543 : zv535 4 = φ := (Sp.out0 (zha538 4 (by kernel_rfl))).1
   have zh544 : zv535 5 = π zb1 50 := (Sp.out0 (zha538 5 (by kernel_rfl))).1
   have zh545 : zv535 6 = σ zb1 51 3 3 := (Sp.out0 (zha538 6 (by kernel_rfl))).1
   obtain ⟨zb547, zb548, zh546', zg549'⟩ := Sp.out2 (zha538 7 (by kernel_rfl))
   have zh546 : zv535 7 = .func (.func 111) #[] #[π zb547 0, π zb548 0] := zh546'
   have zg549 : ∀ zp ∈ ([(zb547, .cells #[ι 0] 3 (0, 0)), (zb548, .cells #[ι 1000] 3 (0, 0))] : List (Nat × Obj)), zw426.heap.size ≤ zp.1 ∧ zw536.heap[zp.1]? = some zp.2 := zg549'
   have zh550 : zv535 8 = .bool (allI 0 1000 [(q 51), (q 52), (q 53)]) := (Sp.out0 (zha538 8 (by kernel_rfl))).1
   have zh551 : zv535 9 = .bool (!(allI 0 1000 [(q 51), (q 52), (q 53)])) := (Sp.out0 (zha538 9 (by kernel_rfl))).1
   have zh552 : zv535 10 = .bool (!(allI 0 1000 [(q 51), (q 52), (q 53)])) := (Sp.out0 (zha538 10 (by kernel_rfl))).1
   have zh553 : zv535 11 = .bool (!(allI 0 1000 [(q 51), (q 52), (q 53)])) := (Sp.out0 (zha538 11 (by kernel_rfl))).1
   have zh554 : zv535 12 = undef := (Sp.out0 (zha538 12 (by kernel_rfl))).1
   have zh555 : zv535 13 = undef := (Sp.out0 (zha538 13 (by kernel_rfl))).1
   have zh556 : zv535 14 = undef := (Sp.out0 (zha538 14 (by kernel_rfl))).1
   have zS557 := zS428.ro zhc537 ([(zb547, .cells #[ι 0] 3 (0, 0)), (zb548, .cells #[ι 1000] 3 (0, 0))]) (zg549)
   refine ⟨[π zb1 50, π zb1 50, ι (q 50), φ, φ, π zb1 50, σ zb1 51 3 3, .func (.func 111) #[] #[π zb547 0, π zb548 0], .bool (allI 0 1000 [(q 51), (q 52), (q 53)]), .bool (!(allI 0 1000 [(q 51), (q 52), (q 53)])), .bool (!(allI 0 1000 [(q 51), (q 52), (q 53)])), .bool (!(allI 0 1000 [(q 51), (q 52), (q 53)])), undef, undef, undef], by kernel_rfl, va_cons zh539 (va_cons zh540 (va_cons zh541 (va_cons zh542 (va_cons zh543 (va_cons zh544 (va_cons zh545 (va_cons zh546 (va_cons zh550 (va_cons zh551 (va_cons zh552 (va_cons zh553 (va_cons zh554 (va_cons zh555 (va_cons zh556 (va_nil))))))))))))))), ?_⟩
   refine slotK_ 105 (!(allI 0 1000 [(q 51), (q 52), (q 53)])) true (zh477) (skip_ (skip_ (pure_ (τ) (pure_ (τ) (nil_ (then_n (cond_T (seq_ (reg_ (pure_ (ι 49) (nil_ (then_n (wp_ret (blk_r (then_r (ret_ rfl (res_ [.tmp 2] [ι 49] (ι 49) ⟨res_tmp, trivial⟩) ?_))))))))))))))))
   exact ⟨congrArg _ (by simp [polCode, zh9, zh10, zh16, zh17, zh23, zh24, zh27, zh31, zh38, zh39, zh45, zh46, zh76, zh77, zh127, zh128, zh181, zh182, zh291, zh292, zh382, zh383, zh431, zh432, zh438, zh477, zh478, zh28, zh32, zh439]), zS557.ch⟩
 intro zh558
 have zh559 := notF' zh558
 refine drawnL_ 15 [⟨0, fun _ => π zb1 50, fun _ => []⟩, ⟨0, fun _ => π zb1 50, fun _ => []⟩, ⟨0, fun _ => ι (q 50), fun _ => []⟩, ⟨0, fun _ => φ, fun _ => []⟩, ⟨0, fun _ => φ, fun _ => []⟩, ⟨0, fun _ => π zb1 50, fun _ => []⟩, ⟨0, fun _ => σ zb1 51 3 3, fun _ => []⟩, ⟨2, fun ids => .func (.func 111) #[] #[π (ids.getD 0 0) 0, π (ids.getD 1 0) 0], fun ids => [((ids.getD 0 0), .cells #[ι 0] 3 (0, 0)), ((ids.getD 1 0), .cells #[ι 1000] 3 (0, 0))]⟩, ⟨0, fun _ => .bool (allI 0 1000 [(q 51), (q 52), (q 53)]), fun _ => []⟩, ⟨0, fun _ => .bool (!(allI 0 1000 [(q 51), (q 52), (q 53)])), fun _ => []⟩, ⟨0, fun _ => .bool (!(allI 0 1000 [(q 51), (q 52), (q 53)])), fun _ => []⟩, ⟨0, fun _ => .bool (!(allI 0 1000 [(q 51), (q 52), (q 53)])), fun _ => []⟩, ⟨2, fun ids => .func (.func 111) #[] #[π (ids.getD 0 0) 0, π (ids.getD 1 0) 0], fun ids => [((ids.getD 0 0), .cells #[ι 1] 3 (0, 0)), ((ids.getD 1 0), .cells #[ι 1000] 3 (0, 0))]⟩, ⟨0, fun _ => π zb1 54, fun _ => []⟩, ⟨0, fun _ => ι (q 54), fun _ => []⟩] [[15, 11, 10, 4, 3, 2, 1, 0], [15, 11, 10, 4, 3, 2, 1], [15, 11, 10, 4, 3, 2], [15, 11, 10, 4, 3], [15, 11, 10, 4], [15, 11, 8, 6, 5], [15, 11, 8, 6], [15, 11, 8, 7], [15, 11, 8], [15, 11, 10, 9], [15, 11, 10], [15, 11], [15, 12], [15, 14, 13], [15, 14], [16, 11, 10, 4, 3, 2, 1, 0], [16, 11, 10, 4, 3, 2, 1], [16, 11, 10, 4, 3, 2], [16, 11, 10, 4, 3], [16, 11, 10, 4], [16, 11, 8, 6, 5], [16, 11, 8, 6], [16, 11, 8, 7], [16, 11, 8], [16, 11, 10, 9], [16, 11, 10], [16, 11], [16, 15, 12], [16, 15, 14, 13], [16, 15, 14], [16, 15], [17, 11, 10, 4, 3, 2, 1, 0], [17, 11, 10, 4, 3, 2, 1], [17, 11, 10, 4, 3, 2], [17, 11, 10, 4, 3], [17, 11, 10, 4], [17, 11, 8, 6, 5], [17, 11, 8, 6], [17, 11, 8, 7], [17, 11, 8], [17, 11, 10, 9], [17, 11, 10], [17, 11], [17, 16, 15, 12], [17, 16, 15, 14, 13], [17, 16, 15, 14], [17, 16, 15], [17, 16], [18, 17, 11, 10, 4, 3, 2, 1, 0], [18, 17, 11, 10, 4, 3, 2, 1], [18, 17, 11, 10, 4, 3, 2], [18, 17, 11, 10, 4, 3], [18, 17, 11, 10, 4], [18, 17, 11, 8, 6, 5], [18, 17, 11, 8, 6], [18, 17, 11, 8, 7], [18, 17, 11, 8], [18, 17, 11, 10, 9], [18, 17, 11, 10], [18, 17, 11], [18, 15, 12], [18, 15, 14, 13], [18, 15, 14], [18, 15], [18, 17, 16], [18, 17]] ?_ ?_
 · refine step_cons qP_ ?_
   refine step_cons qP_ ?_
   refine step_cons (qL_ zS428 15 zb1 50) ?_
   refine step_cons (qE_ (.bool ((q 50) != 0)) (congrArg Value.bool (zh438))) ?_
   refine step_cons qP_ ?_
   refine step_cons (qU_ 4 98 false qP_) ?_
   refine step_cons (qU_ 4 98 false qP_) ?_
   refine step_cons ?_ ?_
   · intro zy560 zw561 zhc562 zhf563 zhp564
     have zh565 : zy560 98 = φ := (Sp.out0 (zhp564 4 98 (by kernel_rfl) (by kernel_rfl))).1
     have zS566 := zS428.quiet zhc562
     refine step_yes (wY_t zh565) ?_
     refine yenv [] (ag_nil) ?_
     have zS567 := zS566.loc
     refine Y.call_ 69 #[ι 0, ι 1000] ?_
     refine enter_ Tryz.func69 rfl (seq_ (reg_ ?_))
     refine new_ zS567 (fun b => π b 0) (.cells #[ι 0] 3) ?_
     intro zb568 zw569 zS570
     refine new_ zS570 (fun b => π b 0) (.cells #[ι 1000] 3) ?_
     intro zb571 zw572 zS573
     refine pure_ (.nilFunc) (nsr_ (pure_ (.func (.func 111) #[] #[π zb568 0, π zb571 0]) (assign_ (nil_ (then_n (wp_ret (ret_ rfl (res_ [.tmp 4] [.func (.func 111) #[] #[π zb568 0, π zb571 0]] (.func (.func 111) #[] #[π zb568 0, π zb571 0]) ⟨res_tmp, trivial⟩) ?_)))))))
     exact ⟨zS573.ch, Sp.mk_holds [zb568, zb571] (all_cons (zS573.isNew zhc562.size 1 (by kernel_rfl)) (all_cons (zS573.isNew zhc562.size 0 (by kernel_rfl)) (all_nil)))⟩
   refine step_cons ?_ ?_
   · intro zy574 zw575 zhc576 zhf577 zhp578
     have zh579 : zy574 100 = σ zb1 51 3 3 := (Sp.out0 (zhp578 6 100 (by kernel_rfl) (by kernel_rfl))).1
     obtain ⟨zb581, zb582, zh580', zg583'⟩ := Sp.out2 (zhp578 7 101 (by kernel_rfl) (by kernel_rfl))
     have zh580 : zy574 101 = .func (.func 111) #[] #[π zb581 0, π zb582 0] := zh580'
     have zg583 : ∀ zp ∈ ([(zb581, .cells #[ι 0] 3 (0, 0)), (zb582, .cells #[ι 1000] 3 (0, 0))] : List (Nat × Obj)), zw426.heap.size ≤ zp.1 ∧ zw575.heap[zp.1]? = some zp.2 := zg583'
     have zh584 : zy574 98 = φ := (Sp.out0 (zhp578 4 98 (by kernel_rfl) (by kernel_rfl))).1
     have zS585 := zS428.ro zhc576 ([(zb581, .cells #[ι 0] 3 (0, 0)), (zb582, .cells #[ι 1000] 3 (0, 0))]) (zg583)
     refine step_yes (wY_t zh584) ?_
     refine yenv [(100, σ zb1 51 3 3), (101, .func (.func 111) #[] #[π zb581 0, π zb582 0])] (ag_cons zh579 (ag_cons zh580 (ag_nil))) ?_
     have zS586 := zS585.loc
     refine Y.call_ 65 #[σ zb1 51 3 3, .func (.func 111) #[] #[π zb581 0, π zb582 0]] ?_
     refine (all_p51_3 0 1000 q ka kn kc zb1 zb581 zb582 _ (zS586.ob 17 false 28) (zS586.ob 0 false 3) (zS586.ob 1 false 3)).mono ?_; rintro _ zw587 ⟨rfl, zhc588⟩
     have zS589 := zS586.quiet zhc588
     exact ⟨zS589.ch, Sp.mk_holds [] (all_nil)⟩
   refine step_cons (qU_ 4 98 false qP_) ?_
   refine step_cons qP_ ?_
   refine step_cons qP_ ?_
   refine step_cons ?_ ?_
   · intro zy590 zw591 zhc592 zhf593 zhp594
     have zh595 : zy590 105 = .bool (!(allI 0 1000 [(q 51), (q 52), (q 53)])) := (Sp.out0 (zhp594 11 105 (by kernel_rfl) (by kernel_rfl))).1
     have zh596 : zy590 105 = φ := zh595.trans (congrArg Value.bool (zh558))
     have zS597 := zS428.quiet zhc592
     refine step_yes (wY_t zh596) ?_
     refine yenv [] (ag_nil) ?_
     have zS598 := zS597.loc
     refine Y.call_ 69 #[ι 1, ι 1000] ?_
     refine enter_ Tryz.func69 rfl (seq_ (reg_ ?_))
     refine new_ zS598 (fun b => π b 0) (.cells #[ι 1] 3) ?_
     intro zb599 zw600 zS601
     refine new_ zS601 (fun b => π b 0) (.cells #[ι 1000] 3) ?_
     intro zb602 zw603 zS604
     refine pure_ (.nilFunc) (nsr_ (pure_ (.func (.func 111) #[] #[π zb599 0, π zb602 0]) (assign_ (nil_ (then_n (wp_ret (ret_ rfl (res_ [.tmp 4] [.func (.func 111) #[] #[π zb599 0, π zb602 0]] (.func (.func 111) #[] #[π zb599 0, π zb602 0]) ⟨res_tmp, trivial⟩) ?_)))))))
     exact ⟨zS604.ch, Sp.mk_holds [zb599, zb602] (all_cons (zS604.isNew zhc592.size 1 (by kernel_rfl)) (all_cons (zS604.isNew zhc592.size 0 (by kernel_rfl)) (all_nil)))⟩
   refine step_cons ?_ ?_
   · intro zy605 zw606 zhc607 zhf608 zhp609
     have zh610 : zy605 1 = π zb1 0 := (zhf608 1 (by kernel_rfl)).trans (by kernel_rfl)
     have zh611 : zy605 105 = .bool (!(allI 0 1000 [(q 51), (q 52), (q 53)])) := (Sp.out0 (zhp609 11 105 (by kernel_rfl) (by kernel_rfl))).1
     have zh612 : zy605 105 = φ := zh611.trans (congrArg Value.bool (zh558))
     have zS613 := zS428.quiet zhc607
     refine step_yes (wY_t zh612) ?_
     refine yenv [(1, π zb1 0)] (ag_cons zh610 (ag_nil)) ?_
     have zS614 := zS613.loc
     refine Y.pure_ (π zb1 54) ?_
     exact ⟨zS614.ch, Sp.mk_holds [] (all_nil)⟩
   refine step_cons ?_ ?_
   · intro zy615 zw616 zhc617 zhf618 zhp619
     have zh620 : zy615 107 = π zb1 54 := (Sp.out0 (zhp619 13 107 (by kernel_rfl) (by kernel_rfl))).1
     have zh621 : zy615 105 = .bool (!(allI 0 1000 [(q 51), (q 52), (q 53)])) := (Sp.out0 (zhp619 11 105 (by kernel_rfl) (by kernel_rfl))).1
     have zh622 : zy615 105 = φ := zh621.trans (congrArg Value.bool (zh558))
     have zS623 := zS428.quiet zhc617
     refine step_yes (wY_t zh622) ?_
     refine yenv [(107, π zb1 54)] (ag_cons zh620 (ag_nil)) ?_
     have zS624 := zS623.loc
     refine Y.load1_ zS624 15 (ι (q 54)) zb1 54 ?_
     exact ⟨zS624.ch, Sp.mk_holds [] (all_nil)⟩
   exact step_nil
 intro zv625 zw626 zhc627 zha628
 have zh629 : zv625 0 = π zb1 50 := (Sp.out0 (zha628 0 (by kernel_rfl))).1
 have zh630 : zv625 1 = π zb1 50 := (Sp.out0 (zha628 1 (by kernel_rfl))).1
 have zh631 : zv625 2 = ι (q 50) := (Sp.out0 (zha628 2 (by kernel_rfl))).1
 have zh632 : zv625 3 = φ := (Sp.out0 (zha628 3 (by kernel_rfl))).1
 have zh633 : zv625 4 = φ := (Sp.out0 (zha628 4 (by kernel_rfl))).1
 have zh634 : zv625 5 = π zb1 50 := (Sp.out0 (zha628 5 (by kernel_rfl))).1
 have zh635 : zv625 6 = σ zb1 51 3 3 := (Sp.out0 (zha628 6 (by kernel_rfl))).1
 obtain ⟨zb637, zb638, zh636', zg639'⟩ := Sp.out2 (zha628 7 (by kernel_rfl))
 have zh636 : zv625 7 = .func (.func 111) #[] #[π zb637 0, π zb638 0] := zh636'
 have zg639 : ∀ zp ∈ ([(zb637, .cells #[ι 0] 3 (0, 0)), (zb638, .cells #[ι 1000] 3 (0, 0))] : List (Nat × Obj)), zw426.heap.size ≤ zp.1 ∧ zw626.heap[zp.1]? = some zp.2 := zg639'
 have zh640 : zv625 8 = .bool (allI 0 1000 [(q 51), (q 52), (q 53)]) := (Sp.out0 (zha628 8 (by kernel_rfl))).1
 have zh641 : zv625 9 = .bool (!(allI 0 1000 [(q 51), (q 52), (q 53)])) := (Sp.out0 (zha628 9 (by kernel_rfl))).1
 have zh642 : zv625 10 = .bool (!(allI 0 1000 [(q 51), (q 52), (q 53)])) := (Sp.out0 (zha628 10 (by kernel_rfl))).1
 have zh643 : zv625 11 = .bool (!(allI 0 1000 [(q 51), (q 52), (q 53)])) := (Sp.out0 (zha628 11 (by kernel_rfl))).1
 obtain ⟨zb645, zb646, zh644', zg647'⟩ := Sp.out2 (zha628 12 (by kernel_rfl))
 have zh644 : zv625 12 = .func (.func 111) #[] #[π zb645 0, π zb646 0] := zh644'
 have zg647 : ∀ zp ∈ ([(zb645, .cells #[ι 1] 3 (0, 0)), (zb646, .cells #[ι 1000] 3 (0, 0))] : List (Nat × Obj)), zw426.heap.size ≤ zp.1 ∧ zw626.heap[zp.1]? = some zp.2 := zg647'
 have zh648 : zv625 13 = π zb1 54 := (Sp.out0 (zha628 13 (by kernel_rfl))).1
 have zh649 : zv625 14 = ι (q 54) := (Sp.out0 (zha628 14 (by kernel_rfl))).1
 have zS650 := zS428.ro zhc627 (([(zb637, .cells #[ι 0] 3 (0, 0)), (zb638, .cells #[ι 1000] 3 (0, 0))] ++ [(zb645, .cells #[ι 1] 3 (0, 0)), (zb646, .cells #[ι 1000] 3 (0, 0))])) (List.forall_mem_append.2 ⟨zg639, zg647⟩)
 refine ⟨[π zb1 50, π zb1 50, ι (q 50), φ, φ, π zb1 50, σ zb1 51 3 3, .func (.func 111) #[] #[π zb637 0, π zb638 0], .bool (allI 0 1000 [(q 51), (q 52), (q 53)]), .bool (!(allI 0 1000 [(q 51), (q 52), (q 53)])), .bool (!(allI 0 1000 [(q 51), (q 52), (q 53)])), .bool (!(allI 0 1000 [(q 51), (q 52), (q 53)])), .func (.func 111) #[] #[π zb645 0, π zb646 0], π zb1 54, ι (q 54)], by kernel_rfl, va_cons zh629 (va_cons zh630 (va_cons zh631 (va_cons zh632 (va_cons zh633 (va_cons zh634 (va_cons zh635 (va_cons zh636 (va_cons zh640 (va_cons zh641 (va_cons zh642 (va_cons zh643 (va_cons zh644 (va_cons zh648 (va_cons zh649 (va_nil))))))))))))))), ?_⟩
 refine slotK_ 105 (!(allI 0 1000 [(q 51), (q 52), (q 53)])) false (zh558) (call_ 111 #[ι (q 54), π zb645 0, π zb646 0] ?_)
 refine (within1_any 1 1000 (q 54) zb645 zb646 _ (zS650.ob 2 false 3) (zS650.ob 3 false 3)).mono ?_; rintro _ zw651 ⟨rfl, zhc652⟩
 have zS653 := zS650.quiet zhc652
 refine pure_ (.bool (!(inB 1 1000 (q 54)))) (pure_ (.bool (!(inB 1 1000 (q 54)))) (assign_ (nil_ (then_n ?_))))
 refine cond_S (!(inB 1 1000 (q 54))) ?_ ?_
 · intro zh654
   have zh655 := notT' zh654
   refine seq_ (reg_ (pure_ (ι 49) (nil_ (then_n (wp_ret (blk_r (then_r (ret_ rfl (res_ [.tmp 2] [ι 49] (ι 49) ⟨res_tmp, trivial⟩) ?_))))))))
   exact ⟨congrArg _ (by simp [polCode, zh9, zh10, zh16, zh17, zh23, zh24, zh27, zh31, zh38, zh39, zh45, zh46, zh76, zh77, zh127, zh128, zh181, zh182, zh291, zh292, zh382, zh383, zh431, zh432, zh438, zh558, zh559, zh654, zh655, zh28, zh32, zh439]), zS653.ch⟩
 intro zh656
 have zh657 := notF' zh656
 have zh658 := inB_is _ _ _ zh657
 refine seq_ ?_
 refine drawnL_ 3 [⟨2, fun ids => .func (.func 111) #[] #[π (ids.getD 0 0) 0, π (ids.getD 1 0) 0], fun ids => [((ids.getD 0 0), .cells #[ι 0] 3 (0, 0)), ((ids.getD 1 0), .cells #[ι 65535] 3 (0, 0))]⟩, ⟨0, fun _ => π zb1 55, fun _ => []⟩, ⟨0, fun _ => ι (q 55), fun _ => []⟩] [[3, 0], [3, 2, 1], [3, 2], [4, 3, 0], [4, 3, 2, 1], [4, 3, 2], [4, 3], [5, 3, 0], [5, 3, 2, 1], [5, 3, 2], [5, 3], [5, 4]] ?_ ?_
 · refine step_cons ?_ ?_
   · intro zy659 zw660 zhc661 zhf662 zhp663
     have zS664 := zS653.quiet zhc661
     refine step1 ?_
     refine yenv [] (ag_nil) ?_
     have zS665 := zS664.loc
     refine Y.call_ 69 #[ι 0, ι 65535] ?_
     refine enter_ Tryz.func69 rfl (seq_ (reg_ ?_))
     refine new_ zS665 (fun b => π b 0) (.cells #[ι 0] 3) ?_
     intro zb666 zw667 zS668
     refine new_ zS668 (fun b => π b 0) (.cells #[ι 65535] 3) ?_
     intro zb669 zw670 zS671
     refine pure_ (.nilFunc) (nsr_ (pure_ (.func (.func 111) #[] #[π zb666 0, π zb669 0]) (assign_ (nil_ (then_n (wp_ret (ret_ rfl (res_ [.tmp 4] [.func (.func 111) #[] #[π zb666 0, π zb669 0]] (.func (.func 111) #[] #[π zb666 0, π zb669 0]) ⟨res_tmp, trivial⟩) ?_)))))))
     exact ⟨zS671.ch, Sp.mk_holds [zb666, zb669] (all_cons (zS671.isNew zhc661.size 1 (by kernel_rfl)) (all_cons (zS671.isNew zhc661.size 0 (by kernel_rfl)) (all_nil)))⟩
   refine step_cons qP_ ?_
   refine step_cons (qL_ zS653 19 zb1 55) ?_
   exact step_nil
 intro zv672 zw673 zhc674 zha675
 obtain ⟨zb677, zb678, zh676', zg679'⟩ := Sp.out2 (zha675 0 (by kernel_rfl))
 have zh676 : zv672 0 = .func (.func 111) #[] #[π zb677 0, π zb678 0] := zh676'
 have zg679 : ∀ zp ∈ ([(zb677, .cells #[ι 0] 3 (0, 0)), (zb678, .cells #[ι 65535] 3 (0, 0))] : List (Nat × Obj)), zw651.heap.size ≤ zp.1 ∧ zw673.heap[zp.1]? = some zp.2 := zg679'
 have zh680 : zv672 1 = π zb1 55 := (Sp.out0 (zha675 1 (by kernel_rfl))).1
 have zh681 : zv672 2 = ι (q 55) := (Sp.out0 (zha675 2 (by kernel_rfl))).1
 have zS682 := zS653.ro zhc674 ([(zb677, .cells #[ι 0] 3 (0, 0)), (zb678, .cells #[ι 65535] 3 (0, 0))]) (zg679)
 refine ⟨[.func (.func 111) #[] #[π zb677 0, π zb678 0], π zb1 55, ι (q 55)], by kernel_rfl, va_cons zh676 (va_cons zh680 (va_cons zh681 (va_nil))), ?_⟩
 refine call_ 111 #[ι (q 55), π zb677 0, π zb678 0] ?_
 refine (within1_any 0 65535 (q 55) zb677 zb678 _ (zS682.ob 0 false 3) (zS682.ob 1 false 3)).mono ?_; rintro _ zw683 ⟨rfl, zhc684⟩
 have zS685 := zS682.quiet zhc684
 refine pure_ (.bool (!(inB 0 65535 (q 55)))) (assign_ (nil_ (then_n ?_)))
 refine cond_S (!(inB 0 65535 (q 55))) ?_ ?_
 · intro zh686
   have zh687 := notT' zh686
   refine seq_ (reg_ (pure_ (ι 50) (nil_ (then_n (wp_ret (blk_r (then_r (ret_ rfl (res_ [.tmp 2] [ι 50] (ι 50) ⟨res_tmp, trivial⟩) ?_))))))))
   exact ⟨congrArg _ (by simp [polCode, zh9, zh10, zh16, zh17, zh23, zh24, zh27, zh31, zh38, zh39, zh45, zh46, zh76, zh77, zh127, zh128, zh181, zh182, zh291, zh292, zh382, zh383, zh431, zh432, zh438, zh558, zh559, zh656, zh657, zh686, zh687, zh28, zh32, zh439]), zS685.ch⟩
 intro zh688
 have zh689 := notF' zh688
 have zh690 := inB_is _ _ _ zh689
 refine wp_skip (blk_n (then_n (seq_ (reg_ (pure_ (ι 0) (nil_ (then_n (wp_ret (ret_ rfl (res_ [.tmp 2] [ι 0] (ι 0) ⟨res_tmp, trivial⟩) ?_)))))))))
 exact ⟨congrArg _ (by simp [polCode, zh9, zh10, zh16, zh17, zh23, zh24, zh27, zh31, zh38, zh39, zh45, zh46, zh76, zh77, zh127, zh128, zh181, zh182, zh291, zh292, zh382, zh383, zh431, zh432, zh438, zh558, zh559, zh656, zh657, zh688, zh689, zh28, zh32, zh439]), zS685.ch⟩

end Go.Proofs.YtbjanfgipcniiaaGreatDoor
