/- CoreNew: the walk. -/
import Derived.Test.YtbjanfgipcniiaaGreatDoorG2
import Derived.Test.YtbjanfgipcniiaaGreatDoorXRef
namespace Go.Proofs.YtbjanfgipcniiaaGreatDoor
open Go Go.RowKit Go.BigFrame Sx
set_option linter.unusedVariables false
set_option linter.unusedSimpArgs false

def cutK (kn : Nat → Nat) (i : Nat) : Nat := cutN 70 (kn i)
theorem cutK_is (kn : Nat → Nat) (i : Nat) : (if (70 : Int) < ((kn i : Nat) : Int) then 70 else ((kn i : Nat) : Int)) = ((cutK kn i : Nat) : Int) := cutN_is 70 (kn i)
theorem cutK_le (kn : Nat → Nat) (i : Nat) : cutK kn i ≤ kn i ∧ cutK kn i ≤ 1000000 := by unfold cutK cutN; omega
theorem keysCut {w : World} (ka : Nat → Option Addr) (kn kc : Nat → Nat) (kf : Nat → Nat → Int) (hr : ∀ i, i < 4 → KeyRd w (ka i) (kn i) (kc i) (kf i)) : ∀ i, i < 4 → KeyAt w (ka i) (cutK kn i) (kc i) (kf i) := fun i hi => (hr i hi).cut (cutK_le kn i).1 (cutK_le kn i).2

theorem rcheckP_ (p : Sd.Pol) (ka : Nat → Option Addr) (kn kc : Nat → Nat) (w : World) : Gives Tryz.prog 34 #[.agg (polP p ka kn kc)] w fun v w1 => v = ι (polCode p.i kn) ∧ Ch [] w w1 := rcheck_any p.i ka kn kc w
set_option maxRecDepth 100000 in
set_option maxHeartbeats 4000000 in
theorem coreNewL_ (p : Sd.Pol) (ka : Nat → Option Addr) (kn kc : Nat → Nat) (kf : Nat → Nat → Int) {tG : TypeId} (w : World) (hG : w.heap[(0)]? = some (.cells (rowF .u32 64 rootF) tG (0, 0))) (hr : ∀ i, i < 4 → KeyRd w (ka i) (kn i) (kc i) (kf i)) :
    Gives Tryz.prog 3 #[.agg (polP p ka kn kc)] w fun v w1 => v = τ ∧ Ch [] w w1 := by
 have S0 := St.given (w := w) [((0), .cells (rowF .u32 64 rootF) tG (0, 0))] (all_cons hG (all_nil))
 have hk := keysCut ka kn kc kf hr
 have hkq : ∀ {zw : World}, Ch [] w zw → ∀ i, i < 4 → KeyAt zw (ka i) (cutK kn i) (kc i) (kf i) := fun hc i hi => (hk i hi).quiet hc
 refine enter_ Tryz.func3 rfl (seq_ (reg_ ?_))
 refine new_ S0 (fun b => π b 0) (.cells (polP p ka kn kc) 28) ?_
 intro zb1 zw2 zS3
 refine pure_ (φ) (nsr_ (call_ 9 #[] ?_))
 refine (shown24_ _ (zS3.at_ 1 _ rfl)).mono ?_; rintro _ zw4 ⟨rfl, zh5⟩
 have zS6 := zS3.quiet zh5
 refine pure_ (τ) (nil_ (then_n (seq_ (seq_ (reg_ (pure_ (ι 0) (nil_ (then_n (wp_block (loop_ 24 (seq_ (seq_ (reg_ (pure_ (ι 0) (pure_ (τ) (nil_ (then_n (cond_T (wp_skip (then_n (seq_ (wp_block ?_))))))))))))))))))))))
 refine quietL_ 13 [ι 0, ι 0, π zb1 5, π zb1 5, .slice (ka 0) (kn 0) (kc 0), ι 0, π zb1 5, π zb1 5, .slice (ka 0) (kn 0) (kc 0), ι (((kn 0) : Nat) : Int), ι ((cutK kn 0 : Nat) : Int), .slice (ka 0) (cutK kn 0) (kc 0), π zb1 5] [[13, 0], [13, 1], [13, 2], [13, 3], [13, 4], [13, 5], [13, 6], [13, 7], [13, 8], [13, 9], [13, 10], [13, 11], [13, 12], [14, 0], [14, 1], [14, 2], [14, 3], [14, 4], [14, 5], [14, 6], [14, 7], [14, 8], [14, 9], [14, 10], [14, 11], [14, 13, 12], [14, 13]] (step_cons qP_ (step_cons qP_ (step_cons qP_ (step_cons qP_ (step_cons (qL_ zS6 0 zb1 5) (step_cons qP_ (step_cons qP_ (step_cons qP_ (step_cons (qL_ zS6 0 zb1 5) (step_cons qP_ (step_cons (qE_ (ι (if 70 < (((kn 0) : Nat) : Int) then 70 else (((kn 0) : Nat) : Int))) (congrArg _ (cutK_is _ _))) (step_cons (qP_ (h := funext fun _ => run_cut (n := (kn 0)) (e := 5) (kd := .i64) (cutK kn 0) (Nat.le_trans (cutK_le kn 0).1 (hr 0 (by omega)).1))) (step_cons qP_ (step_nil)))))))))))))) ?_
 intro zw7 zh9
 have zS8 := zS6.quiet zh9
 refine pure_ (π zb1 5) ?_
 refine store_ zS8 0 (.slice (ka 0) (cutK kn 0) (kc 0)) zb1 5 ?_
 intro zw10 zS11
 refine nil_ (blk_n (then_n (reg_ (pure_ (ι 0) (pure_ (ι 1) (pure_ (ι 1) (nil_ (again_ (seq_ (seq_ (reg_ (pure_ (ι 1) (pure_ (τ) (nil_ (then_n (cond_T (wp_skip (then_n (seq_ (wp_block ?_))))))))))))))))))))
 refine quietL_ 13 [ι 1, ι 1, π zb1 5, π zb1 6, .slice (ka 1) (kn 1) (kc 1), ι 1, π zb1 5, π zb1 6, .slice (ka 1) (kn 1) (kc 1), ι (((kn 1) : Nat) : Int), ι ((cutK kn 1 : Nat) : Int), .slice (ka 1) (cutK kn 1) (kc 1), π zb1 5] [[13, 0], [13, 1], [13, 2], [13, 3], [13, 4], [13, 5], [13, 6], [13, 7], [13, 8], [13, 9], [13, 10], [13, 11], [13, 12], [14, 0], [14, 1], [14, 2], [14, 3], [14, 4], [14, 5], [14, 6], [14, 7], [14, 8], [14, 9], [14, 10], [14, 11], [14, 13, 12], [14, 13]] (step_cons qP_ (step_cons qP_ (step_cons qP_ (step_cons qP_ (step_cons (qL_ zS11 0 zb1 6) (step_cons qP_ (step_cons qP_ (step_cons qP_ (step_cons (qL_ zS11 0 zb1 6) (step_cons qP_ (step_cons (qE_ (ι (if 70 < (((kn 1) : Nat) : Int) then 70 else (((kn 1) : Nat) : Int))) (congrArg _ (cutK_is _ _))) (step_cons (qP_ (h := funext fun _ => run_cut (n := (kn 1)) (e := 5) (kd := .i64) (cutK kn 1) (Nat.le_trans (cutK_le kn 1).1 (hr 1 (by omega)).1))) (step_cons qP_ (step_nil)))))))))))))) ?_
 intro zw12 zh14
 have zS13 := zS11.quiet zh14
 refine pure_ (π zb1 6) ?_
 refine store_ zS13 0 (.slice (ka 1) (cutK kn 1) (kc 1)) zb1 6 ?_
 intro zw15 zS16
 refine nil_ (blk_n (then_n (reg_ (pure_ (ι 1) (pure_ (ι 2) (pure_ (ι 2) (nil_ (again_ (seq_ (seq_ (reg_ (pure_ (ι 2) (pure_ (τ) (nil_ (then_n (cond_T (wp_skip (then_n (seq_ (wp_block ?_))))))))))))))))))))
 refine quietL_ 13 [ι 2, ι 2, π zb1 5, π zb1 7, .slice (ka 2) (kn 2) (kc 2), ι 2, π zb1 5, π zb1 7, .slice (ka 2) (kn 2) (kc 2), ι (((kn 2) : Nat) : Int), ι ((cutK kn 2 : Nat) : Int), .slice (ka 2) (cutK kn 2) (kc 2), π zb1 5] [[13, 0], [13, 1], [13, 2], [13, 3], [13, 4], [13, 5], [13, 6], [13, 7], [13, 8], [13, 9], [13, 10], [13, 11], [13, 12], [14, 0], [14, 1], [14, 2], [14, 3], [14, 4], [14, 5], [14, 6], [14, 7], [14, 8], [14, 9], [14, 10], [14, 11], [14, 13, 12], [14, 13]] (step_cons qP_ (step_cons qP_ (step_cons qP_ (step_cons qP_ (step_cons (qL_ zS16 0 zb1 7) (step_cons qP_ (step_cons qP_ (step_cons qP_ (step_cons (qL_ zS16 0 zb1 7) (step_cons qP_ (step_cons (qE_ (ι (if 70 < (((kn 2) : Nat) : Int) then 70 else (((kn 2) : Nat) : Int))) (congrArg _ (cutK_is _ _))) (step_cons (qP_ (h := funext fun _ => run_cut (n := (kn 2)) (e := 5) (kd := .i64) (cutK kn 2) (Nat.le_trans (cutK_le kn 2).1 (hr 2 (by omega)).1))) (step_cons qP_ (step_nil)))))))))))))) ?_
 intro zw17 zh19
 have zS18 := zS16.quiet zh19
 refine pure_ (π zb1 7) ?_
 refine store_ zS18 0 (.slice (ka 2) (cutK kn 2) (kc 2)) zb1 7 ?_
 intro zw20 zS21
 refine nil_ (blk_n (then_n (reg_ (pure_ (ι 2) (pure_ (ι 3) (pure_ (ι 3) (nil_ (again_ (seq_ (seq_ (reg_ (pure_ (ι 3) (pure_ (φ) (nil_ (then_n (cond_F (wp_exit (then_e (then_e (blk_e (then_n (seq_ (reg_ (pure_ (π zb1 8) (load1_ zS21 0 (.slice (ka 3) (kn 3) (kc 3)) zb1 8 (pure_ (π zb1 8) (load1_ zS21 0 (.slice (ka 3) (kn 3) (kc 3)) zb1 8 (pure_ (ι (((kn 3) : Nat) : Int)) (pureE_ (ι (if 70 < (((kn 3) : Nat) : Int) then 70 else (((kn 3) : Nat) : Int))) (ι ((cutK kn 3 : Nat) : Int)) (congrArg _ (cutK_is _ _)) ?_)))))))))))))))))))))))))))))
 refine pure_ (.slice (ka 3) (cutK kn 3) (kc 3)) ?_ (h := run_cut (n := (kn 3)) (e := 5) (kd := .i64) (cutK kn 3) (Nat.le_trans (cutK_le kn 3).1 (hr 3 (by omega)).1))
 refine pure_ (π zb1 8) ?_
 refine store_ zS21 0 (.slice (ka 3) (cutK kn 3) (kc 3)) zb1 8 ?_
 intro zw22 zS23
 refine nsr_ (loadN_ zS23 0 56 (polP p ka (cutK kn) kc) zb1 0 ?_)
 refine split_b ((polCode p.i (cutK kn)) == 0) ?_ ?_
 · intro zh24
   have zh25 := eqT' zh24
   refine call_ 10 #[.agg (polP p ka (cutK kn) kc)] ?_
   refine (corenew_ p ka (cutK kn) kc kf (by omega) _ (hkq zS23.ch)).mono ?_; rintro _ zw26 ⟨zb30, zb31, zb32, zx33, zc34, zq35, rfl, zh36, zT27⟩
   have zh37 := zh36 0 (by omega)
   have zh38 := zh36 1 (by omega)
   have zh39 := zh36 2 (by omega)
   have zh40 := zh36 3 (by omega)
   have zS28 : St [] w (([(β zb30 (coreV p zx33 (cutK kn) zc34 (⟨4, (p.i 55), (-1), (⟨0, 0⟩ : Sd.Timer), (⟨0, 0⟩ : Sd.Timer), false⟩ : Sd.Tok) zb31 (f3 (⟨(0 : Int), false, (fun _ => 0)⟩ : Sd.Door) (⟨(0 : Int), false, (fun _ => 0)⟩ : Sd.Door) (⟨(0 : Int), false, (fun _ => 0)⟩ : Sd.Door)) zb32 (0 : Int) (0 : Int) (p.i 39) (⟨2, 4, 0⟩ : Sd.Label) (⟨1, (⟨0, 0, 0, 0⟩ : Sd.X4), (⟨0, 0, 0, 0⟩ : Sd.X4), (⟨2, 4, 0⟩ : Sd.Label)⟩ : Sd.Point) (fun _ => 0)) 101), (β zb31 #[.slice none 0 0, ι (p.i 48), .int .u64 0] 153), (β zb32 (tabV (false, (⟨(0 : Int), (0 : Int)⟩ : Sd.Timer)) (f3 (⟨false, ⟨(0 : Int), (0 : Int)⟩, (0 : Int), (fun _ => 0), ⟨false, (0 : Int), (0 : Int)⟩⟩ : Sd.Session) (⟨false, ⟨(0 : Int), (0 : Int)⟩, (0 : Int), (fun _ => 0), ⟨false, (0 : Int), (0 : Int)⟩⟩ : Sd.Session) (⟨false, ⟨(0 : Int), (0 : Int)⟩, (0 : Int), (fun _ => 0), ⟨false, (0 : Int), (0 : Int)⟩⟩ : Sd.Session)) (p.i 42) (p.i 49)) 162)] ++ ((zq35 0) ++ ((zq35 1) ++ ((zq35 2) ++ ((zq35 3) ++ []))))) ++ ([(β zb1 (polP p ka (cutK kn) kc) 28), ⟨(0), false, .cells (rowF .u32 64 rootF) tG (0, 0)⟩] ++ ([] : List Blk))) zw26 := St.beside (zS23.conv (by kernel_rfl) : St [] w ([(β zb1 (polP p ka (cutK kn) kc) 28), ⟨(0), false, .cells (rowF .u32 64 rootF) tG (0, 0)⟩] ++ ([] : List Blk)) zw22) (zT27 : St [] _ ([(β zb30 (coreV p zx33 (cutK kn) zc34 (⟨4, (p.i 55), (-1), (⟨0, 0⟩ : Sd.Timer), (⟨0, 0⟩ : Sd.Timer), false⟩ : Sd.Tok) zb31 (f3 (⟨(0 : Int), false, (fun _ => 0)⟩ : Sd.Door) (⟨(0 : Int), false, (fun _ => 0)⟩ : Sd.Door) (⟨(0 : Int), false, (fun _ => 0)⟩ : Sd.Door)) zb32 (0 : Int) (0 : Int) (p.i 39) (⟨2, 4, 0⟩ : Sd.Label) (⟨1, (⟨0, 0, 0, 0⟩ : Sd.X4), (⟨0, 0, 0, 0⟩ : Sd.X4), (⟨2, 4, 0⟩ : Sd.Label)⟩ : Sd.Point) (fun _ => 0)) 101), (β zb31 #[.slice none 0 0, ι (p.i 48), .int .u64 0] 153), (β zb32 (tabV (false, (⟨(0 : Int), (0 : Int)⟩ : Sd.Timer)) (f3 (⟨false, ⟨(0 : Int), (0 : Int)⟩, (0 : Int), (fun _ => 0), ⟨false, (0 : Int), (0 : Int)⟩⟩ : Sd.Session) (⟨false, ⟨(0 : Int), (0 : Int)⟩, (0 : Int), (fun _ => 0), ⟨false, (0 : Int), (0 : Int)⟩⟩ : Sd.Session) (⟨false, ⟨(0 : Int), (0 : Int)⟩, (0 : Int), (fun _ => 0), ⟨false, (0 : Int), (0 : Int)⟩⟩ : Sd.Session)) (p.i 42) (p.i 49)) 162)] ++ ((zq35 0) ++ ((zq35 1) ++ ((zq35 2) ++ ((zq35 3) ++ []))))) _) (Wr.app (Wr.cons rfl (Wr.cons rfl (Wr.cons rfl Wr.nil))) (Wr.app (row8.wr zh37) (Wr.app (row8.wr zh38) (Wr.app (row8.wr zh39) (Wr.app (row8.wr zh40) Wr.nil)))))
   have zS29 : St [] w ([(β zb30 (coreV p zx33 (cutK kn) zc34 (⟨4, (p.i 55), (-1), (⟨0, 0⟩ : Sd.Timer), (⟨0, 0⟩ : Sd.Timer), false⟩ : Sd.Tok) zb31 (f3 (⟨(0 : Int), false, (fun _ => 0)⟩ : Sd.Door) (⟨(0 : Int), false, (fun _ => 0)⟩ : Sd.Door) (⟨(0 : Int), false, (fun _ => 0)⟩ : Sd.Door)) zb32 (0 : Int) (0 : Int) (p.i 39) (⟨2, 4, 0⟩ : Sd.Label) (⟨1, (⟨0, 0, 0, 0⟩ : Sd.X4), (⟨0, 0, 0, 0⟩ : Sd.X4), (⟨2, 4, 0⟩ : Sd.Label)⟩ : Sd.Point) (fun _ => 0)) 101), (β zb31 #[.slice none 0 0, ι (p.i 48), .int .u64 0] 153), (β zb32 (tabV (false, (⟨(0 : Int), (0 : Int)⟩ : Sd.Timer)) (f3 (⟨false, ⟨(0 : Int), (0 : Int)⟩, (0 : Int), (fun _ => 0), ⟨false, (0 : Int), (0 : Int)⟩⟩ : Sd.Session) (⟨false, ⟨(0 : Int), (0 : Int)⟩, (0 : Int), (fun _ => 0), ⟨false, (0 : Int), (0 : Int)⟩⟩ : Sd.Session) (⟨false, ⟨(0 : Int), (0 : Int)⟩, (0 : Int), (fun _ => 0), ⟨false, (0 : Int), (0 : Int)⟩⟩ : Sd.Session)) (p.i 42) (p.i 49)) 162), (β zb1 (polP p ka (cutK kn) kc) 28), ⟨(0), false, .cells (rowF .u32 64 rootF) tG (0, 0)⟩] ++ ((zq35 0) ++ ((zq35 1) ++ ((zq35 2) ++ ((zq35 3) ++ ([] : List Blk)))))) zw26 := (show St [] w (([(β zb30 (coreV p zx33 (cutK kn) zc34 (⟨4, (p.i 55), (-1), (⟨0, 0⟩ : Sd.Timer), (⟨0, 0⟩ : Sd.Timer), false⟩ : Sd.Tok) zb31 (f3 (⟨(0 : Int), false, (fun _ => 0)⟩ : Sd.Door) (⟨(0 : Int), false, (fun _ => 0)⟩ : Sd.Door) (⟨(0 : Int), false, (fun _ => 0)⟩ : Sd.Door)) zb32 (0 : Int) (0 : Int) (p.i 39) (⟨2, 4, 0⟩ : Sd.Label) (⟨1, (⟨0, 0, 0, 0⟩ : Sd.X4), (⟨0, 0, 0, 0⟩ : Sd.X4), (⟨2, 4, 0⟩ : Sd.Label)⟩ : Sd.Point) (fun _ => 0)) 101)] ++ ([(β zb31 #[.slice none 0 0, ι (p.i 48), .int .u64 0] 153)] ++ ([(β zb32 (tabV (false, (⟨(0 : Int), (0 : Int)⟩ : Sd.Timer)) (f3 (⟨false, ⟨(0 : Int), (0 : Int)⟩, (0 : Int), (fun _ => 0), ⟨false, (0 : Int), (0 : Int)⟩⟩ : Sd.Session) (⟨false, ⟨(0 : Int), (0 : Int)⟩, (0 : Int), (fun _ => 0), ⟨false, (0 : Int), (0 : Int)⟩⟩ : Sd.Session) (⟨false, ⟨(0 : Int), (0 : Int)⟩, (0 : Int), (fun _ => 0), ⟨false, (0 : Int), (0 : Int)⟩⟩ : Sd.Session)) (p.i 42) (p.i 49)) 162)] ++ ((zq35 0) ++ ((zq35 1) ++ ((zq35 2) ++ ((zq35 3) ++ ([(β zb1 (polP p ka (cutK kn) kc) 28), ⟨(0), false, .cells (rowF .u32 64 rootF) tG (0, 0)⟩] ++ ([] : List Blk)))))))))) zw26 by simpa [List.append_assoc] using zS28).re (R := ([] : List Blk)) [[(β zb30 (coreV p zx33 (cutK kn) zc34 (⟨4, (p.i 55), (-1), (⟨0, 0⟩ : Sd.Timer), (⟨0, 0⟩ : Sd.Timer), false⟩ : Sd.Tok) zb31 (f3 (⟨(0 : Int), false, (fun _ => 0)⟩ : Sd.Door) (⟨(0 : Int), false, (fun _ => 0)⟩ : Sd.Door) (⟨(0 : Int), false, (fun _ => 0)⟩ : Sd.Door)) zb32 (0 : Int) (0 : Int) (p.i 39) (⟨2, 4, 0⟩ : Sd.Label) (⟨1, (⟨0, 0, 0, 0⟩ : Sd.X4), (⟨0, 0, 0, 0⟩ : Sd.X4), (⟨2, 4, 0⟩ : Sd.Label)⟩ : Sd.Point) (fun _ => 0)) 101)], [(β zb31 #[.slice none 0 0, ι (p.i 48), .int .u64 0] 153)], [(β zb32 (tabV (false, (⟨(0 : Int), (0 : Int)⟩ : Sd.Timer)) (f3 (⟨false, ⟨(0 : Int), (0 : Int)⟩, (0 : Int), (fun _ => 0), ⟨false, (0 : Int), (0 : Int)⟩⟩ : Sd.Session) (⟨false, ⟨(0 : Int), (0 : Int)⟩, (0 : Int), (fun _ => 0), ⟨false, (0 : Int), (0 : Int)⟩⟩ : Sd.Session) (⟨false, ⟨(0 : Int), (0 : Int)⟩, (0 : Int), (fun _ => 0), ⟨false, (0 : Int), (0 : Int)⟩⟩ : Sd.Session)) (p.i 42) (p.i 49)) 162)], (zq35 0), (zq35 1), (zq35 2), (zq35 3), [(β zb1 (polP p ka (cutK kn) kc) 28), ⟨(0), false, .cells (rowF .u32 64 rootF) tG (0, 0)⟩]] [0, 1, 2, 7, 3, 4, 5, 6]
   refine move_ (pure_ (π zb30 0) (pure_ (ι 0) (assign_ (pure_ (ι 0) (nsr_ (loadN_ zS29 3 56 (polP p ka (cutK kn) kc) zb1 0 (call_ 11 #[.agg (polP p ka (cutK kn) kc)] (enter_ Tryz.func11 rfl (seq_ (reg_ ?_))))))))))
   refine new_ zS29 (fun b => π b 0) (.cells (polP p ka (cutK kn) kc) 28) ?_
   intro zb41 zw42 zS43
   refine pure_ (.pointer none) (pure_ (ι 0) (nsr_ (loadN_ zS43 0 56 (polP p ka (cutK kn) kc) zb41 0 (call_ 34 #[.agg (polP p ka (cutK kn) kc)] ?_))))
   refine (rcheckP_ p ka (cutK kn) kc _).mono ?_; rintro _ zw44 ⟨rfl, zh45⟩
   have zS46 := zS43.quiet zh45
   refine assign_ (nil_ (then_n (seq_ (seq_ (reg_ (move_ (pureE_ (.bool ((polCode p.i (cutK kn)) != 0)) (φ) (congrArg Value.bool (neF (by omega))) (nil_ (then_n (cond_F (wp_skip (then_n (seq_ ?_)))))))))))))
   refine drawnL_ 15 [⟨0, fun _ => .agg (polP p ka (cutK kn) kc), fun _ => []⟩, ⟨0, fun _ => .agg (polP p ka (cutK kn) kc), fun _ => []⟩, ⟨0, fun _ => .agg #[ι 4, ι (p.i 55), ι (-1), ι 0, ι 0, ι 0, ι 0, φ], fun _ => []⟩, ⟨0, fun _ => π zb41 48, fun _ => []⟩, ⟨0, fun _ => ι (p.i 48), fun _ => []⟩, ⟨0, fun _ => .agg #[ι (p.i 48), .slice none 0 0], fun _ => []⟩, ⟨1, fun ids => π (ids.getD 0 0) 0, fun ids => [((ids.getD 0 0), .cells #[ι (p.i 48), .slice none 0 0] 105 (0, 0))]⟩, ⟨0, fun _ => .agg (polP p ka (cutK kn) kc), fun _ => []⟩, ⟨0, fun _ => .agg #[ι (p.i 0), ι (p.i 1), ι (p.i 2), ι (p.i 3), ι (p.i 4), .slice (ka 0) (cutK kn 0) (kc 0), .slice (ka 1) (cutK kn 1) (kc 1), .slice (ka 2) (cutK kn 2) (kc 2), .slice (ka 3) (cutK kn 3) (kc 3), ι (p.i 9), ι (p.i 10), ι (p.i 11), ι (p.i 12), ι (p.i 13), ι (p.i 14), ι (p.i 15), ι (p.i 16), ι (p.i 17), ι (p.i 18), ι (p.i 19), ι (p.i 20), ι (p.i 21), ι (p.i 22), ι (p.i 23), ι (p.i 24), ι (p.i 25), ι (p.i 26), ι (p.i 27), ι (p.i 28), ι (p.i 29), ι (p.i 30), ι (p.i 31), ι (p.i 32), ι (p.i 33), ι (p.i 34), ι (p.i 35), ι (p.i 36), ι (p.i 37), ι (p.i 38), ι (p.i 39), ι (p.i 40), ι (p.i 41), ι (p.i 42), ι (p.i 43), ι (p.i 44), ι (p.i 45), ι (p.i 46), ι (p.i 47), ι (p.i 48), ι (p.i 49), ι (p.i 50), ι (p.i 51), ι (p.i 52), ι (p.i 53), ι (p.i 54), ι (p.i 55), φ, ι 0, υ 0, υ 0, υ 0, υ 0, υ 0, υ 0, υ 0, υ 0, υ 0, υ 0, υ 0, υ 0, υ 0, υ 0, υ 0, υ 0, υ 0, υ 0, υ 0, υ 0, υ 0, υ 0, υ 0, υ 0, υ 0, υ 0, υ 0, υ 0, υ 0, υ 0, υ 0, υ 0, φ, ι 0, .int .u64 0, ι 0, ι 0, φ, ι 0, υ 0, υ 0, υ 0, υ 0, υ 0, υ 0, υ 0, υ 0, υ 0, υ 0, υ 0, υ 0, υ 0, υ 0, υ 0, υ 0, υ 0, υ 0, υ 0, υ 0, υ 0, υ 0, υ 0, υ 0, υ 0, υ 0, υ 0, υ 0, υ 0, υ 0, υ 0, υ 0, φ, ι 0, .int .u64 0, ι 0, ι 0, φ, ι 0, υ 0, υ 0, υ 0, υ 0, υ 0, υ 0, υ 0, υ 0, υ 0, υ 0, υ 0, υ 0, υ 0, υ 0, υ 0, υ 0, υ 0, υ 0, υ 0, υ 0, υ 0, υ 0, υ 0, υ 0, υ 0, υ 0, υ 0, υ 0, υ 0, υ 0, υ 0, υ 0, φ, ι 0, .int .u64 0, ι 0, ι 0, φ, ι 0, υ 0, υ 0, υ 0, υ 0, υ 0, υ 0, υ 0, υ 0, υ 0, υ 0, υ 0, υ 0, υ 0, υ 0, υ 0, υ 0, υ 0, υ 0, υ 0, υ 0, υ 0, υ 0, υ 0, υ 0, υ 0, υ 0, υ 0, υ 0, υ 0, υ 0, υ 0, υ 0, φ, ι 0, .int .u64 0, ι 0, ι 0], fun _ => []⟩, ⟨1, fun ids => π (ids.getD 0 0) 0, fun ids => [((ids.getD 0 0), .cells #[ι (p.i 0), ι (p.i 1), ι (p.i 2), ι (p.i 3), ι (p.i 4), .slice (ka 0) (cutK kn 0) (kc 0), .slice (ka 1) (cutK kn 1) (kc 1), .slice (ka 2) (cutK kn 2) (kc 2), .slice (ka 3) (cutK kn 3) (kc 3), ι (p.i 9), ι (p.i 10), ι (p.i 11), ι (p.i 12), ι (p.i 13), ι (p.i 14), ι (p.i 15), ι (p.i 16), ι (p.i 17), ι (p.i 18), ι (p.i 19), ι (p.i 20), ι (p.i 21), ι (p.i 22), ι (p.i 23), ι (p.i 24), ι (p.i 25), ι (p.i 26), ι (p.i 27), ι (p.i 28), ι (p.i 29), ι (p.i 30), ι (p.i 31), ι (p.i 32), ι (p.i 33), ι (p.i 34), ι (p.i 35), ι (p.i 36), ι (p.i 37), ι (p.i 38), ι (p.i 39), ι (p.i 40), ι (p.i 41), ι (p.i 42), ι (p.i 43), ι (p.i 44), ι (p.i 45), ι (p.i 46), ι (p.i 47), ι (p.i 48), ι (p.i 49), ι (p.i 50), ι (p.i 51), ι (p.i 52), ι (p.i 53), ι (p.i 54), ι (p.i 55), φ, ι 0, υ 0, υ 0, υ 0, υ 0, υ 0, υ 0, υ 0, υ 0, υ 0, υ 0, υ 0, υ 0, υ 0, υ 0, υ 0, υ 0, υ 0, υ 0, υ 0, υ 0, υ 0, υ 0, υ 0, υ 0, υ 0, υ 0, υ 0, υ 0, υ 0, υ 0, υ 0, υ 0, φ, ι 0, .int .u64 0, ι 0, ι 0, φ, ι 0, υ 0, υ 0, υ 0, υ 0, υ 0, υ 0, υ 0, υ 0, υ 0, υ 0, υ 0, υ 0, υ 0, υ 0, υ 0, υ 0, υ 0, υ 0, υ 0, υ 0, υ 0, υ 0, υ 0, υ 0, υ 0, υ 0, υ 0, υ 0, υ 0, υ 0, υ 0, υ 0, φ, ι 0, .int .u64 0, ι 0, ι 0, φ, ι 0, υ 0, υ 0, υ 0, υ 0, υ 0, υ 0, υ 0, υ 0, υ 0, υ 0, υ 0, υ 0, υ 0, υ 0, υ 0, υ 0, υ 0, υ 0, υ 0, υ 0, υ 0, υ 0, υ 0, υ 0, υ 0, υ 0, υ 0, υ 0, υ 0, υ 0, υ 0, υ 0, φ, ι 0, .int .u64 0, ι 0, ι 0, φ, ι 0, υ 0, υ 0, υ 0, υ 0, υ 0, υ 0, υ 0, υ 0, υ 0, υ 0, υ 0, υ 0, υ 0, υ 0, υ 0, υ 0, υ 0, υ 0, υ 0, υ 0, υ 0, υ 0, υ 0, υ 0, υ 0, υ 0, υ 0, υ 0, υ 0, υ 0, υ 0, υ 0, φ, ι 0, .int .u64 0, ι 0, ι 0] 114 (0, 0))]⟩, ⟨0, fun _ => π zb41 39, fun _ => []⟩, ⟨0, fun _ => ι (p.i 39), fun _ => []⟩, ⟨0, fun _ => .agg #[ι 2, ι 4, ι 0], fun _ => []⟩, ⟨0, fun _ => .agg #[ι 2, ι 4, ι 0], fun _ => []⟩, ⟨0, fun _ => .agg #[ι 1, ι 0, ι 0, ι 0, ι 0, ι 0, ι 0, ι 0, ι 0, ι 2, ι 4, ι 0], fun _ => []⟩] [[15, 0], [15, 2, 1], [15, 2], [15, 6, 5, 4, 3], [15, 6, 5, 4], [15, 6, 5], [15, 6], [15, 9, 8, 7], [15, 9, 8], [15, 9], [15, 11, 10], [15, 11], [15, 12], [15, 14, 13], [15, 14], [16, 15, 0], [16, 15, 2, 1], [16, 15, 2], [16, 15, 6, 5, 4, 3], [16, 15, 6, 5, 4], [16, 15, 6, 5], [16, 15, 6], [16, 15, 9, 8, 7], [16, 15, 9, 8], [16, 15, 9], [16, 15, 11, 10], [16, 15, 11], [16, 15, 12], [16, 15, 14, 13], [16, 15, 14], [16, 15], [17, 0], [17, 1], [17, 2], [17, 3], [17, 4], [17, 5], [17, 6], [17, 7], [17, 8], [17, 9], [17, 10], [17, 11], [17, 12], [17, 13], [17, 14], [17, 15], [17, 16], [18, 0], [18, 1], [18, 2], [18, 3], [18, 4], [18, 5], [18, 6], [18, 7], [18, 8], [18, 9], [18, 10], [18, 11], [18, 12], [18, 13], [18, 14], [18, 15], [18, 16], [18, 17]] ?_ ?_
   · refine step_cons ?_ ?_
     · intro zy47 zw48 zhc49 zhf50 zhp51
       have zh52 : zy47 1 = π zb41 0 := (zhf50 1 (by kernel_rfl)).trans (by kernel_rfl)
       have zS53 := zS46.quiet zhc49
       refine step1 ?_
       refine yenv [(1, π zb41 0)] (ag_cons zh52 (ag_nil)) ?_
       have zS54 := zS53.loc
       refine Y.loadN_ zS54 0 56 (polP p ka (cutK kn) kc) zb41 0 ?_
       exact ⟨zS54.ch, Sp.mk_holds [] (all_nil)⟩
     refine step_cons ?_ ?_
     · intro zy55 zw56 zhc57 zhf58 zhp59
       have zh60 : zy55 1 = π zb41 0 := (zhf58 1 (by kernel_rfl)).trans (by kernel_rfl)
       have zS61 := zS46.quiet zhc57
       refine step1 ?_
       refine yenv [(1, π zb41 0)] (ag_cons zh60 (ag_nil)) ?_
       have zS62 := zS61.loc
       refine Y.loadN_ zS62 0 56 (polP p ka (cutK kn) kc) zb41 0 ?_
       exact ⟨zS62.ch, Sp.mk_holds [] (all_nil)⟩
     refine step_cons ?_ ?_
     · intro zy63 zw64 zhc65 zhf66 zhp67
       have zh68 : zy63 11 = .agg (polP p ka (cutK kn) kc) := (Sp.out0 (zhp67 1 11 (by kernel_rfl) (by kernel_rfl))).1
       have zS69 := zS46.quiet zhc65
       refine step1 ?_
       refine yenv [(11, .agg (polP p ka (cutK kn) kc))] (ag_cons zh68 (ag_nil)) ?_
       have zS70 := zS69.loc
       refine Y.call_ 35 #[.agg (polP p ka (cutK kn) kc)] ?_
       refine enter_ Tryz.func35 rfl (seq_ (reg_ ?_))
       refine new_ zS70 (fun b => π b 0) (.cells (polP p ka (cutK kn) kc) 28) ?_
       intro zb71 zw72 zS73
       refine new_ zS73 (fun b => π b 0) (.cells #[ι 0, ι 0, ι 0, ι 0, ι 0, ι 0, ι 0, φ] 92) ?_
       intro zb74 zw75 zS76
       refine nsr_ (pure_ (π zb71 55) (load1_ zS76 1 (ι (p.i 55)) zb71 55 (pure_ (.agg #[ι 4, ι (p.i 55), ι (-1), ι 0, ι 0, ι 0, ι 0, φ]) ?_)))
       refine store_ zS76 0 (.agg #[ι 4, ι (p.i 55), ι (-1), ι 0, ι 0, ι 0, ι 0, φ]) zb74 0 ?_
       intro zw77 zS78
       refine nil_ (then_n (wp_ret (ret_ rfl (res_ [.cell 2 92] [.agg #[ι 4, ι (p.i 55), ι (-1), ι 0, ι 0, ι 0, ι 0, φ]] (.agg #[ι 4, ι (p.i 55), ι (-1), ι 0, ι 0, ι 0, ι 0, φ]) ⟨res_cellN zS78 0 8 zb74 0, trivial⟩) ?_)))
       exact ⟨zS78.ch, Sp.mk_holds [] (all_nil)⟩
     refine step_cons ?_ ?_
     · intro zy79 zw80 zhc81 zhf82 zhp83
       have zh84 : zy79 1 = π zb41 0 := (zhf82 1 (by kernel_rfl)).trans (by kernel_rfl)
       have zS85 := zS46.quiet zhc81
       refine step1 ?_
       refine yenv [(1, π zb41 0)] (ag_cons zh84 (ag_nil)) ?_
       have zS86 := zS85.loc
       refine Y.pure_ (π zb41 48) ?_
       exact ⟨zS86.ch, Sp.mk_holds [] (all_nil)⟩
     refine step_cons ?_ ?_
     · intro zy87 zw88 zhc89 zhf90 zhp91
       have zh92 : zy87 13 = π zb41 48 := (Sp.out0 (zhp91 3 13 (by kernel_rfl) (by kernel_rfl))).1
       have zS93 := zS46.quiet zhc89
       refine step1 ?_
       refine yenv [(13, π zb41 48)] (ag_cons zh92 (ag_nil)) ?_
       have zS94 := zS93.loc
       refine Y.load1_ zS94 0 (ι (p.i 48)) zb41 48 ?_
       exact ⟨zS94.ch, Sp.mk_holds [] (all_nil)⟩
     refine step_cons ?_ ?_
     · intro zy95 zw96 zhc97 zhf98 zhp99
       have zh100 : zy95 14 = ι (p.i 48) := (Sp.out0 (zhp99 4 14 (by kernel_rfl) (by kernel_rfl))).1
       have zS101 := zS46.quiet zhc97
       refine step1 ?_
       refine yenv [(14, ι (p.i 48))] (ag_cons zh100 (ag_nil)) ?_
       have zS102 := zS101.loc
       refine Y.pure_ (.agg #[ι (p.i 48), .slice none 0 0]) ?_
       exact ⟨zS102.ch, Sp.mk_holds [] (all_nil)⟩
     refine step_cons ?_ ?_
     · intro zy103 zw104 zhc105 zhf106 zhp107
       have zh108 : zy103 15 = .agg #[ι (p.i 48), .slice none 0 0] := (Sp.out0 (zhp107 5 15 (by kernel_rfl) (by kernel_rfl))).1
       have zS109 := zS46.quiet zhc105
       refine step1 ?_
       refine yenv [(15, .agg #[ι (p.i 48), .slice none 0 0])] (ag_cons zh108 (ag_nil)) ?_
       have zS110 := zS109.loc
       refine Y.new_ zS110 (fun b => π b 0) (.cells #[ι (p.i 48), .slice none 0 0] 105) ?_
       intro zb111 zw112 zS113
       exact ⟨zS113.ch, Sp.mk_holds [zb111] (all_cons (zS113.isNew zhc105.size 0 (by kernel_rfl)) (all_nil))⟩
     refine step_cons ?_ ?_
     · intro zy114 zw115 zhc116 zhf117 zhp118
       have zh119 : zy114 1 = π zb41 0 := (zhf117 1 (by kernel_rfl)).trans (by kernel_rfl)
       have zS120 := zS46.quiet zhc116
       refine step1 ?_
       refine yenv [(1, π zb41 0)] (ag_cons zh119 (ag_nil)) ?_
       have zS121 := zS120.loc
       refine Y.loadN_ zS121 0 56 (polP p ka (cutK kn) kc) zb41 0 ?_
       exact ⟨zS121.ch, Sp.mk_holds [] (all_nil)⟩
     refine step_cons ?_ ?_
     · intro zy122 zw123 zhc124 zhf125 zhp126
       have zh127 : zy122 17 = .agg (polP p ka (cutK kn) kc) := (Sp.out0 (zhp126 7 17 (by kernel_rfl) (by kernel_rfl))).1
       have zS128 := zS46.quiet zhc124
       refine step1 ?_
       refine yenv [(17, .agg (polP p ka (cutK kn) kc))] (ag_cons zh127 (ag_nil)) ?_
       have zS129 := zS128.loc
       refine Y.pure_ (.agg #[ι (p.i 0), ι (p.i 1), ι (p.i 2), ι (p.i 3), ι (p.i 4), .slice (ka 0) (cutK kn 0) (kc 0), .slice (ka 1) (cutK kn 1) (kc 1), .slice (ka 2) (cutK kn 2) (kc 2), .slice (ka 3) (cutK kn 3) (kc 3), ι (p.i 9), ι (p.i 10), ι (p.i 11), ι (p.i 12), ι (p.i 13), ι (p.i 14), ι (p.i 15), ι (p.i 16), ι (p.i 17), ι (p.i 18), ι (p.i 19), ι (p.i 20), ι (p.i 21), ι (p.i 22), ι (p.i 23), ι (p.i 24), ι (p.i 25), ι (p.i 26), ι (p.i 27), ι (p.i 28), ι (p.i 29), ι (p.i 30), ι (p.i 31), ι (p.i 32), ι (p.i 33), ι (p.i 34), ι (p.i 35), ι (p.i 36), ι (p.i 37), ι (p.i 38), ι (p.i 39), ι (p.i 40), ι (p.i 41), ι (p.i 42), ι (p.i 43), ι (p.i 44), ι (p.i 45), ι (p.i 46), ι (p.i 47), ι (p.i 48), ι (p.i 49), ι (p.i 50), ι (p.i 51), ι (p.i 52), ι (p.i 53), ι (p.i 54), ι (p.i 55), φ, ι 0, υ 0, υ 0, υ 0, υ 0, υ 0, υ 0, υ 0, υ 0, υ 0, υ 0, υ 0, υ 0, υ 0, υ 0, υ 0, υ 0, υ 0, υ 0, υ 0, υ 0, υ 0, υ 0, υ 0, υ 0, υ 0, υ 0, υ 0, υ 0, υ 0, υ 0, υ 0, υ 0, φ, ι 0, .int .u64 0, ι 0, ι 0, φ, ι 0, υ 0, υ 0, υ 0, υ 0, υ 0, υ 0, υ 0, υ 0, υ 0, υ 0, υ 0, υ 0, υ 0, υ 0, υ 0, υ 0, υ 0, υ 0, υ 0, υ 0, υ 0, υ 0, υ 0, υ 0, υ 0, υ 0, υ 0, υ 0, υ 0, υ 0, υ 0, υ 0, φ, ι 0, .int .u64 0, ι 0, ι 0, φ, ι 0, υ 0, υ 0, υ 0, υ 0, υ 0, υ 0, υ 0, υ 0, υ 0, υ 0, υ 0, υ 0, υ 0, υ 0, υ 0, υ 0, υ 0, υ 0, υ 0, υ 0, υ 0, υ 0, υ 0, υ 0, υ 0, υ 0, υ 0, υ 0, υ 0, υ 0, υ 0, υ 0, φ, ι 0, .int .u64 0, ι 0, ι 0, φ, ι 0, υ 0, υ 0, υ 0, υ 0, υ 0, υ 0, υ 0, υ 0, υ 0, υ 0, υ 0, υ 0, υ 0, υ 0, υ 0, υ 0, υ 0, υ 0, υ 0, υ 0, υ 0, υ 0, υ 0, υ 0, υ 0, υ 0, υ 0, υ 0, υ 0, υ 0, υ 0, υ 0, φ, ι 0, .int .u64 0, ι 0, ι 0]) ?_
       exact ⟨zS129.ch, Sp.mk_holds [] (all_nil)⟩
     refine step_cons ?_ ?_
     · intro zy130 zw131 zhc132 zhf133 zhp134
       have zh135 : zy130 18 = .agg #[ι (p.i 0), ι (p.i 1), ι (p.i 2), ι (p.i 3), ι (p.i 4), .slice (ka 0) (cutK kn 0) (kc 0), .slice (ka 1) (cutK kn 1) (kc 1), .slice (ka 2) (cutK kn 2) (kc 2), .slice (ka 3) (cutK kn 3) (kc 3), ι (p.i 9), ι (p.i 10), ι (p.i 11), ι (p.i 12), ι (p.i 13), ι (p.i 14), ι (p.i 15), ι (p.i 16), ι (p.i 17), ι (p.i 18), ι (p.i 19), ι (p.i 20), ι (p.i 21), ι (p.i 22), ι (p.i 23), ι (p.i 24), ι (p.i 25), ι (p.i 26), ι (p.i 27), ι (p.i 28), ι (p.i 29), ι (p.i 30), ι (p.i 31), ι (p.i 32), ι (p.i 33), ι (p.i 34), ι (p.i 35), ι (p.i 36), ι (p.i 37), ι (p.i 38), ι (p.i 39), ι (p.i 40), ι (p.i 41), ι (p.i 42), ι (p.i 43), ι (p.i 44), ι (p.i 45), ι (p.i 46), ι (p.i 47), ι (p.i 48), ι (p.i 49), ι (p.i 50), ι (p.i 51), ι (p.i 52), ι (p.i 53), ι (p.i 54), ι (p.i 55), φ, ι 0, υ 0, υ 0, υ 0, υ 0, υ 0, υ 0, υ 0, υ 0, υ 0, υ 0, υ 0, υ 0, υ 0, υ 0, υ 0, υ 0, υ 0, υ 0, υ 0, υ 0, υ 0, υ 0, υ 0, υ 0, υ 0, υ 0, υ 0, υ 0, υ 0, υ 0, υ 0, υ 0, φ, ι 0, .int .u64 0, ι 0, ι 0, φ, ι 0, υ 0, υ 0, υ 0, υ 0, υ 0, υ 0, υ 0, υ 0, υ 0, υ 0, υ 0, υ 0, υ 0, υ 0, υ 0, υ 0, υ 0, υ 0, υ 0, υ 0, υ 0, υ 0, υ 0, υ 0, υ 0, υ 0, υ 0, υ 0, υ 0, υ 0, υ 0, υ 0, φ, ι 0, .int .u64 0, ι 0, ι 0, φ, ι 0, υ 0, υ 0, υ 0, υ 0, υ 0, υ 0, υ 0, υ 0, υ 0, υ 0, υ 0, υ 0, υ 0, υ 0, υ 0, υ 0, υ 0, υ 0, υ 0, υ 0, υ 0, υ 0, υ 0, υ 0, υ 0, υ 0, υ 0, υ 0, υ 0, υ 0, υ 0, υ 0, φ, ι 0, .int .u64 0, ι 0, ι 0, φ, ι 0, υ 0, υ 0, υ 0, υ 0, υ 0, υ 0, υ 0, υ 0, υ 0, υ 0, υ 0, υ 0, υ 0, υ 0, υ 0, υ 0, υ 0, υ 0, υ 0, υ 0, υ 0, υ 0, υ 0, υ 0, υ 0, υ 0, υ 0, υ 0, υ 0, υ 0, υ 0, υ 0, φ, ι 0, .int .u64 0, ι 0, ι 0] := (Sp.out0 (zhp134 8 18 (by kernel_rfl) (by kernel_rfl))).1
       have zS136 := zS46.quiet zhc132
       refine step1 ?_
       refine yenv [(18, .agg #[ι (p.i 0), ι (p.i 1), ι (p.i 2), ι (p.i 3), ι (p.i 4), .slice (ka 0) (cutK kn 0) (kc 0), .slice (ka 1) (cutK kn 1) (kc 1), .slice (ka 2) (cutK kn 2) (kc 2), .slice (ka 3) (cutK kn 3) (kc 3), ι (p.i 9), ι (p.i 10), ι (p.i 11), ι (p.i 12), ι (p.i 13), ι (p.i 14), ι (p.i 15), ι (p.i 16), ι (p.i 17), ι (p.i 18), ι (p.i 19), ι (p.i 20), ι (p.i 21), ι (p.i 22), ι (p.i 23), ι (p.i 24), ι (p.i 25), ι (p.i 26), ι (p.i 27), ι (p.i 28), ι (p.i 29), ι (p.i 30), ι (p.i 31), ι (p.i 32), ι (p.i 33), ι (p.i 34), ι (p.i 35), ι (p.i 36), ι (p.i 37), ι (p.i 38), ι (p.i 39), ι (p.i 40), ι (p.i 41), ι (p.i 42), ι (p.i 43), ι (p.i 44), ι (p.i 45), ι (p.i 46), ι (p.i 47), ι (p.i 48), ι (p.i 49), ι (p.i 50), ι (p.i 51), ι (p.i 52), ι (p.i 53), ι (p.i 54), ι (p.i 55), φ, ι 0, υ 0, υ 0, υ 0, υ 0, υ 0, υ 0, υ 0, υ 0, υ 0, υ 0, υ 0, υ 0, υ 0, υ 0, υ 0, υ 0, υ 0, υ 0, υ 0, υ 0, υ 0, υ 0, υ 0, υ 0, υ 0, υ 0, υ 0, υ 0, υ 0, υ 0, υ 0, υ 0, φ, ι 0, .int .u64 0, ι 0, ι 0, φ, ι 0, υ 0, υ 0, υ 0, υ 0, υ 0, υ 0, υ 0, υ 0, υ 0, υ 0, υ 0, υ 0, υ 0, υ 0, υ 0, υ 0, υ 0, υ 0, υ 0, υ 0, υ 0, υ 0, υ 0, υ 0, υ 0, υ 0, υ 0, υ 0, υ 0, υ 0, υ 0, υ 0, φ, ι 0, .int .u64 0, ι 0, ι 0, φ, ι 0, υ 0, υ 0, υ 0, υ 0, υ 0, υ 0, υ 0, υ 0, υ 0, υ 0, υ 0, υ 0, υ 0, υ 0, υ 0, υ 0, υ 0, υ 0, υ 0, υ 0, υ 0, υ 0, υ 0, υ 0, υ 0, υ 0, υ 0, υ 0, υ 0, υ 0, υ 0, υ 0, φ, ι 0, .int .u64 0, ι 0, ι 0, φ, ι 0, υ 0, υ 0, υ 0, υ 0, υ 0, υ 0, υ 0, υ 0, υ 0, υ 0, υ 0, υ 0, υ 0, υ 0, υ 0, υ 0, υ 0, υ 0, υ 0, υ 0, υ 0, υ 0, υ 0, υ 0, υ 0, υ 0, υ 0, υ 0, υ 0, υ 0, υ 0, υ 0, φ, ι 0, .int .u64 0, ι 0, ι 0])] (ag_cons zh135 (ag_nil)) ?_
       have zS137 := zS136.loc
       refine Y.new_ zS137 (fun b => π b 0) (.cells #[ι (p.i 0), ι (p.i 1), ι (p.i 2), ι (p.i 3), ι (p.i 4), .slice (ka 0) (cutK kn 0) (kc 0), .slice (ka 1) (cutK kn 1) (kc 1), .slice (ka 2) (cutK kn 2) (kc 2), .slice (ka 3) (cutK kn 3) (kc 3), ι (p.i 9), ι (p.i 10), ι (p.i 11), ι (p.i 12), ι (p.i 13), ι (p.i 14), ι (p.i 15), ι (p.i 16), ι (p.i 17), ι (p.i 18), ι (p.i 19), ι (p.i 20), ι (p.i 21), ι (p.i 22), ι (p.i 23), ι (p.i 24), ι (p.i 25), ι (p.i 26), ι (p.i 27), ι (p.i 28), ι (p.i 29), ι (p.i 30), ι (p.i 31), ι (p.i 32), ι (p.i 33), ι (p.i 34), ι (p.i 35), ι (p.i 36), ι (p.i 37), ι (p.i 38), ι (p.i 39), ι (p.i 40), ι (p.i 41), ι (p.i 42), ι (p.i 43), ι (p.i 44), ι (p.i 45), ι (p.i 46), ι (p.i 47), ι (p.i 48), ι (p.i 49), ι (p.i 50), ι (p.i 51), ι (p.i 52), ι (p.i 53), ι (p.i 54), ι (p.i 55), φ, ι 0, υ 0, υ 0, υ 0, υ 0, υ 0, υ 0, υ 0, υ 0, υ 0, υ 0, υ 0, υ 0, υ 0, υ 0, υ 0, υ 0, υ 0, υ 0, υ 0, υ 0, υ 0, υ 0, υ 0, υ 0, υ 0, υ 0, υ 0, υ 0, υ 0, υ 0, υ 0, υ 0, φ, ι 0, .int .u64 0, ι 0, ι 0, φ, ι 0, υ 0, υ 0, υ 0, υ 0, υ 0, υ 0, υ 0, υ 0, υ 0, υ 0, υ 0, υ 0, υ 0, υ 0, υ 0, υ 0, υ 0, υ 0, υ 0, υ 0, υ 0, υ 0, υ 0, υ 0, υ 0, υ 0, υ 0, υ 0, υ 0, υ 0, υ 0, υ 0, φ, ι 0, .int .u64 0, ι 0, ι 0, φ, ι 0, υ 0, υ 0, υ 0, υ 0, υ 0, υ 0, υ 0, υ 0, υ 0, υ 0, υ 0, υ 0, υ 0, υ 0, υ 0, υ 0, υ 0, υ 0, υ 0, υ 0, υ 0, υ 0, υ 0, υ 0, υ 0, υ 0, υ 0, υ 0, υ 0, υ 0, υ 0, υ 0, φ, ι 0, .int .u64 0, ι 0, ι 0, φ, ι 0, υ 0, υ 0, υ 0, υ 0, υ 0, υ 0, υ 0, υ 0, υ 0, υ 0, υ 0, υ 0, υ 0, υ 0, υ 0, υ 0, υ 0, υ 0, υ 0, υ 0, υ 0, υ 0, υ 0, υ 0, υ 0, υ 0, υ 0, υ 0, υ 0, υ 0, υ 0, υ 0, φ, ι 0, .int .u64 0, ι 0, ι 0] 114) ?_
       intro zb138 zw139 zS140
       exact ⟨zS140.ch, Sp.mk_holds [zb138] (all_cons (zS140.isNew zhc132.size 0 (by kernel_rfl)) (all_nil))⟩
     refine step_cons ?_ ?_
     · intro zy141 zw142 zhc143 zhf144 zhp145
       have zh146 : zy141 1 = π zb41 0 := (zhf144 1 (by kernel_rfl)).trans (by kernel_rfl)
       have zS147 := zS46.quiet zhc143
       refine step1 ?_
       refine yenv [(1, π zb41 0)] (ag_cons zh146 (ag_nil)) ?_
       have zS148 := zS147.loc
       refine Y.pure_ (π zb41 39) ?_
       exact ⟨zS148.ch, Sp.mk_holds [] (all_nil)⟩
     refine step_cons ?_ ?_
     · intro zy149 zw150 zhc151 zhf152 zhp153
       have zh154 : zy149 20 = π zb41 39 := (Sp.out0 (zhp153 10 20 (by kernel_rfl) (by kernel_rfl))).1
       have zS155 := zS46.quiet zhc151
       refine step1 ?_
       refine yenv [(20, π zb41 39)] (ag_cons zh154 (ag_nil)) ?_
       have zS156 := zS155.loc
       refine Y.load1_ zS156 0 (ι (p.i 39)) zb41 39 ?_
       exact ⟨zS156.ch, Sp.mk_holds [] (all_nil)⟩
     refine step_cons ?_ ?_
     · intro zy157 zw158 zhc159 zhf160 zhp161
       have zS162 := zS46.quiet zhc159
       refine step1 ?_
       refine yenv [] (ag_nil) ?_
       have zS163 := zS162.loc
       refine Y.call_ 36 #[] ?_
       refine enter_ Tryz.func36 rfl (seq_ (reg_ ?_))
       refine new_ zS163 (fun b => π b 0) (.cells #[ι 0, ι 0, ι 0] 39) ?_
       intro zb164 zw165 zS166
       refine nsr_ (pure_ (.agg #[ι 2, ι 4, ι 0]) ?_)
       refine store_ zS166 0 (.agg #[ι 2, ι 4, ι 0]) zb164 0 ?_
       intro zw167 zS168
       refine nil_ (then_n (wp_ret (ret_ rfl (res_ [.cell 0 39] [.agg #[ι 2, ι 4, ι 0]] (.agg #[ι 2, ι 4, ι 0]) ⟨res_cellN zS168 0 3 zb164 0, trivial⟩) ?_)))
       exact ⟨zS168.ch, Sp.mk_holds [] (all_nil)⟩
     refine step_cons ?_ ?_
     · intro zy169 zw170 zhc171 zhf172 zhp173
       have zS174 := zS46.quiet zhc171
       refine step1 ?_
       refine yenv [] (ag_nil) ?_
       have zS175 := zS174.loc
       refine Y.call_ 36 #[] ?_
       refine enter_ Tryz.func36 rfl (seq_ (reg_ ?_))
       refine new_ zS175 (fun b => π b 0) (.cells #[ι 0, ι 0, ι 0] 39) ?_
       intro zb176 zw177 zS178
       refine nsr_ (pure_ (.agg #[ι 2, ι 4, ι 0]) ?_)
       refine store_ zS178 0 (.agg #[ι 2, ι 4, ι 0]) zb176 0 ?_
       intro zw179 zS180
       refine nil_ (then_n (wp_ret (ret_ rfl (res_ [.cell 0 39] [.agg #[ι 2, ι 4, ι 0]] (.agg #[ι 2, ι 4, ι 0]) ⟨res_cellN zS180 0 3 zb176 0, trivial⟩) ?_)))
       exact ⟨zS180.ch, Sp.mk_holds [] (all_nil)⟩
     refine step_cons ?_ ?_
     · intro zy181 zw182 zhc183 zhf184 zhp185
       have zh186 : zy181 23 = .agg #[ι 2, ι 4, ι 0] := (Sp.out0 (zhp185 13 23 (by kernel_rfl) (by kernel_rfl))).1
       have zS187 := zS46.quiet zhc183
       refine step1 ?_
       refine yenv [(23, .agg #[ι 2, ι 4, ι 0])] (ag_cons zh186 (ag_nil)) ?_
       have zS188 := zS187.loc
       refine Y.pure_ (.agg #[ι 1, ι 0, ι 0, ι 0, ι 0, ι 0, ι 0, ι 0, ι 0, ι 2, ι 4, ι 0]) ?_
       exact ⟨zS188.ch, Sp.mk_holds [] (all_nil)⟩
     exact step_nil
   intro zv189 zw190 zhc191 zha192
   have zh193 : zv189 0 = .agg (polP p ka (cutK kn) kc) := (Sp.out0 (zha192 0 (by kernel_rfl))).1
   have zh194 : zv189 1 = .agg (polP p ka (cutK kn) kc) := (Sp.out0 (zha192 1 (by kernel_rfl))).1
   have zh195 : zv189 2 = .agg #[ι 4, ι (p.i 55), ι (-1), ι 0, ι 0, ι 0, ι 0, φ] := (Sp.out0 (zha192 2 (by kernel_rfl))).1
   have zh196 : zv189 3 = π zb41 48 := (Sp.out0 (zha192 3 (by kernel_rfl))).1
   have zh197 : zv189 4 = ι (p.i 48) := (Sp.out0 (zha192 4 (by kernel_rfl))).1
   have zh198 : zv189 5 = .agg #[ι (p.i 48), .slice none 0 0] := (Sp.out0 (zha192 5 (by kernel_rfl))).1
   have zo202 := Sp.out1 (zha192 6 (by kernel_rfl))
   obtain ⟨zb200, zh199', zg201'⟩ := zo202
   have zh199 : zv189 6 = π zb200 0 := zh199'
   have zg201 : ∀ zp ∈ ([(zb200, .cells #[ι (p.i 48), .slice none 0 0] 105 (0, 0))] : List (Nat × Obj)), zw44.heap.size ≤ zp.1 ∧ zw190.heap[zp.1]? = some zp.2 := zg201'
   have zh203 : zv189 7 = .agg (polP p ka (cutK kn) kc) := (Sp.out0 (zha192 7 (by kernel_rfl))).1
   have zh204 : zv189 8 = .agg #[ι (p.i 0), ι (p.i 1), ι (p.i 2), ι (p.i 3), ι (p.i 4), .slice (ka 0) (cutK kn 0) (kc 0), .slice (ka 1) (cutK kn 1) (kc 1), .slice (ka 2) (cutK kn 2) (kc 2), .slice (ka 3) (cutK kn 3) (kc 3), ι (p.i 9), ι (p.i 10), ι (p.i 11), ι (p.i 12), ι (p.i 13), ι (p.i 14), ι (p.i 15), ι (p.i 16), ι (p.i 17), ι (p.i 18), ι (p.i 19), ι (p.i 20), ι (p.i 21), ι (p.i 22), ι (p.i 23), ι (p.i 24), ι (p.i 25), ι (p.i 26), ι (p.i 27), ι (p.i 28), ι (p.i 29), ι (p.i 30), ι (p.i 31), ι (p.i 32), ι (p.i 33), ι (p.i 34), ι (p.i 35), ι (p.i 36), ι (p.i 37), ι (p.i 38), ι (p.i 39), ι (p.i 40), ι (p.i 41), ι (p.i 42), ι (p.i 43), ι (p.i 44), ι (p.i 45), ι (p.i 46), ι (p.i 47), ι (p.i 48), ι (p.i 49), ι (p.i 50), ι (p.i 51), ι (p.i 52), ι (p.i 53), ι (p.i 54), ι (p.i 55), φ, ι 0, υ 0, υ 0, υ 0, υ 0, υ 0, υ 0, υ 0, υ 0, υ 0, υ 0, υ 0, υ 0, υ 0, υ 0, υ 0, υ 0, υ 0, υ 0, υ 0, υ 0, υ 0, υ 0, υ 0, υ 0, υ 0, υ 0, υ 0, υ 0, υ 0, υ 0, υ 0, υ 0, φ, ι 0, .int .u64 0, ι 0, ι 0, φ, ι 0, υ 0, υ 0, υ 0, υ 0, υ 0, υ 0, υ 0, υ 0, υ 0, υ 0, υ 0, υ 0, υ 0, υ 0, υ 0, υ 0, υ 0, υ 0, υ 0, υ 0, υ 0, υ 0, υ 0, υ 0, υ 0, υ 0, υ 0, υ 0, υ 0, υ 0, υ 0, υ 0, φ, ι 0, .int .u64 0, ι 0, ι 0, φ, ι 0, υ 0, υ 0, υ 0, υ 0, υ 0, υ 0, υ 0, υ 0, υ 0, υ 0, υ 0, υ 0, υ 0, υ 0, υ 0, υ 0, υ 0, υ 0, υ 0, υ 0, υ 0, υ 0, υ 0, υ 0, υ 0, υ 0, υ 0, υ 0, υ 0, υ 0, υ 0, υ 0, φ, ι 0, .int .u64 0, ι 0, ι 0, φ, ι 0, υ 0, υ 0, υ 0, υ 0, υ 0, υ 0, υ 0, υ 0, υ 0, υ 0, υ 0, υ 0, υ 0, υ 0, υ 0, υ 0, υ 0, υ 0, υ 0, υ 0, υ 0, υ 0, υ 0, υ 0, υ 0, υ 0, υ 0, υ 0, υ 0, υ 0, υ 0, υ 0, φ, ι 0, .int .u64 0, ι 0, ι 0] := (Sp.out0 (zha192 8 (by kernel_rfl))).1
   have zo208 := Sp.out1 (zha192 9 (by kernel_rfl))
   obtain ⟨zb206, zh205', zg207'⟩ := zo208
   have zh205 : zv189 9 = π zb206 0 := zh205'
   have zg207 : ∀ zp ∈ ([(zb206, .cells #[ι (p.i 0), ι (p.i 1), ι (p.i 2), ι (p.i 3), ι (p.i 4), .slice (ka 0) (cutK kn 0) (kc 0), .slice (ka 1) (cutK kn 1) (kc 1), .slice (ka 2) (cutK kn 2) (kc 2), .slice (ka 3) (cutK kn 3) (kc 3), ι (p.i 9), ι (p.i 10), ι (p.i 11), ι (p.i 12), ι (p.i 13), ι (p.i 14), ι (p.i 15), ι (p.i 16), ι (p.i 17), ι (p.i 18), ι (p.i 19), ι (p.i 20), ι (p.i 21), ι (p.i 22), ι (p.i 23), ι (p.i 24), ι (p.i 25), ι (p.i 26), ι (p.i 27), ι (p.i 28), ι (p.i 29), ι (p.i 30), ι (p.i 31), ι (p.i 32), ι (p.i 33), ι (p.i 34), ι (p.i 35), ι (p.i 36), ι (p.i 37), ι (p.i 38), ι (p.i 39), ι (p.i 40), ι (p.i 41), ι (p.i 42), ι (p.i 43), ι (p.i 44), ι (p.i 45), ι (p.i 46), ι (p.i 47), ι (p.i 48), ι (p.i 49), ι (p.i 50), ι (p.i 51), ι (p.i 52), ι (p.i 53), ι (p.i 54), ι (p.i 55), φ, ι 0, υ 0, υ 0, υ 0, υ 0, υ 0, υ 0, υ 0, υ 0, υ 0, υ 0, υ 0, υ 0, υ 0, υ 0, υ 0, υ 0, υ 0, υ 0, υ 0, υ 0, υ 0, υ 0, υ 0, υ 0, υ 0, υ 0, υ 0, υ 0, υ 0, υ 0, υ 0, υ 0, φ, ι 0, .int .u64 0, ι 0, ι 0, φ, ι 0, υ 0, υ 0, υ 0, υ 0, υ 0, υ 0, υ 0, υ 0, υ 0, υ 0, υ 0, υ 0, υ 0, υ 0, υ 0, υ 0, υ 0, υ 0, υ 0, υ 0, υ 0, υ 0, υ 0, υ 0, υ 0, υ 0, υ 0, υ 0, υ 0, υ 0, υ 0, υ 0, φ, ι 0, .int .u64 0, ι 0, ι 0, φ, ι 0, υ 0, υ 0, υ 0, υ 0, υ 0, υ 0, υ 0, υ 0, υ 0, υ 0, υ 0, υ 0, υ 0, υ 0, υ 0, υ 0, υ 0, υ 0, υ 0, υ 0, υ 0, υ 0, υ 0, υ 0, υ 0, υ 0, υ 0, υ 0, υ 0, υ 0, υ 0, υ 0, φ, ι 0, .int .u64 0, ι 0, ι 0, φ, ι 0, υ 0, υ 0, υ 0, υ 0, υ 0, υ 0, υ 0, υ 0, υ 0, υ 0, υ 0, υ 0, υ 0, υ 0, υ 0, υ 0, υ 0, υ 0, υ 0, υ 0, υ 0, υ 0, υ 0, υ 0, υ 0, υ 0, υ 0, υ 0, υ 0, υ 0, υ 0, υ 0, φ, ι 0, .int .u64 0, ι 0, ι 0] 114 (0, 0))] : List (Nat × Obj)), zw44.heap.size ≤ zp.1 ∧ zw190.heap[zp.1]? = some zp.2 := zg207'
   have zh209 : zv189 10 = π zb41 39 := (Sp.out0 (zha192 10 (by kernel_rfl))).1
   have zh210 : zv189 11 = ι (p.i 39) := (Sp.out0 (zha192 11 (by kernel_rfl))).1
   have zh211 : zv189 12 = .agg #[ι 2, ι 4, ι 0] := (Sp.out0 (zha192 12 (by kernel_rfl))).1
   have zh212 : zv189 13 = .agg #[ι 2, ι 4, ι 0] := (Sp.out0 (zha192 13 (by kernel_rfl))).1
   have zh213 : zv189 14 = .agg #[ι 1, ι 0, ι 0, ι 0, ι 0, ι 0, ι 0, ι 0, ι 0, ι 2, ι 4, ι 0] := (Sp.out0 (zha192 14 (by kernel_rfl))).1
   have zS214 := zS46.ro zhc191 (([(zb200, .cells #[ι (p.i 48), .slice none 0 0] 105 (0, 0))] ++ [(zb206, .cells #[ι (p.i 0), ι (p.i 1), ι (p.i 2), ι (p.i 3), ι (p.i 4), .slice (ka 0) (cutK kn 0) (kc 0), .slice (ka 1) (cutK kn 1) (kc 1), .slice (ka 2) (cutK kn 2) (kc 2), .slice (ka 3) (cutK kn 3) (kc 3), ι (p.i 9), ι (p.i 10), ι (p.i 11), ι (p.i 12), ι (p.i 13), ι (p.i 14), ι (p.i 15), ι (p.i 16), ι (p.i 17), ι (p.i 18), ι (p.i 19), ι (p.i 20), ι (p.i 21), ι (p.i 22), ι (p.i 23), ι (p.i 24), ι (p.i 25), ι (p.i 26), ι (p.i 27), ι (p.i 28), ι (p.i 29), ι (p.i 30), ι (p.i 31), ι (p.i 32), ι (p.i 33), ι (p.i 34), ι (p.i 35), ι (p.i 36), ι (p.i 37), ι (p.i 38), ι (p.i 39), ι (p.i 40), ι (p.i 41), ι (p.i 42), ι (p.i 43), ι (p.i 44), ι (p.i 45), ι (p.i 46), ι (p.i 47), ι (p.i 48), ι (p.i 49), ι (p.i 50), ι (p.i 51), ι (p.i 52), ι (p.i 53), ι (p.i 54), ι (p.i 55), φ, ι 0, υ 0, υ 0, υ 0, υ 0, υ 0, υ 0, υ 0, υ 0, υ 0, υ 0, υ 0, υ 0, υ 0, υ 0, υ 0, υ 0, υ 0, υ 0, υ 0, υ 0, υ 0, υ 0, υ 0, υ 0, υ 0, υ 0, υ 0, υ 0, υ 0, υ 0, υ 0, υ 0, φ, ι 0, .int .u64 0, ι 0, ι 0, φ, ι 0, υ 0, υ 0, υ 0, υ 0, υ 0, υ 0, υ 0, υ 0, υ 0, υ 0, υ 0, υ 0, υ 0, υ 0, υ 0, υ 0, υ 0, υ 0, υ 0, υ 0, υ 0, υ 0, υ 0, υ 0, υ 0, υ 0, υ 0, υ 0, υ 0, υ 0, υ 0, υ 0, φ, ι 0, .int .u64 0, ι 0, ι 0, φ, ι 0, υ 0, υ 0, υ 0, υ 0, υ 0, υ 0, υ 0, υ 0, υ 0, υ 0, υ 0, υ 0, υ 0, υ 0, υ 0, υ 0, υ 0, υ 0, υ 0, υ 0, υ 0, υ 0, υ 0, υ 0, υ 0, υ 0, υ 0, υ 0, υ 0, υ 0, υ 0, υ 0, φ, ι 0, .int .u64 0, ι 0, ι 0, φ, ι 0, υ 0, υ 0, υ 0, υ 0, υ 0, υ 0, υ 0, υ 0, υ 0, υ 0, υ 0, υ 0, υ 0, υ 0, υ 0, υ 0, υ 0, υ 0, υ 0, υ 0, υ 0, υ 0, υ 0, υ 0, υ 0, υ 0, υ 0, υ 0, υ 0, υ 0, υ 0, υ 0, φ, ι 0, .int .u64 0, ι 0, ι 0] 114 (0, 0))])) (List.forall_mem_append.2 ⟨zg201, zg207⟩)
   refine ⟨[.agg (polP p ka (cutK kn) kc), .agg (polP p ka (cutK kn) kc), .agg #[ι 4, ι (p.i 55), ι (-1), ι 0, ι 0, ι 0, ι 0, φ], π zb41 48, ι (p.i 48), .agg #[ι (p.i 48), .slice none 0 0], π zb200 0, .agg (polP p ka (cutK kn) kc), .agg #[ι (p.i 0), ι (p.i 1), ι (p.i 2), ι (p.i 3), ι (p.i 4), .slice (ka 0) (cutK kn 0) (kc 0), .slice (ka 1) (cutK kn 1) (kc 1), .slice (ka 2) (cutK kn 2) (kc 2), .slice (ka 3) (cutK kn 3) (kc 3), ι (p.i 9), ι (p.i 10), ι (p.i 11), ι (p.i 12), ι (p.i 13), ι (p.i 14), ι (p.i 15), ι (p.i 16), ι (p.i 17), ι (p.i 18), ι (p.i 19), ι (p.i 20), ι (p.i 21), ι (p.i 22), ι (p.i 23), ι (p.i 24), ι (p.i 25), ι (p.i 26), ι (p.i 27), ι (p.i 28), ι (p.i 29), ι (p.i 30), ι (p.i 31), ι (p.i 32), ι (p.i 33), ι (p.i 34), ι (p.i 35), ι (p.i 36), ι (p.i 37), ι (p.i 38), ι (p.i 39), ι (p.i 40), ι (p.i 41), ι (p.i 42), ι (p.i 43), ι (p.i 44), ι (p.i 45), ι (p.i 46), ι (p.i 47), ι (p.i 48), ι (p.i 49), ι (p.i 50), ι (p.i 51), ι (p.i 52), ι (p.i 53), ι (p.i 54), ι (p.i 55), φ, ι 0, υ 0, υ 0, υ 0, υ 0, υ 0, υ 0, υ 0, υ 0, υ 0, υ 0, υ 0, υ 0, υ 0, υ 0, υ 0, υ 0, υ 0, υ 0, υ 0, υ 0, υ 0, υ 0, υ 0, υ 0, υ 0, υ 0, υ 0, υ 0, υ 0, υ 0, υ 0, υ 0, φ, ι 0, .int .u64 0, ι 0, ι 0, φ, ι 0, υ 0, υ 0, υ 0, υ 0, υ 0, υ 0, υ 0, υ 0, υ 0, υ 0, υ 0, υ 0, υ 0, υ 0, υ 0, υ 0, υ 0, υ 0, υ 0, υ 0, υ 0, υ 0, υ 0, υ 0, υ 0, υ 0, υ 0, υ 0, υ 0, υ 0, υ 0, υ 0, φ, ι 0, .int .u64 0, ι 0, ι 0, φ, ι 0, υ 0, υ 0, υ 0, υ 0, υ 0, υ 0, υ 0, υ 0, υ 0, υ 0, υ 0, υ 0, υ 0, υ 0, υ 0, υ 0, υ 0, υ 0, υ 0, υ 0, υ 0, υ 0, υ 0, υ 0, υ 0, υ 0, υ 0, υ 0, υ 0, υ 0, υ 0, υ 0, φ, ι 0, .int .u64 0, ι 0, ι 0, φ, ι 0, υ 0, υ 0, υ 0, υ 0, υ 0, υ 0, υ 0, υ 0, υ 0, υ 0, υ 0, υ 0, υ 0, υ 0, υ 0, υ 0, υ 0, υ 0, υ 0, υ 0, υ 0, υ 0, υ 0, υ 0, υ 0, υ 0, υ 0, υ 0, υ 0, υ 0, υ 0, υ 0, φ, ι 0, .int .u64 0, ι 0, ι 0], π zb206 0, π zb41 39, ι (p.i 39), .agg #[ι 2, ι 4, ι 0], .agg #[ι 2, ι 4, ι 0], .agg #[ι 1, ι 0, ι 0, ι 0, ι 0, ι 0, ι 0, ι 0, ι 0, ι 2, ι 4, ι 0]], by kernel_rfl, va_cons zh193 (va_cons zh194 (va_cons zh195 (va_cons zh196 (va_cons zh197 (va_cons zh198 (va_cons zh199 (va_cons zh203 (va_cons zh204 (va_cons zh205 (va_cons zh209 (va_cons zh210 (va_cons zh211 (va_cons zh212 (va_cons zh213 (va_nil))))))))))))))), ?_⟩
   refine pure_ (.agg #[ι (p.i 0), ι (p.i 1), ι (p.i 2), ι (p.i 3), ι (p.i 4), .slice (ka 0) (cutK kn 0) (kc 0), .slice (ka 1) (cutK kn 1) (kc 1), .slice (ka 2) (cutK kn 2) (kc 2), .slice (ka 3) (cutK kn 3) (kc 3), ι (p.i 9), ι (p.i 10), ι (p.i 11), ι (p.i 12), ι (p.i 13), ι (p.i 14), ι (p.i 15), ι (p.i 16), ι (p.i 17), ι (p.i 18), ι (p.i 19), ι (p.i 20), ι (p.i 21), ι (p.i 22), ι (p.i 23), ι (p.i 24), ι (p.i 25), ι (p.i 26), ι (p.i 27), ι (p.i 28), ι (p.i 29), ι (p.i 30), ι (p.i 31), ι (p.i 32), ι (p.i 33), ι (p.i 34), ι (p.i 35), ι (p.i 36), ι (p.i 37), ι (p.i 38), ι (p.i 39), ι (p.i 40), ι (p.i 41), ι (p.i 42), ι (p.i 43), ι (p.i 44), ι (p.i 45), ι (p.i 46), ι (p.i 47), ι (p.i 48), ι (p.i 49), ι (p.i 50), ι (p.i 51), ι (p.i 52), ι (p.i 53), ι (p.i 54), ι (p.i 55), ι 4, ι (p.i 55), ι (-1), ι 0, ι 0, ι 0, ι 0, φ, π zb200 0, ι 0, φ, υ 0, υ 0, υ 0, υ 0, υ 0, υ 0, υ 0, υ 0, ι 0, φ, υ 0, υ 0, υ 0, υ 0, υ 0, υ 0, υ 0, υ 0, ι 0, φ, υ 0, υ 0, υ 0, υ 0, υ 0, υ 0, υ 0, υ 0, ι 0, φ, υ 0, υ 0, υ 0, υ 0, υ 0, υ 0, υ 0, υ 0, π zb206 0, ι 0, ι 0, ι (p.i 39), ι 2, ι 4, ι 0, ι 1, ι 0, ι 0, ι 0, ι 0, ι 0, ι 0, ι 0, ι 0, ι 2, ι 4, ι 0, υ 0, υ 0, υ 0, υ 0, υ 0, υ 0, υ 0, υ 0, υ 0, υ 0, υ 0, υ 0, υ 0, υ 0, υ 0, υ 0, υ 0, υ 0, υ 0, υ 0, υ 0, υ 0, υ 0, υ 0, υ 0, υ 0, υ 0, υ 0, υ 0, υ 0, υ 0, υ 0, .slice none 0 0, .slice none 0 0]) ?_
   refine new_ zS214 (fun b => π b 0) (.cells #[ι (p.i 0), ι (p.i 1), ι (p.i 2), ι (p.i 3), ι (p.i 4), .slice (ka 0) (cutK kn 0) (kc 0), .slice (ka 1) (cutK kn 1) (kc 1), .slice (ka 2) (cutK kn 2) (kc 2), .slice (ka 3) (cutK kn 3) (kc 3), ι (p.i 9), ι (p.i 10), ι (p.i 11), ι (p.i 12), ι (p.i 13), ι (p.i 14), ι (p.i 15), ι (p.i 16), ι (p.i 17), ι (p.i 18), ι (p.i 19), ι (p.i 20), ι (p.i 21), ι (p.i 22), ι (p.i 23), ι (p.i 24), ι (p.i 25), ι (p.i 26), ι (p.i 27), ι (p.i 28), ι (p.i 29), ι (p.i 30), ι (p.i 31), ι (p.i 32), ι (p.i 33), ι (p.i 34), ι (p.i 35), ι (p.i 36), ι (p.i 37), ι (p.i 38), ι (p.i 39), ι (p.i 40), ι (p.i 41), ι (p.i 42), ι (p.i 43), ι (p.i 44), ι (p.i 45), ι (p.i 46), ι (p.i 47), ι (p.i 48), ι (p.i 49), ι (p.i 50), ι (p.i 51), ι (p.i 52), ι (p.i 53), ι (p.i 54), ι (p.i 55), ι 4, ι (p.i 55), ι (-1), ι 0, ι 0, ι 0, ι 0, φ, π zb200 0, ι 0, φ, υ 0, υ 0, υ 0, υ 0, υ 0, υ 0, υ 0, υ 0, ι 0, φ, υ 0, υ 0, υ 0, υ 0, υ 0, υ 0, υ 0, υ 0, ι 0, φ, υ 0, υ 0, υ 0, υ 0, υ 0, υ 0, υ 0, υ 0, ι 0, φ, υ 0, υ 0, υ 0, υ 0, υ 0, υ 0, υ 0, υ 0, π zb206 0, ι 0, ι 0, ι (p.i 39), ι 2, ι 4, ι 0, ι 1, ι 0, ι 0, ι 0, ι 0, ι 0, ι 0, ι 0, ι 0, ι 2, ι 4, ι 0, υ 0, υ 0, υ 0, υ 0, υ 0, υ 0, υ 0, υ 0, υ 0, υ 0, υ 0, υ 0, υ 0, υ 0, υ 0, υ 0, υ 0, υ 0, υ 0, υ 0, υ 0, υ 0, υ 0, υ 0, υ 0, υ 0, υ 0, υ 0, υ 0, υ 0, υ 0, υ 0, .slice none 0 0, .slice none 0 0] 117) ?_
   intro zb215 zw216 zS217
   refine assign_ (pure_ (ι 0) (nil_ (then_n (wp_ret (ret_ rfl (res_ [.tmp 2, .tmp 3] [π zb215 0, ι 0] (.tuple #[π zb215 0, ι 0]) ⟨res_tmp, res_tmp, trivial⟩) (move_ (pure_ (π zb215 0) (pure_ (ι 0) (assign_ (pure_ (ι 0) (nil_ (then_n (seq_ (seq_ (reg_ (pure_ (ι 0) (pure_ (φ) (nil_ (then_n (cond_F (wp_skip (then_n (seq_ (seq_ (reg_ (move_ (pure_ (φ) (pure_ (φ) (move_ (pure_ (φ) (pure_ (φ) (nil_ (then_n (cond_F (wp_skip (then_n (seq_ (reg_ (move_ (call_ 13 #[π zb30 0] (enter_ Tryz.func13 rfl (seq_ (reg_ ?_)))))))))))))))))))))))))))))))))))))))))))
   refine new_ zS217 (fun b => π b 0) (.cells #[ι 0, ι 0, ι 0, ι 0, ι 0, ι 0, ι 0, ι 0, ι 0, ι 0, ι 0, ι 0, ι 0, ι 0, ι 0, ι 0, ι 0, ι 0, ι 0, .slice none 0 0, φ, φ, φ, φ, φ, ι 0, ι 0, ι 0, ι 0, ι 0, φ] 45) ?_
   intro zb218 zw219 zS220
   refine nil_ (then_n (seq_ (seq_ (reg_ (move_ (call_ 38 #[π zb30 0] (enter_ Tryz.func38 rfl (seq_ (reg_ (pure_ (φ) (nsr_ (move_ (pure_ (π zb30 0) (pure_ (π zb30 95) (load1_ zS220 5 (π zb32 0) zb30 95 (pure_ (τ) (pure_ (τ) (nil_ (then_n (wp_ret (ret_ rfl (res_ [.tmp 2] [τ] (τ) ⟨res_tmp, trivial⟩) (pure_ (φ) (nil_ (then_n (cond_F (wp_skip (then_n (seq_ ?_))))))))))))))))))))))))))))
   refine drawnL_ 34 [⟨0, fun _ => π zb30 0, fun _ => []⟩, ⟨0, fun _ => π zb30 0, fun _ => []⟩, ⟨0, fun _ => π zb30 56, fun _ => []⟩, ⟨0, fun _ => π zb30 56, fun _ => []⟩, ⟨0, fun _ => ι 4, fun _ => []⟩, ⟨0, fun _ => π zb30 0, fun _ => []⟩, ⟨0, fun _ => π zb30 0, fun _ => []⟩, ⟨0, fun _ => π zb30 56, fun _ => []⟩, ⟨0, fun _ => π zb30 57, fun _ => []⟩, ⟨0, fun _ => ι (p.i 55), fun _ => []⟩, ⟨0, fun _ => π zb30 0, fun _ => []⟩, ⟨0, fun _ => π zb30 0, fun _ => []⟩, ⟨0, fun _ => π zb30 56, fun _ => []⟩, ⟨0, fun _ => π zb30 58, fun _ => []⟩, ⟨0, fun _ => ι (-1), fun _ => []⟩, ⟨0, fun _ => π zb30 0, fun _ => []⟩, ⟨0, fun _ => π zb30 0, fun _ => []⟩, ⟨0, fun _ => π zb30 98, fun _ => []⟩, ⟨0, fun _ => ι (p.i 39), fun _ => []⟩, ⟨0, fun _ => π zb30 0, fun _ => []⟩, ⟨0, fun _ => π zb30 0, fun _ => []⟩, ⟨0, fun _ => π zb30 99, fun _ => []⟩, ⟨0, fun _ => .agg #[ι 2, ι 4, ι 0], fun _ => []⟩, ⟨0, fun _ => π zb30 0, fun _ => []⟩, ⟨0, fun _ => π zb30 0, fun _ => []⟩, ⟨0, fun _ => π zb30 102, fun _ => []⟩, ⟨0, fun _ => .agg #[ι 1, ι 0, ι 0, ι 0, ι 0, ι 0, ι 0, ι 0, ι 0, ι 2, ι 4, ι 0], fun _ => []⟩, ⟨0, fun _ => π zb30 0, fun _ => []⟩, ⟨0, fun _ => π zb30 0, fun _ => []⟩, ⟨0, fun _ => π zb30 56, fun _ => []⟩, ⟨0, fun _ => π zb30 63, fun _ => []⟩, ⟨0, fun _ => φ, fun _ => []⟩, ⟨0, fun _ => .agg #[ι 4, ι (p.i 55), ι (-1), ι (p.i 39), ι 2, ι 4, ι 0, ι 1, ι 0, ι 0, ι 0, ι 0, ι 0, ι 0, ι 0, ι 0, ι 2, ι 4, ι 0, .slice none 0 0, φ, φ, φ, φ, φ, ι 0, ι 0, ι 0, ι 0, ι 0, φ], fun _ => []⟩, ⟨1, fun ids => π (ids.getD 0 0) 0, fun ids => [((ids.getD 0 0), .cells #[ι 0, ι 0, ι 0, ι 0, ι 0, ι 0, ι 0, ι 0, ι 0, ι 0, ι 0, ι 0, ι 0, ι 0, ι 0, ι 0, ι 0, ι 0, ι 0, .slice none 0 0, φ, φ, φ, φ, φ, ι 0, ι 0, ι 0, ι 0, ι 0, φ] 45 (0, 0))]⟩] [[34, 0], [34, 1], [34, 2], [34, 3], [34, 4], [34, 5], [34, 6], [34, 7], [34, 8], [34, 9], [34, 10], [34, 11], [34, 12], [34, 13], [34, 14], [34, 15], [34, 16], [34, 17], [34, 18], [34, 19], [34, 20], [34, 21], [34, 22], [34, 23], [34, 24], [34, 25], [34, 26], [34, 27], [34, 28], [34, 29], [34, 30], [34, 31], [34, 32], [34, 33]] ?_ ?_
   · refine step_cons ?_ ?_
     · intro zy221 zw222 zhc223 zhf224 zhp225
       have zh226 : zy221 0 = π zb30 0 := (zhf224 0 (by kernel_rfl)).trans (by kernel_rfl)
       have zS227 := zS220.quiet zhc223
       refine step1 ?_
       refine yenv [(0, π zb30 0)] (ag_cons zh226 (ag_nil)) ?_
       have zS228 := zS227.loc
       refine Y.move_ ?_
       exact ⟨zS228.ch, Sp.mk_holds [] (all_nil)⟩
     refine step_cons ?_ ?_
     · intro zy229 zw230 zhc231 zhf232 zhp233
       have zh234 : zy229 11 = π zb30 0 := (Sp.out0 (zhp233 0 11 (by kernel_rfl) (by kernel_rfl))).1
       have zS235 := zS220.quiet zhc231
       refine step1 ?_
       refine yenv [(11, π zb30 0)] (ag_cons zh234 (ag_nil)) ?_
       have zS236 := zS235.loc
       refine Y.pure_ (π zb30 0) ?_
       exact ⟨zS236.ch, Sp.mk_holds [] (all_nil)⟩
     refine step_cons ?_ ?_
     · intro zy237 zw238 zhc239 zhf240 zhp241
       have zh242 : zy237 12 = π zb30 0 := (Sp.out0 (zhp241 1 12 (by kernel_rfl) (by kernel_rfl))).1
       have zS243 := zS220.quiet zhc239
       refine step1 ?_
       refine yenv [(12, π zb30 0)] (ag_cons zh242 (ag_nil)) ?_
       have zS244 := zS243.loc
       refine Y.pure_ (π zb30 56) ?_
       exact ⟨zS244.ch, Sp.mk_holds [] (all_nil)⟩
     refine step_cons ?_ ?_
     · intro zy245 zw246 zhc247 zhf248 zhp249
       have zh250 : zy245 13 = π zb30 56 := (Sp.out0 (zhp249 2 13 (by kernel_rfl) (by kernel_rfl))).1
       have zS251 := zS220.quiet zhc247
       refine step1 ?_
       refine yenv [(13, π zb30 56)] (ag_cons zh250 (ag_nil)) ?_
       have zS252 := zS251.loc
       refine Y.pure_ (π zb30 56) ?_
       exact ⟨zS252.ch, Sp.mk_holds [] (all_nil)⟩
     refine step_cons ?_ ?_
     · intro zy253 zw254 zhc255 zhf256 zhp257
       have zh258 : zy253 14 = π zb30 56 := (Sp.out0 (zhp257 3 14 (by kernel_rfl) (by kernel_rfl))).1
       have zS259 := zS220.quiet zhc255
       refine step1 ?_
       refine yenv [(14, π zb30 56)] (ag_cons zh258 (ag_nil)) ?_
       have zS260 := zS259.loc
       refine Y.load1_ zS260 5 (ι 4) zb30 56 ?_
       exact ⟨zS260.ch, Sp.mk_holds [] (all_nil)⟩
     refine step_cons ?_ ?_
     · intro zy261 zw262 zhc263 zhf264 zhp265
       have zh266 : zy261 0 = π zb30 0 := (zhf264 0 (by kernel_rfl)).trans (by kernel_rfl)
       have zS267 := zS220.quiet zhc263
       refine step1 ?_
       refine yenv [(0, π zb30 0)] (ag_cons zh266 (ag_nil)) ?_
       have zS268 := zS267.loc
       refine Y.move_ ?_
       exact ⟨zS268.ch, Sp.mk_holds [] (all_nil)⟩
     refine step_cons ?_ ?_
     · intro zy269 zw270 zhc271 zhf272 zhp273
       have zh274 : zy269 16 = π zb30 0 := (Sp.out0 (zhp273 5 16 (by kernel_rfl) (by kernel_rfl))).1
       have zS275 := zS220.quiet zhc271
       refine step1 ?_
       refine yenv [(16, π zb30 0)] (ag_cons zh274 (ag_nil)) ?_
       have zS276 := zS275.loc
       refine Y.pure_ (π zb30 0) ?_
       exact ⟨zS276.ch, Sp.mk_holds [] (all_nil)⟩
     refine step_cons ?_ ?_
     · intro zy277 zw278 zhc279 zhf280 zhp281
       have zh282 : zy277 17 = π zb30 0 := (Sp.out0 (zhp281 6 17 (by kernel_rfl) (by kernel_rfl))).1
       have zS283 := zS220.quiet zhc279
       refine step1 ?_
       refine yenv [(17, π zb30 0)] (ag_cons zh282 (ag_nil)) ?_
       have zS284 := zS283.loc
       refine Y.pure_ (π zb30 56) ?_
       exact ⟨zS284.ch, Sp.mk_holds [] (all_nil)⟩
     refine step_cons ?_ ?_
     · intro zy285 zw286 zhc287 zhf288 zhp289
       have zh290 : zy285 18 = π zb30 56 := (Sp.out0 (zhp289 7 18 (by kernel_rfl) (by kernel_rfl))).1
       have zS291 := zS220.quiet zhc287
       refine step1 ?_
       refine yenv [(18, π zb30 56)] (ag_cons zh290 (ag_nil)) ?_
       have zS292 := zS291.loc
       refine Y.pure_ (π zb30 57) ?_
       exact ⟨zS292.ch, Sp.mk_holds [] (all_nil)⟩
     refine step_cons ?_ ?_
     · intro zy293 zw294 zhc295 zhf296 zhp297
       have zh298 : zy293 19 = π zb30 57 := (Sp.out0 (zhp297 8 19 (by kernel_rfl) (by kernel_rfl))).1
       have zS299 := zS220.quiet zhc295
       refine step1 ?_
       refine yenv [(19, π zb30 57)] (ag_cons zh298 (ag_nil)) ?_
       have zS300 := zS299.loc
       refine Y.load1_ zS300 5 (ι (p.i 55)) zb30 57 ?_
       exact ⟨zS300.ch, Sp.mk_holds [] (all_nil)⟩
     refine step_cons ?_ ?_
     · intro zy301 zw302 zhc303 zhf304 zhp305
       have zh306 : zy301 0 = π zb30 0 := (zhf304 0 (by kernel_rfl)).trans (by kernel_rfl)
       have zS307 := zS220.quiet zhc303
       refine step1 ?_
       refine yenv [(0, π zb30 0)] (ag_cons zh306 (ag_nil)) ?_
       have zS308 := zS307.loc
       refine Y.move_ ?_
       exact ⟨zS308.ch, Sp.mk_holds [] (all_nil)⟩
     refine step_cons ?_ ?_
     · intro zy309 zw310 zhc311 zhf312 zhp313
       have zh314 : zy309 21 = π zb30 0 := (Sp.out0 (zhp313 10 21 (by kernel_rfl) (by kernel_rfl))).1
       have zS315 := zS220.quiet zhc311
       refine step1 ?_
       refine yenv [(21, π zb30 0)] (ag_cons zh314 (ag_nil)) ?_
       have zS316 := zS315.loc
       refine Y.pure_ (π zb30 0) ?_
       exact ⟨zS316.ch, Sp.mk_holds [] (all_nil)⟩
     refine step_cons ?_ ?_
     · intro zy317 zw318 zhc319 zhf320 zhp321
       have zh322 : zy317 22 = π zb30 0 := (Sp.out0 (zhp321 11 22 (by kernel_rfl) (by kernel_rfl))).1
       have zS323 := zS220.quiet zhc319
       refine step1 ?_
       refine yenv [(22, π zb30 0)] (ag_cons zh322 (ag_nil)) ?_
       have zS324 := zS323.loc
       refine Y.pure_ (π zb30 56) ?_
       exact ⟨zS324.ch, Sp.mk_holds [] (all_nil)⟩
     refine step_cons ?_ ?_
     · intro zy325 zw326 zhc327 zhf328 zhp329
       have zh330 : zy325 23 = π zb30 56 := (Sp.out0 (zhp329 12 23 (by kernel_rfl) (by kernel_rfl))).1
       have zS331 := zS220.quiet zhc327
       refine step1 ?_
       refine yenv [(23, π zb30 56)] (ag_cons zh330 (ag_nil)) ?_
       have zS332 := zS331.loc
       refine Y.pure_ (π zb30 58) ?_
       exact ⟨zS332.ch, Sp.mk_holds [] (all_nil)⟩
     refine step_cons ?_ ?_
     · intro zy333 zw334 zhc335 zhf336 zhp337
       have zh338 : zy333 24 = π zb30 58 := (Sp.out0 (zhp337 13 24 (by kernel_rfl) (by kernel_rfl))).1
       have zS339 := zS220.quiet zhc335
       refine step1 ?_
       refine yenv [(24, π zb30 58)] (ag_cons zh338 (ag_nil)) ?_
       have zS340 := zS339.loc
       refine Y.load1_ zS340 5 (ι (-1)) zb30 58 ?_
       exact ⟨zS340.ch, Sp.mk_holds [] (all_nil)⟩
     refine step_cons ?_ ?_
     · intro zy341 zw342 zhc343 zhf344 zhp345
       have zh346 : zy341 0 = π zb30 0 := (zhf344 0 (by kernel_rfl)).trans (by kernel_rfl)
       have zS347 := zS220.quiet zhc343
       refine step1 ?_
       refine yenv [(0, π zb30 0)] (ag_cons zh346 (ag_nil)) ?_
       have zS348 := zS347.loc
       refine Y.move_ ?_
       exact ⟨zS348.ch, Sp.mk_holds [] (all_nil)⟩
     refine step_cons ?_ ?_
     · intro zy349 zw350 zhc351 zhf352 zhp353
       have zh354 : zy349 26 = π zb30 0 := (Sp.out0 (zhp353 15 26 (by kernel_rfl) (by kernel_rfl))).1
       have zS355 := zS220.quiet zhc351
       refine step1 ?_
       refine yenv [(26, π zb30 0)] (ag_cons zh354 (ag_nil)) ?_
       have zS356 := zS355.loc
       refine Y.pure_ (π zb30 0) ?_
       exact ⟨zS356.ch, Sp.mk_holds [] (all_nil)⟩
     refine step_cons ?_ ?_
     · intro zy357 zw358 zhc359 zhf360 zhp361
       have zh362 : zy357 27 = π zb30 0 := (Sp.out0 (zhp361 16 27 (by kernel_rfl) (by kernel_rfl))).1
       have zS363 := zS220.quiet zhc359
       refine step1 ?_
       refine yenv [(27, π zb30 0)] (ag_cons zh362 (ag_nil)) ?_
       have zS364 := zS363.loc
       refine Y.pure_ (π zb30 98) ?_
       exact ⟨zS364.ch, Sp.mk_holds [] (all_nil)⟩
     refine step_cons ?_ ?_
     · intro zy365 zw366 zhc367 zhf368 zhp369
       have zh370 : zy365 28 = π zb30 98 := (Sp.out0 (zhp369 17 28 (by kernel_rfl) (by kernel_rfl))).1
       have zS371 := zS220.quiet zhc367
       refine step1 ?_
       refine yenv [(28, π zb30 98)] (ag_cons zh370 (ag_nil)) ?_
       have zS372 := zS371.loc
       refine Y.load1_ zS372 5 (ι (p.i 39)) zb30 98 ?_
       exact ⟨zS372.ch, Sp.mk_holds [] (all_nil)⟩
     refine step_cons ?_ ?_
     · intro zy373 zw374 zhc375 zhf376 zhp377
       have zh378 : zy373 0 = π zb30 0 := (zhf376 0 (by kernel_rfl)).trans (by kernel_rfl)
       have zS379 := zS220.quiet zhc375
       refine step1 ?_
       refine yenv [(0, π zb30 0)] (ag_cons zh378 (ag_nil)) ?_
       have zS380 := zS379.loc
       refine Y.move_ ?_
       exact ⟨zS380.ch, Sp.mk_holds [] (all_nil)⟩
     refine step_cons ?_ ?_
     · intro zy381 zw382 zhc383 zhf384 zhp385
       have zh386 : zy381 30 = π zb30 0 := (Sp.out0 (zhp385 19 30 (by kernel_rfl) (by kernel_rfl))).1
       have zS387 := zS220.quiet zhc383
       refine step1 ?_
       refine yenv [(30, π zb30 0)] (ag_cons zh386 (ag_nil)) ?_
       have zS388 := zS387.loc
       refine Y.pure_ (π zb30 0) ?_
       exact ⟨zS388.ch, Sp.mk_holds [] (all_nil)⟩
     refine step_cons ?_ ?_
     · intro zy389 zw390 zhc391 zhf392 zhp393
       have zh394 : zy389 31 = π zb30 0 := (Sp.out0 (zhp393 20 31 (by kernel_rfl) (by kernel_rfl))).1
       have zS395 := zS220.quiet zhc391
       refine step1 ?_
       refine yenv [(31, π zb30 0)] (ag_cons zh394 (ag_nil)) ?_
       have zS396 := zS395.loc
       refine Y.pure_ (π zb30 99) ?_
       exact ⟨zS396.ch, Sp.mk_holds [] (all_nil)⟩
     refine step_cons ?_ ?_
     · intro zy397 zw398 zhc399 zhf400 zhp401
       have zh402 : zy397 32 = π zb30 99 := (Sp.out0 (zhp401 21 32 (by kernel_rfl) (by kernel_rfl))).1
       have zS403 := zS220.quiet zhc399
       refine step1 ?_
       refine yenv [(32, π zb30 99)] (ag_cons zh402 (ag_nil)) ?_
       have zS404 := zS403.loc
       refine Y.loadN_ zS404 5 3 #[ι 2, ι 4, ι 0] zb30 99 ?_
       exact ⟨zS404.ch, Sp.mk_holds [] (all_nil)⟩
     refine step_cons ?_ ?_
     · intro zy405 zw406 zhc407 zhf408 zhp409
       have zh410 : zy405 0 = π zb30 0 := (zhf408 0 (by kernel_rfl)).trans (by kernel_rfl)
       have zS411 := zS220.quiet zhc407
       refine step1 ?_
       refine yenv [(0, π zb30 0)] (ag_cons zh410 (ag_nil)) ?_
       have zS412 := zS411.loc
       refine Y.move_ ?_
       exact ⟨zS412.ch, Sp.mk_holds [] (all_nil)⟩
     refine step_cons ?_ ?_
     · intro zy413 zw414 zhc415 zhf416 zhp417
       have zh418 : zy413 34 = π zb30 0 := (Sp.out0 (zhp417 23 34 (by kernel_rfl) (by kernel_rfl))).1
       have zS419 := zS220.quiet zhc415
       refine step1 ?_
       refine yenv [(34, π zb30 0)] (ag_cons zh418 (ag_nil)) ?_
       have zS420 := zS419.loc
       refine Y.pure_ (π zb30 0) ?_
       exact ⟨zS420.ch, Sp.mk_holds [] (all_nil)⟩
     refine step_cons ?_ ?_
     · intro zy421 zw422 zhc423 zhf424 zhp425
       have zh426 : zy421 35 = π zb30 0 := (Sp.out0 (zhp425 24 35 (by kernel_rfl) (by kernel_rfl))).1
       have zS427 := zS220.quiet zhc423
       refine step1 ?_
       refine yenv [(35, π zb30 0)] (ag_cons zh426 (ag_nil)) ?_
       have zS428 := zS427.loc
       refine Y.pure_ (π zb30 102) ?_
       exact ⟨zS428.ch, Sp.mk_holds [] (all_nil)⟩
     refine step_cons ?_ ?_
     · intro zy429 zw430 zhc431 zhf432 zhp433
       have zh434 : zy429 36 = π zb30 102 := (Sp.out0 (zhp433 25 36 (by kernel_rfl) (by kernel_rfl))).1
       have zS435 := zS220.quiet zhc431
       refine step1 ?_
       refine yenv [(36, π zb30 102)] (ag_cons zh434 (ag_nil)) ?_
       have zS436 := zS435.loc
       refine Y.loadN_ zS436 5 12 #[ι 1, ι 0, ι 0, ι 0, ι 0, ι 0, ι 0, ι 0, ι 0, ι 2, ι 4, ι 0] zb30 102 ?_
       exact ⟨zS436.ch, Sp.mk_holds [] (all_nil)⟩
     refine step_cons ?_ ?_
     · intro zy437 zw438 zhc439 zhf440 zhp441
       have zh442 : zy437 0 = π zb30 0 := (zhf440 0 (by kernel_rfl)).trans (by kernel_rfl)
       have zS443 := zS220.quiet zhc439
       refine step1 ?_
       refine yenv [(0, π zb30 0)] (ag_cons zh442 (ag_nil)) ?_
       have zS444 := zS443.loc
       refine Y.move_ ?_
       exact ⟨zS444.ch, Sp.mk_holds [] (all_nil)⟩
     refine step_cons ?_ ?_
     · intro zy445 zw446 zhc447 zhf448 zhp449
       have zh450 : zy445 38 = π zb30 0 := (Sp.out0 (zhp449 27 38 (by kernel_rfl) (by kernel_rfl))).1
       have zS451 := zS220.quiet zhc447
       refine step1 ?_
       refine yenv [(38, π zb30 0)] (ag_cons zh450 (ag_nil)) ?_
       have zS452 := zS451.loc
       refine Y.pure_ (π zb30 0) ?_
       exact ⟨zS452.ch, Sp.mk_holds [] (all_nil)⟩
     refine step_cons ?_ ?_
     · intro zy453 zw454 zhc455 zhf456 zhp457
       have zh458 : zy453 39 = π zb30 0 := (Sp.out0 (zhp457 28 39 (by kernel_rfl) (by kernel_rfl))).1
       have zS459 := zS220.quiet zhc455
       refine step1 ?_
       refine yenv [(39, π zb30 0)] (ag_cons zh458 (ag_nil)) ?_
       have zS460 := zS459.loc
       refine Y.pure_ (π zb30 56) ?_
       exact ⟨zS460.ch, Sp.mk_holds [] (all_nil)⟩
     refine step_cons ?_ ?_
     · intro zy461 zw462 zhc463 zhf464 zhp465
       have zh466 : zy461 40 = π zb30 56 := (Sp.out0 (zhp465 29 40 (by kernel_rfl) (by kernel_rfl))).1
       have zS467 := zS220.quiet zhc463
       refine step1 ?_
       refine yenv [(40, π zb30 56)] (ag_cons zh466 (ag_nil)) ?_
       have zS468 := zS467.loc
       refine Y.pure_ (π zb30 63) ?_
       exact ⟨zS468.ch, Sp.mk_holds [] (all_nil)⟩
     refine step_cons ?_ ?_
     · intro zy469 zw470 zhc471 zhf472 zhp473
       have zh474 : zy469 41 = π zb30 63 := (Sp.out0 (zhp473 30 41 (by kernel_rfl) (by kernel_rfl))).1
       have zS475 := zS220.quiet zhc471
       refine step1 ?_
       refine yenv [(41, π zb30 63)] (ag_cons zh474 (ag_nil)) ?_
       have zS476 := zS475.loc
       refine Y.load1_ zS476 5 (φ) zb30 63 ?_
       exact ⟨zS476.ch, Sp.mk_holds [] (all_nil)⟩
     refine step_cons ?_ ?_
     · intro zy477 zw478 zhc479 zhf480 zhp481
       have zh482 : zy477 15 = ι 4 := (Sp.out0 (zhp481 4 15 (by kernel_rfl) (by kernel_rfl))).1
       have zh483 : zy477 20 = ι (p.i 55) := (Sp.out0 (zhp481 9 20 (by kernel_rfl) (by kernel_rfl))).1
       have zh484 : zy477 25 = ι (-1) := (Sp.out0 (zhp481 14 25 (by kernel_rfl) (by kernel_rfl))).1
       have zh485 : zy477 29 = ι (p.i 39) := (Sp.out0 (zhp481 18 29 (by kernel_rfl) (by kernel_rfl))).1
       have zh486 : zy477 33 = .agg #[ι 2, ι 4, ι 0] := (Sp.out0 (zhp481 22 33 (by kernel_rfl) (by kernel_rfl))).1
       have zh487 : zy477 37 = .agg #[ι 1, ι 0, ι 0, ι 0, ι 0, ι 0, ι 0, ι 0, ι 0, ι 2, ι 4, ι 0] := (Sp.out0 (zhp481 26 37 (by kernel_rfl) (by kernel_rfl))).1
       have zh488 : zy477 42 = φ := (Sp.out0 (zhp481 31 42 (by kernel_rfl) (by kernel_rfl))).1
       have zS489 := zS220.quiet zhc479
       refine step1 ?_
       refine yenv [(15, ι 4), (20, ι (p.i 55)), (25, ι (-1)), (29, ι (p.i 39)), (33, .agg #[ι 2, ι 4, ι 0]), (37, .agg #[ι 1, ι 0, ι 0, ι 0, ι 0, ι 0, ι 0, ι 0, ι 0, ι 2, ι 4, ι 0]), (42, φ)] (ag_cons zh482 (ag_cons zh483 (ag_cons zh484 (ag_cons zh485 (ag_cons zh486 (ag_cons zh487 (ag_cons zh488 (ag_nil)))))))) ?_
       have zS490 := zS489.loc
       refine Y.pure_ (.agg #[ι 4, ι (p.i 55), ι (-1), ι (p.i 39), ι 2, ι 4, ι 0, ι 1, ι 0, ι 0, ι 0, ι 0, ι 0, ι 0, ι 0, ι 0, ι 2, ι 4, ι 0, .slice none 0 0, φ, φ, φ, φ, φ, ι 0, ι 0, ι 0, ι 0, ι 0, φ]) ?_
       exact ⟨zS490.ch, Sp.mk_holds [] (all_nil)⟩
     refine step_cons ?_ ?_
     · intro zy491 zw492 zhc493 zhf494 zhp495
       have zS496 := zS220.quiet zhc493
       refine step1 ?_
       refine yenv [] (ag_nil) ?_
       have zS497 := zS496.loc
       refine Y.new_ zS497 (fun b => π b 0) (.cells #[ι 0, ι 0, ι 0, ι 0, ι 0, ι 0, ι 0, ι 0, ι 0, ι 0, ι 0, ι 0, ι 0, ι 0, ι 0, ι 0, ι 0, ι 0, ι 0, .slice none 0 0, φ, φ, φ, φ, φ, ι 0, ι 0, ι 0, ι 0, ι 0, φ] 45) ?_
       intro zb498 zw499 zS500
       exact ⟨zS500.ch, Sp.mk_holds [zb498] (all_cons (zS500.isNew zhc493.size 0 (by kernel_rfl)) (all_nil))⟩
     exact step_nil
   intro zv501 zw502 zhc503 zha504
   have zh505 : zv501 0 = π zb30 0 := (Sp.out0 (zha504 0 (by kernel_rfl))).1
   have zh506 : zv501 1 = π zb30 0 := (Sp.out0 (zha504 1 (by kernel_rfl))).1
   have zh507 : zv501 2 = π zb30 56 := (Sp.out0 (zha504 2 (by kernel_rfl))).1
   have zh508 : zv501 3 = π zb30 56 := (Sp.out0 (zha504 3 (by kernel_rfl))).1
   have zh509 : zv501 4 = ι 4 := (Sp.out0 (zha504 4 (by kernel_rfl))).1
   have zh510 : zv501 5 = π zb30 0 := (Sp.out0 (zha504 5 (by kernel_rfl))).1
   have zh511 : zv501 6 = π zb30 0 := (Sp.out0 (zha504 6 (by kernel_rfl))).1
   have zh512 : zv501 7 = π zb30 56 := (Sp.out0 (zha504 7 (by kernel_rfl))).1
   have zh513 : zv501 8 = π zb30 57 := (Sp.out0 (zha504 8 (by kernel_rfl))).1
   have zh514 : zv501 9 = ι (p.i 55) := (Sp.out0 (zha504 9 (by kernel_rfl))).1
   have zh515 : zv501 10 = π zb30 0 := (Sp.out0 (zha504 10 (by kernel_rfl))).1
   have zh516 : zv501 11 = π zb30 0 := (Sp.out0 (zha504 11 (by kernel_rfl))).1
   have zh517 : zv501 12 = π zb30 56 := (Sp.out0 (zha504 12 (by kernel_rfl))).1
   have zh518 : zv501 13 = π zb30 58 := (Sp.out0 (zha504 13 (by kernel_rfl))).1
   have zh519 : zv501 14 = ι (-1) := (Sp.out0 (zha504 14 (by kernel_rfl))).1
   have zh520 : zv501 15 = π zb30 0 := (Sp.out0 (zha504 15 (by kernel_rfl))).1
   have zh521 : zv501 16 = π zb30 0 := (Sp.out0 (zha504 16 (by kernel_rfl))).1
   have zh522 : zv501 17 = π zb30 98 := (Sp.out0 (zha504 17 (by kernel_rfl))).1
   have zh523 : zv501 18 = ι (p.i 39) := (Sp.out0 (zha504 18 (by kernel_rfl))).1
   have zh524 : zv501 19 = π zb30 0 := (Sp.out0 (zha504 19 (by kernel_rfl))).1
   have zh525 : zv501 20 = π zb30 0 := (Sp.out0 (zha504 20 (by kernel_rfl))).1
   have zh526 : zv501 21 = π zb30 99 := (Sp.out0 (zha504 21 (by kernel_rfl))).1
   have zh527 : zv501 22 = .agg #[ι 2, ι 4, ι 0] := (Sp.out0 (zha504 22 (by kernel_rfl))).1
   have zh528 : zv501 23 = π zb30 0 := (Sp.out0 (zha504 23 (by kernel_rfl))).1
   have zh529 : zv501 24 = π zb30 0 := (Sp.out0 (zha504 24 (by kernel_rfl))).1
   have zh530 : zv501 25 = π zb30 102 := (Sp.out0 (zha504 25 (by kernel_rfl))).1
   have zh531 : zv501 26 = .agg #[ι 1, ι 0, ι 0, ι 0, ι 0, ι 0, ι 0, ι 0, ι 0, ι 2, ι 4, ι 0] := (Sp.out0 (zha504 26 (by kernel_rfl))).1
   have zh532 : zv501 27 = π zb30 0 := (Sp.out0 (zha504 27 (by kernel_rfl))).1
   have zh533 : zv501 28 = π zb30 0 := (Sp.out0 (zha504 28 (by kernel_rfl))).1
   have zh534 : zv501 29 = π zb30 56 := (Sp.out0 (zha504 29 (by kernel_rfl))).1
   have zh535 : zv501 30 = π zb30 63 := (Sp.out0 (zha504 30 (by kernel_rfl))).1
   have zh536 : zv501 31 = φ := (Sp.out0 (zha504 31 (by kernel_rfl))).1
   have zh537 : zv501 32 = .agg #[ι 4, ι (p.i 55), ι (-1), ι (p.i 39), ι 2, ι 4, ι 0, ι 1, ι 0, ι 0, ι 0, ι 0, ι 0, ι 0, ι 0, ι 0, ι 2, ι 4, ι 0, .slice none 0 0, φ, φ, φ, φ, φ, ι 0, ι 0, ι 0, ι 0, ι 0, φ] := (Sp.out0 (zha504 32 (by kernel_rfl))).1
   have zo541 := Sp.out1 (zha504 33 (by kernel_rfl))
   obtain ⟨zb539, zh538', zg540'⟩ := zo541
   have zh538 : zv501 33 = π zb539 0 := zh538'
   have zg540 : ∀ zp ∈ ([(zb539, .cells #[ι 0, ι 0, ι 0, ι 0, ι 0, ι 0, ι 0, ι 0, ι 0, ι 0, ι 0, ι 0, ι 0, ι 0, ι 0, ι 0, ι 0, ι 0, ι 0, .slice none 0 0, φ, φ, φ, φ, φ, ι 0, ι 0, ι 0, ι 0, ι 0, φ] 45 (0, 0))] : List (Nat × Obj)), zw219.heap.size ≤ zp.1 ∧ zw502.heap[zp.1]? = some zp.2 := zg540'
   have zS542 := zS220.new zhc503 (zg540 _ (List.Mem.head _)).1 (zg540 _ (List.Mem.head _)).2
   refine ⟨[π zb30 0, π zb30 0, π zb30 56, π zb30 56, ι 4, π zb30 0, π zb30 0, π zb30 56, π zb30 57, ι (p.i 55), π zb30 0, π zb30 0, π zb30 56, π zb30 58, ι (-1), π zb30 0, π zb30 0, π zb30 98, ι (p.i 39), π zb30 0, π zb30 0, π zb30 99, .agg #[ι 2, ι 4, ι 0], π zb30 0, π zb30 0, π zb30 102, .agg #[ι 1, ι 0, ι 0, ι 0, ι 0, ι 0, ι 0, ι 0, ι 0, ι 2, ι 4, ι 0], π zb30 0, π zb30 0, π zb30 56, π zb30 63, φ, .agg #[ι 4, ι (p.i 55), ι (-1), ι (p.i 39), ι 2, ι 4, ι 0, ι 1, ι 0, ι 0, ι 0, ι 0, ι 0, ι 0, ι 0, ι 0, ι 2, ι 4, ι 0, .slice none 0 0, φ, φ, φ, φ, φ, ι 0, ι 0, ι 0, ι 0, ι 0, φ], π zb539 0], by kernel_rfl, va_cons zh505 (va_cons zh506 (va_cons zh507 (va_cons zh508 (va_cons zh509 (va_cons zh510 (va_cons zh511 (va_cons zh512 (va_cons zh513 (va_cons zh514 (va_cons zh515 (va_cons zh516 (va_cons zh517 (va_cons zh518 (va_cons zh519 (va_cons zh520 (va_cons zh521 (va_cons zh522 (va_cons zh523 (va_cons zh524 (va_cons zh525 (va_cons zh526 (va_cons zh527 (va_cons zh528 (va_cons zh529 (va_cons zh530 (va_cons zh531 (va_cons zh532 (va_cons zh533 (va_cons zh534 (va_cons zh535 (va_cons zh536 (va_cons zh537 (va_cons zh538 (va_nil)))))))))))))))))))))))))))))))))), ?_⟩
   refine store_ zS542 0 (.agg #[ι 4, ι (p.i 55), ι (-1), ι (p.i 39), ι 2, ι 4, ι 0, ι 1, ι 0, ι 0, ι 0, ι 0, ι 0, ι 0, ι 0, ι 0, ι 2, ι 4, ι 0, .slice none 0 0, φ, φ, φ, φ, φ, ι 0, ι 0, ι 0, ι 0, ι 0, φ]) zb539 0 ?_
   intro zw543 zS544
   refine nil_ (then_n (seq_ (seq_ (reg_ (move_ (pure_ (π zb30 0) (pure_ (π zb30 64) (load1_ zS544 6 (π zb31 0) zb30 64 (call_ 39 #[π zb31 0] (enter_ Tryz.func39 rfl (seq_ (reg_ (pure_ (.slice none 0 0) (nsr_ (pure_ (.slice none 0 0) (nil_ (then_n (seq_ (seq_ (reg_ (move_ (call_ 78 #[π zb31 0] (enter_ Tryz.func78 rfl (seq_ (reg_ (pure_ (.slice none 0 0) (nsr_ (move_ (pure_ (π zb31 0) (pure_ (π zb31 0) (load1_ zS544 7 (.slice none 0 0) zb31 0 (call_ 112 #[.slice none 0 0] (enter_ Tryz.func112 rfl (seq_ (reg_ (pure_ (.slice none 0 0) (nil_ (then_n (seq_ (seq_ (reg_ (pure_ (.slice none 0 0) (pure_ (τ) (nil_ (then_n (cond_T (seq_ (reg_ (pure_ (.slice none 0 0) (nil_ (then_n (wp_ret (then_r (ret_ rfl (res_ [.tmp 2] [.slice none 0 0] (.slice none 0 0) ⟨res_tmp, trivial⟩) (pure_ (.slice none 0 0) (nsr_ ?_))))))))))))))))))))))))))))))))))))))))))))))))))))))))
   refine pure_ (.slice none 0 0) (pure_ (.iface 151 (.slice none 0 0)) (call_ 113 #[.iface 151 (.slice none 0 0)] (enter_ Tryz.func113 rfl (seq_ (reg_ (move_ (call_ 277 #[.slice none 0 0] (enter_ Tryz.func277 rfl (seq_ (reg_ (pure_ (ι 0) (nsr_ (pure_ (.slice none 0 0) (pure_ (ι 0) (pure_ (ι 0) (nil_ (then_n (wp_ret (ret_ rfl (res_ [.tmp 2] [ι 0] (ι 0) ⟨res_tmp, trivial⟩) (pure_ (ι 0) (nil_ (then_n (seq_ (seq_ (reg_ (pure_ (ι 0) (pure_ (τ) (nil_ (then_n (cond_T (wp_ret (then_r (ret_ rfl (res_ [] [] (.tuple #[]) trivial) (nsr_ (pure_ (.slice none 0 0) (pure_ (.slice none 0 0) (nil_ (then_n (wp_ret (ret_ rfl (res_ [.tmp 2] [.slice none 0 0] (.slice none 0 0) ⟨res_tmp, trivial⟩) (pure_ (ι 0) (pure_ (ι 0) (nil_ (then_n (wp_block (loop_ 24 (seq_ (reg_ (pure_ (φ) (nil_ (then_n (seq_ (cond_F ?_)))))))))))))))))))))))))))))))))))))))))))))))))))))
   refine wp_exit (then_e (then_e (blk_e (then_n (seq_ (reg_ (pure_ (.slice none 0 0) (pure_ (.slice none 0 0) (nil_ (then_n (wp_ret (ret_ rfl (res_ [.tmp 2] [.slice none 0 0] (.slice none 0 0) ⟨res_tmp, trivial⟩) (pure_ (ι 0) (pure_ (ι 0) (nil_ (then_n (wp_block (loop_ 24 (seq_ (reg_ (pure_ (φ) (nil_ (then_n (seq_ (cond_F (wp_exit (then_e (then_e (blk_e (then_n (seq_ (seq_ (reg_ (pure_ (ι 0) (nil_ (then_n (wp_block (loop_ 24 (seq_ (reg_ (pure_ (τ) (nil_ (then_n (seq_ (cond_T (wp_skip (then_n (seq_ (wp_block (seq_ (reg_ (pure_ (ι 0) (pure_ (ι 0) (nsr_ (pure_ (ι 0) (move_ (pure_ (π zb30 0) (pure_ (π zb30 95) (load1_ zS544 6 (π zb32 0) zb30 95 (pure_ (ι 0) (call_ 40 #[π zb32 0, ι 0] (enter_ Tryz.func40 rfl (seq_ (reg_ (pure_ (φ) (nil_ (then_n (seq_ (seq_ (reg_ (pure_ (ι 0) ?_)))))))))))))))))))))))))))))))))))))))))))))))))))))))))))))))))))))))
   refine nil_ (then_n (wp_block (seq_ (reg_ (pure_ (φ) (pure_ (φ) (nil_ (then_n (cond_F (seq_ (reg_ (pure_ (τ) (pure_ (τ) (nil_ (then_n (cond_T (seq_ (reg_ (move_ (pure_ (π zb32 0) (pure_ (π zb32 0) (pure_ (π zb32 0) (load1_ zS544 8 (φ) zb32 0 (pure_ (φ) (nil_ (then_n (wp_ret (blk_r (then_r (ret_ rfl (res_ [.tmp 4] [φ] (φ) ⟨res_tmp, trivial⟩) (pure_ (π zb539 20) (pure_ (π zb539 20) ?_))))))))))))))))))))))))))))))))
   refine store_ zS544 0 (φ) zb539 20 ?_
   intro zw545 zS546
   refine ns_ (pure_ (ι 0) (move_ (pure_ (π zb30 0) (pure_ (π zb30 95) (load1_ zS546 6 (π zb32 0) zb30 95 (pure_ (ι 0) (call_ 41 #[π zb32 0, ι 0] (enter_ Tryz.func41 rfl (seq_ (reg_ (pure_ (ι 0) (nsr_ (move_ (pure_ (ι 0) (call_ 79 #[π zb32 0, ι 0] (enter_ Tryz.func79 rfl (seq_ (reg_ (pure_ (.pointer none) (nil_ (then_n (seq_ (seq_ (reg_ (pure_ (ι 0) (pure_ (τ) (pure_ (τ) (skip_ (skip_ (pure_ (τ) (pure_ (τ) (skip_ (skip_ (skip_ (skip_ (skip_ (skip_ (skip_ (skip_ (skip_ (skip_ (pure_ (τ) (nil_ (then_n (cond_T (seq_ (reg_ (pure_ (.pointer none) (nil_ (then_n (wp_ret (then_r (ret_ rfl (res_ [.tmp 4] [.pointer none] (.pointer none) ⟨res_tmp, trivial⟩) (pure_ (.pointer none) (nil_ (then_n (seq_ (seq_ (reg_ (pure_ (.pointer none) (pure_ (τ) (nil_ (then_n (cond_T (seq_ (reg_ (pure_ (ι 0) ?_)))))))))))))))))))))))))))))))))))))))))))))))))))))))))))))))))))
   refine nil_ (then_n (wp_ret (then_r (ret_ rfl (res_ [.tmp 4] [ι 0] (ι 0) ⟨res_tmp, trivial⟩) (pure_ (π zb539 25) (pure_ (π zb539 25) ?_))))))
   refine store_ zS546 0 (ι 0) zb539 25 ?_
   intro zw547 zS548
   refine nil_ (blk_n (then_n (reg_ (pure_ (ι 1) (pure_ (ι 1) (nil_ (again_ (seq_ (reg_ (pure_ (τ) (nil_ (then_n (seq_ (cond_T (wp_skip (then_n (seq_ (wp_block (seq_ (reg_ (pure_ (ι 1) (pure_ (ι 1) (nsr_ (pure_ (ι 1) (move_ (pure_ (π zb30 0) (pure_ (π zb30 95) (load1_ zS548 6 (π zb32 0) zb30 95 (pure_ (ι 1) (call_ 40 #[π zb32 0, ι 1] (enter_ Tryz.func40 rfl (seq_ (reg_ (pure_ (φ) (nil_ (then_n (seq_ (seq_ (reg_ (pure_ (ι 1) (nil_ (then_n (wp_block (seq_ (reg_ (pure_ (φ) (pure_ (φ) (nil_ (then_n (cond_F (seq_ (reg_ (pure_ (φ) (pure_ (φ) (nil_ (then_n (cond_F (wp_skip (blk_n (then_n (seq_ (reg_ (move_ (pure_ (ι 1) (call_ 79 #[π zb32 0, ι 1] (enter_ Tryz.func79 rfl (seq_ (reg_ (pure_ (.pointer none) (nil_ (then_n (seq_ (seq_ (reg_ (pure_ (ι 1) (pure_ (φ) (pure_ (φ) (pure_ (ι 1) (pure_ (φ) ?_)))))))))))))))))))))))))))))))))))))))))))))))))))))))))))))))))))))))))))))))
   refine pure_ (φ) (pure_ (φ) (move_ (pure_ (ι 1) (pure_ (ι 0) (pure_ (π zb32 0) (pure_ (π zb32 3) (pure_ (π zb32 3) (pure_ (π zb32 3) (pure_ (π zb32 3) (load1_ zS548 8 (φ) zb32 3 (pure_ (τ) (pure_ (τ) (nil_ (then_n (cond_T (seq_ (reg_ (pure_ (.pointer none) (nil_ (then_n (wp_ret (then_r (ret_ rfl (res_ [.tmp 4] [.pointer none] (.pointer none) ⟨res_tmp, trivial⟩) (pure_ (φ) (pure_ (φ) (nil_ (then_n (wp_ret (ret_ rfl (res_ [.tmp 4] [φ] (φ) ⟨res_tmp, trivial⟩) (pure_ (π zb539 20) (pure_ (π zb539 21) ?_)))))))))))))))))))))))))))))))
   refine store_ zS548 0 (φ) zb539 21 ?_
   intro zw549 zS550
   refine ns_ (pure_ (ι 1) (move_ (pure_ (π zb30 0) (pure_ (π zb30 95) (load1_ zS550 6 (π zb32 0) zb30 95 (pure_ (ι 1) (call_ 41 #[π zb32 0, ι 1] (enter_ Tryz.func41 rfl (seq_ (reg_ (pure_ (ι 0) (nsr_ (move_ (pure_ (ι 1) (call_ 79 #[π zb32 0, ι 1] (enter_ Tryz.func79 rfl (seq_ (reg_ (pure_ (.pointer none) (nil_ (then_n (seq_ (seq_ (reg_ (pure_ (ι 1) (pure_ (φ) (pure_ (φ) (pure_ (ι 1) (pure_ (φ) (pure_ (φ) (pure_ (φ) (move_ (pure_ (ι 1) (pure_ (ι 0) (pure_ (π zb32 0) (pure_ (π zb32 3) (pure_ (π zb32 3) (pure_ (π zb32 3) (pure_ (π zb32 3) (load1_ zS550 8 (φ) zb32 3 (pure_ (τ) (pure_ (τ) (nil_ (then_n (cond_T (seq_ (reg_ (pure_ (.pointer none) (nil_ (then_n (wp_ret (then_r (ret_ rfl (res_ [.tmp 4] [.pointer none] (.pointer none) ⟨res_tmp, trivial⟩) (pure_ (.pointer none) (nil_ (then_n (seq_ (seq_ (reg_ ?_)))))))))))))))))))))))))))))))))))))))))))))))))))))))))))
   refine pure_ (.pointer none) (pure_ (τ) (nil_ (then_n (cond_T (seq_ (reg_ (pure_ (ι 0) (nil_ (then_n (wp_ret (then_r (ret_ rfl (res_ [.tmp 4] [ι 0] (ι 0) ⟨res_tmp, trivial⟩) (pure_ (π zb539 25) (pure_ (π zb539 26) ?_))))))))))))))
   refine store_ zS550 0 (ι 0) zb539 26 ?_
   intro zw551 zS552
   refine nil_ (blk_n (then_n (reg_ (pure_ (ι 2) (pure_ (ι 2) (nil_ (again_ (seq_ (reg_ (pure_ (τ) (nil_ (then_n (seq_ (cond_T (wp_skip (then_n (seq_ (wp_block (seq_ (reg_ (pure_ (ι 2) (pure_ (ι 2) (nsr_ (pure_ (ι 2) (move_ (pure_ (π zb30 0) (pure_ (π zb30 95) (load1_ zS552 6 (π zb32 0) zb30 95 (pure_ (ι 2) (call_ 40 #[π zb32 0, ι 2] (enter_ Tryz.func40 rfl (seq_ (reg_ (pure_ (φ) (nil_ (then_n (seq_ (seq_ (reg_ (pure_ (ι 2) (nil_ (then_n (wp_block (seq_ (reg_ (pure_ (φ) (pure_ (φ) (nil_ (then_n (cond_F (seq_ (reg_ (pure_ (φ) (pure_ (φ) (nil_ (then_n (cond_F (wp_skip (blk_n (then_n (seq_ (reg_ (move_ (pure_ (ι 2) (call_ 79 #[π zb32 0, ι 2] (enter_ Tryz.func79 rfl (seq_ (reg_ (pure_ (.pointer none) (nil_ (then_n (seq_ (seq_ (reg_ (pure_ (ι 2) (pure_ (φ) (pure_ (φ) (pure_ (ι 2) (pure_ (φ) ?_)))))))))))))))))))))))))))))))))))))))))))))))))))))))))))))))))))))))))))))))
   refine pure_ (φ) (pure_ (φ) (move_ (pure_ (ι 2) (pure_ (ι 1) (pure_ (π zb32 0) (pure_ (π zb32 3) (pure_ (π zb32 42) (pure_ (π zb32 42) (pure_ (π zb32 42) (load1_ zS552 8 (φ) zb32 42 (pure_ (τ) (pure_ (τ) (nil_ (then_n (cond_T (seq_ (reg_ (pure_ (.pointer none) (nil_ (then_n (wp_ret (then_r (ret_ rfl (res_ [.tmp 4] [.pointer none] (.pointer none) ⟨res_tmp, trivial⟩) (pure_ (φ) (pure_ (φ) (nil_ (then_n (wp_ret (ret_ rfl (res_ [.tmp 4] [φ] (φ) ⟨res_tmp, trivial⟩) (pure_ (π zb539 20) (pure_ (π zb539 22) ?_)))))))))))))))))))))))))))))))
   refine store_ zS552 0 (φ) zb539 22 ?_
   intro zw553 zS554
   refine ns_ (pure_ (ι 2) (move_ (pure_ (π zb30 0) (pure_ (π zb30 95) (load1_ zS554 6 (π zb32 0) zb30 95 (pure_ (ι 2) (call_ 41 #[π zb32 0, ι 2] (enter_ Tryz.func41 rfl (seq_ (reg_ (pure_ (ι 0) (nsr_ (move_ (pure_ (ι 2) (call_ 79 #[π zb32 0, ι 2] (enter_ Tryz.func79 rfl (seq_ (reg_ (pure_ (.pointer none) (nil_ (then_n (seq_ (seq_ (reg_ (pure_ (ι 2) (pure_ (φ) (pure_ (φ) (pure_ (ι 2) (pure_ (φ) (pure_ (φ) (pure_ (φ) (move_ (pure_ (ι 2) (pure_ (ι 1) (pure_ (π zb32 0) (pure_ (π zb32 3) (pure_ (π zb32 42) (pure_ (π zb32 42) (pure_ (π zb32 42) (load1_ zS554 8 (φ) zb32 42 (pure_ (τ) (pure_ (τ) (nil_ (then_n (cond_T (seq_ (reg_ (pure_ (.pointer none) (nil_ (then_n (wp_ret (then_r (ret_ rfl (res_ [.tmp 4] [.pointer none] (.pointer none) ⟨res_tmp, trivial⟩) (pure_ (.pointer none) (nil_ (then_n (seq_ (seq_ (reg_ ?_)))))))))))))))))))))))))))))))))))))))))))))))))))))))))))
   refine pure_ (.pointer none) (pure_ (τ) (nil_ (then_n (cond_T (seq_ (reg_ (pure_ (ι 0) (nil_ (then_n (wp_ret (then_r (ret_ rfl (res_ [.tmp 4] [ι 0] (ι 0) ⟨res_tmp, trivial⟩) (pure_ (π zb539 25) (pure_ (π zb539 27) ?_))))))))))))))
   refine store_ zS554 0 (ι 0) zb539 27 ?_
   intro zw555 zS556
   refine nil_ (blk_n (then_n (reg_ (pure_ (ι 3) (pure_ (ι 3) (nil_ (again_ (seq_ (reg_ (pure_ (τ) (nil_ (then_n (seq_ (cond_T (wp_skip (then_n (seq_ (wp_block (seq_ (reg_ (pure_ (ι 3) (pure_ (ι 3) (nsr_ (pure_ (ι 3) (move_ (pure_ (π zb30 0) (pure_ (π zb30 95) (load1_ zS556 6 (π zb32 0) zb30 95 (pure_ (ι 3) (call_ 40 #[π zb32 0, ι 3] (enter_ Tryz.func40 rfl (seq_ (reg_ (pure_ (φ) (nil_ (then_n (seq_ (seq_ (reg_ (pure_ (ι 3) (nil_ (then_n (wp_block (seq_ (reg_ (pure_ (φ) (pure_ (φ) (nil_ (then_n (cond_F (seq_ (reg_ (pure_ (φ) (pure_ (φ) (nil_ (then_n (cond_F (wp_skip (blk_n (then_n (seq_ (reg_ (move_ (pure_ (ι 3) (call_ 79 #[π zb32 0, ι 3] (enter_ Tryz.func79 rfl (seq_ (reg_ (pure_ (.pointer none) (nil_ (then_n (seq_ (seq_ (reg_ (pure_ (ι 3) (pure_ (φ) (pure_ (φ) (pure_ (ι 3) (pure_ (φ) ?_)))))))))))))))))))))))))))))))))))))))))))))))))))))))))))))))))))))))))))))))
   refine pure_ (φ) (pure_ (φ) (move_ (pure_ (ι 3) (pure_ (ι 2) (pure_ (π zb32 0) (pure_ (π zb32 3) (pure_ (π zb32 81) (pure_ (π zb32 81) (pure_ (π zb32 81) (load1_ zS556 8 (φ) zb32 81 (pure_ (τ) (pure_ (τ) (nil_ (then_n (cond_T (seq_ (reg_ (pure_ (.pointer none) (nil_ (then_n (wp_ret (then_r (ret_ rfl (res_ [.tmp 4] [.pointer none] (.pointer none) ⟨res_tmp, trivial⟩) (pure_ (φ) (pure_ (φ) (nil_ (then_n (wp_ret (ret_ rfl (res_ [.tmp 4] [φ] (φ) ⟨res_tmp, trivial⟩) (pure_ (π zb539 20) (pure_ (π zb539 23) ?_)))))))))))))))))))))))))))))))
   refine store_ zS556 0 (φ) zb539 23 ?_
   intro zw557 zS558
   refine ns_ (pure_ (ι 3) (move_ (pure_ (π zb30 0) (pure_ (π zb30 95) (load1_ zS558 6 (π zb32 0) zb30 95 (pure_ (ι 3) (call_ 41 #[π zb32 0, ι 3] (enter_ Tryz.func41 rfl (seq_ (reg_ (pure_ (ι 0) (nsr_ (move_ (pure_ (ι 3) (call_ 79 #[π zb32 0, ι 3] (enter_ Tryz.func79 rfl (seq_ (reg_ (pure_ (.pointer none) (nil_ (then_n (seq_ (seq_ (reg_ (pure_ (ι 3) (pure_ (φ) (pure_ (φ) (pure_ (ι 3) (pure_ (φ) (pure_ (φ) (pure_ (φ) (move_ (pure_ (ι 3) (pure_ (ι 2) (pure_ (π zb32 0) (pure_ (π zb32 3) (pure_ (π zb32 81) (pure_ (π zb32 81) (pure_ (π zb32 81) (load1_ zS558 8 (φ) zb32 81 (pure_ (τ) (pure_ (τ) (nil_ (then_n (cond_T (seq_ (reg_ (pure_ (.pointer none) (nil_ (then_n (wp_ret (then_r (ret_ rfl (res_ [.tmp 4] [.pointer none] (.pointer none) ⟨res_tmp, trivial⟩) (pure_ (.pointer none) (nil_ (then_n (seq_ (seq_ (reg_ ?_)))))))))))))))))))))))))))))))))))))))))))))))))))))))))))
   refine pure_ (.pointer none) (pure_ (τ) (nil_ (then_n (cond_T (seq_ (reg_ (pure_ (ι 0) (nil_ (then_n (wp_ret (then_r (ret_ rfl (res_ [.tmp 4] [ι 0] (ι 0) ⟨res_tmp, trivial⟩) (pure_ (π zb539 25) (pure_ (π zb539 28) ?_))))))))))))))
   refine store_ zS558 0 (ι 0) zb539 28 ?_
   intro zw559 zS560
   refine nil_ (blk_n (then_n (reg_ (pure_ (ι 4) (pure_ (ι 4) (nil_ (again_ (seq_ (reg_ (pure_ (τ) (nil_ (then_n (seq_ (cond_T (wp_skip (then_n (seq_ (wp_block (seq_ (reg_ (pure_ (ι 4) (pure_ (ι 4) (nsr_ (pure_ (ι 4) (move_ (pure_ (π zb30 0) (pure_ (π zb30 95) (load1_ zS560 6 (π zb32 0) zb30 95 (pure_ (ι 4) (call_ 40 #[π zb32 0, ι 4] (enter_ Tryz.func40 rfl (seq_ (reg_ (pure_ (φ) (nil_ (then_n (seq_ (seq_ (reg_ (pure_ (ι 4) (nil_ (then_n (wp_block (seq_ (reg_ (pure_ (τ) (pure_ (τ) (nil_ (then_n (cond_T (seq_ (reg_ (pure_ (τ) (nil_ (then_n (wp_ret (blk_r (then_r (ret_ rfl (res_ [.tmp 4] [τ] (τ) ⟨res_tmp, trivial⟩) (pure_ (π zb539 20) (pure_ (π zb539 24) ?_)))))))))))))))))))))))))))))))))))))))))))))))))))))))))))))
   refine store_ zS560 0 (τ) zb539 24 ?_
   intro zw561 zS562
   refine ns_ (pure_ (ι 4) (move_ (pure_ (π zb30 0) (pure_ (π zb30 95) (load1_ zS562 6 (π zb32 0) zb30 95 (pure_ (ι 4) (call_ 41 #[π zb32 0, ι 4] (enter_ Tryz.func41 rfl (seq_ (reg_ (pure_ (ι 0) (nsr_ (move_ (pure_ (ι 4) (call_ 79 #[π zb32 0, ι 4] (enter_ Tryz.func79 rfl (seq_ (reg_ (pure_ (.pointer none) (nil_ (then_n (seq_ (seq_ (reg_ (pure_ (ι 4) (pure_ (φ) (pure_ (φ) (pure_ (ι 4) (pure_ (τ) (pure_ (τ) (pure_ (τ) (skip_ (skip_ (skip_ (skip_ (skip_ (skip_ (skip_ (skip_ (skip_ (skip_ (pure_ (τ) (nil_ (then_n (cond_T (seq_ (reg_ (pure_ (.pointer none) (nil_ (then_n (wp_ret (then_r (ret_ rfl (res_ [.tmp 4] [.pointer none] (.pointer none) ⟨res_tmp, trivial⟩) (pure_ (.pointer none) (nil_ (then_n (seq_ (seq_ (reg_ (pure_ (.pointer none) (pure_ (τ) (nil_ (then_n (cond_T (seq_ (reg_ (pure_ (ι 0) ?_)))))))))))))))))))))))))))))))))))))))))))))))))))))))))))))))))))
   refine nil_ (then_n (wp_ret (then_r (ret_ rfl (res_ [.tmp 4] [ι 0] (ι 0) ⟨res_tmp, trivial⟩) (pure_ (π zb539 25) (pure_ (π zb539 29) ?_))))))
   refine store_ zS562 0 (ι 0) zb539 29 ?_
   intro zw563 zS564
   refine nil_ (blk_n (then_n (reg_ (pure_ (ι 5) (pure_ (ι 5) (nil_ (again_ (seq_ (reg_ (pure_ (φ) (nil_ (then_n (seq_ (cond_F (wp_exit (then_e (then_e (blk_e (then_n (seq_ (reg_ (loadN_ zS564 0 31 #[ι 4, ι (p.i 55), ι (-1), ι (p.i 39), ι 2, ι 4, ι 0, ι 1, ι 0, ι 0, ι 0, ι 0, ι 0, ι 0, ι 0, ι 0, ι 2, ι 4, ι 0, .slice none 0 0, φ, φ, φ, φ, τ, ι 0, ι 0, ι 0, ι 0, ι 0, φ] zb539 0 ?_))))))))))))))))))))))
   refine store_ zS564 1 (.agg #[ι 4, ι (p.i 55), ι (-1), ι (p.i 39), ι 2, ι 4, ι 0, ι 1, ι 0, ι 0, ι 0, ι 0, ι 0, ι 0, ι 0, ι 0, ι 2, ι 4, ι 0, .slice none 0 0, φ, φ, φ, φ, τ, ι 0, ι 0, ι 0, ι 0, ι 0, φ]) zb218 0 ?_
   intro zw565 zS566
   refine nil_ (then_n (wp_ret (ret_ rfl (res_ [.cell 2 45] [.agg #[ι 4, ι (p.i 55), ι (-1), ι (p.i 39), ι 2, ι 4, ι 0, ι 1, ι 0, ι 0, ι 0, ι 0, ι 0, ι 0, ι 0, ι 0, ι 2, ι 4, ι 0, .slice none 0 0, φ, φ, φ, φ, τ, ι 0, ι 0, ι 0, ι 0, ι 0, φ]] (.agg #[ι 4, ι (p.i 55), ι (-1), ι (p.i 39), ι 2, ι 4, ι 0, ι 1, ι 0, ι 0, ι 0, ι 0, ι 0, ι 0, ι 0, ι 0, ι 2, ι 4, ι 0, .slice none 0 0, φ, φ, φ, φ, τ, ι 0, ι 0, ι 0, ι 0, ι 0, φ]) ⟨res_cellN zS566 1 31 zb218 0, trivial⟩) (move_ (call_ 14 #[π zb215 0] (enter_ Tryz.func14 rfl (seq_ (reg_ ?_))))))))
   refine new_ zS566 (fun b => π b 0) (.cells #[ι 0, ι 0, ι 0, ι 0, ι 0, ι 0, ι 0, ι 0, ι 0, ι 0, ι 0, ι 0, ι 0, ι 0, ι 0, ι 0, ι 0, ι 0, ι 0, .slice none 0 0, φ, φ, φ, φ, φ, ι 0, ι 0, ι 0, ι 0, ι 0, φ] 45) ?_
   intro zb567 zw568 zS569
   refine nil_ (then_n (seq_ ?_))
   refine drawnL_ 34 [⟨0, fun _ => π zb215 0, fun _ => []⟩, ⟨0, fun _ => π zb215 0, fun _ => []⟩, ⟨0, fun _ => π zb215 56, fun _ => []⟩, ⟨0, fun _ => π zb215 56, fun _ => []⟩, ⟨0, fun _ => ι 4, fun _ => []⟩, ⟨0, fun _ => π zb215 0, fun _ => []⟩, ⟨0, fun _ => π zb215 0, fun _ => []⟩, ⟨0, fun _ => π zb215 56, fun _ => []⟩, ⟨0, fun _ => π zb215 57, fun _ => []⟩, ⟨0, fun _ => ι (p.i 55), fun _ => []⟩, ⟨0, fun _ => π zb215 0, fun _ => []⟩, ⟨0, fun _ => π zb215 0, fun _ => []⟩, ⟨0, fun _ => π zb215 56, fun _ => []⟩, ⟨0, fun _ => π zb215 58, fun _ => []⟩, ⟨0, fun _ => ι (-1), fun _ => []⟩, ⟨0, fun _ => π zb215 0, fun _ => []⟩, ⟨0, fun _ => π zb215 0, fun _ => []⟩, ⟨0, fun _ => π zb215 108, fun _ => []⟩, ⟨0, fun _ => ι (p.i 39), fun _ => []⟩, ⟨0, fun _ => π zb215 0, fun _ => []⟩, ⟨0, fun _ => π zb215 0, fun _ => []⟩, ⟨0, fun _ => π zb215 109, fun _ => []⟩, ⟨0, fun _ => .agg #[ι 2, ι 4, ι 0], fun _ => []⟩, ⟨0, fun _ => π zb215 0, fun _ => []⟩, ⟨0, fun _ => π zb215 0, fun _ => []⟩, ⟨0, fun _ => π zb215 112, fun _ => []⟩, ⟨0, fun _ => .agg #[ι 1, ι 0, ι 0, ι 0, ι 0, ι 0, ι 0, ι 0, ι 0, ι 2, ι 4, ι 0], fun _ => []⟩, ⟨0, fun _ => π zb215 0, fun _ => []⟩, ⟨0, fun _ => π zb215 0, fun _ => []⟩, ⟨0, fun _ => π zb215 56, fun _ => []⟩, ⟨0, fun _ => π zb215 63, fun _ => []⟩, ⟨0, fun _ => φ, fun _ => []⟩, ⟨0, fun _ => .agg #[ι 4, ι (p.i 55), ι (-1), ι (p.i 39), ι 2, ι 4, ι 0, ι 1, ι 0, ι 0, ι 0, ι 0, ι 0, ι 0, ι 0, ι 0, ι 2, ι 4, ι 0, .slice none 0 0, φ, φ, φ, φ, φ, ι 0, ι 0, ι 0, ι 0, ι 0, φ], fun _ => []⟩, ⟨1, fun ids => π (ids.getD 0 0) 0, fun ids => [((ids.getD 0 0), .cells #[ι 0, ι 0, ι 0, ι 0, ι 0, ι 0, ι 0, ι 0, ι 0, ι 0, ι 0, ι 0, ι 0, ι 0, ι 0, ι 0, ι 0, ι 0, ι 0, .slice none 0 0, φ, φ, φ, φ, φ, ι 0, ι 0, ι 0, ι 0, ι 0, φ] 45 (0, 0))]⟩] [[34, 0], [34, 1], [34, 2], [34, 3], [34, 4], [34, 5], [34, 6], [34, 7], [34, 8], [34, 9], [34, 10], [34, 11], [34, 12], [34, 13], [34, 14], [34, 15], [34, 16], [34, 17], [34, 18], [34, 19], [34, 20], [34, 21], [34, 22], [34, 23], [34, 24], [34, 25], [34, 26], [34, 27], [34, 28], [34, 29], [34, 30], [34, 31], [34, 32], [34, 33]] ?_ ?_
   · refine step_cons ?_ ?_
     · intro zy570 zw571 zhc572 zhf573 zhp574
       have zh575 : zy570 0 = π zb215 0 := (zhf573 0 (by kernel_rfl)).trans (by kernel_rfl)
       have zS576 := zS569.quiet zhc572
       refine step1 ?_
       refine yenv [(0, π zb215 0)] (ag_cons zh575 (ag_nil)) ?_
       have zS577 := zS576.loc
       refine Y.move_ ?_
       exact ⟨zS577.ch, Sp.mk_holds [] (all_nil)⟩
     refine step_cons ?_ ?_
     · intro zy578 zw579 zhc580 zhf581 zhp582
       have zh583 : zy578 6 = π zb215 0 := (Sp.out0 (zhp582 0 6 (by kernel_rfl) (by kernel_rfl))).1
       have zS584 := zS569.quiet zhc580
       refine step1 ?_
       refine yenv [(6, π zb215 0)] (ag_cons zh583 (ag_nil)) ?_
       have zS585 := zS584.loc
       refine Y.pure_ (π zb215 0) ?_
       exact ⟨zS585.ch, Sp.mk_holds [] (all_nil)⟩
     refine step_cons ?_ ?_
     · intro zy586 zw587 zhc588 zhf589 zhp590
       have zh591 : zy586 7 = π zb215 0 := (Sp.out0 (zhp590 1 7 (by kernel_rfl) (by kernel_rfl))).1
       have zS592 := zS569.quiet zhc588
       refine step1 ?_
       refine yenv [(7, π zb215 0)] (ag_cons zh591 (ag_nil)) ?_
       have zS593 := zS592.loc
       refine Y.pure_ (π zb215 56) ?_
       exact ⟨zS593.ch, Sp.mk_holds [] (all_nil)⟩
     refine step_cons ?_ ?_
     · intro zy594 zw595 zhc596 zhf597 zhp598
       have zh599 : zy594 8 = π zb215 56 := (Sp.out0 (zhp598 2 8 (by kernel_rfl) (by kernel_rfl))).1
       have zS600 := zS569.quiet zhc596
       refine step1 ?_
       refine yenv [(8, π zb215 56)] (ag_cons zh599 (ag_nil)) ?_
       have zS601 := zS600.loc
       refine Y.pure_ (π zb215 56) ?_
       exact ⟨zS601.ch, Sp.mk_holds [] (all_nil)⟩
     refine step_cons ?_ ?_
     · intro zy602 zw603 zhc604 zhf605 zhp606
       have zh607 : zy602 9 = π zb215 56 := (Sp.out0 (zhp606 3 9 (by kernel_rfl) (by kernel_rfl))).1
       have zS608 := zS569.quiet zhc604
       refine step1 ?_
       refine yenv [(9, π zb215 56)] (ag_cons zh607 (ag_nil)) ?_
       have zS609 := zS608.loc
       refine Y.load1_ zS609 3 (ι 4) zb215 56 ?_
       exact ⟨zS609.ch, Sp.mk_holds [] (all_nil)⟩
     refine step_cons ?_ ?_
     · intro zy610 zw611 zhc612 zhf613 zhp614
       have zh615 : zy610 0 = π zb215 0 := (zhf613 0 (by kernel_rfl)).trans (by kernel_rfl)
       have zS616 := zS569.quiet zhc612
       refine step1 ?_
       refine yenv [(0, π zb215 0)] (ag_cons zh615 (ag_nil)) ?_
       have zS617 := zS616.loc
       refine Y.move_ ?_
       exact ⟨zS617.ch, Sp.mk_holds [] (all_nil)⟩
     refine step_cons ?_ ?_
     · intro zy618 zw619 zhc620 zhf621 zhp622
       have zh623 : zy618 11 = π zb215 0 := (Sp.out0 (zhp622 5 11 (by kernel_rfl) (by kernel_rfl))).1
       have zS624 := zS569.quiet zhc620
       refine step1 ?_
       refine yenv [(11, π zb215 0)] (ag_cons zh623 (ag_nil)) ?_
       have zS625 := zS624.loc
       refine Y.pure_ (π zb215 0) ?_
       exact ⟨zS625.ch, Sp.mk_holds [] (all_nil)⟩
     refine step_cons ?_ ?_
     · intro zy626 zw627 zhc628 zhf629 zhp630
       have zh631 : zy626 12 = π zb215 0 := (Sp.out0 (zhp630 6 12 (by kernel_rfl) (by kernel_rfl))).1
       have zS632 := zS569.quiet zhc628
       refine step1 ?_
       refine yenv [(12, π zb215 0)] (ag_cons zh631 (ag_nil)) ?_
       have zS633 := zS632.loc
       refine Y.pure_ (π zb215 56) ?_
       exact ⟨zS633.ch, Sp.mk_holds [] (all_nil)⟩
     refine step_cons ?_ ?_
     · intro zy634 zw635 zhc636 zhf637 zhp638
       have zh639 : zy634 13 = π zb215 56 := (Sp.out0 (zhp638 7 13 (by kernel_rfl) (by kernel_rfl))).1
       have zS640 := zS569.quiet zhc636
       refine step1 ?_
       refine yenv [(13, π zb215 56)] (ag_cons zh639 (ag_nil)) ?_
       have zS641 := zS640.loc
       refine Y.pure_ (π zb215 57) ?_
       exact ⟨zS641.ch, Sp.mk_holds [] (all_nil)⟩
     refine step_cons ?_ ?_
     · intro zy642 zw643 zhc644 zhf645 zhp646
       have zh647 : zy642 14 = π zb215 57 := (Sp.out0 (zhp646 8 14 (by kernel_rfl) (by kernel_rfl))).1
       have zS648 := zS569.quiet zhc644
       refine step1 ?_
       refine yenv [(14, π zb215 57)] (ag_cons zh647 (ag_nil)) ?_
       have zS649 := zS648.loc
       refine Y.load1_ zS649 3 (ι (p.i 55)) zb215 57 ?_
       exact ⟨zS649.ch, Sp.mk_holds [] (all_nil)⟩
     refine step_cons ?_ ?_
     · intro zy650 zw651 zhc652 zhf653 zhp654
       have zh655 : zy650 0 = π zb215 0 := (zhf653 0 (by kernel_rfl)).trans (by kernel_rfl)
       have zS656 := zS569.quiet zhc652
       refine step1 ?_
       refine yenv [(0, π zb215 0)] (ag_cons zh655 (ag_nil)) ?_
       have zS657 := zS656.loc
       refine Y.move_ ?_
       exact ⟨zS657.ch, Sp.mk_holds [] (all_nil)⟩
     refine step_cons ?_ ?_
     · intro zy658 zw659 zhc660 zhf661 zhp662
       have zh663 : zy658 16 = π zb215 0 := (Sp.out0 (zhp662 10 16 (by kernel_rfl) (by kernel_rfl))).1
       have zS664 := zS569.quiet zhc660
       refine step1 ?_
       refine yenv [(16, π zb215 0)] (ag_cons zh663 (ag_nil)) ?_
       have zS665 := zS664.loc
       refine Y.pure_ (π zb215 0) ?_
       exact ⟨zS665.ch, Sp.mk_holds [] (all_nil)⟩
     refine step_cons ?_ ?_
     · intro zy666 zw667 zhc668 zhf669 zhp670
       have zh671 : zy666 17 = π zb215 0 := (Sp.out0 (zhp670 11 17 (by kernel_rfl) (by kernel_rfl))).1
       have zS672 := zS569.quiet zhc668
       refine step1 ?_
       refine yenv [(17, π zb215 0)] (ag_cons zh671 (ag_nil)) ?_
       have zS673 := zS672.loc
       refine Y.pure_ (π zb215 56) ?_
       exact ⟨zS673.ch, Sp.mk_holds [] (all_nil)⟩
     refine step_cons ?_ ?_
     · intro zy674 zw675 zhc676 zhf677 zhp678
       have zh679 : zy674 18 = π zb215 56 := (Sp.out0 (zhp678 12 18 (by kernel_rfl) (by kernel_rfl))).1
       have zS680 := zS569.quiet zhc676
       refine step1 ?_
       refine yenv [(18, π zb215 56)] (ag_cons zh679 (ag_nil)) ?_
       have zS681 := zS680.loc
       refine Y.pure_ (π zb215 58) ?_
       exact ⟨zS681.ch, Sp.mk_holds [] (all_nil)⟩
     refine step_cons ?_ ?_
     · intro zy682 zw683 zhc684 zhf685 zhp686
       have zh687 : zy682 19 = π zb215 58 := (Sp.out0 (zhp686 13 19 (by kernel_rfl) (by kernel_rfl))).1
       have zS688 := zS569.quiet zhc684
       refine step1 ?_
       refine yenv [(19, π zb215 58)] (ag_cons zh687 (ag_nil)) ?_
       have zS689 := zS688.loc
       refine Y.load1_ zS689 3 (ι (-1)) zb215 58 ?_
       exact ⟨zS689.ch, Sp.mk_holds [] (all_nil)⟩
     refine step_cons ?_ ?_
     · intro zy690 zw691 zhc692 zhf693 zhp694
       have zh695 : zy690 0 = π zb215 0 := (zhf693 0 (by kernel_rfl)).trans (by kernel_rfl)
       have zS696 := zS569.quiet zhc692
       refine step1 ?_
       refine yenv [(0, π zb215 0)] (ag_cons zh695 (ag_nil)) ?_
       have zS697 := zS696.loc
       refine Y.move_ ?_
       exact ⟨zS697.ch, Sp.mk_holds [] (all_nil)⟩
     refine step_cons ?_ ?_
     · intro zy698 zw699 zhc700 zhf701 zhp702
       have zh703 : zy698 21 = π zb215 0 := (Sp.out0 (zhp702 15 21 (by kernel_rfl) (by kernel_rfl))).1
       have zS704 := zS569.quiet zhc700
       refine step1 ?_
       refine yenv [(21, π zb215 0)] (ag_cons zh703 (ag_nil)) ?_
       have zS705 := zS704.loc
       refine Y.pure_ (π zb215 0) ?_
       exact ⟨zS705.ch, Sp.mk_holds [] (all_nil)⟩
     refine step_cons ?_ ?_
     · intro zy706 zw707 zhc708 zhf709 zhp710
       have zh711 : zy706 22 = π zb215 0 := (Sp.out0 (zhp710 16 22 (by kernel_rfl) (by kernel_rfl))).1
       have zS712 := zS569.quiet zhc708
       refine step1 ?_
       refine yenv [(22, π zb215 0)] (ag_cons zh711 (ag_nil)) ?_
       have zS713 := zS712.loc
       refine Y.pure_ (π zb215 108) ?_
       exact ⟨zS713.ch, Sp.mk_holds [] (all_nil)⟩
     refine step_cons ?_ ?_
     · intro zy714 zw715 zhc716 zhf717 zhp718
       have zh719 : zy714 23 = π zb215 108 := (Sp.out0 (zhp718 17 23 (by kernel_rfl) (by kernel_rfl))).1
       have zS720 := zS569.quiet zhc716
       refine step1 ?_
       refine yenv [(23, π zb215 108)] (ag_cons zh719 (ag_nil)) ?_
       have zS721 := zS720.loc
       refine Y.load1_ zS721 3 (ι (p.i 39)) zb215 108 ?_
       exact ⟨zS721.ch, Sp.mk_holds [] (all_nil)⟩
     refine step_cons ?_ ?_
     · intro zy722 zw723 zhc724 zhf725 zhp726
       have zh727 : zy722 0 = π zb215 0 := (zhf725 0 (by kernel_rfl)).trans (by kernel_rfl)
       have zS728 := zS569.quiet zhc724
       refine step1 ?_
       refine yenv [(0, π zb215 0)] (ag_cons zh727 (ag_nil)) ?_
       have zS729 := zS728.loc
       refine Y.move_ ?_
       exact ⟨zS729.ch, Sp.mk_holds [] (all_nil)⟩
     refine step_cons ?_ ?_
     · intro zy730 zw731 zhc732 zhf733 zhp734
       have zh735 : zy730 25 = π zb215 0 := (Sp.out0 (zhp734 19 25 (by kernel_rfl) (by kernel_rfl))).1
       have zS736 := zS569.quiet zhc732
       refine step1 ?_
       refine yenv [(25, π zb215 0)] (ag_cons zh735 (ag_nil)) ?_
       have zS737 := zS736.loc
       refine Y.pure_ (π zb215 0) ?_
       exact ⟨zS737.ch, Sp.mk_holds [] (all_nil)⟩
     refine step_cons ?_ ?_
     · intro zy738 zw739 zhc740 zhf741 zhp742
       have zh743 : zy738 26 = π zb215 0 := (Sp.out0 (zhp742 20 26 (by kernel_rfl) (by kernel_rfl))).1
       have zS744 := zS569.quiet zhc740
       refine step1 ?_
       refine yenv [(26, π zb215 0)] (ag_cons zh743 (ag_nil)) ?_
       have zS745 := zS744.loc
       refine Y.pure_ (π zb215 109) ?_
       exact ⟨zS745.ch, Sp.mk_holds [] (all_nil)⟩
     refine step_cons ?_ ?_
     · intro zy746 zw747 zhc748 zhf749 zhp750
       have zh751 : zy746 27 = π zb215 109 := (Sp.out0 (zhp750 21 27 (by kernel_rfl) (by kernel_rfl))).1
       have zS752 := zS569.quiet zhc748
       refine step1 ?_
       refine yenv [(27, π zb215 109)] (ag_cons zh751 (ag_nil)) ?_
       have zS753 := zS752.loc
       refine Y.loadN_ zS753 3 3 #[ι 2, ι 4, ι 0] zb215 109 ?_
       exact ⟨zS753.ch, Sp.mk_holds [] (all_nil)⟩
     refine step_cons ?_ ?_
     · intro zy754 zw755 zhc756 zhf757 zhp758
       have zh759 : zy754 0 = π zb215 0 := (zhf757 0 (by kernel_rfl)).trans (by kernel_rfl)
       have zS760 := zS569.quiet zhc756
       refine step1 ?_
       refine yenv [(0, π zb215 0)] (ag_cons zh759 (ag_nil)) ?_
       have zS761 := zS760.loc
       refine Y.move_ ?_
       exact ⟨zS761.ch, Sp.mk_holds [] (all_nil)⟩
     refine step_cons ?_ ?_
     · intro zy762 zw763 zhc764 zhf765 zhp766
       have zh767 : zy762 29 = π zb215 0 := (Sp.out0 (zhp766 23 29 (by kernel_rfl) (by kernel_rfl))).1
       have zS768 := zS569.quiet zhc764
       refine step1 ?_
       refine yenv [(29, π zb215 0)] (ag_cons zh767 (ag_nil)) ?_
       have zS769 := zS768.loc
       refine Y.pure_ (π zb215 0) ?_
       exact ⟨zS769.ch, Sp.mk_holds [] (all_nil)⟩
     refine step_cons ?_ ?_
     · intro zy770 zw771 zhc772 zhf773 zhp774
       have zh775 : zy770 30 = π zb215 0 := (Sp.out0 (zhp774 24 30 (by kernel_rfl) (by kernel_rfl))).1
       have zS776 := zS569.quiet zhc772
       refine step1 ?_
       refine yenv [(30, π zb215 0)] (ag_cons zh775 (ag_nil)) ?_
       have zS777 := zS776.loc
       refine Y.pure_ (π zb215 112) ?_
       exact ⟨zS777.ch, Sp.mk_holds [] (all_nil)⟩
     refine step_cons ?_ ?_
     · intro zy778 zw779 zhc780 zhf781 zhp782
       have zh783 : zy778 31 = π zb215 112 := (Sp.out0 (zhp782 25 31 (by kernel_rfl) (by kernel_rfl))).1
       have zS784 := zS569.quiet zhc780
       refine step1 ?_
       refine yenv [(31, π zb215 112)] (ag_cons zh783 (ag_nil)) ?_
       have zS785 := zS784.loc
       refine Y.loadN_ zS785 3 12 #[ι 1, ι 0, ι 0, ι 0, ι 0, ι 0, ι 0, ι 0, ι 0, ι 2, ι 4, ι 0] zb215 112 ?_
       exact ⟨zS785.ch, Sp.mk_holds [] (all_nil)⟩
     refine step_cons ?_ ?_
     · intro zy786 zw787 zhc788 zhf789 zhp790
       have zh791 : zy786 0 = π zb215 0 := (zhf789 0 (by kernel_rfl)).trans (by kernel_rfl)
       have zS792 := zS569.quiet zhc788
       refine step1 ?_
       refine yenv [(0, π zb215 0)] (ag_cons zh791 (ag_nil)) ?_
       have zS793 := zS792.loc
       refine Y.move_ ?_
       exact ⟨zS793.ch, Sp.mk_holds [] (all_nil)⟩
     refine step_cons ?_ ?_
     · intro zy794 zw795 zhc796 zhf797 zhp798
       have zh799 : zy794 33 = π zb215 0 := (Sp.out0 (zhp798 27 33 (by kernel_rfl) (by kernel_rfl))).1
       have zS800 := zS569.quiet zhc796
       refine step1 ?_
       refine yenv [(33, π zb215 0)] (ag_cons zh799 (ag_nil)) ?_
       have zS801 := zS800.loc
       refine Y.pure_ (π zb215 0) ?_
       exact ⟨zS801.ch, Sp.mk_holds [] (all_nil)⟩
     refine step_cons ?_ ?_
     · intro zy802 zw803 zhc804 zhf805 zhp806
       have zh807 : zy802 34 = π zb215 0 := (Sp.out0 (zhp806 28 34 (by kernel_rfl) (by kernel_rfl))).1
       have zS808 := zS569.quiet zhc804
       refine step1 ?_
       refine yenv [(34, π zb215 0)] (ag_cons zh807 (ag_nil)) ?_
       have zS809 := zS808.loc
       refine Y.pure_ (π zb215 56) ?_
       exact ⟨zS809.ch, Sp.mk_holds [] (all_nil)⟩
     refine step_cons ?_ ?_
     · intro zy810 zw811 zhc812 zhf813 zhp814
       have zh815 : zy810 35 = π zb215 56 := (Sp.out0 (zhp814 29 35 (by kernel_rfl) (by kernel_rfl))).1
       have zS816 := zS569.quiet zhc812
       refine step1 ?_
       refine yenv [(35, π zb215 56)] (ag_cons zh815 (ag_nil)) ?_
       have zS817 := zS816.loc
       refine Y.pure_ (π zb215 63) ?_
       exact ⟨zS817.ch, Sp.mk_holds [] (all_nil)⟩
     refine step_cons ?_ ?_
     · intro zy818 zw819 zhc820 zhf821 zhp822
       have zh823 : zy818 36 = π zb215 63 := (Sp.out0 (zhp822 30 36 (by kernel_rfl) (by kernel_rfl))).1
       have zS824 := zS569.quiet zhc820
       refine step1 ?_
       refine yenv [(36, π zb215 63)] (ag_cons zh823 (ag_nil)) ?_
       have zS825 := zS824.loc
       refine Y.load1_ zS825 3 (φ) zb215 63 ?_
       exact ⟨zS825.ch, Sp.mk_holds [] (all_nil)⟩
     refine step_cons ?_ ?_
     · intro zy826 zw827 zhc828 zhf829 zhp830
       have zh831 : zy826 10 = ι 4 := (Sp.out0 (zhp830 4 10 (by kernel_rfl) (by kernel_rfl))).1
       have zh832 : zy826 15 = ι (p.i 55) := (Sp.out0 (zhp830 9 15 (by kernel_rfl) (by kernel_rfl))).1
       have zh833 : zy826 20 = ι (-1) := (Sp.out0 (zhp830 14 20 (by kernel_rfl) (by kernel_rfl))).1
       have zh834 : zy826 24 = ι (p.i 39) := (Sp.out0 (zhp830 18 24 (by kernel_rfl) (by kernel_rfl))).1
       have zh835 : zy826 28 = .agg #[ι 2, ι 4, ι 0] := (Sp.out0 (zhp830 22 28 (by kernel_rfl) (by kernel_rfl))).1
       have zh836 : zy826 32 = .agg #[ι 1, ι 0, ι 0, ι 0, ι 0, ι 0, ι 0, ι 0, ι 0, ι 2, ι 4, ι 0] := (Sp.out0 (zhp830 26 32 (by kernel_rfl) (by kernel_rfl))).1
       have zh837 : zy826 37 = φ := (Sp.out0 (zhp830 31 37 (by kernel_rfl) (by kernel_rfl))).1
       have zS838 := zS569.quiet zhc828
       refine step1 ?_
       refine yenv [(10, ι 4), (15, ι (p.i 55)), (20, ι (-1)), (24, ι (p.i 39)), (28, .agg #[ι 2, ι 4, ι 0]), (32, .agg #[ι 1, ι 0, ι 0, ι 0, ι 0, ι 0, ι 0, ι 0, ι 0, ι 2, ι 4, ι 0]), (37, φ)] (ag_cons zh831 (ag_cons zh832 (ag_cons zh833 (ag_cons zh834 (ag_cons zh835 (ag_cons zh836 (ag_cons zh837 (ag_nil)))))))) ?_
       have zS839 := zS838.loc
       refine Y.pure_ (.agg #[ι 4, ι (p.i 55), ι (-1), ι (p.i 39), ι 2, ι 4, ι 0, ι 1, ι 0, ι 0, ι 0, ι 0, ι 0, ι 0, ι 0, ι 0, ι 2, ι 4, ι 0, .slice none 0 0, φ, φ, φ, φ, φ, ι 0, ι 0, ι 0, ι 0, ι 0, φ]) ?_
       exact ⟨zS839.ch, Sp.mk_holds [] (all_nil)⟩
     refine step_cons ?_ ?_
     · intro zy840 zw841 zhc842 zhf843 zhp844
       have zS845 := zS569.quiet zhc842
       refine step1 ?_
       refine yenv [] (ag_nil) ?_
       have zS846 := zS845.loc
       refine Y.new_ zS846 (fun b => π b 0) (.cells #[ι 0, ι 0, ι 0, ι 0, ι 0, ι 0, ι 0, ι 0, ι 0, ι 0, ι 0, ι 0, ι 0, ι 0, ι 0, ι 0, ι 0, ι 0, ι 0, .slice none 0 0, φ, φ, φ, φ, φ, ι 0, ι 0, ι 0, ι 0, ι 0, φ] 45) ?_
       intro zb847 zw848 zS849
       exact ⟨zS849.ch, Sp.mk_holds [zb847] (all_cons (zS849.isNew zhc842.size 0 (by kernel_rfl)) (all_nil))⟩
     exact step_nil
   intro zv850 zw851 zhc852 zha853
   have zh854 : zv850 0 = π zb215 0 := (Sp.out0 (zha853 0 (by kernel_rfl))).1
   have zh855 : zv850 1 = π zb215 0 := (Sp.out0 (zha853 1 (by kernel_rfl))).1
   have zh856 : zv850 2 = π zb215 56 := (Sp.out0 (zha853 2 (by kernel_rfl))).1
   have zh857 : zv850 3 = π zb215 56 := (Sp.out0 (zha853 3 (by kernel_rfl))).1
   have zh858 : zv850 4 = ι 4 := (Sp.out0 (zha853 4 (by kernel_rfl))).1
   have zh859 : zv850 5 = π zb215 0 := (Sp.out0 (zha853 5 (by kernel_rfl))).1
   have zh860 : zv850 6 = π zb215 0 := (Sp.out0 (zha853 6 (by kernel_rfl))).1
   have zh861 : zv850 7 = π zb215 56 := (Sp.out0 (zha853 7 (by kernel_rfl))).1
   have zh862 : zv850 8 = π zb215 57 := (Sp.out0 (zha853 8 (by kernel_rfl))).1
   have zh863 : zv850 9 = ι (p.i 55) := (Sp.out0 (zha853 9 (by kernel_rfl))).1
   have zh864 : zv850 10 = π zb215 0 := (Sp.out0 (zha853 10 (by kernel_rfl))).1
   have zh865 : zv850 11 = π zb215 0 := (Sp.out0 (zha853 11 (by kernel_rfl))).1
   have zh866 : zv850 12 = π zb215 56 := (Sp.out0 (zha853 12 (by kernel_rfl))).1
   have zh867 : zv850 13 = π zb215 58 := (Sp.out0 (zha853 13 (by kernel_rfl))).1
   have zh868 : zv850 14 = ι (-1) := (Sp.out0 (zha853 14 (by kernel_rfl))).1
   have zh869 : zv850 15 = π zb215 0 := (Sp.out0 (zha853 15 (by kernel_rfl))).1
   have zh870 : zv850 16 = π zb215 0 := (Sp.out0 (zha853 16 (by kernel_rfl))).1
   have zh871 : zv850 17 = π zb215 108 := (Sp.out0 (zha853 17 (by kernel_rfl))).1
   have zh872 : zv850 18 = ι (p.i 39) := (Sp.out0 (zha853 18 (by kernel_rfl))).1
   have zh873 : zv850 19 = π zb215 0 := (Sp.out0 (zha853 19 (by kernel_rfl))).1
   have zh874 : zv850 20 = π zb215 0 := (Sp.out0 (zha853 20 (by kernel_rfl))).1
   have zh875 : zv850 21 = π zb215 109 := (Sp.out0 (zha853 21 (by kernel_rfl))).1
   have zh876 : zv850 22 = .agg #[ι 2, ι 4, ι 0] := (Sp.out0 (zha853 22 (by kernel_rfl))).1
   have zh877 : zv850 23 = π zb215 0 := (Sp.out0 (zha853 23 (by kernel_rfl))).1
   have zh878 : zv850 24 = π zb215 0 := (Sp.out0 (zha853 24 (by kernel_rfl))).1
   have zh879 : zv850 25 = π zb215 112 := (Sp.out0 (zha853 25 (by kernel_rfl))).1
   have zh880 : zv850 26 = .agg #[ι 1, ι 0, ι 0, ι 0, ι 0, ι 0, ι 0, ι 0, ι 0, ι 2, ι 4, ι 0] := (Sp.out0 (zha853 26 (by kernel_rfl))).1
   have zh881 : zv850 27 = π zb215 0 := (Sp.out0 (zha853 27 (by kernel_rfl))).1
   have zh882 : zv850 28 = π zb215 0 := (Sp.out0 (zha853 28 (by kernel_rfl))).1
   have zh883 : zv850 29 = π zb215 56 := (Sp.out0 (zha853 29 (by kernel_rfl))).1
   have zh884 : zv850 30 = π zb215 63 := (Sp.out0 (zha853 30 (by kernel_rfl))).1
   have zh885 : zv850 31 = φ := (Sp.out0 (zha853 31 (by kernel_rfl))).1
   have zh886 : zv850 32 = .agg #[ι 4, ι (p.i 55), ι (-1), ι (p.i 39), ι 2, ι 4, ι 0, ι 1, ι 0, ι 0, ι 0, ι 0, ι 0, ι 0, ι 0, ι 0, ι 2, ι 4, ι 0, .slice none 0 0, φ, φ, φ, φ, φ, ι 0, ι 0, ι 0, ι 0, ι 0, φ] := (Sp.out0 (zha853 32 (by kernel_rfl))).1
   have zo890 := Sp.out1 (zha853 33 (by kernel_rfl))
   obtain ⟨zb888, zh887', zg889'⟩ := zo890
   have zh887 : zv850 33 = π zb888 0 := zh887'
   have zg889 : ∀ zp ∈ ([(zb888, .cells #[ι 0, ι 0, ι 0, ι 0, ι 0, ι 0, ι 0, ι 0, ι 0, ι 0, ι 0, ι 0, ι 0, ι 0, ι 0, ι 0, ι 0, ι 0, ι 0, .slice none 0 0, φ, φ, φ, φ, φ, ι 0, ι 0, ι 0, ι 0, ι 0, φ] 45 (0, 0))] : List (Nat × Obj)), zw568.heap.size ≤ zp.1 ∧ zw851.heap[zp.1]? = some zp.2 := zg889'
   have zS891 := zS569.new zhc852 (zg889 _ (List.Mem.head _)).1 (zg889 _ (List.Mem.head _)).2
   refine ⟨[π zb215 0, π zb215 0, π zb215 56, π zb215 56, ι 4, π zb215 0, π zb215 0, π zb215 56, π zb215 57, ι (p.i 55), π zb215 0, π zb215 0, π zb215 56, π zb215 58, ι (-1), π zb215 0, π zb215 0, π zb215 108, ι (p.i 39), π zb215 0, π zb215 0, π zb215 109, .agg #[ι 2, ι 4, ι 0], π zb215 0, π zb215 0, π zb215 112, .agg #[ι 1, ι 0, ι 0, ι 0, ι 0, ι 0, ι 0, ι 0, ι 0, ι 2, ι 4, ι 0], π zb215 0, π zb215 0, π zb215 56, π zb215 63, φ, .agg #[ι 4, ι (p.i 55), ι (-1), ι (p.i 39), ι 2, ι 4, ι 0, ι 1, ι 0, ι 0, ι 0, ι 0, ι 0, ι 0, ι 0, ι 0, ι 2, ι 4, ι 0, .slice none 0 0, φ, φ, φ, φ, φ, ι 0, ι 0, ι 0, ι 0, ι 0, φ], π zb888 0], by kernel_rfl, va_cons zh854 (va_cons zh855 (va_cons zh856 (va_cons zh857 (va_cons zh858 (va_cons zh859 (va_cons zh860 (va_cons zh861 (va_cons zh862 (va_cons zh863 (va_cons zh864 (va_cons zh865 (va_cons zh866 (va_cons zh867 (va_cons zh868 (va_cons zh869 (va_cons zh870 (va_cons zh871 (va_cons zh872 (va_cons zh873 (va_cons zh874 (va_cons zh875 (va_cons zh876 (va_cons zh877 (va_cons zh878 (va_cons zh879 (va_cons zh880 (va_cons zh881 (va_cons zh882 (va_cons zh883 (va_cons zh884 (va_cons zh885 (va_cons zh886 (va_cons zh887 (va_nil)))))))))))))))))))))))))))))))))), ?_⟩
   refine store_ zS891 0 (.agg #[ι 4, ι (p.i 55), ι (-1), ι (p.i 39), ι 2, ι 4, ι 0, ι 1, ι 0, ι 0, ι 0, ι 0, ι 0, ι 0, ι 0, ι 0, ι 2, ι 4, ι 0, .slice none 0 0, φ, φ, φ, φ, φ, ι 0, ι 0, ι 0, ι 0, ι 0, φ]) zb888 0 ?_
   intro zw892 zS893
   refine nil_ (then_n (seq_ (seq_ (reg_ (pure_ (ι 0) (nil_ (then_n (wp_block (loop_ 24 (seq_ (seq_ (reg_ (pure_ (ι 0) (move_ (pure_ (π zb215 0) (pure_ (π zb215 64) (load1_ zS893 4 (π zb200 0) zb215 64 (pure_ (π zb200 0) (pure_ (π zb200 1) (load1_ zS893 5 (.slice none 0 0) zb200 1 (pure_ (ι 0) (pure_ (φ) (nil_ (then_n (cond_F (wp_exit (then_e (then_e (blk_e (then_n (seq_ (seq_ (reg_ (pure_ (ι 0) (nil_ (then_n (wp_block (loop_ 24 (seq_ (seq_ (reg_ (pure_ (ι 0) (pure_ (τ) (nil_ (then_n (cond_T (wp_skip (then_n (seq_ (wp_block (seq_ (reg_ (pure_ (ι 0) (move_ (pure_ (π zb215 0) (pure_ (π zb215 105) (load1_ zS893 4 (π zb206 0) zb215 105 (pure_ (ι 0) (call_ 42 #[π zb206 0, ι 0] (enter_ Tryz.func42 rfl (seq_ (reg_ (pure_ (φ) (nil_ (then_n (seq_ (seq_ (reg_ (pure_ (ι 0) (pure_ (φ) (pure_ (φ) (pure_ (ι 0) ?_))))))))))))))))))))))))))))))))))))))))))))))))))))))))))))))))))))))))
   refine pure_ (φ) (pure_ (φ) (nil_ (then_n (cond_F (wp_skip (then_n (seq_ (reg_ (pure_ (ι 0) (pure_ (φ) (pure_ (φ) (move_ (pure_ (ι 0) (pure_ (π zb206 0) (pure_ (π zb206 56) (pure_ (π zb206 56) (pure_ (π zb206 56) (load1_ zS893 6 (φ) zb206 56 (pure_ (φ) (pure_ (φ) (nil_ (then_n (wp_ret (ret_ rfl (res_ [.tmp 4] [φ] (φ) ⟨res_tmp, trivial⟩) (pure_ (π zb888 20) (pure_ (π zb888 20) ?_))))))))))))))))))))))))))
   refine store_ zS893 0 (φ) zb888 20 ?_
   intro zw894 zS895
   refine ns_ (pure_ (ι 0) (move_ (pure_ (π zb215 0) (pure_ (π zb215 105) (load1_ zS895 4 (π zb206 0) zb215 105 (pure_ (ι 0) (call_ 43 #[π zb206 0, ι 0] (enter_ Tryz.func43 rfl (seq_ (reg_ (pure_ (ι 0) (nil_ (then_n (seq_ (seq_ (reg_ (pure_ (ι 0) (call_ 80 #[ι 0] (enter_ Tryz.func80 rfl (seq_ (reg_ (pure_ (φ) (nsr_ (pure_ (ι 0) (pure_ (φ) (pure_ (φ) (skip_ (skip_ (pure_ (φ) (pure_ (φ) (nil_ (then_n (wp_ret (ret_ rfl (res_ [.tmp 2] [φ] (φ) ⟨res_tmp, trivial⟩) (pure_ (τ) (pure_ (τ) (skip_ (skip_ (skip_ (skip_ (skip_ (skip_ (skip_ (skip_ (pure_ (τ) (nil_ (then_n (cond_T (seq_ (reg_ (pure_ (ι 0) (nil_ (then_n (wp_ret (then_r (ret_ rfl (res_ [.tmp 4] [ι 0] (ι 0) ⟨res_tmp, trivial⟩) (pure_ (π zb888 25) (pure_ (π zb888 25) ?_))))))))))))))))))))))))))))))))))))))))))))))))))))))))))
   refine store_ zS895 0 (ι 0) zb888 25 ?_
   intro zw896 zS897
   refine nil_ (blk_n (then_n (reg_ (pure_ (ι 0) (pure_ (ι 1) (pure_ (ι 1) (nil_ (again_ (seq_ (seq_ (reg_ (pure_ (ι 1) (pure_ (τ) (nil_ (then_n (cond_T (wp_skip (then_n (seq_ (wp_block (seq_ (reg_ (pure_ (ι 1) (move_ (pure_ (π zb215 0) (pure_ (π zb215 105) (load1_ zS897 4 (π zb206 0) zb215 105 (pure_ (ι 1) (call_ 42 #[π zb206 0, ι 1] (enter_ Tryz.func42 rfl (seq_ (reg_ (pure_ (φ) (nil_ (then_n (seq_ (seq_ (reg_ (pure_ (ι 1) (pure_ (φ) (pure_ (φ) (pure_ (ι 1) (pure_ (φ) (pure_ (φ) (nil_ (then_n (cond_F (wp_skip (then_n (seq_ (reg_ (pure_ (ι 1) (pure_ (φ) (pure_ (φ) (move_ (pure_ (ι 1) (pure_ (π zb206 0) (pure_ (π zb206 56) (pure_ (π zb206 95) (pure_ (π zb206 95) (load1_ zS897 6 (φ) zb206 95 (pure_ (φ) (pure_ (φ) (nil_ (then_n (wp_ret (ret_ rfl (res_ [.tmp 4] [φ] (φ) ⟨res_tmp, trivial⟩) (pure_ (π zb888 20) ?_))))))))))))))))))))))))))))))))))))))))))))))))))))))))))))))))))))
   refine pure_ (π zb888 21) ?_
   refine store_ zS897 0 (φ) zb888 21 ?_
   intro zw898 zS899
   refine ns_ (pure_ (ι 1) (move_ (pure_ (π zb215 0) (pure_ (π zb215 105) (load1_ zS899 4 (π zb206 0) zb215 105 (pure_ (ι 1) (call_ 43 #[π zb206 0, ι 1] (enter_ Tryz.func43 rfl (seq_ (reg_ (pure_ (ι 0) (nil_ (then_n (seq_ (seq_ (reg_ (pure_ (ι 1) (call_ 80 #[ι 1] (enter_ Tryz.func80 rfl (seq_ (reg_ (pure_ (φ) (nsr_ (pure_ (ι 1) (pure_ (τ) (pure_ (τ) (pure_ (ι 1) (pure_ (τ) (pure_ (τ) (pure_ (τ) (nil_ (then_n (wp_ret (ret_ rfl (res_ [.tmp 2] [τ] (τ) ⟨res_tmp, trivial⟩) (pure_ (φ) (pure_ (φ) (move_ (pure_ (ι 1) (pure_ (π zb206 0) (pure_ (π zb206 56) (pure_ (π zb206 95) (pure_ (π zb206 95) (load1_ zS899 6 (φ) zb206 95 (pure_ (τ) (pure_ (τ) (nil_ (then_n (cond_T (seq_ (reg_ (pure_ (ι 0) (nil_ (then_n (wp_ret (then_r (ret_ rfl (res_ [.tmp 4] [ι 0] (ι 0) ⟨res_tmp, trivial⟩) (pure_ (π zb888 25) (pure_ (π zb888 26) ?_))))))))))))))))))))))))))))))))))))))))))))))))))))))))))
   refine store_ zS899 0 (ι 0) zb888 26 ?_
   intro zw900 zS901
   refine nil_ (blk_n (then_n (reg_ (pure_ (ι 1) (pure_ (ι 2) (pure_ (ι 2) (nil_ (again_ (seq_ (seq_ (reg_ (pure_ (ι 2) (pure_ (τ) (nil_ (then_n (cond_T (wp_skip (then_n (seq_ (wp_block (seq_ (reg_ (pure_ (ι 2) (move_ (pure_ (π zb215 0) (pure_ (π zb215 105) (load1_ zS901 4 (π zb206 0) zb215 105 (pure_ (ι 2) (call_ 42 #[π zb206 0, ι 2] (enter_ Tryz.func42 rfl (seq_ (reg_ (pure_ (φ) (nil_ (then_n (seq_ (seq_ (reg_ (pure_ (ι 2) (pure_ (φ) (pure_ (φ) (pure_ (ι 2) (pure_ (φ) (pure_ (φ) (nil_ (then_n (cond_F (wp_skip (then_n (seq_ (reg_ (pure_ (ι 2) (pure_ (φ) (pure_ (φ) (move_ (pure_ (ι 2) (pure_ (π zb206 0) (pure_ (π zb206 56) (pure_ (π zb206 134) (pure_ (π zb206 134) (load1_ zS901 6 (φ) zb206 134 (pure_ (φ) (pure_ (φ) (nil_ (then_n (wp_ret (ret_ rfl (res_ [.tmp 4] [φ] (φ) ⟨res_tmp, trivial⟩) ?_)))))))))))))))))))))))))))))))))))))))))))))))))))))))))))))))))))
   refine pure_ (π zb888 20) (pure_ (π zb888 22) ?_)
   refine store_ zS901 0 (φ) zb888 22 ?_
   intro zw902 zS903
   refine ns_ (pure_ (ι 2) (move_ (pure_ (π zb215 0) (pure_ (π zb215 105) (load1_ zS903 4 (π zb206 0) zb215 105 (pure_ (ι 2) (call_ 43 #[π zb206 0, ι 2] (enter_ Tryz.func43 rfl (seq_ (reg_ (pure_ (ι 0) (nil_ (then_n (seq_ (seq_ (reg_ (pure_ (ι 2) (call_ 80 #[ι 2] (enter_ Tryz.func80 rfl (seq_ (reg_ (pure_ (φ) (nsr_ (pure_ (ι 2) (pure_ (τ) (pure_ (τ) (pure_ (ι 2) (pure_ (τ) (pure_ (τ) (pure_ (τ) (nil_ (then_n (wp_ret (ret_ rfl (res_ [.tmp 2] [τ] (τ) ⟨res_tmp, trivial⟩) (pure_ (φ) (pure_ (φ) (move_ (pure_ (ι 2) (pure_ (π zb206 0) (pure_ (π zb206 56) (pure_ (π zb206 134) (pure_ (π zb206 134) (load1_ zS903 6 (φ) zb206 134 (pure_ (τ) (pure_ (τ) (nil_ (then_n (cond_T (seq_ (reg_ (pure_ (ι 0) (nil_ (then_n (wp_ret (then_r (ret_ rfl (res_ [.tmp 4] [ι 0] (ι 0) ⟨res_tmp, trivial⟩) (pure_ (π zb888 25) (pure_ (π zb888 27) ?_))))))))))))))))))))))))))))))))))))))))))))))))))))))))))
   refine store_ zS903 0 (ι 0) zb888 27 ?_
   intro zw904 zS905
   refine nil_ (blk_n (then_n (reg_ (pure_ (ι 2) (pure_ (ι 3) (pure_ (ι 3) (nil_ (again_ (seq_ (seq_ (reg_ (pure_ (ι 3) (pure_ (τ) (nil_ (then_n (cond_T (wp_skip (then_n (seq_ (wp_block (seq_ (reg_ (pure_ (ι 3) (move_ (pure_ (π zb215 0) (pure_ (π zb215 105) (load1_ zS905 4 (π zb206 0) zb215 105 (pure_ (ι 3) (call_ 42 #[π zb206 0, ι 3] (enter_ Tryz.func42 rfl (seq_ (reg_ (pure_ (φ) (nil_ (then_n (seq_ (seq_ (reg_ (pure_ (ι 3) (pure_ (φ) (pure_ (φ) (pure_ (ι 3) (pure_ (φ) (pure_ (φ) (nil_ (then_n (cond_F (wp_skip (then_n (seq_ (reg_ (pure_ (ι 3) (pure_ (φ) (pure_ (φ) (move_ (pure_ (ι 3) (pure_ (π zb206 0) (pure_ (π zb206 56) (pure_ (π zb206 173) (pure_ (π zb206 173) (load1_ zS905 6 (φ) zb206 173 (pure_ (φ) (pure_ (φ) (nil_ (then_n (wp_ret (ret_ rfl (res_ [.tmp 4] [φ] (φ) ⟨res_tmp, trivial⟩) ?_)))))))))))))))))))))))))))))))))))))))))))))))))))))))))))))))))))
   refine pure_ (π zb888 20) (pure_ (π zb888 23) ?_)
   refine store_ zS905 0 (φ) zb888 23 ?_
   intro zw906 zS907
   refine ns_ (pure_ (ι 3) (move_ (pure_ (π zb215 0) (pure_ (π zb215 105) (load1_ zS907 4 (π zb206 0) zb215 105 (pure_ (ι 3) (call_ 43 #[π zb206 0, ι 3] (enter_ Tryz.func43 rfl (seq_ (reg_ (pure_ (ι 0) (nil_ (then_n (seq_ (seq_ (reg_ (pure_ (ι 3) (call_ 80 #[ι 3] (enter_ Tryz.func80 rfl (seq_ (reg_ (pure_ (φ) (nsr_ (pure_ (ι 3) (pure_ (τ) (pure_ (τ) (pure_ (ι 3) (pure_ (τ) (pure_ (τ) (pure_ (τ) (nil_ (then_n (wp_ret (ret_ rfl (res_ [.tmp 2] [τ] (τ) ⟨res_tmp, trivial⟩) (pure_ (φ) (pure_ (φ) (move_ (pure_ (ι 3) (pure_ (π zb206 0) (pure_ (π zb206 56) (pure_ (π zb206 173) (pure_ (π zb206 173) (load1_ zS907 6 (φ) zb206 173 (pure_ (τ) (pure_ (τ) (nil_ (then_n (cond_T (seq_ (reg_ (pure_ (ι 0) (nil_ (then_n (wp_ret (then_r (ret_ rfl (res_ [.tmp 4] [ι 0] (ι 0) ⟨res_tmp, trivial⟩) (pure_ (π zb888 25) (pure_ (π zb888 28) ?_))))))))))))))))))))))))))))))))))))))))))))))))))))))))))
   refine store_ zS907 0 (ι 0) zb888 28 ?_
   intro zw908 zS909
   refine nil_ (blk_n (then_n (reg_ (pure_ (ι 3) (pure_ (ι 4) (pure_ (ι 4) (nil_ (again_ (seq_ (seq_ (reg_ (pure_ (ι 4) (pure_ (τ) (nil_ (then_n (cond_T (wp_skip (then_n (seq_ (wp_block (seq_ (reg_ (pure_ (ι 4) (move_ (pure_ (π zb215 0) (pure_ (π zb215 105) (load1_ zS909 4 (π zb206 0) zb215 105 (pure_ (ι 4) (call_ 42 #[π zb206 0, ι 4] (enter_ Tryz.func42 rfl (seq_ (reg_ (pure_ (φ) (nil_ (then_n (seq_ (seq_ (reg_ (pure_ (ι 4) (pure_ (φ) (pure_ (φ) (pure_ (ι 4) (pure_ (φ) (pure_ (φ) (nil_ (then_n (cond_F (wp_skip (then_n (seq_ (reg_ (pure_ (ι 4) (pure_ (τ) (pure_ (τ) (skip_ (skip_ (skip_ (skip_ (skip_ (skip_ (skip_ (pure_ (τ) (pure_ (τ) (nil_ (then_n (wp_ret (ret_ rfl (res_ [.tmp 4] [τ] (τ) ⟨res_tmp, trivial⟩) (pure_ (π zb888 20) (pure_ (π zb888 24) ?_)))))))))))))))))))))))))))))))))))))))))))))))))))))))))))))))))))))
   refine store_ zS909 0 (τ) zb888 24 ?_
   intro zw910 zS911
   refine ns_ (pure_ (ι 4) (move_ (pure_ (π zb215 0) (pure_ (π zb215 105) (load1_ zS911 4 (π zb206 0) zb215 105 (pure_ (ι 4) (call_ 43 #[π zb206 0, ι 4] (enter_ Tryz.func43 rfl (seq_ (reg_ (pure_ (ι 0) (nil_ (then_n (seq_ (seq_ (reg_ (pure_ (ι 4) (call_ 80 #[ι 4] (enter_ Tryz.func80 rfl (seq_ (reg_ (pure_ (φ) (nsr_ (pure_ (ι 4) (pure_ (τ) (pure_ (τ) (pure_ (ι 4) (pure_ (φ) (pure_ (φ) (pure_ (φ) (nil_ (then_n (wp_ret (ret_ rfl (res_ [.tmp 2] [φ] (φ) ⟨res_tmp, trivial⟩) (pure_ (τ) (pure_ (τ) (skip_ (skip_ (skip_ (skip_ (skip_ (skip_ (skip_ (skip_ (pure_ (τ) (nil_ (then_n (cond_T (seq_ (reg_ (pure_ (ι 0) (nil_ (then_n (wp_ret (then_r (ret_ rfl (res_ [.tmp 4] [ι 0] (ι 0) ⟨res_tmp, trivial⟩) (pure_ (π zb888 25) (pure_ (π zb888 29) ?_))))))))))))))))))))))))))))))))))))))))))))))))))))))))))
   refine store_ zS911 0 (ι 0) zb888 29 ?_
   intro zw912 zS913
   refine nil_ (blk_n (then_n (reg_ (pure_ (ι 4) (pure_ (ι 5) (pure_ (ι 5) (nil_ (again_ (seq_ (seq_ (reg_ (pure_ (ι 5) (pure_ (φ) (nil_ (then_n (cond_F (wp_exit (then_e (then_e (blk_e (then_n (seq_ (reg_ (loadN_ zS913 0 31 #[ι 4, ι (p.i 55), ι (-1), ι (p.i 39), ι 2, ι 4, ι 0, ι 1, ι 0, ι 0, ι 0, ι 0, ι 0, ι 0, ι 0, ι 0, ι 2, ι 4, ι 0, .slice none 0 0, φ, φ, φ, φ, τ, ι 0, ι 0, ι 0, ι 0, ι 0, φ] zb888 0 ?_))))))))))))))))))))))))
   refine store_ zS913 1 (.agg #[ι 4, ι (p.i 55), ι (-1), ι (p.i 39), ι 2, ι 4, ι 0, ι 1, ι 0, ι 0, ι 0, ι 0, ι 0, ι 0, ι 0, ι 0, ι 2, ι 4, ι 0, .slice none 0 0, φ, φ, φ, φ, τ, ι 0, ι 0, ι 0, ι 0, ι 0, φ]) zb567 0 ?_
   intro zw914 zS915
   refine nil_ (then_n (wp_ret (ret_ rfl (res_ [.cell 2 45] [.agg #[ι 4, ι (p.i 55), ι (-1), ι (p.i 39), ι 2, ι 4, ι 0, ι 1, ι 0, ι 0, ι 0, ι 0, ι 0, ι 0, ι 0, ι 0, ι 2, ι 4, ι 0, .slice none 0 0, φ, φ, φ, φ, τ, ι 0, ι 0, ι 0, ι 0, ι 0, φ]] (.agg #[ι 4, ι (p.i 55), ι (-1), ι (p.i 39), ι 2, ι 4, ι 0, ι 1, ι 0, ι 0, ι 0, ι 0, ι 0, ι 0, ι 0, ι 0, ι 2, ι 4, ι 0, .slice none 0 0, φ, φ, φ, φ, τ, ι 0, ι 0, ι 0, ι 0, ι 0, φ]) ⟨res_cellN zS915 1 31 zb567 0, trivial⟩) (call_ 12 #[.agg #[ι 4, ι (p.i 55), ι (-1), ι (p.i 39), ι 2, ι 4, ι 0, ι 1, ι 0, ι 0, ι 0, ι 0, ι 0, ι 0, ι 0, ι 0, ι 2, ι 4, ι 0, .slice none 0 0, φ, φ, φ, φ, τ, ι 0, ι 0, ι 0, ι 0, ι 0, φ], .agg #[ι 4, ι (p.i 55), ι (-1), ι (p.i 39), ι 2, ι 4, ι 0, ι 1, ι 0, ι 0, ι 0, ι 0, ι 0, ι 0, ι 0, ι 0, ι 2, ι 4, ι 0, .slice none 0 0, φ, φ, φ, φ, τ, ι 0, ι 0, ι 0, ι 0, ι 0, φ]] (enter_ Tryz.func12 rfl (seq_ (reg_ ?_)))))))
   refine new_ zS915 (fun b => π b 0) (.cells #[ι 4, ι (p.i 55), ι (-1), ι (p.i 39), ι 2, ι 4, ι 0, ι 1, ι 0, ι 0, ι 0, ι 0, ι 0, ι 0, ι 0, ι 0, ι 2, ι 4, ι 0, .slice none 0 0, φ, φ, φ, φ, τ, ι 0, ι 0, ι 0, ι 0, ι 0, φ] 45) ?_
   intro zb916 zw917 zS918
   refine new_ zS918 (fun b => π b 0) (.cells #[ι 4, ι (p.i 55), ι (-1), ι (p.i 39), ι 2, ι 4, ι 0, ι 1, ι 0, ι 0, ι 0, ι 0, ι 0, ι 0, ι 0, ι 0, ι 2, ι 4, ι 0, .slice none 0 0, φ, φ, φ, φ, τ, ι 0, ι 0, ι 0, ι 0, ι 0, φ] 45) ?_
   intro zb919 zw920 zS921
   refine pure_ (φ) (nsr_ (pure_ (π zb916 19) (load1_ zS921 1 (.slice none 0 0) zb916 19 (pure_ (π zb919 19) (load1_ zS921 0 (.slice none 0 0) zb919 19 (call_ 37 #[.slice none 0 0, .slice none 0 0] (enter_ Tryz.func37 rfl (seq_ (reg_ (pure_ (φ) (nil_ (then_n (seq_ (seq_ (reg_ (pure_ (.slice none 0 0) (pure_ (ι 0) (pure_ (.slice none 0 0) (pure_ (ι 0) (pure_ (φ) (nil_ (then_n (cond_F (wp_skip (then_n (seq_ (seq_ (reg_ (pure_ (ι 0) (nil_ (then_n (wp_block (loop_ 24 (seq_ (seq_ (reg_ (pure_ (ι 0) (pure_ (.slice none 0 0) (pure_ (ι 0) (pure_ (φ) (nil_ (then_n (cond_F (wp_exit (then_e (then_e (blk_e (then_n (seq_ (reg_ (pure_ (τ) (nil_ (then_n (wp_ret (ret_ rfl (res_ [.tmp 4] [τ] (τ) ⟨res_tmp, trivial⟩) (pure_ (τ) (nsr_ (pure_ (τ) (pure_ (τ) (pure_ (π zb916 0) (load1_ zS921 1 (ι 4) zb916 0 (pure_ (π zb919 0) ?_))))))))))))))))))))))))))))))))))))))))))))))))))))))))))))))
   refine load1_ zS921 0 (ι 4) zb919 0 (pure_ (τ) (pure_ (τ) (pure_ (τ) (pure_ (π zb916 1) (load1_ zS921 1 (ι (p.i 55)) zb916 1 (pure_ (π zb919 1) (load1_ zS921 0 (ι (p.i 55)) zb919 1 (pureE_ (.bool ((p.i 55) == (p.i 55))) (τ) (congrArg Value.bool (eqT (by omega))) (pure_ (τ) (pure_ (τ) (pure_ (π zb916 2) (load1_ zS921 1 (ι (-1)) zb916 2 (pure_ (π zb919 2) (load1_ zS921 0 (ι (-1)) zb919 2 (pure_ (τ) (pure_ (τ) (pure_ (τ) (pure_ (π zb916 3) (load1_ zS921 1 (ι (p.i 39)) zb916 3 (pure_ (π zb919 3) (load1_ zS921 0 (ι (p.i 39)) zb919 3 (pureE_ (.bool ((p.i 39) == (p.i 39))) (τ) (congrArg Value.bool (eqT (by omega))) (pure_ (τ) (pure_ (τ) (pure_ (π zb916 4) (loadN_ zS921 1 3 #[ι 2, ι 4, ι 0] zb916 4 (pure_ (π zb919 4) (loadN_ zS921 0 3 #[ι 2, ι 4, ι 0] zb919 4 (eqAgg_ false true #[ι 2, ι 4, ι 0] #[ι 2, ι 4, ι 0] (pure_ (τ) (pure_ (τ) ?_)))))))))))))))))))))))))))))))
   refine pure_ (π zb916 7) (loadN_ zS921 1 12 #[ι 1, ι 0, ι 0, ι 0, ι 0, ι 0, ι 0, ι 0, ι 0, ι 2, ι 4, ι 0] zb916 7 (pure_ (π zb919 7) (loadN_ zS921 0 12 #[ι 1, ι 0, ι 0, ι 0, ι 0, ι 0, ι 0, ι 0, ι 0, ι 2, ι 4, ι 0] zb919 7 (eqAgg_ false true #[ι 1, ι 0, ι 0, ι 0, ι 0, ι 0, ι 0, ι 0, ι 0, ι 2, ι 4, ι 0] #[ι 1, ι 0, ι 0, ι 0, ι 0, ι 0, ι 0, ι 0, ι 0, ι 2, ι 4, ι 0] (pure_ (τ) (pure_ (τ) (pure_ (π zb916 20) (loadN_ zS921 1 5 #[φ, φ, φ, φ, τ] zb916 20 (pure_ (π zb919 20) (loadN_ zS921 0 5 #[φ, φ, φ, φ, τ] zb919 20 (eqAgg_ false true #[φ, φ, φ, φ, τ] #[φ, φ, φ, φ, τ] (pure_ (τ) (pure_ (τ) (pure_ (π zb916 25) (loadN_ zS921 1 5 #[ι 0, ι 0, ι 0, ι 0, ι 0] zb916 25 (pure_ (π zb919 25) (loadN_ zS921 0 5 #[ι 0, ι 0, ι 0, ι 0, ι 0] zb919 25 (eqAgg_ false true #[ι 0, ι 0, ι 0, ι 0, ι 0] #[ι 0, ι 0, ι 0, ι 0, ι 0] (pure_ (τ) (pure_ (τ) (pure_ (π zb916 30) ?_)))))))))))))))))))))
   refine load1_ zS921 1 (φ) zb916 30 (pure_ (π zb919 30) (load1_ zS921 0 (φ) zb919 30 (pure_ (τ) (pure_ (τ) (pure_ (τ) (nil_ (then_n (wp_ret (ret_ rfl (res_ [.tmp 4] [τ] (τ) ⟨res_tmp, trivial⟩) (pure_ (τ) (nsr_ (move_ (call_ 16 #[π zb30 0] (enter_ Tryz.func16 rfl (seq_ (reg_ ?_))))))))))))))))
   refine new_ zS921 (fun b => π b 0) (.cells #[ι 0, ι 0, ι 0, ι 0, ι 0, ι 0, ι 0, ι 0, ι 0, ι 0, ι 0, ι 0, .slice none 0 0, .slice none 0 0, υ 0, υ 0, υ 0, υ 0, υ 0, υ 0, υ 0, υ 0, υ 0, υ 0, υ 0, υ 0, υ 0, υ 0, υ 0, υ 0, υ 0, υ 0, υ 0, υ 0, υ 0, υ 0, υ 0, υ 0, υ 0, υ 0, υ 0, υ 0, υ 0, υ 0, υ 0, υ 0] 54) ?_
   intro zb922 zw923 zS924
   refine nsr_ (move_ (pure_ (.agg #[π zb30 0, .slice none 0 0, .slice none 0 0]) ?_))
   refine new_ zS924 (fun b => π b 0) (.cells #[.pointer none, .slice none 0 0, .slice none 0 0] 127) ?_
   intro zb925 zw926 zS927
   refine store_ zS927 0 (.agg #[π zb30 0, .slice none 0 0, .slice none 0 0]) zb925 0 ?_
   intro zw928 zS929
   refine nsr_ (call_ 46 #[π zb925 0] (enter_ Tryz.func46 rfl (seq_ (reg_ ?_))))
   refine new_ zS929 (fun b => π b 0) (.cells #[ι 0, ι 0, ι 0, ι 0, ι 0, ι 0, ι 0, ι 0, ι 0, ι 0, ι 0, ι 0, .slice none 0 0, .slice none 0 0, υ 0, υ 0, υ 0, υ 0, υ 0, υ 0, υ 0, υ 0, υ 0, υ 0, υ 0, υ 0, υ 0, υ 0, υ 0, υ 0, υ 0, υ 0, υ 0, υ 0, υ 0, υ 0, υ 0, υ 0, υ 0, υ 0, υ 0, υ 0, υ 0, υ 0, υ 0, υ 0] 54) ?_
   intro zb930 zw931 zS932
   refine nil_ (then_n (seq_ ?_))
   refine quietL_ 54 [π zb925 0, π zb925 0, π zb925 0, π zb30 0, π zb30 0, π zb30 98, ι (p.i 39), π zb925 0, π zb925 0, π zb925 0, π zb30 0, π zb30 0, π zb30 102, π zb30 102, ι 1, π zb925 0, π zb925 0, π zb925 0, π zb30 0, π zb30 0, π zb30 102, π zb30 107, .agg #[ι 0, ι 0, ι 0, ι 0], π zb925 0, π zb925 0, π zb925 0, π zb30 0, π zb30 0, π zb30 99, .agg #[ι 2, ι 4, ι 0], π zb925 0, π zb925 0, π zb925 0, π zb30 0, π zb30 0, π zb30 102, π zb30 111, .agg #[ι 2, ι 4, ι 0], .agg #[ι (p.i 39), ι 1, ι 0, ι 0, ι 0, ι 0, ι 2, ι 4, ι 0, ι 2, ι 4, ι 0], π zb925 0, π zb925 0, π zb925 1, .slice none 0 0, π zb925 0, π zb925 0, π zb925 2, .slice none 0 0, π zb925 0, π zb925 0, π zb925 0, π zb30 0, π zb30 0, π zb30 114, .agg (rowF .u8 32 (fun _ => 0))] [[54, 38, 6, 5, 4, 3, 2, 1, 0], [54, 38, 6, 5, 4, 3, 2, 1], [54, 38, 6, 5, 4, 3, 2], [54, 38, 6, 5, 4, 3], [54, 38, 6, 5, 4], [54, 38, 6, 5], [54, 38, 6], [54, 38, 14, 13, 12, 11, 10, 9, 8, 7], [54, 38, 14, 13, 12, 11, 10, 9, 8], [54, 38, 14, 13, 12, 11, 10, 9], [54, 38, 14, 13, 12, 11, 10], [54, 38, 14, 13, 12, 11], [54, 38, 14, 13, 12], [54, 38, 14, 13], [54, 38, 14], [54, 38, 22, 21, 20, 19, 18, 17, 16, 15], [54, 38, 22, 21, 20, 19, 18, 17, 16], [54, 38, 22, 21, 20, 19, 18, 17], [54, 38, 22, 21, 20, 19, 18], [54, 38, 22, 21, 20, 19], [54, 38, 22, 21, 20], [54, 38, 22, 21], [54, 38, 22], [54, 38, 29, 28, 27, 26, 25, 24, 23], [54, 38, 29, 28, 27, 26, 25, 24], [54, 38, 29, 28, 27, 26, 25], [54, 38, 29, 28, 27, 26], [54, 38, 29, 28, 27], [54, 38, 29, 28], [54, 38, 29], [54, 38, 37, 36, 35, 34, 33, 32, 31, 30], [54, 38, 37, 36, 35, 34, 33, 32, 31], [54, 38, 37, 36, 35, 34, 33, 32], [54, 38, 37, 36, 35, 34, 33], [54, 38, 37, 36, 35, 34], [54, 38, 37, 36, 35], [54, 38, 37, 36], [54, 38, 37], [54, 38], [54, 42, 41, 40, 39], [54, 42, 41, 40], [54, 42, 41], [54, 42], [54, 46, 45, 44, 43], [54, 46, 45, 44], [54, 46, 45], [54, 46], [54, 53, 52, 51, 50, 49, 48, 47], [54, 53, 52, 51, 50, 49, 48], [54, 53, 52, 51, 50, 49], [54, 53, 52, 51, 50], [54, 53, 52, 51], [54, 53, 52], [54, 53], [55, 0], [55, 1], [55, 2], [55, 3], [55, 4], [55, 5], [55, 6], [55, 7], [55, 8], [55, 9], [55, 10], [55, 11], [55, 12], [55, 13], [55, 14], [55, 15], [55, 16], [55, 17], [55, 18], [55, 19], [55, 20], [55, 21], [55, 22], [55, 23], [55, 24], [55, 25], [55, 26], [55, 27], [55, 28], [55, 29], [55, 30], [55, 31], [55, 32], [55, 33], [55, 34], [55, 35], [55, 36], [55, 37], [55, 38], [55, 39], [55, 40], [55, 41], [55, 42], [55, 43], [55, 44], [55, 45], [55, 46], [55, 47], [55, 48], [55, 49], [55, 50], [55, 51], [55, 52], [55, 53], [55, 54]] (step_cons qP_ (step_cons qP_ (step_cons qP_ (step_cons (qL_ zS932 1 zb925 0) (step_cons qP_ (step_cons qP_ (step_cons (qL_ zS932 13 zb30 98) (step_cons qP_ (step_cons qP_ (step_cons qP_ (step_cons (qL_ zS932 1 zb925 0) (step_cons qP_ (step_cons qP_ (step_cons qP_ (step_cons (qL_ zS932 13 zb30 102) (step_cons qP_ (step_cons qP_ (step_cons qP_ (step_cons (qL_ zS932 1 zb925 0) (step_cons qP_ (step_cons qP_ (step_cons qP_ (step_cons (qN_ zS932 13 zb30 107 4 #[ι 0, ι 0, ι 0, ι 0]) (step_cons qP_ (step_cons qP_ (step_cons qP_ (step_cons (qL_ zS932 1 zb925 0) (step_cons qP_ (step_cons qP_ (step_cons (qN_ zS932 13 zb30 99 3 #[ι 2, ι 4, ι 0]) (step_cons qP_ (step_cons qP_ (step_cons qP_ (step_cons (qL_ zS932 1 zb925 0) (step_cons qP_ (step_cons qP_ (step_cons qP_ (step_cons (qN_ zS932 13 zb30 111 3 #[ι 2, ι 4, ι 0]) (step_cons qP_ (step_cons qP_ (step_cons qP_ (step_cons qP_ (step_cons (qL_ zS932 1 zb925 1) (step_cons qP_ (step_cons qP_ (step_cons qP_ (step_cons (qL_ zS932 1 zb925 2) (step_cons qP_ (step_cons qP_ (step_cons qP_ (step_cons (qL_ zS932 1 zb925 0) (step_cons qP_ (step_cons qP_ (step_cons (qN_ zS932 13 zb30 114 32 (rowF .u8 32 (fun _ => 0))) (step_nil))))))))))))))))))))))))))))))))))))))))))))))))))))))) ?_
   intro zw933 zh935
   have zS934 := zS932.quiet zh935
   refine pure_ (.agg #[ι (p.i 39), ι 1, ι 0, ι 0, ι 0, ι 0, ι 2, ι 4, ι 0, ι 2, ι 4, ι 0, .slice none 0 0, .slice none 0 0, υ 0, υ 0, υ 0, υ 0, υ 0, υ 0, υ 0, υ 0, υ 0, υ 0, υ 0, υ 0, υ 0, υ 0, υ 0, υ 0, υ 0, υ 0, υ 0, υ 0, υ 0, υ 0, υ 0, υ 0, υ 0, υ 0, υ 0, υ 0, υ 0, υ 0, υ 0, υ 0]) ?_
   refine store_ zS934 0 (.agg #[ι (p.i 39), ι 1, ι 0, ι 0, ι 0, ι 0, ι 2, ι 4, ι 0, ι 2, ι 4, ι 0, .slice none 0 0, .slice none 0 0, υ 0, υ 0, υ 0, υ 0, υ 0, υ 0, υ 0, υ 0, υ 0, υ 0, υ 0, υ 0, υ 0, υ 0, υ 0, υ 0, υ 0, υ 0, υ 0, υ 0, υ 0, υ 0, υ 0, υ 0, υ 0, υ 0, υ 0, υ 0, υ 0, υ 0, υ 0, υ 0]) zb930 0 ?_
   intro zw936 zS937
   refine nil_ (then_n (wp_ret (ret_ rfl (res_ [.cell 2 54] [.agg #[ι (p.i 39), ι 1, ι 0, ι 0, ι 0, ι 0, ι 2, ι 4, ι 0, ι 2, ι 4, ι 0, .slice none 0 0, .slice none 0 0, υ 0, υ 0, υ 0, υ 0, υ 0, υ 0, υ 0, υ 0, υ 0, υ 0, υ 0, υ 0, υ 0, υ 0, υ 0, υ 0, υ 0, υ 0, υ 0, υ 0, υ 0, υ 0, υ 0, υ 0, υ 0, υ 0, υ 0, υ 0, υ 0, υ 0, υ 0, υ 0]] (.agg #[ι (p.i 39), ι 1, ι 0, ι 0, ι 0, ι 0, ι 2, ι 4, ι 0, ι 2, ι 4, ι 0, .slice none 0 0, .slice none 0 0, υ 0, υ 0, υ 0, υ 0, υ 0, υ 0, υ 0, υ 0, υ 0, υ 0, υ 0, υ 0, υ 0, υ 0, υ 0, υ 0, υ 0, υ 0, υ 0, υ 0, υ 0, υ 0, υ 0, υ 0, υ 0, υ 0, υ 0, υ 0, υ 0, υ 0, υ 0, υ 0]) ⟨res_cellN zS937 0 46 zb930 0, trivial⟩) ?_)))
   refine store_ zS937 2 (.agg #[ι (p.i 39), ι 1, ι 0, ι 0, ι 0, ι 0, ι 2, ι 4, ι 0, ι 2, ι 4, ι 0, .slice none 0 0, .slice none 0 0, υ 0, υ 0, υ 0, υ 0, υ 0, υ 0, υ 0, υ 0, υ 0, υ 0, υ 0, υ 0, υ 0, υ 0, υ 0, υ 0, υ 0, υ 0, υ 0, υ 0, υ 0, υ 0, υ 0, υ 0, υ 0, υ 0, υ 0, υ 0, υ 0, υ 0, υ 0, υ 0]) zb922 0 ?_
   intro zw938 zS939
   refine nil_ (then_n (wp_ret (ret_ rfl (res_ [.cell 2 54] [.agg #[ι (p.i 39), ι 1, ι 0, ι 0, ι 0, ι 0, ι 2, ι 4, ι 0, ι 2, ι 4, ι 0, .slice none 0 0, .slice none 0 0, υ 0, υ 0, υ 0, υ 0, υ 0, υ 0, υ 0, υ 0, υ 0, υ 0, υ 0, υ 0, υ 0, υ 0, υ 0, υ 0, υ 0, υ 0, υ 0, υ 0, υ 0, υ 0, υ 0, υ 0, υ 0, υ 0, υ 0, υ 0, υ 0, υ 0, υ 0, υ 0]] (.agg #[ι (p.i 39), ι 1, ι 0, ι 0, ι 0, ι 0, ι 2, ι 4, ι 0, ι 2, ι 4, ι 0, .slice none 0 0, .slice none 0 0, υ 0, υ 0, υ 0, υ 0, υ 0, υ 0, υ 0, υ 0, υ 0, υ 0, υ 0, υ 0, υ 0, υ 0, υ 0, υ 0, υ 0, υ 0, υ 0, υ 0, υ 0, υ 0, υ 0, υ 0, υ 0, υ 0, υ 0, υ 0, υ 0, υ 0, υ 0, υ 0]) ⟨res_cellN zS939 2 46 zb922 0, trivial⟩) (move_ (call_ 17 #[π zb215 0] (enter_ Tryz.func17 rfl (seq_ (reg_ ?_))))))))
   refine new_ zS939 (fun b => π b 0) (.cells #[ι 0, ι 0, ι 0, ι 0, ι 0, ι 0, ι 0, ι 0, ι 0, ι 0, ι 0, ι 0, .slice none 0 0, .slice none 0 0, υ 0, υ 0, υ 0, υ 0, υ 0, υ 0, υ 0, υ 0, υ 0, υ 0, υ 0, υ 0, υ 0, υ 0, υ 0, υ 0, υ 0, υ 0, υ 0, υ 0, υ 0, υ 0, υ 0, υ 0, υ 0, υ 0, υ 0, υ 0, υ 0, υ 0, υ 0, υ 0] 54) ?_
   intro zb940 zw941 zS942
   refine nil_ (then_n (seq_ ?_))
   refine drawnL_ 38 [⟨0, fun _ => π zb215 0, fun _ => []⟩, ⟨0, fun _ => π zb215 0, fun _ => []⟩, ⟨0, fun _ => π zb215 108, fun _ => []⟩, ⟨0, fun _ => ι (p.i 39), fun _ => []⟩, ⟨0, fun _ => π zb215 0, fun _ => []⟩, ⟨0, fun _ => π zb215 0, fun _ => []⟩, ⟨0, fun _ => π zb215 112, fun _ => []⟩, ⟨0, fun _ => π zb215 112, fun _ => []⟩, ⟨0, fun _ => ι 1, fun _ => []⟩, ⟨0, fun _ => π zb215 0, fun _ => []⟩, ⟨0, fun _ => π zb215 0, fun _ => []⟩, ⟨0, fun _ => π zb215 112, fun _ => []⟩, ⟨0, fun _ => π zb215 117, fun _ => []⟩, ⟨0, fun _ => .agg #[ι 0, ι 0, ι 0, ι 0], fun _ => []⟩, ⟨0, fun _ => π zb215 0, fun _ => []⟩, ⟨0, fun _ => π zb215 0, fun _ => []⟩, ⟨0, fun _ => π zb215 109, fun _ => []⟩, ⟨0, fun _ => .agg #[ι 2, ι 4, ι 0], fun _ => []⟩, ⟨0, fun _ => π zb215 0, fun _ => []⟩, ⟨0, fun _ => π zb215 0, fun _ => []⟩, ⟨0, fun _ => π zb215 112, fun _ => []⟩, ⟨0, fun _ => π zb215 121, fun _ => []⟩, ⟨0, fun _ => .agg #[ι 2, ι 4, ι 0], fun _ => []⟩, ⟨0, fun _ => .agg #[ι (p.i 39), ι 1, ι 0, ι 0, ι 0, ι 0, ι 2, ι 4, ι 0, ι 2, ι 4, ι 0], fun _ => []⟩, ⟨0, fun _ => π zb215 0, fun _ => []⟩, ⟨0, fun _ => π zb215 0, fun _ => []⟩, ⟨0, fun _ => π zb215 156, fun _ => []⟩, ⟨0, fun _ => .slice none 0 0, fun _ => []⟩, ⟨0, fun _ => π zb215 0, fun _ => []⟩, ⟨0, fun _ => π zb215 0, fun _ => []⟩, ⟨0, fun _ => π zb215 157, fun _ => []⟩, ⟨0, fun _ => .slice none 0 0, fun _ => []⟩, ⟨0, fun _ => π zb215 0, fun _ => []⟩, ⟨0, fun _ => π zb215 0, fun _ => []⟩, ⟨0, fun _ => π zb215 124, fun _ => []⟩, ⟨0, fun _ => .agg (rowF .u8 32 (fun _ => 0)), fun _ => []⟩, ⟨0, fun _ => .agg #[ι (p.i 39), ι 1, ι 0, ι 0, ι 0, ι 0, ι 2, ι 4, ι 0, ι 2, ι 4, ι 0, .slice none 0 0, .slice none 0 0, υ 0, υ 0, υ 0, υ 0, υ 0, υ 0, υ 0, υ 0, υ 0, υ 0, υ 0, υ 0, υ 0, υ 0, υ 0, υ 0, υ 0, υ 0, υ 0, υ 0, υ 0, υ 0, υ 0, υ 0, υ 0, υ 0, υ 0, υ 0, υ 0, υ 0, υ 0, υ 0], fun _ => []⟩, ⟨1, fun ids => π (ids.getD 0 0) 0, fun ids => [((ids.getD 0 0), .cells #[ι 0, ι 0, ι 0, ι 0, ι 0, ι 0, ι 0, ι 0, ι 0, ι 0, ι 0, ι 0, .slice none 0 0, .slice none 0 0, υ 0, υ 0, υ 0, υ 0, υ 0, υ 0, υ 0, υ 0, υ 0, υ 0, υ 0, υ 0, υ 0, υ 0, υ 0, υ 0, υ 0, υ 0, υ 0, υ 0, υ 0, υ 0, υ 0, υ 0, υ 0, υ 0, υ 0, υ 0, υ 0, υ 0, υ 0, υ 0] 54 (0, 0))]⟩] [[38, 0], [38, 1], [38, 2], [38, 3], [38, 4], [38, 5], [38, 6], [38, 7], [38, 8], [38, 9], [38, 10], [38, 11], [38, 12], [38, 13], [38, 14], [38, 15], [38, 16], [38, 17], [38, 18], [38, 19], [38, 20], [38, 21], [38, 22], [38, 23], [38, 24], [38, 25], [38, 26], [38, 27], [38, 28], [38, 29], [38, 30], [38, 31], [38, 32], [38, 33], [38, 34], [38, 35], [38, 36], [38, 37]] ?_ ?_
   · refine step_cons ?_ ?_
     · intro zy943 zw944 zhc945 zhf946 zhp947
       have zh948 : zy943 0 = π zb215 0 := (zhf946 0 (by kernel_rfl)).trans (by kernel_rfl)
       have zS949 := zS942.quiet zhc945
       refine step1 ?_
       refine yenv [(0, π zb215 0)] (ag_cons zh948 (ag_nil)) ?_
       have zS950 := zS949.loc
       refine Y.move_ ?_
       exact ⟨zS950.ch, Sp.mk_holds [] (all_nil)⟩
     refine step_cons ?_ ?_
     · intro zy951 zw952 zhc953 zhf954 zhp955
       have zh956 : zy951 4 = π zb215 0 := (Sp.out0 (zhp955 0 4 (by kernel_rfl) (by kernel_rfl))).1
       have zS957 := zS942.quiet zhc953
       refine step1 ?_
       refine yenv [(4, π zb215 0)] (ag_cons zh956 (ag_nil)) ?_
       have zS958 := zS957.loc
       refine Y.pure_ (π zb215 0) ?_
       exact ⟨zS958.ch, Sp.mk_holds [] (all_nil)⟩
     refine step_cons ?_ ?_
     · intro zy959 zw960 zhc961 zhf962 zhp963
       have zh964 : zy959 5 = π zb215 0 := (Sp.out0 (zhp963 1 5 (by kernel_rfl) (by kernel_rfl))).1
       have zS965 := zS942.quiet zhc961
       refine step1 ?_
       refine yenv [(5, π zb215 0)] (ag_cons zh964 (ag_nil)) ?_
       have zS966 := zS965.loc
       refine Y.pure_ (π zb215 108) ?_
       exact ⟨zS966.ch, Sp.mk_holds [] (all_nil)⟩
     refine step_cons ?_ ?_
     · intro zy967 zw968 zhc969 zhf970 zhp971
       have zh972 : zy967 6 = π zb215 108 := (Sp.out0 (zhp971 2 6 (by kernel_rfl) (by kernel_rfl))).1
       have zS973 := zS942.quiet zhc969
       refine step1 ?_
       refine yenv [(6, π zb215 108)] (ag_cons zh972 (ag_nil)) ?_
       have zS974 := zS973.loc
       refine Y.load1_ zS974 10 (ι (p.i 39)) zb215 108 ?_
       exact ⟨zS974.ch, Sp.mk_holds [] (all_nil)⟩
     refine step_cons ?_ ?_
     · intro zy975 zw976 zhc977 zhf978 zhp979
       have zh980 : zy975 0 = π zb215 0 := (zhf978 0 (by kernel_rfl)).trans (by kernel_rfl)
       have zS981 := zS942.quiet zhc977
       refine step1 ?_
       refine yenv [(0, π zb215 0)] (ag_cons zh980 (ag_nil)) ?_
       have zS982 := zS981.loc
       refine Y.move_ ?_
       exact ⟨zS982.ch, Sp.mk_holds [] (all_nil)⟩
     refine step_cons ?_ ?_
     · intro zy983 zw984 zhc985 zhf986 zhp987
       have zh988 : zy983 8 = π zb215 0 := (Sp.out0 (zhp987 4 8 (by kernel_rfl) (by kernel_rfl))).1
       have zS989 := zS942.quiet zhc985
       refine step1 ?_
       refine yenv [(8, π zb215 0)] (ag_cons zh988 (ag_nil)) ?_
       have zS990 := zS989.loc
       refine Y.pure_ (π zb215 0) ?_
       exact ⟨zS990.ch, Sp.mk_holds [] (all_nil)⟩
     refine step_cons ?_ ?_
     · intro zy991 zw992 zhc993 zhf994 zhp995
       have zh996 : zy991 9 = π zb215 0 := (Sp.out0 (zhp995 5 9 (by kernel_rfl) (by kernel_rfl))).1
       have zS997 := zS942.quiet zhc993
       refine step1 ?_
       refine yenv [(9, π zb215 0)] (ag_cons zh996 (ag_nil)) ?_
       have zS998 := zS997.loc
       refine Y.pure_ (π zb215 112) ?_
       exact ⟨zS998.ch, Sp.mk_holds [] (all_nil)⟩
     refine step_cons ?_ ?_
     · intro zy999 zw1000 zhc1001 zhf1002 zhp1003
       have zh1004 : zy999 10 = π zb215 112 := (Sp.out0 (zhp1003 6 10 (by kernel_rfl) (by kernel_rfl))).1
       have zS1005 := zS942.quiet zhc1001
       refine step1 ?_
       refine yenv [(10, π zb215 112)] (ag_cons zh1004 (ag_nil)) ?_
       have zS1006 := zS1005.loc
       refine Y.pure_ (π zb215 112) ?_
       exact ⟨zS1006.ch, Sp.mk_holds [] (all_nil)⟩
     refine step_cons ?_ ?_
     · intro zy1007 zw1008 zhc1009 zhf1010 zhp1011
       have zh1012 : zy1007 11 = π zb215 112 := (Sp.out0 (zhp1011 7 11 (by kernel_rfl) (by kernel_rfl))).1
       have zS1013 := zS942.quiet zhc1009
       refine step1 ?_
       refine yenv [(11, π zb215 112)] (ag_cons zh1012 (ag_nil)) ?_
       have zS1014 := zS1013.loc
       refine Y.load1_ zS1014 10 (ι 1) zb215 112 ?_
       exact ⟨zS1014.ch, Sp.mk_holds [] (all_nil)⟩
     refine step_cons ?_ ?_
     · intro zy1015 zw1016 zhc1017 zhf1018 zhp1019
       have zh1020 : zy1015 0 = π zb215 0 := (zhf1018 0 (by kernel_rfl)).trans (by kernel_rfl)
       have zS1021 := zS942.quiet zhc1017
       refine step1 ?_
       refine yenv [(0, π zb215 0)] (ag_cons zh1020 (ag_nil)) ?_
       have zS1022 := zS1021.loc
       refine Y.move_ ?_
       exact ⟨zS1022.ch, Sp.mk_holds [] (all_nil)⟩
     refine step_cons ?_ ?_
     · intro zy1023 zw1024 zhc1025 zhf1026 zhp1027
       have zh1028 : zy1023 13 = π zb215 0 := (Sp.out0 (zhp1027 9 13 (by kernel_rfl) (by kernel_rfl))).1
       have zS1029 := zS942.quiet zhc1025
       refine step1 ?_
       refine yenv [(13, π zb215 0)] (ag_cons zh1028 (ag_nil)) ?_
       have zS1030 := zS1029.loc
       refine Y.pure_ (π zb215 0) ?_
       exact ⟨zS1030.ch, Sp.mk_holds [] (all_nil)⟩
     refine step_cons ?_ ?_
     · intro zy1031 zw1032 zhc1033 zhf1034 zhp1035
       have zh1036 : zy1031 14 = π zb215 0 := (Sp.out0 (zhp1035 10 14 (by kernel_rfl) (by kernel_rfl))).1
       have zS1037 := zS942.quiet zhc1033
       refine step1 ?_
       refine yenv [(14, π zb215 0)] (ag_cons zh1036 (ag_nil)) ?_
       have zS1038 := zS1037.loc
       refine Y.pure_ (π zb215 112) ?_
       exact ⟨zS1038.ch, Sp.mk_holds [] (all_nil)⟩
     refine step_cons ?_ ?_
     · intro zy1039 zw1040 zhc1041 zhf1042 zhp1043
       have zh1044 : zy1039 15 = π zb215 112 := (Sp.out0 (zhp1043 11 15 (by kernel_rfl) (by kernel_rfl))).1
       have zS1045 := zS942.quiet zhc1041
       refine step1 ?_
       refine yenv [(15, π zb215 112)] (ag_cons zh1044 (ag_nil)) ?_
       have zS1046 := zS1045.loc
       refine Y.pure_ (π zb215 117) ?_
       exact ⟨zS1046.ch, Sp.mk_holds [] (all_nil)⟩
     refine step_cons ?_ ?_
     · intro zy1047 zw1048 zhc1049 zhf1050 zhp1051
       have zh1052 : zy1047 16 = π zb215 117 := (Sp.out0 (zhp1051 12 16 (by kernel_rfl) (by kernel_rfl))).1
       have zS1053 := zS942.quiet zhc1049
       refine step1 ?_
       refine yenv [(16, π zb215 117)] (ag_cons zh1052 (ag_nil)) ?_
       have zS1054 := zS1053.loc
       refine Y.loadN_ zS1054 10 4 #[ι 0, ι 0, ι 0, ι 0] zb215 117 ?_
       exact ⟨zS1054.ch, Sp.mk_holds [] (all_nil)⟩
     refine step_cons ?_ ?_
     · intro zy1055 zw1056 zhc1057 zhf1058 zhp1059
       have zh1060 : zy1055 0 = π zb215 0 := (zhf1058 0 (by kernel_rfl)).trans (by kernel_rfl)
       have zS1061 := zS942.quiet zhc1057
       refine step1 ?_
       refine yenv [(0, π zb215 0)] (ag_cons zh1060 (ag_nil)) ?_
       have zS1062 := zS1061.loc
       refine Y.move_ ?_
       exact ⟨zS1062.ch, Sp.mk_holds [] (all_nil)⟩
     refine step_cons ?_ ?_
     · intro zy1063 zw1064 zhc1065 zhf1066 zhp1067
       have zh1068 : zy1063 18 = π zb215 0 := (Sp.out0 (zhp1067 14 18 (by kernel_rfl) (by kernel_rfl))).1
       have zS1069 := zS942.quiet zhc1065
       refine step1 ?_
       refine yenv [(18, π zb215 0)] (ag_cons zh1068 (ag_nil)) ?_
       have zS1070 := zS1069.loc
       refine Y.pure_ (π zb215 0) ?_
       exact ⟨zS1070.ch, Sp.mk_holds [] (all_nil)⟩
     refine step_cons ?_ ?_
     · intro zy1071 zw1072 zhc1073 zhf1074 zhp1075
       have zh1076 : zy1071 19 = π zb215 0 := (Sp.out0 (zhp1075 15 19 (by kernel_rfl) (by kernel_rfl))).1
       have zS1077 := zS942.quiet zhc1073
       refine step1 ?_
       refine yenv [(19, π zb215 0)] (ag_cons zh1076 (ag_nil)) ?_
       have zS1078 := zS1077.loc
       refine Y.pure_ (π zb215 109) ?_
       exact ⟨zS1078.ch, Sp.mk_holds [] (all_nil)⟩
     refine step_cons ?_ ?_
     · intro zy1079 zw1080 zhc1081 zhf1082 zhp1083
       have zh1084 : zy1079 20 = π zb215 109 := (Sp.out0 (zhp1083 16 20 (by kernel_rfl) (by kernel_rfl))).1
       have zS1085 := zS942.quiet zhc1081
       refine step1 ?_
       refine yenv [(20, π zb215 109)] (ag_cons zh1084 (ag_nil)) ?_
       have zS1086 := zS1085.loc
       refine Y.loadN_ zS1086 10 3 #[ι 2, ι 4, ι 0] zb215 109 ?_
       exact ⟨zS1086.ch, Sp.mk_holds [] (all_nil)⟩
     refine step_cons ?_ ?_
     · intro zy1087 zw1088 zhc1089 zhf1090 zhp1091
       have zh1092 : zy1087 0 = π zb215 0 := (zhf1090 0 (by kernel_rfl)).trans (by kernel_rfl)
       have zS1093 := zS942.quiet zhc1089
       refine step1 ?_
       refine yenv [(0, π zb215 0)] (ag_cons zh1092 (ag_nil)) ?_
       have zS1094 := zS1093.loc
       refine Y.move_ ?_
       exact ⟨zS1094.ch, Sp.mk_holds [] (all_nil)⟩
     refine step_cons ?_ ?_
     · intro zy1095 zw1096 zhc1097 zhf1098 zhp1099
       have zh1100 : zy1095 22 = π zb215 0 := (Sp.out0 (zhp1099 18 22 (by kernel_rfl) (by kernel_rfl))).1
       have zS1101 := zS942.quiet zhc1097
       refine step1 ?_
       refine yenv [(22, π zb215 0)] (ag_cons zh1100 (ag_nil)) ?_
       have zS1102 := zS1101.loc
       refine Y.pure_ (π zb215 0) ?_
       exact ⟨zS1102.ch, Sp.mk_holds [] (all_nil)⟩
     refine step_cons ?_ ?_
     · intro zy1103 zw1104 zhc1105 zhf1106 zhp1107
       have zh1108 : zy1103 23 = π zb215 0 := (Sp.out0 (zhp1107 19 23 (by kernel_rfl) (by kernel_rfl))).1
       have zS1109 := zS942.quiet zhc1105
       refine step1 ?_
       refine yenv [(23, π zb215 0)] (ag_cons zh1108 (ag_nil)) ?_
       have zS1110 := zS1109.loc
       refine Y.pure_ (π zb215 112) ?_
       exact ⟨zS1110.ch, Sp.mk_holds [] (all_nil)⟩
     refine step_cons ?_ ?_
     · intro zy1111 zw1112 zhc1113 zhf1114 zhp1115
       have zh1116 : zy1111 24 = π zb215 112 := (Sp.out0 (zhp1115 20 24 (by kernel_rfl) (by kernel_rfl))).1
       have zS1117 := zS942.quiet zhc1113
       refine step1 ?_
       refine yenv [(24, π zb215 112)] (ag_cons zh1116 (ag_nil)) ?_
       have zS1118 := zS1117.loc
       refine Y.pure_ (π zb215 121) ?_
       exact ⟨zS1118.ch, Sp.mk_holds [] (all_nil)⟩
     refine step_cons ?_ ?_
     · intro zy1119 zw1120 zhc1121 zhf1122 zhp1123
       have zh1124 : zy1119 25 = π zb215 121 := (Sp.out0 (zhp1123 21 25 (by kernel_rfl) (by kernel_rfl))).1
       have zS1125 := zS942.quiet zhc1121
       refine step1 ?_
       refine yenv [(25, π zb215 121)] (ag_cons zh1124 (ag_nil)) ?_
       have zS1126 := zS1125.loc
       refine Y.loadN_ zS1126 10 3 #[ι 2, ι 4, ι 0] zb215 121 ?_
       exact ⟨zS1126.ch, Sp.mk_holds [] (all_nil)⟩
     refine step_cons ?_ ?_
     · intro zy1127 zw1128 zhc1129 zhf1130 zhp1131
       have zh1132 : zy1127 7 = ι (p.i 39) := (Sp.out0 (zhp1131 3 7 (by kernel_rfl) (by kernel_rfl))).1
       have zh1133 : zy1127 12 = ι 1 := (Sp.out0 (zhp1131 8 12 (by kernel_rfl) (by kernel_rfl))).1
       have zh1134 : zy1127 17 = .agg #[ι 0, ι 0, ι 0, ι 0] := (Sp.out0 (zhp1131 13 17 (by kernel_rfl) (by kernel_rfl))).1
       have zh1135 : zy1127 21 = .agg #[ι 2, ι 4, ι 0] := (Sp.out0 (zhp1131 17 21 (by kernel_rfl) (by kernel_rfl))).1
       have zh1136 : zy1127 26 = .agg #[ι 2, ι 4, ι 0] := (Sp.out0 (zhp1131 22 26 (by kernel_rfl) (by kernel_rfl))).1
       have zS1137 := zS942.quiet zhc1129
       refine step1 ?_
       refine yenv [(7, ι (p.i 39)), (12, ι 1), (17, .agg #[ι 0, ι 0, ι 0, ι 0]), (21, .agg #[ι 2, ι 4, ι 0]), (26, .agg #[ι 2, ι 4, ι 0])] (ag_cons zh1132 (ag_cons zh1133 (ag_cons zh1134 (ag_cons zh1135 (ag_cons zh1136 (ag_nil)))))) ?_
       have zS1138 := zS1137.loc
       refine Y.pure_ (.agg #[ι (p.i 39), ι 1, ι 0, ι 0, ι 0, ι 0, ι 2, ι 4, ι 0, ι 2, ι 4, ι 0]) ?_
       exact ⟨zS1138.ch, Sp.mk_holds [] (all_nil)⟩
     refine step_cons ?_ ?_
     · intro zy1139 zw1140 zhc1141 zhf1142 zhp1143
       have zh1144 : zy1139 0 = π zb215 0 := (zhf1142 0 (by kernel_rfl)).trans (by kernel_rfl)
       have zS1145 := zS942.quiet zhc1141
       refine step1 ?_
       refine yenv [(0, π zb215 0)] (ag_cons zh1144 (ag_nil)) ?_
       have zS1146 := zS1145.loc
       refine Y.move_ ?_
       exact ⟨zS1146.ch, Sp.mk_holds [] (all_nil)⟩
     refine step_cons ?_ ?_
     · intro zy1147 zw1148 zhc1149 zhf1150 zhp1151
       have zh1152 : zy1147 28 = π zb215 0 := (Sp.out0 (zhp1151 24 28 (by kernel_rfl) (by kernel_rfl))).1
       have zS1153 := zS942.quiet zhc1149
       refine step1 ?_
       refine yenv [(28, π zb215 0)] (ag_cons zh1152 (ag_nil)) ?_
       have zS1154 := zS1153.loc
       refine Y.pure_ (π zb215 0) ?_
       exact ⟨zS1154.ch, Sp.mk_holds [] (all_nil)⟩
     refine step_cons ?_ ?_
     · intro zy1155 zw1156 zhc1157 zhf1158 zhp1159
       have zh1160 : zy1155 29 = π zb215 0 := (Sp.out0 (zhp1159 25 29 (by kernel_rfl) (by kernel_rfl))).1
       have zS1161 := zS942.quiet zhc1157
       refine step1 ?_
       refine yenv [(29, π zb215 0)] (ag_cons zh1160 (ag_nil)) ?_
       have zS1162 := zS1161.loc
       refine Y.pure_ (π zb215 156) ?_
       exact ⟨zS1162.ch, Sp.mk_holds [] (all_nil)⟩
     refine step_cons ?_ ?_
     · intro zy1163 zw1164 zhc1165 zhf1166 zhp1167
       have zh1168 : zy1163 30 = π zb215 156 := (Sp.out0 (zhp1167 26 30 (by kernel_rfl) (by kernel_rfl))).1
       have zS1169 := zS942.quiet zhc1165
       refine step1 ?_
       refine yenv [(30, π zb215 156)] (ag_cons zh1168 (ag_nil)) ?_
       have zS1170 := zS1169.loc
       refine Y.load1_ zS1170 10 (.slice none 0 0) zb215 156 ?_
       exact ⟨zS1170.ch, Sp.mk_holds [] (all_nil)⟩
     refine step_cons ?_ ?_
     · intro zy1171 zw1172 zhc1173 zhf1174 zhp1175
       have zh1176 : zy1171 0 = π zb215 0 := (zhf1174 0 (by kernel_rfl)).trans (by kernel_rfl)
       have zS1177 := zS942.quiet zhc1173
       refine step1 ?_
       refine yenv [(0, π zb215 0)] (ag_cons zh1176 (ag_nil)) ?_
       have zS1178 := zS1177.loc
       refine Y.move_ ?_
       exact ⟨zS1178.ch, Sp.mk_holds [] (all_nil)⟩
     refine step_cons ?_ ?_
     · intro zy1179 zw1180 zhc1181 zhf1182 zhp1183
       have zh1184 : zy1179 32 = π zb215 0 := (Sp.out0 (zhp1183 28 32 (by kernel_rfl) (by kernel_rfl))).1
       have zS1185 := zS942.quiet zhc1181
       refine step1 ?_
       refine yenv [(32, π zb215 0)] (ag_cons zh1184 (ag_nil)) ?_
       have zS1186 := zS1185.loc
       refine Y.pure_ (π zb215 0) ?_
       exact ⟨zS1186.ch, Sp.mk_holds [] (all_nil)⟩
     refine step_cons ?_ ?_
     · intro zy1187 zw1188 zhc1189 zhf1190 zhp1191
       have zh1192 : zy1187 33 = π zb215 0 := (Sp.out0 (zhp1191 29 33 (by kernel_rfl) (by kernel_rfl))).1
       have zS1193 := zS942.quiet zhc1189
       refine step1 ?_
       refine yenv [(33, π zb215 0)] (ag_cons zh1192 (ag_nil)) ?_
       have zS1194 := zS1193.loc
       refine Y.pure_ (π zb215 157) ?_
       exact ⟨zS1194.ch, Sp.mk_holds [] (all_nil)⟩
     refine step_cons ?_ ?_
     · intro zy1195 zw1196 zhc1197 zhf1198 zhp1199
       have zh1200 : zy1195 34 = π zb215 157 := (Sp.out0 (zhp1199 30 34 (by kernel_rfl) (by kernel_rfl))).1
       have zS1201 := zS942.quiet zhc1197
       refine step1 ?_
       refine yenv [(34, π zb215 157)] (ag_cons zh1200 (ag_nil)) ?_
       have zS1202 := zS1201.loc
       refine Y.load1_ zS1202 10 (.slice none 0 0) zb215 157 ?_
       exact ⟨zS1202.ch, Sp.mk_holds [] (all_nil)⟩
     refine step_cons ?_ ?_
     · intro zy1203 zw1204 zhc1205 zhf1206 zhp1207
       have zh1208 : zy1203 0 = π zb215 0 := (zhf1206 0 (by kernel_rfl)).trans (by kernel_rfl)
       have zS1209 := zS942.quiet zhc1205
       refine step1 ?_
       refine yenv [(0, π zb215 0)] (ag_cons zh1208 (ag_nil)) ?_
       have zS1210 := zS1209.loc
       refine Y.move_ ?_
       exact ⟨zS1210.ch, Sp.mk_holds [] (all_nil)⟩
     refine step_cons ?_ ?_
     · intro zy1211 zw1212 zhc1213 zhf1214 zhp1215
       have zh1216 : zy1211 36 = π zb215 0 := (Sp.out0 (zhp1215 32 36 (by kernel_rfl) (by kernel_rfl))).1
       have zS1217 := zS942.quiet zhc1213
       refine step1 ?_
       refine yenv [(36, π zb215 0)] (ag_cons zh1216 (ag_nil)) ?_
       have zS1218 := zS1217.loc
       refine Y.pure_ (π zb215 0) ?_
       exact ⟨zS1218.ch, Sp.mk_holds [] (all_nil)⟩
     refine step_cons ?_ ?_
     · intro zy1219 zw1220 zhc1221 zhf1222 zhp1223
       have zh1224 : zy1219 37 = π zb215 0 := (Sp.out0 (zhp1223 33 37 (by kernel_rfl) (by kernel_rfl))).1
       have zS1225 := zS942.quiet zhc1221
       refine step1 ?_
       refine yenv [(37, π zb215 0)] (ag_cons zh1224 (ag_nil)) ?_
       have zS1226 := zS1225.loc
       refine Y.pure_ (π zb215 124) ?_
       exact ⟨zS1226.ch, Sp.mk_holds [] (all_nil)⟩
     refine step_cons ?_ ?_
     · intro zy1227 zw1228 zhc1229 zhf1230 zhp1231
       have zh1232 : zy1227 38 = π zb215 124 := (Sp.out0 (zhp1231 34 38 (by kernel_rfl) (by kernel_rfl))).1
       have zS1233 := zS942.quiet zhc1229
       refine step1 ?_
       refine yenv [(38, π zb215 124)] (ag_cons zh1232 (ag_nil)) ?_
       have zS1234 := zS1233.loc
       refine Y.loadN_ zS1234 10 32 (rowF .u8 32 (fun _ => 0)) zb215 124 ?_
       exact ⟨zS1234.ch, Sp.mk_holds [] (all_nil)⟩
     refine step_cons ?_ ?_
     · intro zy1235 zw1236 zhc1237 zhf1238 zhp1239
       have zh1240 : zy1235 27 = .agg #[ι (p.i 39), ι 1, ι 0, ι 0, ι 0, ι 0, ι 2, ι 4, ι 0, ι 2, ι 4, ι 0] := (Sp.out0 (zhp1239 23 27 (by kernel_rfl) (by kernel_rfl))).1
       have zh1241 : zy1235 31 = .slice none 0 0 := (Sp.out0 (zhp1239 27 31 (by kernel_rfl) (by kernel_rfl))).1
       have zh1242 : zy1235 35 = .slice none 0 0 := (Sp.out0 (zhp1239 31 35 (by kernel_rfl) (by kernel_rfl))).1
       have zh1243 : zy1235 39 = .agg (rowF .u8 32 (fun _ => 0)) := (Sp.out0 (zhp1239 35 39 (by kernel_rfl) (by kernel_rfl))).1
       have zS1244 := zS942.quiet zhc1237
       refine step1 ?_
       refine yenv [(27, .agg #[ι (p.i 39), ι 1, ι 0, ι 0, ι 0, ι 0, ι 2, ι 4, ι 0, ι 2, ι 4, ι 0]), (31, .slice none 0 0), (35, .slice none 0 0), (39, .agg (rowF .u8 32 (fun _ => 0)))] (ag_cons zh1240 (ag_cons zh1241 (ag_cons zh1242 (ag_cons zh1243 (ag_nil))))) ?_
       have zS1245 := zS1244.loc
       refine Y.pure_ (.agg #[ι (p.i 39), ι 1, ι 0, ι 0, ι 0, ι 0, ι 2, ι 4, ι 0, ι 2, ι 4, ι 0, .slice none 0 0, .slice none 0 0, υ 0, υ 0, υ 0, υ 0, υ 0, υ 0, υ 0, υ 0, υ 0, υ 0, υ 0, υ 0, υ 0, υ 0, υ 0, υ 0, υ 0, υ 0, υ 0, υ 0, υ 0, υ 0, υ 0, υ 0, υ 0, υ 0, υ 0, υ 0, υ 0, υ 0, υ 0, υ 0]) ?_
       exact ⟨zS1245.ch, Sp.mk_holds [] (all_nil)⟩
     refine step_cons ?_ ?_
     · intro zy1246 zw1247 zhc1248 zhf1249 zhp1250
       have zS1251 := zS942.quiet zhc1248
       refine step1 ?_
       refine yenv [] (ag_nil) ?_
       have zS1252 := zS1251.loc
       refine Y.new_ zS1252 (fun b => π b 0) (.cells #[ι 0, ι 0, ι 0, ι 0, ι 0, ι 0, ι 0, ι 0, ι 0, ι 0, ι 0, ι 0, .slice none 0 0, .slice none 0 0, υ 0, υ 0, υ 0, υ 0, υ 0, υ 0, υ 0, υ 0, υ 0, υ 0, υ 0, υ 0, υ 0, υ 0, υ 0, υ 0, υ 0, υ 0, υ 0, υ 0, υ 0, υ 0, υ 0, υ 0, υ 0, υ 0, υ 0, υ 0, υ 0, υ 0, υ 0, υ 0] 54) ?_
       intro zb1253 zw1254 zS1255
       exact ⟨zS1255.ch, Sp.mk_holds [zb1253] (all_cons (zS1255.isNew zhc1248.size 0 (by kernel_rfl)) (all_nil))⟩
     exact step_nil
   intro zv1256 zw1257 zhc1258 zha1259
   have zh1260 : zv1256 0 = π zb215 0 := (Sp.out0 (zha1259 0 (by kernel_rfl))).1
   have zh1261 : zv1256 1 = π zb215 0 := (Sp.out0 (zha1259 1 (by kernel_rfl))).1
   have zh1262 : zv1256 2 = π zb215 108 := (Sp.out0 (zha1259 2 (by kernel_rfl))).1
   have zh1263 : zv1256 3 = ι (p.i 39) := (Sp.out0 (zha1259 3 (by kernel_rfl))).1
   have zh1264 : zv1256 4 = π zb215 0 := (Sp.out0 (zha1259 4 (by kernel_rfl))).1
   have zh1265 : zv1256 5 = π zb215 0 := (Sp.out0 (zha1259 5 (by kernel_rfl))).1
   have zh1266 : zv1256 6 = π zb215 112 := (Sp.out0 (zha1259 6 (by kernel_rfl))).1
   have zh1267 : zv1256 7 = π zb215 112 := (Sp.out0 (zha1259 7 (by kernel_rfl))).1
   have zh1268 : zv1256 8 = ι 1 := (Sp.out0 (zha1259 8 (by kernel_rfl))).1
   have zh1269 : zv1256 9 = π zb215 0 := (Sp.out0 (zha1259 9 (by kernel_rfl))).1
   have zh1270 : zv1256 10 = π zb215 0 := (Sp.out0 (zha1259 10 (by kernel_rfl))).1
   have zh1271 : zv1256 11 = π zb215 112 := (Sp.out0 (zha1259 11 (by kernel_rfl))).1
   have zh1272 : zv1256 12 = π zb215 117 := (Sp.out0 (zha1259 12 (by kernel_rfl))).1
   have zh1273 : zv1256 13 = .agg #[ι 0, ι 0, ι 0, ι 0] := (Sp.out0 (zha1259 13 (by kernel_rfl))).1
   have zh1274 : zv1256 14 = π zb215 0 := (Sp.out0 (zha1259 14 (by kernel_rfl))).1
   have zh1275 : zv1256 15 = π zb215 0 := (Sp.out0 (zha1259 15 (by kernel_rfl))).1
   have zh1276 : zv1256 16 = π zb215 109 := (Sp.out0 (zha1259 16 (by kernel_rfl))).1
   have zh1277 : zv1256 17 = .agg #[ι 2, ι 4, ι 0] := (Sp.out0 (zha1259 17 (by kernel_rfl))).1
   have zh1278 : zv1256 18 = π zb215 0 := (Sp.out0 (zha1259 18 (by kernel_rfl))).1
   have zh1279 : zv1256 19 = π zb215 0 := (Sp.out0 (zha1259 19 (by kernel_rfl))).1
   have zh1280 : zv1256 20 = π zb215 112 := (Sp.out0 (zha1259 20 (by kernel_rfl))).1
   have zh1281 : zv1256 21 = π zb215 121 := (Sp.out0 (zha1259 21 (by kernel_rfl))).1
   have zh1282 : zv1256 22 = .agg #[ι 2, ι 4, ι 0] := (Sp.out0 (zha1259 22 (by kernel_rfl))).1
   have zh1283 : zv1256 23 = .agg #[ι (p.i 39), ι 1, ι 0, ι 0, ι 0, ι 0, ι 2, ι 4, ι 0, ι 2, ι 4, ι 0] := (Sp.out0 (zha1259 23 (by kernel_rfl))).1
   have zh1284 : zv1256 24 = π zb215 0 := (Sp.out0 (zha1259 24 (by kernel_rfl))).1
   have zh1285 : zv1256 25 = π zb215 0 := (Sp.out0 (zha1259 25 (by kernel_rfl))).1
   have zh1286 : zv1256 26 = π zb215 156 := (Sp.out0 (zha1259 26 (by kernel_rfl))).1
   have zh1287 : zv1256 27 = .slice none 0 0 := (Sp.out0 (zha1259 27 (by kernel_rfl))).1
   have zh1288 : zv1256 28 = π zb215 0 := (Sp.out0 (zha1259 28 (by kernel_rfl))).1
   have zh1289 : zv1256 29 = π zb215 0 := (Sp.out0 (zha1259 29 (by kernel_rfl))).1
   have zh1290 : zv1256 30 = π zb215 157 := (Sp.out0 (zha1259 30 (by kernel_rfl))).1
   have zh1291 : zv1256 31 = .slice none 0 0 := (Sp.out0 (zha1259 31 (by kernel_rfl))).1
   have zh1292 : zv1256 32 = π zb215 0 := (Sp.out0 (zha1259 32 (by kernel_rfl))).1
   have zh1293 : zv1256 33 = π zb215 0 := (Sp.out0 (zha1259 33 (by kernel_rfl))).1
   have zh1294 : zv1256 34 = π zb215 124 := (Sp.out0 (zha1259 34 (by kernel_rfl))).1
   have zh1295 : zv1256 35 = .agg (rowF .u8 32 (fun _ => 0)) := (Sp.out0 (zha1259 35 (by kernel_rfl))).1
   have zh1296 : zv1256 36 = .agg #[ι (p.i 39), ι 1, ι 0, ι 0, ι 0, ι 0, ι 2, ι 4, ι 0, ι 2, ι 4, ι 0, .slice none 0 0, .slice none 0 0, υ 0, υ 0, υ 0, υ 0, υ 0, υ 0, υ 0, υ 0, υ 0, υ 0, υ 0, υ 0, υ 0, υ 0, υ 0, υ 0, υ 0, υ 0, υ 0, υ 0, υ 0, υ 0, υ 0, υ 0, υ 0, υ 0, υ 0, υ 0, υ 0, υ 0, υ 0, υ 0] := (Sp.out0 (zha1259 36 (by kernel_rfl))).1
   have zo1300 := Sp.out1 (zha1259 37 (by kernel_rfl))
   obtain ⟨zb1298, zh1297', zg1299'⟩ := zo1300
   have zh1297 : zv1256 37 = π zb1298 0 := zh1297'
   have zg1299 : ∀ zp ∈ ([(zb1298, .cells #[ι 0, ι 0, ι 0, ι 0, ι 0, ι 0, ι 0, ι 0, ι 0, ι 0, ι 0, ι 0, .slice none 0 0, .slice none 0 0, υ 0, υ 0, υ 0, υ 0, υ 0, υ 0, υ 0, υ 0, υ 0, υ 0, υ 0, υ 0, υ 0, υ 0, υ 0, υ 0, υ 0, υ 0, υ 0, υ 0, υ 0, υ 0, υ 0, υ 0, υ 0, υ 0, υ 0, υ 0, υ 0, υ 0, υ 0, υ 0] 54 (0, 0))] : List (Nat × Obj)), zw941.heap.size ≤ zp.1 ∧ zw1257.heap[zp.1]? = some zp.2 := zg1299'
   have zS1301 := zS942.new zhc1258 (zg1299 _ (List.Mem.head _)).1 (zg1299 _ (List.Mem.head _)).2
   refine ⟨[π zb215 0, π zb215 0, π zb215 108, ι (p.i 39), π zb215 0, π zb215 0, π zb215 112, π zb215 112, ι 1, π zb215 0, π zb215 0, π zb215 112, π zb215 117, .agg #[ι 0, ι 0, ι 0, ι 0], π zb215 0, π zb215 0, π zb215 109, .agg #[ι 2, ι 4, ι 0], π zb215 0, π zb215 0, π zb215 112, π zb215 121, .agg #[ι 2, ι 4, ι 0], .agg #[ι (p.i 39), ι 1, ι 0, ι 0, ι 0, ι 0, ι 2, ι 4, ι 0, ι 2, ι 4, ι 0], π zb215 0, π zb215 0, π zb215 156, .slice none 0 0, π zb215 0, π zb215 0, π zb215 157, .slice none 0 0, π zb215 0, π zb215 0, π zb215 124, .agg (rowF .u8 32 (fun _ => 0)), .agg #[ι (p.i 39), ι 1, ι 0, ι 0, ι 0, ι 0, ι 2, ι 4, ι 0, ι 2, ι 4, ι 0, .slice none 0 0, .slice none 0 0, υ 0, υ 0, υ 0, υ 0, υ 0, υ 0, υ 0, υ 0, υ 0, υ 0, υ 0, υ 0, υ 0, υ 0, υ 0, υ 0, υ 0, υ 0, υ 0, υ 0, υ 0, υ 0, υ 0, υ 0, υ 0, υ 0, υ 0, υ 0, υ 0, υ 0, υ 0, υ 0], π zb1298 0], by kernel_rfl, va_cons zh1260 (va_cons zh1261 (va_cons zh1262 (va_cons zh1263 (va_cons zh1264 (va_cons zh1265 (va_cons zh1266 (va_cons zh1267 (va_cons zh1268 (va_cons zh1269 (va_cons zh1270 (va_cons zh1271 (va_cons zh1272 (va_cons zh1273 (va_cons zh1274 (va_cons zh1275 (va_cons zh1276 (va_cons zh1277 (va_cons zh1278 (va_cons zh1279 (va_cons zh1280 (va_cons zh1281 (va_cons zh1282 (va_cons zh1283 (va_cons zh1284 (va_cons zh1285 (va_cons zh1286 (va_cons zh1287 (va_cons zh1288 (va_cons zh1289 (va_cons zh1290 (va_cons zh1291 (va_cons zh1292 (va_cons zh1293 (va_cons zh1294 (va_cons zh1295 (va_cons zh1296 (va_cons zh1297 (va_nil)))))))))))))))))))))))))))))))))))))), ?_⟩
   refine store_ zS1301 0 (.agg #[ι (p.i 39), ι 1, ι 0, ι 0, ι 0, ι 0, ι 2, ι 4, ι 0, ι 2, ι 4, ι 0, .slice none 0 0, .slice none 0 0, υ 0, υ 0, υ 0, υ 0, υ 0, υ 0, υ 0, υ 0, υ 0, υ 0, υ 0, υ 0, υ 0, υ 0, υ 0, υ 0, υ 0, υ 0, υ 0, υ 0, υ 0, υ 0, υ 0, υ 0, υ 0, υ 0, υ 0, υ 0, υ 0, υ 0, υ 0, υ 0]) zb1298 0 ?_
   intro zw1302 zS1303
   refine nsr_ (move_ (pure_ (π zb215 0) (pure_ (π zb215 156) ?_)))
   refine store_ zS1303 11 (.slice none 0 0) zb215 156 ?_
   intro zw1304 zS1305
   refine nsr_ (move_ (pure_ (π zb215 0) (pure_ (π zb215 157) ?_)))
   refine store_ zS1305 11 (.slice none 0 0) zb215 157 ?_
   intro zw1306 zS1307
   refine nsr_ (loadN_ zS1307 0 46 #[ι (p.i 39), ι 1, ι 0, ι 0, ι 0, ι 0, ι 2, ι 4, ι 0, ι 2, ι 4, ι 0, .slice none 0 0, .slice none 0 0, υ 0, υ 0, υ 0, υ 0, υ 0, υ 0, υ 0, υ 0, υ 0, υ 0, υ 0, υ 0, υ 0, υ 0, υ 0, υ 0, υ 0, υ 0, υ 0, υ 0, υ 0, υ 0, υ 0, υ 0, υ 0, υ 0, υ 0, υ 0, υ 0, υ 0, υ 0, υ 0] zb1298 0 ?_)
   refine store_ zS1307 1 (.agg #[ι (p.i 39), ι 1, ι 0, ι 0, ι 0, ι 0, ι 2, ι 4, ι 0, ι 2, ι 4, ι 0, .slice none 0 0, .slice none 0 0, υ 0, υ 0, υ 0, υ 0, υ 0, υ 0, υ 0, υ 0, υ 0, υ 0, υ 0, υ 0, υ 0, υ 0, υ 0, υ 0, υ 0, υ 0, υ 0, υ 0, υ 0, υ 0, υ 0, υ 0, υ 0, υ 0, υ 0, υ 0, υ 0, υ 0, υ 0, υ 0]) zb940 0 ?_
   intro zw1308 zS1309
   refine nil_ (then_n (wp_ret (ret_ rfl (res_ [.cell 2 54] [.agg #[ι (p.i 39), ι 1, ι 0, ι 0, ι 0, ι 0, ι 2, ι 4, ι 0, ι 2, ι 4, ι 0, .slice none 0 0, .slice none 0 0, υ 0, υ 0, υ 0, υ 0, υ 0, υ 0, υ 0, υ 0, υ 0, υ 0, υ 0, υ 0, υ 0, υ 0, υ 0, υ 0, υ 0, υ 0, υ 0, υ 0, υ 0, υ 0, υ 0, υ 0, υ 0, υ 0, υ 0, υ 0, υ 0, υ 0, υ 0, υ 0]] (.agg #[ι (p.i 39), ι 1, ι 0, ι 0, ι 0, ι 0, ι 2, ι 4, ι 0, ι 2, ι 4, ι 0, .slice none 0 0, .slice none 0 0, υ 0, υ 0, υ 0, υ 0, υ 0, υ 0, υ 0, υ 0, υ 0, υ 0, υ 0, υ 0, υ 0, υ 0, υ 0, υ 0, υ 0, υ 0, υ 0, υ 0, υ 0, υ 0, υ 0, υ 0, υ 0, υ 0, υ 0, υ 0, υ 0, υ 0, υ 0, υ 0]) ⟨res_cellN zS1309 1 46 zb940 0, trivial⟩) ?_)))
   refine call_ 15 #[.agg #[ι (p.i 39), ι 1, ι 0, ι 0, ι 0, ι 0, ι 2, ι 4, ι 0, ι 2, ι 4, ι 0, .slice none 0 0, .slice none 0 0, υ 0, υ 0, υ 0, υ 0, υ 0, υ 0, υ 0, υ 0, υ 0, υ 0, υ 0, υ 0, υ 0, υ 0, υ 0, υ 0, υ 0, υ 0, υ 0, υ 0, υ 0, υ 0, υ 0, υ 0, υ 0, υ 0, υ 0, υ 0, υ 0, υ 0, υ 0, υ 0], .agg #[ι (p.i 39), ι 1, ι 0, ι 0, ι 0, ι 0, ι 2, ι 4, ι 0, ι 2, ι 4, ι 0, .slice none 0 0, .slice none 0 0, υ 0, υ 0, υ 0, υ 0, υ 0, υ 0, υ 0, υ 0, υ 0, υ 0, υ 0, υ 0, υ 0, υ 0, υ 0, υ 0, υ 0, υ 0, υ 0, υ 0, υ 0, υ 0, υ 0, υ 0, υ 0, υ 0, υ 0, υ 0, υ 0, υ 0, υ 0, υ 0]] (enter_ Tryz.func15 rfl (seq_ (reg_ ?_)))
   refine new_ zS1309 (fun b => π b 0) (.cells #[ι (p.i 39), ι 1, ι 0, ι 0, ι 0, ι 0, ι 2, ι 4, ι 0, ι 2, ι 4, ι 0, .slice none 0 0, .slice none 0 0, υ 0, υ 0, υ 0, υ 0, υ 0, υ 0, υ 0, υ 0, υ 0, υ 0, υ 0, υ 0, υ 0, υ 0, υ 0, υ 0, υ 0, υ 0, υ 0, υ 0, υ 0, υ 0, υ 0, υ 0, υ 0, υ 0, υ 0, υ 0, υ 0, υ 0, υ 0, υ 0] 54) ?_
   intro zb1310 zw1311 zS1312
   refine new_ zS1312 (fun b => π b 0) (.cells #[ι (p.i 39), ι 1, ι 0, ι 0, ι 0, ι 0, ι 2, ι 4, ι 0, ι 2, ι 4, ι 0, .slice none 0 0, .slice none 0 0, υ 0, υ 0, υ 0, υ 0, υ 0, υ 0, υ 0, υ 0, υ 0, υ 0, υ 0, υ 0, υ 0, υ 0, υ 0, υ 0, υ 0, υ 0, υ 0, υ 0, υ 0, υ 0, υ 0, υ 0, υ 0, υ 0, υ 0, υ 0, υ 0, υ 0, υ 0, υ 0] 54) ?_
   intro zb1313 zw1314 zS1315
   refine pure_ (φ) (nsr_ (pure_ (π zb1310 12) (load1_ zS1315 1 (.slice none 0 0) zb1310 12 (pure_ (π zb1313 12) (load1_ zS1315 0 (.slice none 0 0) zb1313 12 (call_ 44 #[.slice none 0 0, .slice none 0 0] (enter_ Tryz.func44 rfl (seq_ (reg_ (pure_ (φ) (nil_ (then_n (seq_ (seq_ (reg_ (pure_ (.slice none 0 0) (pure_ (ι 0) (pure_ (.slice none 0 0) (pure_ (ι 0) (pure_ (φ) (nil_ (then_n (cond_F (wp_skip (then_n (seq_ (seq_ (reg_ (pure_ (ι 0) (nil_ (then_n (wp_block (loop_ 24 (seq_ (seq_ (reg_ (pure_ (ι 0) (pure_ (.slice none 0 0) (pure_ (ι 0) (pure_ (φ) (nil_ (then_n (cond_F (wp_exit (then_e (then_e (blk_e (then_n (seq_ (reg_ (pure_ (τ) (nil_ (then_n (wp_ret (ret_ rfl (res_ [.tmp 4] [τ] (τ) ⟨res_tmp, trivial⟩) (pure_ (τ) (nsr_ (pure_ (π zb1310 13) (load1_ zS1315 1 (.slice none 0 0) zb1310 13 (pure_ (π zb1313 13) ?_))))))))))))))))))))))))))))))))))))))))))))))))))))))))))))
   refine load1_ zS1315 0 (.slice none 0 0) zb1313 13 (call_ 45 #[.slice none 0 0, .slice none 0 0] (enter_ Tryz.func45 rfl (seq_ (reg_ (pure_ (φ) (nil_ (then_n (seq_ (seq_ (reg_ (pure_ (.slice none 0 0) (pure_ (ι 0) (pure_ (.slice none 0 0) (pure_ (ι 0) (pure_ (φ) (nil_ (then_n (cond_F (wp_skip (then_n (seq_ (seq_ (reg_ (pure_ (ι 0) (nil_ (then_n (wp_block (loop_ 24 (seq_ (seq_ (reg_ (pure_ (ι 0) (pure_ (.slice none 0 0) (pure_ (ι 0) (pure_ (φ) (nil_ (then_n (cond_F (wp_exit (then_e (then_e (blk_e (then_n (seq_ (reg_ (pure_ (τ) (nil_ (then_n (wp_ret (ret_ rfl (res_ [.tmp 4] [τ] (τ) ⟨res_tmp, trivial⟩) (pure_ (τ) (nsr_ (pure_ (τ) (pure_ (τ) (pure_ (τ) (pure_ (τ) (pure_ (τ) (pure_ (π zb1310 0) (loadN_ zS1315 1 12 #[ι (p.i 39), ι 1, ι 0, ι 0, ι 0, ι 0, ι 2, ι 4, ι 0, ι 2, ι 4, ι 0] zb1310 0 (pure_ (π zb1313 0) ?_))))))))))))))))))))))))))))))))))))))))))))))))))))))))))))
   refine loadN_ zS1315 0 12 #[ι (p.i 39), ι 1, ι 0, ι 0, ι 0, ι 0, ι 2, ι 4, ι 0, ι 2, ι 4, ι 0] zb1313 0 (eqAgg_ false (((p.i 39) == (p.i 39)) && true) #[ι (p.i 39), ι 1, ι 0, ι 0, ι 0, ι 0, ι 2, ι 4, ι 0, ι 2, ι 4, ι 0] #[ι (p.i 39), ι 1, ι 0, ι 0, ι 0, ι 0, ι 2, ι 4, ι 0, ι 2, ι 4, ι 0] (pure_ (.bool (((p.i 39) == (p.i 39)) && true)) (move_ (slotK_ 28 (((p.i 39) == (p.i 39)) && true) true (andT (eqT (by omega)) (rfl)) (pure_ (π zb1310 14) (loadN_ zS1315 1 32 (rowF .u8 32 (fun _ => 0)) zb1310 14 (pure_ (π zb1313 14) (loadN_ zS1315 0 32 (rowF .u8 32 (fun _ => 0)) zb1313 14 (eqAgg_ false true (rowF .u8 32 (fun _ => 0)) (rowF .u8 32 (fun _ => 0)) (pure_ (τ) (pure_ (τ) (nil_ (then_n (wp_ret (ret_ rfl (res_ [.tmp 4] [τ] (τ) ⟨res_tmp, trivial⟩) (pure_ (τ) (nsr_ (pure_ (τ) (pure_ (τ) (pure_ (ι 0) (pure_ (τ) (pure_ (τ) (pure_ (τ) (pure_ (τ) (pure_ (τ) ?_)))))))))))))))))))))))))
   refine pure_ (τ) (pure_ (τ) (pure_ (τ) (pure_ (τ) (nil_ (then_n (wp_ret (ret_ rfl (res_ [.tmp 2] [τ] (τ) ⟨res_tmp, trivial⟩) ?_)))))))
   exact ⟨rfl, zS1315.ch⟩
 intro zh1316
 have zh1317 := eqF' zh1316
 refine call_ 10 #[.agg (polP p ka (cutK kn) kc)] ?_
 refine (corebad_ p ka (cutK kn) kc (by omega) _).mono ?_; rintro _ zw1318 ⟨rfl, zh1319⟩
 have zS1320 := zS23.quiet zh1319
 refine move_ (pure_ (.pointer none) (pure_ (ι (polCode p.i (cutK kn))) (pure_ (.pointer none) (assign_ (nsr_ (loadN_ zS1320 0 56 (polP p ka (cutK kn) kc) zb1 0 (call_ 11 #[.agg (polP p ka (cutK kn) kc)] (enter_ Tryz.func11 rfl (seq_ (reg_ ?_))))))))))
 refine new_ zS1320 (fun b => π b 0) (.cells (polP p ka (cutK kn) kc) 28) ?_
 intro zb1321 zw1322 zS1323
 refine pure_ (.pointer none) (pure_ (ι 0) (nsr_ (loadN_ zS1323 0 56 (polP p ka (cutK kn) kc) zb1321 0 (call_ 34 #[.agg (polP p ka (cutK kn) kc)] ?_))))
 refine (rcheckP_ p ka (cutK kn) kc _).mono ?_; rintro _ zw1324 ⟨rfl, zh1325⟩
 have zS1326 := zS1323.quiet zh1325
 refine assign_ (nil_ (then_n (seq_ (seq_ (reg_ (move_ (pureE_ (.bool ((polCode p.i (cutK kn)) != 0)) (τ) (congrArg Value.bool (neT (by omega))) (nil_ (then_n (cond_T (seq_ (reg_ (move_ (pure_ (.pointer none) (assign_ (nil_ (then_n (wp_ret (then_r (ret_ rfl (res_ [.tmp 2, .tmp 3] [.pointer none, ι (polCode p.i (cutK kn))] (.tuple #[.pointer none, ι (polCode p.i (cutK kn))]) ⟨res_tmp, res_tmp, trivial⟩) (move_ (pure_ (.pointer none) (pure_ (ι (polCode p.i (cutK kn))) (pure_ (.pointer none) (assign_ (nil_ (then_n (seq_ (seq_ (reg_ (move_ (pureE_ (.bool ((polCode p.i (cutK kn)) != 0)) (τ) (congrArg Value.bool (neT (by omega))) (nil_ (then_n (cond_T (seq_ (reg_ (pure_ (τ) (pure_ (τ) (pure_ (.pointer none) (pure_ (τ) (pure_ (τ) (pure_ (τ) (move_ (move_ ?_)))))))))))))))))))))))))))))))))))))))))))))
 refine pureE_ (.bool ((polCode p.i (cutK kn)) == (polCode p.i (cutK kn)))) (τ) (congrArg Value.bool (eqT (by omega))) (pure_ (τ) (pure_ (τ) (nil_ (then_n (wp_ret (then_r (ret_ rfl (res_ [.tmp 2] [τ] (τ) ⟨res_tmp, trivial⟩) ?_)))))))
 exact ⟨rfl, zS1326.ch⟩

end Go.Proofs.YtbjanfgipcniiaaGreatDoor
