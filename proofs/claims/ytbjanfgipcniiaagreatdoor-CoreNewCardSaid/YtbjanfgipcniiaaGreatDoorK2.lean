/- Package mac. -/
import Derived.Test.YtbjanfgipcniiaaGreatDoorK1
import Derived.Test.YtbjanfgipcniiaaGreatDoorSKY
namespace Go.Proofs.YtbjanfgipcniiaaGreatDoor
open Go Go.RowKit Go.BigFrame Sx
set_option linter.unusedVariables false
set_option linter.unusedSimpArgs false

def tWF (f : Nat → Int) (x : Int) : Nat → Nat → Int
  | 0 => fun _ => 0
  | k + 1 => updF (tWF f x k) k (bits .xor .u8 (f k) x)
def turnF (f : Nat → Int) (x : Int) : Nat → Int := fun j => bits .xor .u8 (f j) x
theorem tWF_at (f : Nat → Int) (x : Int) : ∀ (k j : Nat), j < k → tWF f x k j = turnF f x j
  | k + 1, j, h => by
    by_cases e : j = k
    · subst e; exact updF_eq _ _ _
    · exact (updF_ne _ _ e).trans (tWF_at f x k j (by omega))
theorem turn_row (f : Nat → Int) (x : Int) : rowF .u8 64 (tWF f x 64) = rowF .u8 64 (turnF f x) := rowF_congr _ fun i h => tWF_at f x 64 i h
theorem turn_step {f : Nat → Int} {x : Int} (i : Int) (W : Nat → Int) (h : 0 ≤ i) (e : W = tWF f x i.toNat) : updF W (0 + i.toNat * 1) (bits .xor .u8 (f i.toNat) x) = tWF f x (i + 1).toNat := by
  have h1 : (i + 1).toNat = i.toNat + 1 := by omega
  rw [h1, e, Nat.zero_add, Nat.mul_one]; rfl
theorem bvZ_congr {n m c : Nat} {f g : Nat → Int} (e : n = m) (h : ∀ i, i < m → f i = g i) : bvZ n f c = bvZ m g c := by
  subst e; unfold bvZ; rw [bvF_congr h]
def cat3 (n1 n2 : Nat) (f g h : Nat → Int) : Nat → Int := catF (n1 + n2) (catF n1 f g) h
def cat4 (n1 n2 n3 : Nat) (f g h k : Nat → Int) : Nat → Int := catF (n1 + n2 + n3) (catF (n1 + n2) (catF n1 f g) h) k

set_option maxRecDepth 100000 in
set_option maxHeartbeats 4000000 in
theorem turned_ (f : Nat → Int) (y : Int) (w : World) :
    Gives Tryz.prog 247 #[.agg (rowF .u8 64 f), υ y] w fun v w1 => ∃ b, v = σ b 0 64 64 ∧ w.heap.size ≤ b ∧ w1.heap[b]? = some (.cells (rowF .u8 64 (turnF f y)) 5 (0, 0)) ∧ Ch [] w w1 := by
 have S0 := St.nil [] w
 refine enter_ Tryz.func247 rfl (seq_ (reg_ ?_))
 refine new_ S0 (fun b => π b 0) (.cells (rowF .u8 64 f) 233) ?_
 intro zb1 zw2 zS3
 refine pure_ (.slice none 0 0) (nsr_ ?_)
 refine new_ zS3 (fun b => σ b 0 64 64) (.cells (rowF .u8 64 (fun _ => 0)) 5) ?_
 intro zb4 zw5 zS6
 refine assign_ (nil_ (then_n (seq_ (seq_ (reg_ (loadN_ zS6 1 64 (rowF .u8 64 f) zb1 0 (pure_ (ι 0) (nil_ (then_n (wp_block ?_))))))))))
 refine loopJ_ (fun zn za zw => ∃ (i : Int) (W : Nat → Int) (zj7 : Nat → Value), (zn = (64 - i).toNat ∧ 0 ≤ i ∧ i ≤ 64 ∧ W = tWF f y i.toNat) ∧ za = ⟨#[.agg (rowF .u8 64 f), υ y, π zb1 0, undef, .slice none 0 0, σ zb4 0 64 64, (zj7 6), (zj7 7), σ zb4 0 64 64, .agg (rowF .u8 64 f), ι i, (zj7 11), (zj7 12), (zj7 13), (zj7 14), (zj7 15), (zj7 16), (zj7 17), (zj7 18), (zj7 19), (zj7 20), undef], []⟩ ∧ St [] w [(β zb4 (rowF .u8 64 W) 5), (β zb1 (rowF .u8 64 f) 233)] zw) _ (fun zy zye => ⟨(0 : Int), (fun _ => 0), (fun d => zy.tmps.getD d undef), ⟨rfl, by omega, by omega, rfl⟩, by subst zye; kernel_rfl, zS6.re (R := ([] : List Blk)) [[(β zb4 (rowF .u8 64 (fun _ => 0)) 5)], [(β zb1 (rowF .u8 64 f) 233)]] [0, 1]⟩) ?_
 rintro _ _ zw11 ⟨i, W, zj7, ⟨rfl, zf8, zf9, zf10⟩, rfl, zS12⟩
 refine seq_ (reg_ (pure_ (.bool (decide (i < 64))) (nil_ (then_n (seq_ ?_)))))
 refine cond_S (decide (i < 64)) ?_ ?_
 · intro zh13
   have zh14 := ltT' zh13
   refine wp_skip (then_n (seq_ (wp_block (seq_ (reg_ (pure_ (ι i) (indexV_ (e := 5) .u8 64 f .i64 i (by omega) (by omega) (pure_ (ι i) (pure_ (υ (f (i).toNat)) (ns_ (move_ (pure_ (ι i) (pure_ (υ (f (i).toNat)) (pure_ (υ y) (pure_ (υ (bits .xor .u8 (f (i).toNat) y)) (idxS_ (e := 5) zb4 0 (i).toNat 64 1 64 .i64 i (by omega) (by omega) rfl ?_))))))))))))))))
   refine store_ zS12 0 (υ (bits .xor .u8 (f (i).toNat) y)) zb4 (0 + (i).toNat * 1) ?_ (hb := ckF (t := 5) (kd := .u8) (n := 64) (f := W) (by omega))
   intro zw15 zS16
   have zS17 : St [] w [(β zb4 (rowF .u8 64 (updF W (0 + (i).toNat * 1) (bits .xor .u8 (f (i).toNat) y))) 5), (β zb1 (rowF .u8 64 f) 233)] zw15 := St.stF (t := 5) (kd := .u8) (n := 64) (f := W) (i := 0) (off := (0 + (i).toNat * 1)) (b := zb4) zS16 (by omega)
   refine nil_ (blk_n (then_n (reg_ (sum_ .i64 (i + 1) (IntWalk.i64_in _ (by omega)) (pure_ (ι (i + 1)) (nil_ ?_))))))
   refine then_j fun zy zye => ?_
   exact ⟨_, by omega, (i + 1), (updF W (0 + (i).toNat * 1) (bits .xor .u8 (f (i).toNat) y)), (fun d => zy.tmps.getD d undef), ⟨rfl, by omega, by omega, turn_step i W (by omega) zf10⟩, by subst zye; kernel_rfl, zS17.re (R := ([] : List Blk)) [[(β zb4 (rowF .u8 64 (updF W (0 + (i).toNat * 1) (bits .xor .u8 (f (i).toNat) y))) 5)], [(β zb1 (rowF .u8 64 f) 233)]] [0, 1]⟩
 intro zh18
 have zh19 := ltF' zh18
 refine wp_exit (then_e (then_e (blk_e (then_n (seq_ (reg_ (move_ (assign_ (nil_ (then_n (wp_ret (ret_ rfl (res_ [.tmp 4] [σ zb4 0 64 64] (σ zb4 0 64 64) ⟨res_tmp, trivial⟩) ?_))))))))))))
 have ze : rowF .u8 64 W = rowF .u8 64 (turnF f y) := by rw [zf10, show i.toNat = 64 by omega]; exact turn_row f y
 exact ⟨zb4, rfl, (zS12.own 0 _ rfl rfl).resolve_left (by simp), by rw [← ze]; exact zS12.at_ 0 _ rfl, zS12.ch⟩

set_option maxRecDepth 100000 in
set_option maxHeartbeats 4000000 in
theorem mjoin_2 (pb : Nat) (b0 o0 n0 c0 : Nat) (f0 : Nat → Int) (b1 o1 n1 c1 : Nat) (f1 : Nat → Int) (h0 : 0 < n0) (hn : n0 + n1 ≤ 1000000) (w : World) (hp : w.heap[pb]? = some (.cells #[σ b0 o0 n0 c0, σ b1 o1 n1 c1] 23 (0, 0))) (hB0 : At8 w b0 o0 n0 f0) (hB1 : At8 w b1 o1 n1 f1) :
    Gives Tryz.prog 246 #[σ pb 0 2 2] w fun v w1 => ∃ b c1, v = σ b 0 (n0 + n1) c1 ∧ n0 + n1 ≤ c1 ∧ w.heap.size ≤ b ∧ w1.heap[b]? = some (.cells (bvZ (n0 + n1) (catF n0 f0 f1) c1) 5 (0, 0)) ∧ Ch [] w w1 := by
 have S0 := St.given (w := w) [(pb, .cells #[σ b0 o0 n0 c0, σ b1 o1 n1 c1] 23 (0, 0))] (all_cons hp (all_nil))
 refine enter_ Tryz.func246 rfl (seq_ (reg_ (pure_ (.slice none 0 0) (nsr_ (pure_ (.slice none 0 0) (nil_ (then_n (seq_ (seq_ (reg_ (move_ (pure_ (ι 2) (pure_ (ι 0) (nil_ (then_n (wp_block (loop_ 24 (seq_ (reg_ (pure_ (τ) (nil_ (then_n (seq_ (cond_T (wp_skip (then_n (seq_ (wp_block (seq_ (reg_ (pure_ (π pb 0) (load1_ S0 0 (σ b0 o0 n0 c0) pb 0 (assign_ (ns_ (pure_ (.slice none 0 0) (move_ ?_))))))))))))))))))))))))))))))))))))
 have zS7 : St [] w ([⟨pb, false, .cells #[σ b0 o0 n0 c0, σ b1 o1 n1 c1] 23 (0, 0)⟩] ++ ([] : List Blk)) w := S0.re (R := ([] : List Blk)) [[⟨pb, false, .cells #[σ b0 o0 n0 c0, σ b1 o1 n1 c1] 23 (0, 0)⟩]] [0]
 have zS8 : St [] w ([⟨pb, false, .cells #[σ b0 o0 n0 c0, σ b1 o1 n1 c1] 23 (0, 0)⟩] ++ ([] ++ ([] : List Blk))) w := zS7.conv (by kernel_rfl)
 refine append8_ (n := 0) (c := 0) (f := (fun _ => 0)) (g := f0) (xv := σ b0 o0 n0 c0) zS8 (row8_nil 5) (src8 (e' := 5) (St.old8 S0 hB0 (by simp))) (by omega) ?_
 intro zx2 zc3 zq1 zw5 zh4 zS6
 have zo13 := row8_at zh4 (by omega)
 obtain ⟨zb9, zh12, zh10, zh11⟩ := zo13
 subst zh10; subst zh11
 refine assign_ (nil_ (blk_n (then_n (reg_ (pure_ (ι 1) (pure_ (ι 1) (nil_ (again_ (seq_ (reg_ (pure_ (τ) (nil_ (then_n (seq_ (cond_T (wp_skip (then_n (seq_ (wp_block (seq_ (reg_ (pure_ (π pb 1) (load1_ zS6 0 (σ b1 o1 n1 c1) pb 1 (assign_ (ns_ (move_ (move_ ?_)))))))))))))))))))))))))))
 have zS20 : St [] w ([⟨pb, false, .cells #[σ b0 o0 n0 c0, σ b1 o1 n1 c1] 23 (0, 0)⟩] ++ ([(β zb9 (bvZ (0 + n0) (catF 0 (fun _ => 0) f0) zc3) 5)] ++ ([] : List Blk))) zw5 := zS6.re (R := ([] : List Blk)) [[⟨pb, false, .cells #[σ b0 o0 n0 c0, σ b1 o1 n1 c1] 23 (0, 0)⟩], [(β zb9 (bvZ (0 + n0) (catF 0 (fun _ => 0) f0) zc3) 5)]] [0, 1]
 refine append8_ (n := (0 + n0)) (c := zc3) (f := (catF 0 (fun _ => 0) f0)) (g := f1) (xv := σ b1 o1 n1 c1) zS20 ⟨zh12, .inr ⟨_, rfl, rfl⟩⟩ (src8 (e' := 5) (St.old8 zS6 hB1 (by simp))) (by omega) ?_
 intro zx15 zc16 zq14 zw18 zh17 zS19
 have zo25 := row8_at zh17 (by omega)
 obtain ⟨zb21, zh24, zh22, zh23⟩ := zo25
 subst zh22; subst zh23
 refine assign_ (nil_ (blk_n (then_n (reg_ (pure_ (ι 2) (pure_ (ι 2) (nil_ (again_ (seq_ (reg_ (pure_ (φ) (nil_ (then_n (seq_ (cond_F (wp_exit (then_e (then_e (blk_e (then_n (seq_ (reg_ (move_ (assign_ (nil_ (then_n (wp_ret (ret_ rfl (res_ [.tmp 2] [σ zb21 0 ((0 + n0) + n1) zc16] (σ zb21 0 ((0 + n0) + n1) zc16) ⟨res_tmp, trivial⟩) ?_))))))))))))))))))))))))))))
 have ze : bvZ ((0 + n0) + n1) (catF (0 + n0) (catF 0 (fun _ => 0) f0) f1) zc16 = bvZ (n0 + n1) (catF n0 f0 f1) zc16 := bvZ_congr (by omega) fun i hi => by simp only [cat0, cat3, cat4, Nat.zero_add]
 exact ⟨zb21, zc16, by rw [show ((0 + n0) + n1) = n0 + n1 by omega], by have := zh24; omega, (zS19.own 1 _ rfl rfl).resolve_left (by simp), by rw [← ze]; exact zS19.at_ 1 _ rfl, zS19.ch⟩

def macF (kn : Nat) (kf : Nat → Int) (n : Nat) (d : Nat → Int) : Nat → Int := shaF (64 + 32) (catF 64 (turnF (ovF (fun _ => 0) 0 kn kf) 92) (shaF (64 + n) (catF 64 (turnF (ovF (fun _ => 0) 0 kn kf) 54) d)))
set_option maxRecDepth 100000 in
set_option maxHeartbeats 4000000 in
theorem of_ (ka : Option Addr) (kn kc : Nat) (kf : Nat → Int) (b o n c : Nat) (d : Nat → Int) (hkn : 1 ≤ kn ∧ kn ≤ 64) (hn : n ≤ 55) {tG : TypeId} (w : World) (hG : w.heap[(0)]? = some (.cells (rowF .u32 64 rootF) tG (0, 0))) (hk : KeyAt w ka kn kc kf) (hB : At8 w b o n d) :
    Gives Tryz.prog 225 #[.slice ka kn kc, σ b o n c] w fun v w1 => v = .agg (rowF .u8 32 (macF kn kf n d)) ∧ Ch [] w w1 := by
 have S0 := St.given (w := w) [((0), .cells (rowF .u32 64 rootF) tG (0, 0))] (all_cons hG (all_nil))
 refine enter_ Tryz.func225 rfl (seq_ (reg_ ?_))
 refine new_ S0 (fun b => π b 0) (.cells (rowF .u8 32 (fun _ => 0)) 52) ?_
 intro zb1 zw2 zS3
 refine nsr_ ?_
 refine new_ zS3 (fun b => π b 0) (.cells (rowF .u8 64 (fun _ => 0)) 233) ?_
 intro zb4 zw5 zS6
 refine nil_ (then_n (seq_ (seq_ (reg_ (pure_ (.slice ka kn kc) (pure_ (ι ((kn : Nat) : Int)) (pureE_ (.bool (decide (64 < ((kn : Nat) : Int)))) (φ) (congrArg Value.bool (ltF (by omega))) (nil_ (then_n (cond_F (reg_ (pure_ (σ zb4 0 64 64) (pure_ (.slice ka kn kc) ?_)))))))))))))
 refine copyK_ (elem := 5) (t := 233) zS6 0 zb4 64 0 64 64 (fun _ => 0) ka kn kc kf (KeyAt.quiet hk zS6.ch) (by omega) (by omega) (by omega) (by kernel_rfl) (by kernel_rfl : _ = [(β zb4 (rowF .u8 64 (ovF (fun _ => 0) 0 kn kf)) 233), (β zb1 (rowF .u8 32 (fun _ => 0)) 52), ⟨(0), false, .cells (rowF .u32 64 rootF) tG (0, 0)⟩]) ?_
 intro zw7 zS8
 refine nsr_ (loadN_ zS8 0 64 (rowF .u8 64 (ovF (fun _ => 0) 0 kn kf)) zb4 0 (call_ 247 #[.agg (rowF .u8 64 (ovF (fun _ => 0) 0 kn kf)), υ 54] ?_))
 refine (turned_ (ovF (fun _ => 0) 0 kn kf) 54 _).mono ?_; rintro _ zw9 ⟨zb12, rfl, zh13, zh14, zh10⟩
 have zS11 := zS8.new zh10 zh13 zh14
 refine move_ ?_
 refine new_ zS11 (fun b => σ b 0 2 2) (.cells #[σ zb12 0 64 64, σ b o n c] 23) ?_
 intro zb15 zw16 zS17
 refine call_ 246 #[σ zb15 0 2 2] ?_
 refine (mjoin_2 zb15 zb12 0 64 64 (turnF (ovF (fun _ => 0) 0 kn kf) 54) b o n c d (by omega) (by omega) _ (zS17.at_ 0 _ rfl) (St.row8 (N := 64) (f := (turnF (ovF (fun _ => 0) 0 kn kf) 54)) (wr := true) (t := 5) (fr := (0, 0)) zS17 1) (St.old8 zS17 hB (by simp))).mono ?_; rintro _ zw18 ⟨zb21, zc22, rfl, zh23, zh24, zh25, zh19⟩
 have zS20 := zS17.new zh19 zh24 zh25
 refine call_ 92 #[σ zb21 0 (64 + n) zc22] ?_
 refine (shasum_ zb21 0 (64 + n) zc22 (catF 64 (turnF (ovF (fun _ => 0) 0 kn kf) 54) d) (by omega) _ (zS20.at_ 5 _ rfl) (St.all8 (c := zc22) (wr := true) (t := 5) (fr := (0, 0)) zS20 0)).mono ?_; rintro _ zw26 ⟨rfl, zh27⟩
 have zS28 := zS20.quiet zh27
 refine new_ zS28 (fun b => π b 0) (.cells (rowF .u8 32 (fun _ => 0)) 52) ?_
 intro zb29 zw30 zS31
 refine store_ zS31 0 (.agg (rowF .u8 32 (shaF (64 + n) (catF 64 (turnF (ovF (fun _ => 0) 0 kn kf) 54) d)))) zb29 0 ?_
 intro zw32 zS33
 refine nil_ (then_n (seq_ ?_))
 refine drawnL_ 3 [⟨0, fun _ => .agg (rowF .u8 64 (ovF (fun _ => 0) 0 kn kf)), fun _ => []⟩, ⟨1, fun ids => σ (ids.getD 0 0) 0 64 64, fun ids => [((ids.getD 0 0), .cells (rowF .u8 64 (turnF (ovF (fun _ => 0) 0 kn kf) 92)) 5 (0, 0))]⟩, ⟨0, fun _ => σ zb29 0 32 32, fun _ => []⟩] [[3, 1, 0], [3, 1], [3, 2], [4, 1, 0], [4, 1], [4, 3, 2], [4, 3], [5, 4, 1, 0], [5, 4, 1], [5, 4, 3, 2], [5, 4, 3], [5, 4], [6, 0], [6, 1], [6, 2], [6, 3], [6, 4], [6, 5]] ?_ ?_
 · refine step_cons ?_ ?_
   · intro zy34 zw35 zhc36 zhf37 zhp38
     have zh39 : zy34 5 = π zb4 0 := (zhf37 5 (by kernel_rfl)).trans (by kernel_rfl)
     have zS40 := zS33.quiet zhc36
     refine step1 ?_
     refine yenv [(5, π zb4 0)] (ag_cons zh39 (ag_nil)) ?_
     have zS41 := zS40.loc
     refine Y.loadN_ zS41 4 64 (rowF .u8 64 (ovF (fun _ => 0) 0 kn kf)) zb4 0 ?_
     exact ⟨zS41.ch, Sp.mk_holds [] (all_nil)⟩
   refine step_cons ?_ ?_
   · intro zy42 zw43 zhc44 zhf45 zhp46
     have zh47 : zy42 25 = .agg (rowF .u8 64 (ovF (fun _ => 0) 0 kn kf)) := (Sp.out0 (zhp46 0 25 (by kernel_rfl) (by kernel_rfl))).1
     have zS48 := zS33.quiet zhc44
     refine step1 ?_
     refine yenv [(25, .agg (rowF .u8 64 (ovF (fun _ => 0) 0 kn kf)))] (ag_cons zh47 (ag_nil)) ?_
     have zS49 := zS48.loc
     refine Y.call_ 247 #[.agg (rowF .u8 64 (ovF (fun _ => 0) 0 kn kf)), υ 92] ?_
     refine (turned_ (ovF (fun _ => 0) 0 kn kf) 92 _).mono ?_; rintro _ zw50 ⟨zb53, rfl, zh54, zh55, zh51⟩
     have zS52 := zS49.new zh51 zh54 zh55
     exact ⟨zS52.ch, Sp.mk_holds [zb53] (all_cons (zS52.isNew zhc44.size 0 (by kernel_rfl)) (all_nil))⟩
   refine step_cons ?_ ?_
   · intro zy56 zw57 zhc58 zhf59 zhp60
     have zh61 : zy56 7 = π zb29 0 := (zhf59 7 (by kernel_rfl)).trans (by kernel_rfl)
     have zS62 := zS33.quiet zhc58
     refine step1 ?_
     refine yenv [(7, π zb29 0)] (ag_cons zh61 (ag_nil)) ?_
     have zS63 := zS62.loc
     refine Y.pure_ (σ zb29 0 32 32) ?_
     exact ⟨zS63.ch, Sp.mk_holds [] (all_nil)⟩
   exact step_nil
 intro zv64 zw65 zhc66 zha67
 have zh68 : zv64 0 = .agg (rowF .u8 64 (ovF (fun _ => 0) 0 kn kf)) := (Sp.out0 (zha67 0 (by kernel_rfl))).1
 have zo72 := Sp.out1 (zha67 1 (by kernel_rfl))
 obtain ⟨zb70, zh69', zg71'⟩ := zo72
 have zh69 : zv64 1 = σ zb70 0 64 64 := zh69'
 have zg71 : ∀ zp ∈ ([(zb70, .cells (rowF .u8 64 (turnF (ovF (fun _ => 0) 0 kn kf) 92)) 5 (0, 0))] : List (Nat × Obj)), zw32.heap.size ≤ zp.1 ∧ zw65.heap[zp.1]? = some zp.2 := zg71'
 have zh73 : zv64 2 = σ zb29 0 32 32 := (Sp.out0 (zha67 2 (by kernel_rfl))).1
 have zS74 := zS33.ro zhc66 ([(zb70, .cells (rowF .u8 64 (turnF (ovF (fun _ => 0) 0 kn kf) 92)) 5 (0, 0))]) (zg71)
 refine ⟨[.agg (rowF .u8 64 (ovF (fun _ => 0) 0 kn kf)), σ zb70 0 64 64, σ zb29 0 32 32], by kernel_rfl, va_cons zh68 (va_cons zh69 (va_cons zh73 (va_nil))), ?_⟩
 refine new_ zS74 (fun b => σ b 0 2 2) (.cells #[σ zb70 0 64 64, σ zb29 0 32 32] 23) ?_
 intro zb75 zw76 zS77
 refine call_ 246 #[σ zb75 0 2 2] ?_
 refine (mjoin_2 zb75 zb70 0 64 64 (turnF (ovF (fun _ => 0) 0 kn kf) 92) zb29 0 32 32 (shaF (64 + n) (catF 64 (turnF (ovF (fun _ => 0) 0 kn kf) 54) d)) (by omega) (by omega) _ (zS77.at_ 0 _ rfl) (St.row8 (N := 64) (f := (turnF (ovF (fun _ => 0) 0 kn kf) 92)) (wr := false) (t := 5) (fr := (0, 0)) zS77 1) (St.row8 (N := 32) (f := (shaF (64 + n) (catF 64 (turnF (ovF (fun _ => 0) 0 kn kf) 54) d))) (wr := true) (t := 52) (fr := (0, 0)) zS77 2)).mono ?_; rintro _ zw78 ⟨zb81, zc82, rfl, zh83, zh84, zh85, zh79⟩
 have zS80 := zS77.new zh79 zh84 zh85
 refine call_ 92 #[σ zb81 0 (64 + 32) zc82] ?_
 refine (shasum_ zb81 0 (64 + 32) zc82 (catF 64 (turnF (ovF (fun _ => 0) 0 kn kf) 92) (shaF (64 + n) (catF 64 (turnF (ovF (fun _ => 0) 0 kn kf) 54) d))) (by omega) _ (zS80.at_ 9 _ rfl) (St.all8 (c := zc82) (wr := true) (t := 5) (fr := (0, 0)) zS80 0)).mono ?_; rintro _ zw86 ⟨rfl, zh87⟩
 have zS88 := zS80.quiet zh87
 refine store_ zS88 8 (.agg (rowF .u8 32 (shaF (64 + 32) (catF 64 (turnF (ovF (fun _ => 0) 0 kn kf) 92) (shaF (64 + n) (catF 64 (turnF (ovF (fun _ => 0) 0 kn kf) 54) d)))))) zb1 0 ?_
 intro zw89 zS90
 refine nil_ (then_n (wp_ret (ret_ rfl (res_ [.cell 4 52] [.agg (rowF .u8 32 (shaF (64 + 32) (catF 64 (turnF (ovF (fun _ => 0) 0 kn kf) 92) (shaF (64 + n) (catF 64 (turnF (ovF (fun _ => 0) 0 kn kf) 54) d)))))] (.agg (rowF .u8 32 (shaF (64 + 32) (catF 64 (turnF (ovF (fun _ => 0) 0 kn kf) 92) (shaF (64 + n) (catF 64 (turnF (ovF (fun _ => 0) 0 kn kf) 54) d)))))) ⟨res_cellN zS90 8 32 zb1 0, trivial⟩) ?_)))
 exact ⟨by (unfold macF) <;> kernel_rfl, zS90.ch⟩

set_option maxRecDepth 100000 in
set_option maxHeartbeats 4000000 in
theorem tag_ (ka : Option Addr) (kn kc : Nat) (kf : Nat → Int) (b o n c : Nat) (d : Nat → Int) (hkn : 1 ≤ kn ∧ kn ≤ 64) (hn : n ≤ 55) {tG : TypeId} (w : World) (hG : w.heap[(0)]? = some (.cells (rowF .u32 64 rootF) tG (0, 0))) (hk : KeyAt w ka kn kc kf) (hB : At8 w b o n d) :
    Gives Tryz.prog 221 #[.slice ka kn kc, σ b o n c] w fun v w1 => v = .agg (rowF .u8 8 (macF kn kf n d)) ∧ Ch [] w w1 := by
 have S0 := St.given (w := w) [((0), .cells (rowF .u32 64 rootF) tG (0, 0))] (all_cons hG (all_nil))
 refine enter_ Tryz.func221 rfl (seq_ (reg_ ?_))
 refine new_ S0 (fun b => π b 0) (.cells (rowF .u8 8 (fun _ => 0)) 78) ?_
 intro zb1 zw2 zS3
 refine nsr_ (pure_ (.slice ka kn kc) (move_ (call_ 225 #[.slice ka kn kc, σ b o n c] ?_)))
 refine (of_ ka kn kc kf b o n c d (by omega) (by omega) _ (zS3.at_ 1 _ rfl) (KeyAt.quiet hk zS3.ch) (St.old8 zS3 hB (by simp))).mono ?_; rintro _ zw4 ⟨rfl, zh5⟩
 have zS6 := zS3.quiet zh5
 refine new_ zS6 (fun b => π b 0) (.cells (rowF .u8 32 (fun _ => 0)) 52) ?_
 intro zb7 zw8 zS9
 refine store_ zS9 0 (.agg (rowF .u8 32 (macF kn kf n d))) zb7 0 ?_
 intro zw10 zS11
 refine nsr_ (pure_ (σ zb7 0 8 32) (pure_ (π zb7 0) (loadN_ zS11 0 8 (rowF .u8 8 (macF kn kf n d)) zb7 0 ?_)))
 refine store_ zS11 1 (.agg (rowF .u8 8 (macF kn kf n d))) zb1 0 ?_
 intro zw12 zS13
 refine nil_ (then_n (wp_ret (ret_ rfl (res_ [.cell 4 78] [.agg (rowF .u8 8 (macF kn kf n d))] (.agg (rowF .u8 8 (macF kn kf n d))) ⟨res_cellN zS13 1 8 zb1 0, trivial⟩) ?_)))
 exact ⟨by kernel_rfl, zS13.ch⟩

end Go.Proofs.YtbjanfgipcniiaaGreatDoor
