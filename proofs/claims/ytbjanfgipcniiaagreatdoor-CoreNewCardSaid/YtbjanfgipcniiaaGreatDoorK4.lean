/- Packages crc, frame. -/
import Derived.Test.YtbjanfgipcniiaaGreatDoorK3
import Derived.Test.YtbjanfgipcniiaaGreatDoorSKZ
import Derived.Test.YtbjanfgipcniiaaGreatDoorC0
namespace Go.Proofs.YtbjanfgipcniiaaGreatDoor
open Go Go.RowKit Go.BigFrame Sx
set_option linter.unusedVariables false
set_option linter.unusedSimpArgs false

def crcT (x : Int) : Int := bif (bits .and .u16 x 32768 != 0) then bits .xor .u16 (IntKind.u16.wrap (x * 2 ^ 1)) 4129 else IntKind.u16.wrap (x * 2 ^ 1)
def crcI (x : Int) : Nat → Int
  | 0 => x
  | k + 1 => crcT (crcI x k)
def crcS (s c : Int) : Int := crcI (bits .xor .u16 s (IntKind.u16.wrap (IntKind.u16.wrap c * 2 ^ 8))) 8
def crcF (f : Nat → Int) : Nat → Int
  | 0 => 65535
  | k + 1 => crcS (crcF f k) (f k)
theorem crcI_t {x s : Int} {i : Int} (h : 0 ≤ i) (e : s = crcI x i.toNat) (hb : (bits .and .u16 s 32768 != 0) = true) : bits .xor .u16 (IntKind.u16.wrap (s * 2 ^ 1)) 4129 = crcI x (i + 1).toNat := by
  have h1 : (i + 1).toNat = i.toNat + 1 := by omega
  rw [h1]; show _ = crcT (crcI x i.toNat); rw [← e]; unfold crcT; rw [hb]; rfl
theorem crcI_f {x s : Int} {i : Int} (h : 0 ≤ i) (e : s = crcI x i.toNat) (hb : (bits .and .u16 s 32768 != 0) = false) : IntKind.u16.wrap (s * 2 ^ 1) = crcI x (i + 1).toNat := by
  have h1 : (i + 1).toNat = i.toNat + 1 := by omega
  rw [h1]; show _ = crcT (crcI x i.toNat); rw [← e]; unfold crcT; rw [hb]; rfl
theorem crcF_step {f : Nat → Int} {s i : Int} (h : 0 ≤ i) (e : s = crcF f i.toNat) : crcS s (f i.toNat) = crcF f (i + 1).toNat := by
  have h1 : (i + 1).toNat = i.toNat + 1 := by omega
  rw [h1, e]; rfl

set_option maxRecDepth 100000 in
set_option maxHeartbeats 4000000 in
theorem crcstep_ (a c : Int) (w : World) :
    Gives Tryz.prog 137 #[.int .u16 a, υ c] w fun v w1 => v = .int .u16 (crcS a c) ∧ Ch [] w w1 := by
 have S0 := St.nil [] w
 refine enter_ Tryz.func137 rfl (seq_ (reg_ (pure_ (.int .u16 0) (nsr_ (pure_ (.int .u16 a) (pure_ (υ c) (pure_ (.int .u16 (IntKind.u16.wrap c)) (pure_ (.int .u16 (IntKind.u16.wrap ((IntKind.u16.wrap c) * 2 ^ 8))) (pure_ (.int .u16 (bits .xor .u16 a (IntKind.u16.wrap ((IntKind.u16.wrap c) * 2 ^ 8)))) (assign_ (nil_ (then_n (seq_ (seq_ (reg_ (pure_ (ι 0) (nil_ (then_n (wp_block ?_)))))))))))))))))))
 refine loopJ_ (fun zn za zw => ∃ (i : Int) (s : Int) (zj1 : Nat → Value), (zn = (8 - i).toNat ∧ 0 ≤ i ∧ i ≤ 8 ∧ s = crcI (bits .xor .u16 a (IntKind.u16.wrap ((IntKind.u16.wrap c) * 2 ^ 8))) i.toNat) ∧ za = ⟨#[.int .u16 s, υ c, undef, undef, .int .u16 0, .int .u16 a, υ c, .int .u16 (IntKind.u16.wrap c), .int .u16 (IntKind.u16.wrap ((IntKind.u16.wrap c) * 2 ^ 8)), .int .u16 (bits .xor .u16 a (IntKind.u16.wrap ((IntKind.u16.wrap c) * 2 ^ 8))), ι i, (zj1 11), (zj1 12), (zj1 13), (zj1 14), (zj1 15), (zj1 16), (zj1 17), (zj1 18), (zj1 19), (zj1 20), undef], []⟩ ∧ St [] w [] zw) _ (fun zy zye => ⟨(0 : Int), (bits .xor .u16 a (IntKind.u16.wrap ((IntKind.u16.wrap c) * 2 ^ 8))), (fun d => zy.tmps.getD d undef), ⟨rfl, by omega, by omega, rfl⟩, by subst zye; kernel_rfl, S0.re (R := ([] : List Blk)) [] []⟩) ?_
 rintro _ _ zw5 ⟨i, s, zj1, ⟨rfl, zf2, zf3, zf4⟩, rfl, zS6⟩
 refine seq_ (reg_ (pure_ (.bool (decide (i < 8))) (nil_ (then_n (seq_ ?_)))))
 refine cond_S (decide (i < 8)) ?_ ?_
 · intro zh7
   have zh8 := ltT' zh7
   refine wp_skip (then_n (seq_ (wp_block (seq_ (reg_ (pure_ (.int .u16 s) (pure_ (.int .u16 (bits .and .u16 s 32768)) (pure_ (.bool ((bits .and .u16 s 32768) != 0)) (nil_ (then_n ?_))))))))))
   refine cond_S ((bits .and .u16 s 32768) != 0) ?_ ?_
   · intro zh9
     have zh10 := neT' zh9
     refine reg_ (pure_ (.int .u16 s) (pure_ (.int .u16 (IntKind.u16.wrap (s * 2 ^ 1))) (pure_ (.int .u16 (bits .xor .u16 (IntKind.u16.wrap (s * 2 ^ 1)) 4129)) (assign_ (nil_ (blk_n (then_n (reg_ (sum_ .i64 (i + 1) (IntWalk.i64_in _ (by omega)) (pure_ (ι (i + 1)) (nil_ ?_)))))))))))
     refine then_j fun zy zye => ?_
     exact ⟨_, by omega, (i + 1), (bits .xor .u16 (IntKind.u16.wrap (s * 2 ^ 1)) 4129), (fun d => zy.tmps.getD d undef), ⟨rfl, by omega, by omega, (crcI_t (by omega) zf4 zh9)⟩, by subst zye; kernel_rfl, zS6.re (R := ([] : List Blk)) [] []⟩
   intro zh11
   have zh12 := neF' zh11
   refine reg_ (pure_ (.int .u16 s) (pure_ (.int .u16 (IntKind.u16.wrap (s * 2 ^ 1))) (assign_ (nil_ (blk_n (then_n (reg_ (sum_ .i64 (i + 1) (IntWalk.i64_in _ (by omega)) (pure_ (ι (i + 1)) (nil_ ?_))))))))))
   refine then_j fun zy zye => ?_
   exact ⟨_, by omega, (i + 1), (IntKind.u16.wrap (s * 2 ^ 1)), (fun d => zy.tmps.getD d undef), ⟨rfl, by omega, by omega, (crcI_f (by omega) zf4 zh11)⟩, by subst zye; kernel_rfl, zS6.re (R := ([] : List Blk)) [] []⟩
 intro zh13
 have zh14 := ltF' zh13
 refine wp_exit (then_e (then_e (blk_e (then_n (seq_ (reg_ (pure_ (.int .u16 s) (pure_ (.int .u16 s) (nil_ (then_n (wp_ret (ret_ rfl (res_ [.tmp 4] [.int .u16 s] (.int .u16 s) ⟨res_tmp, trivial⟩) ?_))))))))))))
 exact ⟨congrArg _ (by rw [zf4, show i.toNat = 8 by omega]; rfl), zS6.ch⟩

set_option maxRecDepth 100000 in
set_option maxHeartbeats 4000000 in
theorem crc_ (b o n c : Nat) (f : Nat → Int) (hn : n ≤ 1000000) (w : World) (hB : At8 w b o n f) :
    Gives Tryz.prog 93 #[σ b o n c] w fun v w1 => v = .int .u16 (crcF f n) ∧ Ch [] w w1 := by
 have S0 := St.nil [] w
 refine enter_ Tryz.func93 rfl (seq_ (reg_ (pure_ (.int .u16 0) (nsr_ (pure_ (.int .u16 65535) (nil_ (then_n (seq_ (seq_ (reg_ (move_ (pure_ (ι ((n : Nat) : Int)) (pure_ (ι 0) (nil_ (then_n (wp_block ?_))))))))))))))))
 refine loopJ_ (fun zn za zw => ∃ (i : Int) (s : Int) (zj1 : Nat → Value), (zn = (((n : Nat) : Int) - i).toNat ∧ 0 ≤ i ∧ i ≤ ((n : Nat) : Int) ∧ s = crcF f i.toNat) ∧ za = ⟨#[σ b o n c, undef, .int .u16 0, .int .u16 s, undef, (zj1 5), σ b o n c, ι ((n : Nat) : Int), ι i, (zj1 9), (zj1 10), (zj1 11), (zj1 12), (zj1 13), (zj1 14), (zj1 15), undef], []⟩ ∧ St [] w [] zw) _ (fun zy zye => ⟨(0 : Int), (65535 : Int), (fun d => zy.tmps.getD d undef), ⟨rfl, by omega, by omega, rfl⟩, by subst zye; kernel_rfl, S0.re (R := ([] : List Blk)) [] []⟩) ?_
 rintro _ _ zw5 ⟨i, s, zj1, ⟨rfl, zf2, zf3, zf4⟩, rfl, zS6⟩
 refine seq_ (reg_ (pure_ (.bool (decide (i < ((n : Nat) : Int)))) (nil_ (then_n (seq_ ?_)))))
 refine cond_S (decide (i < ((n : Nat) : Int))) ?_ ?_
 · intro zh7
   have zh8 := ltT' zh7
   refine wp_skip (then_n (seq_ (wp_block (seq_ (reg_ (idxS_ (e := 5) b o (i).toNat n 1 c .i64 i (by omega) (by omega) (by omega) (load8_ b o n (o + (i).toNat * 1) (i).toNat f (St.old8 zS6 hB (by simp)) (by omega) (by omega) (pure_ (υ (f (i).toNat)) (ns_ (pure_ (.int .u16 s) (pure_ (υ (f (i).toNat)) (call_ 137 #[.int .u16 s, υ (f (i).toNat)] ?_))))))))))))
   refine (crcstep_ s (f (i).toNat) _).mono ?_; rintro _ zw9 ⟨rfl, zh10⟩
   have zS11 := zS6.quiet zh10
   refine assign_ (nil_ (blk_n (then_n (reg_ (sum_ .i64 (i + 1) (IntWalk.i64_in _ (by omega)) (pure_ (ι (i + 1)) (nil_ ?_)))))))
   refine then_j fun zy zye => ?_
   exact ⟨_, by omega, (i + 1), (crcS s (f (i).toNat)), (fun d => zy.tmps.getD d undef), ⟨rfl, by omega, by omega, crcF_step (by omega) zf4⟩, by subst zye; kernel_rfl, zS11.re (R := ([] : List Blk)) [] []⟩
 intro zh12
 have zh13 := ltF' zh12
 refine wp_exit (then_e (then_e (blk_e (then_n (seq_ (reg_ (pure_ (.int .u16 s) (pure_ (.int .u16 s) (nil_ (then_n (wp_ret (ret_ rfl (res_ [.tmp 2] [.int .u16 s] (.int .u16 s) ⟨res_tmp, trivial⟩) ?_))))))))))))
 exact ⟨congrArg _ (by rw [zf4, show i.toNat = n by omega]), zS6.ch⟩

/-- a frame's bytes -/
def frmF (n : Nat) (f : Nat → Int) : Nat → Int := catF (3 + n) (catF 3 (lsF [165, 1, n]) f) (lsF [IntKind.u8.wrap (Int.fdiv (crcF (shF (catF 3 (lsF [165, 1, n]) f) 1) (3 + n - 1)) (2 ^ 8)), IntKind.u8.wrap (crcF (shF (catF 3 (lsF [165, 1, n]) f) 1) (3 + n - 1))])
set_option maxRecDepth 100000 in
set_option maxHeartbeats 4000000 in
theorem fput_9 (b o c : Nat) (f : Nat → Int) (w : World) (hB : At8 w b o 9 f) :
    Gives Tryz.prog 186 #[σ b o 9 c] w fun v w1 => ∃ b c1, v = .tuple #[σ b 0 14 c1, ι 0] ∧ 14 ≤ c1 ∧ w.heap.size ≤ b ∧ w1.heap[b]? = some (.cells (bvZ 14 (frmF 9 f) c1) 5 (0, 0)) ∧ Ch [] w w1 := by
 have S0 := St.nil [] w
 refine enter_ Tryz.func186 rfl (seq_ (reg_ (pure_ (.slice none 0 0) (pure_ (ι 0) (nil_ (then_n (seq_ (seq_ (reg_ (move_ (pure_ (ι 9) (pure_ (φ) (nil_ (then_n (cond_F (wp_skip (then_n (seq_ (reg_ (move_ (pure_ (ι 9) (pure_ (ι 12) (pure_ (ι 14) ?_)))))))))))))))))))))))
 refine new_ S0 (fun b => σ b 0 0 14) (.cells (rowF .u8 14 (fun _ => 0)) 5) ?_
 intro zb1 zw2 zS3
 refine assign_ (nsr_ (move_ (move_ (pure_ (ι 9) (pure_ (υ 9) ?_)))))
 refine new_ zS3 (fun b => σ b 0 3 3) (.cells #[υ 165, υ 1, υ 9] 5) ?_
 intro zb4 zw5 zS6
 have zS13 : St [] w ([(β zb4 #[υ 165, υ 1, υ 9] 5)] ++ ([(β zb1 (rowF .u8 14 (fun _ => 0)) 5)] ++ ([] : List Blk))) zw5 := zS6.re (R := ([] : List Blk)) [[(β zb4 #[υ 165, υ 1, υ 9] 5)], [(β zb1 (rowF .u8 14 (fun _ => 0)) 5)]] [0, 1]
 refine append8_ (n := 0) (c := 14) (f := (fun _ => 0)) (g := (lsF [165, 1, 9])) (xv := σ zb4 0 3 3) zS13 (show row8 5 0 (fun _ => 0) (some ⟨zb1, 0, none⟩) 14 [(β zb1 (rowF .u8 14 (fun _ => 0)) 5)] from ⟨Nat.zero_le _, .inr ⟨_, rfl, by kernel_rfl⟩⟩) (src8 (e' := 5) (St.row8 (N := 3) (f := (lsF [165, 1, 9])) (wr := true) (t := 5) (fr := (0, 0)) zS6 0)) (by omega) ?_
 intro zx8 zc9 zq7 zw11 zh10 zS12
 have zo18 := row8_at zh10 (by omega)
 obtain ⟨zb14, zh17, zh15, zh16⟩ := zo18
 subst zh15; subst zh16
 refine assign_ (nsr_ (move_ (move_ ?_)))
 have zS25 : St [] w ([(β zb4 #[υ 165, υ 1, υ 9] 5)] ++ ([(β zb14 (bvZ (0 + 3) (catF 0 (fun _ => 0) (lsF [165, 1, 9])) zc9) 5)] ++ ([] : List Blk))) zw11 := zS12.re (R := ([] : List Blk)) [[(β zb4 #[υ 165, υ 1, υ 9] 5)], [(β zb14 (bvZ (0 + 3) (catF 0 (fun _ => 0) (lsF [165, 1, 9])) zc9) 5)]] [0, 1]
 refine append8_ (n := (0 + 3)) (c := zc9) (f := (catF 0 (fun _ => 0) (lsF [165, 1, 9]))) (g := f) (xv := σ b o 9 c) zS25 ⟨zh17, .inr ⟨_, rfl, rfl⟩⟩ (src8 (e' := 5) (St.old8 zS12 hB (by simp))) (by omega) ?_
 intro zx20 zc21 zq19 zw23 zh22 zS24
 have zo30 := row8_at zh22 (by omega)
 obtain ⟨zb26, zh29, zh27, zh28⟩ := zo30
 subst zh27; subst zh28
 refine assign_ (nsr_ (move_ ?_))
 refine pure_ (σ zb26 (0 + 1) (((0 + 3) + 9) - 1) (zc21 - 1)) ?_ (h := run_rest (n := ((0 + 3) + 9)) (e := 5) (kd := .i64) (k := 1) (by omega) (by omega) (0 + 1) (by rw [if_neg (by omega)]))
 refine call_ 93 #[σ zb26 (0 + 1) (((0 + 3) + 9) - 1) (zc21 - 1)] ?_
 refine (crc_ zb26 (0 + 1) (((0 + 3) + 9) - 1) (zc21 - 1) (shF (catF (0 + 3) (catF 0 (fun _ => 0) (lsF [165, 1, 9])) f) 1) (by omega) _ (At8.drop (n := ((0 + 3) + 9)) (St.all8 (c := zc21) (wr := true) (t := 5) (fr := (0, 0)) zS24 1) 1)).mono ?_; rintro _ zw31 ⟨rfl, zh32⟩
 have zS33 := zS24.quiet zh32
 refine assign_ (nsr_ (move_ (move_ (pure_ (.int .u16 (Int.fdiv (crcF (shF (catF (0 + 3) (catF 0 (fun _ => 0) (lsF [165, 1, 9])) f) 1) (((0 + 3) + 9) - 1)) (2 ^ 8))) (pure_ (υ (IntKind.u8.wrap (Int.fdiv (crcF (shF (catF (0 + 3) (catF 0 (fun _ => 0) (lsF [165, 1, 9])) f) 1) (((0 + 3) + 9) - 1)) (2 ^ 8)))) (move_ (pure_ (υ (IntKind.u8.wrap (crcF (shF (catF (0 + 3) (catF 0 (fun _ => 0) (lsF [165, 1, 9])) f) 1) (((0 + 3) + 9) - 1)))) ?_)))))))
 refine new_ zS33 (fun b => σ b 0 2 2) (.cells #[υ (IntKind.u8.wrap (Int.fdiv (crcF (shF (catF (0 + 3) (catF 0 (fun _ => 0) (lsF [165, 1, 9])) f) 1) (((0 + 3) + 9) - 1)) (2 ^ 8))), υ (IntKind.u8.wrap (crcF (shF (catF (0 + 3) (catF 0 (fun _ => 0) (lsF [165, 1, 9])) f) 1) (((0 + 3) + 9) - 1)))] 5) ?_
 intro zb34 zw35 zS36
 have zS43 : St [] w ([(β zb34 #[υ (IntKind.u8.wrap (Int.fdiv (crcF (shF (catF (0 + 3) (catF 0 (fun _ => 0) (lsF [165, 1, 9])) f) 1) (((0 + 3) + 9) - 1)) (2 ^ 8))), υ (IntKind.u8.wrap (crcF (shF (catF (0 + 3) (catF 0 (fun _ => 0) (lsF [165, 1, 9])) f) 1) (((0 + 3) + 9) - 1)))] 5), (β zb4 #[υ 165, υ 1, υ 9] 5)] ++ ([(β zb26 (bvZ ((0 + 3) + 9) (catF (0 + 3) (catF 0 (fun _ => 0) (lsF [165, 1, 9])) f) zc21) 5)] ++ ([] : List Blk))) zw35 := zS36.re (R := ([] : List Blk)) [[(β zb34 #[υ (IntKind.u8.wrap (Int.fdiv (crcF (shF (catF (0 + 3) (catF 0 (fun _ => 0) (lsF [165, 1, 9])) f) 1) (((0 + 3) + 9) - 1)) (2 ^ 8))), υ (IntKind.u8.wrap (crcF (shF (catF (0 + 3) (catF 0 (fun _ => 0) (lsF [165, 1, 9])) f) 1) (((0 + 3) + 9) - 1)))] 5)], [(β zb4 #[υ 165, υ 1, υ 9] 5)], [(β zb26 (bvZ ((0 + 3) + 9) (catF (0 + 3) (catF 0 (fun _ => 0) (lsF [165, 1, 9])) f) zc21) 5)]] [0, 1, 2]
 refine append8_ (n := ((0 + 3) + 9)) (c := zc21) (f := (catF (0 + 3) (catF 0 (fun _ => 0) (lsF [165, 1, 9])) f)) (g := (lsF [(IntKind.u8.wrap (Int.fdiv (crcF (shF (catF (0 + 3) (catF 0 (fun _ => 0) (lsF [165, 1, 9])) f) 1) (((0 + 3) + 9) - 1)) (2 ^ 8))), (IntKind.u8.wrap (crcF (shF (catF (0 + 3) (catF 0 (fun _ => 0) (lsF [165, 1, 9])) f) 1) (((0 + 3) + 9) - 1)))])) (xv := σ zb34 0 2 2) zS43 ⟨zh29, .inr ⟨_, rfl, rfl⟩⟩ (src8 (e' := 5) (St.row8 (N := 2) (f := (lsF [(IntKind.u8.wrap (Int.fdiv (crcF (shF (catF (0 + 3) (catF 0 (fun _ => 0) (lsF [165, 1, 9])) f) 1) (((0 + 3) + 9) - 1)) (2 ^ 8))), (IntKind.u8.wrap (crcF (shF (catF (0 + 3) (catF 0 (fun _ => 0) (lsF [165, 1, 9])) f) 1) (((0 + 3) + 9) - 1)))])) (wr := true) (t := 5) (fr := (0, 0)) zS36 0)) (by omega) ?_
 intro zx38 zc39 zq37 zw41 zh40 zS42
 have zo48 := row8_at zh40 (by omega)
 obtain ⟨zb44, zh47, zh45, zh46⟩ := zo48
 subst zh45; subst zh46
 refine assign_ (pure_ (ι 0) (nil_ (then_n (wp_ret (ret_ rfl (res_ [.tmp 2, .tmp 3] [σ zb44 0 (((0 + 3) + 9) + 2) zc39, ι 0] (.tuple #[σ zb44 0 (((0 + 3) + 9) + 2) zc39, ι 0]) ⟨res_tmp, res_tmp, trivial⟩) ?_)))))
 have ze : bvZ (((0 + 3) + 9) + 2) (catF ((0 + 3) + 9) (catF (0 + 3) (catF 0 (fun _ => 0) (lsF [165, 1, 9])) f) (lsF [(IntKind.u8.wrap (Int.fdiv (crcF (shF (catF (0 + 3) (catF 0 (fun _ => 0) (lsF [165, 1, 9])) f) 1) (((0 + 3) + 9) - 1)) (2 ^ 8))), (IntKind.u8.wrap (crcF (shF (catF (0 + 3) (catF 0 (fun _ => 0) (lsF [165, 1, 9])) f) 1) (((0 + 3) + 9) - 1)))])) zc39 = bvZ 14 (frmF 9 f) zc39 := bvZ_congr (by omega) fun i hi => by (unfold frmF; simp only [cat0, Nat.zero_add]) <;> rfl
 exact ⟨zb44, zc39, by (simp only [Nat.zero_add]) <;> rfl, by have := zh47; omega, (zS42.own 2 _ rfl rfl).resolve_left (by simp), by rw [← ze]; exact zS42.at_ 2 _ rfl, zS42.ch⟩

end Go.Proofs.YtbjanfgipcniiaaGreatDoor
