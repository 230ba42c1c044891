/- Functions of values, against the plain model. -/
import Derived.Test.YtbjanfgipcniiaaGreatDoorSQE
import Derived.Test.YtbjanfgipcniiaaGreatDoorMInv
import Derived.Test.YtbjanfgipcniiaaGreatDoorProg
namespace Go.Proofs.YtbjanfgipcniiaaGreatDoor
open Go Go.RowKit Go.BigFrame Sx
set_option linter.unusedVariables false
set_option linter.unusedSimpArgs false

def polP (p : Sd.Pol) (ka : Nat → Option Addr) (kn kc : Nat → Nat) : Array Value := #[ι (p.i 0), ι (p.i 1), ι (p.i 2), ι (p.i 3), ι (p.i 4), .slice (ka 0) (kn 0) (kc 0), .slice (ka 1) (kn 1) (kc 1), .slice (ka 2) (kn 2) (kc 2), .slice (ka 3) (kn 3) (kc 3), ι (p.i 9), ι (p.i 10), ι (p.i 11), ι (p.i 12), ι (p.i 13), ι (p.i 14), ι (p.i 15), ι (p.i 16), ι (p.i 17), ι (p.i 18), ι (p.i 19), ι (p.i 20), ι (p.i 21), ι (p.i 22), ι (p.i 23), ι (p.i 24), ι (p.i 25), ι (p.i 26), ι (p.i 27), ι (p.i 28), ι (p.i 29), ι (p.i 30), ι (p.i 31), ι (p.i 32), ι (p.i 33), ι (p.i 34), ι (p.i 35), ι (p.i 36), ι (p.i 37), ι (p.i 38), ι (p.i 39), ι (p.i 40), ι (p.i 41), ι (p.i 42), ι (p.i 43), ι (p.i 44), ι (p.i 45), ι (p.i 46), ι (p.i 47), ι (p.i 48), ι (p.i 49), ι (p.i 50), ι (p.i 51), ι (p.i 52), ι (p.i 53), ι (p.i 54), ι (p.i 55)]
def tokC (t : Sd.Tok) : Array Value := #[ι t.holder, ι t.epoch, ι t.offer, ι t.oa.n, ι t.oa.most, ι t.la.n, ι t.la.most, .bool t.bad]
def recC (t : Sd.Rec) : Array Value := #[ι t.kind, ι t.source, ι t.seq, ι t.epoch, ι t.code, ι t.how]
theorem has_is (s i : Int) (h0 : 0 ≤ s) (h1 : 0 ≤ i) (h2 : i ≤ 62) : ((Int.fdiv s (2 ^ (min (i).toNat 64))) % 2 == 1) = Sd.has s i := by
  have e : min i.toNat 64 = i.toNat := by omega
  have h3 : (0 : Int) ≤ 2 ^ i.toNat := Int.le_of_lt (Int.pow_pos (by omega))
  rw [e, Int.fdiv_eq_ediv_of_nonneg _ h3]
  simp [Sd.has, h0, h1, h2]
  exact Bool.eq_iff_iff.2 (by simp)
theorem below_is (n b : Int) (h : Sd.below n b = true) : 0 ≤ n ∧ n < b := by simpa [Sd.below] using h
theorem polP_at (p : Sd.Pol) (ka : Nat → Option Addr) (kn kc : Nat → Nat) (k : Nat) (h : k < 56) (h2 : k < 5 ∨ 8 < k) : (polP p ka kn kc)[k]? = some (ι (p.i k)) := by
  match k, h, h2 with
  | 0, _, _ => rfl
  | 1, _, _ => rfl
  | 2, _, _ => rfl
  | 3, _, _ => rfl
  | 4, _, _ => rfl
  | 5, _, h2 => exact absurd h2 (by omega)
  | 6, _, h2 => exact absurd h2 (by omega)
  | 7, _, h2 => exact absurd h2 (by omega)
  | 8, _, h2 => exact absurd h2 (by omega)
  | 9, _, _ => rfl
  | 10, _, _ => rfl
  | 11, _, _ => rfl
  | 12, _, _ => rfl
  | 13, _, _ => rfl
  | 14, _, _ => rfl
  | 15, _, _ => rfl
  | 16, _, _ => rfl
  | 17, _, _ => rfl
  | 18, _, _ => rfl
  | 19, _, _ => rfl
  | 20, _, _ => rfl
  | 21, _, _ => rfl
  | 22, _, _ => rfl
  | 23, _, _ => rfl
  | 24, _, _ => rfl
  | 25, _, _ => rfl
  | 26, _, _ => rfl
  | 27, _, _ => rfl
  | 28, _, _ => rfl
  | 29, _, _ => rfl
  | 30, _, _ => rfl
  | 31, _, _ => rfl
  | 32, _, _ => rfl
  | 33, _, _ => rfl
  | 34, _, _ => rfl
  | 35, _, _ => rfl
  | 36, _, _ => rfl
  | 37, _, _ => rfl
  | 38, _, _ => rfl
  | 39, _, _ => rfl
  | 40, _, _ => rfl
  | 41, _, _ => rfl
  | 42, _, _ => rfl
  | 43, _, _ => rfl
  | 44, _, _ => rfl
  | 45, _, _ => rfl
  | 46, _, _ => rfl
  | 47, _, _ => rfl
  | 48, _, _ => rfl
  | 49, _, _ => rfl
  | 50, _, _ => rfl
  | 51, _, _ => rfl
  | 52, _, _ => rfl
  | 53, _, _ => rfl
  | 54, _, _ => rfl
  | 55, _, _ => rfl
  | k + 56, h, _ => exact absurd h (by omega)
set_option maxRecDepth 100000 in
set_option maxHeartbeats 4000000 in
theorem has_ (s : Int) (i : Int) (w : World) :
    Gives Tryz.prog 183 #[ι s, ι i] w fun v w1 => v = .bool (Sd.has s i) ∧ Ch [] w w1 := by
 have S0 := St.nil [] w
 refine enter_ Tryz.func183 rfl (seq_ (reg_ (pure_ (φ) (nil_ (then_n (seq_ (seq_ (reg_ (pure_ (ι s) (pure_ (.bool (decide (s < 0))) (pure_ (.bool (decide (s < 0))) ?_)))))))))))
 refine slot_ 7 (decide (s < 0)) ?_ ?_
 · intro zh1
   have zh2 := ltT' zh1
   refine skip_ (skip_ (pure_ (τ) (pure_ (τ) (skip_ (skip_ (pure_ (τ) (nil_ (then_n (cond_T (seq_ (reg_ (pure_ (φ) (nil_ (then_n (wp_ret (then_r (ret_ rfl (res_ [.tmp 4] [φ] (φ) ⟨res_tmp, trivial⟩) ?_)))))))))))))))))
   exact ⟨congrArg Value.bool (by simp [Sd.has]; omega), S0.ch⟩
 intro zh3
 have zh4 := ltF' zh3
 refine pure_ (ι i) (pure_ (.bool (decide (i < 0))) (pure_ (.bool (decide (i < 0))) (pure_ (.bool (decide (i < 0))) ?_)))
 refine slot_ 11 (decide (i < 0)) ?_ ?_
 · intro zh5
   have zh6 := ltT' zh5
   refine skip_ (skip_ (pure_ (τ) (nil_ (then_n (cond_T (seq_ (reg_ (pure_ (φ) (nil_ (then_n (wp_ret (then_r (ret_ rfl (res_ [.tmp 4] [φ] (φ) ⟨res_tmp, trivial⟩) ?_)))))))))))))
   exact ⟨congrArg Value.bool (by simp [Sd.has]; omega), S0.ch⟩
 intro zh7
 have zh8 := ltF' zh7
 refine pure_ (ι i) (pure_ (.bool (decide (62 < i))) (pure_ (.bool (decide (62 < i))) (nil_ (then_n ?_))))
 refine cond_S (decide (62 < i)) ?_ ?_
 · intro zh9
   have zh10 := ltT' zh9
   refine seq_ (reg_ (pure_ (φ) (nil_ (then_n (wp_ret (then_r (ret_ rfl (res_ [.tmp 4] [φ] (φ) ⟨res_tmp, trivial⟩) ?_)))))))
   exact ⟨congrArg Value.bool (by simp [Sd.has]; omega), S0.ch⟩
 intro zh11
 have zh12 := ltF' zh11
 refine wp_skip (then_n (seq_ (reg_ (pure_ (ι s) (pure_ (ι i) (shrS_ .i64 .i64 s i (by omega) (pureE_ (ι (bits .and .i64 (Int.fdiv s (2 ^ (min (i).toNat 64))) 1)) (ι ((Int.fdiv s (2 ^ (min (i).toNat 64))) % 2)) (congrArg _ (and_mask .i64 (Int.fdiv s (2 ^ (min (i).toNat 64))) 1 2 1 (by decide) (by decide) (by decide))) (pure_ (.bool (((Int.fdiv s (2 ^ (min (i).toNat 64))) % 2) == 1)) (assign_ (nil_ (then_n (wp_ret (ret_ rfl (res_ [.tmp 4] [.bool (((Int.fdiv s (2 ^ (min (i).toNat 64))) % 2) == 1)] (.bool (((Int.fdiv s (2 ^ (min (i).toNat 64))) % 2) == 1)) ⟨res_tmp, trivial⟩) ?_)))))))))))))
 exact ⟨congrArg Value.bool (has_is s i (by omega) (by omega) (by omega)), S0.ch⟩

set_option maxRecDepth 100000 in
set_option maxHeartbeats 4000000 in
theorem below_ (n : Int) (b : Int) (w : World) :
    Gives Tryz.prog 182 #[ι n, ι b] w fun v w1 => v = .bool (Sd.below n b) ∧ Ch [] w w1 := by
 have S0 := St.nil [] w
 refine enter_ Tryz.func182 rfl (seq_ (reg_ (pure_ (φ) (nsr_ (pure_ (ι n) (pure_ (.bool (decide (0 ≤ n))) (pure_ (.bool (decide (0 ≤ n))) ?_)))))))
 refine slot_ 7 (decide (0 ≤ n)) ?_ ?_
 · intro zh1
   have zh2 := leT' zh1
   refine pure_ (ι n) (pure_ (ι b) (pure_ (.bool (decide (n < b))) (pure_ (.bool (decide (n < b))) (pure_ (.bool (decide (n < b))) (nil_ (then_n (wp_ret (ret_ rfl (res_ [.tmp 4] [.bool (decide (n < b))] (.bool (decide (n < b))) ⟨res_tmp, trivial⟩) ?_))))))))
   have ze : Sd.below n b = (decide (n < b)) := by first | rfl | (simp [Sd.below, zh1]; done) | (simp [Sd.below, zh1]; rfl) | (simp [Sd.below, zh1]; simp [Sd.below, zh1]; done) | (simp [Sd.below, zh1]; simp [Sd.below, zh1]; rfl) | (simp [Sd.below, zh1]; omega) | (unfold Sd.below; (repeat' split) <;> first | rfl | assumption | omega | (simp_all; done) | (simp_all; omega))
   exact ⟨by (rw [ze]) <;> rfl, S0.ch⟩
 intro zh3
 have zh4 := leF' zh3
 refine skip_ (skip_ (skip_ (pure_ (φ) (pure_ (φ) (nil_ (then_n (wp_ret (ret_ rfl (res_ [.tmp 4] [φ] (φ) ⟨res_tmp, trivial⟩) ?_))))))))
 have ze : Sd.below n b = false := by first | rfl | (simp [Sd.below, zh3]; done) | (simp [Sd.below, zh3]; rfl) | (simp [Sd.below, zh3]; simp [Sd.below, zh3]; done) | (simp [Sd.below, zh3]; simp [Sd.below, zh3]; rfl) | (simp [Sd.below, zh3]; omega) | (unfold Sd.below; (repeat' split) <;> first | rfl | assumption | omega | (simp_all; done) | (simp_all; omega))
 exact ⟨by (rw [ze]) <;> rfl, S0.ch⟩

set_option maxRecDepth 100000 in
set_option maxHeartbeats 4000000 in
theorem pass_ (t : Sd.Tok) (o : Int) (e : Int) (w : World) :
    Gives Tryz.prog 70 #[.agg (tokC t), ι o, ι e] w fun v w1 => v = .agg (tokC (Sd.Tok.pass t o e)) ∧ Ch [] w w1 := by
 have S0 := St.nil [] w
 refine enter_ Tryz.func70 rfl (seq_ (reg_ ?_))
 refine new_ S0 (fun b => π b 0) (.cells (tokC t) 155) ?_
 intro zb1 zw2 zS3
 refine new_ zS3 (fun b => π b 0) (.cells #[ι 0, ι 0, ι 0, ι 0, ι 0, ι 0, ι 0, φ] 92) ?_
 intro zb4 zw5 zS6
 refine nsr_ (loadN_ zS6 1 8 (tokC t) zb1 0 ?_)
 refine new_ zS6 (fun b => π b 0) (.cells #[ι 0, ι 0, ι 0, ι 0, ι 0, ι 0, ι 0, φ] 92) ?_
 intro zb7 zw8 zS9
 refine store_ zS9 0 (.agg (tokC t)) zb7 0 ?_
 intro zw10 zS11
 refine nsr_ (pure_ (ι o) (pure_ (ι e) (pure_ (π zb7 0) ?_)))
 refine store_ zS11 0 (ι o) zb7 0 ?_
 intro zw12 zS13
 refine pure_ (π zb7 1) ?_
 refine store_ zS13 0 (ι e) zb7 1 ?_
 intro zw14 zS15
 refine pure_ (π zb7 2) ?_
 refine store_ zS15 0 (ι (-1)) zb7 2 ?_
 intro zw16 zS17
 refine nsr_ (pure_ (.agg #[ι 0, ι 0]) (pure_ (.agg #[ι 0, ι 0]) (pure_ (π zb7 3) ?_)))
 refine store_ zS17 0 (.agg #[ι 0, ι 0]) zb7 3 ?_
 intro zw18 zS19
 refine pure_ (π zb7 5) ?_
 refine store_ zS19 0 (.agg #[ι 0, ι 0]) zb7 5 ?_
 intro zw20 zS21
 refine nsr_ (loadN_ zS21 0 8 #[ι o, ι e, ι (-1), ι 0, ι 0, ι 0, ι 0, .bool t.bad] zb7 0 ?_)
 refine store_ zS21 1 (.agg #[ι o, ι e, ι (-1), ι 0, ι 0, ι 0, ι 0, .bool t.bad]) zb4 0 ?_
 intro zw22 zS23
 refine nil_ (then_n (wp_ret (ret_ rfl (res_ [.cell 6 92] [.agg #[ι o, ι e, ι (-1), ι 0, ι 0, ι 0, ι 0, .bool t.bad]] (.agg #[ι o, ι e, ι (-1), ι 0, ι 0, ι 0, ι 0, .bool t.bad]) ⟨res_cellN zS23 1 8 zb4 0, trivial⟩) ?_)))
 have ze : Sd.Tok.pass t o e = (⟨o, e, (-1), (⟨0, 0⟩ : Sd.Timer), (⟨0, 0⟩ : Sd.Timer), t.bad⟩ : Sd.Tok) := by first | rfl | (simp []; done) | (simp []; rfl) | (simp []; simp []; done) | (simp []; simp []; rfl) | (simp []; omega) | (unfold Sd.sat; (repeat' split) <;> first | rfl | assumption | omega | (simp_all; done) | (simp_all; omega))
 exact ⟨by (rw [ze]) <;> rfl, zS23.ch⟩

set_option maxRecDepth 100000 in
set_option maxHeartbeats 4000000 in
theorem takes_ (p : Sd.Pol) (ka : Nat → Option Addr) (kn kc : Nat → Nat) (s : Int) (r : Int) (w : World) :
    Gives Tryz.prog 147 #[.agg (polP p ka kn kc), ι s, ι r] w fun v w1 => v = .bool (Sd.takes p s r) ∧ Ch [] w w1 := by
 have S0 := St.nil [] w
 refine enter_ Tryz.func147 rfl (seq_ (reg_ ?_))
 refine new_ S0 (fun b => π b 0) (.cells (polP p ka kn kc) 28) ?_
 intro zb1 zw2 zS3
 refine pure_ (φ) (nsr_ (pure_ (ι s) (call_ 182 #[ι s, ι 5] ?_)))
 refine (below_ s 5 _ ).mono ?_; rintro _ zw4 ⟨rfl, zh5⟩
 have zS6 := zS3.quiet zh5
 refine pure_ (.bool (Sd.below s 5)) ?_
 refine slot_ 9 (Sd.below s 5) ?_ ?_
 · intro zh7
   have zh8 := below_is _ _ zh7
   refine pure_ (ι r) (call_ 182 #[ι r, ι 4] ?_)
   refine (below_ r 4 _ ).mono ?_; rintro _ zw9 ⟨rfl, zh10⟩
   have zS11 := zS6.quiet zh10
   refine pure_ (.bool (Sd.below r 4)) (pure_ (.bool (Sd.below r 4)) ?_)
   refine slot_ 13 (Sd.below r 4) ?_ ?_
   · intro zh12
     have zh13 := below_is _ _ zh12
     refine pure_ (ι s) (pure_ (π zb1 9) ?_)
     refine idxA_ zb1 9 (9 + (s).toNat) 5 1 .i64 s (by omega) (by omega) (by omega) ?_ (e := 3)
     refine load1_ zS11 0 (ι (p.i (9 + (s).toNat))) zb1 (9 + (s).toNat) ?_ (hb := lk_of (wr := true) (t := 28) (fr := (0, 0)) (by kernel_rfl) (polP_at p ka kn kc (9 + (s).toNat) (by omega) (by omega)))
     refine pure_ (ι r) (call_ 183 #[ι (p.i (9 + (s).toNat)), ι r] ?_)
     refine (has_ (p.i (9 + (s).toNat)) r _ ).mono ?_; rintro _ zw14 ⟨rfl, zh15⟩
     have zS16 := zS11.quiet zh15
     refine pure_ (.bool (Sd.has (p.i (9 + (s).toNat)) r)) (assign_ (nil_ (then_n (wp_ret (ret_ rfl (res_ [.tmp 6] [.bool (Sd.has (p.i (9 + (s).toNat)) r)] (.bool (Sd.has (p.i (9 + (s).toNat)) r)) ⟨res_tmp, trivial⟩) ?_)))))
     have ze : Sd.takes p s r = (Sd.has (p.i (9 + (s).toNat)) r) := by first | rfl | (simp [Sd.takes, Sd.Pol.roles, zh7, zh12]; done) | (simp [Sd.takes, Sd.Pol.roles, zh7, zh12]; rfl) | (simp [Sd.takes, Sd.Pol.roles, zh7, zh12]; simp [Sd.takes, Sd.Pol.roles, zh7, zh12]; done) | (simp [Sd.takes, Sd.Pol.roles, zh7, zh12]; simp [Sd.takes, Sd.Pol.roles, zh7, zh12]; rfl) | (simp [Sd.takes, Sd.Pol.roles, zh7, zh12]; omega) | (unfold Sd.takes; (repeat' split) <;> first | rfl | assumption | omega | (simp_all; done) | (simp_all; omega))
     exact ⟨by (rw [ze]) <;> rfl, zS16.ch⟩
   intro zh17
   refine skip_ (skip_ (skip_ (skip_ (skip_ (skip_ (pure_ (φ) (pure_ (φ) (nil_ (then_n (wp_ret (ret_ rfl (res_ [.tmp 6] [φ] (φ) ⟨res_tmp, trivial⟩) ?_)))))))))))
   have ze : Sd.takes p s r = false := by first | rfl | (simp [Sd.takes, Sd.Pol.roles, zh7, zh17]; done) | (simp [Sd.takes, Sd.Pol.roles, zh7, zh17]; rfl) | (simp [Sd.takes, Sd.Pol.roles, zh7, zh17]; simp [Sd.takes, Sd.Pol.roles, zh7, zh17]; done) | (simp [Sd.takes, Sd.Pol.roles, zh7, zh17]; simp [Sd.takes, Sd.Pol.roles, zh7, zh17]; rfl) | (simp [Sd.takes, Sd.Pol.roles, zh7, zh17]; omega) | (unfold Sd.takes; (repeat' split) <;> first | rfl | assumption | omega | (simp_all; done) | (simp_all; omega))
   exact ⟨by (rw [ze]) <;> rfl, zS11.ch⟩
 intro zh18
 refine skip_ (skip_ (pure_ (φ) (pure_ (φ) (skip_ (skip_ (skip_ (skip_ (skip_ (skip_ (pure_ (φ) (pure_ (φ) (nil_ (then_n (wp_ret (ret_ rfl (res_ [.tmp 6] [φ] (φ) ⟨res_tmp, trivial⟩) ?_)))))))))))))))
 have ze : Sd.takes p s r = false := by first | rfl | (simp [Sd.takes, Sd.Pol.roles, zh18]; done) | (simp [Sd.takes, Sd.Pol.roles, zh18]; rfl) | (simp [Sd.takes, Sd.Pol.roles, zh18]; simp [Sd.takes, Sd.Pol.roles, zh18]; done) | (simp [Sd.takes, Sd.Pol.roles, zh18]; simp [Sd.takes, Sd.Pol.roles, zh18]; rfl) | (simp [Sd.takes, Sd.Pol.roles, zh18]; omega) | (unfold Sd.takes; (repeat' split) <;> first | rfl | assumption | omega | (simp_all; done) | (simp_all; omega))
 exact ⟨by (rw [ze]) <;> rfl, zS6.ch⟩

end Go.Proofs.YtbjanfgipcniiaaGreatDoor
