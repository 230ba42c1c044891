/- Functions of values, against the plain model. -/
import Derived.Test.YtgbgjbjlblcpaaaGreatDoorSQE
import Derived.Test.YtgbgjbjlblcpaaaGreatDoorMInv
import Derived.Test.YtgbgjbjlblcpaaaGreatDoorProg
namespace Go.Proofs.YtgbgjbjlblcpaaaGreatDoor
open Go Go.RowKit Go.BigFrame Sx
set_option linter.unusedVariables false
set_option linter.unusedSimpArgs false

def polP (p : Sd.Pol) (ka : Nat → Option Addr) (kn kc : Nat → Nat) : Array Value := #[.int .i64 (p.i 0), .int .i64 (p.i 1), .int .i64 (p.i 2), .int .i64 (p.i 3), .int .i64 (p.i 4), .slice (ka 0) (kn 0) (kc 0), .slice (ka 1) (kn 1) (kc 1), .slice (ka 2) (kn 2) (kc 2), .slice (ka 3) (kn 3) (kc 3), .int .i64 (p.i 9), .int .i64 (p.i 10), .int .i64 (p.i 11), .int .i64 (p.i 12), .int .i64 (p.i 13), .int .i64 (p.i 14), .int .i64 (p.i 15), .int .i64 (p.i 16), .int .i64 (p.i 17), .int .i64 (p.i 18), .int .i64 (p.i 19), .int .i64 (p.i 20), .int .i64 (p.i 21), .int .i64 (p.i 22), .int .i64 (p.i 23), .int .i64 (p.i 24), .int .i64 (p.i 25), .int .i64 (p.i 26), .int .i64 (p.i 27), .int .i64 (p.i 28), .int .i64 (p.i 29), .int .i64 (p.i 30), .int .i64 (p.i 31), .int .i64 (p.i 32), .int .i64 (p.i 33), .int .i64 (p.i 34), .int .i64 (p.i 35), .int .i64 (p.i 36), .int .i64 (p.i 37), .int .i64 (p.i 38), .int .i64 (p.i 39), .int .i64 (p.i 40), .int .i64 (p.i 41), .int .i64 (p.i 42), .int .i64 (p.i 43), .int .i64 (p.i 44), .int .i64 (p.i 45), .int .i64 (p.i 46), .int .i64 (p.i 47), .int .i64 (p.i 48), .int .i64 (p.i 49), .int .i64 (p.i 50), .int .i64 (p.i 51), .int .i64 (p.i 52), .int .i64 (p.i 53), .int .i64 (p.i 54), .int .i64 (p.i 55)]
def timC (t : Sd.Timer) : Array Value := #[.int .i64 t.n, .int .i64 t.most]
def x4C (t : Sd.X4) : Array Value := #[.int .i64 t.a, .int .i64 t.b, .int .i64 t.c, .int .i64 t.d]
def labC (t : Sd.Label) : Array Value := #[.int .i64 t.rule, .int .i64 t.source, .int .i64 t.seq]
def tokC (t : Sd.Tok) : Array Value := #[.int .i64 t.holder, .int .i64 t.epoch, .int .i64 t.offer, .int .i64 t.oa.n, .int .i64 t.oa.most, .int .i64 t.la.n, .int .i64 t.la.most, .bool t.bad]
def ptC (t : Sd.Point) : Array Value := #[.int .i64 t.cls, .int .i64 t.to_.a, .int .i64 t.to_.b, .int .i64 t.to_.c, .int .i64 t.to_.d, .int .i64 t.now.a, .int .i64 t.now.b, .int .i64 t.now.c, .int .i64 t.now.d, .int .i64 t.by_.rule, .int .i64 t.by_.source, .int .i64 t.by_.seq]
def msgC (t : Sd.Msg) : Array Value := #[.int .i64 t.kind, .int .i64 t.seq, .int .i64 t.role, .int .i64 t.to_, .int .i64 t.epoch, .int .i64 t.mode, .int .i64 t.cls, .bool t.now, .int .i64 t.x.a, .int .i64 t.x.b, .int .i64 t.x.c, .int .i64 t.x.d]
def smpC (t : Sd.Sample) : Array Value := #[.bool t.valid, .int .i64 t.x.a, .int .i64 t.x.b, .int .i64 t.x.c, .int .i64 t.x.d, .bool t.give]
def winC (t : Sd.Window) : Array Value := #[.bool t.any, .int .i64 t.high, .int .u64 t.seen]
def askC (t : Sd.Ask) : Array Value := #[.int .i64 t.source, .int .i64 t.rank, .int .i64 t.age.n, .int .i64 t.age.most]
def recC (t : Sd.Rec) : Array Value := #[.int .i64 t.kind, .int .i64 t.source, .int .i64 t.seq, .int .i64 t.epoch, .int .i64 t.code, .int .i64 t.how]
theorem has_is (s i : Int) (h0 : 0 ≤ s) (h1 : 0 ≤ i) (h2 : i ≤ 62) : ((Int.fdiv s (2 ^ (min (i).toNat 64))) % 2 == 1) = Sd.has s i := by
  have e : min i.toNat 64 = i.toNat := by omega
  have h3 : (0 : Int) ≤ 2 ^ i.toNat := Int.le_of_lt (Int.pow_pos (by omega))
  rw [e, Int.fdiv_eq_ediv_of_nonneg _ h3]
  simp [Sd.has, h0, h1, h2]
  exact Bool.eq_iff_iff.2 (by simp)
theorem wrap_sub (a b : Int) (h0 : 0 ≤ a - b) (h1 : a - b < 18446744073709551616) : IntKind.u64.wrap (IntKind.u64.wrap a - IntKind.u64.wrap b) = a - b := by
  rw [IntKind.wrap_u64, IntKind.wrap_u64, IntKind.wrap_u64]; omega
theorem below_is (n b : Int) (h : Sd.below n b = true) : 0 ≤ n ∧ n < b := by simpa [Sd.below] using h
theorem polP_at (p : Sd.Pol) (ka : Nat → Option Addr) (kn kc : Nat → Nat) (k : Nat) (h : k < 56) (h2 : k < 5 ∨ 8 < k) : (polP p ka kn kc)[k]? = some (.int .i64 (p.i k)) := by
  match k, h, h2 with
  | 0, _, _ => rfl
  | 1, _, _ => rfl
  | 2, _, _ => rfl
  | 3, _, _ => rfl
  | 4, _, _ => rfl
  | 5, _, h2 => exact absurd h2 (by omega)
  | 6, _, h2 => exact absurd h2 (by omega)
  | 7, _, h2 => exact absurd h2 (by omega)
  | 8, _, h2 => exact absurd h2 (by omega)
  | 9, _, _ => rfl
  | 10, _, _ => rfl
  | 11, _, _ => rfl
  | 12, _, _ => rfl
  | 13, _, _ => rfl
  | 14, _, _ => rfl
  | 15, _, _ => rfl
  | 16, _, _ => rfl
  | 17, _, _ => rfl
  | 18, _, _ => rfl
  | 19, _, _ => rfl
  | 20, _, _ => rfl
  | 21, _, _ => rfl
  | 22, _, _ => rfl
  | 23, _, _ => rfl
  | 24, _, _ => rfl
  | 25, _, _ => rfl
  | 26, _, _ => rfl
  | 27, _, _ => rfl
  | 28, _, _ => rfl
  | 29, _, _ => rfl
  | 30, _, _ => rfl
  | 31, _, _ => rfl
  | 32, _, _ => rfl
  | 33, _, _ => rfl
  | 34, _, _ => rfl
  | 35, _, _ => rfl
  | 36, _, _ => rfl
  | 37, _, _ => rfl
  | 38, _, _ => rfl
  | 39, _, _ => rfl
  | 40, _, _ => rfl
  | 41, _, _ => rfl
  | 42, _, _ => rfl
  | 43, _, _ => rfl
  | 44, _, _ => rfl
  | 45, _, _ => rfl
  | 46, _, _ => rfl
  | 47, _, _ => rfl
  | 48, _, _ => rfl
  | 49, _, _ => rfl
  | 50, _, _ => rfl
  | 51, _, _ => rfl
  | 52, _, _ => rfl
  | 53, _, _ => rfl
  | 54, _, _ => rfl
  | 55, _, _ => rfl
  | k + 56, h, _ => exact absurd h (by omega)
theorem pstep_is (p : Sd.Pol) (pt : Sd.Point) : Sd.Point.step p pt = (⟨pt.cls, pt.to_, (⟨(Sd.toward pt.now.a pt.to_.a (p.i 54)), (Sd.toward pt.now.b pt.to_.b (p.i 54)), (Sd.toward pt.now.c pt.to_.c (p.i 54)), (Sd.toward pt.now.d pt.to_.d (p.i 54))⟩ : Sd.X4), (⟨(bif (!(((Sd.toward pt.now.a pt.to_.a (p.i 54)) == pt.now.a) && (((Sd.toward pt.now.b pt.to_.b (p.i 54)) == pt.now.b) && (((Sd.toward pt.now.c pt.to_.c (p.i 54)) == pt.now.c) && (((Sd.toward pt.now.d pt.to_.d (p.i 54)) == pt.now.d) && true))))) then (4 : Int) else pt.by_.rule), pt.by_.source, pt.by_.seq⟩ : Sd.Label)⟩ : Sd.Point) := by
  rcases pt with ⟨c, t, ⟨na, nb, nc, nd⟩, ⟨r, s, q⟩⟩
  have key : ∀ A B C D : Int, (if (⟨A, B, C, D⟩ : Sd.X4) = ⟨na, nb, nc, nd⟩ then (⟨r, s, q⟩ : Sd.Label) else ⟨4, s, q⟩) = ⟨(bif (!((A == na) && ((B == nb) && ((C == nc) && ((D == nd) && true))))) then (4 : Int) else r), s, q⟩ := by
    intro A B C D
    by_cases h : A = na ∧ B = nb ∧ C = nc ∧ D = nd
    · obtain ⟨rfl, rfl, rfl, rfl⟩ := h
      simp
    · have h1 : ¬ (⟨A, B, C, D⟩ : Sd.X4) = ⟨na, nb, nc, nd⟩ := by simpa [Sd.X4.mk.injEq] using h
      rw [if_neg h1]
      have h2 : ((A == na) && ((B == nb) && ((C == nc) && ((D == nd) && true)))) = false := by
        rw [Bool.eq_false_iff]; intro h3; apply h; simpa using h3
      rw [h2]; rfl
  exact congrArg (Sd.Point.mk c t _) (key _ _ _ _)

set_option maxRecDepth 100000 in
set_option maxHeartbeats 4000000 in
theorem sat_ (n : Int) (m : Int) (h_n : -9223372036854775808 ≤ n ∧ n ≤ 9223372036854775807) (h_m : -9223372036854775808 ≤ m ∧ m ≤ 9223372036854775807) (w : World) :
    Gives Tryz.prog 95 #[.int .i64 n, .int .i64 m] w fun v w1 => v = .int .i64 (Sd.sat n m) ∧ Ch [] w w1 := by
 have S0 := St.nil [] w
 refine enter_ Tryz.func95 rfl ?_
 refine seq_ (reg_ ?_)
 refine pure_ (.int .i64 0) ?_
 refine nil_ (then_n (seq_ (seq_ (reg_ ?_))))
 refine pure_ (.int .i64 n) ?_
 refine pure_ (.int .i64 m) ?_
 refine pure_ (.bool (decide (n < m))) ?_
 refine nil_ (then_n ?_)
 refine cond_S (decide (n < m)) ?_ ?_
 · intro zh1
   have zh2 := ltT' zh1
   refine seq_ (reg_ ?_)
   refine pure_ (.int .i64 n) ?_
   refine sum_ .i64 (n + 1) (IntWalk.i64_in _ (by omega)) ?_
   refine pure_ (.int .i64 (n + 1)) ?_
   refine nil_ (then_n (wp_ret (then_r ?_)))
   refine ret_ rfl (res_ [.tmp 4] [.int .i64 (n + 1)] (.int .i64 (n + 1)) ⟨res_tmp, trivial⟩) ?_
   exact ⟨congrArg _ (by unfold Sd.sat; (repeat split) <;> omega), S0.ch⟩
 intro zh3
 have zh4 := ltF' zh3
 refine wp_skip (then_n (seq_ (reg_ ?_)))
 refine pure_ (.int .i64 m) ?_
 refine pure_ (.int .i64 m) ?_
 refine nil_ (then_n (wp_ret ?_))
 refine ret_ rfl (res_ [.tmp 4] [.int .i64 m] (.int .i64 m) ⟨res_tmp, trivial⟩) ?_
 exact ⟨congrArg _ (by unfold Sd.sat; (repeat split) <;> omega), S0.ch⟩

set_option maxRecDepth 100000 in
set_option maxHeartbeats 4000000 in
theorem clamp_ (n : Int) (lo : Int) (hi : Int) (w : World) :
    Gives Tryz.prog 193 #[.int .i64 n, .int .i64 lo, .int .i64 hi] w fun v w1 => v = .int .i64 (Sd.clamp n lo hi) ∧ Ch [] w w1 := by
 have S0 := St.nil [] w
 refine enter_ Tryz.func193 rfl ?_
 refine seq_ (reg_ ?_)
 refine pure_ (.int .i64 0) ?_
 refine nil_ (then_n (seq_ (seq_ (reg_ ?_))))
 refine pure_ (.int .i64 n) ?_
 refine pure_ (.int .i64 lo) ?_
 refine pure_ (.bool (decide (n < lo))) ?_
 refine nil_ (then_n ?_)
 refine cond_S (decide (n < lo)) ?_ ?_
 · intro zh1
   have zh2 := ltT' zh1
   refine seq_ (reg_ ?_)
   refine pure_ (.int .i64 lo) ?_
   refine pure_ (.int .i64 lo) ?_
   refine nil_ (then_n (wp_ret (then_r ?_)))
   refine ret_ rfl (res_ [.tmp 6] [.int .i64 lo] (.int .i64 lo) ⟨res_tmp, trivial⟩) ?_
   exact ⟨congrArg _ (by unfold Sd.clamp; (repeat split) <;> omega), S0.ch⟩
 intro zh3
 have zh4 := ltF' zh3
 refine wp_skip (then_n (seq_ (seq_ (reg_ ?_))))
 refine pure_ (.int .i64 n) ?_
 refine pure_ (.int .i64 hi) ?_
 refine pure_ (.bool (decide (hi < n))) ?_
 refine nil_ (then_n ?_)
 refine cond_S (decide (hi < n)) ?_ ?_
 · intro zh5
   have zh6 := ltT' zh5
   refine seq_ (reg_ ?_)
   refine pure_ (.int .i64 hi) ?_
   refine pure_ (.int .i64 hi) ?_
   refine nil_ (then_n (wp_ret (then_r ?_)))
   refine ret_ rfl (res_ [.tmp 6] [.int .i64 hi] (.int .i64 hi) ⟨res_tmp, trivial⟩) ?_
   exact ⟨congrArg _ (by unfold Sd.clamp; (repeat split) <;> omega), S0.ch⟩
 intro zh7
 have zh8 := ltF' zh7
 refine wp_skip (then_n (seq_ (reg_ ?_)))
 refine pure_ (.int .i64 n) ?_
 refine pure_ (.int .i64 n) ?_
 refine nil_ (then_n (wp_ret ?_))
 refine ret_ rfl (res_ [.tmp 6] [.int .i64 n] (.int .i64 n) ⟨res_tmp, trivial⟩) ?_
 exact ⟨congrArg _ (by unfold Sd.clamp; (repeat split) <;> omega), S0.ch⟩

set_option maxRecDepth 100000 in
set_option maxHeartbeats 4000000 in
theorem toward_ (nw : Int) (t : Int) (b : Int) (h_nw : -9223372036854775808 ≤ nw ∧ nw ≤ 9223372036854775807) (h_t : -9223372036854775808 ≤ t ∧ t ≤ 9223372036854775807) (h_b : -9223372036854775808 ≤ b ∧ b ≤ 9223372036854775807) (w : World) :
    Gives Tryz.prog 155 #[.int .i64 nw, .int .i64 t, .int .i64 b] w fun v w1 => v = .int .i64 (Sd.toward nw t b) ∧ Ch [] w w1 := by
 have S0 := St.nil [] w
 refine enter_ Tryz.func155 rfl ?_
 refine seq_ (reg_ ?_)
 refine pure_ (.int .i64 0) ?_
 refine nil_ (then_n (seq_ (seq_ (reg_ ?_))))
 refine pure_ (.int .i64 b) ?_
 refine pure_ (.bool (decide (b < 1))) ?_
 refine nil_ (then_n ?_)
 refine cond_S (decide (b < 1)) ?_ ?_
 · intro zh1
   have zh2 := ltT' zh1
   refine seq_ (reg_ ?_)
   refine pure_ (.int .i64 nw) ?_
   refine pure_ (.int .i64 nw) ?_
   refine nil_ (then_n (wp_ret (then_r ?_)))
   refine ret_ rfl (res_ [.tmp 6] [.int .i64 nw] (.int .i64 nw) ⟨res_tmp, trivial⟩) ?_
   exact ⟨congrArg _ (by unfold Sd.toward; (repeat split) <;> omega), S0.ch⟩
 intro zh3
 have zh4 := ltF' zh3
 refine wp_skip (then_n (seq_ (seq_ (reg_ ?_))))
 refine pure_ (.int .i64 t) ?_
 refine pure_ (.int .i64 nw) ?_
 refine pure_ (.bool (decide (nw ≤ t))) ?_
 refine nil_ (then_n ?_)
 refine cond_S (decide (nw ≤ t)) ?_ ?_
 · intro zh5
   have zh6 := leT' zh5
   refine seq_ (seq_ (reg_ ?_))
   refine pure_ (.int .i64 t) ?_
   refine pure_ (.int .u64 (IntKind.u64.wrap t)) ?_
   refine pure_ (.int .i64 nw) ?_
   refine pure_ (.int .u64 (IntKind.u64.wrap nw)) ?_
   refine pureE_ (.int .u64 (IntKind.u64.wrap ((IntKind.u64.wrap t) - (IntKind.u64.wrap nw)))) (.int .u64 (t - nw)) (congrArg _ (wrap_sub t nw (by omega) (by omega))) ?_
   refine pure_ (.int .i64 b) ?_
   refine sum_ .u64 b (IntWalk.u64_in _ (by omega)) ?_
   refine pure_ (.bool (decide ((t - nw) ≤ b))) ?_
   refine nil_ (then_n ?_)
   refine cond_S (decide ((t - nw) ≤ b)) ?_ ?_
   · intro zh7
     have zh8 := leT' zh7
     refine seq_ (reg_ ?_)
     refine pure_ (.int .i64 t) ?_
     refine pure_ (.int .i64 t) ?_
     refine nil_ (then_n (wp_ret (then_r (then_r ?_))))
     refine ret_ rfl (res_ [.tmp 6] [.int .i64 t] (.int .i64 t) ⟨res_tmp, trivial⟩) ?_
     exact ⟨congrArg _ (by unfold Sd.toward; (repeat split) <;> omega), S0.ch⟩
   intro zh9
   have zh10 := leF' zh9
   refine wp_skip (then_n (seq_ (reg_ ?_)))
   refine pure_ (.int .i64 nw) ?_
   refine pure_ (.int .i64 b) ?_
   refine sum_ .i64 (nw + b) (IntWalk.i64_in _ (by omega)) ?_
   refine pure_ (.int .i64 (nw + b)) ?_
   refine nil_ (then_n (wp_ret (then_r ?_)))
   refine ret_ rfl (res_ [.tmp 6] [.int .i64 (nw + b)] (.int .i64 (nw + b)) ⟨res_tmp, trivial⟩) ?_
   exact ⟨congrArg _ (by unfold Sd.toward; (repeat split) <;> omega), S0.ch⟩
 intro zh11
 have zh12 := leF' zh11
 refine wp_skip (then_n (seq_ (seq_ (reg_ ?_))))
 refine pure_ (.int .i64 nw) ?_
 refine pure_ (.int .u64 (IntKind.u64.wrap nw)) ?_
 refine pure_ (.int .i64 t) ?_
 refine pure_ (.int .u64 (IntKind.u64.wrap t)) ?_
 refine pureE_ (.int .u64 (IntKind.u64.wrap ((IntKind.u64.wrap nw) - (IntKind.u64.wrap t)))) (.int .u64 (nw - t)) (congrArg _ (wrap_sub nw t (by omega) (by omega))) ?_
 refine pure_ (.int .i64 b) ?_
 refine sum_ .u64 b (IntWalk.u64_in _ (by omega)) ?_
 refine pure_ (.bool (decide ((nw - t) ≤ b))) ?_
 refine nil_ (then_n ?_)
 refine cond_S (decide ((nw - t) ≤ b)) ?_ ?_
 · intro zh13
   have zh14 := leT' zh13
   refine seq_ (reg_ ?_)
   refine pure_ (.int .i64 t) ?_
   refine pure_ (.int .i64 t) ?_
   refine nil_ (then_n (wp_ret (then_r ?_)))
   refine ret_ rfl (res_ [.tmp 6] [.int .i64 t] (.int .i64 t) ⟨res_tmp, trivial⟩) ?_
   exact ⟨congrArg _ (by unfold Sd.toward; (repeat split) <;> omega), S0.ch⟩
 intro zh15
 have zh16 := leF' zh15
 refine wp_skip (then_n (seq_ (reg_ ?_)))
 refine pure_ (.int .i64 nw) ?_
 refine pure_ (.int .i64 b) ?_
 refine sum_ .i64 (nw - b) (IntWalk.i64_in _ (by omega)) ?_
 refine pure_ (.int .i64 (nw - b)) ?_
 refine nil_ (then_n (wp_ret ?_))
 refine ret_ rfl (res_ [.tmp 6] [.int .i64 (nw - b)] (.int .i64 (nw - b)) ⟨res_tmp, trivial⟩) ?_
 exact ⟨congrArg _ (by unfold Sd.toward; (repeat split) <;> omega), S0.ch⟩

set_option maxRecDepth 100000 in
set_option maxHeartbeats 4000000 in
theorem has_ (s : Int) (i : Int) (w : World) :
    Gives Tryz.prog 162 #[.int .i64 s, .int .i64 i] w fun v w1 => v = .bool (Sd.has s i) ∧ Ch [] w w1 := by
 have S0 := St.nil [] w
 refine enter_ Tryz.func162 rfl ?_
 refine seq_ (reg_ ?_)
 refine pure_ (.bool false) ?_
 refine nil_ (then_n (seq_ (seq_ (reg_ ?_))))
 refine pure_ (.int .i64 s) ?_
 refine pure_ (.bool (decide (s < 0))) ?_
 refine pure_ (.bool (decide (s < 0))) ?_
 refine slot_ 7 (decide (s < 0)) ?_ ?_
 · intro zh1
   have zh2 := ltT' zh1
   refine skip_ ?_
   refine skip_ ?_
   refine pure_ (.bool true) ?_
   refine pure_ (.bool true) ?_
   refine skip_ ?_
   refine skip_ ?_
   refine pure_ (.bool true) ?_
   refine nil_ (then_n (cond_T ?_))
   refine seq_ (reg_ ?_)
   refine pure_ (.bool false) ?_
   refine nil_ (then_n (wp_ret (then_r ?_)))
   refine ret_ rfl (res_ [.tmp 4] [.bool false] (.bool false) ⟨res_tmp, trivial⟩) ?_
   exact ⟨congrArg Value.bool (by simp [Sd.has]; omega), S0.ch⟩
 intro zh3
 have zh4 := ltF' zh3
 refine pure_ (.int .i64 i) ?_
 refine pure_ (.bool (decide (i < 0))) ?_
 refine pure_ (.bool (decide (i < 0))) ?_
 refine pure_ (.bool (decide (i < 0))) ?_
 refine slot_ 11 (decide (i < 0)) ?_ ?_
 · intro zh5
   have zh6 := ltT' zh5
   refine skip_ ?_
   refine skip_ ?_
   refine pure_ (.bool true) ?_
   refine nil_ (then_n (cond_T ?_))
   refine seq_ (reg_ ?_)
   refine pure_ (.bool false) ?_
   refine nil_ (then_n (wp_ret (then_r ?_)))
   refine ret_ rfl (res_ [.tmp 4] [.bool false] (.bool false) ⟨res_tmp, trivial⟩) ?_
   exact ⟨congrArg Value.bool (by simp [Sd.has]; omega), S0.ch⟩
 intro zh7
 have zh8 := ltF' zh7
 refine pure_ (.int .i64 i) ?_
 refine pure_ (.bool (decide (62 < i))) ?_
 refine pure_ (.bool (decide (62 < i))) ?_
 refine nil_ (then_n ?_)
 refine cond_S (decide (62 < i)) ?_ ?_
 · intro zh9
   have zh10 := ltT' zh9
   refine seq_ (reg_ ?_)
   refine pure_ (.bool false) ?_
   refine nil_ (then_n (wp_ret (then_r ?_)))
   refine ret_ rfl (res_ [.tmp 4] [.bool false] (.bool false) ⟨res_tmp, trivial⟩) ?_
   exact ⟨congrArg Value.bool (by simp [Sd.has]; omega), S0.ch⟩
 intro zh11
 have zh12 := ltF' zh11
 refine wp_skip (then_n (seq_ (reg_ ?_)))
 refine pure_ (.int .i64 s) ?_
 refine pure_ (.int .i64 i) ?_
 refine shrS_ .i64 .i64 s i (by omega) ?_
 refine pureE_ (.int .i64 (bits .and .i64 (Int.fdiv s (2 ^ (min (i).toNat 64))) 1)) (.int .i64 ((Int.fdiv s (2 ^ (min (i).toNat 64))) % 2)) (congrArg _ (and_mask .i64 (Int.fdiv s (2 ^ (min (i).toNat 64))) 1 2 1 (by decide) (by decide) (by decide))) ?_
 refine pure_ (.bool (((Int.fdiv s (2 ^ (min (i).toNat 64))) % 2) == 1)) ?_
 refine assign_ ?_
 refine nil_ (then_n (wp_ret ?_))
 refine ret_ rfl (res_ [.tmp 4] [.bool (((Int.fdiv s (2 ^ (min (i).toNat 64))) % 2) == 1)] (.bool (((Int.fdiv s (2 ^ (min (i).toNat 64))) % 2) == 1)) ⟨res_tmp, trivial⟩) ?_
 exact ⟨congrArg Value.bool (has_is s i (by omega) (by omega) (by omega)), S0.ch⟩

set_option maxRecDepth 100000 in
set_option maxHeartbeats 4000000 in
theorem start_ (m : Int) (h_m : -9223372036854775808 ≤ m ∧ m ≤ 9223372036854775807) (w : World) :
    Gives Tryz.prog 173 #[.int .i64 m] w fun v w1 => v = .agg (timC (Sd.Timer.start m)) ∧ Ch [] w w1 := by
 have S0 := St.nil [] w
 refine enter_ Tryz.func173 rfl ?_
 refine seq_ (reg_ ?_)
 refine new_ S0 (fun b => .pointer (some ⟨b, 0, none⟩)) (.cells #[.int .i64 0, .int .i64 0] 90) ?_
 intro zb1 zw2 zS3
 refine nil_ (then_n (seq_ (reg_ ?_)))
 refine pure_ (.int .i64 m) ?_
 refine pure_ (.int .i64 (if m < 0 then 0 else m)) ?_
 have zh4 : (m ≤ (if m < 0 then 0 else m) ∧ 0 ≤ (if m < 0 then 0 else m)) ∧ ((if m < 0 then 0 else m) = m ∨ (if m < 0 then 0 else m) = 0) := by split <;> omega
 generalize (if m < 0 then 0 else m) = zm5 at *
 have zh6 : zm5 = max m 0 := by omega
 refine pure_ (.agg #[.int .i64 0, .int .i64 zm5]) ?_
 refine store_ zS3 0 (.agg #[.int .i64 0, .int .i64 zm5]) zb1 0 ?_
 intro zw7 zS8
 refine nil_ (then_n (wp_ret ?_))
 refine ret_ rfl (res_ [.cell 2 90] [.agg #[.int .i64 0, .int .i64 zm5]] (.agg #[.int .i64 0, .int .i64 zm5]) ⟨res_cellN zS8 0 2 zb1 0, trivial⟩) ?_
 have ze : Sd.Timer.start m = (⟨0, zm5⟩ : Sd.Timer) := by first | rfl | (simp [Sd.Timer.start, zh6]; done) | (simp [Sd.Timer.start, zh6]; rfl) | (simp [Sd.Timer.start]; simp [Sd.Timer.start, zh6]; done) | (simp [Sd.Timer.start]; simp [Sd.Timer.start, zh6]; rfl) | (simp [Sd.Timer.start, zh6]; omega) | (unfold Sd.Timer.start; (repeat' split) <;> first | rfl | assumption | omega | (simp_all; done) | (simp_all; omega))
 exact ⟨by (rw [ze]) <;> rfl, zS8.ch⟩

set_option maxRecDepth 100000 in
set_option maxHeartbeats 4000000 in
theorem step_ (t : Sd.Timer) (h_t_n : -9223372036854775808 ≤ t.n ∧ t.n ≤ 9223372036854775807) (h_t_most : -9223372036854775808 ≤ t.most ∧ t.most ≤ 9223372036854775807) (w : World) :
    Gives Tryz.prog 151 #[.agg (timC t)] w fun v w1 => v = .agg (timC (Sd.Timer.step t)) ∧ Ch [] w w1 := by
 have S0 := St.nil [] w
 refine enter_ Tryz.func151 rfl ?_
 refine seq_ (reg_ ?_)
 refine new_ S0 (fun b => .pointer (some ⟨b, 0, none⟩)) (.cells (timC t) 90) ?_
 intro zb1 zw2 zS3
 refine new_ zS3 (fun b => .pointer (some ⟨b, 0, none⟩)) (.cells #[.int .i64 0, .int .i64 0] 90) ?_
 intro zb4 zw5 zS6
 refine nil_ (then_n (seq_ (reg_ ?_)))
 refine pure_ (.pointer (some ⟨zb1, 0, none⟩)) ?_
 refine load1_ zS6 1 (.int .i64 t.n) zb1 0 ?_
 refine pure_ (.pointer (some ⟨zb1, 1, none⟩)) ?_
 refine load1_ zS6 1 (.int .i64 t.most) zb1 1 ?_
 refine call_ 95 #[.int .i64 t.n, .int .i64 t.most] ?_
 refine (sat_ t.n t.most (by omega) (by omega) _ ).mono ?_; rintro _ zw7 ⟨rfl, zh8⟩
 have zS9 := zS6.quiet zh8
 refine pure_ (.pointer (some ⟨zb1, 0, none⟩)) ?_
 refine store_ zS9 1 (.int .i64 (Sd.sat t.n t.most)) zb1 0 ?_
 intro zw10 zS11
 refine nil_ (then_n (seq_ (reg_ ?_)))
 refine loadN_ zS11 1 2 #[.int .i64 (Sd.sat t.n t.most), .int .i64 t.most] zb1 0 ?_
 refine store_ zS11 0 (.agg #[.int .i64 (Sd.sat t.n t.most), .int .i64 t.most]) zb4 0 ?_
 intro zw12 zS13
 refine nil_ (then_n (wp_ret ?_))
 refine ret_ rfl (res_ [.cell 2 90] [.agg #[.int .i64 (Sd.sat t.n t.most), .int .i64 t.most]] (.agg #[.int .i64 (Sd.sat t.n t.most), .int .i64 t.most]) ⟨res_cellN zS13 0 2 zb4 0, trivial⟩) ?_
 have ze : Sd.Timer.step t = (⟨(Sd.sat t.n t.most), t.most⟩ : Sd.Timer) := by first | rfl | (simp []; done) | (simp []; rfl) | (simp []; simp []; done) | (simp []; simp []; rfl) | (simp []; omega) | (unfold Sd.sat; (repeat' split) <;> first | rfl | assumption | omega | (simp_all; done) | (simp_all; omega))
 exact ⟨by (rw [ze]) <;> rfl, zS13.ch⟩

set_option maxRecDepth 100000 in
set_option maxHeartbeats 4000000 in
theorem due_ (t : Sd.Timer) (w : World) :
    Gives Tryz.prog 152 #[.agg (timC t)] w fun v w1 => v = .bool (Sd.Timer.due t) ∧ Ch [] w w1 := by
 have S0 := St.nil [] w
 refine enter_ Tryz.func152 rfl ?_
 refine seq_ (reg_ ?_)
 refine new_ S0 (fun b => .pointer (some ⟨b, 0, none⟩)) (.cells (timC t) 90) ?_
 intro zb1 zw2 zS3
 refine pure_ (.bool false) ?_
 refine nil_ (then_n (seq_ (reg_ ?_)))
 refine pure_ (.pointer (some ⟨zb1, 0, none⟩)) ?_
 refine load1_ zS3 0 (.int .i64 t.n) zb1 0 ?_
 refine pure_ (.pointer (some ⟨zb1, 1, none⟩)) ?_
 refine load1_ zS3 0 (.int .i64 t.most) zb1 1 ?_
 refine pure_ (.bool (decide (t.most ≤ t.n))) ?_
 refine assign_ ?_
 refine nil_ (then_n (wp_ret ?_))
 refine ret_ rfl (res_ [.tmp 2] [.bool (decide (t.most ≤ t.n))] (.bool (decide (t.most ≤ t.n))) ⟨res_tmp, trivial⟩) ?_
 have ze : Sd.Timer.due t = (decide (t.most ≤ t.n)) := by first | rfl | (simp []; done) | (simp []; rfl) | (simp []; simp []; done) | (simp []; simp []; rfl) | (simp []; omega) | (unfold Sd.sat; (repeat' split) <;> first | rfl | assumption | omega | (simp_all; done) | (simp_all; omega))
 exact ⟨by (rw [ze]) <;> rfl, zS3.ch⟩

set_option maxRecDepth 100000 in
set_option maxHeartbeats 4000000 in
theorem below_ (n : Int) (b : Int) (w : World) :
    Gives Tryz.prog 161 #[.int .i64 n, .int .i64 b] w fun v w1 => v = .bool (Sd.below n b) ∧ Ch [] w w1 := by
 have S0 := St.nil [] w
 refine enter_ Tryz.func161 rfl ?_
 refine seq_ (reg_ ?_)
 refine pure_ (.bool false) ?_
 refine nil_ (then_n (seq_ (reg_ ?_)))
 refine pure_ (.int .i64 n) ?_
 refine pure_ (.bool (decide (0 ≤ n))) ?_
 refine pure_ (.bool (decide (0 ≤ n))) ?_
 refine slot_ 7 (decide (0 ≤ n)) ?_ ?_
 · intro zh1
   have zh2 := leT' zh1
   refine pure_ (.int .i64 n) ?_
   refine pure_ (.int .i64 b) ?_
   refine pure_ (.bool (decide (n < b))) ?_
   refine pure_ (.bool (decide (n < b))) ?_
   refine pure_ (.bool (decide (n < b))) ?_
   refine nil_ (then_n (wp_ret ?_))
   refine ret_ rfl (res_ [.tmp 4] [.bool (decide (n < b))] (.bool (decide (n < b))) ⟨res_tmp, trivial⟩) ?_
   have ze : Sd.below n b = (decide (n < b)) := by first | rfl | (simp [Sd.below, zh1]; done) | (simp [Sd.below, zh1]; rfl) | (simp [Sd.below, zh1]; simp [Sd.below, zh1]; done) | (simp [Sd.below, zh1]; simp [Sd.below, zh1]; rfl) | (simp [Sd.below, zh1]; omega) | (unfold Sd.below; (repeat' split) <;> first | rfl | assumption | omega | (simp_all; done) | (simp_all; omega))
   exact ⟨by (rw [ze]) <;> rfl, S0.ch⟩
 intro zh3
 have zh4 := leF' zh3
 refine skip_ ?_
 refine skip_ ?_
 refine skip_ ?_
 refine pure_ (.bool false) ?_
 refine pure_ (.bool false) ?_
 refine nil_ (then_n (wp_ret ?_))
 refine ret_ rfl (res_ [.tmp 4] [.bool false] (.bool false) ⟨res_tmp, trivial⟩) ?_
 have ze : Sd.below n b = false := by first | rfl | (simp [Sd.below, zh3]; done) | (simp [Sd.below, zh3]; rfl) | (simp [Sd.below, zh3]; simp [Sd.below, zh3]; done) | (simp [Sd.below, zh3]; simp [Sd.below, zh3]; rfl) | (simp [Sd.below, zh3]; omega) | (unfold Sd.below; (repeat' split) <;> first | rfl | assumption | omega | (simp_all; done) | (simp_all; omega))
 exact ⟨by (rw [ze]) <;> rfl, S0.ch⟩

set_option maxRecDepth 100000 in
set_option maxHeartbeats 4000000 in
theorem pass_ (t : Sd.Tok) (o : Int) (e : Int) (w : World) :
    Gives Tryz.prog 66 #[.agg (tokC t), .int .i64 o, .int .i64 e] w fun v w1 => v = .agg (tokC (Sd.Tok.pass t o e)) ∧ Ch [] w w1 := by
 have S0 := St.nil [] w
 refine enter_ Tryz.func66 rfl ?_
 refine seq_ (reg_ ?_)
 refine new_ S0 (fun b => .pointer (some ⟨b, 0, none⟩)) (.cells (tokC t) 157) ?_
 intro zb1 zw2 zS3
 refine new_ zS3 (fun b => .pointer (some ⟨b, 0, none⟩)) (.cells #[.int .i64 0, .int .i64 0, .int .i64 0, .int .i64 0, .int .i64 0, .int .i64 0, .int .i64 0, .bool false] 92) ?_
 intro zb4 zw5 zS6
 refine nil_ (then_n (seq_ (reg_ ?_)))
 refine loadN_ zS6 1 8 (tokC t) zb1 0 ?_
 refine new_ zS6 (fun b => .pointer (some ⟨b, 0, none⟩)) (.cells #[.int .i64 0, .int .i64 0, .int .i64 0, .int .i64 0, .int .i64 0, .int .i64 0, .int .i64 0, .bool false] 92) ?_
 intro zb7 zw8 zS9
 refine store_ zS9 0 (.agg (tokC t)) zb7 0 ?_
 intro zw10 zS11
 refine nil_ (then_n (seq_ (reg_ ?_)))
 refine pure_ (.int .i64 o) ?_
 refine pure_ (.int .i64 e) ?_
 refine pure_ (.pointer (some ⟨zb7, 0, none⟩)) ?_
 refine store_ zS11 0 (.int .i64 o) zb7 0 ?_
 intro zw12 zS13
 refine pure_ (.pointer (some ⟨zb7, 1, none⟩)) ?_
 refine store_ zS13 0 (.int .i64 e) zb7 1 ?_
 intro zw14 zS15
 refine pure_ (.pointer (some ⟨zb7, 2, none⟩)) ?_
 refine store_ zS15 0 (.int .i64 (-1)) zb7 2 ?_
 intro zw16 zS17
 refine nil_ (then_n (seq_ (reg_ ?_)))
 refine pure_ (.agg #[.int .i64 0, .int .i64 0]) ?_
 refine pure_ (.agg #[.int .i64 0, .int .i64 0]) ?_
 refine pure_ (.pointer (some ⟨zb7, 3, none⟩)) ?_
 refine store_ zS17 0 (.agg #[.int .i64 0, .int .i64 0]) zb7 3 ?_
 intro zw18 zS19
 refine pure_ (.pointer (some ⟨zb7, 5, none⟩)) ?_
 refine store_ zS19 0 (.agg #[.int .i64 0, .int .i64 0]) zb7 5 ?_
 intro zw20 zS21
 refine nil_ (then_n (seq_ (reg_ ?_)))
 refine loadN_ zS21 0 8 #[.int .i64 o, .int .i64 e, .int .i64 (-1), .int .i64 0, .int .i64 0, .int .i64 0, .int .i64 0, .bool t.bad] zb7 0 ?_
 refine store_ zS21 1 (.agg #[.int .i64 o, .int .i64 e, .int .i64 (-1), .int .i64 0, .int .i64 0, .int .i64 0, .int .i64 0, .bool t.bad]) zb4 0 ?_
 intro zw22 zS23
 refine nil_ (then_n (wp_ret ?_))
 refine ret_ rfl (res_ [.cell 6 92] [.agg #[.int .i64 o, .int .i64 e, .int .i64 (-1), .int .i64 0, .int .i64 0, .int .i64 0, .int .i64 0, .bool t.bad]] (.agg #[.int .i64 o, .int .i64 e, .int .i64 (-1), .int .i64 0, .int .i64 0, .int .i64 0, .int .i64 0, .bool t.bad]) ⟨res_cellN zS23 1 8 zb4 0, trivial⟩) ?_
 have ze : Sd.Tok.pass t o e = (⟨o, e, (-1), (⟨0, 0⟩ : Sd.Timer), (⟨0, 0⟩ : Sd.Timer), t.bad⟩ : Sd.Tok) := by first | rfl | (simp []; done) | (simp []; rfl) | (simp []; simp []; done) | (simp []; simp []; rfl) | (simp []; omega) | (unfold Sd.sat; (repeat' split) <;> first | rfl | assumption | omega | (simp_all; done) | (simp_all; omega))
 exact ⟨by (rw [ze]) <;> rfl, zS23.ch⟩

set_option maxRecDepth 100000 in
set_option maxHeartbeats 4000000 in
theorem grant_ (t : Sd.Tok) (o : Int) (h_t_epoch : -9223372036854775808 ≤ t.epoch ∧ t.epoch ≤ 9223372036854775807) (w : World) :
    Gives Tryz.prog 143 #[.agg (tokC t), .int .i64 o] w fun v w1 => v = .tuple #[.agg (tokC ((Sd.Tok.grant t o).1)), .int .i64 ((Sd.Tok.grant t o).2)] ∧ Ch [] w w1 := by
 have S0 := St.nil [] w
 refine enter_ Tryz.func143 rfl ?_
 refine seq_ (reg_ ?_)
 refine new_ S0 (fun b => .pointer (some ⟨b, 0, none⟩)) (.cells (tokC t) 92) ?_
 intro zb1 zw2 zS3
 refine new_ zS3 (fun b => .pointer (some ⟨b, 0, none⟩)) (.cells #[.int .i64 0, .int .i64 0, .int .i64 0, .int .i64 0, .int .i64 0, .int .i64 0, .int .i64 0, .bool false] 92) ?_
 intro zb4 zw5 zS6
 refine pure_ (.int .i64 0) ?_
 refine nil_ (then_n (seq_ (wp_block (seq_ (reg_ ?_)))))
 refine pure_ (.int .i64 o) ?_
 refine pure_ (.bool (decide (o < 0))) ?_
 refine pure_ (.bool (decide (o < 0))) ?_
 refine slot_ 10 (decide (o < 0)) ?_ ?_
 · intro zh7
   have zh8 := ltT' zh7
   refine skip_ ?_
   refine skip_ ?_
   refine pure_ (.bool true) ?_
   refine pure_ (.bool true) ?_
   refine nil_ (then_n (cond_T ?_))
   refine seq_ (reg_ ?_)
   refine loadN_ zS6 1 8 (tokC t) zb1 0 ?_
   refine store_ zS6 0 (.agg (tokC t)) zb4 0 ?_
   intro zw9 zS10
   refine pure_ (.int .i64 1) ?_
   refine nil_ (then_n (wp_ret (blk_r (then_r ?_))))
   refine ret_ rfl (res_ [.cell 4 92, .tmp 5] [.agg (tokC t), .int .i64 1] (.tuple #[.agg (tokC t), .int .i64 1]) ⟨res_cellN zS10 0 8 zb4 0, res_tmp, trivial⟩) ?_
   have ze : Sd.Tok.grant t o = (t, 1) := by first | rfl | (simp [Sd.Tok.grant, Sd.Tok.pass, Sd.Timer.zero, zh7]; done) | (simp [Sd.Tok.grant, Sd.Tok.pass, Sd.Timer.zero, zh7]; rfl) | (simp [Sd.Tok.grant, Sd.Tok.pass, Sd.Timer.zero, zh7]; simp [Sd.Tok.grant, Sd.Tok.pass, Sd.Timer.zero, zh7]; done) | (simp [Sd.Tok.grant, Sd.Tok.pass, Sd.Timer.zero, zh7]; simp [Sd.Tok.grant, Sd.Tok.pass, Sd.Timer.zero, zh7]; rfl) | (simp [Sd.Tok.grant, Sd.Tok.pass, Sd.Timer.zero, zh7]; omega) | (unfold Sd.Tok.grant; (repeat' split) <;> first | rfl | assumption | omega | (simp_all; done) | (simp_all; omega))
   exact ⟨by (rw [ze]) <;> rfl, zS10.ch⟩
 intro zh11
 have zh12 := ltF' zh11
 refine pure_ (.int .i64 o) ?_
 refine pure_ (.bool (decide (5 ≤ o))) ?_
 refine pure_ (.bool (decide (5 ≤ o))) ?_
 refine pure_ (.bool (decide (5 ≤ o))) ?_
 refine nil_ (then_n ?_)
 refine cond_S (decide (5 ≤ o)) ?_ ?_
 · intro zh13
   have zh14 := leT' zh13
   refine seq_ (reg_ ?_)
   refine loadN_ zS6 1 8 (tokC t) zb1 0 ?_
   refine store_ zS6 0 (.agg (tokC t)) zb4 0 ?_
   intro zw15 zS16
   refine pure_ (.int .i64 1) ?_
   refine nil_ (then_n (wp_ret (blk_r (then_r ?_))))
   refine ret_ rfl (res_ [.cell 4 92, .tmp 5] [.agg (tokC t), .int .i64 1] (.tuple #[.agg (tokC t), .int .i64 1]) ⟨res_cellN zS16 0 8 zb4 0, res_tmp, trivial⟩) ?_
   have ze : Sd.Tok.grant t o = (t, 1) := by first | rfl | (simp [Sd.Tok.grant, Sd.Tok.pass, Sd.Timer.zero, zh11, zh13]; done) | (simp [Sd.Tok.grant, Sd.Tok.pass, Sd.Timer.zero, zh11, zh13]; rfl) | (simp [Sd.Tok.grant, Sd.Tok.pass, Sd.Timer.zero, zh11, zh13]; simp [Sd.Tok.grant, Sd.Tok.pass, Sd.Timer.zero, zh11, zh13]; done) | (simp [Sd.Tok.grant, Sd.Tok.pass, Sd.Timer.zero, zh11, zh13]; simp [Sd.Tok.grant, Sd.Tok.pass, Sd.Timer.zero, zh11, zh13]; rfl) | (simp [Sd.Tok.grant, Sd.Tok.pass, Sd.Timer.zero, zh11, zh13]; omega) | (unfold Sd.Tok.grant; (repeat' split) <;> first | rfl | assumption | omega | (simp_all; done) | (simp_all; omega))
   exact ⟨by (rw [ze]) <;> rfl, zS16.ch⟩
 intro zh17
 have zh18 := leF' zh17
 refine seq_ (reg_ ?_)
 refine pure_ (.int .i64 o) ?_
 refine pure_ (.pointer (some ⟨zb1, 0, none⟩)) ?_
 refine load1_ zS6 1 (.int .i64 t.holder) zb1 0 ?_
 refine pure_ (.bool (o == t.holder)) ?_
 refine pure_ (.bool (o == t.holder)) ?_
 refine nil_ (then_n ?_)
 refine cond_S (o == t.holder) ?_ ?_
 · intro zh19
   have zh20 := eqT' zh19
   refine seq_ (reg_ ?_)
   refine loadN_ zS6 1 8 (tokC t) zb1 0 ?_
   refine store_ zS6 0 (.agg (tokC t)) zb4 0 ?_
   intro zw21 zS22
   refine pure_ (.int .i64 25) ?_
   refine nil_ (then_n (wp_ret (blk_r (then_r ?_))))
   refine ret_ rfl (res_ [.cell 4 92, .tmp 5] [.agg (tokC t), .int .i64 25] (.tuple #[.agg (tokC t), .int .i64 25]) ⟨res_cellN zS22 0 8 zb4 0, res_tmp, trivial⟩) ?_
   have ze : Sd.Tok.grant t o = (t, 25) := by first | rfl | (simp [Sd.Tok.grant, Sd.Tok.pass, Sd.Timer.zero, zh11, zh17, zh19, zh20]; done) | (simp [Sd.Tok.grant, Sd.Tok.pass, Sd.Timer.zero, zh11, zh17, zh19, zh20]; rfl) | (simp [Sd.Tok.grant, Sd.Tok.pass, Sd.Timer.zero, zh11, zh17]; simp [Sd.Tok.grant, Sd.Tok.pass, Sd.Timer.zero, zh11, zh17, zh19, zh20]; done) | (simp [Sd.Tok.grant, Sd.Tok.pass, Sd.Timer.zero, zh11, zh17]; simp [Sd.Tok.grant, Sd.Tok.pass, Sd.Timer.zero, zh11, zh17, zh19, zh20]; rfl) | (simp [Sd.Tok.grant, Sd.Tok.pass, Sd.Timer.zero, zh11, zh17, zh19, zh20]; omega) | (unfold Sd.Tok.grant; (repeat' split) <;> first | rfl | assumption | omega | (simp_all; done) | (simp_all; omega))
   exact ⟨by (rw [ze]) <;> rfl, zS22.ch⟩
 intro zh23
 have zh24 := eqF' zh23
 refine seq_ (reg_ ?_)
 refine pure_ (.pointer (some ⟨zb1, 1, none⟩)) ?_
 refine load1_ zS6 1 (.int .i64 t.epoch) zb1 1 ?_
 refine pure_ (.bool (decide (65535 ≤ t.epoch))) ?_
 refine assign_ ?_
 refine nil_ (then_n ?_)
 refine cond_S (decide (65535 ≤ t.epoch)) ?_ ?_
 · intro zh25
   have zh26 := leT' zh25
   refine seq_ (reg_ ?_)
   refine loadN_ zS6 1 8 (tokC t) zb1 0 ?_
   refine store_ zS6 0 (.agg (tokC t)) zb4 0 ?_
   intro zw27 zS28
   refine pure_ (.int .i64 24) ?_
   refine nil_ (then_n (wp_ret (blk_r (then_r ?_))))
   refine ret_ rfl (res_ [.cell 4 92, .tmp 5] [.agg (tokC t), .int .i64 24] (.tuple #[.agg (tokC t), .int .i64 24]) ⟨res_cellN zS28 0 8 zb4 0, res_tmp, trivial⟩) ?_
   have ze : Sd.Tok.grant t o = (t, 24) := by first | rfl | (simp [Sd.Tok.grant, Sd.Tok.pass, Sd.Timer.zero, zh11, zh17, zh23, zh25, zh24]; done) | (simp [Sd.Tok.grant, Sd.Tok.pass, Sd.Timer.zero, zh11, zh17, zh23, zh25, zh24]; rfl) | (simp [Sd.Tok.grant, Sd.Tok.pass, Sd.Timer.zero, zh11, zh17, zh23, zh25]; simp [Sd.Tok.grant, Sd.Tok.pass, Sd.Timer.zero, zh11, zh17, zh23, zh25, zh24]; done) | (simp [Sd.Tok.grant, Sd.Tok.pass, Sd.Timer.zero, zh11, zh17, zh23, zh25]; simp [Sd.Tok.grant, Sd.Tok.pass, Sd.Timer.zero, zh11, zh17, zh23, zh25, zh24]; rfl) | (simp [Sd.Tok.grant, Sd.Tok.pass, Sd.Timer.zero, zh11, zh17, zh23, zh25, zh24]; omega) | (unfold Sd.Tok.grant; (repeat' split) <;> first | rfl | assumption | omega | (simp_all; done) | (simp_all; omega))
   exact ⟨by (rw [ze]) <;> rfl, zS28.ch⟩
 intro zh29
 have zh30 := leF' zh29
 refine wp_skip (blk_n (then_n (seq_ (reg_ ?_))))
 refine loadN_ zS6 1 8 (tokC t) zb1 0 ?_
 refine pure_ (.func (.func 66) #[.agg (tokC t)] #[]) ?_
 refine assign_ ?_
 refine nil_ (then_n (seq_ (reg_ ?_)))
 refine move_ ?_
 refine pure_ (.int .i64 o) ?_
 refine pure_ (.pointer (some ⟨zb1, 1, none⟩)) ?_
 refine load1_ zS6 1 (.int .i64 t.epoch) zb1 1 ?_
 refine sum_ .i64 (t.epoch + 1) (IntWalk.i64_in _ (by omega)) ?_
 refine call_ 66 #[.agg (tokC t), .int .i64 o, .int .i64 (t.epoch + 1)] ?_
 refine (pass_ t o (t.epoch + 1) _ ).mono ?_; rintro _ zw31 ⟨rfl, zh32⟩
 have zS33 := zS6.quiet zh32
 refine store_ zS33 0 (.agg (tokC (Sd.Tok.pass t o (t.epoch + 1)))) zb4 0 ?_
 intro zw34 zS35
 refine pure_ (.int .i64 0) ?_
 refine nil_ (then_n (wp_ret ?_))
 refine ret_ rfl (res_ [.cell 4 92, .tmp 5] [.agg (tokC (Sd.Tok.pass t o (t.epoch + 1))), .int .i64 0] (.tuple #[.agg (tokC (Sd.Tok.pass t o (t.epoch + 1))), .int .i64 0]) ⟨res_cellN zS35 0 8 zb4 0, res_tmp, trivial⟩) ?_
 have ze : Sd.Tok.grant t o = ((Sd.Tok.pass t o (t.epoch + 1)), 0) := by first | rfl | (simp [Sd.Tok.grant, Sd.Tok.pass, Sd.Timer.zero, zh11, zh17, zh23, zh29, zh24]; done) | (simp [Sd.Tok.grant, Sd.Tok.pass, Sd.Timer.zero, zh11, zh17, zh23, zh29, zh24]; rfl) | (simp [Sd.Tok.grant, Sd.Tok.pass, Sd.Timer.zero, zh11, zh17, zh23, zh29]; simp [Sd.Tok.grant, Sd.Tok.pass, Sd.Timer.zero, zh11, zh17, zh23, zh29, zh24]; done) | (simp [Sd.Tok.grant, Sd.Tok.pass, Sd.Timer.zero, zh11, zh17, zh23, zh29]; simp [Sd.Tok.grant, Sd.Tok.pass, Sd.Timer.zero, zh11, zh17, zh23, zh29, zh24]; rfl) | (simp [Sd.Tok.grant, Sd.Tok.pass, Sd.Timer.zero, zh11, zh17, zh23, zh29, zh24]; omega) | (unfold Sd.Tok.grant; (repeat' split) <;> first | rfl | assumption | omega | (simp_all; done) | (simp_all; omega))
 exact ⟨by (rw [ze]) <;> rfl, zS35.ch⟩

set_option maxRecDepth 100000 in
set_option maxHeartbeats 4000000 in
theorem seize_ (t : Sd.Tok) (h_t_epoch : -9223372036854775808 ≤ t.epoch ∧ t.epoch ≤ 9223372036854775807) (w : World) :
    Gives Tryz.prog 101 #[.agg (tokC t)] w fun v w1 => v = .agg (tokC (Sd.Tok.seize t)) ∧ Ch [] w w1 := by
 have S0 := St.nil [] w
 refine enter_ Tryz.func101 rfl ?_
 refine seq_ (reg_ ?_)
 refine new_ S0 (fun b => .pointer (some ⟨b, 0, none⟩)) (.cells (tokC t) 92) ?_
 intro zb1 zw2 zS3
 refine new_ zS3 (fun b => .pointer (some ⟨b, 0, none⟩)) (.cells #[.int .i64 0, .int .i64 0, .int .i64 0, .int .i64 0, .int .i64 0, .int .i64 0, .int .i64 0, .bool false] 92) ?_
 intro zb4 zw5 zS6
 refine nil_ (then_n (seq_ (reg_ ?_)))
 refine pure_ (.pointer (some ⟨zb1, 1, none⟩)) ?_
 refine load1_ zS6 1 (.int .i64 t.epoch) zb1 1 ?_
 refine pure_ (.int .i64 t.epoch) ?_
 refine nil_ (then_n (seq_ (seq_ (reg_ ?_))))
 refine pure_ (.pointer (some ⟨zb1, 0, none⟩)) ?_
 refine load1_ zS6 1 (.int .i64 t.holder) zb1 0 ?_
 refine pure_ (.bool (t.holder != 4)) ?_
 refine nil_ (then_n ?_)
 refine cond_S (t.holder != 4) ?_ ?_
 · intro zh7
   have zh8 := neT' zh7
   refine reg_ ?_
   refine pure_ (.int .i64 t.epoch) ?_
   refine call_ 95 #[.int .i64 t.epoch, .int .i64 65535] ?_
   refine (sat_ t.epoch 65535 (by omega) (by omega) _ ).mono ?_; rintro _ zw9 ⟨rfl, zh10⟩
   have zS11 := zS6.quiet zh10
   refine assign_ ?_
   refine nil_ (then_n (seq_ (reg_ ?_)))
   refine loadN_ zS11 1 8 (tokC t) zb1 0 ?_
   refine pure_ (.func (.func 66) #[.agg (tokC t)] #[]) ?_
   refine assign_ ?_
   refine nil_ (then_n (seq_ (reg_ ?_)))
   refine move_ ?_
   refine move_ ?_
   refine call_ 66 #[.agg (tokC t), .int .i64 4, .int .i64 (Sd.sat t.epoch 65535)] ?_
   refine (pass_ t 4 (Sd.sat t.epoch 65535) _ ).mono ?_; rintro _ zw12 ⟨rfl, zh13⟩
   have zS14 := zS11.quiet zh13
   refine store_ zS14 0 (.agg (tokC (Sd.Tok.pass t 4 (Sd.sat t.epoch 65535)))) zb4 0 ?_
   intro zw15 zS16
   refine nil_ (then_n (wp_ret ?_))
   refine ret_ rfl (res_ [.cell 2 92] [.agg (tokC (Sd.Tok.pass t 4 (Sd.sat t.epoch 65535)))] (.agg (tokC (Sd.Tok.pass t 4 (Sd.sat t.epoch 65535)))) ⟨res_cellN zS16 0 8 zb4 0, trivial⟩) ?_
   have ze : Sd.Tok.seize t = (Sd.Tok.pass t 4 (Sd.sat t.epoch 65535)) := by first | rfl | (simp [Sd.Tok.seize, Sd.Tok.pass, Sd.Timer.zero, zh7, zh8]; done) | (simp [Sd.Tok.seize, Sd.Tok.pass, Sd.Timer.zero, zh7, zh8]; rfl) | (simp [Sd.Tok.seize, Sd.Tok.pass, Sd.Timer.zero, zh7]; simp [Sd.Tok.seize, Sd.Tok.pass, Sd.Timer.zero, zh7, zh8]; done) | (simp [Sd.Tok.seize, Sd.Tok.pass, Sd.Timer.zero, zh7]; simp [Sd.Tok.seize, Sd.Tok.pass, Sd.Timer.zero, zh7, zh8]; rfl) | (simp [Sd.Tok.seize, Sd.Tok.pass, Sd.Timer.zero, zh7, zh8]; omega) | (unfold Sd.Tok.seize; (repeat' split) <;> first | rfl | assumption | omega | (simp_all; done) | (simp_all; omega))
   exact ⟨by (rw [ze]) <;> rfl, zS16.ch⟩
 intro zh17
 have zh18 := neF' zh17
 refine wp_skip (then_n (seq_ (reg_ ?_)))
 refine loadN_ zS6 1 8 (tokC t) zb1 0 ?_
 refine pure_ (.func (.func 66) #[.agg (tokC t)] #[]) ?_
 refine assign_ ?_
 refine nil_ (then_n (seq_ (reg_ ?_)))
 refine move_ ?_
 refine pure_ (.int .i64 t.epoch) ?_
 refine call_ 66 #[.agg (tokC t), .int .i64 4, .int .i64 t.epoch] ?_
 refine (pass_ t 4 t.epoch _ ).mono ?_; rintro _ zw19 ⟨rfl, zh20⟩
 have zS21 := zS6.quiet zh20
 refine store_ zS21 0 (.agg (tokC (Sd.Tok.pass t 4 t.epoch))) zb4 0 ?_
 intro zw22 zS23
 refine nil_ (then_n (wp_ret ?_))
 refine ret_ rfl (res_ [.cell 2 92] [.agg (tokC (Sd.Tok.pass t 4 t.epoch))] (.agg (tokC (Sd.Tok.pass t 4 t.epoch))) ⟨res_cellN zS23 0 8 zb4 0, trivial⟩) ?_
 have ze : Sd.Tok.seize t = (Sd.Tok.pass t 4 t.epoch) := by first | rfl | (simp [Sd.Tok.seize, Sd.Tok.pass, Sd.Timer.zero, zh17, zh18]; done) | (simp [Sd.Tok.seize, Sd.Tok.pass, Sd.Timer.zero, zh17, zh18]; rfl) | (simp [Sd.Tok.seize, Sd.Tok.pass, Sd.Timer.zero, zh17]; simp [Sd.Tok.seize, Sd.Tok.pass, Sd.Timer.zero, zh17, zh18]; done) | (simp [Sd.Tok.seize, Sd.Tok.pass, Sd.Timer.zero, zh17]; simp [Sd.Tok.seize, Sd.Tok.pass, Sd.Timer.zero, zh17, zh18]; rfl) | (simp [Sd.Tok.seize, Sd.Tok.pass, Sd.Timer.zero, zh17, zh18]; omega) | (unfold Sd.Tok.seize; (repeat' split) <;> first | rfl | assumption | omega | (simp_all; done) | (simp_all; omega))
 exact ⟨by (rw [ze]) <;> rfl, zS23.ch⟩

set_option maxRecDepth 100000 in
set_option maxHeartbeats 4000000 in
theorem open_ (t : Sd.Tok) (w : World) :
    Gives Tryz.prog 150 #[.agg (tokC t)] w fun v w1 => v = .bool (decide (0 ≤ t.offer)) ∧ Ch [] w w1 := by
 have S0 := St.nil [] w
 refine enter_ Tryz.func150 rfl ?_
 refine seq_ (reg_ ?_)
 refine new_ S0 (fun b => .pointer (some ⟨b, 0, none⟩)) (.cells (tokC t) 92) ?_
 intro zb1 zw2 zS3
 refine pure_ (.bool false) ?_
 refine nil_ (then_n (seq_ (reg_ ?_)))
 refine pure_ (.pointer (some ⟨zb1, 2, none⟩)) ?_
 refine load1_ zS3 0 (.int .i64 t.offer) zb1 2 ?_
 refine pure_ (.bool (decide (0 ≤ t.offer))) ?_
 refine assign_ ?_
 refine nil_ (then_n (wp_ret ?_))
 refine ret_ rfl (res_ [.tmp 2] [.bool (decide (0 ≤ t.offer))] (.bool (decide (0 ≤ t.offer))) ⟨res_tmp, trivial⟩) ?_
 have ze : decide (0 ≤ t.offer) = (decide (0 ≤ t.offer)) := by first | rfl | (simp []; done) | (simp []; rfl) | (simp []; simp []; done) | (simp []; simp []; rfl) | (simp []; omega) | (unfold Sd.sat; (repeat' split) <;> first | rfl | assumption | omega | (simp_all; done) | (simp_all; omega))
 exact ⟨by (rw [ze]) <;> rfl, zS3.ch⟩

set_option maxRecDepth 100000 in
set_option maxHeartbeats 4000000 in
theorem end_o (t : Sd.Tok) (w : World) :
    Gives Tryz.prog 153 #[.agg (tokC t)] w fun v w1 => v = .agg (tokC (Sd.Tok.endOffer t)) ∧ Ch [] w w1 := by
 have S0 := St.nil [] w
 refine enter_ Tryz.func153 rfl ?_
 refine seq_ (reg_ ?_)
 refine new_ S0 (fun b => .pointer (some ⟨b, 0, none⟩)) (.cells (tokC t) 92) ?_
 intro zb1 zw2 zS3
 refine new_ zS3 (fun b => .pointer (some ⟨b, 0, none⟩)) (.cells #[.int .i64 0, .int .i64 0, .int .i64 0, .int .i64 0, .int .i64 0, .int .i64 0, .int .i64 0, .bool false] 92) ?_
 intro zb4 zw5 zS6
 refine nil_ (then_n (seq_ (reg_ ?_)))
 refine pure_ (.agg #[.int .i64 0, .int .i64 0]) ?_
 refine pure_ (.pointer (some ⟨zb1, 2, none⟩)) ?_
 refine store_ zS6 1 (.int .i64 (-1)) zb1 2 ?_
 intro zw7 zS8
 refine pure_ (.pointer (some ⟨zb1, 3, none⟩)) ?_
 refine store_ zS8 1 (.agg #[.int .i64 0, .int .i64 0]) zb1 3 ?_
 intro zw9 zS10
 refine nil_ (then_n (seq_ (reg_ ?_)))
 refine loadN_ zS10 1 8 #[.int .i64 t.holder, .int .i64 t.epoch, .int .i64 (-1), .int .i64 0, .int .i64 0, .int .i64 t.la.n, .int .i64 t.la.most, .bool t.bad] zb1 0 ?_
 refine store_ zS10 0 (.agg #[.int .i64 t.holder, .int .i64 t.epoch, .int .i64 (-1), .int .i64 0, .int .i64 0, .int .i64 t.la.n, .int .i64 t.la.most, .bool t.bad]) zb4 0 ?_
 intro zw11 zS12
 refine nil_ (then_n (wp_ret ?_))
 refine ret_ rfl (res_ [.cell 2 92] [.agg #[.int .i64 t.holder, .int .i64 t.epoch, .int .i64 (-1), .int .i64 0, .int .i64 0, .int .i64 t.la.n, .int .i64 t.la.most, .bool t.bad]] (.agg #[.int .i64 t.holder, .int .i64 t.epoch, .int .i64 (-1), .int .i64 0, .int .i64 0, .int .i64 t.la.n, .int .i64 t.la.most, .bool t.bad]) ⟨res_cellN zS12 0 8 zb4 0, trivial⟩) ?_
 have ze : Sd.Tok.endOffer t = (⟨t.holder, t.epoch, (-1), (⟨0, 0⟩ : Sd.Timer), t.la, t.bad⟩ : Sd.Tok) := by first | rfl | (simp []; done) | (simp []; rfl) | (simp []; simp []; done) | (simp []; simp []; rfl) | (simp []; omega) | (unfold Sd.sat; (repeat' split) <;> first | rfl | assumption | omega | (simp_all; done) | (simp_all; omega))
 exact ⟨by (rw [ze]) <;> rfl, zS12.ch⟩

set_option maxRecDepth 100000 in
set_option maxHeartbeats 4000000 in
theorem place_ (p : Sd.Pol) (ka : Nat → Option Addr) (kn kc : Nat → Nat) (s : Int) (w : World) :
    Gives Tryz.prog 249 #[.agg #[.int .i64 (p.i 0), .int .i64 (p.i 1), .int .i64 (p.i 2), .int .i64 (p.i 3), .int .i64 (p.i 4)], .int .i64 s] w fun v w1 => v = .int .i64 (Sd.placeOf p s) ∧ Ch [] w w1 := by
 have S0 := St.nil [] w
 refine enter_ Tryz.func249 rfl ?_
 refine seq_ (reg_ ?_)
 refine new_ S0 (fun b => .pointer (some ⟨b, 0, none⟩)) (.cells #[.int .i64 (p.i 0), .int .i64 (p.i 1), .int .i64 (p.i 2), .int .i64 (p.i 3), .int .i64 (p.i 4)] 350) ?_
 intro zb1 zw2 zS3
 refine pure_ (.int .i64 0) ?_
 refine nil_ (then_n (seq_ (seq_ (reg_ ?_))))
 refine loadN_ zS3 0 5 #[.int .i64 (p.i 0), .int .i64 (p.i 1), .int .i64 (p.i 2), .int .i64 (p.i 3), .int .i64 (p.i 4)] zb1 0 ?_
 refine pure_ (.int .i64 0) ?_
 refine nil_ (then_n (wp_block (loop_ 24 (seq_ (reg_ ?_)))))
 refine pure_ (.bool true) ?_
 refine nil_ (then_n (seq_ (cond_T ?_)))
 refine wp_skip (then_n (seq_ (wp_block (seq_ (reg_ ?_)))))
 refine pure_ (.int .i64 0) ?_
 refine pure_ (.int .i64 (p.i 0)) ?_
 refine pure_ (.int .i64 0) ?_
 refine pure_ (.int .i64 (p.i 0)) ?_
 refine nil_ (then_n (seq_ (reg_ ?_)))
 refine pure_ (.int .i64 (p.i 0)) ?_
 refine pure_ (.int .i64 s) ?_
 refine pure_ (.bool ((p.i 0) == s)) ?_
 refine nil_ (then_n ?_)
 refine cond_S ((p.i 0) == s) ?_ ?_
 · intro zh4
   have zh5 := eqT' zh4
   refine seq_ (reg_ ?_)
   refine pure_ (.int .i64 0) ?_
   refine pure_ (.int .i64 0) ?_
   refine nil_ (then_n (wp_ret (blk_r (then_r (then_r (blk_r (then_r ?_)))))))
   refine ret_ rfl (res_ [.tmp 4] [.int .i64 0] (.int .i64 0) ⟨res_tmp, trivial⟩) ?_
   exact ⟨congrArg _ (by unfold Sd.placeOf; (repeat' split) <;> first | rfl | omega), zS3.ch⟩
 intro zh6
 have zh7 := eqF' zh6
 refine wp_skip (blk_n (then_n (reg_ ?_)))
 refine pure_ (.int .i64 1) ?_
 refine pure_ (.int .i64 1) ?_
 refine nil_ (again_ (seq_ (reg_ ?_)))
 refine pure_ (.bool true) ?_
 refine nil_ (then_n (seq_ (cond_T ?_)))
 refine wp_skip (then_n (seq_ (wp_block (seq_ (reg_ ?_)))))
 refine pure_ (.int .i64 1) ?_
 refine pure_ (.int .i64 (p.i 1)) ?_
 refine pure_ (.int .i64 1) ?_
 refine pure_ (.int .i64 (p.i 1)) ?_
 refine nil_ (then_n (seq_ (reg_ ?_)))
 refine pure_ (.int .i64 (p.i 1)) ?_
 refine pure_ (.int .i64 s) ?_
 refine pure_ (.bool ((p.i 1) == s)) ?_
 refine nil_ (then_n ?_)
 refine cond_S ((p.i 1) == s) ?_ ?_
 · intro zh8
   have zh9 := eqT' zh8
   refine seq_ (reg_ ?_)
   refine pure_ (.int .i64 1) ?_
   refine pure_ (.int .i64 1) ?_
   refine nil_ (then_n (wp_ret (blk_r (then_r (then_r (blk_r (then_r ?_)))))))
   refine ret_ rfl (res_ [.tmp 4] [.int .i64 1] (.int .i64 1) ⟨res_tmp, trivial⟩) ?_
   exact ⟨congrArg _ (by unfold Sd.placeOf; (repeat' split) <;> first | rfl | omega), zS3.ch⟩
 intro zh10
 have zh11 := eqF' zh10
 refine wp_skip (blk_n (then_n (reg_ ?_)))
 refine pure_ (.int .i64 2) ?_
 refine pure_ (.int .i64 2) ?_
 refine nil_ (again_ (seq_ (reg_ ?_)))
 refine pure_ (.bool true) ?_
 refine nil_ (then_n (seq_ (cond_T ?_)))
 refine wp_skip (then_n (seq_ (wp_block (seq_ (reg_ ?_)))))
 refine pure_ (.int .i64 2) ?_
 refine pure_ (.int .i64 (p.i 2)) ?_
 refine pure_ (.int .i64 2) ?_
 refine pure_ (.int .i64 (p.i 2)) ?_
 refine nil_ (then_n (seq_ (reg_ ?_)))
 refine pure_ (.int .i64 (p.i 2)) ?_
 refine pure_ (.int .i64 s) ?_
 refine pure_ (.bool ((p.i 2) == s)) ?_
 refine nil_ (then_n ?_)
 refine cond_S ((p.i 2) == s) ?_ ?_
 · intro zh12
   have zh13 := eqT' zh12
   refine seq_ (reg_ ?_)
   refine pure_ (.int .i64 2) ?_
   refine pure_ (.int .i64 2) ?_
   refine nil_ (then_n (wp_ret (blk_r (then_r (then_r (blk_r (then_r ?_)))))))
   refine ret_ rfl (res_ [.tmp 4] [.int .i64 2] (.int .i64 2) ⟨res_tmp, trivial⟩) ?_
   exact ⟨congrArg _ (by unfold Sd.placeOf; (repeat' split) <;> first | rfl | omega), zS3.ch⟩
 intro zh14
 have zh15 := eqF' zh14
 refine wp_skip (blk_n (then_n (reg_ ?_)))
 refine pure_ (.int .i64 3) ?_
 refine pure_ (.int .i64 3) ?_
 refine nil_ (again_ (seq_ (reg_ ?_)))
 refine pure_ (.bool true) ?_
 refine nil_ (then_n (seq_ (cond_T ?_)))
 refine wp_skip (then_n (seq_ (wp_block (seq_ (reg_ ?_)))))
 refine pure_ (.int .i64 3) ?_
 refine pure_ (.int .i64 (p.i 3)) ?_
 refine pure_ (.int .i64 3) ?_
 refine pure_ (.int .i64 (p.i 3)) ?_
 refine nil_ (then_n (seq_ (reg_ ?_)))
 refine pure_ (.int .i64 (p.i 3)) ?_
 refine pure_ (.int .i64 s) ?_
 refine pure_ (.bool ((p.i 3) == s)) ?_
 refine nil_ (then_n ?_)
 refine cond_S ((p.i 3) == s) ?_ ?_
 · intro zh16
   have zh17 := eqT' zh16
   refine seq_ (reg_ ?_)
   refine pure_ (.int .i64 3) ?_
   refine pure_ (.int .i64 3) ?_
   refine nil_ (then_n (wp_ret (blk_r (then_r (then_r (blk_r (then_r ?_)))))))
   refine ret_ rfl (res_ [.tmp 4] [.int .i64 3] (.int .i64 3) ⟨res_tmp, trivial⟩) ?_
   exact ⟨congrArg _ (by unfold Sd.placeOf; (repeat' split) <;> first | rfl | omega), zS3.ch⟩
 intro zh18
 have zh19 := eqF' zh18
 refine wp_skip (blk_n (then_n (reg_ ?_)))
 refine pure_ (.int .i64 4) ?_
 refine pure_ (.int .i64 4) ?_
 refine nil_ (again_ (seq_ (reg_ ?_)))
 refine pure_ (.bool true) ?_
 refine nil_ (then_n (seq_ (cond_T ?_)))
 refine wp_skip (then_n (seq_ (wp_block (seq_ (reg_ ?_)))))
 refine pure_ (.int .i64 4) ?_
 refine pure_ (.int .i64 (p.i 4)) ?_
 refine pure_ (.int .i64 4) ?_
 refine pure_ (.int .i64 (p.i 4)) ?_
 refine nil_ (then_n (seq_ (reg_ ?_)))
 refine pure_ (.int .i64 (p.i 4)) ?_
 refine pure_ (.int .i64 s) ?_
 refine pure_ (.bool ((p.i 4) == s)) ?_
 refine nil_ (then_n ?_)
 refine cond_S ((p.i 4) == s) ?_ ?_
 · intro zh20
   have zh21 := eqT' zh20
   refine seq_ (reg_ ?_)
   refine pure_ (.int .i64 4) ?_
   refine pure_ (.int .i64 4) ?_
   refine nil_ (then_n (wp_ret (blk_r (then_r (then_r (blk_r (then_r ?_)))))))
   refine ret_ rfl (res_ [.tmp 4] [.int .i64 4] (.int .i64 4) ⟨res_tmp, trivial⟩) ?_
   exact ⟨congrArg _ (by unfold Sd.placeOf; (repeat' split) <;> first | rfl | omega), zS3.ch⟩
 intro zh22
 have zh23 := eqF' zh22
 refine wp_skip (blk_n (then_n (reg_ ?_)))
 refine pure_ (.int .i64 5) ?_
 refine pure_ (.int .i64 5) ?_
 refine nil_ (again_ (seq_ (reg_ ?_)))
 refine pure_ (.bool false) ?_
 refine nil_ (then_n (seq_ (cond_F ?_)))
 refine wp_exit (then_e (then_e (blk_e (then_n (seq_ (reg_ ?_))))))
 refine pure_ (.int .i64 (-1)) ?_
 refine nil_ (then_n (wp_ret ?_))
 refine ret_ rfl (res_ [.tmp 4] [.int .i64 (-1)] (.int .i64 (-1)) ⟨res_tmp, trivial⟩) ?_
 exact ⟨congrArg _ (by unfold Sd.placeOf; (repeat' split) <;> first | rfl | omega), zS3.ch⟩

set_option maxRecDepth 100000 in
set_option maxHeartbeats 4000000 in
theorem rank_ (p : Sd.Pol) (ka : Nat → Option Addr) (kn kc : Nat → Nat) (s : Int) (w : World) :
    Gives Tryz.prog 220 #[.agg (polP p ka kn kc), .int .i64 s] w fun v w1 => v = .int .i64 (Sd.placeOf p s) ∧ Ch [] w w1 := by
 have S0 := St.nil [] w
 refine enter_ Tryz.func220 rfl ?_
 refine seq_ (reg_ ?_)
 refine new_ S0 (fun b => .pointer (some ⟨b, 0, none⟩)) (.cells (polP p ka kn kc) 28) ?_
 intro zb1 zw2 zS3
 refine pure_ (.int .i64 0) ?_
 refine nil_ (then_n (seq_ (reg_ ?_)))
 refine assign_ ?_
 refine nil_ (then_n (seq_ (reg_ ?_)))
 refine move_ ?_
 refine pure_ (.pointer (some ⟨zb1, 0, none⟩)) ?_
 refine loadN_ zS3 0 5 #[.int .i64 (p.i 0), .int .i64 (p.i 1), .int .i64 (p.i 2), .int .i64 (p.i 3), .int .i64 (p.i 4)] zb1 0 ?_
 refine pure_ (.int .i64 s) ?_
 refine call_ 249 #[.agg #[.int .i64 (p.i 0), .int .i64 (p.i 1), .int .i64 (p.i 2), .int .i64 (p.i 3), .int .i64 (p.i 4)], .int .i64 s] ?_
 refine (place_ p ka kn kc s _).mono ?_; rintro _ zw4 ⟨rfl, zh5⟩
 have zS6 := zS3.quiet zh5
 refine assign_ ?_
 refine nil_ (then_n (wp_ret ?_))
 refine ret_ rfl (res_ [.tmp 4] [.int .i64 (Sd.placeOf p s)] (.int .i64 (Sd.placeOf p s)) ⟨res_tmp, trivial⟩) ?_
 have ze : Sd.placeOf p s = (Sd.placeOf p s) := by first | rfl | (simp []; done) | (simp []; rfl) | (simp []; simp []; done) | (simp []; simp []; rfl) | (simp []; omega) | (unfold Sd.sat; (repeat' split) <;> first | rfl | assumption | omega | (simp_all; done) | (simp_all; omega))
 exact ⟨by (rw [ze]) <;> rfl, zS6.ch⟩

set_option maxRecDepth 100000 in
set_option maxHeartbeats 4000000 in
theorem higher_ (p : Sd.Pol) (ka : Nat → Option Addr) (kn kc : Nat → Nat) (a : Int) (b : Int) (w : World) :
    Gives Tryz.prog 218 #[.agg (polP p ka kn kc), .int .i64 a, .int .i64 b] w fun v w1 => v = .bool (Sd.higher p a b) ∧ Ch [] w w1 := by
 have S0 := St.nil [] w
 refine enter_ Tryz.func218 rfl ?_
 refine seq_ (reg_ ?_)
 refine new_ S0 (fun b => .pointer (some ⟨b, 0, none⟩)) (.cells (polP p ka kn kc) 28) ?_
 intro zb1 zw2 zS3
 refine pure_ (.bool false) ?_
 refine nil_ (then_n (seq_ (reg_ ?_)))
 refine assign_ ?_
 refine nil_ (then_n (seq_ ?_))
 refine drawnL_ 9 [⟨0, fun _ => .func (.func 249) #[] #[], fun _ => []⟩, ⟨0, fun _ => .pointer (some ⟨zb1, 0, none⟩), fun _ => []⟩, ⟨0, fun _ => .agg #[.int .i64 (p.i 0), .int .i64 (p.i 1), .int .i64 (p.i 2), .int .i64 (p.i 3), .int .i64 (p.i 4)], fun _ => []⟩, ⟨0, fun _ => .int .i64 a, fun _ => []⟩, ⟨0, fun _ => .int .i64 (Sd.placeOf p a), fun _ => []⟩, ⟨0, fun _ => .func (.func 249) #[] #[], fun _ => []⟩, ⟨0, fun _ => .pointer (some ⟨zb1, 0, none⟩), fun _ => []⟩, ⟨0, fun _ => .agg #[.int .i64 (p.i 0), .int .i64 (p.i 1), .int .i64 (p.i 2), .int .i64 (p.i 3), .int .i64 (p.i 4)], fun _ => []⟩, ⟨0, fun _ => .int .i64 b, fun _ => []⟩] [[9, 4, 0], [9, 4, 2, 1], [9, 4, 2], [9, 4, 3], [9, 4], [9, 5], [9, 7, 6], [9, 7], [9, 8], [10, 0], [10, 1], [10, 2], [10, 3], [10, 4], [10, 9, 5], [10, 9, 7, 6], [10, 9, 7], [10, 9, 8], [10, 9], [11, 0], [11, 1], [11, 2], [11, 3], [11, 4], [11, 5], [11, 6], [11, 7], [11, 8], [11, 9], [11, 10]] ?_ ?_
 · refine step_cons ?_ ?_
   · intro zy4 zw5 zhc6 zhf7 zhp8
     have zh9 : zy4 7 = .func (.func 249) #[] #[] := (zhf7 7 (by kernel_rfl)).trans (by kernel_rfl)
     have zS10 := zS3.quiet zhc6
     refine step1 ?_
     refine yenv [(7, .func (.func 249) #[] #[])] (ag_cons zh9 (ag_nil)) ?_
     have zS11 := zS10.loc
     refine Y.move_ ?_
     exact ⟨zS11.ch, Sp.mk_holds [] (all_nil)⟩
   refine step_cons ?_ ?_
   · intro zy12 zw13 zhc14 zhf15 zhp16
     have zh17 : zy12 3 = .pointer (some ⟨zb1, 0, none⟩) := (zhf15 3 (by kernel_rfl)).trans (by kernel_rfl)
     have zS18 := zS3.quiet zhc14
     refine step1 ?_
     refine yenv [(3, .pointer (some ⟨zb1, 0, none⟩))] (ag_cons zh17 (ag_nil)) ?_
     have zS19 := zS18.loc
     refine Y.pure_ (.pointer (some ⟨zb1, 0, none⟩)) ?_
     exact ⟨zS19.ch, Sp.mk_holds [] (all_nil)⟩
   refine step_cons ?_ ?_
   · intro zy20 zw21 zhc22 zhf23 zhp24
     have zh25 : zy20 11 = .pointer (some ⟨zb1, 0, none⟩) := (Sp.out0 (zhp24 1 11 (by kernel_rfl) (by kernel_rfl))).1
     have zS26 := zS3.quiet zhc22
     refine step1 ?_
     refine yenv [(11, .pointer (some ⟨zb1, 0, none⟩))] (ag_cons zh25 (ag_nil)) ?_
     have zS27 := zS26.loc
     refine Y.loadN_ zS27 0 5 #[.int .i64 (p.i 0), .int .i64 (p.i 1), .int .i64 (p.i 2), .int .i64 (p.i 3), .int .i64 (p.i 4)] zb1 0 ?_
     exact ⟨zS27.ch, Sp.mk_holds [] (all_nil)⟩
   refine step_cons ?_ ?_
   · intro zy28 zw29 zhc30 zhf31 zhp32
     have zh33 : zy28 1 = .int .i64 a := (zhf31 1 (by kernel_rfl)).trans (by kernel_rfl)
     have zS34 := zS3.quiet zhc30
     refine step1 ?_
     refine yenv [(1, .int .i64 a)] (ag_cons zh33 (ag_nil)) ?_
     have zS35 := zS34.loc
     refine Y.pure_ (.int .i64 a) ?_
     exact ⟨zS35.ch, Sp.mk_holds [] (all_nil)⟩
   refine step_cons ?_ ?_
   · intro zy36 zw37 zhc38 zhf39 zhp40
     have zh41 : zy36 10 = .func (.func 249) #[] #[] := (Sp.out0 (zhp40 0 10 (by kernel_rfl) (by kernel_rfl))).1
     have zh42 : zy36 12 = .agg #[.int .i64 (p.i 0), .int .i64 (p.i 1), .int .i64 (p.i 2), .int .i64 (p.i 3), .int .i64 (p.i 4)] := (Sp.out0 (zhp40 2 12 (by kernel_rfl) (by kernel_rfl))).1
     have zh43 : zy36 13 = .int .i64 a := (Sp.out0 (zhp40 3 13 (by kernel_rfl) (by kernel_rfl))).1
     have zS44 := zS3.quiet zhc38
     refine step1 ?_
     refine yenv [(10, .func (.func 249) #[] #[]), (12, .agg #[.int .i64 (p.i 0), .int .i64 (p.i 1), .int .i64 (p.i 2), .int .i64 (p.i 3), .int .i64 (p.i 4)]), (13, .int .i64 a)] (ag_cons zh41 (ag_cons zh42 (ag_cons zh43 (ag_nil)))) ?_
     have zS45 := zS44.loc
     refine Y.call_ 249 #[.agg #[.int .i64 (p.i 0), .int .i64 (p.i 1), .int .i64 (p.i 2), .int .i64 (p.i 3), .int .i64 (p.i 4)], .int .i64 a] ?_
     refine (place_ p ka kn kc a _).mono ?_; rintro _ zw46 ⟨rfl, zh47⟩
     have zS48 := zS45.quiet zh47
     exact ⟨zS48.ch, Sp.mk_holds [] (all_nil)⟩
   refine step_cons ?_ ?_
   · intro zy49 zw50 zhc51 zhf52 zhp53
     have zh54 : zy49 7 = .func (.func 249) #[] #[] := (zhf52 7 (by kernel_rfl)).trans (by kernel_rfl)
     have zS55 := zS3.quiet zhc51
     refine step1 ?_
     refine yenv [(7, .func (.func 249) #[] #[])] (ag_cons zh54 (ag_nil)) ?_
     have zS56 := zS55.loc
     refine Y.move_ ?_
     exact ⟨zS56.ch, Sp.mk_holds [] (all_nil)⟩
   refine step_cons ?_ ?_
   · intro zy57 zw58 zhc59 zhf60 zhp61
     have zh62 : zy57 3 = .pointer (some ⟨zb1, 0, none⟩) := (zhf60 3 (by kernel_rfl)).trans (by kernel_rfl)
     have zS63 := zS3.quiet zhc59
     refine step1 ?_
     refine yenv [(3, .pointer (some ⟨zb1, 0, none⟩))] (ag_cons zh62 (ag_nil)) ?_
     have zS64 := zS63.loc
     refine Y.pure_ (.pointer (some ⟨zb1, 0, none⟩)) ?_
     exact ⟨zS64.ch, Sp.mk_holds [] (all_nil)⟩
   refine step_cons ?_ ?_
   · intro zy65 zw66 zhc67 zhf68 zhp69
     have zh70 : zy65 16 = .pointer (some ⟨zb1, 0, none⟩) := (Sp.out0 (zhp69 6 16 (by kernel_rfl) (by kernel_rfl))).1
     have zS71 := zS3.quiet zhc67
     refine step1 ?_
     refine yenv [(16, .pointer (some ⟨zb1, 0, none⟩))] (ag_cons zh70 (ag_nil)) ?_
     have zS72 := zS71.loc
     refine Y.loadN_ zS72 0 5 #[.int .i64 (p.i 0), .int .i64 (p.i 1), .int .i64 (p.i 2), .int .i64 (p.i 3), .int .i64 (p.i 4)] zb1 0 ?_
     exact ⟨zS72.ch, Sp.mk_holds [] (all_nil)⟩
   refine step_cons ?_ ?_
   · intro zy73 zw74 zhc75 zhf76 zhp77
     have zh78 : zy73 2 = .int .i64 b := (zhf76 2 (by kernel_rfl)).trans (by kernel_rfl)
     have zS79 := zS3.quiet zhc75
     refine step1 ?_
     refine yenv [(2, .int .i64 b)] (ag_cons zh78 (ag_nil)) ?_
     have zS80 := zS79.loc
     refine Y.pure_ (.int .i64 b) ?_
     exact ⟨zS80.ch, Sp.mk_holds [] (all_nil)⟩
   exact step_nil
 intro zv81 zw82 zhc83 zha84
 have zh85 : zv81 0 = .func (.func 249) #[] #[] := (Sp.out0 (zha84 0 (by kernel_rfl))).1
 have zh86 : zv81 1 = .pointer (some ⟨zb1, 0, none⟩) := (Sp.out0 (zha84 1 (by kernel_rfl))).1
 have zh87 : zv81 2 = .agg #[.int .i64 (p.i 0), .int .i64 (p.i 1), .int .i64 (p.i 2), .int .i64 (p.i 3), .int .i64 (p.i 4)] := (Sp.out0 (zha84 2 (by kernel_rfl))).1
 have zh88 : zv81 3 = .int .i64 a := (Sp.out0 (zha84 3 (by kernel_rfl))).1
 have zh89 : zv81 4 = .int .i64 (Sd.placeOf p a) := (Sp.out0 (zha84 4 (by kernel_rfl))).1
 have zh90 : zv81 5 = .func (.func 249) #[] #[] := (Sp.out0 (zha84 5 (by kernel_rfl))).1
 have zh91 : zv81 6 = .pointer (some ⟨zb1, 0, none⟩) := (Sp.out0 (zha84 6 (by kernel_rfl))).1
 have zh92 : zv81 7 = .agg #[.int .i64 (p.i 0), .int .i64 (p.i 1), .int .i64 (p.i 2), .int .i64 (p.i 3), .int .i64 (p.i 4)] := (Sp.out0 (zha84 7 (by kernel_rfl))).1
 have zh93 : zv81 8 = .int .i64 b := (Sp.out0 (zha84 8 (by kernel_rfl))).1
 have zS94 := zS3.quiet zhc83
 refine ⟨[.func (.func 249) #[] #[], .pointer (some ⟨zb1, 0, none⟩), .agg #[.int .i64 (p.i 0), .int .i64 (p.i 1), .int .i64 (p.i 2), .int .i64 (p.i 3), .int .i64 (p.i 4)], .int .i64 a, .int .i64 (Sd.placeOf p a), .func (.func 249) #[] #[], .pointer (some ⟨zb1, 0, none⟩), .agg #[.int .i64 (p.i 0), .int .i64 (p.i 1), .int .i64 (p.i 2), .int .i64 (p.i 3), .int .i64 (p.i 4)], .int .i64 b], by kernel_rfl, va_cons zh85 (va_cons zh86 (va_cons zh87 (va_cons zh88 (va_cons zh89 (va_cons zh90 (va_cons zh91 (va_cons zh92 (va_cons zh93 (va_nil))))))))), ?_⟩
 refine call_ 249 #[.agg #[.int .i64 (p.i 0), .int .i64 (p.i 1), .int .i64 (p.i 2), .int .i64 (p.i 3), .int .i64 (p.i 4)], .int .i64 b] ?_
 refine (place_ p ka kn kc b _).mono ?_; rintro _ zw95 ⟨rfl, zh96⟩
 have zS97 := zS94.quiet zh96
 refine assign_ ?_
 refine assign_ ?_
 refine nil_ (then_n (seq_ (reg_ ?_)))
 refine move_ ?_
 refine pure_ (.bool ((Sd.placeOf p a) != (-1))) ?_
 refine move_ ?_
 refine slot_ 22 ((Sd.placeOf p a) != (-1)) ?_ ?_
 · intro zh98
   have zh99 := neT' zh98
   refine move_ ?_
   refine pure_ (.bool ((Sd.placeOf p b) != (-1))) ?_
   refine pure_ (.bool ((Sd.placeOf p b) != (-1))) ?_
   refine move_ ?_
   refine slot_ 26 ((Sd.placeOf p b) != (-1)) ?_ ?_
   · intro zh100
     have zh101 := neT' zh100
     refine move_ ?_
     refine move_ ?_
     refine pure_ (.bool (decide ((Sd.placeOf p a) < (Sd.placeOf p b)))) ?_
     refine pure_ (.bool (decide ((Sd.placeOf p a) < (Sd.placeOf p b)))) ?_
     refine assign_ ?_
     refine nil_ (then_n (wp_ret ?_))
     refine ret_ rfl (res_ [.tmp 6] [.bool (decide ((Sd.placeOf p a) < (Sd.placeOf p b)))] (.bool (decide ((Sd.placeOf p a) < (Sd.placeOf p b)))) ⟨res_tmp, trivial⟩) ?_
     have ze : Sd.higher p a b = (decide ((Sd.placeOf p a) < (Sd.placeOf p b))) := by first | rfl | (simp [Sd.higher, zh98, zh100, zh99, zh101]; done) | (simp [Sd.higher, zh98, zh100, zh99, zh101]; rfl) | (simp [Sd.higher, zh98, zh100]; simp [Sd.higher, zh98, zh100, zh99, zh101]; done) | (simp [Sd.higher, zh98, zh100]; simp [Sd.higher, zh98, zh100, zh99, zh101]; rfl) | (simp [Sd.higher, zh98, zh100, zh99, zh101]; omega) | (unfold Sd.higher; (repeat' split) <;> first | rfl | assumption | omega | (simp_all; done) | (simp_all; omega))
     exact ⟨by (rw [ze]) <;> rfl, zS97.ch⟩
   intro zh102
   have zh103 := neF' zh102
   refine skip_ ?_
   refine skip_ ?_
   refine skip_ ?_
   refine pure_ (.bool false) ?_
   refine pure_ (.bool false) ?_
   refine nil_ (then_n (wp_ret ?_))
   refine ret_ rfl (res_ [.tmp 6] [.bool false] (.bool false) ⟨res_tmp, trivial⟩) ?_
   have ze : Sd.higher p a b = false := by first | rfl | (simp [Sd.higher, zh98, zh102, zh99, zh103]; done) | (simp [Sd.higher, zh98, zh102, zh99, zh103]; rfl) | (simp [Sd.higher, zh98, zh102]; simp [Sd.higher, zh98, zh102, zh99, zh103]; done) | (simp [Sd.higher, zh98, zh102]; simp [Sd.higher, zh98, zh102, zh99, zh103]; rfl) | (simp [Sd.higher, zh98, zh102, zh99, zh103]; omega) | (unfold Sd.higher; (repeat' split) <;> first | rfl | assumption | omega | (simp_all; done) | (simp_all; omega))
   exact ⟨by (rw [ze]) <;> rfl, zS97.ch⟩
 intro zh104
 have zh105 := neF' zh104
 refine skip_ ?_
 refine skip_ ?_
 refine pure_ (.bool false) ?_
 refine pure_ (.bool false) ?_
 refine skip_ ?_
 refine skip_ ?_
 refine skip_ ?_
 refine pure_ (.bool false) ?_
 refine pure_ (.bool false) ?_
 refine nil_ (then_n (wp_ret ?_))
 refine ret_ rfl (res_ [.tmp 6] [.bool false] (.bool false) ⟨res_tmp, trivial⟩) ?_
 have ze : Sd.higher p a b = false := by first | rfl | (simp [Sd.higher, zh104, zh105]; done) | (simp [Sd.higher, zh104, zh105]; rfl) | (simp [Sd.higher, zh104]; simp [Sd.higher, zh104, zh105]; done) | (simp [Sd.higher, zh104]; simp [Sd.higher, zh104, zh105]; rfl) | (simp [Sd.higher, zh104, zh105]; omega) | (unfold Sd.higher; (repeat' split) <;> first | rfl | assumption | omega | (simp_all; done) | (simp_all; omega))
 exact ⟨by (rw [ze]) <;> rfl, zS97.ch⟩

set_option maxRecDepth 100000 in
set_option maxHeartbeats 4000000 in
theorem takes_ (p : Sd.Pol) (ka : Nat → Option Addr) (kn kc : Nat → Nat) (s : Int) (r : Int) (w : World) :
    Gives Tryz.prog 120 #[.agg (polP p ka kn kc), .int .i64 s, .int .i64 r] w fun v w1 => v = .bool (Sd.takes p s r) ∧ Ch [] w w1 := by
 have S0 := St.nil [] w
 refine enter_ Tryz.func120 rfl ?_
 refine seq_ (reg_ ?_)
 refine new_ S0 (fun b => .pointer (some ⟨b, 0, none⟩)) (.cells (polP p ka kn kc) 28) ?_
 intro zb1 zw2 zS3
 refine pure_ (.bool false) ?_
 refine nil_ (then_n (seq_ (reg_ ?_)))
 refine pure_ (.int .i64 s) ?_
 refine call_ 161 #[.int .i64 s, .int .i64 5] ?_
 refine (below_ s 5 _ ).mono ?_; rintro _ zw4 ⟨rfl, zh5⟩
 have zS6 := zS3.quiet zh5
 refine pure_ (.bool (Sd.below s 5)) ?_
 refine slot_ 9 (Sd.below s 5) ?_ ?_
 · intro zh7
   have zh8 := below_is _ _ zh7
   refine pure_ (.int .i64 r) ?_
   refine call_ 161 #[.int .i64 r, .int .i64 4] ?_
   refine (below_ r 4 _ ).mono ?_; rintro _ zw9 ⟨rfl, zh10⟩
   have zS11 := zS6.quiet zh10
   refine pure_ (.bool (Sd.below r 4)) ?_
   refine pure_ (.bool (Sd.below r 4)) ?_
   refine slot_ 13 (Sd.below r 4) ?_ ?_
   · intro zh12
     have zh13 := below_is _ _ zh12
     refine pure_ (.int .i64 s) ?_
     refine pure_ (.pointer (some ⟨zb1, 9, none⟩)) ?_
     refine idxA_ zb1 9 (9 + (s).toNat) 5 1 .i64 s (by omega) (by omega) (by omega) ?_ (e := 3)
     refine load1_ zS11 0 (.int .i64 (p.i (9 + (s).toNat))) zb1 (9 + (s).toNat) ?_ (hb := lk_of (wr := true) (t := 28) (fr := (0, 0)) (by kernel_rfl) (polP_at p ka kn kc (9 + (s).toNat) (by omega) (by omega)))
     refine pure_ (.int .i64 r) ?_
     refine call_ 162 #[.int .i64 (p.i (9 + (s).toNat)), .int .i64 r] ?_
     refine (has_ (p.i (9 + (s).toNat)) r _ ).mono ?_; rintro _ zw14 ⟨rfl, zh15⟩
     have zS16 := zS11.quiet zh15
     refine pure_ (.bool (Sd.has (p.i (9 + (s).toNat)) r)) ?_
     refine assign_ ?_
     refine nil_ (then_n (wp_ret ?_))
     refine ret_ rfl (res_ [.tmp 6] [.bool (Sd.has (p.i (9 + (s).toNat)) r)] (.bool (Sd.has (p.i (9 + (s).toNat)) r)) ⟨res_tmp, trivial⟩) ?_
     have ze : Sd.takes p s r = (Sd.has (p.i (9 + (s).toNat)) r) := by first | rfl | (simp [Sd.takes, Sd.Pol.roles, zh7, zh12]; done) | (simp [Sd.takes, Sd.Pol.roles, zh7, zh12]; rfl) | (simp [Sd.takes, Sd.Pol.roles, zh7, zh12]; simp [Sd.takes, Sd.Pol.roles, zh7, zh12]; done) | (simp [Sd.takes, Sd.Pol.roles, zh7, zh12]; simp [Sd.takes, Sd.Pol.roles, zh7, zh12]; rfl) | (simp [Sd.takes, Sd.Pol.roles, zh7, zh12]; omega) | (unfold Sd.takes; (repeat' split) <;> first | rfl | assumption | omega | (simp_all; done) | (simp_all; omega))
     exact ⟨by (rw [ze]) <;> rfl, zS16.ch⟩
   intro zh17
   refine skip_ ?_
   refine skip_ ?_
   refine skip_ ?_
   refine skip_ ?_
   refine skip_ ?_
   refine skip_ ?_
   refine pure_ (.bool false) ?_
   refine pure_ (.bool false) ?_
   refine nil_ (then_n (wp_ret ?_))
   refine ret_ rfl (res_ [.tmp 6] [.bool false] (.bool false) ⟨res_tmp, trivial⟩) ?_
   have ze : Sd.takes p s r = false := by first | rfl | (simp [Sd.takes, Sd.Pol.roles, zh7, zh17]; done) | (simp [Sd.takes, Sd.Pol.roles, zh7, zh17]; rfl) | (simp [Sd.takes, Sd.Pol.roles, zh7, zh17]; simp [Sd.takes, Sd.Pol.roles, zh7, zh17]; done) | (simp [Sd.takes, Sd.Pol.roles, zh7, zh17]; simp [Sd.takes, Sd.Pol.roles, zh7, zh17]; rfl) | (simp [Sd.takes, Sd.Pol.roles, zh7, zh17]; omega) | (unfold Sd.takes; (repeat' split) <;> first | rfl | assumption | omega | (simp_all; done) | (simp_all; omega))
   exact ⟨by (rw [ze]) <;> rfl, zS11.ch⟩
 intro zh18
 refine skip_ ?_
 refine skip_ ?_
 refine pure_ (.bool false) ?_
 refine pure_ (.bool false) ?_
 refine skip_ ?_
 refine skip_ ?_
 refine skip_ ?_
 refine skip_ ?_
 refine skip_ ?_
 refine skip_ ?_
 refine pure_ (.bool false) ?_
 refine pure_ (.bool false) ?_
 refine nil_ (then_n (wp_ret ?_))
 refine ret_ rfl (res_ [.tmp 6] [.bool false] (.bool false) ⟨res_tmp, trivial⟩) ?_
 have ze : Sd.takes p s r = false := by first | rfl | (simp [Sd.takes, Sd.Pol.roles, zh18]; done) | (simp [Sd.takes, Sd.Pol.roles, zh18]; rfl) | (simp [Sd.takes, Sd.Pol.roles, zh18]; simp [Sd.takes, Sd.Pol.roles, zh18]; done) | (simp [Sd.takes, Sd.Pol.roles, zh18]; simp [Sd.takes, Sd.Pol.roles, zh18]; rfl) | (simp [Sd.takes, Sd.Pol.roles, zh18]; omega) | (unfold Sd.takes; (repeat' split) <;> first | rfl | assumption | omega | (simp_all; done) | (simp_all; omega))
 exact ⟨by (rw [ze]) <;> rfl, zS6.ch⟩

set_option maxRecDepth 100000 in
set_option maxHeartbeats 4000000 in
theorem goes_ (p : Sd.Pol) (ka : Nat → Option Addr) (kn kc : Nat → Nat) (a : Int) (b : Int) (w : World) :
    Gives Tryz.prog 192 #[.agg (polP p ka kn kc), .int .i64 a, .int .i64 b] w fun v w1 => v = .bool (Sd.goes p a b) ∧ Ch [] w w1 := by
 have S0 := St.nil [] w
 refine enter_ Tryz.func192 rfl ?_
 refine seq_ (reg_ ?_)
 refine new_ S0 (fun b => .pointer (some ⟨b, 0, none⟩)) (.cells (polP p ka kn kc) 28) ?_
 intro zb1 zw2 zS3
 refine pure_ (.bool false) ?_
 refine nil_ (then_n (seq_ (reg_ ?_)))
 refine pure_ (.int .i64 a) ?_
 refine call_ 161 #[.int .i64 a, .int .i64 5] ?_
 refine (below_ a 5 _ ).mono ?_; rintro _ zw4 ⟨rfl, zh5⟩
 have zS6 := zS3.quiet zh5
 refine pure_ (.bool (Sd.below a 5)) ?_
 refine slot_ 9 (Sd.below a 5) ?_ ?_
 · intro zh7
   have zh8 := below_is _ _ zh7
   refine pure_ (.int .i64 b) ?_
   refine call_ 161 #[.int .i64 b, .int .i64 5] ?_
   refine (below_ b 5 _ ).mono ?_; rintro _ zw9 ⟨rfl, zh10⟩
   have zS11 := zS6.quiet zh10
   refine pure_ (.bool (Sd.below b 5)) ?_
   refine pure_ (.bool (Sd.below b 5)) ?_
   refine slot_ 13 (Sd.below b 5) ?_ ?_
   · intro zh12
     have zh13 := below_is _ _ zh12
     refine pure_ (.int .i64 a) ?_
     refine pure_ (.pointer (some ⟨zb1, 34, none⟩)) ?_
     refine idxA_ zb1 34 (34 + (a).toNat) 5 1 .i64 a (by omega) (by omega) (by omega) ?_ (e := 3)
     refine load1_ zS11 0 (.int .i64 (p.i (34 + (a).toNat))) zb1 (34 + (a).toNat) ?_ (hb := lk_of (wr := true) (t := 28) (fr := (0, 0)) (by kernel_rfl) (polP_at p ka kn kc (34 + (a).toNat) (by omega) (by omega)))
     refine pure_ (.int .i64 b) ?_
     refine call_ 162 #[.int .i64 (p.i (34 + (a).toNat)), .int .i64 b] ?_
     refine (has_ (p.i (34 + (a).toNat)) b _ ).mono ?_; rintro _ zw14 ⟨rfl, zh15⟩
     have zS16 := zS11.quiet zh15
     refine pure_ (.bool (Sd.has (p.i (34 + (a).toNat)) b)) ?_
     refine assign_ ?_
     refine nil_ (then_n (wp_ret ?_))
     refine ret_ rfl (res_ [.tmp 6] [.bool (Sd.has (p.i (34 + (a).toNat)) b)] (.bool (Sd.has (p.i (34 + (a).toNat)) b)) ⟨res_tmp, trivial⟩) ?_
     have ze : Sd.goes p a b = (Sd.has (p.i (34 + (a).toNat)) b) := by first | rfl | (simp [Sd.goes, Sd.Pol.graph, zh7, zh12]; done) | (simp [Sd.goes, Sd.Pol.graph, zh7, zh12]; rfl) | (simp [Sd.goes, Sd.Pol.graph, zh7, zh12]; simp [Sd.goes, Sd.Pol.graph, zh7, zh12]; done) | (simp [Sd.goes, Sd.Pol.graph, zh7, zh12]; simp [Sd.goes, Sd.Pol.graph, zh7, zh12]; rfl) | (simp [Sd.goes, Sd.Pol.graph, zh7, zh12]; omega) | (unfold Sd.goes; (repeat' split) <;> first | rfl | assumption | omega | (simp_all; done) | (simp_all; omega))
     exact ⟨by (rw [ze]) <;> rfl, zS16.ch⟩
   intro zh17
   refine skip_ ?_
   refine skip_ ?_
   refine skip_ ?_
   refine skip_ ?_
   refine skip_ ?_
   refine skip_ ?_
   refine pure_ (.bool false) ?_
   refine pure_ (.bool false) ?_
   refine nil_ (then_n (wp_ret ?_))
   refine ret_ rfl (res_ [.tmp 6] [.bool false] (.bool false) ⟨res_tmp, trivial⟩) ?_
   have ze : Sd.goes p a b = false := by first | rfl | (simp [Sd.goes, Sd.Pol.graph, zh7, zh17]; done) | (simp [Sd.goes, Sd.Pol.graph, zh7, zh17]; rfl) | (simp [Sd.goes, Sd.Pol.graph, zh7, zh17]; simp [Sd.goes, Sd.Pol.graph, zh7, zh17]; done) | (simp [Sd.goes, Sd.Pol.graph, zh7, zh17]; simp [Sd.goes, Sd.Pol.graph, zh7, zh17]; rfl) | (simp [Sd.goes, Sd.Pol.graph, zh7, zh17]; omega) | (unfold Sd.goes; (repeat' split) <;> first | rfl | assumption | omega | (simp_all; done) | (simp_all; omega))
   exact ⟨by (rw [ze]) <;> rfl, zS11.ch⟩
 intro zh18
 refine skip_ ?_
 refine skip_ ?_
 refine pure_ (.bool false) ?_
 refine pure_ (.bool false) ?_
 refine skip_ ?_
 refine skip_ ?_
 refine skip_ ?_
 refine skip_ ?_
 refine skip_ ?_
 refine skip_ ?_
 refine pure_ (.bool false) ?_
 refine pure_ (.bool false) ?_
 refine nil_ (then_n (wp_ret ?_))
 refine ret_ rfl (res_ [.tmp 6] [.bool false] (.bool false) ⟨res_tmp, trivial⟩) ?_
 have ze : Sd.goes p a b = false := by first | rfl | (simp [Sd.goes, Sd.Pol.graph, zh18]; done) | (simp [Sd.goes, Sd.Pol.graph, zh18]; rfl) | (simp [Sd.goes, Sd.Pol.graph, zh18]; simp [Sd.goes, Sd.Pol.graph, zh18]; done) | (simp [Sd.goes, Sd.Pol.graph, zh18]; simp [Sd.goes, Sd.Pol.graph, zh18]; rfl) | (simp [Sd.goes, Sd.Pol.graph, zh18]; omega) | (unfold Sd.goes; (repeat' split) <;> first | rfl | assumption | omega | (simp_all; done) | (simp_all; omega))
 exact ⟨by (rw [ze]) <;> rfl, zS6.ch⟩

set_option maxRecDepth 100000 in
set_option maxHeartbeats 4000000 in
theorem may_ (p : Sd.Pol) (ka : Nat → Option Addr) (kn kc : Nat → Nat) (m : Int) (r : Int) (c : Int) (w : World) :
    Gives Tryz.prog 191 #[.agg (polP p ka kn kc), .int .i64 m, .int .i64 r, .int .i64 c] w fun v w1 => v = .bool (Sd.may p m r c) ∧ Ch [] w w1 := by
 have S0 := St.nil [] w
 refine enter_ Tryz.func191 rfl ?_
 refine seq_ (reg_ ?_)
 refine new_ S0 (fun b => .pointer (some ⟨b, 0, none⟩)) (.cells (polP p ka kn kc) 28) ?_
 intro zb1 zw2 zS3
 refine pure_ (.bool false) ?_
 refine nil_ (then_n (seq_ (reg_ ?_)))
 refine pure_ (.int .i64 m) ?_
 refine call_ 161 #[.int .i64 m, .int .i64 5] ?_
 refine (below_ m 5 _ ).mono ?_; rintro _ zw4 ⟨rfl, zh5⟩
 have zS6 := zS3.quiet zh5
 refine pure_ (.bool (Sd.below m 5)) ?_
 refine slot_ 11 (Sd.below m 5) ?_ ?_
 · intro zh7
   have zh8 := below_is _ _ zh7
   refine pure_ (.int .i64 r) ?_
   refine call_ 161 #[.int .i64 r, .int .i64 4] ?_
   refine (below_ r 4 _ ).mono ?_; rintro _ zw9 ⟨rfl, zh10⟩
   have zS11 := zS6.quiet zh10
   refine pure_ (.bool (Sd.below r 4)) ?_
   refine pure_ (.bool (Sd.below r 4)) ?_
   refine slot_ 15 (Sd.below r 4) ?_ ?_
   · intro zh12
     have zh13 := below_is _ _ zh12
     refine pure_ (.int .i64 c) ?_
     refine call_ 161 #[.int .i64 c, .int .i64 4] ?_
     refine (below_ c 4 _ ).mono ?_; rintro _ zw14 ⟨rfl, zh15⟩
     have zS16 := zS11.quiet zh15
     refine pure_ (.bool (Sd.below c 4)) ?_
     refine pure_ (.bool (Sd.below c 4)) ?_
     refine slot_ 19 (Sd.below c 4) ?_ ?_
     · intro zh17
       have zh18 := below_is _ _ zh17
       refine pure_ (.int .i64 m) ?_
       refine pure_ (.int .i64 r) ?_
       refine pure_ (.pointer (some ⟨zb1, 14, none⟩)) ?_
       refine idxA_ zb1 14 (14 + 4 * (m).toNat) 5 4 .i64 m (by omega) (by omega) (by omega) ?_ (e := 25)
       refine idxA_ zb1 (14 + 4 * (m).toNat) ((14 + 4 * (m).toNat) + (r).toNat) 4 1 .i64 r (by omega) (by omega) (by omega) ?_ (e := 3)
       refine load1_ zS16 0 (.int .i64 (p.i ((14 + 4 * (m).toNat) + (r).toNat))) zb1 ((14 + 4 * (m).toNat) + (r).toNat) ?_ (hb := lk_of (wr := true) (t := 28) (fr := (0, 0)) (by kernel_rfl) (polP_at p ka kn kc ((14 + 4 * (m).toNat) + (r).toNat) (by omega) (by omega)))
       refine pure_ (.int .i64 c) ?_
       refine call_ 162 #[.int .i64 (p.i ((14 + 4 * (m).toNat) + (r).toNat)), .int .i64 c] ?_
       refine (has_ (p.i ((14 + 4 * (m).toNat) + (r).toNat)) c _ ).mono ?_; rintro _ zw19 ⟨rfl, zh20⟩
       have zS21 := zS16.quiet zh20
       refine pure_ (.bool (Sd.has (p.i ((14 + 4 * (m).toNat) + (r).toNat)) c)) ?_
       refine assign_ ?_
       refine nil_ (then_n (wp_ret ?_))
       refine ret_ rfl (res_ [.tmp 8] [.bool (Sd.has (p.i ((14 + 4 * (m).toNat) + (r).toNat)) c)] (.bool (Sd.has (p.i ((14 + 4 * (m).toNat) + (r).toNat)) c)) ⟨res_tmp, trivial⟩) ?_
       have ze : Sd.may p m r c = (Sd.has (p.i ((14 + 4 * (m).toNat) + (r).toNat)) c) := by first | rfl | (simp [Sd.may, Sd.Pol.table, zh7, zh12, zh17]; done) | (simp [Sd.may, Sd.Pol.table, zh7, zh12, zh17]; rfl) | (simp [Sd.may, Sd.Pol.table, zh7, zh12, zh17]; simp [Sd.may, Sd.Pol.table, zh7, zh12, zh17]; done) | (simp [Sd.may, Sd.Pol.table, zh7, zh12, zh17]; simp [Sd.may, Sd.Pol.table, zh7, zh12, zh17]; rfl) | (simp [Sd.may, Sd.Pol.table, zh7, zh12, zh17]; omega) | (unfold Sd.may; (repeat' split) <;> first | rfl | assumption | omega | (simp_all; done) | (simp_all; omega))
       exact ⟨by (rw [ze]) <;> rfl, zS21.ch⟩
     intro zh22
     refine skip_ ?_
     refine skip_ ?_
     refine skip_ ?_
     refine skip_ ?_
     refine skip_ ?_
     refine skip_ ?_
     refine skip_ ?_
     refine skip_ ?_
     refine pure_ (.bool false) ?_
     refine pure_ (.bool false) ?_
     refine nil_ (then_n (wp_ret ?_))
     refine ret_ rfl (res_ [.tmp 8] [.bool false] (.bool false) ⟨res_tmp, trivial⟩) ?_
     have ze : Sd.may p m r c = false := by first | rfl | (simp [Sd.may, Sd.Pol.table, zh7, zh12, zh22]; done) | (simp [Sd.may, Sd.Pol.table, zh7, zh12, zh22]; rfl) | (simp [Sd.may, Sd.Pol.table, zh7, zh12, zh22]; simp [Sd.may, Sd.Pol.table, zh7, zh12, zh22]; done) | (simp [Sd.may, Sd.Pol.table, zh7, zh12, zh22]; simp [Sd.may, Sd.Pol.table, zh7, zh12, zh22]; rfl) | (simp [Sd.may, Sd.Pol.table, zh7, zh12, zh22]; omega) | (unfold Sd.may; (repeat' split) <;> first | rfl | assumption | omega | (simp_all; done) | (simp_all; omega))
     exact ⟨by (rw [ze]) <;> rfl, zS16.ch⟩
   intro zh23
   refine skip_ ?_
   refine skip_ ?_
   refine pure_ (.bool false) ?_
   refine pure_ (.bool false) ?_
   refine skip_ ?_
   refine skip_ ?_
   refine skip_ ?_
   refine skip_ ?_
   refine skip_ ?_
   refine skip_ ?_
   refine skip_ ?_
   refine skip_ ?_
   refine pure_ (.bool false) ?_
   refine pure_ (.bool false) ?_
   refine nil_ (then_n (wp_ret ?_))
   refine ret_ rfl (res_ [.tmp 8] [.bool false] (.bool false) ⟨res_tmp, trivial⟩) ?_
   have ze : Sd.may p m r c = false := by first | rfl | (simp [Sd.may, Sd.Pol.table, zh7, zh23]; done) | (simp [Sd.may, Sd.Pol.table, zh7, zh23]; rfl) | (simp [Sd.may, Sd.Pol.table, zh7, zh23]; simp [Sd.may, Sd.Pol.table, zh7, zh23]; done) | (simp [Sd.may, Sd.Pol.table, zh7, zh23]; simp [Sd.may, Sd.Pol.table, zh7, zh23]; rfl) | (simp [Sd.may, Sd.Pol.table, zh7, zh23]; omega) | (unfold Sd.may; (repeat' split) <;> first | rfl | assumption | omega | (simp_all; done) | (simp_all; omega))
   exact ⟨by (rw [ze]) <;> rfl, zS11.ch⟩
 intro zh24
 refine skip_ ?_
 refine skip_ ?_
 refine pure_ (.bool false) ?_
 refine pure_ (.bool false) ?_
 refine skip_ ?_
 refine skip_ ?_
 refine pure_ (.bool false) ?_
 refine pure_ (.bool false) ?_
 refine skip_ ?_
 refine skip_ ?_
 refine skip_ ?_
 refine skip_ ?_
 refine skip_ ?_
 refine skip_ ?_
 refine skip_ ?_
 refine skip_ ?_
 refine pure_ (.bool false) ?_
 refine pure_ (.bool false) ?_
 refine nil_ (then_n (wp_ret ?_))
 refine ret_ rfl (res_ [.tmp 8] [.bool false] (.bool false) ⟨res_tmp, trivial⟩) ?_
 have ze : Sd.may p m r c = false := by first | rfl | (simp [Sd.may, Sd.Pol.table, zh24]; done) | (simp [Sd.may, Sd.Pol.table, zh24]; rfl) | (simp [Sd.may, Sd.Pol.table, zh24]; simp [Sd.may, Sd.Pol.table, zh24]; done) | (simp [Sd.may, Sd.Pol.table, zh24]; simp [Sd.may, Sd.Pol.table, zh24]; rfl) | (simp [Sd.may, Sd.Pol.table, zh24]; omega) | (unfold Sd.may; (repeat' split) <;> first | rfl | assumption | omega | (simp_all; done) | (simp_all; omega))
 exact ⟨by (rw [ze]) <;> rfl, zS6.ch⟩

set_option maxRecDepth 100000 in
set_option maxHeartbeats 4000000 in
theorem newt_ (p : Sd.Pol) (ka : Nat → Option Addr) (kn kc : Nat → Nat)  (w : World) :
    Gives Tryz.prog 31 #[.agg (polP p ka kn kc)] w fun v w1 => v = .agg (tokC (Sd.Tok.new p)) ∧ Ch [] w w1 := by
 have S0 := St.nil [] w
 refine enter_ Tryz.func31 rfl ?_
 refine seq_ (reg_ ?_)
 refine new_ S0 (fun b => .pointer (some ⟨b, 0, none⟩)) (.cells (polP p ka kn kc) 28) ?_
 intro zb1 zw2 zS3
 refine new_ zS3 (fun b => .pointer (some ⟨b, 0, none⟩)) (.cells #[.int .i64 0, .int .i64 0, .int .i64 0, .int .i64 0, .int .i64 0, .int .i64 0, .int .i64 0, .bool false] 92) ?_
 intro zb4 zw5 zS6
 refine nil_ (then_n (seq_ (reg_ ?_)))
 refine pure_ (.agg #[.int .i64 0, .int .i64 0, .int .i64 0, .int .i64 0, .int .i64 0, .int .i64 0, .int .i64 0, .bool false]) ?_
 refine pure_ (.func (.func 66) #[.agg #[.int .i64 0, .int .i64 0, .int .i64 0, .int .i64 0, .int .i64 0, .int .i64 0, .int .i64 0, .bool false]] #[]) ?_
 refine assign_ ?_
 refine nil_ (then_n (seq_ (reg_ ?_)))
 refine move_ ?_
 refine pure_ (.pointer (some ⟨zb1, 55, none⟩)) ?_
 refine load1_ zS6 1 (.int .i64 (p.i 55)) zb1 55 ?_
 refine call_ 66 #[.agg #[.int .i64 0, .int .i64 0, .int .i64 0, .int .i64 0, .int .i64 0, .int .i64 0, .int .i64 0, .bool false], .int .i64 4, .int .i64 (p.i 55)] ?_
 refine (pass_ (⟨0, 0, 0, (⟨0, 0⟩ : Sd.Timer), (⟨0, 0⟩ : Sd.Timer), false⟩ : Sd.Tok) 4 (p.i 55) _ ).mono ?_; rintro _ zw7 ⟨rfl, zh8⟩
 have zS9 := zS6.quiet zh8
 refine store_ zS9 0 (.agg (tokC (Sd.Tok.pass (⟨0, 0, 0, (⟨0, 0⟩ : Sd.Timer), (⟨0, 0⟩ : Sd.Timer), false⟩ : Sd.Tok) 4 (p.i 55)))) zb4 0 ?_
 intro zw10 zS11
 refine nil_ (then_n (wp_ret ?_))
 refine ret_ rfl (res_ [.cell 2 92] [.agg (tokC (Sd.Tok.pass (⟨0, 0, 0, (⟨0, 0⟩ : Sd.Timer), (⟨0, 0⟩ : Sd.Timer), false⟩ : Sd.Tok) 4 (p.i 55)))] (.agg (tokC (Sd.Tok.pass (⟨0, 0, 0, (⟨0, 0⟩ : Sd.Timer), (⟨0, 0⟩ : Sd.Timer), false⟩ : Sd.Tok) 4 (p.i 55)))) ⟨res_cellN zS11 0 8 zb4 0, trivial⟩) ?_
 have ze : Sd.Tok.new p = (Sd.Tok.pass (⟨0, 0, 0, (⟨0, 0⟩ : Sd.Timer), (⟨0, 0⟩ : Sd.Timer), false⟩ : Sd.Tok) 4 (p.i 55)) := by first | rfl | (simp []; done) | (simp []; rfl) | (simp []; simp []; done) | (simp []; simp []; rfl) | (simp []; omega) | (unfold Sd.sat; (repeat' split) <;> first | rfl | assumption | omega | (simp_all; done) | (simp_all; omega))
 exact ⟨by (rw [ze]) <;> rfl, zS11.ch⟩

set_option maxRecDepth 100000 in
set_option maxHeartbeats 4000000 in
theorem acc_ (t : Sd.Tok) (f : Int) (e : Int) (h_t_epoch : -9223372036854775808 ≤ t.epoch ∧ t.epoch ≤ 9223372036854775807) (w : World) :
    Gives Tryz.prog 178 #[.agg (tokC t), .int .i64 f, .int .i64 e] w fun v w1 => v = .tuple #[.agg (tokC ((Sd.Tok.accept t f e).1)), .int .i64 ((Sd.Tok.accept t f e).2)] ∧ Ch [] w w1 := by
 have S0 := St.nil [] w
 refine enter_ Tryz.func178 rfl ?_
 refine seq_ (reg_ ?_)
 refine new_ S0 (fun b => .pointer (some ⟨b, 0, none⟩)) (.cells (tokC t) 92) ?_
 intro zb1 zw2 zS3
 refine new_ zS3 (fun b => .pointer (some ⟨b, 0, none⟩)) (.cells #[.int .i64 f] 3) ?_
 intro zb4 zw5 zS6
 refine new_ zS6 (fun b => .pointer (some ⟨b, 0, none⟩)) (.cells #[.int .i64 e] 3) ?_
 intro zb7 zw8 zS9
 refine new_ zS9 (fun b => .pointer (some ⟨b, 0, none⟩)) (.cells #[.int .i64 0, .int .i64 0, .int .i64 0, .int .i64 0, .int .i64 0, .int .i64 0, .int .i64 0, .bool false] 92) ?_
 intro zb10 zw11 zS12
 refine pure_ (.int .i64 0) ?_
 refine nil_ (then_n (seq_ (reg_ ?_)))
 refine pure_ (.func (.func 227) #[] #[.pointer (some ⟨zb1, 0, none⟩), .pointer (some ⟨zb4, 0, none⟩)]) ?_
 refine pure_ (.agg #[.int .i64 28, .func (.func 227) #[] #[.pointer (some ⟨zb1, 0, none⟩), .pointer (some ⟨zb4, 0, none⟩)]]) ?_
 refine pure_ (.func (.func 228) #[] #[.pointer (some ⟨zb7, 0, none⟩), .pointer (some ⟨zb1, 0, none⟩)]) ?_
 refine pure_ (.agg #[.int .i64 21, .func (.func 228) #[] #[.pointer (some ⟨zb7, 0, none⟩), .pointer (some ⟨zb1, 0, none⟩)]]) ?_
 refine new_ zS12 (fun b => .slice (some ⟨b, 0, none⟩) 2 2) (.cells #[.int .i64 28, .func (.func 227) #[] #[.pointer (some ⟨zb1, 0, none⟩), .pointer (some ⟨zb4, 0, none⟩)], .int .i64 21, .func (.func 228) #[] #[.pointer (some ⟨zb7, 0, none⟩), .pointer (some ⟨zb1, 0, none⟩)]] 328) ?_
 intro zb13 zw14 zS15
 refine call_ 221 #[.slice (some ⟨zb13, 0, none⟩) 2 2] ?_
 refine enter_ Tryz.func221 rfl ?_
 refine seq_ (reg_ ?_)
 refine pure_ (.int .i64 0) ?_
 refine nil_ (then_n (seq_ (seq_ (reg_ ?_))))
 refine move_ ?_
 refine pure_ (.int .i64 2) ?_
 refine pure_ (.int .i64 0) ?_
 refine nil_ (then_n (wp_block (loop_ 24 (seq_ (reg_ ?_)))))
 refine pure_ (.bool true) ?_
 refine nil_ (then_n (seq_ (cond_T ?_)))
 refine wp_skip (then_n (seq_ (wp_block (seq_ (reg_ ?_)))))
 refine pure_ (.pointer (some ⟨zb13, 0, none⟩)) ?_
 refine loadN_ zS15 0 2 #[.int .i64 28, .func (.func 227) #[] #[.pointer (some ⟨zb1, 0, none⟩), .pointer (some ⟨zb4, 0, none⟩)]] zb13 0 ?_
 refine new_ zS15 (fun b => .pointer (some ⟨b, 0, none⟩)) (.cells #[.int .i64 0, .nilFunc] 328) ?_
 intro zb16 zw17 zS18
 refine store_ zS18 0 (.agg #[.int .i64 28, .func (.func 227) #[] #[.pointer (some ⟨zb1, 0, none⟩), .pointer (some ⟨zb4, 0, none⟩)]]) zb16 0 ?_
 intro zw19 zS20
 refine nil_ (then_n (seq_ (reg_ ?_)))
 refine pure_ (.pointer (some ⟨zb16, 1, none⟩)) ?_
 refine load1_ zS20 0 (.func (.func 227) #[] #[.pointer (some ⟨zb1, 0, none⟩), .pointer (some ⟨zb4, 0, none⟩)]) zb16 1 ?_
 refine call_ 227 #[.pointer (some ⟨zb1, 0, none⟩), .pointer (some ⟨zb4, 0, none⟩)] ?_
 refine enter_ Tryz.func227 rfl ?_
 refine seq_ (reg_ ?_)
 refine pure_ (.bool false) ?_
 refine nil_ (then_n (seq_ (reg_ ?_)))
 refine loadN_ zS20 5 8 (tokC t) zb1 0 ?_
 refine call_ 150 #[.agg (tokC t)] ?_
 refine (open_ t _ ).mono ?_; rintro _ zw21 ⟨rfl, zh22⟩
 have zS23 := zS20.quiet zh22
 refine pure_ (.bool (!(decide (0 ≤ t.offer)))) ?_
 refine move_ ?_
 refine slot_ 6 (!(decide (0 ≤ t.offer))) ?_ ?_
 · intro zh24
   have zh25 := notT' zh24
   have zh26 := leF' zh25
   refine skip_ ?_
   refine skip_ ?_
   refine skip_ ?_
   refine skip_ ?_
   refine pure_ (.bool true) ?_
   refine pure_ (.bool true) ?_
   refine nil_ (then_n (wp_ret ?_))
   refine ret_ rfl (res_ [.tmp 2] [.bool true] (.bool true) ⟨res_tmp, trivial⟩) ?_
   refine nil_ (then_n (cond_T ?_))
   refine seq_ (reg_ ?_)
   refine pure_ (.pointer (some ⟨zb16, 0, none⟩)) ?_
   refine load1_ zS23 0 (.int .i64 28) zb16 0 ?_
   refine pure_ (.int .i64 28) ?_
   refine nil_ (then_n (wp_ret (blk_r (then_r (then_r (blk_r (then_r ?_)))))))
   refine ret_ rfl (res_ [.tmp 2] [.int .i64 28] (.int .i64 28) ⟨res_tmp, trivial⟩) ?_
   refine pure_ (.int .i64 28) ?_
   refine nil_ (then_n (seq_ (seq_ (reg_ ?_))))
   refine pure_ (.int .i64 28) ?_
   refine pure_ (.bool true) ?_
   refine nil_ (then_n (cond_T ?_))
   refine seq_ (reg_ ?_)
   refine loadN_ zS23 5 8 (tokC t) zb1 0 ?_
   refine pure_ (.int .i64 28) ?_
   refine store_ zS23 2 (.agg (tokC t)) zb10 0 ?_
   intro zw27 zS28
   refine pure_ (.int .i64 28) ?_
   refine nil_ (then_n (wp_ret (then_r ?_)))
   refine ret_ rfl (res_ [.cell 6 92, .tmp 7] [.agg (tokC t), .int .i64 28] (.tuple #[.agg (tokC t), .int .i64 28]) ⟨res_cellN zS28 2 8 zb10 0, res_tmp, trivial⟩) ?_
   have ze : Sd.Tok.accept t f e = (t, 28) := by first | rfl | (simp [Sd.Tok.accept, zh24, zh25]; done) | (simp [Sd.Tok.accept, zh24, zh25]; rfl) | (simp [Sd.Tok.accept, zh24, zh25]; simp [Sd.Tok.accept, zh24, zh25]; done) | (simp [Sd.Tok.accept, zh24, zh25]; simp [Sd.Tok.accept, zh24, zh25]; rfl) | (simp [Sd.Tok.accept, zh24, zh25]; omega) | (unfold Sd.Tok.accept; (repeat' split) <;> first | rfl | assumption | omega | (simp_all; done) | (simp_all; omega))
   exact ⟨by (rw [ze]) <;> rfl, zS28.ch⟩
 intro zh29
 have zh30 := notF' zh29
 have zh31 := leT' zh30
 refine pure_ (.pointer (some ⟨zb1, 2, none⟩)) ?_
 refine load1_ zS23 5 (.int .i64 t.offer) zb1 2 ?_
 refine load1_ zS23 4 (.int .i64 f) zb4 0 ?_
 refine pure_ (.bool (t.offer != f)) ?_
 refine pure_ (.bool (t.offer != f)) ?_
 refine pure_ (.bool (t.offer != f)) ?_
 refine nil_ (then_n (wp_ret ?_))
 refine ret_ rfl (res_ [.tmp 2] [.bool (t.offer != f)] (.bool (t.offer != f)) ⟨res_tmp, trivial⟩) ?_
 refine nil_ (then_n ?_)
 refine cond_S (t.offer != f) ?_ ?_
 · intro zh32
   have zh33 := neT' zh32
   refine seq_ (reg_ ?_)
   refine pure_ (.pointer (some ⟨zb16, 0, none⟩)) ?_
   refine load1_ zS23 0 (.int .i64 28) zb16 0 ?_
   refine pure_ (.int .i64 28) ?_
   refine nil_ (then_n (wp_ret (blk_r (then_r (then_r (blk_r (then_r ?_)))))))
   refine ret_ rfl (res_ [.tmp 2] [.int .i64 28] (.int .i64 28) ⟨res_tmp, trivial⟩) ?_
   refine pure_ (.int .i64 28) ?_
   refine nil_ (then_n (seq_ (seq_ (reg_ ?_))))
   refine pure_ (.int .i64 28) ?_
   refine pure_ (.bool true) ?_
   refine nil_ (then_n (cond_T ?_))
   refine seq_ (reg_ ?_)
   refine loadN_ zS23 5 8 (tokC t) zb1 0 ?_
   refine pure_ (.int .i64 28) ?_
   refine store_ zS23 2 (.agg (tokC t)) zb10 0 ?_
   intro zw34 zS35
   refine pure_ (.int .i64 28) ?_
   refine nil_ (then_n (wp_ret (then_r ?_)))
   refine ret_ rfl (res_ [.cell 6 92, .tmp 7] [.agg (tokC t), .int .i64 28] (.tuple #[.agg (tokC t), .int .i64 28]) ⟨res_cellN zS35 2 8 zb10 0, res_tmp, trivial⟩) ?_
   have ze : Sd.Tok.accept t f e = (t, 28) := by first | rfl | (simp [Sd.Tok.accept, zh29, zh30, zh32, zh33]; done) | (simp [Sd.Tok.accept, zh29, zh30, zh32, zh33]; rfl) | (simp [Sd.Tok.accept, zh29, zh30, zh32]; simp [Sd.Tok.accept, zh29, zh30, zh32, zh33]; done) | (simp [Sd.Tok.accept, zh29, zh30, zh32]; simp [Sd.Tok.accept, zh29, zh30, zh32, zh33]; rfl) | (simp [Sd.Tok.accept, zh29, zh30, zh32, zh33]; omega) | (unfold Sd.Tok.accept; (repeat' split) <;> first | rfl | assumption | omega | (simp_all; done) | (simp_all; omega))
   exact ⟨by (rw [ze]) <;> rfl, zS35.ch⟩
 intro zh36
 have zh37 := neF' zh36
 refine wp_skip (blk_n (then_n (reg_ ?_)))
 refine pure_ (.int .i64 1) ?_
 refine pure_ (.int .i64 1) ?_
 refine nil_ (again_ (seq_ (reg_ ?_)))
 refine pure_ (.bool true) ?_
 refine nil_ (then_n (seq_ (cond_T ?_)))
 refine wp_skip (then_n (seq_ (wp_block (seq_ (reg_ ?_)))))
 refine pure_ (.pointer (some ⟨zb13, 2, none⟩)) ?_
 refine loadN_ zS23 1 2 #[.int .i64 21, .func (.func 228) #[] #[.pointer (some ⟨zb7, 0, none⟩), .pointer (some ⟨zb1, 0, none⟩)]] zb13 2 ?_
 refine new_ zS23 (fun b => .pointer (some ⟨b, 0, none⟩)) (.cells #[.int .i64 0, .nilFunc] 328) ?_
 intro zb38 zw39 zS40
 refine store_ zS40 0 (.agg #[.int .i64 21, .func (.func 228) #[] #[.pointer (some ⟨zb7, 0, none⟩), .pointer (some ⟨zb1, 0, none⟩)]]) zb38 0 ?_
 intro zw41 zS42
 refine nil_ (then_n (seq_ (reg_ ?_)))
 refine pure_ (.pointer (some ⟨zb38, 1, none⟩)) ?_
 refine load1_ zS42 0 (.func (.func 228) #[] #[.pointer (some ⟨zb7, 0, none⟩), .pointer (some ⟨zb1, 0, none⟩)]) zb38 1 ?_
 refine call_ 228 #[.pointer (some ⟨zb7, 0, none⟩), .pointer (some ⟨zb1, 0, none⟩)] ?_
 refine enter_ Tryz.func228 rfl ?_
 refine seq_ (reg_ ?_)
 refine pure_ (.bool false) ?_
 refine nil_ (then_n (seq_ (reg_ ?_)))
 refine load1_ zS42 4 (.int .i64 e) zb7 0 ?_
 refine pure_ (.pointer (some ⟨zb1, 1, none⟩)) ?_
 refine load1_ zS42 6 (.int .i64 t.epoch) zb1 1 ?_
 refine pure_ (.bool (e != t.epoch)) ?_
 refine pure_ (.bool (e != t.epoch)) ?_
 refine nil_ (then_n (wp_ret ?_))
 refine ret_ rfl (res_ [.tmp 2] [.bool (e != t.epoch)] (.bool (e != t.epoch)) ⟨res_tmp, trivial⟩) ?_
 refine nil_ (then_n ?_)
 refine cond_S (e != t.epoch) ?_ ?_
 · intro zh43
   have zh44 := neT' zh43
   refine seq_ (reg_ ?_)
   refine pure_ (.pointer (some ⟨zb38, 0, none⟩)) ?_
   refine load1_ zS42 0 (.int .i64 21) zb38 0 ?_
   refine pure_ (.int .i64 21) ?_
   refine nil_ (then_n (wp_ret (blk_r (then_r (then_r (blk_r (then_r ?_)))))))
   refine ret_ rfl (res_ [.tmp 2] [.int .i64 21] (.int .i64 21) ⟨res_tmp, trivial⟩) ?_
   refine pure_ (.int .i64 21) ?_
   refine nil_ (then_n (seq_ (seq_ (reg_ ?_))))
   refine pure_ (.int .i64 21) ?_
   refine pure_ (.bool true) ?_
   refine nil_ (then_n (cond_T ?_))
   refine seq_ (reg_ ?_)
   refine loadN_ zS42 6 8 (tokC t) zb1 0 ?_
   refine pure_ (.int .i64 21) ?_
   refine store_ zS42 3 (.agg (tokC t)) zb10 0 ?_
   intro zw45 zS46
   refine pure_ (.int .i64 21) ?_
   refine nil_ (then_n (wp_ret (then_r ?_)))
   refine ret_ rfl (res_ [.cell 6 92, .tmp 7] [.agg (tokC t), .int .i64 21] (.tuple #[.agg (tokC t), .int .i64 21]) ⟨res_cellN zS46 3 8 zb10 0, res_tmp, trivial⟩) ?_
   have ze : Sd.Tok.accept t f e = (t, 21) := by first | rfl | (simp [Sd.Tok.accept, zh29, zh30, zh36, zh43, zh37, zh44]; done) | (simp [Sd.Tok.accept, zh29, zh30, zh36, zh43, zh37, zh44]; rfl) | (simp [Sd.Tok.accept, zh29, zh30, zh36, zh43]; simp [Sd.Tok.accept, zh29, zh30, zh36, zh43, zh37, zh44]; done) | (simp [Sd.Tok.accept, zh29, zh30, zh36, zh43]; simp [Sd.Tok.accept, zh29, zh30, zh36, zh43, zh37, zh44]; rfl) | (simp [Sd.Tok.accept, zh29, zh30, zh36, zh43, zh37, zh44]; omega) | (unfold Sd.Tok.accept; (repeat' split) <;> first | rfl | assumption | omega | (simp_all; done) | (simp_all; omega))
   exact ⟨by (rw [ze]) <;> rfl, zS46.ch⟩
 intro zh47
 have zh48 := neF' zh47
 refine wp_skip (blk_n (then_n (reg_ ?_)))
 refine pure_ (.int .i64 2) ?_
 refine pure_ (.int .i64 2) ?_
 refine nil_ (again_ (seq_ (reg_ ?_)))
 refine pure_ (.bool false) ?_
 refine nil_ (then_n (seq_ (cond_F ?_)))
 refine wp_exit (then_e (then_e (blk_e (then_n (seq_ (reg_ ?_))))))
 refine pure_ (.int .i64 0) ?_
 refine nil_ (then_n (wp_ret ?_))
 refine ret_ rfl (res_ [.tmp 2] [.int .i64 0] (.int .i64 0) ⟨res_tmp, trivial⟩) ?_
 refine pure_ (.int .i64 0) ?_
 refine nil_ (then_n (seq_ (seq_ (reg_ ?_))))
 refine pure_ (.int .i64 0) ?_
 refine pure_ (.bool false) ?_
 refine nil_ (then_n (cond_F ?_))
 refine wp_skip (then_n (seq_ (reg_ ?_)))
 refine loadN_ zS42 6 8 (tokC t) zb1 0 ?_
 refine load1_ zS42 5 (.int .i64 f) zb4 0 ?_
 refine call_ 143 #[.agg (tokC t), .int .i64 f] ?_
 refine (grant_ t f (by omega) _).mono ?_; intro v zw49 ⟨hv, zh50⟩; generalize ze53 : Sd.Tok.grant t f = zr52 at hv; subst hv
 have zS51 := zS42.quiet zh50
 refine pure_ (.agg (tokC zr52.1)) ?_
 refine pure_ (.int .i64 zr52.2) ?_
 refine store_ zS51 3 (.agg (tokC zr52.1)) zb10 0 ?_
 intro zw54 zS55
 refine pure_ (.int .i64 zr52.2) ?_
 refine nil_ (then_n (wp_ret ?_))
 refine ret_ rfl (res_ [.cell 6 92, .tmp 7] [.agg (tokC zr52.1), .int .i64 zr52.2] (.tuple #[.agg (tokC zr52.1), .int .i64 zr52.2]) ⟨res_cellN zS55 3 8 zb10 0, res_tmp, trivial⟩) ?_
 have ze : Sd.Tok.accept t f e = (zr52.1, zr52.2) := by first | rfl | (simp [Sd.Tok.accept, zh29, zh30, zh36, zh47, zh37, zh48, ze53]; done) | (simp [Sd.Tok.accept, zh29, zh30, zh36, zh47, zh37, zh48, ze53]; rfl) | (simp [Sd.Tok.accept, zh29, zh30, zh36, zh47, ze53]; simp [Sd.Tok.accept, zh29, zh30, zh36, zh47, zh37, zh48, ze53]; done) | (simp [Sd.Tok.accept, zh29, zh30, zh36, zh47, ze53]; simp [Sd.Tok.accept, zh29, zh30, zh36, zh47, zh37, zh48, ze53]; rfl) | (simp [Sd.Tok.accept, zh29, zh30, zh36, zh47, zh37, zh48, ze53]; omega) | (unfold Sd.Tok.accept; (repeat' split) <;> first | rfl | assumption | omega | (simp_all; done) | (simp_all; omega))
 exact ⟨by (rw [ze]) <;> rfl, zS55.ch⟩

set_option maxRecDepth 100000 in
set_option maxHeartbeats 4000000 in
theorem deny_ (t : Sd.Tok) (f : Int) (w : World) :
    Gives Tryz.prog 179 #[.agg (tokC t), .int .i64 f] w fun v w1 => v = .tuple #[.agg (tokC ((Sd.Tok.deny t f).1)), .int .i64 ((Sd.Tok.deny t f).2)] ∧ Ch [] w w1 := by
 have S0 := St.nil [] w
 refine enter_ Tryz.func179 rfl ?_
 refine seq_ (reg_ ?_)
 refine new_ S0 (fun b => .pointer (some ⟨b, 0, none⟩)) (.cells (tokC t) 92) ?_
 intro zb1 zw2 zS3
 refine new_ zS3 (fun b => .pointer (some ⟨b, 0, none⟩)) (.cells #[.int .i64 0, .int .i64 0, .int .i64 0, .int .i64 0, .int .i64 0, .int .i64 0, .int .i64 0, .bool false] 92) ?_
 intro zb4 zw5 zS6
 refine pure_ (.int .i64 0) ?_
 refine nil_ (then_n (seq_ (seq_ (reg_ ?_))))
 refine loadN_ zS6 1 8 (tokC t) zb1 0 ?_
 refine call_ 150 #[.agg (tokC t)] ?_
 refine (open_ t _ ).mono ?_; rintro _ zw7 ⟨rfl, zh8⟩
 have zS9 := zS6.quiet zh8
 refine pure_ (.bool (!(decide (0 ≤ t.offer)))) ?_
 refine move_ ?_
 refine slot_ 9 (!(decide (0 ≤ t.offer))) ?_ ?_
 · intro zh10
   have zh11 := notT' zh10
   have zh12 := leF' zh11
   refine skip_ ?_
   refine skip_ ?_
   refine skip_ ?_
   refine skip_ ?_
   refine pure_ (.bool true) ?_
   refine nil_ (then_n (cond_T ?_))
   refine seq_ (reg_ ?_)
   refine loadN_ zS9 1 8 (tokC t) zb1 0 ?_
   refine store_ zS9 0 (.agg (tokC t)) zb4 0 ?_
   intro zw13 zS14
   refine pure_ (.int .i64 28) ?_
   refine nil_ (then_n (wp_ret (then_r ?_)))
   refine ret_ rfl (res_ [.cell 4 92, .tmp 5] [.agg (tokC t), .int .i64 28] (.tuple #[.agg (tokC t), .int .i64 28]) ⟨res_cellN zS14 0 8 zb4 0, res_tmp, trivial⟩) ?_
   have ze : Sd.Tok.deny t f = (t, 28) := by first | rfl | (simp [Sd.Tok.deny, zh10, zh11]; done) | (simp [Sd.Tok.deny, zh10, zh11]; rfl) | (simp [Sd.Tok.deny, zh10, zh11]; simp [Sd.Tok.deny, zh10, zh11]; done) | (simp [Sd.Tok.deny, zh10, zh11]; simp [Sd.Tok.deny, zh10, zh11]; rfl) | (simp [Sd.Tok.deny, zh10, zh11]; omega) | (unfold Sd.Tok.deny; (repeat' split) <;> first | rfl | assumption | omega | (simp_all; done) | (simp_all; omega))
   exact ⟨by (rw [ze]) <;> rfl, zS14.ch⟩
 intro zh15
 have zh16 := notF' zh15
 have zh17 := leT' zh16
 refine pure_ (.pointer (some ⟨zb1, 2, none⟩)) ?_
 refine load1_ zS9 1 (.int .i64 t.offer) zb1 2 ?_
 refine pure_ (.int .i64 f) ?_
 refine pure_ (.bool (t.offer != f)) ?_
 refine pure_ (.bool (t.offer != f)) ?_
 refine nil_ (then_n ?_)
 refine cond_S (t.offer != f) ?_ ?_
 · intro zh18
   have zh19 := neT' zh18
   refine seq_ (reg_ ?_)
   refine loadN_ zS9 1 8 (tokC t) zb1 0 ?_
   refine store_ zS9 0 (.agg (tokC t)) zb4 0 ?_
   intro zw20 zS21
   refine pure_ (.int .i64 28) ?_
   refine nil_ (then_n (wp_ret (then_r ?_)))
   refine ret_ rfl (res_ [.cell 4 92, .tmp 5] [.agg (tokC t), .int .i64 28] (.tuple #[.agg (tokC t), .int .i64 28]) ⟨res_cellN zS21 0 8 zb4 0, res_tmp, trivial⟩) ?_
   have ze : Sd.Tok.deny t f = (t, 28) := by first | rfl | (simp [Sd.Tok.deny, zh15, zh16, zh18, zh19]; done) | (simp [Sd.Tok.deny, zh15, zh16, zh18, zh19]; rfl) | (simp [Sd.Tok.deny, zh15, zh16, zh18]; simp [Sd.Tok.deny, zh15, zh16, zh18, zh19]; done) | (simp [Sd.Tok.deny, zh15, zh16, zh18]; simp [Sd.Tok.deny, zh15, zh16, zh18, zh19]; rfl) | (simp [Sd.Tok.deny, zh15, zh16, zh18, zh19]; omega) | (unfold Sd.Tok.deny; (repeat' split) <;> first | rfl | assumption | omega | (simp_all; done) | (simp_all; omega))
   exact ⟨by (rw [ze]) <;> rfl, zS21.ch⟩
 intro zh22
 have zh23 := neF' zh22
 refine wp_skip (then_n (seq_ (reg_ ?_)))
 refine loadN_ zS9 1 8 (tokC t) zb1 0 ?_
 refine call_ 153 #[.agg (tokC t)] ?_
 refine (end_o t _ ).mono ?_; rintro _ zw24 ⟨rfl, zh25⟩
 have zS26 := zS9.quiet zh25
 refine store_ zS26 0 (.agg (tokC (Sd.Tok.endOffer t))) zb4 0 ?_
 intro zw27 zS28
 refine pure_ (.int .i64 0) ?_
 refine nil_ (then_n (wp_ret ?_))
 refine ret_ rfl (res_ [.cell 4 92, .tmp 5] [.agg (tokC (Sd.Tok.endOffer t)), .int .i64 0] (.tuple #[.agg (tokC (Sd.Tok.endOffer t)), .int .i64 0]) ⟨res_cellN zS28 0 8 zb4 0, res_tmp, trivial⟩) ?_
 have ze : Sd.Tok.deny t f = ((Sd.Tok.endOffer t), 0) := by first | rfl | (simp [Sd.Tok.deny, zh15, zh16, zh22, zh23]; done) | (simp [Sd.Tok.deny, zh15, zh16, zh22, zh23]; rfl) | (simp [Sd.Tok.deny, zh15, zh16, zh22]; simp [Sd.Tok.deny, zh15, zh16, zh22, zh23]; done) | (simp [Sd.Tok.deny, zh15, zh16, zh22]; simp [Sd.Tok.deny, zh15, zh16, zh22, zh23]; rfl) | (simp [Sd.Tok.deny, zh15, zh16, zh22, zh23]; omega) | (unfold Sd.Tok.deny; (repeat' split) <;> first | rfl | assumption | omega | (simp_all; done) | (simp_all; omega))
 exact ⟨by (rw [ze]) <;> rfl, zS28.ch⟩

set_option maxRecDepth 100000 in
set_option maxHeartbeats 4000000 in
theorem drop_o (t : Sd.Tok) (s : Int) (w : World) :
    Gives Tryz.prog 149 #[.agg (tokC t), .int .i64 s] w fun v w1 => v = .tuple #[.agg (tokC ((Sd.Tok.drop t s).1)), .bool ((Sd.Tok.drop t s).2)] ∧ Ch [] w w1 := by
 have S0 := St.nil [] w
 refine enter_ Tryz.func149 rfl ?_
 refine seq_ (reg_ ?_)
 refine new_ S0 (fun b => .pointer (some ⟨b, 0, none⟩)) (.cells (tokC t) 92) ?_
 intro zb1 zw2 zS3
 refine new_ zS3 (fun b => .pointer (some ⟨b, 0, none⟩)) (.cells #[.int .i64 0, .int .i64 0, .int .i64 0, .int .i64 0, .int .i64 0, .int .i64 0, .int .i64 0, .bool false] 92) ?_
 intro zb4 zw5 zS6
 refine pure_ (.bool false) ?_
 refine nil_ (then_n (seq_ (seq_ (reg_ ?_))))
 refine loadN_ zS6 1 8 (tokC t) zb1 0 ?_
 refine call_ 150 #[.agg (tokC t)] ?_
 refine (open_ t _ ).mono ?_; rintro _ zw7 ⟨rfl, zh8⟩
 have zS9 := zS6.quiet zh8
 refine pure_ (.bool (!(decide (0 ≤ t.offer)))) ?_
 refine move_ ?_
 refine slot_ 9 (!(decide (0 ≤ t.offer))) ?_ ?_
 · intro zh10
   have zh11 := notT' zh10
   have zh12 := leF' zh11
   refine skip_ ?_
   refine skip_ ?_
   refine skip_ ?_
   refine skip_ ?_
   refine pure_ (.bool true) ?_
   refine nil_ (then_n (cond_T ?_))
   refine seq_ (reg_ ?_)
   refine loadN_ zS9 1 8 (tokC t) zb1 0 ?_
   refine store_ zS9 0 (.agg (tokC t)) zb4 0 ?_
   intro zw13 zS14
   refine pure_ (.bool false) ?_
   refine nil_ (then_n (wp_ret (then_r ?_)))
   refine ret_ rfl (res_ [.cell 4 92, .tmp 5] [.agg (tokC t), .bool false] (.tuple #[.agg (tokC t), .bool false]) ⟨res_cellN zS14 0 8 zb4 0, res_tmp, trivial⟩) ?_
   have ze : Sd.Tok.drop t s = (t, false) := by first | rfl | (simp [Sd.Tok.drop, zh10, zh11]; done) | (simp [Sd.Tok.drop, zh10, zh11]; rfl) | (simp [Sd.Tok.drop, zh10, zh11]; simp [Sd.Tok.drop, zh10, zh11]; done) | (simp [Sd.Tok.drop, zh10, zh11]; simp [Sd.Tok.drop, zh10, zh11]; rfl) | (simp [Sd.Tok.drop, zh10, zh11]; omega) | (unfold Sd.Tok.drop; (repeat' split) <;> first | rfl | assumption | omega | (simp_all; done) | (simp_all; omega))
   exact ⟨by (rw [ze]) <;> rfl, zS14.ch⟩
 intro zh15
 have zh16 := notF' zh15
 have zh17 := leT' zh16
 refine pure_ (.pointer (some ⟨zb1, 2, none⟩)) ?_
 refine load1_ zS9 1 (.int .i64 t.offer) zb1 2 ?_
 refine pure_ (.int .i64 s) ?_
 refine pure_ (.bool (t.offer != s)) ?_
 refine pure_ (.bool (t.offer != s)) ?_
 refine nil_ (then_n ?_)
 refine cond_S (t.offer != s) ?_ ?_
 · intro zh18
   have zh19 := neT' zh18
   refine seq_ (reg_ ?_)
   refine loadN_ zS9 1 8 (tokC t) zb1 0 ?_
   refine store_ zS9 0 (.agg (tokC t)) zb4 0 ?_
   intro zw20 zS21
   refine pure_ (.bool false) ?_
   refine nil_ (then_n (wp_ret (then_r ?_)))
   refine ret_ rfl (res_ [.cell 4 92, .tmp 5] [.agg (tokC t), .bool false] (.tuple #[.agg (tokC t), .bool false]) ⟨res_cellN zS21 0 8 zb4 0, res_tmp, trivial⟩) ?_
   have ze : Sd.Tok.drop t s = (t, false) := by first | rfl | (simp [Sd.Tok.drop, zh15, zh16, zh18, zh19]; done) | (simp [Sd.Tok.drop, zh15, zh16, zh18, zh19]; rfl) | (simp [Sd.Tok.drop, zh15, zh16, zh18]; simp [Sd.Tok.drop, zh15, zh16, zh18, zh19]; done) | (simp [Sd.Tok.drop, zh15, zh16, zh18]; simp [Sd.Tok.drop, zh15, zh16, zh18, zh19]; rfl) | (simp [Sd.Tok.drop, zh15, zh16, zh18, zh19]; omega) | (unfold Sd.Tok.drop; (repeat' split) <;> first | rfl | assumption | omega | (simp_all; done) | (simp_all; omega))
   exact ⟨by (rw [ze]) <;> rfl, zS21.ch⟩
 intro zh22
 have zh23 := neF' zh22
 refine wp_skip (then_n (seq_ (reg_ ?_)))
 refine loadN_ zS9 1 8 (tokC t) zb1 0 ?_
 refine call_ 153 #[.agg (tokC t)] ?_
 refine (end_o t _ ).mono ?_; rintro _ zw24 ⟨rfl, zh25⟩
 have zS26 := zS9.quiet zh25
 refine store_ zS26 0 (.agg (tokC (Sd.Tok.endOffer t))) zb4 0 ?_
 intro zw27 zS28
 refine pure_ (.bool true) ?_
 refine nil_ (then_n (wp_ret ?_))
 refine ret_ rfl (res_ [.cell 4 92, .tmp 5] [.agg (tokC (Sd.Tok.endOffer t)), .bool true] (.tuple #[.agg (tokC (Sd.Tok.endOffer t)), .bool true]) ⟨res_cellN zS28 0 8 zb4 0, res_tmp, trivial⟩) ?_
 have ze : Sd.Tok.drop t s = ((Sd.Tok.endOffer t), true) := by first | rfl | (simp [Sd.Tok.drop, zh15, zh16, zh22, zh23]; done) | (simp [Sd.Tok.drop, zh15, zh16, zh22, zh23]; rfl) | (simp [Sd.Tok.drop, zh15, zh16, zh22]; simp [Sd.Tok.drop, zh15, zh16, zh22, zh23]; done) | (simp [Sd.Tok.drop, zh15, zh16, zh22]; simp [Sd.Tok.drop, zh15, zh16, zh22, zh23]; rfl) | (simp [Sd.Tok.drop, zh15, zh16, zh22, zh23]; omega) | (unfold Sd.Tok.drop; (repeat' split) <;> first | rfl | assumption | omega | (simp_all; done) | (simp_all; omega))
 exact ⟨by (rw [ze]) <;> rfl, zS28.ch⟩

set_option maxRecDepth 100000 in
set_option maxHeartbeats 4000000 in
theorem tick_o (t : Sd.Tok) (h_t_oa_n : -9223372036854775808 ≤ t.oa.n ∧ t.oa.n ≤ 9223372036854775807) (h_t_oa_most : -9223372036854775808 ≤ t.oa.most ∧ t.oa.most ≤ 9223372036854775807) (w : World) :
    Gives Tryz.prog 109 #[.agg (tokC t)] w fun v w1 => v = .tuple #[.agg (tokC ((Sd.Tok.tick t).1)), .int .i64 ((Sd.Tok.tick t).2)] ∧ Ch [] w w1 := by
 have S0 := St.nil [] w
 refine enter_ Tryz.func109 rfl ?_
 refine seq_ (reg_ ?_)
 refine new_ S0 (fun b => .pointer (some ⟨b, 0, none⟩)) (.cells (tokC t) 92) ?_
 intro zb1 zw2 zS3
 refine new_ zS3 (fun b => .pointer (some ⟨b, 0, none⟩)) (.cells #[.int .i64 0, .int .i64 0, .int .i64 0, .int .i64 0, .int .i64 0, .int .i64 0, .int .i64 0, .bool false] 92) ?_
 intro zb4 zw5 zS6
 refine pure_ (.int .i64 0) ?_
 refine nil_ (then_n (seq_ (seq_ (reg_ ?_))))
 refine loadN_ zS6 1 8 (tokC t) zb1 0 ?_
 refine call_ 150 #[.agg (tokC t)] ?_
 refine (open_ t _ ).mono ?_; rintro _ zw7 ⟨rfl, zh8⟩
 have zS9 := zS6.quiet zh8
 refine pure_ (.bool (!(decide (0 ≤ t.offer)))) ?_
 refine nil_ (then_n ?_)
 refine cond_S (!(decide (0 ≤ t.offer))) ?_ ?_
 · intro zh10
   have zh11 := notT' zh10
   have zh12 := leF' zh11
   refine seq_ (reg_ ?_)
   refine loadN_ zS9 1 8 (tokC t) zb1 0 ?_
   refine store_ zS9 0 (.agg (tokC t)) zb4 0 ?_
   intro zw13 zS14
   refine pure_ (.int .i64 (-1)) ?_
   refine nil_ (then_n (wp_ret (then_r ?_)))
   refine ret_ rfl (res_ [.cell 2 92, .tmp 3] [.agg (tokC t), .int .i64 (-1)] (.tuple #[.agg (tokC t), .int .i64 (-1)]) ⟨res_cellN zS14 0 8 zb4 0, res_tmp, trivial⟩) ?_
   have ze : Sd.Tok.tick t = (t, (-1)) := by first | rfl | (simp [Sd.Tok.tick, zh10, zh11]; done) | (simp [Sd.Tok.tick, zh10, zh11]; rfl) | (simp [Sd.Tok.tick, zh10, zh11]; simp [Sd.Tok.tick, zh10, zh11]; done) | (simp [Sd.Tok.tick, zh10, zh11]; simp [Sd.Tok.tick, zh10, zh11]; rfl) | (simp [Sd.Tok.tick, zh10, zh11]; omega) | (unfold Sd.Tok.tick; (repeat' split) <;> first | rfl | assumption | omega | (simp_all; done) | (simp_all; omega))
   exact ⟨by (rw [ze]) <;> rfl, zS14.ch⟩
 intro zh15
 have zh16 := notF' zh15
 have zh17 := leT' zh16
 refine wp_skip (then_n (seq_ (reg_ ?_)))
 refine pure_ (.pointer (some ⟨zb1, 3, none⟩)) ?_
 refine loadN_ zS9 1 2 (timC t.oa) zb1 3 ?_
 refine call_ 151 #[.agg (timC t.oa)] ?_
 refine (step_ t.oa (by omega) (by omega) _ ).mono ?_; rintro _ zw18 ⟨rfl, zh19⟩
 have zS20 := zS9.quiet zh19
 refine pure_ (.pointer (some ⟨zb1, 3, none⟩)) ?_
 refine store_ zS20 1 (.agg (timC (Sd.Timer.step t.oa))) zb1 3 ?_
 intro zw21 zS22
 refine nil_ (then_n (seq_ (seq_ (reg_ ?_))))
 refine pure_ (.pointer (some ⟨zb1, 3, none⟩)) ?_
 refine loadN_ zS22 1 2 (timC (Sd.Timer.step t.oa)) zb1 3 ?_
 refine call_ 152 #[.agg (timC (Sd.Timer.step t.oa))] ?_
 refine (due_ (Sd.Timer.step t.oa) _ ).mono ?_; rintro _ zw23 ⟨rfl, zh24⟩
 have zS25 := zS22.quiet zh24
 refine pure_ (.bool (!(Sd.Timer.due (Sd.Timer.step t.oa)))) ?_
 refine nil_ (then_n ?_)
 refine cond_S (!(Sd.Timer.due (Sd.Timer.step t.oa))) ?_ ?_
 · intro zh26
   have zh27 := notT' zh26
   have zh28 := leF' zh27
   refine seq_ (reg_ ?_)
   refine loadN_ zS25 1 8 #[.int .i64 t.holder, .int .i64 t.epoch, .int .i64 t.offer, .int .i64 (Sd.Timer.step t.oa).n, .int .i64 (Sd.Timer.step t.oa).most, .int .i64 t.la.n, .int .i64 t.la.most, .bool t.bad] zb1 0 ?_
   refine store_ zS25 0 (.agg #[.int .i64 t.holder, .int .i64 t.epoch, .int .i64 t.offer, .int .i64 (Sd.Timer.step t.oa).n, .int .i64 (Sd.Timer.step t.oa).most, .int .i64 t.la.n, .int .i64 t.la.most, .bool t.bad]) zb4 0 ?_
   intro zw29 zS30
   refine pure_ (.int .i64 (-1)) ?_
   refine nil_ (then_n (wp_ret (then_r ?_)))
   refine ret_ rfl (res_ [.cell 2 92, .tmp 3] [.agg #[.int .i64 t.holder, .int .i64 t.epoch, .int .i64 t.offer, .int .i64 (Sd.Timer.step t.oa).n, .int .i64 (Sd.Timer.step t.oa).most, .int .i64 t.la.n, .int .i64 t.la.most, .bool t.bad], .int .i64 (-1)] (.tuple #[.agg #[.int .i64 t.holder, .int .i64 t.epoch, .int .i64 t.offer, .int .i64 (Sd.Timer.step t.oa).n, .int .i64 (Sd.Timer.step t.oa).most, .int .i64 t.la.n, .int .i64 t.la.most, .bool t.bad], .int .i64 (-1)]) ⟨res_cellN zS30 0 8 zb4 0, res_tmp, trivial⟩) ?_
   have ze : Sd.Tok.tick t = ((⟨t.holder, t.epoch, t.offer, (Sd.Timer.step t.oa), t.la, t.bad⟩ : Sd.Tok), (-1)) := by first | rfl | (simp [Sd.Tok.tick, zh15, zh16, zh26, zh27]; done) | (simp [Sd.Tok.tick, zh15, zh16, zh26, zh27]; rfl) | (simp [Sd.Tok.tick, zh15, zh16, zh26, zh27]; simp [Sd.Tok.tick, zh15, zh16, zh26, zh27]; done) | (simp [Sd.Tok.tick, zh15, zh16, zh26, zh27]; simp [Sd.Tok.tick, zh15, zh16, zh26, zh27]; rfl) | (simp [Sd.Tok.tick, zh15, zh16, zh26, zh27]; omega) | (unfold Sd.Tok.tick; (repeat' split) <;> first | rfl | assumption | omega | (simp_all; done) | (simp_all; omega))
   exact ⟨by (rw [ze]) <;> rfl, zS30.ch⟩
 intro zh31
 have zh32 := notF' zh31
 have zh33 := leT' zh32
 refine wp_skip (then_n (seq_ ?_))
 have zD := zS25.drop1 0 0 8 (b := zb4) (by kernel_rfl)
 refine storeL_ zS25 5 4 0 zb4 0 [] (.agg (tokC (Sd.Tok.endOffer (⟨t.holder, t.epoch, t.offer, (Sd.Timer.step t.oa), t.la, t.bad⟩ : Sd.Tok)))) [.agg #[.int .i64 t.holder, .int .i64 t.epoch, .int .i64 t.offer, .int .i64 (Sd.Timer.step t.oa).n, .int .i64 (Sd.Timer.step t.oa).most, .int .i64 t.la.n, .int .i64 t.la.most, .bool t.bad], .agg (tokC (Sd.Tok.endOffer (⟨t.holder, t.epoch, t.offer, (Sd.Timer.step t.oa), t.la, t.bad⟩ : Sd.Tok))), .pointer (some ⟨zb1, 2, none⟩), .int .i64 t.offer, undef] [[5, 0], [5, 1], [5, 2], [5, 3], [5, 4]] (estep_cons (eN_ zD 0 zb1 0 8 #[.int .i64 t.holder, .int .i64 t.epoch, .int .i64 t.offer, .int .i64 (Sd.Timer.step t.oa).n, .int .i64 (Sd.Timer.step t.oa).most, .int .i64 t.la.n, .int .i64 t.la.most, .bool t.bad]) (estep_cons (eC_ 153 #[.agg #[.int .i64 t.holder, .int .i64 t.epoch, .int .i64 t.offer, .int .i64 (Sd.Timer.step t.oa).n, .int .i64 (Sd.Timer.step t.oa).most, .int .i64 t.la.n, .int .i64 t.la.most, .bool t.bad]] (end_o (⟨t.holder, t.epoch, t.offer, (Sd.Timer.step t.oa), t.la, t.bad⟩ : Sd.Tok))) (estep_cons eP_ (estep_cons (eL_ zD 0 zb1 2) (estep_cons (eW_ zS25 0 (.agg (tokC (Sd.Tok.endOffer (⟨t.holder, t.epoch, t.offer, (Sd.Timer.step t.oa), t.la, t.bad⟩ : Sd.Tok)))) zb4 0) (estep_nil)))))) ?_
 intro zw34 zS35
 refine pure_ (.int .i64 t.offer) ?_
 refine nil_ (then_n (wp_ret ?_))
 refine ret_ rfl (res_ [.cell 2 92, .tmp 3] [.agg (tokC (Sd.Tok.endOffer (⟨t.holder, t.epoch, t.offer, (Sd.Timer.step t.oa), t.la, t.bad⟩ : Sd.Tok))), .int .i64 t.offer] (.tuple #[.agg (tokC (Sd.Tok.endOffer (⟨t.holder, t.epoch, t.offer, (Sd.Timer.step t.oa), t.la, t.bad⟩ : Sd.Tok))), .int .i64 t.offer]) ⟨res_cellN zS35 0 8 zb4 0, res_tmp, trivial⟩) ?_
 have ze : Sd.Tok.tick t = ((Sd.Tok.endOffer (⟨t.holder, t.epoch, t.offer, (Sd.Timer.step t.oa), t.la, t.bad⟩ : Sd.Tok)), t.offer) := by first | rfl | (simp [Sd.Tok.tick, zh15, zh16, zh31, zh32]; done) | (simp [Sd.Tok.tick, zh15, zh16, zh31, zh32]; rfl) | (simp [Sd.Tok.tick, zh15, zh16, zh31, zh32]; simp [Sd.Tok.tick, zh15, zh16, zh31, zh32]; done) | (simp [Sd.Tok.tick, zh15, zh16, zh31, zh32]; simp [Sd.Tok.tick, zh15, zh16, zh31, zh32]; rfl) | (simp [Sd.Tok.tick, zh15, zh16, zh31, zh32]; omega) | (unfold Sd.Tok.tick; (repeat' split) <;> first | rfl | assumption | omega | (simp_all; done) | (simp_all; omega))
 exact ⟨by (rw [ze]) <;> rfl, zS35.ch⟩

set_option maxRecDepth 100000 in
set_option maxHeartbeats 4000000 in
theorem make_ (p : Sd.Pol) (ka : Nat → Option Addr) (kn kc : Nat → Nat) (t : Sd.Tok) (f : Int) (o : Int) (th : Bool) (hp : Sd.PolOK p) (w : World) :
    Gives Tryz.prog 177 #[.agg (polP p ka kn kc), .agg (tokC t), .int .i64 f, .int .i64 o, .bool th] w fun v w1 => v = .tuple #[.agg (tokC ((Sd.Tok.make p t f o th).1)), .int .i64 ((Sd.Tok.make p t f o th).2)] ∧ Ch [] w w1 := by
 have hq44 := hp.offer; unfold Sd.Pol.offer at hq44
 have S0 := St.nil [] w
 refine enter_ Tryz.func177 rfl ?_
 refine seq_ (reg_ ?_)
 refine new_ S0 (fun b => .pointer (some ⟨b, 0, none⟩)) (.cells (polP p ka kn kc) 28) ?_
 intro zb1 zw2 zS3
 refine new_ zS3 (fun b => .pointer (some ⟨b, 0, none⟩)) (.cells (tokC t) 92) ?_
 intro zb4 zw5 zS6
 refine new_ zS6 (fun b => .pointer (some ⟨b, 0, none⟩)) (.cells #[.int .i64 f] 3) ?_
 intro zb7 zw8 zS9
 refine new_ zS9 (fun b => .pointer (some ⟨b, 0, none⟩)) (.cells #[.int .i64 o] 3) ?_
 intro zb10 zw11 zS12
 refine new_ zS12 (fun b => .pointer (some ⟨b, 0, none⟩)) (.cells #[.bool th] 4) ?_
 intro zb13 zw14 zS15
 refine new_ zS15 (fun b => .pointer (some ⟨b, 0, none⟩)) (.cells #[.int .i64 0, .int .i64 0, .int .i64 0, .int .i64 0, .int .i64 0, .int .i64 0, .int .i64 0, .bool false] 92) ?_
 intro zb16 zw17 zS18
 refine pure_ (.int .i64 0) ?_
 refine nil_ (then_n (seq_ (reg_ ?_)))
 refine pure_ (.func (.func 222) #[] #[.pointer (some ⟨zb7, 0, none⟩), .pointer (some ⟨zb4, 0, none⟩)]) ?_
 refine pure_ (.agg #[.int .i64 20, .func (.func 222) #[] #[.pointer (some ⟨zb7, 0, none⟩), .pointer (some ⟨zb4, 0, none⟩)]]) ?_
 refine pure_ (.func (.func 223) #[] #[.pointer (some ⟨zb4, 0, none⟩)]) ?_
 refine pure_ (.agg #[.int .i64 24, .func (.func 223) #[] #[.pointer (some ⟨zb4, 0, none⟩)]]) ?_
 refine pure_ (.func (.func 224) #[] #[.pointer (some ⟨zb10, 0, none⟩), .pointer (some ⟨zb7, 0, none⟩)]) ?_
 refine pure_ (.agg #[.int .i64 25, .func (.func 224) #[] #[.pointer (some ⟨zb10, 0, none⟩), .pointer (some ⟨zb7, 0, none⟩)]]) ?_
 refine pure_ (.func (.func 225) #[] #[.pointer (some ⟨zb10, 0, none⟩), .pointer (some ⟨zb13, 0, none⟩)]) ?_
 refine pure_ (.agg #[.int .i64 2, .func (.func 225) #[] #[.pointer (some ⟨zb10, 0, none⟩), .pointer (some ⟨zb13, 0, none⟩)]]) ?_
 refine pure_ (.func (.func 226) #[] #[.pointer (some ⟨zb4, 0, none⟩)]) ?_
 refine pure_ (.agg #[.int .i64 28, .func (.func 226) #[] #[.pointer (some ⟨zb4, 0, none⟩)]]) ?_
 refine new_ zS18 (fun b => .slice (some ⟨b, 0, none⟩) 5 5) (.cells #[.int .i64 20, .func (.func 222) #[] #[.pointer (some ⟨zb7, 0, none⟩), .pointer (some ⟨zb4, 0, none⟩)], .int .i64 24, .func (.func 223) #[] #[.pointer (some ⟨zb4, 0, none⟩)], .int .i64 25, .func (.func 224) #[] #[.pointer (some ⟨zb10, 0, none⟩), .pointer (some ⟨zb7, 0, none⟩)], .int .i64 2, .func (.func 225) #[] #[.pointer (some ⟨zb10, 0, none⟩), .pointer (some ⟨zb13, 0, none⟩)], .int .i64 28, .func (.func 226) #[] #[.pointer (some ⟨zb4, 0, none⟩)]] 328) ?_
 intro zb19 zw20 zS21
 refine call_ 221 #[.slice (some ⟨zb19, 0, none⟩) 5 5] ?_
 refine enter_ Tryz.func221 rfl ?_
 refine seq_ (reg_ ?_)
 refine pure_ (.int .i64 0) ?_
 refine nil_ (then_n (seq_ (seq_ (reg_ ?_))))
 refine move_ ?_
 refine pure_ (.int .i64 5) ?_
 refine pure_ (.int .i64 0) ?_
 refine nil_ (then_n (wp_block (loop_ 24 (seq_ (reg_ ?_)))))
 refine pure_ (.bool true) ?_
 refine nil_ (then_n (seq_ (cond_T ?_)))
 refine wp_skip (then_n (seq_ (wp_block (seq_ (reg_ ?_)))))
 refine pure_ (.pointer (some ⟨zb19, 0, none⟩)) ?_
 refine loadN_ zS21 0 2 #[.int .i64 20, .func (.func 222) #[] #[.pointer (some ⟨zb7, 0, none⟩), .pointer (some ⟨zb4, 0, none⟩)]] zb19 0 ?_
 refine new_ zS21 (fun b => .pointer (some ⟨b, 0, none⟩)) (.cells #[.int .i64 0, .nilFunc] 328) ?_
 intro zb22 zw23 zS24
 refine store_ zS24 0 (.agg #[.int .i64 20, .func (.func 222) #[] #[.pointer (some ⟨zb7, 0, none⟩), .pointer (some ⟨zb4, 0, none⟩)]]) zb22 0 ?_
 intro zw25 zS26
 refine nil_ (then_n (seq_ (reg_ ?_)))
 refine pure_ (.pointer (some ⟨zb22, 1, none⟩)) ?_
 refine load1_ zS26 0 (.func (.func 222) #[] #[.pointer (some ⟨zb7, 0, none⟩), .pointer (some ⟨zb4, 0, none⟩)]) zb22 1 ?_
 refine call_ 222 #[.pointer (some ⟨zb7, 0, none⟩), .pointer (some ⟨zb4, 0, none⟩)] ?_
 refine enter_ Tryz.func222 rfl ?_
 refine seq_ (reg_ ?_)
 refine pure_ (.bool false) ?_
 refine nil_ (then_n (seq_ (reg_ ?_)))
 refine load1_ zS26 5 (.int .i64 f) zb7 0 ?_
 refine pure_ (.pointer (some ⟨zb4, 0, none⟩)) ?_
 refine load1_ zS26 6 (.int .i64 t.holder) zb4 0 ?_
 refine pure_ (.bool (f != t.holder)) ?_
 refine pure_ (.bool (f != t.holder)) ?_
 refine nil_ (then_n (wp_ret ?_))
 refine ret_ rfl (res_ [.tmp 2] [.bool (f != t.holder)] (.bool (f != t.holder)) ⟨res_tmp, trivial⟩) ?_
 refine nil_ (then_n ?_)
 refine cond_S (f != t.holder) ?_ ?_
 · intro zh27
   have zh28 := neT' zh27
   refine seq_ (reg_ ?_)
   refine pure_ (.pointer (some ⟨zb22, 0, none⟩)) ?_
   refine load1_ zS26 0 (.int .i64 20) zb22 0 ?_
   refine pure_ (.int .i64 20) ?_
   refine nil_ (then_n (wp_ret (blk_r (then_r (then_r (blk_r (then_r ?_)))))))
   refine ret_ rfl (res_ [.tmp 2] [.int .i64 20] (.int .i64 20) ⟨res_tmp, trivial⟩) ?_
   refine pure_ (.int .i64 20) ?_
   refine nil_ (then_n (seq_ (seq_ (reg_ ?_))))
   refine pure_ (.int .i64 20) ?_
   refine pure_ (.bool true) ?_
   refine nil_ (then_n (cond_T ?_))
   refine seq_ (reg_ ?_)
   refine loadN_ zS26 6 8 (tokC t) zb4 0 ?_
   refine pure_ (.int .i64 20) ?_
   refine store_ zS26 2 (.agg (tokC t)) zb16 0 ?_
   intro zw29 zS30
   refine pure_ (.int .i64 20) ?_
   refine nil_ (then_n (wp_ret (then_r ?_)))
   refine ret_ rfl (res_ [.cell 10 92, .tmp 11] [.agg (tokC t), .int .i64 20] (.tuple #[.agg (tokC t), .int .i64 20]) ⟨res_cellN zS30 2 8 zb16 0, res_tmp, trivial⟩) ?_
   have ze : Sd.Tok.make p t f o th = (t, 20) := by first | rfl | (simp [Sd.Tok.make, zh27, zh28]; done) | (simp [Sd.Tok.make, zh27, zh28]; rfl) | (simp [Sd.Tok.make, zh27]; simp [Sd.Tok.make, zh27, zh28]; done) | (simp [Sd.Tok.make, zh27]; simp [Sd.Tok.make, zh27, zh28]; rfl) | (simp [Sd.Tok.make, zh27, zh28]; omega) | (unfold Sd.Tok.make; (repeat' split) <;> first | rfl | assumption | omega | (simp_all; done) | (simp_all; omega))
   exact ⟨by (rw [ze]) <;> rfl, zS30.ch⟩
 intro zh31
 have zh32 := neF' zh31
 refine wp_skip (blk_n (then_n (reg_ ?_)))
 refine pure_ (.int .i64 1) ?_
 refine pure_ (.int .i64 1) ?_
 refine nil_ (again_ (seq_ (reg_ ?_)))
 refine pure_ (.bool true) ?_
 refine nil_ (then_n (seq_ (cond_T ?_)))
 refine wp_skip (then_n (seq_ (wp_block (seq_ (reg_ ?_)))))
 refine pure_ (.pointer (some ⟨zb19, 2, none⟩)) ?_
 refine loadN_ zS26 1 2 #[.int .i64 24, .func (.func 223) #[] #[.pointer (some ⟨zb4, 0, none⟩)]] zb19 2 ?_
 refine new_ zS26 (fun b => .pointer (some ⟨b, 0, none⟩)) (.cells #[.int .i64 0, .nilFunc] 328) ?_
 intro zb33 zw34 zS35
 refine store_ zS35 0 (.agg #[.int .i64 24, .func (.func 223) #[] #[.pointer (some ⟨zb4, 0, none⟩)]]) zb33 0 ?_
 intro zw36 zS37
 refine nil_ (then_n (seq_ (reg_ ?_)))
 refine pure_ (.pointer (some ⟨zb33, 1, none⟩)) ?_
 refine load1_ zS37 0 (.func (.func 223) #[] #[.pointer (some ⟨zb4, 0, none⟩)]) zb33 1 ?_
 refine call_ 223 #[.pointer (some ⟨zb4, 0, none⟩)] ?_
 refine enter_ Tryz.func223 rfl ?_
 refine seq_ (reg_ ?_)
 refine pure_ (.bool false) ?_
 refine nil_ (then_n (seq_ (reg_ ?_)))
 refine pure_ (.pointer (some ⟨zb4, 1, none⟩)) ?_
 refine load1_ zS37 7 (.int .i64 t.epoch) zb4 1 ?_
 refine pure_ (.bool (decide (65535 ≤ t.epoch))) ?_
 refine assign_ ?_
 refine nil_ (then_n (wp_ret ?_))
 refine ret_ rfl (res_ [.tmp 1] [.bool (decide (65535 ≤ t.epoch))] (.bool (decide (65535 ≤ t.epoch))) ⟨res_tmp, trivial⟩) ?_
 refine nil_ (then_n ?_)
 refine cond_S (decide (65535 ≤ t.epoch)) ?_ ?_
 · intro zh38
   have zh39 := leT' zh38
   refine seq_ (reg_ ?_)
   refine pure_ (.pointer (some ⟨zb33, 0, none⟩)) ?_
   refine load1_ zS37 0 (.int .i64 24) zb33 0 ?_
   refine pure_ (.int .i64 24) ?_
   refine nil_ (then_n (wp_ret (blk_r (then_r (then_r (blk_r (then_r ?_)))))))
   refine ret_ rfl (res_ [.tmp 2] [.int .i64 24] (.int .i64 24) ⟨res_tmp, trivial⟩) ?_
   refine pure_ (.int .i64 24) ?_
   refine nil_ (then_n (seq_ (seq_ (reg_ ?_))))
   refine pure_ (.int .i64 24) ?_
   refine pure_ (.bool true) ?_
   refine nil_ (then_n (cond_T ?_))
   refine seq_ (reg_ ?_)
   refine loadN_ zS37 7 8 (tokC t) zb4 0 ?_
   refine pure_ (.int .i64 24) ?_
   refine store_ zS37 3 (.agg (tokC t)) zb16 0 ?_
   intro zw40 zS41
   refine pure_ (.int .i64 24) ?_
   refine nil_ (then_n (wp_ret (then_r ?_)))
   refine ret_ rfl (res_ [.cell 10 92, .tmp 11] [.agg (tokC t), .int .i64 24] (.tuple #[.agg (tokC t), .int .i64 24]) ⟨res_cellN zS41 3 8 zb16 0, res_tmp, trivial⟩) ?_
   have ze : Sd.Tok.make p t f o th = (t, 24) := by first | rfl | (simp [Sd.Tok.make, zh31, zh38, zh32]; done) | (simp [Sd.Tok.make, zh31, zh38, zh32]; rfl) | (simp [Sd.Tok.make, zh31, zh38]; simp [Sd.Tok.make, zh31, zh38, zh32]; done) | (simp [Sd.Tok.make, zh31, zh38]; simp [Sd.Tok.make, zh31, zh38, zh32]; rfl) | (simp [Sd.Tok.make, zh31, zh38, zh32]; omega) | (unfold Sd.Tok.make; (repeat' split) <;> first | rfl | assumption | omega | (simp_all; done) | (simp_all; omega))
   exact ⟨by (rw [ze]) <;> rfl, zS41.ch⟩
 intro zh42
 have zh43 := leF' zh42
 refine wp_skip (blk_n (then_n (reg_ ?_)))
 refine pure_ (.int .i64 2) ?_
 refine pure_ (.int .i64 2) ?_
 refine nil_ (again_ (seq_ (reg_ ?_)))
 refine pure_ (.bool true) ?_
 refine nil_ (then_n (seq_ (cond_T ?_)))
 refine wp_skip (then_n (seq_ (wp_block (seq_ (reg_ ?_)))))
 refine pure_ (.pointer (some ⟨zb19, 4, none⟩)) ?_
 refine loadN_ zS37 2 2 #[.int .i64 25, .func (.func 224) #[] #[.pointer (some ⟨zb10, 0, none⟩), .pointer (some ⟨zb7, 0, none⟩)]] zb19 4 ?_
 refine new_ zS37 (fun b => .pointer (some ⟨b, 0, none⟩)) (.cells #[.int .i64 0, .nilFunc] 328) ?_
 intro zb44 zw45 zS46
 refine store_ zS46 0 (.agg #[.int .i64 25, .func (.func 224) #[] #[.pointer (some ⟨zb10, 0, none⟩), .pointer (some ⟨zb7, 0, none⟩)]]) zb44 0 ?_
 intro zw47 zS48
 refine nil_ (then_n (seq_ (reg_ ?_)))
 refine pure_ (.pointer (some ⟨zb44, 1, none⟩)) ?_
 refine load1_ zS48 0 (.func (.func 224) #[] #[.pointer (some ⟨zb10, 0, none⟩), .pointer (some ⟨zb7, 0, none⟩)]) zb44 1 ?_
 refine call_ 224 #[.pointer (some ⟨zb10, 0, none⟩), .pointer (some ⟨zb7, 0, none⟩)] ?_
 refine enter_ Tryz.func224 rfl ?_
 refine seq_ (reg_ ?_)
 refine pure_ (.bool false) ?_
 refine nil_ (then_n (seq_ (reg_ ?_)))
 refine load1_ zS48 6 (.int .i64 o) zb10 0 ?_
 refine load1_ zS48 7 (.int .i64 f) zb7 0 ?_
 refine pure_ (.bool (o == f)) ?_
 refine pure_ (.bool (o == f)) ?_
 refine nil_ (then_n (wp_ret ?_))
 refine ret_ rfl (res_ [.tmp 2] [.bool (o == f)] (.bool (o == f)) ⟨res_tmp, trivial⟩) ?_
 refine nil_ (then_n ?_)
 refine cond_S (o == f) ?_ ?_
 · intro zh49
   have zh50 := eqT' zh49
   refine seq_ (reg_ ?_)
   refine pure_ (.pointer (some ⟨zb44, 0, none⟩)) ?_
   refine load1_ zS48 0 (.int .i64 25) zb44 0 ?_
   refine pure_ (.int .i64 25) ?_
   refine nil_ (then_n (wp_ret (blk_r (then_r (then_r (blk_r (then_r ?_)))))))
   refine ret_ rfl (res_ [.tmp 2] [.int .i64 25] (.int .i64 25) ⟨res_tmp, trivial⟩) ?_
   refine pure_ (.int .i64 25) ?_
   refine nil_ (then_n (seq_ (seq_ (reg_ ?_))))
   refine pure_ (.int .i64 25) ?_
   refine pure_ (.bool true) ?_
   refine nil_ (then_n (cond_T ?_))
   refine seq_ (reg_ ?_)
   refine loadN_ zS48 8 8 (tokC t) zb4 0 ?_
   refine pure_ (.int .i64 25) ?_
   refine store_ zS48 4 (.agg (tokC t)) zb16 0 ?_
   intro zw51 zS52
   refine pure_ (.int .i64 25) ?_
   refine nil_ (then_n (wp_ret (then_r ?_)))
   refine ret_ rfl (res_ [.cell 10 92, .tmp 11] [.agg (tokC t), .int .i64 25] (.tuple #[.agg (tokC t), .int .i64 25]) ⟨res_cellN zS52 4 8 zb16 0, res_tmp, trivial⟩) ?_
   have ze : Sd.Tok.make p t f o th = (t, 25) := by first | rfl | (simp [Sd.Tok.make, zh31, zh42, zh49, zh32, zh50]; done) | (simp [Sd.Tok.make, zh31, zh42, zh49, zh32, zh50]; rfl) | (simp [Sd.Tok.make, zh31, zh42]; simp [Sd.Tok.make, zh31, zh42, zh49, zh32, zh50]; done) | (simp [Sd.Tok.make, zh31, zh42]; simp [Sd.Tok.make, zh31, zh42, zh49, zh32, zh50]; rfl) | (simp [Sd.Tok.make, zh31, zh42, zh49, zh32, zh50]; omega) | (unfold Sd.Tok.make; (repeat' split) <;> first | rfl | assumption | omega | (simp_all; done) | (simp_all; omega))
   exact ⟨by (rw [ze]) <;> rfl, zS52.ch⟩
 intro zh53
 have zh54 := eqF' zh53
 refine wp_skip (blk_n (then_n (reg_ ?_)))
 refine pure_ (.int .i64 3) ?_
 refine pure_ (.int .i64 3) ?_
 refine nil_ (again_ (seq_ (reg_ ?_)))
 refine pure_ (.bool true) ?_
 refine nil_ (then_n (seq_ (cond_T ?_)))
 refine wp_skip (then_n (seq_ (wp_block (seq_ (reg_ ?_)))))
 refine pure_ (.pointer (some ⟨zb19, 6, none⟩)) ?_
 refine loadN_ zS48 3 2 #[.int .i64 2, .func (.func 225) #[] #[.pointer (some ⟨zb10, 0, none⟩), .pointer (some ⟨zb13, 0, none⟩)]] zb19 6 ?_
 refine new_ zS48 (fun b => .pointer (some ⟨b, 0, none⟩)) (.cells #[.int .i64 0, .nilFunc] 328) ?_
 intro zb55 zw56 zS57
 refine store_ zS57 0 (.agg #[.int .i64 2, .func (.func 225) #[] #[.pointer (some ⟨zb10, 0, none⟩), .pointer (some ⟨zb13, 0, none⟩)]]) zb55 0 ?_
 intro zw58 zS59
 refine nil_ (then_n (seq_ (reg_ ?_)))
 refine pure_ (.pointer (some ⟨zb55, 1, none⟩)) ?_
 refine load1_ zS59 0 (.func (.func 225) #[] #[.pointer (some ⟨zb10, 0, none⟩), .pointer (some ⟨zb13, 0, none⟩)]) zb55 1 ?_
 refine call_ 225 #[.pointer (some ⟨zb10, 0, none⟩), .pointer (some ⟨zb13, 0, none⟩)] ?_
 refine enter_ Tryz.func225 rfl ?_
 refine seq_ (reg_ ?_)
 refine pure_ (.bool false) ?_
 refine nil_ (then_n (seq_ (reg_ ?_)))
 refine load1_ zS59 7 (.int .i64 o) zb10 0 ?_
 refine pure_ (.bool (decide (o < 1))) ?_
 refine pure_ (.bool (decide (o < 1))) ?_
 refine slot_ 5 (decide (o < 1)) ?_ ?_
 · intro zh60
   have zh61 := ltT' zh60
   refine skip_ ?_
   refine skip_ ?_
   refine pure_ (.bool true) ?_
   refine pure_ (.bool true) ?_
   refine skip_ ?_
   refine skip_ ?_
   refine pure_ (.bool true) ?_
   refine pure_ (.bool true) ?_
   refine nil_ (then_n (wp_ret ?_))
   refine ret_ rfl (res_ [.tmp 2] [.bool true] (.bool true) ⟨res_tmp, trivial⟩) ?_
   refine nil_ (then_n (cond_T ?_))
   refine seq_ (reg_ ?_)
   refine pure_ (.pointer (some ⟨zb55, 0, none⟩)) ?_
   refine load1_ zS59 0 (.int .i64 2) zb55 0 ?_
   refine pure_ (.int .i64 2) ?_
   refine nil_ (then_n (wp_ret (blk_r (then_r (then_r (blk_r (then_r ?_)))))))
   refine ret_ rfl (res_ [.tmp 2] [.int .i64 2] (.int .i64 2) ⟨res_tmp, trivial⟩) ?_
   refine pure_ (.int .i64 2) ?_
   refine nil_ (then_n (seq_ (seq_ (reg_ ?_))))
   refine pure_ (.int .i64 2) ?_
   refine pure_ (.bool true) ?_
   refine nil_ (then_n (cond_T ?_))
   refine seq_ (reg_ ?_)
   refine loadN_ zS59 9 8 (tokC t) zb4 0 ?_
   refine pure_ (.int .i64 2) ?_
   refine store_ zS59 5 (.agg (tokC t)) zb16 0 ?_
   intro zw62 zS63
   refine pure_ (.int .i64 2) ?_
   refine nil_ (then_n (wp_ret (then_r ?_)))
   refine ret_ rfl (res_ [.cell 10 92, .tmp 11] [.agg (tokC t), .int .i64 2] (.tuple #[.agg (tokC t), .int .i64 2]) ⟨res_cellN zS63 5 8 zb16 0, res_tmp, trivial⟩) ?_
   have ze : Sd.Tok.make p t f o th = (t, 2) := by first | rfl | (simp [Sd.Tok.make, zh31, zh42, zh53, zh60, zh32, zh54]; done) | (simp [Sd.Tok.make, zh31, zh42, zh53, zh60, zh32, zh54]; rfl) | (simp [Sd.Tok.make, zh31, zh42, zh53, zh60]; simp [Sd.Tok.make, zh31, zh42, zh53, zh60, zh32, zh54]; done) | (simp [Sd.Tok.make, zh31, zh42, zh53, zh60]; simp [Sd.Tok.make, zh31, zh42, zh53, zh60, zh32, zh54]; rfl) | (simp [Sd.Tok.make, zh31, zh42, zh53, zh60, zh32, zh54]; omega) | (unfold Sd.Tok.make; (repeat' split) <;> first | rfl | assumption | omega | (simp_all; done) | (simp_all; omega))
   exact ⟨by (rw [ze]) <;> rfl, zS63.ch⟩
 intro zh64
 have zh65 := ltF' zh64
 refine load1_ zS59 7 (.int .i64 o) zb10 0 ?_
 refine pure_ (.bool (decide (3 < o))) ?_
 refine pure_ (.bool (decide (3 < o))) ?_
 refine pure_ (.bool (decide (3 < o))) ?_
 refine slot_ 9 (decide (3 < o)) ?_ ?_
 · intro zh66
   have zh67 := ltT' zh66
   refine skip_ ?_
   refine skip_ ?_
   refine pure_ (.bool true) ?_
   refine pure_ (.bool true) ?_
   refine nil_ (then_n (wp_ret ?_))
   refine ret_ rfl (res_ [.tmp 2] [.bool true] (.bool true) ⟨res_tmp, trivial⟩) ?_
   refine nil_ (then_n (cond_T ?_))
   refine seq_ (reg_ ?_)
   refine pure_ (.pointer (some ⟨zb55, 0, none⟩)) ?_
   refine load1_ zS59 0 (.int .i64 2) zb55 0 ?_
   refine pure_ (.int .i64 2) ?_
   refine nil_ (then_n (wp_ret (blk_r (then_r (then_r (blk_r (then_r ?_)))))))
   refine ret_ rfl (res_ [.tmp 2] [.int .i64 2] (.int .i64 2) ⟨res_tmp, trivial⟩) ?_
   refine pure_ (.int .i64 2) ?_
   refine nil_ (then_n (seq_ (seq_ (reg_ ?_))))
   refine pure_ (.int .i64 2) ?_
   refine pure_ (.bool true) ?_
   refine nil_ (then_n (cond_T ?_))
   refine seq_ (reg_ ?_)
   refine loadN_ zS59 9 8 (tokC t) zb4 0 ?_
   refine pure_ (.int .i64 2) ?_
   refine store_ zS59 5 (.agg (tokC t)) zb16 0 ?_
   intro zw68 zS69
   refine pure_ (.int .i64 2) ?_
   refine nil_ (then_n (wp_ret (then_r ?_)))
   refine ret_ rfl (res_ [.cell 10 92, .tmp 11] [.agg (tokC t), .int .i64 2] (.tuple #[.agg (tokC t), .int .i64 2]) ⟨res_cellN zS69 5 8 zb16 0, res_tmp, trivial⟩) ?_
   have ze : Sd.Tok.make p t f o th = (t, 2) := by first | rfl | (simp [Sd.Tok.make, zh31, zh42, zh53, zh64, zh66, zh32, zh54]; done) | (simp [Sd.Tok.make, zh31, zh42, zh53, zh64, zh66, zh32, zh54]; rfl) | (simp [Sd.Tok.make, zh31, zh42, zh53, zh64, zh66]; simp [Sd.Tok.make, zh31, zh42, zh53, zh64, zh66, zh32, zh54]; done) | (simp [Sd.Tok.make, zh31, zh42, zh53, zh64, zh66]; simp [Sd.Tok.make, zh31, zh42, zh53, zh64, zh66, zh32, zh54]; rfl) | (simp [Sd.Tok.make, zh31, zh42, zh53, zh64, zh66, zh32, zh54]; omega) | (unfold Sd.Tok.make; (repeat' split) <;> first | rfl | assumption | omega | (simp_all; done) | (simp_all; omega))
   exact ⟨by (rw [ze]) <;> rfl, zS69.ch⟩
 intro zh70
 have zh71 := ltF' zh70
 refine load1_ zS59 6 (.bool th) zb13 0 ?_
 refine pure_ (.bool (!th)) ?_
 refine pure_ (.bool (!th)) ?_
 refine pure_ (.bool (!th)) ?_
 refine nil_ (then_n (wp_ret ?_))
 refine ret_ rfl (res_ [.tmp 2] [.bool (!th)] (.bool (!th)) ⟨res_tmp, trivial⟩) ?_
 refine nil_ (then_n ?_)
 refine cond_S (!th) ?_ ?_
 · intro zh72
   have zh73 := notT' zh72
   refine seq_ (reg_ ?_)
   refine pure_ (.pointer (some ⟨zb55, 0, none⟩)) ?_
   refine load1_ zS59 0 (.int .i64 2) zb55 0 ?_
   refine pure_ (.int .i64 2) ?_
   refine nil_ (then_n (wp_ret (blk_r (then_r (then_r (blk_r (then_r ?_)))))))
   refine ret_ rfl (res_ [.tmp 2] [.int .i64 2] (.int .i64 2) ⟨res_tmp, trivial⟩) ?_
   refine pure_ (.int .i64 2) ?_
   refine nil_ (then_n (seq_ (seq_ (reg_ ?_))))
   refine pure_ (.int .i64 2) ?_
   refine pure_ (.bool true) ?_
   refine nil_ (then_n (cond_T ?_))
   refine seq_ (reg_ ?_)
   refine loadN_ zS59 9 8 (tokC t) zb4 0 ?_
   refine pure_ (.int .i64 2) ?_
   refine store_ zS59 5 (.agg (tokC t)) zb16 0 ?_
   intro zw74 zS75
   refine pure_ (.int .i64 2) ?_
   refine nil_ (then_n (wp_ret (then_r ?_)))
   refine ret_ rfl (res_ [.cell 10 92, .tmp 11] [.agg (tokC t), .int .i64 2] (.tuple #[.agg (tokC t), .int .i64 2]) ⟨res_cellN zS75 5 8 zb16 0, res_tmp, trivial⟩) ?_
   have ze : Sd.Tok.make p t f o th = (t, 2) := by first | rfl | (simp [Sd.Tok.make, zh31, zh42, zh53, zh64, zh70, zh72, zh73, zh32, zh54]; done) | (simp [Sd.Tok.make, zh31, zh42, zh53, zh64, zh70, zh72, zh73, zh32, zh54]; rfl) | (simp [Sd.Tok.make, zh31, zh42, zh53, zh64, zh70, zh72, zh73]; simp [Sd.Tok.make, zh31, zh42, zh53, zh64, zh70, zh72, zh73, zh32, zh54]; done) | (simp [Sd.Tok.make, zh31, zh42, zh53, zh64, zh70, zh72, zh73]; simp [Sd.Tok.make, zh31, zh42, zh53, zh64, zh70, zh72, zh73, zh32, zh54]; rfl) | (simp [Sd.Tok.make, zh31, zh42, zh53, zh64, zh70, zh72, zh73, zh32, zh54]; omega) | (unfold Sd.Tok.make; (repeat' split) <;> first | rfl | assumption | omega | (simp_all; done) | (simp_all; omega))
   exact ⟨by (rw [ze]) <;> rfl, zS75.ch⟩
 intro zh76
 have zh77 := notF' zh76
 refine wp_skip (blk_n (then_n (reg_ ?_)))
 refine pure_ (.int .i64 4) ?_
 refine pure_ (.int .i64 4) ?_
 refine nil_ (again_ (seq_ (reg_ ?_)))
 refine pure_ (.bool true) ?_
 refine nil_ (then_n (seq_ (cond_T ?_)))
 refine wp_skip (then_n (seq_ (wp_block (seq_ (reg_ ?_)))))
 refine pure_ (.pointer (some ⟨zb19, 8, none⟩)) ?_
 refine loadN_ zS59 4 2 #[.int .i64 28, .func (.func 226) #[] #[.pointer (some ⟨zb4, 0, none⟩)]] zb19 8 ?_
 refine new_ zS59 (fun b => .pointer (some ⟨b, 0, none⟩)) (.cells #[.int .i64 0, .nilFunc] 328) ?_
 intro zb78 zw79 zS80
 refine store_ zS80 0 (.agg #[.int .i64 28, .func (.func 226) #[] #[.pointer (some ⟨zb4, 0, none⟩)]]) zb78 0 ?_
 intro zw81 zS82
 refine nil_ (then_n (seq_ (reg_ ?_)))
 refine pure_ (.pointer (some ⟨zb78, 1, none⟩)) ?_
 refine load1_ zS82 0 (.func (.func 226) #[] #[.pointer (some ⟨zb4, 0, none⟩)]) zb78 1 ?_
 refine call_ 226 #[.pointer (some ⟨zb4, 0, none⟩)] ?_
 refine enter_ Tryz.func226 rfl ?_
 refine seq_ (reg_ ?_)
 refine pure_ (.bool false) ?_
 refine nil_ (then_n (seq_ (reg_ ?_)))
 refine loadN_ zS82 10 8 (tokC t) zb4 0 ?_
 refine call_ 150 #[.agg (tokC t)] ?_
 refine (open_ t _ ).mono ?_; rintro _ zw83 ⟨rfl, zh84⟩
 have zS85 := zS82.quiet zh84
 refine assign_ ?_
 refine nil_ (then_n (wp_ret ?_))
 refine ret_ rfl (res_ [.tmp 1] [.bool (decide (0 ≤ t.offer))] (.bool (decide (0 ≤ t.offer))) ⟨res_tmp, trivial⟩) ?_
 refine nil_ (then_n ?_)
 refine cond_S (decide (0 ≤ t.offer)) ?_ ?_
 · intro zh86
   have zh87 := leT' zh86
   refine seq_ (reg_ ?_)
   refine pure_ (.pointer (some ⟨zb78, 0, none⟩)) ?_
   refine load1_ zS85 0 (.int .i64 28) zb78 0 ?_
   refine pure_ (.int .i64 28) ?_
   refine nil_ (then_n (wp_ret (blk_r (then_r (then_r (blk_r (then_r ?_)))))))
   refine ret_ rfl (res_ [.tmp 2] [.int .i64 28] (.int .i64 28) ⟨res_tmp, trivial⟩) ?_
   refine pure_ (.int .i64 28) ?_
   refine nil_ (then_n (seq_ (seq_ (reg_ ?_))))
   refine pure_ (.int .i64 28) ?_
   refine pure_ (.bool true) ?_
   refine nil_ (then_n (cond_T ?_))
   refine seq_ (reg_ ?_)
   refine loadN_ zS85 10 8 (tokC t) zb4 0 ?_
   refine pure_ (.int .i64 28) ?_
   refine store_ zS85 6 (.agg (tokC t)) zb16 0 ?_
   intro zw88 zS89
   refine pure_ (.int .i64 28) ?_
   refine nil_ (then_n (wp_ret (then_r ?_)))
   refine ret_ rfl (res_ [.cell 10 92, .tmp 11] [.agg (tokC t), .int .i64 28] (.tuple #[.agg (tokC t), .int .i64 28]) ⟨res_cellN zS89 6 8 zb16 0, res_tmp, trivial⟩) ?_
   have ze : Sd.Tok.make p t f o th = (t, 28) := by first | rfl | (simp [Sd.Tok.make, zh31, zh42, zh53, zh64, zh70, zh76, zh77, zh86, zh32, zh54]; done) | (simp [Sd.Tok.make, zh31, zh42, zh53, zh64, zh70, zh76, zh77, zh86, zh32, zh54]; rfl) | (simp [Sd.Tok.make, zh31, zh42, zh53, zh64, zh70, zh76, zh77, zh86]; simp [Sd.Tok.make, zh31, zh42, zh53, zh64, zh70, zh76, zh77, zh86, zh32, zh54]; done) | (simp [Sd.Tok.make, zh31, zh42, zh53, zh64, zh70, zh76, zh77, zh86]; simp [Sd.Tok.make, zh31, zh42, zh53, zh64, zh70, zh76, zh77, zh86, zh32, zh54]; rfl) | (simp [Sd.Tok.make, zh31, zh42, zh53, zh64, zh70, zh76, zh77, zh86, zh32, zh54]; omega) | (unfold Sd.Tok.make; (repeat' split) <;> first | rfl | assumption | omega | (simp_all; done) | (simp_all; omega))
   exact ⟨by (rw [ze]) <;> rfl, zS89.ch⟩
 intro zh90
 have zh91 := leF' zh90
 refine wp_skip (blk_n (then_n (reg_ ?_)))
 refine pure_ (.int .i64 5) ?_
 refine pure_ (.int .i64 5) ?_
 refine nil_ (again_ (seq_ (reg_ ?_)))
 refine pure_ (.bool false) ?_
 refine nil_ (then_n (seq_ (cond_F ?_)))
 refine wp_exit (then_e (then_e (blk_e (then_n (seq_ (reg_ ?_))))))
 refine pure_ (.int .i64 0) ?_
 refine nil_ (then_n (wp_ret ?_))
 refine ret_ rfl (res_ [.tmp 2] [.int .i64 0] (.int .i64 0) ⟨res_tmp, trivial⟩) ?_
 refine pure_ (.int .i64 0) ?_
 refine nil_ (then_n (seq_ (seq_ (reg_ ?_))))
 refine pure_ (.int .i64 0) ?_
 refine pure_ (.bool false) ?_
 refine nil_ (then_n (cond_F ?_))
 refine wp_skip (then_n (seq_ ?_))
 refine quietL_ 5 [.int .i64 o, .pointer (some ⟨zb1, 44, none⟩), .int .i64 (p.i 44), .agg (timC (Sd.Timer.start (p.i 44))), .pointer (some ⟨zb4, 2, none⟩)] [[5, 0], [5, 3, 2, 1], [5, 3, 2], [5, 3], [5, 4], [6, 0], [6, 1], [6, 2], [6, 3], [6, 4], [6, 5], [7, 0], [7, 1], [7, 2], [7, 3], [7, 4], [7, 5], [7, 6]] (step_cons (qL_ zS85 8 zb10 0) (step_cons qP_ (step_cons (qL_ zS85 11 zb1 44) (step_cons (qC_ 173 #[.int .i64 (p.i 44)] (start_ (p.i 44) (by omega))) (step_cons qP_ (step_nil)))))) ?_
 intro zw92 zh94
 have zS93 := zS85.quiet zh94
 refine store_ zS93 10 (.int .i64 o) zb4 2 ?_
 intro zw95 zS96
 refine pure_ (.pointer (some ⟨zb4, 3, none⟩)) ?_
 refine store_ zS96 10 (.agg (timC (Sd.Timer.start (p.i 44)))) zb4 3 ?_
 intro zw97 zS98
 refine nil_ (then_n (seq_ (reg_ ?_)))
 refine loadN_ zS98 10 8 #[.int .i64 t.holder, .int .i64 t.epoch, .int .i64 o, .int .i64 (Sd.Timer.start (p.i 44)).n, .int .i64 (Sd.Timer.start (p.i 44)).most, .int .i64 t.la.n, .int .i64 t.la.most, .bool t.bad] zb4 0 ?_
 refine store_ zS98 6 (.agg #[.int .i64 t.holder, .int .i64 t.epoch, .int .i64 o, .int .i64 (Sd.Timer.start (p.i 44)).n, .int .i64 (Sd.Timer.start (p.i 44)).most, .int .i64 t.la.n, .int .i64 t.la.most, .bool t.bad]) zb16 0 ?_
 intro zw99 zS100
 refine pure_ (.int .i64 0) ?_
 refine nil_ (then_n (wp_ret ?_))
 refine ret_ rfl (res_ [.cell 10 92, .tmp 11] [.agg #[.int .i64 t.holder, .int .i64 t.epoch, .int .i64 o, .int .i64 (Sd.Timer.start (p.i 44)).n, .int .i64 (Sd.Timer.start (p.i 44)).most, .int .i64 t.la.n, .int .i64 t.la.most, .bool t.bad], .int .i64 0] (.tuple #[.agg #[.int .i64 t.holder, .int .i64 t.epoch, .int .i64 o, .int .i64 (Sd.Timer.start (p.i 44)).n, .int .i64 (Sd.Timer.start (p.i 44)).most, .int .i64 t.la.n, .int .i64 t.la.most, .bool t.bad], .int .i64 0]) ⟨res_cellN zS100 6 8 zb16 0, res_tmp, trivial⟩) ?_
 have ze : Sd.Tok.make p t f o th = ((⟨t.holder, t.epoch, o, (Sd.Timer.start (p.i 44)), t.la, t.bad⟩ : Sd.Tok), 0) := by first | rfl | (simp [Sd.Tok.make, zh31, zh42, zh53, zh64, zh70, zh76, zh77, zh90, zh32, zh54]; done) | (simp [Sd.Tok.make, zh31, zh42, zh53, zh64, zh70, zh76, zh77, zh90, zh32, zh54]; rfl) | (simp [Sd.Tok.make, zh31, zh42, zh53, zh64, zh70, zh76, zh77, zh90]; simp [Sd.Tok.make, zh31, zh42, zh53, zh64, zh70, zh76, zh77, zh90, zh32, zh54]; done) | (simp [Sd.Tok.make, zh31, zh42, zh53, zh64, zh70, zh76, zh77, zh90]; simp [Sd.Tok.make, zh31, zh42, zh53, zh64, zh70, zh76, zh77, zh90, zh32, zh54]; rfl) | (simp [Sd.Tok.make, zh31, zh42, zh53, zh64, zh70, zh76, zh77, zh90, zh32, zh54]; omega) | (unfold Sd.Tok.make; (repeat' split) <;> first | rfl | assumption | omega | (simp_all; done) | (simp_all; omega))
 exact ⟨by (rw [ze]) <;> rfl, zS100.ch⟩

set_option maxRecDepth 100000 in
set_option maxHeartbeats 4000000 in
theorem pset_ (p : Sd.Pol) (ka : Nat → Option Addr) (kn kc : Nat → Nat) (pt : Sd.Point) (c : Int) (y : Sd.X4) (b : Sd.Label) (hp : Sd.PolOK p) (w : World) :
    Gives Tryz.prog 142 #[.agg (polP p ka kn kc), .agg (ptC pt), .int .i64 c, .agg (x4C y), .agg (labC b)] w fun v w1 => v = .agg (ptC (Sd.Point.set p pt c y b)) ∧ Ch [] w w1 := by
 have S0 := St.nil [] w
 refine enter_ Tryz.func142 rfl ?_
 refine seq_ (reg_ ?_)
 refine new_ S0 (fun b => .pointer (some ⟨b, 0, none⟩)) (.cells (polP p ka kn kc) 28) ?_
 intro zb1 zw2 zS3
 refine new_ zS3 (fun b => .pointer (some ⟨b, 0, none⟩)) (.cells (ptC pt) 41) ?_
 intro zb4 zw5 zS6
 refine new_ zS6 (fun b => .pointer (some ⟨b, 0, none⟩)) (.cells (x4C y) 25) ?_
 intro zb7 zw8 zS9
 refine new_ zS9 (fun b => .pointer (some ⟨b, 0, none⟩)) (.cells (labC b) 39) ?_
 intro zb10 zw11 zS12
 refine new_ zS12 (fun b => .pointer (some ⟨b, 0, none⟩)) (.cells #[.int .i64 0, .int .i64 0, .int .i64 0, .int .i64 0, .int .i64 0, .int .i64 0, .int .i64 0, .int .i64 0, .int .i64 0, .int .i64 0, .int .i64 0, .int .i64 0] 41) ?_
 intro zb13 zw14 zS15
 refine nil_ (then_n (seq_ (reg_ ?_)))
 refine pure_ (.int .i64 c) ?_
 refine pure_ (.pointer (some ⟨zb4, 0, none⟩)) ?_
 refine store_ zS15 3 (.int .i64 c) zb4 0 ?_
 intro zw16 zS17
 refine nil_ (then_n (seq_ (reg_ ?_)))
 refine loadN_ zS17 1 3 (labC b) zb10 0 ?_
 refine pure_ (.pointer (some ⟨zb4, 9, none⟩)) ?_
 refine store_ zS17 3 (.agg (labC b)) zb4 9 ?_
 intro zw18 zS19
 refine nil_ (then_n (seq_ (reg_ ?_)))
 refine pure_ (.agg #[.int .i64 0, .int .i64 0, .int .i64 0, .int .i64 0]) ?_
 refine pure_ (.pointer (some ⟨zb4, 1, none⟩)) ?_
 refine store_ zS19 3 (.agg #[.int .i64 0, .int .i64 0, .int .i64 0, .int .i64 0]) zb4 1 ?_
 intro zw20 zS21
 refine nil_ (then_n (seq_ (seq_ (reg_ ?_))))
 refine pure_ (.int .i64 c) ?_
 refine pure_ (.bool (decide (c < 0))) ?_
 refine pure_ (.bool (decide (c < 0))) ?_
 refine slot_ 22 (decide (c < 0)) ?_ ?_
 · intro zh22
   have zh23 := ltT' zh22
   refine skip_ ?_
   refine skip_ ?_
   refine pure_ (.bool true) ?_
   refine nil_ (then_n (cond_T ?_))
   refine seq_ (reg_ ?_)
   refine loadN_ zS21 3 12 #[.int .i64 c, .int .i64 0, .int .i64 0, .int .i64 0, .int .i64 0, .int .i64 pt.now.a, .int .i64 pt.now.b, .int .i64 pt.now.c, .int .i64 pt.now.d, .int .i64 b.rule, .int .i64 b.source, .int .i64 b.seq] zb4 0 ?_
   refine store_ zS21 0 (.agg #[.int .i64 c, .int .i64 0, .int .i64 0, .int .i64 0, .int .i64 0, .int .i64 pt.now.a, .int .i64 pt.now.b, .int .i64 pt.now.c, .int .i64 pt.now.d, .int .i64 b.rule, .int .i64 b.source, .int .i64 b.seq]) zb13 0 ?_
   intro zw24 zS25
   refine nil_ (then_n (wp_ret (then_r ?_)))
   refine ret_ rfl (res_ [.cell 10 41] [.agg #[.int .i64 c, .int .i64 0, .int .i64 0, .int .i64 0, .int .i64 0, .int .i64 pt.now.a, .int .i64 pt.now.b, .int .i64 pt.now.c, .int .i64 pt.now.d, .int .i64 b.rule, .int .i64 b.source, .int .i64 b.seq]] (.agg #[.int .i64 c, .int .i64 0, .int .i64 0, .int .i64 0, .int .i64 0, .int .i64 pt.now.a, .int .i64 pt.now.b, .int .i64 pt.now.c, .int .i64 pt.now.d, .int .i64 b.rule, .int .i64 b.source, .int .i64 b.seq]) ⟨res_cellN zS25 0 12 zb13 0, trivial⟩) ?_
   have ze : Sd.Point.set p pt c y b = (⟨c, (⟨0, 0, 0, 0⟩ : Sd.X4), pt.now, b⟩ : Sd.Point) := by first | rfl | (simp [Sd.Point.set, Sd.X4.map, Sd.X4.zero, Sd.Pol.most, zh22]; done) | (simp [Sd.Point.set, Sd.X4.map, Sd.X4.zero, Sd.Pol.most, zh22]; rfl) | (simp [Sd.Point.set, Sd.X4.map, Sd.X4.zero, Sd.Pol.most, zh22]; simp [Sd.Point.set, Sd.X4.map, Sd.X4.zero, Sd.Pol.most, zh22]; done) | (simp [Sd.Point.set, Sd.X4.map, Sd.X4.zero, Sd.Pol.most, zh22]; simp [Sd.Point.set, Sd.X4.map, Sd.X4.zero, Sd.Pol.most, zh22]; rfl) | (simp [Sd.Point.set, Sd.X4.map, Sd.X4.zero, Sd.Pol.most, zh22]; omega) | (unfold Sd.Point.set; (repeat' split) <;> first | rfl | assumption | omega | (simp_all; done) | (simp_all; omega))
   exact ⟨by (rw [ze]) <;> rfl, zS25.ch⟩
 intro zh26
 have zh27 := ltF' zh26
 refine pure_ (.int .i64 c) ?_
 refine pure_ (.bool (decide (4 ≤ c))) ?_
 refine pure_ (.bool (decide (4 ≤ c))) ?_
 refine nil_ (then_n ?_)
 refine cond_S (decide (4 ≤ c)) ?_ ?_
 · intro zh28
   have zh29 := leT' zh28
   refine seq_ (reg_ ?_)
   refine loadN_ zS21 3 12 #[.int .i64 c, .int .i64 0, .int .i64 0, .int .i64 0, .int .i64 0, .int .i64 pt.now.a, .int .i64 pt.now.b, .int .i64 pt.now.c, .int .i64 pt.now.d, .int .i64 b.rule, .int .i64 b.source, .int .i64 b.seq] zb4 0 ?_
   refine store_ zS21 0 (.agg #[.int .i64 c, .int .i64 0, .int .i64 0, .int .i64 0, .int .i64 0, .int .i64 pt.now.a, .int .i64 pt.now.b, .int .i64 pt.now.c, .int .i64 pt.now.d, .int .i64 b.rule, .int .i64 b.source, .int .i64 b.seq]) zb13 0 ?_
   intro zw30 zS31
   refine nil_ (then_n (wp_ret (then_r ?_)))
   refine ret_ rfl (res_ [.cell 10 41] [.agg #[.int .i64 c, .int .i64 0, .int .i64 0, .int .i64 0, .int .i64 0, .int .i64 pt.now.a, .int .i64 pt.now.b, .int .i64 pt.now.c, .int .i64 pt.now.d, .int .i64 b.rule, .int .i64 b.source, .int .i64 b.seq]] (.agg #[.int .i64 c, .int .i64 0, .int .i64 0, .int .i64 0, .int .i64 0, .int .i64 pt.now.a, .int .i64 pt.now.b, .int .i64 pt.now.c, .int .i64 pt.now.d, .int .i64 b.rule, .int .i64 b.source, .int .i64 b.seq]) ⟨res_cellN zS31 0 12 zb13 0, trivial⟩) ?_
   have ze : Sd.Point.set p pt c y b = (⟨c, (⟨0, 0, 0, 0⟩ : Sd.X4), pt.now, b⟩ : Sd.Point) := by first | rfl | (simp [Sd.Point.set, Sd.X4.map, Sd.X4.zero, Sd.Pol.most, zh26, zh28]; done) | (simp [Sd.Point.set, Sd.X4.map, Sd.X4.zero, Sd.Pol.most, zh26, zh28]; rfl) | (simp [Sd.Point.set, Sd.X4.map, Sd.X4.zero, Sd.Pol.most, zh26, zh28]; simp [Sd.Point.set, Sd.X4.map, Sd.X4.zero, Sd.Pol.most, zh26, zh28]; done) | (simp [Sd.Point.set, Sd.X4.map, Sd.X4.zero, Sd.Pol.most, zh26, zh28]; simp [Sd.Point.set, Sd.X4.map, Sd.X4.zero, Sd.Pol.most, zh26, zh28]; rfl) | (simp [Sd.Point.set, Sd.X4.map, Sd.X4.zero, Sd.Pol.most, zh26, zh28]; omega) | (unfold Sd.Point.set; (repeat' split) <;> first | rfl | assumption | omega | (simp_all; done) | (simp_all; omega))
   exact ⟨by (rw [ze]) <;> rfl, zS31.ch⟩
 intro zh32
 have zh33 := leF' zh32
 refine wp_skip (then_n (seq_ (reg_ ?_)))
 refine pure_ (.int .i64 c) ?_
 refine pure_ (.pointer (some ⟨zb1, 50, none⟩)) ?_
 refine idxA_ zb1 50 (50 + (c).toNat) 4 1 .i64 c (by omega) (by omega) (by omega) ?_ (e := 3)
 have zq := hp.most (c).toNat (by omega); unfold Sd.Pol.most at zq
 refine load1_ zS21 4 (.int .i64 (p.i (50 + (c).toNat))) zb1 (50 + (c).toNat) ?_ (hb := lk_of (wr := true) (t := 28) (fr := (0, 0)) (by kernel_rfl) (polP_at p ka kn kc (50 + (c).toNat) (by omega) (by omega)))
 refine assign_ ?_
 refine nil_ (then_n (seq_ (seq_ (reg_ ?_))))
 refine loadN_ zS21 2 4 (x4C y) zb7 0 ?_
 refine pure_ (.int .i64 0) ?_
 refine nil_ (then_n (wp_block (loop_ 24 (seq_ (reg_ ?_)))))
 refine pure_ (.bool true) ?_
 refine nil_ (then_n (seq_ (cond_T ?_)))
 refine wp_skip (then_n (seq_ (wp_block (seq_ (reg_ ?_)))))
 refine pure_ (.int .i64 0) ?_
 refine pure_ (.int .i64 y.a) ?_
 refine pure_ (.int .i64 0) ?_
 refine pure_ (.int .i64 y.a) ?_
 refine nil_ (then_n (reg_ ?_))
 refine pure_ (.int .i64 0) ?_
 refine pure_ (.int .i64 y.a) ?_
 refine move_ ?_
 refine sum_ .i64 (0 - (p.i (50 + (c).toNat))) (IntWalk.i64_in _ (by omega)) ?_
 refine move_ ?_
 refine call_ 193 #[.int .i64 y.a, .int .i64 (0 - (p.i (50 + (c).toNat))), .int .i64 (p.i (50 + (c).toNat))] ?_
 refine (clamp_ y.a (0 - (p.i (50 + (c).toNat))) (p.i (50 + (c).toNat)) _ ).mono ?_; rintro _ zw34 ⟨rfl, zh35⟩
 have zS36 := zS21.quiet zh35
 refine pure_ (.pointer (some ⟨zb4, 1, none⟩)) ?_
 refine pure_ (.pointer (some ⟨zb4, 1, none⟩)) ?_
 refine store_ zS36 3 (.int .i64 (Sd.clamp y.a (0 - (p.i (50 + (c).toNat))) (p.i (50 + (c).toNat)))) zb4 1 ?_
 intro zw37 zS38
 refine nil_ (blk_n (then_n (reg_ ?_)))
 refine pure_ (.int .i64 1) ?_
 refine pure_ (.int .i64 1) ?_
 refine nil_ (again_ (seq_ (reg_ ?_)))
 refine pure_ (.bool true) ?_
 refine nil_ (then_n (seq_ (cond_T ?_)))
 refine wp_skip (then_n (seq_ (wp_block (seq_ (reg_ ?_)))))
 refine pure_ (.int .i64 1) ?_
 refine pure_ (.int .i64 y.b) ?_
 refine pure_ (.int .i64 1) ?_
 refine pure_ (.int .i64 y.b) ?_
 refine nil_ (then_n (reg_ ?_))
 refine pure_ (.int .i64 1) ?_
 refine pure_ (.int .i64 y.b) ?_
 refine move_ ?_
 refine sum_ .i64 (0 - (p.i (50 + (c).toNat))) (IntWalk.i64_in _ (by omega)) ?_
 refine move_ ?_
 refine call_ 193 #[.int .i64 y.b, .int .i64 (0 - (p.i (50 + (c).toNat))), .int .i64 (p.i (50 + (c).toNat))] ?_
 refine (clamp_ y.b (0 - (p.i (50 + (c).toNat))) (p.i (50 + (c).toNat)) _ ).mono ?_; rintro _ zw39 ⟨rfl, zh40⟩
 have zS41 := zS38.quiet zh40
 refine pure_ (.pointer (some ⟨zb4, 1, none⟩)) ?_
 refine pure_ (.pointer (some ⟨zb4, 2, none⟩)) ?_
 refine store_ zS41 3 (.int .i64 (Sd.clamp y.b (0 - (p.i (50 + (c).toNat))) (p.i (50 + (c).toNat)))) zb4 2 ?_
 intro zw42 zS43
 refine nil_ (blk_n (then_n (reg_ ?_)))
 refine pure_ (.int .i64 2) ?_
 refine pure_ (.int .i64 2) ?_
 refine nil_ (again_ (seq_ (reg_ ?_)))
 refine pure_ (.bool true) ?_
 refine nil_ (then_n (seq_ (cond_T ?_)))
 refine wp_skip (then_n (seq_ (wp_block (seq_ (reg_ ?_)))))
 refine pure_ (.int .i64 2) ?_
 refine pure_ (.int .i64 y.c) ?_
 refine pure_ (.int .i64 2) ?_
 refine pure_ (.int .i64 y.c) ?_
 refine nil_ (then_n (reg_ ?_))
 refine pure_ (.int .i64 2) ?_
 refine pure_ (.int .i64 y.c) ?_
 refine move_ ?_
 refine sum_ .i64 (0 - (p.i (50 + (c).toNat))) (IntWalk.i64_in _ (by omega)) ?_
 refine move_ ?_
 refine call_ 193 #[.int .i64 y.c, .int .i64 (0 - (p.i (50 + (c).toNat))), .int .i64 (p.i (50 + (c).toNat))] ?_
 refine (clamp_ y.c (0 - (p.i (50 + (c).toNat))) (p.i (50 + (c).toNat)) _ ).mono ?_; rintro _ zw44 ⟨rfl, zh45⟩
 have zS46 := zS43.quiet zh45
 refine pure_ (.pointer (some ⟨zb4, 1, none⟩)) ?_
 refine pure_ (.pointer (some ⟨zb4, 3, none⟩)) ?_
 refine store_ zS46 3 (.int .i64 (Sd.clamp y.c (0 - (p.i (50 + (c).toNat))) (p.i (50 + (c).toNat)))) zb4 3 ?_
 intro zw47 zS48
 refine nil_ (blk_n (then_n (reg_ ?_)))
 refine pure_ (.int .i64 3) ?_
 refine pure_ (.int .i64 3) ?_
 refine nil_ (again_ (seq_ (reg_ ?_)))
 refine pure_ (.bool true) ?_
 refine nil_ (then_n (seq_ (cond_T ?_)))
 refine wp_skip (then_n (seq_ (wp_block (seq_ (reg_ ?_)))))
 refine pure_ (.int .i64 3) ?_
 refine pure_ (.int .i64 y.d) ?_
 refine pure_ (.int .i64 3) ?_
 refine pure_ (.int .i64 y.d) ?_
 refine nil_ (then_n (reg_ ?_))
 refine pure_ (.int .i64 3) ?_
 refine pure_ (.int .i64 y.d) ?_
 refine move_ ?_
 refine sum_ .i64 (0 - (p.i (50 + (c).toNat))) (IntWalk.i64_in _ (by omega)) ?_
 refine move_ ?_
 refine call_ 193 #[.int .i64 y.d, .int .i64 (0 - (p.i (50 + (c).toNat))), .int .i64 (p.i (50 + (c).toNat))] ?_
 refine (clamp_ y.d (0 - (p.i (50 + (c).toNat))) (p.i (50 + (c).toNat)) _ ).mono ?_; rintro _ zw49 ⟨rfl, zh50⟩
 have zS51 := zS48.quiet zh50
 refine pure_ (.pointer (some ⟨zb4, 1, none⟩)) ?_
 refine pure_ (.pointer (some ⟨zb4, 4, none⟩)) ?_
 refine store_ zS51 3 (.int .i64 (Sd.clamp y.d (0 - (p.i (50 + (c).toNat))) (p.i (50 + (c).toNat)))) zb4 4 ?_
 intro zw52 zS53
 refine nil_ (blk_n (then_n (reg_ ?_)))
 refine pure_ (.int .i64 4) ?_
 refine pure_ (.int .i64 4) ?_
 refine nil_ (again_ (seq_ (reg_ ?_)))
 refine pure_ (.bool false) ?_
 refine nil_ (then_n (seq_ (cond_F ?_)))
 refine wp_exit (then_e (then_e (blk_e (then_n (seq_ (reg_ ?_))))))
 refine loadN_ zS53 3 12 #[.int .i64 c, .int .i64 (Sd.clamp y.a (0 - (p.i (50 + (c).toNat))) (p.i (50 + (c).toNat))), .int .i64 (Sd.clamp y.b (0 - (p.i (50 + (c).toNat))) (p.i (50 + (c).toNat))), .int .i64 (Sd.clamp y.c (0 - (p.i (50 + (c).toNat))) (p.i (50 + (c).toNat))), .int .i64 (Sd.clamp y.d (0 - (p.i (50 + (c).toNat))) (p.i (50 + (c).toNat))), .int .i64 pt.now.a, .int .i64 pt.now.b, .int .i64 pt.now.c, .int .i64 pt.now.d, .int .i64 b.rule, .int .i64 b.source, .int .i64 b.seq] zb4 0 ?_
 refine store_ zS53 0 (.agg #[.int .i64 c, .int .i64 (Sd.clamp y.a (0 - (p.i (50 + (c).toNat))) (p.i (50 + (c).toNat))), .int .i64 (Sd.clamp y.b (0 - (p.i (50 + (c).toNat))) (p.i (50 + (c).toNat))), .int .i64 (Sd.clamp y.c (0 - (p.i (50 + (c).toNat))) (p.i (50 + (c).toNat))), .int .i64 (Sd.clamp y.d (0 - (p.i (50 + (c).toNat))) (p.i (50 + (c).toNat))), .int .i64 pt.now.a, .int .i64 pt.now.b, .int .i64 pt.now.c, .int .i64 pt.now.d, .int .i64 b.rule, .int .i64 b.source, .int .i64 b.seq]) zb13 0 ?_
 intro zw54 zS55
 refine nil_ (then_n (wp_ret ?_))
 refine ret_ rfl (res_ [.cell 10 41] [.agg #[.int .i64 c, .int .i64 (Sd.clamp y.a (0 - (p.i (50 + (c).toNat))) (p.i (50 + (c).toNat))), .int .i64 (Sd.clamp y.b (0 - (p.i (50 + (c).toNat))) (p.i (50 + (c).toNat))), .int .i64 (Sd.clamp y.c (0 - (p.i (50 + (c).toNat))) (p.i (50 + (c).toNat))), .int .i64 (Sd.clamp y.d (0 - (p.i (50 + (c).toNat))) (p.i (50 + (c).toNat))), .int .i64 pt.now.a, .int .i64 pt.now.b, .int .i64 pt.now.c, .int .i64 pt.now.d, .int .i64 b.rule, .int .i64 b.source, .int .i64 b.seq]] (.agg #[.int .i64 c, .int .i64 (Sd.clamp y.a (0 - (p.i (50 + (c).toNat))) (p.i (50 + (c).toNat))), .int .i64 (Sd.clamp y.b (0 - (p.i (50 + (c).toNat))) (p.i (50 + (c).toNat))), .int .i64 (Sd.clamp y.c (0 - (p.i (50 + (c).toNat))) (p.i (50 + (c).toNat))), .int .i64 (Sd.clamp y.d (0 - (p.i (50 + (c).toNat))) (p.i (50 + (c).toNat))), .int .i64 pt.now.a, .int .i64 pt.now.b, .int .i64 pt.now.c, .int .i64 pt.now.d, .int .i64 b.rule, .int .i64 b.source, .int .i64 b.seq]) ⟨res_cellN zS55 0 12 zb13 0, trivial⟩) ?_
 have ze : Sd.Point.set p pt c y b = (⟨c, (⟨(Sd.clamp y.a (0 - (p.i (50 + (c).toNat))) (p.i (50 + (c).toNat))), (Sd.clamp y.b (0 - (p.i (50 + (c).toNat))) (p.i (50 + (c).toNat))), (Sd.clamp y.c (0 - (p.i (50 + (c).toNat))) (p.i (50 + (c).toNat))), (Sd.clamp y.d (0 - (p.i (50 + (c).toNat))) (p.i (50 + (c).toNat)))⟩ : Sd.X4), pt.now, b⟩ : Sd.Point) := by first | rfl | (simp [Sd.Point.set, Sd.X4.map, Sd.X4.zero, Sd.Pol.most, zh26, zh32]; done) | (simp [Sd.Point.set, Sd.X4.map, Sd.X4.zero, Sd.Pol.most, zh26, zh32]; rfl) | (simp [Sd.Point.set, Sd.X4.map, Sd.X4.zero, Sd.Pol.most, zh26, zh32]; simp [Sd.Point.set, Sd.X4.map, Sd.X4.zero, Sd.Pol.most, zh26, zh32]; done) | (simp [Sd.Point.set, Sd.X4.map, Sd.X4.zero, Sd.Pol.most, zh26, zh32]; simp [Sd.Point.set, Sd.X4.map, Sd.X4.zero, Sd.Pol.most, zh26, zh32]; rfl) | (simp [Sd.Point.set, Sd.X4.map, Sd.X4.zero, Sd.Pol.most, zh26, zh32]; omega) | (unfold Sd.Point.set; (repeat' split) <;> first | rfl | assumption | omega | (simp_all; done) | (simp_all; omega))
 exact ⟨by (rw [ze]) <;> rfl, zS55.ch⟩

set_option maxRecDepth 100000 in
set_option maxHeartbeats 4000000 in
theorem hold_ (pt : Sd.Point) (b : Sd.Label) (w : World) :
    Gives Tryz.prog 147 #[.agg (ptC pt), .agg (labC b)] w fun v w1 => v = .agg (ptC (Sd.Point.hold pt b)) ∧ Ch [] w w1 := by
 have S0 := St.nil [] w
 refine enter_ Tryz.func147 rfl ?_
 refine seq_ (reg_ ?_)
 refine new_ S0 (fun b => .pointer (some ⟨b, 0, none⟩)) (.cells (ptC pt) 41) ?_
 intro zb1 zw2 zS3
 refine new_ zS3 (fun b => .pointer (some ⟨b, 0, none⟩)) (.cells (labC b) 39) ?_
 intro zb4 zw5 zS6
 refine new_ zS6 (fun b => .pointer (some ⟨b, 0, none⟩)) (.cells #[.int .i64 0, .int .i64 0, .int .i64 0, .int .i64 0, .int .i64 0, .int .i64 0, .int .i64 0, .int .i64 0, .int .i64 0, .int .i64 0, .int .i64 0, .int .i64 0] 41) ?_
 intro zb7 zw8 zS9
 refine nil_ (then_n (seq_ (reg_ ?_)))
 refine pure_ (.agg #[.int .i64 0, .int .i64 0, .int .i64 0, .int .i64 0]) ?_
 refine pure_ (.pointer (some ⟨zb1, 1, none⟩)) ?_
 refine store_ zS9 2 (.agg #[.int .i64 0, .int .i64 0, .int .i64 0, .int .i64 0]) zb1 1 ?_
 intro zw10 zS11
 refine nil_ (then_n (seq_ (reg_ ?_)))
 refine loadN_ zS11 1 3 (labC b) zb4 0 ?_
 refine pure_ (.pointer (some ⟨zb1, 9, none⟩)) ?_
 refine store_ zS11 2 (.agg (labC b)) zb1 9 ?_
 intro zw12 zS13
 refine nil_ (then_n (seq_ (reg_ ?_)))
 refine loadN_ zS13 2 12 #[.int .i64 pt.cls, .int .i64 0, .int .i64 0, .int .i64 0, .int .i64 0, .int .i64 pt.now.a, .int .i64 pt.now.b, .int .i64 pt.now.c, .int .i64 pt.now.d, .int .i64 b.rule, .int .i64 b.source, .int .i64 b.seq] zb1 0 ?_
 refine store_ zS13 0 (.agg #[.int .i64 pt.cls, .int .i64 0, .int .i64 0, .int .i64 0, .int .i64 0, .int .i64 pt.now.a, .int .i64 pt.now.b, .int .i64 pt.now.c, .int .i64 pt.now.d, .int .i64 b.rule, .int .i64 b.source, .int .i64 b.seq]) zb7 0 ?_
 intro zw14 zS15
 refine nil_ (then_n (wp_ret ?_))
 refine ret_ rfl (res_ [.cell 4 41] [.agg #[.int .i64 pt.cls, .int .i64 0, .int .i64 0, .int .i64 0, .int .i64 0, .int .i64 pt.now.a, .int .i64 pt.now.b, .int .i64 pt.now.c, .int .i64 pt.now.d, .int .i64 b.rule, .int .i64 b.source, .int .i64 b.seq]] (.agg #[.int .i64 pt.cls, .int .i64 0, .int .i64 0, .int .i64 0, .int .i64 0, .int .i64 pt.now.a, .int .i64 pt.now.b, .int .i64 pt.now.c, .int .i64 pt.now.d, .int .i64 b.rule, .int .i64 b.source, .int .i64 b.seq]) ⟨res_cellN zS15 0 12 zb7 0, trivial⟩) ?_
 have ze : Sd.Point.hold pt b = (⟨pt.cls, (⟨0, 0, 0, 0⟩ : Sd.X4), pt.now, b⟩ : Sd.Point) := by first | rfl | (simp []; done) | (simp []; rfl) | (simp []; simp []; done) | (simp []; simp []; rfl) | (simp []; omega) | (unfold Sd.sat; (repeat' split) <;> first | rfl | assumption | omega | (simp_all; done) | (simp_all; omega))
 exact ⟨by (rw [ze]) <;> rfl, zS15.ch⟩

set_option maxRecDepth 100000 in
set_option maxHeartbeats 4000000 in
theorem beyond_ (m : Int) (y : Sd.X4) (hm : 0 ≤ m ∧ m ≤ 1000) (w : World) :
    Gives Tryz.prog 139 #[.int .i64 m, .agg (x4C y)] w fun v w1 => v = .bool (Sd.far m y) ∧ Ch [] w w1 := by
 have S0 := St.nil [] w
 refine enter_ Tryz.func139 rfl ?_
 refine seq_ (reg_ ?_)
 refine new_ S0 (fun b => .pointer (some ⟨b, 0, none⟩)) (.cells (x4C y) 25) ?_
 intro zb1 zw2 zS3
 refine pure_ (.bool false) ?_
 refine nil_ (then_n (seq_ (seq_ (reg_ ?_))))
 refine loadN_ zS3 0 4 (x4C y) zb1 0 ?_
 refine pure_ (.int .i64 0) ?_
 refine nil_ (then_n (wp_block (loop_ 24 (seq_ (reg_ ?_)))))
 refine pure_ (.bool true) ?_
 refine nil_ (then_n (seq_ (cond_T ?_)))
 refine wp_skip (then_n (seq_ (wp_block (seq_ (reg_ ?_)))))
 refine pure_ (.int .i64 y.a) ?_
 refine pure_ (.int .i64 y.a) ?_
 refine nil_ (then_n (seq_ (reg_ ?_)))
 refine pure_ (.int .i64 y.a) ?_
 refine pure_ (.int .i64 m) ?_
 refine sum_ .i64 (0 - m) (IntWalk.i64_in _ (by omega)) ?_
 refine pure_ (.bool (decide (y.a < (0 - m)))) ?_
 refine move_ ?_
 refine slot_ 15 (decide (y.a < (0 - m))) ?_ ?_
 · intro zh4
   have zh5 := ltT' zh4
   refine skip_ ?_
   refine skip_ ?_
   refine skip_ ?_
   refine pure_ (.bool true) ?_
   refine nil_ (then_n (cond_T ?_))
   refine seq_ (reg_ ?_)
   refine pure_ (.bool true) ?_
   refine nil_ (then_n (wp_ret (blk_r (then_r (then_r (blk_r (then_r ?_)))))))
   refine ret_ rfl (res_ [.tmp 4] [.bool true] (.bool true) ⟨res_tmp, trivial⟩) ?_
   exact ⟨congrArg Value.bool (by first | rfl | (unfold Sd.far; simp [zh4]; done) | (simp [Sd.far, zh4]; done) | (simp [Sd.far]; omega) | (simp_all [Sd.far]; omega)), zS3.ch⟩
 intro zh6
 have zh7 := ltF' zh6
 refine pure_ (.int .i64 y.a) ?_
 refine pure_ (.int .i64 m) ?_
 refine pure_ (.bool (decide (m < y.a))) ?_
 refine pure_ (.bool (decide (m < y.a))) ?_
 refine nil_ (then_n ?_)
 refine cond_S (decide (m < y.a)) ?_ ?_
 · intro zh8
   have zh9 := ltT' zh8
   refine seq_ (reg_ ?_)
   refine pure_ (.bool true) ?_
   refine nil_ (then_n (wp_ret (blk_r (then_r (then_r (blk_r (then_r ?_)))))))
   refine ret_ rfl (res_ [.tmp 4] [.bool true] (.bool true) ⟨res_tmp, trivial⟩) ?_
   exact ⟨congrArg Value.bool (by first | rfl | (unfold Sd.far; simp [zh6, zh8]; done) | (simp [Sd.far, zh6, zh8]; done) | (simp [Sd.far]; omega) | (simp_all [Sd.far]; omega)), zS3.ch⟩
 intro zh10
 have zh11 := ltF' zh10
 refine wp_skip (blk_n (then_n (reg_ ?_)))
 refine pure_ (.int .i64 1) ?_
 refine pure_ (.int .i64 1) ?_
 refine nil_ (again_ (seq_ (reg_ ?_)))
 refine pure_ (.bool true) ?_
 refine nil_ (then_n (seq_ (cond_T ?_)))
 refine wp_skip (then_n (seq_ (wp_block (seq_ (reg_ ?_)))))
 refine pure_ (.int .i64 y.b) ?_
 refine pure_ (.int .i64 y.b) ?_
 refine nil_ (then_n (seq_ (reg_ ?_)))
 refine pure_ (.int .i64 y.b) ?_
 refine pure_ (.int .i64 m) ?_
 refine sum_ .i64 (0 - m) (IntWalk.i64_in _ (by omega)) ?_
 refine pure_ (.bool (decide (y.b < (0 - m)))) ?_
 refine move_ ?_
 refine slot_ 15 (decide (y.b < (0 - m))) ?_ ?_
 · intro zh12
   have zh13 := ltT' zh12
   refine skip_ ?_
   refine skip_ ?_
   refine skip_ ?_
   refine pure_ (.bool true) ?_
   refine nil_ (then_n (cond_T ?_))
   refine seq_ (reg_ ?_)
   refine pure_ (.bool true) ?_
   refine nil_ (then_n (wp_ret (blk_r (then_r (then_r (blk_r (then_r ?_)))))))
   refine ret_ rfl (res_ [.tmp 4] [.bool true] (.bool true) ⟨res_tmp, trivial⟩) ?_
   exact ⟨congrArg Value.bool (by first | rfl | (unfold Sd.far; simp [zh6, zh10, zh12]; done) | (simp [Sd.far, zh6, zh10, zh12]; done) | (simp [Sd.far]; omega) | (simp_all [Sd.far]; omega)), zS3.ch⟩
 intro zh14
 have zh15 := ltF' zh14
 refine pure_ (.int .i64 y.b) ?_
 refine pure_ (.int .i64 m) ?_
 refine pure_ (.bool (decide (m < y.b))) ?_
 refine pure_ (.bool (decide (m < y.b))) ?_
 refine nil_ (then_n ?_)
 refine cond_S (decide (m < y.b)) ?_ ?_
 · intro zh16
   have zh17 := ltT' zh16
   refine seq_ (reg_ ?_)
   refine pure_ (.bool true) ?_
   refine nil_ (then_n (wp_ret (blk_r (then_r (then_r (blk_r (then_r ?_)))))))
   refine ret_ rfl (res_ [.tmp 4] [.bool true] (.bool true) ⟨res_tmp, trivial⟩) ?_
   exact ⟨congrArg Value.bool (by first | rfl | (unfold Sd.far; simp [zh6, zh10, zh14, zh16]; done) | (simp [Sd.far, zh6, zh10, zh14, zh16]; done) | (simp [Sd.far]; omega) | (simp_all [Sd.far]; omega)), zS3.ch⟩
 intro zh18
 have zh19 := ltF' zh18
 refine wp_skip (blk_n (then_n (reg_ ?_)))
 refine pure_ (.int .i64 2) ?_
 refine pure_ (.int .i64 2) ?_
 refine nil_ (again_ (seq_ (reg_ ?_)))
 refine pure_ (.bool true) ?_
 refine nil_ (then_n (seq_ (cond_T ?_)))
 refine wp_skip (then_n (seq_ (wp_block (seq_ (reg_ ?_)))))
 refine pure_ (.int .i64 y.c) ?_
 refine pure_ (.int .i64 y.c) ?_
 refine nil_ (then_n (seq_ (reg_ ?_)))
 refine pure_ (.int .i64 y.c) ?_
 refine pure_ (.int .i64 m) ?_
 refine sum_ .i64 (0 - m) (IntWalk.i64_in _ (by omega)) ?_
 refine pure_ (.bool (decide (y.c < (0 - m)))) ?_
 refine move_ ?_
 refine slot_ 15 (decide (y.c < (0 - m))) ?_ ?_
 · intro zh20
   have zh21 := ltT' zh20
   refine skip_ ?_
   refine skip_ ?_
   refine skip_ ?_
   refine pure_ (.bool true) ?_
   refine nil_ (then_n (cond_T ?_))
   refine seq_ (reg_ ?_)
   refine pure_ (.bool true) ?_
   refine nil_ (then_n (wp_ret (blk_r (then_r (then_r (blk_r (then_r ?_)))))))
   refine ret_ rfl (res_ [.tmp 4] [.bool true] (.bool true) ⟨res_tmp, trivial⟩) ?_
   exact ⟨congrArg Value.bool (by first | rfl | (unfold Sd.far; simp [zh6, zh10, zh14, zh18, zh20]; done) | (simp [Sd.far, zh6, zh10, zh14, zh18, zh20]; done) | (simp [Sd.far]; omega) | (simp_all [Sd.far]; omega)), zS3.ch⟩
 intro zh22
 have zh23 := ltF' zh22
 refine pure_ (.int .i64 y.c) ?_
 refine pure_ (.int .i64 m) ?_
 refine pure_ (.bool (decide (m < y.c))) ?_
 refine pure_ (.bool (decide (m < y.c))) ?_
 refine nil_ (then_n ?_)
 refine cond_S (decide (m < y.c)) ?_ ?_
 · intro zh24
   have zh25 := ltT' zh24
   refine seq_ (reg_ ?_)
   refine pure_ (.bool true) ?_
   refine nil_ (then_n (wp_ret (blk_r (then_r (then_r (blk_r (then_r ?_)))))))
   refine ret_ rfl (res_ [.tmp 4] [.bool true] (.bool true) ⟨res_tmp, trivial⟩) ?_
   exact ⟨congrArg Value.bool (by first | rfl | (unfold Sd.far; simp [zh6, zh10, zh14, zh18, zh22, zh24]; done) | (simp [Sd.far, zh6, zh10, zh14, zh18, zh22, zh24]; done) | (simp [Sd.far]; omega) | (simp_all [Sd.far]; omega)), zS3.ch⟩
 intro zh26
 have zh27 := ltF' zh26
 refine wp_skip (blk_n (then_n (reg_ ?_)))
 refine pure_ (.int .i64 3) ?_
 refine pure_ (.int .i64 3) ?_
 refine nil_ (again_ (seq_ (reg_ ?_)))
 refine pure_ (.bool true) ?_
 refine nil_ (then_n (seq_ (cond_T ?_)))
 refine wp_skip (then_n (seq_ (wp_block (seq_ (reg_ ?_)))))
 refine pure_ (.int .i64 y.d) ?_
 refine pure_ (.int .i64 y.d) ?_
 refine nil_ (then_n (seq_ (reg_ ?_)))
 refine pure_ (.int .i64 y.d) ?_
 refine pure_ (.int .i64 m) ?_
 refine sum_ .i64 (0 - m) (IntWalk.i64_in _ (by omega)) ?_
 refine pure_ (.bool (decide (y.d < (0 - m)))) ?_
 refine move_ ?_
 refine slot_ 15 (decide (y.d < (0 - m))) ?_ ?_
 · intro zh28
   have zh29 := ltT' zh28
   refine skip_ ?_
   refine skip_ ?_
   refine skip_ ?_
   refine pure_ (.bool true) ?_
   refine nil_ (then_n (cond_T ?_))
   refine seq_ (reg_ ?_)
   refine pure_ (.bool true) ?_
   refine nil_ (then_n (wp_ret (blk_r (then_r (then_r (blk_r (then_r ?_)))))))
   refine ret_ rfl (res_ [.tmp 4] [.bool true] (.bool true) ⟨res_tmp, trivial⟩) ?_
   exact ⟨congrArg Value.bool (by first | rfl | (unfold Sd.far; simp [zh6, zh10, zh14, zh18, zh22, zh26, zh28]; done) | (simp [Sd.far, zh6, zh10, zh14, zh18, zh22, zh26, zh28]; done) | (simp [Sd.far]; omega) | (simp_all [Sd.far]; omega)), zS3.ch⟩
 intro zh30
 have zh31 := ltF' zh30
 refine pure_ (.int .i64 y.d) ?_
 refine pure_ (.int .i64 m) ?_
 refine pure_ (.bool (decide (m < y.d))) ?_
 refine pure_ (.bool (decide (m < y.d))) ?_
 refine nil_ (then_n ?_)
 refine cond_S (decide (m < y.d)) ?_ ?_
 · intro zh32
   have zh33 := ltT' zh32
   refine seq_ (reg_ ?_)
   refine pure_ (.bool true) ?_
   refine nil_ (then_n (wp_ret (blk_r (then_r (then_r (blk_r (then_r ?_)))))))
   refine ret_ rfl (res_ [.tmp 4] [.bool true] (.bool true) ⟨res_tmp, trivial⟩) ?_
   exact ⟨congrArg Value.bool (by first | rfl | (unfold Sd.far; simp [zh6, zh10, zh14, zh18, zh22, zh26, zh30, zh32]; done) | (simp [Sd.far, zh6, zh10, zh14, zh18, zh22, zh26, zh30, zh32]; done) | (simp [Sd.far]; omega) | (simp_all [Sd.far]; omega)), zS3.ch⟩
 intro zh34
 have zh35 := ltF' zh34
 refine wp_skip (blk_n (then_n (reg_ ?_)))
 refine pure_ (.int .i64 4) ?_
 refine pure_ (.int .i64 4) ?_
 refine nil_ (again_ (seq_ (reg_ ?_)))
 refine pure_ (.bool false) ?_
 refine nil_ (then_n (seq_ (cond_F ?_)))
 refine wp_exit (then_e (then_e (blk_e (then_n (seq_ (reg_ ?_))))))
 refine pure_ (.bool false) ?_
 refine nil_ (then_n (wp_ret ?_))
 refine ret_ rfl (res_ [.tmp 4] [.bool false] (.bool false) ⟨res_tmp, trivial⟩) ?_
 exact ⟨congrArg Value.bool (by first | rfl | (unfold Sd.far; simp [zh6, zh10, zh14, zh18, zh22, zh26, zh30, zh34]; done) | (simp [Sd.far, zh6, zh10, zh14, zh18, zh22, zh26, zh30, zh34]; done) | (simp [Sd.far]; omega) | (simp_all [Sd.far]; omega)), zS3.ch⟩

set_option maxRecDepth 100000 in
set_option maxHeartbeats 4000000 in
theorem see_ (p : Sd.Pol) (ka : Nat → Option Addr) (kn kc : Nat → Nat) (r : Int) (s : Sd.Sample) (hp : Sd.PolOK p) (h_r : -9223372036854775808 ≤ r ∧ r ≤ 9223372036854775807) (w : World) :
    Gives Tryz.prog 97 #[.agg (polP p ka kn kc), .int .i64 r, .agg (smpC s)] w fun v w1 => v = .tuple #[.int .i64 ((Sd.see p r s).1), .bool ((Sd.see p r s).2)] ∧ Ch [] w w1 := by
 have hq46 := hp.stick; unfold Sd.Pol.stick at hq46
 have hq47 := hp.beyond; unfold Sd.Pol.beyond at hq47
 have S0 := St.nil [] w
 refine enter_ Tryz.func97 rfl ?_
 refine seq_ (reg_ ?_)
 refine new_ S0 (fun b => .pointer (some ⟨b, 0, none⟩)) (.cells (polP p ka kn kc) 28) ?_
 intro zb1 zw2 zS3
 refine new_ zS3 (fun b => .pointer (some ⟨b, 0, none⟩)) (.cells (smpC s) 64) ?_
 intro zb4 zw5 zS6
 refine pure_ (.int .i64 0) ?_
 refine pure_ (.bool false) ?_
 refine nil_ (then_n (seq_ (seq_ (reg_ ?_))))
 refine pure_ (.pointer (some ⟨zb4, 0, none⟩)) ?_
 refine load1_ zS6 0 (.bool s.valid) zb4 0 ?_
 refine pure_ (.bool (!s.valid)) ?_
 refine pure_ (.bool (!s.valid)) ?_
 refine slot_ 11 (!s.valid) ?_ ?_
 · intro zh7
   have zh8 := notT' zh7
   refine skip_ ?_
   refine skip_ ?_
   refine skip_ ?_
   refine skip_ ?_
   refine skip_ ?_
   refine skip_ ?_
   refine pure_ (.bool true) ?_
   refine nil_ (then_n (cond_T ?_))
   refine seq_ (reg_ ?_)
   refine pure_ (.int .i64 0) ?_
   refine pure_ (.bool false) ?_
   refine nil_ (then_n (wp_ret (then_r ?_)))
   refine ret_ rfl (res_ [.tmp 6, .tmp 7] [.int .i64 0, .bool false] (.tuple #[.int .i64 0, .bool false]) ⟨res_tmp, res_tmp, trivial⟩) ?_
   have ze : Sd.see p r s = (0, false) := by first | rfl | (simp [Sd.see, Sd.Pol.stick, Sd.Pol.beyond, zh7, zh8]; done) | (simp [Sd.see, Sd.Pol.stick, Sd.Pol.beyond, zh7, zh8]; rfl) | (simp [Sd.see, Sd.Pol.stick, Sd.Pol.beyond, zh7, zh8]; simp [Sd.see, Sd.Pol.stick, Sd.Pol.beyond, zh7, zh8]; done) | (simp [Sd.see, Sd.Pol.stick, Sd.Pol.beyond, zh7, zh8]; simp [Sd.see, Sd.Pol.stick, Sd.Pol.beyond, zh7, zh8]; rfl) | (simp [Sd.see, Sd.Pol.stick, Sd.Pol.beyond, zh7, zh8]; omega) | (unfold Sd.see; (repeat' split) <;> first | rfl | assumption | omega | (simp_all; done) | (simp_all; omega))
   exact ⟨by (rw [ze]) <;> rfl, zS6.ch⟩
 intro zh9
 have zh10 := notF' zh9
 refine pure_ (.pointer (some ⟨zb1, 47, none⟩)) ?_
 refine load1_ zS6 1 (.int .i64 (p.i 47)) zb1 47 ?_
 refine pure_ (.pointer (some ⟨zb4, 1, none⟩)) ?_
 refine loadN_ zS6 0 4 (x4C s.x) zb4 1 ?_
 refine call_ 139 #[.int .i64 (p.i 47), .agg (x4C s.x)] ?_
 refine (beyond_ (p.i 47) s.x (by omega) _ ).mono ?_; rintro _ zw11 ⟨rfl, zh12⟩
 have zS13 := zS6.quiet zh12
 refine pure_ (.bool (!(Sd.far (p.i 47) s.x))) ?_
 refine pure_ (.bool (!(Sd.far (p.i 47) s.x))) ?_
 refine nil_ (then_n ?_)
 refine cond_S (!(Sd.far (p.i 47) s.x)) ?_ ?_
 · intro zh14
   have zh15 := notT' zh14
   refine seq_ (reg_ ?_)
   refine pure_ (.int .i64 0) ?_
   refine pure_ (.bool false) ?_
   refine nil_ (then_n (wp_ret (then_r ?_)))
   refine ret_ rfl (res_ [.tmp 6, .tmp 7] [.int .i64 0, .bool false] (.tuple #[.int .i64 0, .bool false]) ⟨res_tmp, res_tmp, trivial⟩) ?_
   have ze : Sd.see p r s = (0, false) := by first | rfl | (simp [Sd.see, Sd.Pol.stick, Sd.Pol.beyond, zh9, zh10, zh14, zh15]; done) | (simp [Sd.see, Sd.Pol.stick, Sd.Pol.beyond, zh9, zh10, zh14, zh15]; rfl) | (simp [Sd.see, Sd.Pol.stick, Sd.Pol.beyond, zh9, zh10, zh14, zh15]; simp [Sd.see, Sd.Pol.stick, Sd.Pol.beyond, zh9, zh10, zh14, zh15]; done) | (simp [Sd.see, Sd.Pol.stick, Sd.Pol.beyond, zh9, zh10, zh14, zh15]; simp [Sd.see, Sd.Pol.stick, Sd.Pol.beyond, zh9, zh10, zh14, zh15]; rfl) | (simp [Sd.see, Sd.Pol.stick, Sd.Pol.beyond, zh9, zh10, zh14, zh15]; omega) | (unfold Sd.see; (repeat' split) <;> first | rfl | assumption | omega | (simp_all; done) | (simp_all; omega))
   exact ⟨by (rw [ze]) <;> rfl, zS13.ch⟩
 intro zh16
 have zh17 := notF' zh16
 refine wp_skip (then_n (seq_ (reg_ ?_)))
 refine pure_ (.int .i64 r) ?_
 refine pure_ (.int .i64 (if r < 0 then 0 else r)) ?_
 have zh18 : (r ≤ (if r < 0 then 0 else r) ∧ 0 ≤ (if r < 0 then 0 else r)) ∧ ((if r < 0 then 0 else r) = r ∨ (if r < 0 then 0 else r) = 0) := by split <;> omega
 generalize (if r < 0 then 0 else r) = zm19 at *
 have zh20 : zm19 = max r 0 := by omega
 refine pure_ (.pointer (some ⟨zb1, 46, none⟩)) ?_
 refine load1_ zS13 1 (.int .i64 (p.i 46)) zb1 46 ?_
 refine call_ 95 #[.int .i64 zm19, .int .i64 (p.i 46)] ?_
 refine (sat_ zm19 (p.i 46) (by omega) (by omega) _ ).mono ?_; rintro _ zw21 ⟨rfl, zh22⟩
 have zS23 := zS13.quiet zh22
 refine assign_ ?_
 refine nil_ (then_n (seq_ ?_))
 refine quietL_ 6 [.int .i64 (Sd.sat zm19 (p.i 46)), .int .i64 (Sd.sat zm19 (p.i 46)), .pointer (some ⟨zb1, 46, none⟩), .int .i64 (p.i 46), .bool (decide ((p.i 46) ≤ (Sd.sat zm19 (p.i 46)))), .int .i64 (Sd.sat zm19 (p.i 46))] [[6, 0], [6, 1], [6, 2], [6, 3], [6, 4], [6, 5]] (step_cons qP_ (step_cons qP_ (step_cons qP_ (step_cons (qL_ zS23 1 zb1 46) (step_cons qP_ (step_cons qP_ (step_nil))))))) ?_
 intro zw24 zh26
 have zS25 := zS23.quiet zh26
 refine assign_ ?_
 refine nil_ (then_n (wp_ret ?_))
 refine ret_ rfl (res_ [.tmp 6, .tmp 7] [.int .i64 (Sd.sat zm19 (p.i 46)), .bool (decide ((p.i 46) ≤ (Sd.sat zm19 (p.i 46))))] (.tuple #[.int .i64 (Sd.sat zm19 (p.i 46)), .bool (decide ((p.i 46) ≤ (Sd.sat zm19 (p.i 46))))]) ⟨res_tmp, res_tmp, trivial⟩) ?_
 have ze : Sd.see p r s = ((Sd.sat zm19 (p.i 46)), (decide ((p.i 46) ≤ (Sd.sat zm19 (p.i 46))))) := by first | rfl | (simp [Sd.see, Sd.Pol.stick, Sd.Pol.beyond, zh9, zh10, zh16, zh17, zh20]; done) | (simp [Sd.see, Sd.Pol.stick, Sd.Pol.beyond, zh9, zh10, zh16, zh17, zh20]; rfl) | (simp [Sd.see, Sd.Pol.stick, Sd.Pol.beyond, zh9, zh10, zh16, zh17]; simp [Sd.see, Sd.Pol.stick, Sd.Pol.beyond, zh9, zh10, zh16, zh17, zh20]; done) | (simp [Sd.see, Sd.Pol.stick, Sd.Pol.beyond, zh9, zh10, zh16, zh17]; simp [Sd.see, Sd.Pol.stick, Sd.Pol.beyond, zh9, zh10, zh16, zh17, zh20]; rfl) | (simp [Sd.see, Sd.Pol.stick, Sd.Pol.beyond, zh9, zh10, zh16, zh17, zh20]; omega) | (unfold Sd.see; (repeat' split) <;> first | rfl | assumption | omega | (simp_all; done) | (simp_all; omega))
 exact ⟨by (rw [ze]) <;> rfl, zS25.ch⟩

set_option maxRecDepth 100000 in
set_option maxHeartbeats 4000000 in
theorem pstep_ (p : Sd.Pol) (ka : Nat → Option Addr) (kn kc : Nat → Nat) (pt : Sd.Point) (hp : Sd.PolOK p) (h_pt_to__a : -9223372036854775808 ≤ pt.to_.a ∧ pt.to_.a ≤ 9223372036854775807) (h_pt_to__b : -9223372036854775808 ≤ pt.to_.b ∧ pt.to_.b ≤ 9223372036854775807) (h_pt_to__c : -9223372036854775808 ≤ pt.to_.c ∧ pt.to_.c ≤ 9223372036854775807) (h_pt_to__d : -9223372036854775808 ≤ pt.to_.d ∧ pt.to_.d ≤ 9223372036854775807) (h_pt_now_a : -9223372036854775808 ≤ pt.now.a ∧ pt.now.a ≤ 9223372036854775807) (h_pt_now_b : -9223372036854775808 ≤ pt.now.b ∧ pt.now.b ≤ 9223372036854775807) (h_pt_now_c : -9223372036854775808 ≤ pt.now.c ∧ pt.now.c ≤ 9223372036854775807) (h_pt_now_d : -9223372036854775808 ≤ pt.now.d ∧ pt.now.d ≤ 9223372036854775807) (w : World) :
    Gives Tryz.prog 112 #[.agg (polP p ka kn kc), .agg (ptC pt)] w fun v w1 => v = .agg (ptC (Sd.Point.step p pt)) ∧ Ch [] w w1 := by
 have hq54 := hp.rate; unfold Sd.Pol.rate at hq54
 have S0 := St.nil [] w
 refine enter_ Tryz.func112 rfl ?_
 refine seq_ (reg_ ?_)
 refine new_ S0 (fun b => .pointer (some ⟨b, 0, none⟩)) (.cells (polP p ka kn kc) 28) ?_
 intro zb1 zw2 zS3
 refine new_ zS3 (fun b => .pointer (some ⟨b, 0, none⟩)) (.cells (ptC pt) 41) ?_
 intro zb4 zw5 zS6
 refine new_ zS6 (fun b => .pointer (some ⟨b, 0, none⟩)) (.cells #[.int .i64 0, .int .i64 0, .int .i64 0, .int .i64 0, .int .i64 0, .int .i64 0, .int .i64 0, .int .i64 0, .int .i64 0, .int .i64 0, .int .i64 0, .int .i64 0] 41) ?_
 intro zb7 zw8 zS9
 refine nil_ (then_n (seq_ (reg_ ?_)))
 refine pure_ (.pointer (some ⟨zb4, 5, none⟩)) ?_
 refine loadN_ zS9 1 4 (x4C pt.now) zb4 5 ?_
 refine new_ zS9 (fun b => .pointer (some ⟨b, 0, none⟩)) (.cells #[.int .i64 0, .int .i64 0, .int .i64 0, .int .i64 0] 25) ?_
 intro zb10 zw11 zS12
 refine store_ zS12 0 (.agg (x4C pt.now)) zb10 0 ?_
 intro zw13 zS14
 refine nil_ (then_n (seq_ (seq_ (reg_ ?_))))
 refine pure_ (.pointer (some ⟨zb4, 1, none⟩)) ?_
 refine loadN_ zS14 2 4 (x4C pt.to_) zb4 1 ?_
 refine pure_ (.int .i64 0) ?_
 refine nil_ (then_n (wp_block (loop_ 24 (seq_ (reg_ ?_)))))
 refine pure_ (.bool true) ?_
 refine nil_ (then_n (seq_ (cond_T ?_)))
 refine wp_skip (then_n (seq_ (wp_block (seq_ (reg_ ?_)))))
 refine pure_ (.int .i64 0) ?_
 refine pure_ (.int .i64 pt.to_.a) ?_
 refine pure_ (.int .i64 0) ?_
 refine pure_ (.int .i64 pt.to_.a) ?_
 refine nil_ (then_n ?_)
 refine quietL_ 9 [.int .i64 0, .int .i64 0, .pointer (some ⟨zb10, 0, none⟩), .int .i64 pt.now.a, .int .i64 pt.to_.a, .pointer (some ⟨zb1, 54, none⟩), .int .i64 (p.i 54), .int .i64 (Sd.toward pt.now.a pt.to_.a (p.i 54)), .pointer (some ⟨zb4, 5, none⟩)] [[9, 0], [9, 1], [9, 2], [9, 3], [9, 4], [9, 5], [9, 6], [9, 7], [9, 8], [10, 0], [10, 1], [10, 2], [10, 3], [10, 4], [10, 5], [10, 6], [10, 7], [10, 9, 8], [10, 9]] (step_cons qP_ (step_cons qP_ (step_cons qP_ (step_cons (qL_ zS14 0 zb10 0) (step_cons qP_ (step_cons qP_ (step_cons (qL_ zS14 3 zb1 54) (step_cons (qC_ 155 #[.int .i64 pt.now.a, .int .i64 pt.to_.a, .int .i64 (p.i 54)] (toward_ pt.now.a pt.to_.a (p.i 54) (by omega) (by omega) (by omega))) (step_cons qP_ (step_nil)))))))))) ?_
 intro zw15 zh17
 have zS16 := zS14.quiet zh17
 refine pure_ (.pointer (some ⟨zb4, 5, none⟩)) ?_
 refine store_ zS16 2 (.int .i64 (Sd.toward pt.now.a pt.to_.a (p.i 54))) zb4 5 ?_
 intro zw18 zS19
 refine nil_ (blk_n (then_n (reg_ ?_)))
 refine pure_ (.int .i64 1) ?_
 refine pure_ (.int .i64 1) ?_
 refine nil_ (again_ (seq_ (reg_ ?_)))
 refine pure_ (.bool true) ?_
 refine nil_ (then_n (seq_ (cond_T ?_)))
 refine wp_skip (then_n (seq_ (wp_block (seq_ (reg_ ?_)))))
 refine pure_ (.int .i64 1) ?_
 refine pure_ (.int .i64 pt.to_.b) ?_
 refine pure_ (.int .i64 1) ?_
 refine pure_ (.int .i64 pt.to_.b) ?_
 refine nil_ (then_n ?_)
 refine quietL_ 9 [.int .i64 1, .int .i64 1, .pointer (some ⟨zb10, 1, none⟩), .int .i64 pt.now.b, .int .i64 pt.to_.b, .pointer (some ⟨zb1, 54, none⟩), .int .i64 (p.i 54), .int .i64 (Sd.toward pt.now.b pt.to_.b (p.i 54)), .pointer (some ⟨zb4, 5, none⟩)] [[9, 0], [9, 1], [9, 2], [9, 3], [9, 4], [9, 5], [9, 6], [9, 7], [9, 8], [10, 0], [10, 1], [10, 2], [10, 3], [10, 4], [10, 5], [10, 6], [10, 7], [10, 9, 8], [10, 9]] (step_cons qP_ (step_cons qP_ (step_cons qP_ (step_cons (qL_ zS19 0 zb10 1) (step_cons qP_ (step_cons qP_ (step_cons (qL_ zS19 3 zb1 54) (step_cons (qC_ 155 #[.int .i64 pt.now.b, .int .i64 pt.to_.b, .int .i64 (p.i 54)] (toward_ pt.now.b pt.to_.b (p.i 54) (by omega) (by omega) (by omega))) (step_cons qP_ (step_nil)))))))))) ?_
 intro zw20 zh22
 have zS21 := zS19.quiet zh22
 refine pure_ (.pointer (some ⟨zb4, 6, none⟩)) ?_
 refine store_ zS21 2 (.int .i64 (Sd.toward pt.now.b pt.to_.b (p.i 54))) zb4 6 ?_
 intro zw23 zS24
 refine nil_ (blk_n (then_n (reg_ ?_)))
 refine pure_ (.int .i64 2) ?_
 refine pure_ (.int .i64 2) ?_
 refine nil_ (again_ (seq_ (reg_ ?_)))
 refine pure_ (.bool true) ?_
 refine nil_ (then_n (seq_ (cond_T ?_)))
 refine wp_skip (then_n (seq_ (wp_block (seq_ (reg_ ?_)))))
 refine pure_ (.int .i64 2) ?_
 refine pure_ (.int .i64 pt.to_.c) ?_
 refine pure_ (.int .i64 2) ?_
 refine pure_ (.int .i64 pt.to_.c) ?_
 refine nil_ (then_n ?_)
 refine quietL_ 9 [.int .i64 2, .int .i64 2, .pointer (some ⟨zb10, 2, none⟩), .int .i64 pt.now.c, .int .i64 pt.to_.c, .pointer (some ⟨zb1, 54, none⟩), .int .i64 (p.i 54), .int .i64 (Sd.toward pt.now.c pt.to_.c (p.i 54)), .pointer (some ⟨zb4, 5, none⟩)] [[9, 0], [9, 1], [9, 2], [9, 3], [9, 4], [9, 5], [9, 6], [9, 7], [9, 8], [10, 0], [10, 1], [10, 2], [10, 3], [10, 4], [10, 5], [10, 6], [10, 7], [10, 9, 8], [10, 9]] (step_cons qP_ (step_cons qP_ (step_cons qP_ (step_cons (qL_ zS24 0 zb10 2) (step_cons qP_ (step_cons qP_ (step_cons (qL_ zS24 3 zb1 54) (step_cons (qC_ 155 #[.int .i64 pt.now.c, .int .i64 pt.to_.c, .int .i64 (p.i 54)] (toward_ pt.now.c pt.to_.c (p.i 54) (by omega) (by omega) (by omega))) (step_cons qP_ (step_nil)))))))))) ?_
 intro zw25 zh27
 have zS26 := zS24.quiet zh27
 refine pure_ (.pointer (some ⟨zb4, 7, none⟩)) ?_
 refine store_ zS26 2 (.int .i64 (Sd.toward pt.now.c pt.to_.c (p.i 54))) zb4 7 ?_
 intro zw28 zS29
 refine nil_ (blk_n (then_n (reg_ ?_)))
 refine pure_ (.int .i64 3) ?_
 refine pure_ (.int .i64 3) ?_
 refine nil_ (again_ (seq_ (reg_ ?_)))
 refine pure_ (.bool true) ?_
 refine nil_ (then_n (seq_ (cond_T ?_)))
 refine wp_skip (then_n (seq_ (wp_block (seq_ (reg_ ?_)))))
 refine pure_ (.int .i64 3) ?_
 refine pure_ (.int .i64 pt.to_.d) ?_
 refine pure_ (.int .i64 3) ?_
 refine pure_ (.int .i64 pt.to_.d) ?_
 refine nil_ (then_n ?_)
 refine quietL_ 9 [.int .i64 3, .int .i64 3, .pointer (some ⟨zb10, 3, none⟩), .int .i64 pt.now.d, .int .i64 pt.to_.d, .pointer (some ⟨zb1, 54, none⟩), .int .i64 (p.i 54), .int .i64 (Sd.toward pt.now.d pt.to_.d (p.i 54)), .pointer (some ⟨zb4, 5, none⟩)] [[9, 0], [9, 1], [9, 2], [9, 3], [9, 4], [9, 5], [9, 6], [9, 7], [9, 8], [10, 0], [10, 1], [10, 2], [10, 3], [10, 4], [10, 5], [10, 6], [10, 7], [10, 9, 8], [10, 9]] (step_cons qP_ (step_cons qP_ (step_cons qP_ (step_cons (qL_ zS29 0 zb10 3) (step_cons qP_ (step_cons qP_ (step_cons (qL_ zS29 3 zb1 54) (step_cons (qC_ 155 #[.int .i64 pt.now.d, .int .i64 pt.to_.d, .int .i64 (p.i 54)] (toward_ pt.now.d pt.to_.d (p.i 54) (by omega) (by omega) (by omega))) (step_cons qP_ (step_nil)))))))))) ?_
 intro zw30 zh32
 have zS31 := zS29.quiet zh32
 refine pure_ (.pointer (some ⟨zb4, 8, none⟩)) ?_
 refine store_ zS31 2 (.int .i64 (Sd.toward pt.now.d pt.to_.d (p.i 54))) zb4 8 ?_
 intro zw33 zS34
 refine nil_ (blk_n (then_n (reg_ ?_)))
 refine pure_ (.int .i64 4) ?_
 refine pure_ (.int .i64 4) ?_
 refine nil_ (again_ (seq_ (reg_ ?_)))
 refine pure_ (.bool false) ?_
 refine nil_ (then_n (seq_ (cond_F ?_)))
 refine wp_exit (then_e (then_e (blk_e (then_n (seq_ (seq_ (reg_ ?_)))))))
 refine pure_ (.pointer (some ⟨zb4, 5, none⟩)) ?_
 refine loadN_ zS34 2 4 #[.int .i64 (Sd.toward pt.now.a pt.to_.a (p.i 54)), .int .i64 (Sd.toward pt.now.b pt.to_.b (p.i 54)), .int .i64 (Sd.toward pt.now.c pt.to_.c (p.i 54)), .int .i64 (Sd.toward pt.now.d pt.to_.d (p.i 54))] zb4 5 ?_
 refine loadN_ zS34 0 4 (x4C pt.now) zb10 0 ?_
 refine eqAgg_ true (((Sd.toward pt.now.a pt.to_.a (p.i 54)) == pt.now.a) && (((Sd.toward pt.now.b pt.to_.b (p.i 54)) == pt.now.b) && (((Sd.toward pt.now.c pt.to_.c (p.i 54)) == pt.now.c) && (((Sd.toward pt.now.d pt.to_.d (p.i 54)) == pt.now.d) && true)))) #[.int .i64 (Sd.toward pt.now.a pt.to_.a (p.i 54)), .int .i64 (Sd.toward pt.now.b pt.to_.b (p.i 54)), .int .i64 (Sd.toward pt.now.c pt.to_.c (p.i 54)), .int .i64 (Sd.toward pt.now.d pt.to_.d (p.i 54))] (x4C pt.now) ?_
 refine nil_ (then_n ?_)
 refine cond_J (!(((Sd.toward pt.now.a pt.to_.a (p.i 54)) == pt.now.a) && (((Sd.toward pt.now.b pt.to_.b (p.i 54)) == pt.now.b) && (((Sd.toward pt.now.c pt.to_.c (p.i 54)) == pt.now.c) && (((Sd.toward pt.now.d pt.to_.d (p.i 54)) == pt.now.d) && true))))) (fun za zw => ∃ zd53 zd54 : Value, za = ⟨#[.agg (polP p ka kn kc), .agg (ptC pt), .pointer (some ⟨zb1, 0, none⟩), .pointer (some ⟨zb4, 0, none⟩), .pointer (some ⟨zb7, 0, none⟩), .pointer (some ⟨zb10, 0, none⟩), .int .i64 3, .int .i64 pt.to_.d, .pointer (some ⟨zb4, 5, none⟩), .agg (x4C pt.now), .pointer (some ⟨zb4, 1, none⟩), .agg (x4C pt.to_), .int .i64 4, .bool false, .int .i64 3, .int .i64 pt.to_.d, .int .i64 3, .int .i64 3, .pointer (some ⟨zb10, 3, none⟩), .int .i64 pt.now.d, .int .i64 pt.to_.d, .pointer (some ⟨zb1, 54, none⟩), .int .i64 (p.i 54), .int .i64 (Sd.toward pt.now.d pt.to_.d (p.i 54)), .pointer (some ⟨zb4, 5, none⟩), .pointer (some ⟨zb4, 8, none⟩), .int .i64 4, .pointer (some ⟨zb4, 5, none⟩), .agg #[.int .i64 (Sd.toward pt.now.a pt.to_.a (p.i 54)), .int .i64 (Sd.toward pt.now.b pt.to_.b (p.i 54)), .int .i64 (Sd.toward pt.now.c pt.to_.c (p.i 54)), .int .i64 (Sd.toward pt.now.d pt.to_.d (p.i 54))], .agg (x4C pt.now), .bool (!(((Sd.toward pt.now.a pt.to_.a (p.i 54)) == pt.now.a) && (((Sd.toward pt.now.b pt.to_.b (p.i 54)) == pt.now.b) && (((Sd.toward pt.now.c pt.to_.c (p.i 54)) == pt.now.c) && (((Sd.toward pt.now.d pt.to_.d (p.i 54)) == pt.now.d) && true))))), zd53, zd54, undef], []⟩ ∧ St [] w [⟨zb10, true, .cells (x4C pt.now) 25 (0, 0)⟩, ⟨zb7, true, .cells #[.int .i64 0, .int .i64 0, .int .i64 0, .int .i64 0, .int .i64 0, .int .i64 0, .int .i64 0, .int .i64 0, .int .i64 0, .int .i64 0, .int .i64 0, .int .i64 0] 41 (0, 0)⟩, ⟨zb4, true, .cells #[.int .i64 pt.cls, .int .i64 pt.to_.a, .int .i64 pt.to_.b, .int .i64 pt.to_.c, .int .i64 pt.to_.d, .int .i64 (Sd.toward pt.now.a pt.to_.a (p.i 54)), .int .i64 (Sd.toward pt.now.b pt.to_.b (p.i 54)), .int .i64 (Sd.toward pt.now.c pt.to_.c (p.i 54)), .int .i64 (Sd.toward pt.now.d pt.to_.d (p.i 54)), .int .i64 (bif (!(((Sd.toward pt.now.a pt.to_.a (p.i 54)) == pt.now.a) && (((Sd.toward pt.now.b pt.to_.b (p.i 54)) == pt.now.b) && (((Sd.toward pt.now.c pt.to_.c (p.i 54)) == pt.now.c) && (((Sd.toward pt.now.d pt.to_.d (p.i 54)) == pt.now.d) && true))))) then (4 : Int) else pt.by_.rule), .int .i64 pt.by_.source, .int .i64 pt.by_.seq] 41 (0, 0)⟩, ⟨zb1, true, .cells (polP p ka kn kc) 28 (0, 0)⟩] zw) ?_ ?_ ?_
 · intro zh35
   have zh36 := notT' zh35
   refine reg_ ?_
   refine pure_ (.pointer (some ⟨zb4, 9, none⟩)) ?_
   refine pure_ (.pointer (some ⟨zb4, 9, none⟩)) ?_
   refine store_ zS34 2 (.int .i64 4) zb4 9 ?_
   intro zw37 zS38
   refine nil_ ?_
   exact ⟨.pointer (some ⟨zb4, 9, none⟩), .pointer (some ⟨zb4, 9, none⟩), by (try rw [zh35]) <;> kernel_rfl, zS38.pick [0, 1, 2, 3] (by (try rw [zh35]) <;> kernel_rfl) (by decide)⟩
 · intro zh39
   have zh40 := notF' zh39
   have zh41 := andL zh40
   have zh42 := andR zh40
   have zh43 := eqT' zh41
   have zh44 := andL zh42
   have zh45 := andR zh42
   have zh46 := eqT' zh44
   have zh47 := andL zh45
   have zh48 := andR zh45
   have zh49 := eqT' zh47
   have zh50 := andL zh48
   have zh51 := andR zh48
   have zh52 := eqT' zh50
   refine wp_skip ?_
   exact ⟨undef, undef, by (try rw [zh39]) <;> kernel_rfl, zS34.pick [0, 1, 2, 3] (by (try rw [zh39]) <;> kernel_rfl) (by decide)⟩
 rintro za55 zw56 ⟨zd53, zd54, rfl, zS57⟩
 refine then_n (seq_ (reg_ ?_))
 refine loadN_ zS57 2 12 #[.int .i64 pt.cls, .int .i64 pt.to_.a, .int .i64 pt.to_.b, .int .i64 pt.to_.c, .int .i64 pt.to_.d, .int .i64 (Sd.toward pt.now.a pt.to_.a (p.i 54)), .int .i64 (Sd.toward pt.now.b pt.to_.b (p.i 54)), .int .i64 (Sd.toward pt.now.c pt.to_.c (p.i 54)), .int .i64 (Sd.toward pt.now.d pt.to_.d (p.i 54)), .int .i64 (bif (!(((Sd.toward pt.now.a pt.to_.a (p.i 54)) == pt.now.a) && (((Sd.toward pt.now.b pt.to_.b (p.i 54)) == pt.now.b) && (((Sd.toward pt.now.c pt.to_.c (p.i 54)) == pt.now.c) && (((Sd.toward pt.now.d pt.to_.d (p.i 54)) == pt.now.d) && true))))) then (4 : Int) else pt.by_.rule), .int .i64 pt.by_.source, .int .i64 pt.by_.seq] zb4 0 ?_
 refine store_ zS57 1 (.agg #[.int .i64 pt.cls, .int .i64 pt.to_.a, .int .i64 pt.to_.b, .int .i64 pt.to_.c, .int .i64 pt.to_.d, .int .i64 (Sd.toward pt.now.a pt.to_.a (p.i 54)), .int .i64 (Sd.toward pt.now.b pt.to_.b (p.i 54)), .int .i64 (Sd.toward pt.now.c pt.to_.c (p.i 54)), .int .i64 (Sd.toward pt.now.d pt.to_.d (p.i 54)), .int .i64 (bif (!(((Sd.toward pt.now.a pt.to_.a (p.i 54)) == pt.now.a) && (((Sd.toward pt.now.b pt.to_.b (p.i 54)) == pt.now.b) && (((Sd.toward pt.now.c pt.to_.c (p.i 54)) == pt.now.c) && (((Sd.toward pt.now.d pt.to_.d (p.i 54)) == pt.now.d) && true))))) then (4 : Int) else pt.by_.rule), .int .i64 pt.by_.source, .int .i64 pt.by_.seq]) zb7 0 ?_
 intro zw58 zS59
 refine nil_ (then_n (wp_ret ?_))
 refine ret_ rfl (res_ [.cell 4 41] [.agg #[.int .i64 pt.cls, .int .i64 pt.to_.a, .int .i64 pt.to_.b, .int .i64 pt.to_.c, .int .i64 pt.to_.d, .int .i64 (Sd.toward pt.now.a pt.to_.a (p.i 54)), .int .i64 (Sd.toward pt.now.b pt.to_.b (p.i 54)), .int .i64 (Sd.toward pt.now.c pt.to_.c (p.i 54)), .int .i64 (Sd.toward pt.now.d pt.to_.d (p.i 54)), .int .i64 (bif (!(((Sd.toward pt.now.a pt.to_.a (p.i 54)) == pt.now.a) && (((Sd.toward pt.now.b pt.to_.b (p.i 54)) == pt.now.b) && (((Sd.toward pt.now.c pt.to_.c (p.i 54)) == pt.now.c) && (((Sd.toward pt.now.d pt.to_.d (p.i 54)) == pt.now.d) && true))))) then (4 : Int) else pt.by_.rule), .int .i64 pt.by_.source, .int .i64 pt.by_.seq]] (.agg #[.int .i64 pt.cls, .int .i64 pt.to_.a, .int .i64 pt.to_.b, .int .i64 pt.to_.c, .int .i64 pt.to_.d, .int .i64 (Sd.toward pt.now.a pt.to_.a (p.i 54)), .int .i64 (Sd.toward pt.now.b pt.to_.b (p.i 54)), .int .i64 (Sd.toward pt.now.c pt.to_.c (p.i 54)), .int .i64 (Sd.toward pt.now.d pt.to_.d (p.i 54)), .int .i64 (bif (!(((Sd.toward pt.now.a pt.to_.a (p.i 54)) == pt.now.a) && (((Sd.toward pt.now.b pt.to_.b (p.i 54)) == pt.now.b) && (((Sd.toward pt.now.c pt.to_.c (p.i 54)) == pt.now.c) && (((Sd.toward pt.now.d pt.to_.d (p.i 54)) == pt.now.d) && true))))) then (4 : Int) else pt.by_.rule), .int .i64 pt.by_.source, .int .i64 pt.by_.seq]) ⟨res_cellN zS59 1 12 zb7 0, trivial⟩) ?_
 exact ⟨by (rw [pstep_is]) <;> rfl, zS59.ch⟩

end Go.Proofs.YtgbgjbjlblcpaaaGreatDoor
