/- Functions of values, against the plain model. -/
import Derived.Test.YtmfhgekknjghoaaSQE
import Derived.Test.YtmfhgekknjghoaaMInv
import Derived.Test.YtmfhgekknjghoaaProg
namespace Go.Proofs.Ytmfhgekknjghoaa
open Go Go.RowKit Go.BigFrame Sx
set_option linter.unusedVariables false
set_option linter.unusedSimpArgs false

def polP (p : Sd.Pol) (ka : Nat → Option Addr) (kn kc : Nat → Nat) : Array Value := #[.int .i64 (p.i 0), .int .i64 (p.i 1), .int .i64 (p.i 2), .int .i64 (p.i 3), .int .i64 (p.i 4), .slice (ka 0) (kn 0) (kc 0), .slice (ka 1) (kn 1) (kc 1), .slice (ka 2) (kn 2) (kc 2), .slice (ka 3) (kn 3) (kc 3), .int .i64 (p.i 9), .int .i64 (p.i 10), .int .i64 (p.i 11), .int .i64 (p.i 12), .int .i64 (p.i 13), .int .i64 (p.i 14), .int .i64 (p.i 15), .int .i64 (p.i 16), .int .i64 (p.i 17), .int .i64 (p.i 18), .int .i64 (p.i 19), .int .i64 (p.i 20), .int .i64 (p.i 21), .int .i64 (p.i 22), .int .i64 (p.i 23), .int .i64 (p.i 24), .int .i64 (p.i 25), .int .i64 (p.i 26), .int .i64 (p.i 27), .int .i64 (p.i 28), .int .i64 (p.i 29), .int .i64 (p.i 30), .int .i64 (p.i 31), .int .i64 (p.i 32), .int .i64 (p.i 33), .int .i64 (p.i 34), .int .i64 (p.i 35), .int .i64 (p.i 36), .int .i64 (p.i 37), .int .i64 (p.i 38), .int .i64 (p.i 39), .int .i64 (p.i 40), .int .i64 (p.i 41), .int .i64 (p.i 42), .int .i64 (p.i 43), .int .i64 (p.i 44), .int .i64 (p.i 45), .int .i64 (p.i 46), .int .i64 (p.i 47), .int .i64 (p.i 48), .int .i64 (p.i 49), .int .i64 (p.i 50), .int .i64 (p.i 51), .int .i64 (p.i 52), .int .i64 (p.i 53), .int .i64 (p.i 54), .int .i64 (p.i 55)]
def timC (t : Sd.Timer) : Array Value := #[.int .i64 t.n, .int .i64 t.most]
def x4C (t : Sd.X4) : Array Value := #[.int .i64 t.a, .int .i64 t.b, .int .i64 t.c, .int .i64 t.d]
def labC (t : Sd.Label) : Array Value := #[.int .i64 t.rule, .int .i64 t.source, .int .i64 t.seq]
def tokC (t : Sd.Tok) : Array Value := #[.int .i64 t.holder, .int .i64 t.epoch, .int .i64 t.offer, .int .i64 t.oa.n, .int .i64 t.oa.most, .int .i64 t.la.n, .int .i64 t.la.most, .bool t.bad]
def ptC (t : Sd.Point) : Array Value := #[.int .i64 t.cls, .int .i64 t.to_.a, .int .i64 t.to_.b, .int .i64 t.to_.c, .int .i64 t.to_.d, .int .i64 t.now.a, .int .i64 t.now.b, .int .i64 t.now.c, .int .i64 t.now.d, .int .i64 t.by_.rule, .int .i64 t.by_.source, .int .i64 t.by_.seq]
def msgC (t : Sd.Msg) : Array Value := #[.int .i64 t.kind, .int .i64 t.seq, .int .i64 t.role, .int .i64 t.to_, .int .i64 t.epoch, .int .i64 t.mode, .int .i64 t.cls, .bool t.now, .int .i64 t.x.a, .int .i64 t.x.b, .int .i64 t.x.c, .int .i64 t.x.d]
def smpC (t : Sd.Sample) : Array Value := #[.bool t.valid, .int .i64 t.x.a, .int .i64 t.x.b, .int .i64 t.x.c, .int .i64 t.x.d, .bool t.give]
def winC (t : Sd.Window) : Array Value := #[.bool t.any, .int .i64 t.high, .int .u64 t.seen]
def askC (t : Sd.Ask) : Array Value := #[.int .i64 t.source, .int .i64 t.rank, .int .i64 t.age.n, .int .i64 t.age.most]
def recC (t : Sd.Rec) : Array Value := #[.int .i64 t.kind, .int .i64 t.source, .int .i64 t.seq, .int .i64 t.epoch, .int .i64 t.code, .int .i64 t.how]
theorem has_is (s i : Int) (h0 : 0 ≤ s) (h1 : 0 ≤ i) (h2 : i ≤ 62) : ((Int.fdiv s (2 ^ (min (i).toNat 64))) % 2 == 1) = Sd.has s i := by
  have e : min i.toNat 64 = i.toNat := by omega
  have h3 : (0 : Int) ≤ 2 ^ i.toNat := Int.le_of_lt (Int.pow_pos (by omega))
  rw [e, Int.fdiv_eq_ediv_of_nonneg _ h3]
  simp [Sd.has, h0, h1, h2]
  exact Bool.eq_iff_iff.2 (by simp)
theorem wrap_sub (a b : Int) (h0 : 0 ≤ a - b) (h1 : a - b < 18446744073709551616) : IntKind.u64.wrap (IntKind.u64.wrap a - IntKind.u64.wrap b) = a - b := by
  rw [IntKind.wrap_u64, IntKind.wrap_u64, IntKind.wrap_u64]; omega
theorem below_is (n b : Int) (h : Sd.below n b = true) : 0 ≤ n ∧ n < b := by simpa [Sd.below] using h
theorem polP_at (p : Sd.Pol) (ka : Nat → Option Addr) (kn kc : Nat → Nat) (k : Nat) (h : k < 56) (h2 : k < 5 ∨ 8 < k) : (polP p ka kn kc)[k]? = some (.int .i64 (p.i k)) := by
  match k, h, h2 with
  | 0, _, _ => rfl
  | 1, _, _ => rfl
  | 2, _, _ => rfl
  | 3, _, _ => rfl
  | 4, _, _ => rfl
  | 5, _, h2 => exact absurd h2 (by omega)
  | 6, _, h2 => exact absurd h2 (by omega)
  | 7, _, h2 => exact absurd h2 (by omega)
  | 8, _, h2 => exact absurd h2 (by omega)
  | 9, _, _ => rfl
  | 10, _, _ => rfl
  | 11, _, _ => rfl
  | 12, _, _ => rfl
  | 13, _, _ => rfl
  | 14, _, _ => rfl
  | 15, _, _ => rfl
  | 16, _, _ => rfl
  | 17, _, _ => rfl
  | 18, _, _ => rfl
  | 19, _, _ => rfl
  | 20, _, _ => rfl
  | 21, _, _ => rfl
  | 22, _, _ => rfl
  | 23, _, _ => rfl
  | 24, _, _ => rfl
  | 25, _, _ => rfl
  | 26, _, _ => rfl
  | 27, _, _ => rfl
  | 28, _, _ => rfl
  | 29, _, _ => rfl
  | 30, _, _ => rfl
  | 31, _, _ => rfl
  | 32, _, _ => rfl
  | 33, _, _ => rfl
  | 34, _, _ => rfl
  | 35, _, _ => rfl
  | 36, _, _ => rfl
  | 37, _, _ => rfl
  | 38, _, _ => rfl
  | 39, _, _ => rfl
  | 40, _, _ => rfl
  | 41, _, _ => rfl
  | 42, _, _ => rfl
  | 43, _, _ => rfl
  | 44, _, _ => rfl
  | 45, _, _ => rfl
  | 46, _, _ => rfl
  | 47, _, _ => rfl
  | 48, _, _ => rfl
  | 49, _, _ => rfl
  | 50, _, _ => rfl
  | 51, _, _ => rfl
  | 52, _, _ => rfl
  | 53, _, _ => rfl
  | 54, _, _ => rfl
  | 55, _, _ => rfl
  | k + 56, h, _ => exact absurd h (by omega)
theorem pstep_is (p : Sd.Pol) (pt : Sd.Point) : Sd.Point.step p pt = (⟨pt.cls, pt.to_, (⟨(Sd.toward pt.now.a pt.to_.a (p.i 54)), (Sd.toward pt.now.b pt.to_.b (p.i 54)), (Sd.toward pt.now.c pt.to_.c (p.i 54)), (Sd.toward pt.now.d pt.to_.d (p.i 54))⟩ : Sd.X4), (⟨(bif (!(((Sd.toward pt.now.a pt.to_.a (p.i 54)) == pt.now.a) && (((Sd.toward pt.now.b pt.to_.b (p.i 54)) == pt.now.b) && (((Sd.toward pt.now.c pt.to_.c (p.i 54)) == pt.now.c) && (((Sd.toward pt.now.d pt.to_.d (p.i 54)) == pt.now.d) && true))))) then (4 : Int) else pt.by_.rule), pt.by_.source, pt.by_.seq⟩ : Sd.Label)⟩ : Sd.Point) := by
  rcases pt with ⟨c, t, ⟨na, nb, nc, nd⟩, ⟨r, s, q⟩⟩
  have key : ∀ A B C D : Int, (if (⟨A, B, C, D⟩ : Sd.X4) = ⟨na, nb, nc, nd⟩ then (⟨r, s, q⟩ : Sd.Label) else ⟨4, s, q⟩) = ⟨(bif (!((A == na) && ((B == nb) && ((C == nc) && ((D == nd) && true))))) then (4 : Int) else r), s, q⟩ := by
    intro A B C D
    by_cases h : A = na ∧ B = nb ∧ C = nc ∧ D = nd
    · obtain ⟨rfl, rfl, rfl, rfl⟩ := h
      simp
    · have h1 : ¬ (⟨A, B, C, D⟩ : Sd.X4) = ⟨na, nb, nc, nd⟩ := by simpa [Sd.X4.mk.injEq] using h
      rw [if_neg h1]
      have h2 : ((A == na) && ((B == nb) && ((C == nc) && ((D == nd) && true)))) = false := by
        rw [Bool.eq_false_iff]; intro h3; apply h; simpa using h3
      rw [h2]; rfl
  exact congrArg (Sd.Point.mk c t _) (key _ _ _ _)

set_option maxRecDepth 100000 in
set_option maxHeartbeats 4000000 in
theorem start_ (m : Int) (h_m : -9223372036854775808 ≤ m ∧ m ≤ 9223372036854775807) (w : World) :
    Gives Try.prog 38 #[.int .i64 m] w fun v w1 => v = .agg (timC (Sd.Timer.start m)) ∧ Ch [] w w1 := by
 have S0 := St.nil [] w
 refine enter_ Try.func38 rfl ?_
 refine seq_ (reg_ ?_)
 refine new_ S0 (fun b => .pointer (some ⟨b, 0, none⟩)) (.cells #[.int .i64 0, .int .i64 0] 30) ?_
 intro zb1 zw2 zS3
 refine nil_ (then_n (seq_ (reg_ ?_)))
 refine pure_ (.int .i64 m) ?_
 refine pure_ (.int .i64 (if m < 0 then 0 else m)) ?_
 have zh4 : (m ≤ (if m < 0 then 0 else m) ∧ 0 ≤ (if m < 0 then 0 else m)) ∧ ((if m < 0 then 0 else m) = m ∨ (if m < 0 then 0 else m) = 0) := by split <;> omega
 generalize (if m < 0 then 0 else m) = zm5 at *
 have zh6 : zm5 = max m 0 := by omega
 refine pure_ (.agg #[.int .i64 0, .int .i64 zm5]) ?_
 refine store_ zS3 0 (.agg #[.int .i64 0, .int .i64 zm5]) zb1 0 ?_
 intro zw7 zS8
 refine nil_ (then_n (wp_ret ?_))
 refine ret_ rfl (res_ [.cell 2 30] [.agg #[.int .i64 0, .int .i64 zm5]] (.agg #[.int .i64 0, .int .i64 zm5]) ⟨res_cellN zS8 0 2 zb1 0, trivial⟩) ?_
 have ze : Sd.Timer.start m = (⟨0, zm5⟩ : Sd.Timer) := by first | rfl | (simp [Sd.Timer.start, zh6]; done) | (simp [Sd.Timer.start, zh6]; rfl) | (simp [Sd.Timer.start]; simp [Sd.Timer.start, zh6]; done) | (simp [Sd.Timer.start]; simp [Sd.Timer.start, zh6]; rfl) | (simp [Sd.Timer.start, zh6]; omega) | (unfold Sd.Timer.start; (repeat' split) <;> first | rfl | assumption | omega | (simp_all; done) | (simp_all; omega))
 exact ⟨by (rw [ze]) <;> rfl, zS8.ch⟩

set_option maxRecDepth 100000 in
set_option maxHeartbeats 4000000 in
theorem pass_ (t : Sd.Tok) (o : Int) (e : Int) (w : World) :
    Gives Try.prog 46 #[.agg (tokC t), .int .i64 o, .int .i64 e] w fun v w1 => v = .agg (tokC (Sd.Tok.pass t o e)) ∧ Ch [] w w1 := by
 have S0 := St.nil [] w
 refine enter_ Try.func46 rfl ?_
 refine seq_ (reg_ ?_)
 refine new_ S0 (fun b => .pointer (some ⟨b, 0, none⟩)) (.cells (tokC t) 104) ?_
 intro zb1 zw2 zS3
 refine new_ zS3 (fun b => .pointer (some ⟨b, 0, none⟩)) (.cells #[.int .i64 0, .int .i64 0, .int .i64 0, .int .i64 0, .int .i64 0, .int .i64 0, .int .i64 0, .bool false] 54) ?_
 intro zb4 zw5 zS6
 refine nil_ (then_n (seq_ (reg_ ?_)))
 refine loadN_ zS6 1 8 (tokC t) zb1 0 ?_
 refine new_ zS6 (fun b => .pointer (some ⟨b, 0, none⟩)) (.cells #[.int .i64 0, .int .i64 0, .int .i64 0, .int .i64 0, .int .i64 0, .int .i64 0, .int .i64 0, .bool false] 54) ?_
 intro zb7 zw8 zS9
 refine store_ zS9 0 (.agg (tokC t)) zb7 0 ?_
 intro zw10 zS11
 refine nil_ (then_n (seq_ (reg_ ?_)))
 refine pure_ (.int .i64 o) ?_
 refine pure_ (.int .i64 e) ?_
 refine pure_ (.pointer (some ⟨zb7, 0, none⟩)) ?_
 refine store_ zS11 0 (.int .i64 o) zb7 0 ?_
 intro zw12 zS13
 refine pure_ (.pointer (some ⟨zb7, 1, none⟩)) ?_
 refine store_ zS13 0 (.int .i64 e) zb7 1 ?_
 intro zw14 zS15
 refine pure_ (.pointer (some ⟨zb7, 2, none⟩)) ?_
 refine store_ zS15 0 (.int .i64 (-1)) zb7 2 ?_
 intro zw16 zS17
 refine nil_ (then_n (seq_ (reg_ ?_)))
 refine pure_ (.agg #[.int .i64 0, .int .i64 0]) ?_
 refine pure_ (.agg #[.int .i64 0, .int .i64 0]) ?_
 refine pure_ (.pointer (some ⟨zb7, 3, none⟩)) ?_
 refine store_ zS17 0 (.agg #[.int .i64 0, .int .i64 0]) zb7 3 ?_
 intro zw18 zS19
 refine pure_ (.pointer (some ⟨zb7, 5, none⟩)) ?_
 refine store_ zS19 0 (.agg #[.int .i64 0, .int .i64 0]) zb7 5 ?_
 intro zw20 zS21
 refine nil_ (then_n (seq_ (reg_ ?_)))
 refine loadN_ zS21 0 8 #[.int .i64 o, .int .i64 e, .int .i64 (-1), .int .i64 0, .int .i64 0, .int .i64 0, .int .i64 0, .bool t.bad] zb7 0 ?_
 refine store_ zS21 1 (.agg #[.int .i64 o, .int .i64 e, .int .i64 (-1), .int .i64 0, .int .i64 0, .int .i64 0, .int .i64 0, .bool t.bad]) zb4 0 ?_
 intro zw22 zS23
 refine nil_ (then_n (wp_ret ?_))
 refine ret_ rfl (res_ [.cell 6 54] [.agg #[.int .i64 o, .int .i64 e, .int .i64 (-1), .int .i64 0, .int .i64 0, .int .i64 0, .int .i64 0, .bool t.bad]] (.agg #[.int .i64 o, .int .i64 e, .int .i64 (-1), .int .i64 0, .int .i64 0, .int .i64 0, .int .i64 0, .bool t.bad]) ⟨res_cellN zS23 1 8 zb4 0, trivial⟩) ?_
 have ze : Sd.Tok.pass t o e = (⟨o, e, (-1), (⟨0, 0⟩ : Sd.Timer), (⟨0, 0⟩ : Sd.Timer), t.bad⟩ : Sd.Tok) := by first | rfl | (simp []; done) | (simp []; rfl) | (simp []; simp []; done) | (simp []; simp []; rfl) | (simp []; omega) | (unfold Sd.sat; (repeat' split) <;> first | rfl | assumption | omega | (simp_all; done) | (simp_all; omega))
 exact ⟨by (rw [ze]) <;> rfl, zS23.ch⟩

set_option maxRecDepth 100000 in
set_option maxHeartbeats 4000000 in
theorem grant_ (t : Sd.Tok) (o : Int) (h_t_epoch : -9223372036854775808 ≤ t.epoch ∧ t.epoch ≤ 9223372036854775807) (w : World) :
    Gives Try.prog 36 #[.agg (tokC t), .int .i64 o] w fun v w1 => v = .tuple #[.agg (tokC ((Sd.Tok.grant t o).1)), .int .i64 ((Sd.Tok.grant t o).2)] ∧ Ch [] w w1 := by
 have S0 := St.nil [] w
 refine enter_ Try.func36 rfl ?_
 refine seq_ (reg_ ?_)
 refine new_ S0 (fun b => .pointer (some ⟨b, 0, none⟩)) (.cells (tokC t) 54) ?_
 intro zb1 zw2 zS3
 refine new_ zS3 (fun b => .pointer (some ⟨b, 0, none⟩)) (.cells #[.int .i64 0, .int .i64 0, .int .i64 0, .int .i64 0, .int .i64 0, .int .i64 0, .int .i64 0, .bool false] 54) ?_
 intro zb4 zw5 zS6
 refine pure_ (.int .i64 0) ?_
 refine nil_ (then_n (seq_ (wp_block (seq_ (reg_ ?_)))))
 refine pure_ (.int .i64 o) ?_
 refine pure_ (.bool (decide (o < 0))) ?_
 refine pure_ (.bool (decide (o < 0))) ?_
 refine slot_ 10 (decide (o < 0)) ?_ ?_
 · intro zh7
   have zh8 := ltT' zh7
   refine skip_ ?_
   refine skip_ ?_
   refine pure_ (.bool true) ?_
   refine pure_ (.bool true) ?_
   refine nil_ (then_n (cond_T ?_))
   refine seq_ (reg_ ?_)
   refine loadN_ zS6 1 8 (tokC t) zb1 0 ?_
   refine store_ zS6 0 (.agg (tokC t)) zb4 0 ?_
   intro zw9 zS10
   refine pure_ (.int .i64 1) ?_
   refine nil_ (then_n (wp_ret (blk_r (then_r ?_))))
   refine ret_ rfl (res_ [.cell 4 54, .tmp 5] [.agg (tokC t), .int .i64 1] (.tuple #[.agg (tokC t), .int .i64 1]) ⟨res_cellN zS10 0 8 zb4 0, res_tmp, trivial⟩) ?_
   have ze : Sd.Tok.grant t o = (t, 1) := by first | rfl | (simp [Sd.Tok.grant, Sd.Tok.pass, Sd.Timer.zero, zh7]; done) | (simp [Sd.Tok.grant, Sd.Tok.pass, Sd.Timer.zero, zh7]; rfl) | (simp [Sd.Tok.grant, Sd.Tok.pass, Sd.Timer.zero, zh7]; simp [Sd.Tok.grant, Sd.Tok.pass, Sd.Timer.zero, zh7]; done) | (simp [Sd.Tok.grant, Sd.Tok.pass, Sd.Timer.zero, zh7]; simp [Sd.Tok.grant, Sd.Tok.pass, Sd.Timer.zero, zh7]; rfl) | (simp [Sd.Tok.grant, Sd.Tok.pass, Sd.Timer.zero, zh7]; omega) | (unfold Sd.Tok.grant; (repeat' split) <;> first | rfl | assumption | omega | (simp_all; done) | (simp_all; omega))
   exact ⟨by (rw [ze]) <;> rfl, zS10.ch⟩
 intro zh11
 have zh12 := ltF' zh11
 refine pure_ (.int .i64 o) ?_
 refine pure_ (.bool (decide (5 ≤ o))) ?_
 refine pure_ (.bool (decide (5 ≤ o))) ?_
 refine pure_ (.bool (decide (5 ≤ o))) ?_
 refine nil_ (then_n ?_)
 refine cond_S (decide (5 ≤ o)) ?_ ?_
 · intro zh13
   have zh14 := leT' zh13
   refine seq_ (reg_ ?_)
   refine loadN_ zS6 1 8 (tokC t) zb1 0 ?_
   refine store_ zS6 0 (.agg (tokC t)) zb4 0 ?_
   intro zw15 zS16
   refine pure_ (.int .i64 1) ?_
   refine nil_ (then_n (wp_ret (blk_r (then_r ?_))))
   refine ret_ rfl (res_ [.cell 4 54, .tmp 5] [.agg (tokC t), .int .i64 1] (.tuple #[.agg (tokC t), .int .i64 1]) ⟨res_cellN zS16 0 8 zb4 0, res_tmp, trivial⟩) ?_
   have ze : Sd.Tok.grant t o = (t, 1) := by first | rfl | (simp [Sd.Tok.grant, Sd.Tok.pass, Sd.Timer.zero, zh11, zh13]; done) | (simp [Sd.Tok.grant, Sd.Tok.pass, Sd.Timer.zero, zh11, zh13]; rfl) | (simp [Sd.Tok.grant, Sd.Tok.pass, Sd.Timer.zero, zh11, zh13]; simp [Sd.Tok.grant, Sd.Tok.pass, Sd.Timer.zero, zh11, zh13]; done) | (simp [Sd.Tok.grant, Sd.Tok.pass, Sd.Timer.zero, zh11, zh13]; simp [Sd.Tok.grant, Sd.Tok.pass, Sd.Timer.zero, zh11, zh13]; rfl) | (simp [Sd.Tok.grant, Sd.Tok.pass, Sd.Timer.zero, zh11, zh13]; omega) | (unfold Sd.Tok.grant; (repeat' split) <;> first | rfl | assumption | omega | (simp_all; done) | (simp_all; omega))
   exact ⟨by (rw [ze]) <;> rfl, zS16.ch⟩
 intro zh17
 have zh18 := leF' zh17
 refine seq_ (reg_ ?_)
 refine pure_ (.int .i64 o) ?_
 refine pure_ (.pointer (some ⟨zb1, 0, none⟩)) ?_
 refine load1_ zS6 1 (.int .i64 t.holder) zb1 0 ?_
 refine pure_ (.bool (o == t.holder)) ?_
 refine pure_ (.bool (o == t.holder)) ?_
 refine nil_ (then_n ?_)
 refine cond_S (o == t.holder) ?_ ?_
 · intro zh19
   have zh20 := eqT' zh19
   refine seq_ (reg_ ?_)
   refine loadN_ zS6 1 8 (tokC t) zb1 0 ?_
   refine store_ zS6 0 (.agg (tokC t)) zb4 0 ?_
   intro zw21 zS22
   refine pure_ (.int .i64 25) ?_
   refine nil_ (then_n (wp_ret (blk_r (then_r ?_))))
   refine ret_ rfl (res_ [.cell 4 54, .tmp 5] [.agg (tokC t), .int .i64 25] (.tuple #[.agg (tokC t), .int .i64 25]) ⟨res_cellN zS22 0 8 zb4 0, res_tmp, trivial⟩) ?_
   have ze : Sd.Tok.grant t o = (t, 25) := by first | rfl | (simp [Sd.Tok.grant, Sd.Tok.pass, Sd.Timer.zero, zh11, zh17, zh19, zh20]; done) | (simp [Sd.Tok.grant, Sd.Tok.pass, Sd.Timer.zero, zh11, zh17, zh19, zh20]; rfl) | (simp [Sd.Tok.grant, Sd.Tok.pass, Sd.Timer.zero, zh11, zh17]; simp [Sd.Tok.grant, Sd.Tok.pass, Sd.Timer.zero, zh11, zh17, zh19, zh20]; done) | (simp [Sd.Tok.grant, Sd.Tok.pass, Sd.Timer.zero, zh11, zh17]; simp [Sd.Tok.grant, Sd.Tok.pass, Sd.Timer.zero, zh11, zh17, zh19, zh20]; rfl) | (simp [Sd.Tok.grant, Sd.Tok.pass, Sd.Timer.zero, zh11, zh17, zh19, zh20]; omega) | (unfold Sd.Tok.grant; (repeat' split) <;> first | rfl | assumption | omega | (simp_all; done) | (simp_all; omega))
   exact ⟨by (rw [ze]) <;> rfl, zS22.ch⟩
 intro zh23
 have zh24 := eqF' zh23
 refine seq_ (reg_ ?_)
 refine pure_ (.pointer (some ⟨zb1, 1, none⟩)) ?_
 refine load1_ zS6 1 (.int .i64 t.epoch) zb1 1 ?_
 refine pure_ (.bool (decide (65535 ≤ t.epoch))) ?_
 refine assign_ ?_
 refine nil_ (then_n ?_)
 refine cond_S (decide (65535 ≤ t.epoch)) ?_ ?_
 · intro zh25
   have zh26 := leT' zh25
   refine seq_ (reg_ ?_)
   refine loadN_ zS6 1 8 (tokC t) zb1 0 ?_
   refine store_ zS6 0 (.agg (tokC t)) zb4 0 ?_
   intro zw27 zS28
   refine pure_ (.int .i64 24) ?_
   refine nil_ (then_n (wp_ret (blk_r (then_r ?_))))
   refine ret_ rfl (res_ [.cell 4 54, .tmp 5] [.agg (tokC t), .int .i64 24] (.tuple #[.agg (tokC t), .int .i64 24]) ⟨res_cellN zS28 0 8 zb4 0, res_tmp, trivial⟩) ?_
   have ze : Sd.Tok.grant t o = (t, 24) := by first | rfl | (simp [Sd.Tok.grant, Sd.Tok.pass, Sd.Timer.zero, zh11, zh17, zh23, zh25, zh24]; done) | (simp [Sd.Tok.grant, Sd.Tok.pass, Sd.Timer.zero, zh11, zh17, zh23, zh25, zh24]; rfl) | (simp [Sd.Tok.grant, Sd.Tok.pass, Sd.Timer.zero, zh11, zh17, zh23, zh25]; simp [Sd.Tok.grant, Sd.Tok.pass, Sd.Timer.zero, zh11, zh17, zh23, zh25, zh24]; done) | (simp [Sd.Tok.grant, Sd.Tok.pass, Sd.Timer.zero, zh11, zh17, zh23, zh25]; simp [Sd.Tok.grant, Sd.Tok.pass, Sd.Timer.zero, zh11, zh17, zh23, zh25, zh24]; rfl) | (simp [Sd.Tok.grant, Sd.Tok.pass, Sd.Timer.zero, zh11, zh17, zh23, zh25, zh24]; omega) | (unfold Sd.Tok.grant; (repeat' split) <;> first | rfl | assumption | omega | (simp_all; done) | (simp_all; omega))
   exact ⟨by (rw [ze]) <;> rfl, zS28.ch⟩
 intro zh29
 have zh30 := leF' zh29
 refine wp_skip (blk_n (then_n (seq_ (reg_ ?_))))
 refine loadN_ zS6 1 8 (tokC t) zb1 0 ?_
 refine pure_ (.func (.func 46) #[.agg (tokC t)] #[]) ?_
 refine assign_ ?_
 refine nil_ (then_n (seq_ (reg_ ?_)))
 refine move_ ?_
 refine pure_ (.int .i64 o) ?_
 refine pure_ (.pointer (some ⟨zb1, 1, none⟩)) ?_
 refine load1_ zS6 1 (.int .i64 t.epoch) zb1 1 ?_
 refine sum_ .i64 (t.epoch + 1) (IntWalk.i64_in _ (by omega)) ?_
 refine call_ 46 #[.agg (tokC t), .int .i64 o, .int .i64 (t.epoch + 1)] ?_
 refine (pass_ t o (t.epoch + 1) _ ).mono ?_; rintro _ zw31 ⟨rfl, zh32⟩
 have zS33 := zS6.quiet zh32
 refine store_ zS33 0 (.agg (tokC (Sd.Tok.pass t o (t.epoch + 1)))) zb4 0 ?_
 intro zw34 zS35
 refine pure_ (.int .i64 0) ?_
 refine nil_ (then_n (wp_ret ?_))
 refine ret_ rfl (res_ [.cell 4 54, .tmp 5] [.agg (tokC (Sd.Tok.pass t o (t.epoch + 1))), .int .i64 0] (.tuple #[.agg (tokC (Sd.Tok.pass t o (t.epoch + 1))), .int .i64 0]) ⟨res_cellN zS35 0 8 zb4 0, res_tmp, trivial⟩) ?_
 have ze : Sd.Tok.grant t o = ((Sd.Tok.pass t o (t.epoch + 1)), 0) := by first | rfl | (simp [Sd.Tok.grant, Sd.Tok.pass, Sd.Timer.zero, zh11, zh17, zh23, zh29, zh24]; done) | (simp [Sd.Tok.grant, Sd.Tok.pass, Sd.Timer.zero, zh11, zh17, zh23, zh29, zh24]; rfl) | (simp [Sd.Tok.grant, Sd.Tok.pass, Sd.Timer.zero, zh11, zh17, zh23, zh29]; simp [Sd.Tok.grant, Sd.Tok.pass, Sd.Timer.zero, zh11, zh17, zh23, zh29, zh24]; done) | (simp [Sd.Tok.grant, Sd.Tok.pass, Sd.Timer.zero, zh11, zh17, zh23, zh29]; simp [Sd.Tok.grant, Sd.Tok.pass, Sd.Timer.zero, zh11, zh17, zh23, zh29, zh24]; rfl) | (simp [Sd.Tok.grant, Sd.Tok.pass, Sd.Timer.zero, zh11, zh17, zh23, zh29, zh24]; omega) | (unfold Sd.Tok.grant; (repeat' split) <;> first | rfl | assumption | omega | (simp_all; done) | (simp_all; omega))
 exact ⟨by (rw [ze]) <;> rfl, zS35.ch⟩

set_option maxRecDepth 100000 in
set_option maxHeartbeats 4000000 in
theorem place_ (p : Sd.Pol) (ka : Nat → Option Addr) (kn kc : Nat → Nat) (s : Int) (w : World) :
    Gives Try.prog 45 #[.agg #[.int .i64 (p.i 0), .int .i64 (p.i 1), .int .i64 (p.i 2), .int .i64 (p.i 3), .int .i64 (p.i 4)], .int .i64 s] w fun v w1 => v = .int .i64 (Sd.placeOf p s) ∧ Ch [] w w1 := by
 have S0 := St.nil [] w
 refine enter_ Try.func45 rfl ?_
 refine seq_ (reg_ ?_)
 refine new_ S0 (fun b => .pointer (some ⟨b, 0, none⟩)) (.cells #[.int .i64 (p.i 0), .int .i64 (p.i 1), .int .i64 (p.i 2), .int .i64 (p.i 3), .int .i64 (p.i 4)] 102) ?_
 intro zb1 zw2 zS3
 refine pure_ (.int .i64 0) ?_
 refine nil_ (then_n (seq_ (seq_ (reg_ ?_))))
 refine loadN_ zS3 0 5 #[.int .i64 (p.i 0), .int .i64 (p.i 1), .int .i64 (p.i 2), .int .i64 (p.i 3), .int .i64 (p.i 4)] zb1 0 ?_
 refine pure_ (.int .i64 0) ?_
 refine nil_ (then_n (wp_block (loop_ 24 (seq_ (reg_ ?_)))))
 refine pure_ (.bool true) ?_
 refine nil_ (then_n (seq_ (cond_T ?_)))
 refine wp_skip (then_n (seq_ (wp_block (seq_ (reg_ ?_)))))
 refine pure_ (.int .i64 0) ?_
 refine pure_ (.int .i64 (p.i 0)) ?_
 refine pure_ (.int .i64 0) ?_
 refine pure_ (.int .i64 (p.i 0)) ?_
 refine nil_ (then_n (seq_ (reg_ ?_)))
 refine pure_ (.int .i64 (p.i 0)) ?_
 refine pure_ (.int .i64 s) ?_
 refine pure_ (.bool ((p.i 0) == s)) ?_
 refine nil_ (then_n ?_)
 refine cond_S ((p.i 0) == s) ?_ ?_
 · intro zh4
   have zh5 := eqT' zh4
   refine seq_ (reg_ ?_)
   refine pure_ (.int .i64 0) ?_
   refine pure_ (.int .i64 0) ?_
   refine nil_ (then_n (wp_ret (blk_r (then_r (then_r (blk_r (then_r ?_)))))))
   refine ret_ rfl (res_ [.tmp 4] [.int .i64 0] (.int .i64 0) ⟨res_tmp, trivial⟩) ?_
   exact ⟨congrArg _ (by unfold Sd.placeOf; (repeat' split) <;> first | rfl | omega), zS3.ch⟩
 intro zh6
 have zh7 := eqF' zh6
 refine wp_skip (blk_n (then_n (reg_ ?_)))
 refine pure_ (.int .i64 1) ?_
 refine pure_ (.int .i64 1) ?_
 refine nil_ (again_ (seq_ (reg_ ?_)))
 refine pure_ (.bool true) ?_
 refine nil_ (then_n (seq_ (cond_T ?_)))
 refine wp_skip (then_n (seq_ (wp_block (seq_ (reg_ ?_)))))
 refine pure_ (.int .i64 1) ?_
 refine pure_ (.int .i64 (p.i 1)) ?_
 refine pure_ (.int .i64 1) ?_
 refine pure_ (.int .i64 (p.i 1)) ?_
 refine nil_ (then_n (seq_ (reg_ ?_)))
 refine pure_ (.int .i64 (p.i 1)) ?_
 refine pure_ (.int .i64 s) ?_
 refine pure_ (.bool ((p.i 1) == s)) ?_
 refine nil_ (then_n ?_)
 refine cond_S ((p.i 1) == s) ?_ ?_
 · intro zh8
   have zh9 := eqT' zh8
   refine seq_ (reg_ ?_)
   refine pure_ (.int .i64 1) ?_
   refine pure_ (.int .i64 1) ?_
   refine nil_ (then_n (wp_ret (blk_r (then_r (then_r (blk_r (then_r ?_)))))))
   refine ret_ rfl (res_ [.tmp 4] [.int .i64 1] (.int .i64 1) ⟨res_tmp, trivial⟩) ?_
   exact ⟨congrArg _ (by unfold Sd.placeOf; (repeat' split) <;> first | rfl | omega), zS3.ch⟩
 intro zh10
 have zh11 := eqF' zh10
 refine wp_skip (blk_n (then_n (reg_ ?_)))
 refine pure_ (.int .i64 2) ?_
 refine pure_ (.int .i64 2) ?_
 refine nil_ (again_ (seq_ (reg_ ?_)))
 refine pure_ (.bool true) ?_
 refine nil_ (then_n (seq_ (cond_T ?_)))
 refine wp_skip (then_n (seq_ (wp_block (seq_ (reg_ ?_)))))
 refine pure_ (.int .i64 2) ?_
 refine pure_ (.int .i64 (p.i 2)) ?_
 refine pure_ (.int .i64 2) ?_
 refine pure_ (.int .i64 (p.i 2)) ?_
 refine nil_ (then_n (seq_ (reg_ ?_)))
 refine pure_ (.int .i64 (p.i 2)) ?_
 refine pure_ (.int .i64 s) ?_
 refine pure_ (.bool ((p.i 2) == s)) ?_
 refine nil_ (then_n ?_)
 refine cond_S ((p.i 2) == s) ?_ ?_
 · intro zh12
   have zh13 := eqT' zh12
   refine seq_ (reg_ ?_)
   refine pure_ (.int .i64 2) ?_
   refine pure_ (.int .i64 2) ?_
   refine nil_ (then_n (wp_ret (blk_r (then_r (then_r (blk_r (then_r ?_)))))))
   refine ret_ rfl (res_ [.tmp 4] [.int .i64 2] (.int .i64 2) ⟨res_tmp, trivial⟩) ?_
   exact ⟨congrArg _ (by unfold Sd.placeOf; (repeat' split) <;> first | rfl | omega), zS3.ch⟩
 intro zh14
 have zh15 := eqF' zh14
 refine wp_skip (blk_n (then_n (reg_ ?_)))
 refine pure_ (.int .i64 3) ?_
 refine pure_ (.int .i64 3) ?_
 refine nil_ (again_ (seq_ (reg_ ?_)))
 refine pure_ (.bool true) ?_
 refine nil_ (then_n (seq_ (cond_T ?_)))
 refine wp_skip (then_n (seq_ (wp_block (seq_ (reg_ ?_)))))
 refine pure_ (.int .i64 3) ?_
 refine pure_ (.int .i64 (p.i 3)) ?_
 refine pure_ (.int .i64 3) ?_
 refine pure_ (.int .i64 (p.i 3)) ?_
 refine nil_ (then_n (seq_ (reg_ ?_)))
 refine pure_ (.int .i64 (p.i 3)) ?_
 refine pure_ (.int .i64 s) ?_
 refine pure_ (.bool ((p.i 3) == s)) ?_
 refine nil_ (then_n ?_)
 refine cond_S ((p.i 3) == s) ?_ ?_
 · intro zh16
   have zh17 := eqT' zh16
   refine seq_ (reg_ ?_)
   refine pure_ (.int .i64 3) ?_
   refine pure_ (.int .i64 3) ?_
   refine nil_ (then_n (wp_ret (blk_r (then_r (then_r (blk_r (then_r ?_)))))))
   refine ret_ rfl (res_ [.tmp 4] [.int .i64 3] (.int .i64 3) ⟨res_tmp, trivial⟩) ?_
   exact ⟨congrArg _ (by unfold Sd.placeOf; (repeat' split) <;> first | rfl | omega), zS3.ch⟩
 intro zh18
 have zh19 := eqF' zh18
 refine wp_skip (blk_n (then_n (reg_ ?_)))
 refine pure_ (.int .i64 4) ?_
 refine pure_ (.int .i64 4) ?_
 refine nil_ (again_ (seq_ (reg_ ?_)))
 refine pure_ (.bool true) ?_
 refine nil_ (then_n (seq_ (cond_T ?_)))
 refine wp_skip (then_n (seq_ (wp_block (seq_ (reg_ ?_)))))
 refine pure_ (.int .i64 4) ?_
 refine pure_ (.int .i64 (p.i 4)) ?_
 refine pure_ (.int .i64 4) ?_
 refine pure_ (.int .i64 (p.i 4)) ?_
 refine nil_ (then_n (seq_ (reg_ ?_)))
 refine pure_ (.int .i64 (p.i 4)) ?_
 refine pure_ (.int .i64 s) ?_
 refine pure_ (.bool ((p.i 4) == s)) ?_
 refine nil_ (then_n ?_)
 refine cond_S ((p.i 4) == s) ?_ ?_
 · intro zh20
   have zh21 := eqT' zh20
   refine seq_ (reg_ ?_)
   refine pure_ (.int .i64 4) ?_
   refine pure_ (.int .i64 4) ?_
   refine nil_ (then_n (wp_ret (blk_r (then_r (then_r (blk_r (then_r ?_)))))))
   refine ret_ rfl (res_ [.tmp 4] [.int .i64 4] (.int .i64 4) ⟨res_tmp, trivial⟩) ?_
   exact ⟨congrArg _ (by unfold Sd.placeOf; (repeat' split) <;> first | rfl | omega), zS3.ch⟩
 intro zh22
 have zh23 := eqF' zh22
 refine wp_skip (blk_n (then_n (reg_ ?_)))
 refine pure_ (.int .i64 5) ?_
 refine pure_ (.int .i64 5) ?_
 refine nil_ (again_ (seq_ (reg_ ?_)))
 refine pure_ (.bool false) ?_
 refine nil_ (then_n (seq_ (cond_F ?_)))
 refine wp_exit (then_e (then_e (blk_e (then_n (seq_ (reg_ ?_))))))
 refine pure_ (.int .i64 (-1)) ?_
 refine nil_ (then_n (wp_ret ?_))
 refine ret_ rfl (res_ [.tmp 4] [.int .i64 (-1)] (.int .i64 (-1)) ⟨res_tmp, trivial⟩) ?_
 exact ⟨congrArg _ (by unfold Sd.placeOf; (repeat' split) <;> first | rfl | omega), zS3.ch⟩

set_option maxRecDepth 100000 in
set_option maxHeartbeats 4000000 in
theorem rank_ (p : Sd.Pol) (ka : Nat → Option Addr) (kn kc : Nat → Nat) (s : Int) (w : World) :
    Gives Try.prog 37 #[.agg (polP p ka kn kc), .int .i64 s] w fun v w1 => v = .int .i64 (Sd.placeOf p s) ∧ Ch [] w w1 := by
 have S0 := St.nil [] w
 refine enter_ Try.func37 rfl ?_
 refine seq_ (reg_ ?_)
 refine new_ S0 (fun b => .pointer (some ⟨b, 0, none⟩)) (.cells (polP p ka kn kc) 48) ?_
 intro zb1 zw2 zS3
 refine pure_ (.int .i64 0) ?_
 refine nil_ (then_n (seq_ (reg_ ?_)))
 refine pure_ (.func (.func 45) #[] #[]) ?_
 refine nil_ (then_n (seq_ (reg_ ?_)))
 refine pure_ (.func (.func 45) #[] #[]) ?_
 refine pure_ (.pointer (some ⟨zb1, 0, none⟩)) ?_
 refine loadN_ zS3 0 5 #[.int .i64 (p.i 0), .int .i64 (p.i 1), .int .i64 (p.i 2), .int .i64 (p.i 3), .int .i64 (p.i 4)] zb1 0 ?_
 refine pure_ (.int .i64 s) ?_
 refine call_ 45 #[.agg #[.int .i64 (p.i 0), .int .i64 (p.i 1), .int .i64 (p.i 2), .int .i64 (p.i 3), .int .i64 (p.i 4)], .int .i64 s] ?_
 refine (place_ p ka kn kc s _).mono ?_; rintro _ zw4 ⟨rfl, zh5⟩
 have zS6 := zS3.quiet zh5
 refine assign_ ?_
 refine nil_ (then_n (wp_ret ?_))
 refine ret_ rfl (res_ [.tmp 4] [.int .i64 (Sd.placeOf p s)] (.int .i64 (Sd.placeOf p s)) ⟨res_tmp, trivial⟩) ?_
 have ze : Sd.placeOf p s = (Sd.placeOf p s) := by first | rfl | (simp []; done) | (simp []; rfl) | (simp []; simp []; done) | (simp []; simp []; rfl) | (simp []; omega) | (unfold Sd.sat; (repeat' split) <;> first | rfl | assumption | omega | (simp_all; done) | (simp_all; omega))
 exact ⟨by (rw [ze]) <;> rfl, zS6.ch⟩

set_option maxRecDepth 100000 in
set_option maxHeartbeats 4000000 in
theorem higher_ (p : Sd.Pol) (ka : Nat → Option Addr) (kn kc : Nat → Nat) (a : Int) (b : Int) (w : World) :
    Gives Try.prog 35 #[.agg (polP p ka kn kc), .int .i64 a, .int .i64 b] w fun v w1 => v = .bool (Sd.higher p a b) ∧ Ch [] w w1 := by
 have S0 := St.nil [] w
 refine enter_ Try.func35 rfl ?_
 refine seq_ (reg_ ?_)
 refine new_ S0 (fun b => .pointer (some ⟨b, 0, none⟩)) (.cells (polP p ka kn kc) 48) ?_
 intro zb1 zw2 zS3
 refine pure_ (.bool false) ?_
 refine nil_ (then_n (seq_ (reg_ ?_)))
 refine pure_ (.func (.func 45) #[] #[]) ?_
 refine nil_ (then_n (seq_ ?_))
 refine drawnL_ 9 [⟨0, fun _ => .func (.func 45) #[] #[], fun _ => []⟩, ⟨0, fun _ => .pointer (some ⟨zb1, 0, none⟩), fun _ => []⟩, ⟨0, fun _ => .agg #[.int .i64 (p.i 0), .int .i64 (p.i 1), .int .i64 (p.i 2), .int .i64 (p.i 3), .int .i64 (p.i 4)], fun _ => []⟩, ⟨0, fun _ => .int .i64 a, fun _ => []⟩, ⟨0, fun _ => .int .i64 (Sd.placeOf p a), fun _ => []⟩, ⟨0, fun _ => .func (.func 45) #[] #[], fun _ => []⟩, ⟨0, fun _ => .pointer (some ⟨zb1, 0, none⟩), fun _ => []⟩, ⟨0, fun _ => .agg #[.int .i64 (p.i 0), .int .i64 (p.i 1), .int .i64 (p.i 2), .int .i64 (p.i 3), .int .i64 (p.i 4)], fun _ => []⟩, ⟨0, fun _ => .int .i64 b, fun _ => []⟩] [[9, 4, 0], [9, 4, 2, 1], [9, 4, 2], [9, 4, 3], [9, 4], [9, 5], [9, 7, 6], [9, 7], [9, 8], [10, 0], [10, 1], [10, 2], [10, 3], [10, 4], [10, 9, 5], [10, 9, 7, 6], [10, 9, 7], [10, 9, 8], [10, 9], [11, 0], [11, 1], [11, 2], [11, 3], [11, 4], [11, 5], [11, 6], [11, 7], [11, 8], [11, 9], [11, 10]] ?_ ?_
 · refine step_cons ?_ ?_
   · intro zy4 zw5 zhc6 zhf7 zhp8
     have zh9 : zy4 7 = .func (.func 45) #[] #[] := (zhf7 7 (by kernel_rfl)).trans (by kernel_rfl)
     have zS10 := zS3.quiet zhc6
     refine step1 ?_
     refine yenv [(7, .func (.func 45) #[] #[])] (ag_cons zh9 (ag_nil)) ?_
     have zS11 := zS10.loc
     refine Y.pure_ (.func (.func 45) #[] #[]) ?_
     exact ⟨zS11.ch, Sp.mk_holds [] (all_nil)⟩
   refine step_cons ?_ ?_
   · intro zy12 zw13 zhc14 zhf15 zhp16
     have zh17 : zy12 3 = .pointer (some ⟨zb1, 0, none⟩) := (zhf15 3 (by kernel_rfl)).trans (by kernel_rfl)
     have zS18 := zS3.quiet zhc14
     refine step1 ?_
     refine yenv [(3, .pointer (some ⟨zb1, 0, none⟩))] (ag_cons zh17 (ag_nil)) ?_
     have zS19 := zS18.loc
     refine Y.pure_ (.pointer (some ⟨zb1, 0, none⟩)) ?_
     exact ⟨zS19.ch, Sp.mk_holds [] (all_nil)⟩
   refine step_cons ?_ ?_
   · intro zy20 zw21 zhc22 zhf23 zhp24
     have zh25 : zy20 11 = .pointer (some ⟨zb1, 0, none⟩) := (Sp.out0 (zhp24 1 11 (by kernel_rfl) (by kernel_rfl))).1
     have zS26 := zS3.quiet zhc22
     refine step1 ?_
     refine yenv [(11, .pointer (some ⟨zb1, 0, none⟩))] (ag_cons zh25 (ag_nil)) ?_
     have zS27 := zS26.loc
     refine Y.loadN_ zS27 0 5 #[.int .i64 (p.i 0), .int .i64 (p.i 1), .int .i64 (p.i 2), .int .i64 (p.i 3), .int .i64 (p.i 4)] zb1 0 ?_
     exact ⟨zS27.ch, Sp.mk_holds [] (all_nil)⟩
   refine step_cons ?_ ?_
   · intro zy28 zw29 zhc30 zhf31 zhp32
     have zh33 : zy28 1 = .int .i64 a := (zhf31 1 (by kernel_rfl)).trans (by kernel_rfl)
     have zS34 := zS3.quiet zhc30
     refine step1 ?_
     refine yenv [(1, .int .i64 a)] (ag_cons zh33 (ag_nil)) ?_
     have zS35 := zS34.loc
     refine Y.pure_ (.int .i64 a) ?_
     exact ⟨zS35.ch, Sp.mk_holds [] (all_nil)⟩
   refine step_cons ?_ ?_
   · intro zy36 zw37 zhc38 zhf39 zhp40
     have zh41 : zy36 10 = .func (.func 45) #[] #[] := (Sp.out0 (zhp40 0 10 (by kernel_rfl) (by kernel_rfl))).1
     have zh42 : zy36 12 = .agg #[.int .i64 (p.i 0), .int .i64 (p.i 1), .int .i64 (p.i 2), .int .i64 (p.i 3), .int .i64 (p.i 4)] := (Sp.out0 (zhp40 2 12 (by kernel_rfl) (by kernel_rfl))).1
     have zh43 : zy36 13 = .int .i64 a := (Sp.out0 (zhp40 3 13 (by kernel_rfl) (by kernel_rfl))).1
     have zS44 := zS3.quiet zhc38
     refine step1 ?_
     refine yenv [(10, .func (.func 45) #[] #[]), (12, .agg #[.int .i64 (p.i 0), .int .i64 (p.i 1), .int .i64 (p.i 2), .int .i64 (p.i 3), .int .i64 (p.i 4)]), (13, .int .i64 a)] (ag_cons zh41 (ag_cons zh42 (ag_cons zh43 (ag_nil)))) ?_
     have zS45 := zS44.loc
     refine Y.call_ 45 #[.agg #[.int .i64 (p.i 0), .int .i64 (p.i 1), .int .i64 (p.i 2), .int .i64 (p.i 3), .int .i64 (p.i 4)], .int .i64 a] ?_
     refine (place_ p ka kn kc a _).mono ?_; rintro _ zw46 ⟨rfl, zh47⟩
     have zS48 := zS45.quiet zh47
     exact ⟨zS48.ch, Sp.mk_holds [] (all_nil)⟩
   refine step_cons ?_ ?_
   · intro zy49 zw50 zhc51 zhf52 zhp53
     have zh54 : zy49 7 = .func (.func 45) #[] #[] := (zhf52 7 (by kernel_rfl)).trans (by kernel_rfl)
     have zS55 := zS3.quiet zhc51
     refine step1 ?_
     refine yenv [(7, .func (.func 45) #[] #[])] (ag_cons zh54 (ag_nil)) ?_
     have zS56 := zS55.loc
     refine Y.pure_ (.func (.func 45) #[] #[]) ?_
     exact ⟨zS56.ch, Sp.mk_holds [] (all_nil)⟩
   refine step_cons ?_ ?_
   · intro zy57 zw58 zhc59 zhf60 zhp61
     have zh62 : zy57 3 = .pointer (some ⟨zb1, 0, none⟩) := (zhf60 3 (by kernel_rfl)).trans (by kernel_rfl)
     have zS63 := zS3.quiet zhc59
     refine step1 ?_
     refine yenv [(3, .pointer (some ⟨zb1, 0, none⟩))] (ag_cons zh62 (ag_nil)) ?_
     have zS64 := zS63.loc
     refine Y.pure_ (.pointer (some ⟨zb1, 0, none⟩)) ?_
     exact ⟨zS64.ch, Sp.mk_holds [] (all_nil)⟩
   refine step_cons ?_ ?_
   · intro zy65 zw66 zhc67 zhf68 zhp69
     have zh70 : zy65 16 = .pointer (some ⟨zb1, 0, none⟩) := (Sp.out0 (zhp69 6 16 (by kernel_rfl) (by kernel_rfl))).1
     have zS71 := zS3.quiet zhc67
     refine step1 ?_
     refine yenv [(16, .pointer (some ⟨zb1, 0, none⟩))] (ag_cons zh70 (ag_nil)) ?_
     have zS72 := zS71.loc
     refine Y.loadN_ zS72 0 5 #[.int .i64 (p.i 0), .int .i64 (p.i 1), .int .i64 (p.i 2), .int .i64 (p.i 3), .int .i64 (p.i 4)] zb1 0 ?_
     exact ⟨zS72.ch, Sp.mk_holds [] (all_nil)⟩
   refine step_cons ?_ ?_
   · intro zy73 zw74 zhc75 zhf76 zhp77
     have zh78 : zy73 2 = .int .i64 b := (zhf76 2 (by kernel_rfl)).trans (by kernel_rfl)
     have zS79 := zS3.quiet zhc75
     refine step1 ?_
     refine yenv [(2, .int .i64 b)] (ag_cons zh78 (ag_nil)) ?_
     have zS80 := zS79.loc
     refine Y.pure_ (.int .i64 b) ?_
     exact ⟨zS80.ch, Sp.mk_holds [] (all_nil)⟩
   exact step_nil
 intro zv81 zw82 zhc83 zha84
 have zh85 : zv81 0 = .func (.func 45) #[] #[] := (Sp.out0 (zha84 0 (by kernel_rfl))).1
 have zh86 : zv81 1 = .pointer (some ⟨zb1, 0, none⟩) := (Sp.out0 (zha84 1 (by kernel_rfl))).1
 have zh87 : zv81 2 = .agg #[.int .i64 (p.i 0), .int .i64 (p.i 1), .int .i64 (p.i 2), .int .i64 (p.i 3), .int .i64 (p.i 4)] := (Sp.out0 (zha84 2 (by kernel_rfl))).1
 have zh88 : zv81 3 = .int .i64 a := (Sp.out0 (zha84 3 (by kernel_rfl))).1
 have zh89 : zv81 4 = .int .i64 (Sd.placeOf p a) := (Sp.out0 (zha84 4 (by kernel_rfl))).1
 have zh90 : zv81 5 = .func (.func 45) #[] #[] := (Sp.out0 (zha84 5 (by kernel_rfl))).1
 have zh91 : zv81 6 = .pointer (some ⟨zb1, 0, none⟩) := (Sp.out0 (zha84 6 (by kernel_rfl))).1
 have zh92 : zv81 7 = .agg #[.int .i64 (p.i 0), .int .i64 (p.i 1), .int .i64 (p.i 2), .int .i64 (p.i 3), .int .i64 (p.i 4)] := (Sp.out0 (zha84 7 (by kernel_rfl))).1
 have zh93 : zv81 8 = .int .i64 b := (Sp.out0 (zha84 8 (by kernel_rfl))).1
 have zS94 := zS3.quiet zhc83
 refine ⟨[.func (.func 45) #[] #[], .pointer (some ⟨zb1, 0, none⟩), .agg #[.int .i64 (p.i 0), .int .i64 (p.i 1), .int .i64 (p.i 2), .int .i64 (p.i 3), .int .i64 (p.i 4)], .int .i64 a, .int .i64 (Sd.placeOf p a), .func (.func 45) #[] #[], .pointer (some ⟨zb1, 0, none⟩), .agg #[.int .i64 (p.i 0), .int .i64 (p.i 1), .int .i64 (p.i 2), .int .i64 (p.i 3), .int .i64 (p.i 4)], .int .i64 b], by kernel_rfl, va_cons zh85 (va_cons zh86 (va_cons zh87 (va_cons zh88 (va_cons zh89 (va_cons zh90 (va_cons zh91 (va_cons zh92 (va_cons zh93 (va_nil))))))))), ?_⟩
 refine call_ 45 #[.agg #[.int .i64 (p.i 0), .int .i64 (p.i 1), .int .i64 (p.i 2), .int .i64 (p.i 3), .int .i64 (p.i 4)], .int .i64 b] ?_
 refine (place_ p ka kn kc b _).mono ?_; rintro _ zw95 ⟨rfl, zh96⟩
 have zS97 := zS94.quiet zh96
 refine assign_ ?_
 refine assign_ ?_
 refine nil_ (then_n (seq_ (reg_ ?_)))
 refine move_ ?_
 refine pure_ (.bool ((Sd.placeOf p a) != (-1))) ?_
 refine move_ ?_
 refine slot_ 22 ((Sd.placeOf p a) != (-1)) ?_ ?_
 · intro zh98
   have zh99 := neT' zh98
   refine move_ ?_
   refine pure_ (.bool ((Sd.placeOf p b) != (-1))) ?_
   refine pure_ (.bool ((Sd.placeOf p b) != (-1))) ?_
   refine move_ ?_
   refine slot_ 26 ((Sd.placeOf p b) != (-1)) ?_ ?_
   · intro zh100
     have zh101 := neT' zh100
     refine move_ ?_
     refine move_ ?_
     refine pure_ (.bool (decide ((Sd.placeOf p a) < (Sd.placeOf p b)))) ?_
     refine pure_ (.bool (decide ((Sd.placeOf p a) < (Sd.placeOf p b)))) ?_
     refine assign_ ?_
     refine nil_ (then_n (wp_ret ?_))
     refine ret_ rfl (res_ [.tmp 6] [.bool (decide ((Sd.placeOf p a) < (Sd.placeOf p b)))] (.bool (decide ((Sd.placeOf p a) < (Sd.placeOf p b)))) ⟨res_tmp, trivial⟩) ?_
     have ze : Sd.higher p a b = (decide ((Sd.placeOf p a) < (Sd.placeOf p b))) := by first | rfl | (simp [Sd.higher, zh98, zh100, zh99, zh101]; done) | (simp [Sd.higher, zh98, zh100, zh99, zh101]; rfl) | (simp [Sd.higher, zh98, zh100]; simp [Sd.higher, zh98, zh100, zh99, zh101]; done) | (simp [Sd.higher, zh98, zh100]; simp [Sd.higher, zh98, zh100, zh99, zh101]; rfl) | (simp [Sd.higher, zh98, zh100, zh99, zh101]; omega) | (unfold Sd.higher; (repeat' split) <;> first | rfl | assumption | omega | (simp_all; done) | (simp_all; omega))
     exact ⟨by (rw [ze]) <;> rfl, zS97.ch⟩
   intro zh102
   have zh103 := neF' zh102
   refine skip_ ?_
   refine skip_ ?_
   refine skip_ ?_
   refine pure_ (.bool false) ?_
   refine pure_ (.bool false) ?_
   refine nil_ (then_n (wp_ret ?_))
   refine ret_ rfl (res_ [.tmp 6] [.bool false] (.bool false) ⟨res_tmp, trivial⟩) ?_
   have ze : Sd.higher p a b = false := by first | rfl | (simp [Sd.higher, zh98, zh102, zh99, zh103]; done) | (simp [Sd.higher, zh98, zh102, zh99, zh103]; rfl) | (simp [Sd.higher, zh98, zh102]; simp [Sd.higher, zh98, zh102, zh99, zh103]; done) | (simp [Sd.higher, zh98, zh102]; simp [Sd.higher, zh98, zh102, zh99, zh103]; rfl) | (simp [Sd.higher, zh98, zh102, zh99, zh103]; omega) | (unfold Sd.higher; (repeat' split) <;> first | rfl | assumption | omega | (simp_all; done) | (simp_all; omega))
   exact ⟨by (rw [ze]) <;> rfl, zS97.ch⟩
 intro zh104
 have zh105 := neF' zh104
 refine skip_ ?_
 refine skip_ ?_
 refine pure_ (.bool false) ?_
 refine pure_ (.bool false) ?_
 refine skip_ ?_
 refine skip_ ?_
 refine skip_ ?_
 refine pure_ (.bool false) ?_
 refine pure_ (.bool false) ?_
 refine nil_ (then_n (wp_ret ?_))
 refine ret_ rfl (res_ [.tmp 6] [.bool false] (.bool false) ⟨res_tmp, trivial⟩) ?_
 have ze : Sd.higher p a b = false := by first | rfl | (simp [Sd.higher, zh104, zh105]; done) | (simp [Sd.higher, zh104, zh105]; rfl) | (simp [Sd.higher, zh104]; simp [Sd.higher, zh104, zh105]; done) | (simp [Sd.higher, zh104]; simp [Sd.higher, zh104, zh105]; rfl) | (simp [Sd.higher, zh104, zh105]; omega) | (unfold Sd.higher; (repeat' split) <;> first | rfl | assumption | omega | (simp_all; done) | (simp_all; omega))
 exact ⟨by (rw [ze]) <;> rfl, zS97.ch⟩

end Go.Proofs.Ytmfhgekknjghoaa
