/- core.New: its parts. -/
import Derived.Test.YtbjanfgipcniiaaGreatDoorF0
namespace Go.Proofs.YtbjanfgipcniiaaGreatDoor
open Go Go.RowKit Go.BigFrame Sx
set_option linter.unusedVariables false
set_option linter.unusedSimpArgs false

def f3 {α : Type} (a b c : α) : Nat → α := fun j => match j with | 0 => a | 1 => b | _ => c
/-- a core's cells -/
def coreV (p : Sd.Pol) (ka : Nat → Option Addr) (kn kc : Nat → Nat) (t : Sd.Tok) (bq : Nat) (D : Nat → Sd.Door) (bt : Nat) (sa be mo : Int) (mb : Sd.Label) (pt : Sd.Point) (hd : Nat → Int) : Array Value := #[ι (p.i 0), ι (p.i 1), ι (p.i 2), ι (p.i 3), ι (p.i 4), .slice (ka 0) (kn 0) (kc 0), .slice (ka 1) (kn 1) (kc 1), .slice (ka 2) (kn 2) (kc 2), .slice (ka 3) (kn 3) (kc 3), ι (p.i 9), ι (p.i 10), ι (p.i 11), ι (p.i 12), ι (p.i 13), ι (p.i 14), ι (p.i 15), ι (p.i 16), ι (p.i 17), ι (p.i 18), ι (p.i 19), ι (p.i 20), ι (p.i 21), ι (p.i 22), ι (p.i 23), ι (p.i 24), ι (p.i 25), ι (p.i 26), ι (p.i 27), ι (p.i 28), ι (p.i 29), ι (p.i 30), ι (p.i 31), ι (p.i 32), ι (p.i 33), ι (p.i 34), ι (p.i 35), ι (p.i 36), ι (p.i 37), ι (p.i 38), ι (p.i 39), ι (p.i 40), ι (p.i 41), ι (p.i 42), ι (p.i 43), ι (p.i 44), ι (p.i 45), ι (p.i 46), ι (p.i 47), ι (p.i 48), ι (p.i 49), ι (p.i 50), ι (p.i 51), ι (p.i 52), ι (p.i 53), ι (p.i 54), ι (p.i 55), ι t.holder, ι t.epoch, ι t.offer, ι t.oa.n, ι t.oa.most, ι t.la.n, ι t.la.most, .bool t.bad, π bq 0, ι (D 0).many, .bool (D 0).opn, υ ((D 0).nonce 0), υ ((D 0).nonce 1), υ ((D 0).nonce 2), υ ((D 0).nonce 3), υ ((D 0).nonce 4), υ ((D 0).nonce 5), υ ((D 0).nonce 6), υ ((D 0).nonce 7), ι (D 1).many, .bool (D 1).opn, υ ((D 1).nonce 0), υ ((D 1).nonce 1), υ ((D 1).nonce 2), υ ((D 1).nonce 3), υ ((D 1).nonce 4), υ ((D 1).nonce 5), υ ((D 1).nonce 6), υ ((D 1).nonce 7), ι (D 2).many, .bool (D 2).opn, υ ((D 2).nonce 0), υ ((D 2).nonce 1), υ ((D 2).nonce 2), υ ((D 2).nonce 3), υ ((D 2).nonce 4), υ ((D 2).nonce 5), υ ((D 2).nonce 6), υ ((D 2).nonce 7), π bt 0, ι sa, ι be, ι mo, ι mb.rule, ι mb.source, ι mb.seq, ι pt.cls, ι pt.to_.a, ι pt.to_.b, ι pt.to_.c, ι pt.to_.d, ι pt.now.a, ι pt.now.b, ι pt.now.c, ι pt.now.d, ι pt.by_.rule, ι pt.by_.source, ι pt.by_.seq, υ (hd 0), υ (hd 1), υ (hd 2), υ (hd 3), υ (hd 4), υ (hd 5), υ (hd 6), υ (hd 7), υ (hd 8), υ (hd 9), υ (hd 10), υ (hd 11), υ (hd 12), υ (hd 13), υ (hd 14), υ (hd 15), υ (hd 16), υ (hd 17), υ (hd 18), υ (hd 19), υ (hd 20), υ (hd 21), υ (hd 22), υ (hd 23), υ (hd 24), υ (hd 25), υ (hd 26), υ (hd 27), υ (hd 28), υ (hd 29), υ (hd 30), υ (hd 31)]
/-- a table's cells -/
def tabV (st : Bool × Sd.Timer) (ses : Nat → Sd.Session) (b m : Int) : Array Value := #[.bool st.1, ι st.2.n, ι st.2.most, .bool (ses 0).on, ι (ses 0).silent.n, ι (ses 0).silent.most, ι (ses 0).role, υ ((ses 0).key 0), υ ((ses 0).key 1), υ ((ses 0).key 2), υ ((ses 0).key 3), υ ((ses 0).key 4), υ ((ses 0).key 5), υ ((ses 0).key 6), υ ((ses 0).key 7), υ ((ses 0).key 8), υ ((ses 0).key 9), υ ((ses 0).key 10), υ ((ses 0).key 11), υ ((ses 0).key 12), υ ((ses 0).key 13), υ ((ses 0).key 14), υ ((ses 0).key 15), υ ((ses 0).key 16), υ ((ses 0).key 17), υ ((ses 0).key 18), υ ((ses 0).key 19), υ ((ses 0).key 20), υ ((ses 0).key 21), υ ((ses 0).key 22), υ ((ses 0).key 23), υ ((ses 0).key 24), υ ((ses 0).key 25), υ ((ses 0).key 26), υ ((ses 0).key 27), υ ((ses 0).key 28), υ ((ses 0).key 29), υ ((ses 0).key 30), υ ((ses 0).key 31), .bool (ses 0).seen.any, ι (ses 0).seen.high, .int .u64 (ses 0).seen.seen, .bool (ses 1).on, ι (ses 1).silent.n, ι (ses 1).silent.most, ι (ses 1).role, υ ((ses 1).key 0), υ ((ses 1).key 1), υ ((ses 1).key 2), υ ((ses 1).key 3), υ ((ses 1).key 4), υ ((ses 1).key 5), υ ((ses 1).key 6), υ ((ses 1).key 7), υ ((ses 1).key 8), υ ((ses 1).key 9), υ ((ses 1).key 10), υ ((ses 1).key 11), υ ((ses 1).key 12), υ ((ses 1).key 13), υ ((ses 1).key 14), υ ((ses 1).key 15), υ ((ses 1).key 16), υ ((ses 1).key 17), υ ((ses 1).key 18), υ ((ses 1).key 19), υ ((ses 1).key 20), υ ((ses 1).key 21), υ ((ses 1).key 22), υ ((ses 1).key 23), υ ((ses 1).key 24), υ ((ses 1).key 25), υ ((ses 1).key 26), υ ((ses 1).key 27), υ ((ses 1).key 28), υ ((ses 1).key 29), υ ((ses 1).key 30), υ ((ses 1).key 31), .bool (ses 1).seen.any, ι (ses 1).seen.high, .int .u64 (ses 1).seen.seen, .bool (ses 2).on, ι (ses 2).silent.n, ι (ses 2).silent.most, ι (ses 2).role, υ ((ses 2).key 0), υ ((ses 2).key 1), υ ((ses 2).key 2), υ ((ses 2).key 3), υ ((ses 2).key 4), υ ((ses 2).key 5), υ ((ses 2).key 6), υ ((ses 2).key 7), υ ((ses 2).key 8), υ ((ses 2).key 9), υ ((ses 2).key 10), υ ((ses 2).key 11), υ ((ses 2).key 12), υ ((ses 2).key 13), υ ((ses 2).key 14), υ ((ses 2).key 15), υ ((ses 2).key 16), υ ((ses 2).key 17), υ ((ses 2).key 18), υ ((ses 2).key 19), υ ((ses 2).key 20), υ ((ses 2).key 21), υ ((ses 2).key 22), υ ((ses 2).key 23), υ ((ses 2).key 24), υ ((ses 2).key 25), υ ((ses 2).key 26), υ ((ses 2).key 27), υ ((ses 2).key 28), υ ((ses 2).key 29), υ ((ses 2).key 30), υ ((ses 2).key 31), .bool (ses 2).seen.any, ι (ses 2).seen.high, .int .u64 (ses 2).seen.seen, ι b, ι m]

theorem checkP_ (p : Sd.Pol) (ka : Nat → Option Addr) (kn kc : Nat → Nat) (w : World) : Gives Tryz.prog 28 #[.agg (polP p ka kn kc)] w fun v w1 => v = ι (polCode p.i kn) ∧ Ch [] w w1 := check_any p.i ka kn kc w
theorem queue_ok {q : Nat → Int} {kn : Nat → Nat} (h : polCode q kn = 0) : 1 ≤ q 48 ∧ q 48 ≤ 3 := by
  have : allI 1 3 [q 48, q 49] = true := by
    cases e : allI 1 3 [q 48, q 49] with
    | true => rfl
    | false =>
      exfalso
      unfold polCode at h
      repeat' split at h
      all_goals first | omega | (rename_i h48; simp [e] at h48)
  simp only [allI, inB, Bool.and_eq_true, decide_eq_true_eq] at this
  exact this.1

set_option maxRecDepth 100000 in
set_option maxHeartbeats 4000000 in
theorem safe_  (w : World) :
    Gives Tryz.prog 33 #[] w fun v w1 => v = .agg #[ι 2, ι 4, ι 0] ∧ Ch [] w w1 := by
 have S0 := St.nil [] w
 refine enter_ Tryz.func33 rfl (seq_ (reg_ ?_))
 refine new_ S0 (fun b => π b 0) (.cells #[ι 0, ι 0, ι 0] 39) ?_
 intro zb1 zw2 zS3
 refine nsr_ (pure_ (.agg #[ι 2, ι 4, ι 0]) ?_)
 refine store_ zS3 0 (.agg #[ι 2, ι 4, ι 0]) zb1 0 ?_
 intro zw4 zS5
 refine nil_ (then_n (wp_ret (ret_ rfl (res_ [.cell 0 39] [.agg #[ι 2, ι 4, ι 0]] (.agg #[ι 2, ι 4, ι 0]) ⟨res_cellN zS5 0 3 zb1 0, trivial⟩) ?_)))
 exact ⟨rfl, zS5.ch⟩

set_option maxRecDepth 100000 in
set_option maxHeartbeats 4000000 in
theorem head0_  (w : World) :
    Gives Tryz.prog 24 #[.slice none 0 0] w fun v w1 => v = .agg (rowF .u8 32 (fun _ => 0)) ∧ Ch [] w w1 := by
 have S0 := St.nil [] w
 refine enter_ Tryz.func24 rfl (seq_ (reg_ ?_))
 refine new_ S0 (fun b => π b 0) (.cells (rowF .u8 32 (fun _ => 0)) 52) ?_
 intro zb1 zw2 zS3
 refine nsr_ ?_
 refine new_ zS3 (fun b => π b 0) (.cells (rowF .u8 32 (fun _ => 0)) 52) ?_
 intro zb4 zw5 zS6
 refine nil_ (then_n (seq_ (seq_ (reg_ (pure_ (.slice none 0 0) (pure_ (ι 0) (pure_ (ι 0) (nil_ (then_n (wp_block (loop_ 24 (seq_ (reg_ (pure_ (φ) (nil_ (then_n (seq_ (cond_F (wp_exit (then_e (then_e (blk_e (then_n (seq_ (reg_ (loadN_ zS6 0 32 (rowF .u8 32 (fun _ => 0)) zb4 0 ?_))))))))))))))))))))))))))
 refine store_ zS6 1 (.agg (rowF .u8 32 (fun _ => 0))) zb1 0 ?_
 intro zw7 zS8
 refine nil_ (then_n (wp_ret (ret_ rfl (res_ [.cell 2 52] [.agg (rowF .u8 32 (fun _ => 0))] (.agg (rowF .u8 32 (fun _ => 0))) ⟨res_cellN zS8 1 32 zb1 0, trivial⟩) ?_)))
 exact ⟨rfl, zS8.ch⟩

end Go.Proofs.YtbjanfgipcniiaaGreatDoor
