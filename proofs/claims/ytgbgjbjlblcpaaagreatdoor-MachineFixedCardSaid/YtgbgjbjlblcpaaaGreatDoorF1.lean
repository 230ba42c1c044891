/- core.New: its parts. -/
import Derived.Test.YtgbgjbjlblcpaaaGreatDoorF0
namespace Go.Proofs.YtgbgjbjlblcpaaaGreatDoor
open Go Go.RowKit Go.BigFrame Sx
set_option linter.unusedVariables false
set_option linter.unusedSimpArgs false

theorem checkP_ (p : Sd.Pol) (ka : Nat → Option Addr) (kn kc : Nat → Nat) (w : World) : Gives Tryz.prog 23 #[.agg (polP p ka kn kc)] w fun v w1 => v = .int .i64 (polCode p.i kn) ∧ Ch [] w w1 := check_any p.i ka kn kc w
theorem queue_ok {q : Nat → Int} {kn : Nat → Nat} (h : polCode q kn = 0) : 1 ≤ q 48 ∧ q 48 ≤ 3 := by
  have : allI 1 3 [q 48, q 49] = true := by
    cases e : allI 1 3 [q 48, q 49] with
    | true => rfl
    | false =>
      exfalso
      unfold polCode at h
      repeat' split at h
      all_goals first | omega | (rename_i h48; simp [e] at h48)
  simp only [allI, inB, Bool.and_eq_true, decide_eq_true_eq] at this
  exact this.1

set_option maxRecDepth 100000 in
set_option maxHeartbeats 4000000 in
theorem safe_  (w : World) :
    Gives Tryz.prog 33 #[] w fun v w1 => v = .agg #[.int .i64 2, .int .i64 4, .int .i64 0] ∧ Ch [] w w1 := by
 have S0 := St.nil [] w
 refine enter_ Tryz.func33 rfl ?_
 refine seq_ (reg_ ?_)
 refine new_ S0 (fun b => .pointer (some ⟨b, 0, none⟩)) (.cells #[.int .i64 0, .int .i64 0, .int .i64 0] 39) ?_
 intro zb1 zw2 zS3
 refine nil_ (then_n (seq_ (reg_ ?_)))
 refine pure_ (.agg #[.int .i64 2, .int .i64 4, .int .i64 0]) ?_
 refine store_ zS3 0 (.agg #[.int .i64 2, .int .i64 4, .int .i64 0]) zb1 0 ?_
 intro zw4 zS5
 refine nil_ (then_n (wp_ret ?_))
 refine ret_ rfl (res_ [.cell 0 39] [.agg #[.int .i64 2, .int .i64 4, .int .i64 0]] (.agg #[.int .i64 2, .int .i64 4, .int .i64 0]) ⟨res_cellN zS5 0 3 zb1 0, trivial⟩) ?_
 exact ⟨rfl, zS5.ch⟩

set_option maxRecDepth 100000 in
set_option maxHeartbeats 4000000 in
theorem head0_  (w : World) :
    Gives Tryz.prog 19 #[.slice none 0 0] w fun v w1 => v = .agg (rowF .u8 32 (fun _ => 0)) ∧ Ch [] w w1 := by
 have S0 := St.nil [] w
 refine enter_ Tryz.func19 rfl ?_
 refine seq_ (reg_ ?_)
 refine new_ S0 (fun b => .pointer (some ⟨b, 0, none⟩)) (.cells (rowF .u8 32 (fun _ => 0)) 52) ?_
 intro zb1 zw2 zS3
 refine nil_ (then_n (seq_ (reg_ ?_)))
 refine new_ zS3 (fun b => .pointer (some ⟨b, 0, none⟩)) (.cells (rowF .u8 32 (fun _ => 0)) 52) ?_
 intro zb4 zw5 zS6
 refine nil_ (then_n (seq_ (seq_ (reg_ ?_))))
 refine pure_ (.slice none 0 0) ?_
 refine pure_ (.int .i64 0) ?_
 refine pure_ (.int .i64 0) ?_
 refine nil_ (then_n (wp_block (loop_ 24 (seq_ (reg_ ?_)))))
 refine pure_ (.bool false) ?_
 refine nil_ (then_n (seq_ (cond_F ?_)))
 refine wp_exit (then_e (then_e (blk_e (then_n (seq_ (reg_ ?_))))))
 refine loadN_ zS6 0 32 (rowF .u8 32 (fun _ => 0)) zb4 0 ?_
 refine store_ zS6 1 (.agg (rowF .u8 32 (fun _ => 0))) zb1 0 ?_
 intro zw7 zS8
 refine nil_ (then_n (wp_ret ?_))
 refine ret_ rfl (res_ [.cell 2 52] [.agg (rowF .u8 32 (fun _ => 0))] (.agg (rowF .u8 32 (fun _ => 0))) ⟨res_cellN zS8 1 32 zb1 0, trivial⟩) ?_
 exact ⟨rfl, zS8.ch⟩

set_option maxRecDepth 100000 in
set_option maxHeartbeats 4000000 in
theorem tabnew_ (p : Sd.Pol) (ka : Nat → Option Addr) (kn kc : Nat → Nat) (w : World) {ms : List Nat} {w0 : World} {bs : List Blk} (S0 : St ms w0 bs w) :
    Gives Tryz.prog 32 #[.agg (polP p ka kn kc)] w fun v w1 => ∃ bt, v = .pointer (some ⟨bt, 0, none⟩) ∧ St ms w0 (⟨bt, true, .cells #[.bool false, .int .i64 0, .int .i64 0, .bool false, .int .i64 0, .int .i64 0, .int .i64 0, .int .u8 0, .int .u8 0, .int .u8 0, .int .u8 0, .int .u8 0, .int .u8 0, .int .u8 0, .int .u8 0, .int .u8 0, .int .u8 0, .int .u8 0, .int .u8 0, .int .u8 0, .int .u8 0, .int .u8 0, .int .u8 0, .int .u8 0, .int .u8 0, .int .u8 0, .int .u8 0, .int .u8 0, .int .u8 0, .int .u8 0, .int .u8 0, .int .u8 0, .int .u8 0, .int .u8 0, .int .u8 0, .int .u8 0, .int .u8 0, .int .u8 0, .int .u8 0, .bool false, .int .i64 0, .int .u64 0, .bool false, .int .i64 0, .int .i64 0, .int .i64 0, .int .u8 0, .int .u8 0, .int .u8 0, .int .u8 0, .int .u8 0, .int .u8 0, .int .u8 0, .int .u8 0, .int .u8 0, .int .u8 0, .int .u8 0, .int .u8 0, .int .u8 0, .int .u8 0, .int .u8 0, .int .u8 0, .int .u8 0, .int .u8 0, .int .u8 0, .int .u8 0, .int .u8 0, .int .u8 0, .int .u8 0, .int .u8 0, .int .u8 0, .int .u8 0, .int .u8 0, .int .u8 0, .int .u8 0, .int .u8 0, .int .u8 0, .int .u8 0, .bool false, .int .i64 0, .int .u64 0, .bool false, .int .i64 0, .int .i64 0, .int .i64 0, .int .u8 0, .int .u8 0, .int .u8 0, .int .u8 0, .int .u8 0, .int .u8 0, .int .u8 0, .int .u8 0, .int .u8 0, .int .u8 0, .int .u8 0, .int .u8 0, .int .u8 0, .int .u8 0, .int .u8 0, .int .u8 0, .int .u8 0, .int .u8 0, .int .u8 0, .int .u8 0, .int .u8 0, .int .u8 0, .int .u8 0, .int .u8 0, .int .u8 0, .int .u8 0, .int .u8 0, .int .u8 0, .int .u8 0, .int .u8 0, .int .u8 0, .int .u8 0, .bool false, .int .i64 0, .int .u64 0, .int .i64 (p.i 42), .int .i64 (p.i 49)] 164 (0, 0)⟩ :: bs) w1 := by
 refine enter_ Tryz.func32 rfl ?_
 refine seq_ (reg_ ?_)
 refine new_ S0 (fun b => .pointer (some ⟨b, 0, none⟩)) (.cells (polP p ka kn kc) 28) ?_
 intro zb1 zw2 zS3
 refine pure_ (.pointer none) ?_
 refine nil_ (then_n (seq_ (reg_ ?_)))
 refine pure_ (.pointer (some ⟨zb1, 42, none⟩)) ?_
 refine load1_ zS3 0 (.int .i64 (p.i 42)) zb1 42 ?_
 refine pure_ (.pointer (some ⟨zb1, 49, none⟩)) ?_
 refine load1_ zS3 0 (.int .i64 (p.i 49)) zb1 49 ?_
 refine pure_ (.agg #[.bool false, .int .i64 0, .int .i64 0, .bool false, .int .i64 0, .int .i64 0, .int .i64 0, .int .u8 0, .int .u8 0, .int .u8 0, .int .u8 0, .int .u8 0, .int .u8 0, .int .u8 0, .int .u8 0, .int .u8 0, .int .u8 0, .int .u8 0, .int .u8 0, .int .u8 0, .int .u8 0, .int .u8 0, .int .u8 0, .int .u8 0, .int .u8 0, .int .u8 0, .int .u8 0, .int .u8 0, .int .u8 0, .int .u8 0, .int .u8 0, .int .u8 0, .int .u8 0, .int .u8 0, .int .u8 0, .int .u8 0, .int .u8 0, .int .u8 0, .int .u8 0, .bool false, .int .i64 0, .int .u64 0, .bool false, .int .i64 0, .int .i64 0, .int .i64 0, .int .u8 0, .int .u8 0, .int .u8 0, .int .u8 0, .int .u8 0, .int .u8 0, .int .u8 0, .int .u8 0, .int .u8 0, .int .u8 0, .int .u8 0, .int .u8 0, .int .u8 0, .int .u8 0, .int .u8 0, .int .u8 0, .int .u8 0, .int .u8 0, .int .u8 0, .int .u8 0, .int .u8 0, .int .u8 0, .int .u8 0, .int .u8 0, .int .u8 0, .int .u8 0, .int .u8 0, .int .u8 0, .int .u8 0, .int .u8 0, .int .u8 0, .int .u8 0, .bool false, .int .i64 0, .int .u64 0, .bool false, .int .i64 0, .int .i64 0, .int .i64 0, .int .u8 0, .int .u8 0, .int .u8 0, .int .u8 0, .int .u8 0, .int .u8 0, .int .u8 0, .int .u8 0, .int .u8 0, .int .u8 0, .int .u8 0, .int .u8 0, .int .u8 0, .int .u8 0, .int .u8 0, .int .u8 0, .int .u8 0, .int .u8 0, .int .u8 0, .int .u8 0, .int .u8 0, .int .u8 0, .int .u8 0, .int .u8 0, .int .u8 0, .int .u8 0, .int .u8 0, .int .u8 0, .int .u8 0, .int .u8 0, .int .u8 0, .int .u8 0, .bool false, .int .i64 0, .int .u64 0, .int .i64 (p.i 42), .int .i64 (p.i 49)]) ?_
 refine new_ zS3 (fun b => .pointer (some ⟨b, 0, none⟩)) (.cells #[.bool false, .int .i64 0, .int .i64 0, .bool false, .int .i64 0, .int .i64 0, .int .i64 0, .int .u8 0, .int .u8 0, .int .u8 0, .int .u8 0, .int .u8 0, .int .u8 0, .int .u8 0, .int .u8 0, .int .u8 0, .int .u8 0, .int .u8 0, .int .u8 0, .int .u8 0, .int .u8 0, .int .u8 0, .int .u8 0, .int .u8 0, .int .u8 0, .int .u8 0, .int .u8 0, .int .u8 0, .int .u8 0, .int .u8 0, .int .u8 0, .int .u8 0, .int .u8 0, .int .u8 0, .int .u8 0, .int .u8 0, .int .u8 0, .int .u8 0, .int .u8 0, .bool false, .int .i64 0, .int .u64 0, .bool false, .int .i64 0, .int .i64 0, .int .i64 0, .int .u8 0, .int .u8 0, .int .u8 0, .int .u8 0, .int .u8 0, .int .u8 0, .int .u8 0, .int .u8 0, .int .u8 0, .int .u8 0, .int .u8 0, .int .u8 0, .int .u8 0, .int .u8 0, .int .u8 0, .int .u8 0, .int .u8 0, .int .u8 0, .int .u8 0, .int .u8 0, .int .u8 0, .int .u8 0, .int .u8 0, .int .u8 0, .int .u8 0, .int .u8 0, .int .u8 0, .int .u8 0, .int .u8 0, .int .u8 0, .int .u8 0, .int .u8 0, .bool false, .int .i64 0, .int .u64 0, .bool false, .int .i64 0, .int .i64 0, .int .i64 0, .int .u8 0, .int .u8 0, .int .u8 0, .int .u8 0, .int .u8 0, .int .u8 0, .int .u8 0, .int .u8 0, .int .u8 0, .int .u8 0, .int .u8 0, .int .u8 0, .int .u8 0, .int .u8 0, .int .u8 0, .int .u8 0, .int .u8 0, .int .u8 0, .int .u8 0, .int .u8 0, .int .u8 0, .int .u8 0, .int .u8 0, .int .u8 0, .int .u8 0, .int .u8 0, .int .u8 0, .int .u8 0, .int .u8 0, .int .u8 0, .int .u8 0, .int .u8 0, .bool false, .int .i64 0, .int .u64 0, .int .i64 (p.i 42), .int .i64 (p.i 49)] 164) ?_
 intro zb4 zw5 zS6
 refine assign_ ?_
 refine nil_ (then_n (wp_ret ?_))
 refine ret_ rfl (res_ [.tmp 2] [.pointer (some ⟨zb4, 0, none⟩)] (.pointer (some ⟨zb4, 0, none⟩)) ⟨res_tmp, trivial⟩) ?_
 exact ⟨zb4, rfl, zS6.re (R := bs) [[⟨zb4, true, .cells #[.bool false, .int .i64 0, .int .i64 0, .bool false, .int .i64 0, .int .i64 0, .int .i64 0, .int .u8 0, .int .u8 0, .int .u8 0, .int .u8 0, .int .u8 0, .int .u8 0, .int .u8 0, .int .u8 0, .int .u8 0, .int .u8 0, .int .u8 0, .int .u8 0, .int .u8 0, .int .u8 0, .int .u8 0, .int .u8 0, .int .u8 0, .int .u8 0, .int .u8 0, .int .u8 0, .int .u8 0, .int .u8 0, .int .u8 0, .int .u8 0, .int .u8 0, .int .u8 0, .int .u8 0, .int .u8 0, .int .u8 0, .int .u8 0, .int .u8 0, .int .u8 0, .bool false, .int .i64 0, .int .u64 0, .bool false, .int .i64 0, .int .i64 0, .int .i64 0, .int .u8 0, .int .u8 0, .int .u8 0, .int .u8 0, .int .u8 0, .int .u8 0, .int .u8 0, .int .u8 0, .int .u8 0, .int .u8 0, .int .u8 0, .int .u8 0, .int .u8 0, .int .u8 0, .int .u8 0, .int .u8 0, .int .u8 0, .int .u8 0, .int .u8 0, .int .u8 0, .int .u8 0, .int .u8 0, .int .u8 0, .int .u8 0, .int .u8 0, .int .u8 0, .int .u8 0, .int .u8 0, .int .u8 0, .int .u8 0, .int .u8 0, .int .u8 0, .bool false, .int .i64 0, .int .u64 0, .bool false, .int .i64 0, .int .i64 0, .int .i64 0, .int .u8 0, .int .u8 0, .int .u8 0, .int .u8 0, .int .u8 0, .int .u8 0, .int .u8 0, .int .u8 0, .int .u8 0, .int .u8 0, .int .u8 0, .int .u8 0, .int .u8 0, .int .u8 0, .int .u8 0, .int .u8 0, .int .u8 0, .int .u8 0, .int .u8 0, .int .u8 0, .int .u8 0, .int .u8 0, .int .u8 0, .int .u8 0, .int .u8 0, .int .u8 0, .int .u8 0, .int .u8 0, .int .u8 0, .int .u8 0, .int .u8 0, .int .u8 0, .bool false, .int .i64 0, .int .u64 0, .int .i64 (p.i 42), .int .i64 (p.i 49)] 164 (0, 0)⟩], [⟨zb1, true, .cells (polP p ka kn kc) 28 (0, 0)⟩]] [0]⟩

end Go.Proofs.YtgbgjbjlblcpaaaGreatDoor
