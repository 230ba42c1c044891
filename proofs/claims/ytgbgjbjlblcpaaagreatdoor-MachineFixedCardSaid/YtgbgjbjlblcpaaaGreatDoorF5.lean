/- MachineFixed: the walk. -/
import Derived.Test.YtgbgjbjlblcpaaaGreatDoorF4
import Derived.Test.YtgbgjbjlblcpaaaGreatDoorF3
namespace Go.Proofs.YtgbgjbjlblcpaaaGreatDoor
open Go Go.RowKit Go.BigFrame Sx
set_option linter.unusedVariables false
set_option linter.unusedSimpArgs false

def cutK (kn : Nat → Nat) (i : Nat) : Nat := cutN 70 (kn i)
theorem cutK_is (kn : Nat → Nat) (i : Nat) : (if (70 : Int) < ((kn i : Nat) : Int) then 70 else ((kn i : Nat) : Int)) = ((cutK kn i : Nat) : Int) := cutN_is 70 (kn i)
theorem cutK_le (kn : Nat → Nat) (i : Nat) : cutK kn i ≤ kn i ∧ cutK kn i ≤ 1000000 := by unfold cutK cutN; omega
theorem keysCut {w : World} (ka : Nat → Option Addr) (kn kc : Nat → Nat) (kf : Nat → Nat → Int) (hr : ∀ i, i < 4 → KeyRd w (ka i) (kn i) (kc i) (kf i)) : ∀ i, i < 4 → KeyAt w (ka i) (cutK kn i) (kc i) (kf i) := fun i hi => (hr i hi).cut (cutK_le kn i).1 (cutK_le kn i).2

set_option maxRecDepth 100000 in
set_option maxHeartbeats 4000000 in
theorem fixed_  (w : World) :
    Gives Tryz.prog 27 #[] w fun v w1 => v = .agg #[.int .i64 4, .int .i64 1, .int .i64 0, .int .i64 0, .int .i64 0, .int .i64 0, .int .i64 2, .int .i64 4, .int .i64 0, .int .i64 2, .int .i64 4, .int .i64 0] ∧ Ch [] w w1 := by
 have S0 := St.nil [] w
 refine enter_ Tryz.func27 rfl ?_
 refine seq_ (reg_ ?_)
 refine new_ S0 (fun b => .pointer (some ⟨b, 0, none⟩)) (.cells (rowF .i64 12 (fun _ => 0)) 49) ?_
 intro zb1 zw2 zS3
 refine nil_ (then_n (seq_ (reg_ ?_)))
 refine pure_ (.agg #[.int .i64 2, .int .i64 4, .int .i64 0]) ?_
 refine new_ zS3 (fun b => .pointer (some ⟨b, 0, none⟩)) (.cells #[.int .i64 0, .int .i64 0, .int .i64 0] 39) ?_
 intro zb4 zw5 zS6
 refine store_ zS6 0 (.agg #[.int .i64 2, .int .i64 4, .int .i64 0]) zb4 0 ?_
 intro zw7 zS8
 refine nil_ (then_n (seq_ (reg_ ?_)))
 refine loadN_ zS8 0 3 #[.int .i64 2, .int .i64 4, .int .i64 0] zb4 0 ?_
 refine loadN_ zS8 0 3 #[.int .i64 2, .int .i64 4, .int .i64 0] zb4 0 ?_
 refine pure_ (.agg #[.int .i64 4, .int .i64 1, .int .i64 0, .int .i64 0, .int .i64 0, .int .i64 0, .int .i64 2, .int .i64 4, .int .i64 0, .int .i64 2, .int .i64 4, .int .i64 0]) ?_
 refine store_ zS8 1 (.agg #[.int .i64 4, .int .i64 1, .int .i64 0, .int .i64 0, .int .i64 0, .int .i64 0, .int .i64 2, .int .i64 4, .int .i64 0, .int .i64 2, .int .i64 4, .int .i64 0]) zb1 0 ?_
 intro zw9 zS10
 refine nil_ (then_n (wp_ret ?_))
 refine ret_ rfl (res_ [.cell 0 49] [.agg #[.int .i64 4, .int .i64 1, .int .i64 0, .int .i64 0, .int .i64 0, .int .i64 0, .int .i64 2, .int .i64 4, .int .i64 0, .int .i64 2, .int .i64 4, .int .i64 0]] (.agg #[.int .i64 4, .int .i64 1, .int .i64 0, .int .i64 0, .int .i64 0, .int .i64 0, .int .i64 2, .int .i64 4, .int .i64 0, .int .i64 2, .int .i64 4, .int .i64 0]) ⟨res_cellN zS10 1 12 zb1 0, trivial⟩) ?_
 exact ⟨rfl, zS10.ch⟩

set_option maxRecDepth 100000 in
set_option maxHeartbeats 4000000 in
theorem shown25_  (w : World) :
    Gives Tryz.prog 20 #[] w fun v w1 => v = .bool true ∧ Ch [] w w1 := by
 have S0 := St.nil [] w
 refine enter_ Tryz.func20 rfl ?_
 refine seq_ (reg_ ?_)
 refine pure_ (.bool false) ?_
 refine nil_ (then_n (seq_ (reg_ ?_)))
 refine pure_ (.agg (polP polZ (fun _ => none) (fun _ => 0) (fun _ => 0))) ?_
 refine call_ 21 #[.agg (polP polZ (fun _ => none) (fun _ => 0) (fun _ => 0))] ?_
 refine (mach0_ _).mono ?_; rintro _ zw1 ⟨zb4, rfl, zT2⟩
 have zS3 : St [] w [⟨zb4, true, .cells #[.pointer none, .int .i64 40, .pointer none, .pointer none, .pointer none] 137 (0, 0)⟩] zw1 := (S0.beside zT2 (Wr.cons rfl Wr.nil)).conv (by kernel_rfl)
 refine assign_ ?_
 refine nil_ (then_n (seq_ (seq_ (reg_ ?_))))
 refine move_ ?_
 refine pure_ (.bool false) ?_
 refine nil_ (then_n (cond_F ?_))
 refine wp_skip (then_n (seq_ (reg_ ?_)))
 refine move_ ?_
 refine pure_ (.agg #[.int .i64 3, .int .i64 0, .slice none 0 0, .bool false, .int .i64 0, .int .i64 0, .int .i64 0, .int .i64 0, .bool false, .bool false]) ?_
 refine call_ 25 #[.pointer (some ⟨zb4, 0, none⟩), .agg #[.int .i64 3, .int .i64 0, .slice none 0 0, .bool false, .int .i64 0, .int .i64 0, .int .i64 0, .int .i64 0, .bool false, .bool false]] ?_
 refine enter_ Tryz.func25 rfl ?_
 refine seq_ (reg_ ?_)
 refine new_ zS3 (fun b => .pointer (some ⟨b, 0, none⟩)) (.cells #[.int .i64 3, .int .i64 0, .slice none 0 0, .bool false, .int .i64 0, .int .i64 0, .int .i64 0, .int .i64 0, .bool false, .bool false] 79) ?_
 intro zb5 zw6 zS7
 refine new_ zS7 (fun b => .pointer (some ⟨b, 0, none⟩)) (.cells #[.int .i64 0, .int .i64 0, .int .i64 0, .int .i64 0, .int .i64 0, .int .i64 0, .int .i64 0, .int .i64 0, .int .i64 0, .int .i64 0, .int .i64 0, .int .i64 0, .slice none 0 0, .slice none 0 0, .int .u8 0, .int .u8 0, .int .u8 0, .int .u8 0, .int .u8 0, .int .u8 0, .int .u8 0, .int .u8 0, .int .u8 0, .int .u8 0, .int .u8 0, .int .u8 0, .int .u8 0, .int .u8 0, .int .u8 0, .int .u8 0, .int .u8 0, .int .u8 0, .int .u8 0, .int .u8 0, .int .u8 0, .int .u8 0, .int .u8 0, .int .u8 0, .int .u8 0, .int .u8 0, .int .u8 0, .int .u8 0, .int .u8 0, .int .u8 0, .int .u8 0, .int .u8 0] 54) ?_
 intro zb8 zw9 zS10
 refine nil_ (then_n (seq_ (seq_ (reg_ ?_))))
 refine move_ ?_
 refine pure_ (.pointer (some ⟨zb4, 0, none⟩)) ?_
 refine pure_ (.pointer (some ⟨zb4, 0, none⟩)) ?_
 refine load1_ zS10 2 (.pointer none) zb4 0 ?_
 refine pure_ (.bool true) ?_
 refine nil_ (then_n (cond_T ?_))
 refine seq_ (reg_ ?_)
 refine call_ 27 #[] ?_
 refine (fixed_ _).mono ?_; rintro _ zw11 ⟨rfl, zh12⟩
 have zS13 := zS10.quiet zh12
 refine pure_ (.agg #[.int .i64 4, .int .i64 1, .int .i64 0, .int .i64 0, .int .i64 0, .int .i64 0, .int .i64 2, .int .i64 4, .int .i64 0, .int .i64 2, .int .i64 4, .int .i64 0, .slice none 0 0, .slice none 0 0, .int .u8 0, .int .u8 0, .int .u8 0, .int .u8 0, .int .u8 0, .int .u8 0, .int .u8 0, .int .u8 0, .int .u8 0, .int .u8 0, .int .u8 0, .int .u8 0, .int .u8 0, .int .u8 0, .int .u8 0, .int .u8 0, .int .u8 0, .int .u8 0, .int .u8 0, .int .u8 0, .int .u8 0, .int .u8 0, .int .u8 0, .int .u8 0, .int .u8 0, .int .u8 0, .int .u8 0, .int .u8 0, .int .u8 0, .int .u8 0, .int .u8 0, .int .u8 0]) ?_
 refine store_ zS13 0 (.agg #[.int .i64 4, .int .i64 1, .int .i64 0, .int .i64 0, .int .i64 0, .int .i64 0, .int .i64 2, .int .i64 4, .int .i64 0, .int .i64 2, .int .i64 4, .int .i64 0, .slice none 0 0, .slice none 0 0, .int .u8 0, .int .u8 0, .int .u8 0, .int .u8 0, .int .u8 0, .int .u8 0, .int .u8 0, .int .u8 0, .int .u8 0, .int .u8 0, .int .u8 0, .int .u8 0, .int .u8 0, .int .u8 0, .int .u8 0, .int .u8 0, .int .u8 0, .int .u8 0, .int .u8 0, .int .u8 0, .int .u8 0, .int .u8 0, .int .u8 0, .int .u8 0, .int .u8 0, .int .u8 0, .int .u8 0, .int .u8 0, .int .u8 0, .int .u8 0, .int .u8 0, .int .u8 0]) zb8 0 ?_
 intro zw14 zS15
 refine nil_ (then_n (wp_ret (then_r ?_)))
 refine ret_ rfl (res_ [.cell 4 54] [.agg #[.int .i64 4, .int .i64 1, .int .i64 0, .int .i64 0, .int .i64 0, .int .i64 0, .int .i64 2, .int .i64 4, .int .i64 0, .int .i64 2, .int .i64 4, .int .i64 0, .slice none 0 0, .slice none 0 0, .int .u8 0, .int .u8 0, .int .u8 0, .int .u8 0, .int .u8 0, .int .u8 0, .int .u8 0, .int .u8 0, .int .u8 0, .int .u8 0, .int .u8 0, .int .u8 0, .int .u8 0, .int .u8 0, .int .u8 0, .int .u8 0, .int .u8 0, .int .u8 0, .int .u8 0, .int .u8 0, .int .u8 0, .int .u8 0, .int .u8 0, .int .u8 0, .int .u8 0, .int .u8 0, .int .u8 0, .int .u8 0, .int .u8 0, .int .u8 0, .int .u8 0, .int .u8 0]] (.agg #[.int .i64 4, .int .i64 1, .int .i64 0, .int .i64 0, .int .i64 0, .int .i64 0, .int .i64 2, .int .i64 4, .int .i64 0, .int .i64 2, .int .i64 4, .int .i64 0, .slice none 0 0, .slice none 0 0, .int .u8 0, .int .u8 0, .int .u8 0, .int .u8 0, .int .u8 0, .int .u8 0, .int .u8 0, .int .u8 0, .int .u8 0, .int .u8 0, .int .u8 0, .int .u8 0, .int .u8 0, .int .u8 0, .int .u8 0, .int .u8 0, .int .u8 0, .int .u8 0, .int .u8 0, .int .u8 0, .int .u8 0, .int .u8 0, .int .u8 0, .int .u8 0, .int .u8 0, .int .u8 0, .int .u8 0, .int .u8 0, .int .u8 0, .int .u8 0, .int .u8 0, .int .u8 0]) ⟨res_cellN zS15 0 46 zb8 0, trivial⟩) ?_
 refine new_ zS15 (fun b => .pointer (some ⟨b, 0, none⟩)) (.cells #[.int .i64 0, .int .i64 0, .int .i64 0, .int .i64 0, .int .i64 0, .int .i64 0, .int .i64 0, .int .i64 0, .int .i64 0, .int .i64 0, .int .i64 0, .int .i64 0, .slice none 0 0, .slice none 0 0, .int .u8 0, .int .u8 0, .int .u8 0, .int .u8 0, .int .u8 0, .int .u8 0, .int .u8 0, .int .u8 0, .int .u8 0, .int .u8 0, .int .u8 0, .int .u8 0, .int .u8 0, .int .u8 0, .int .u8 0, .int .u8 0, .int .u8 0, .int .u8 0, .int .u8 0, .int .u8 0, .int .u8 0, .int .u8 0, .int .u8 0, .int .u8 0, .int .u8 0, .int .u8 0, .int .u8 0, .int .u8 0, .int .u8 0, .int .u8 0, .int .u8 0, .int .u8 0] 54) ?_
 intro zb16 zw17 zS18
 refine store_ zS18 0 (.agg #[.int .i64 4, .int .i64 1, .int .i64 0, .int .i64 0, .int .i64 0, .int .i64 0, .int .i64 2, .int .i64 4, .int .i64 0, .int .i64 2, .int .i64 4, .int .i64 0, .slice none 0 0, .slice none 0 0, .int .u8 0, .int .u8 0, .int .u8 0, .int .u8 0, .int .u8 0, .int .u8 0, .int .u8 0, .int .u8 0, .int .u8 0, .int .u8 0, .int .u8 0, .int .u8 0, .int .u8 0, .int .u8 0, .int .u8 0, .int .u8 0, .int .u8 0, .int .u8 0, .int .u8 0, .int .u8 0, .int .u8 0, .int .u8 0, .int .u8 0, .int .u8 0, .int .u8 0, .int .u8 0, .int .u8 0, .int .u8 0, .int .u8 0, .int .u8 0, .int .u8 0, .int .u8 0]) zb16 0 ?_
 intro zw19 zS20
 refine nil_ (then_n (seq_ (reg_ ?_)))
 refine move_ ?_
 refine call_ 22 #[.pointer (some ⟨zb4, 0, none⟩)] ?_
 refine enter_ Tryz.func22 rfl ?_
 refine seq_ (reg_ ?_)
 refine pure_ (.int .i64 0) ?_
 refine nil_ (then_n (seq_ (reg_ ?_)))
 refine move_ ?_
 refine pure_ (.pointer (some ⟨zb4, 0, none⟩)) ?_
 refine pure_ (.pointer (some ⟨zb4, 1, none⟩)) ?_
 refine load1_ zS20 3 (.int .i64 40) zb4 1 ?_
 refine pure_ (.int .i64 40) ?_
 refine nil_ (then_n (wp_ret ?_))
 refine ret_ rfl (res_ [.tmp 2] [.int .i64 40] (.int .i64 40) ⟨res_tmp, trivial⟩) ?_
 refine pure_ (.bool true) ?_
 refine pure_ (.bool true) ?_
 refine pure_ (.pointer (some ⟨zb16, 0, none⟩)) ?_
 refine pure_ (.pointer (some ⟨zb16, 0, none⟩)) ?_
 refine load1_ zS20 0 (.int .i64 4) zb16 0 ?_
 refine pure_ (.bool true) ?_
 refine pure_ (.bool true) ?_
 refine pure_ (.bool true) ?_
 refine pure_ (.pointer (some ⟨zb16, 0, none⟩)) ?_
 refine pure_ (.pointer (some ⟨zb16, 6, none⟩)) ?_
 refine pure_ (.pointer (some ⟨zb16, 6, none⟩)) ?_
 refine load1_ zS20 0 (.int .i64 2) zb16 6 ?_
 refine pure_ (.bool true) ?_
 refine pure_ (.bool true) ?_
 refine pure_ (.bool true) ?_
 refine nil_ (then_n (wp_ret ?_))
 refine ret_ rfl (res_ [.tmp 0] [.bool true] (.bool true) ⟨res_tmp, trivial⟩) ?_
 exact ⟨rfl, zS20.ch⟩

set_option maxRecDepth 100000 in
set_option maxHeartbeats 4000000 in
theorem machineFixed_ (p : Sd.Pol) (ka : Nat → Option Addr) (kn kc : Nat → Nat) (kf : Nat → Nat → Int) (l : Value) (w : World) (hr : ∀ i, i < 4 → KeyRd w (ka i) (kn i) (kc i) (kf i)) (hf : ∀ w2, Ch [] w w2 → Gives Tryz.prog 24 #[l] w2 fun v w1 => ∃ b1 c1 es, v = .slice (some ⟨b1, 0, none⟩) (List.length es) c1 ∧ es.length ≤ 60 ∧ Ch [] w2 w1 ∧ ∀ k, k < es.length → ∀ j u, (evA (es.getD k evD))[j]? = some u → w1.cell? ⟨b1, 0 + k * 10 + j, none⟩ = some u) :
    Gives Tryz.prog 6 #[.agg (polP p ka kn kc), l] w fun v w1 => v = .bool true ∧ Ch [] w w1 := by
 have hk := keysCut ka kn kc kf hr
 have S0 := St.nil [] w
 refine enter_ Tryz.func6 rfl ?_
 refine seq_ (reg_ ?_)
 refine new_ S0 (fun b => .pointer (some ⟨b, 0, none⟩)) (.cells (polP p ka kn kc) 28) ?_
 intro zb1 zw2 zS3
 refine pure_ (.bool false) ?_
 refine nil_ (then_n (seq_ (reg_ ?_)))
 refine call_ 20 #[] ?_
 refine (shown25_ _).mono ?_; rintro _ zw4 ⟨rfl, zh5⟩
 have zS6 := zS3.quiet zh5
 refine pure_ (.bool true) ?_
 refine nil_ (then_n (seq_ (seq_ (reg_ ?_))))
 refine pure_ (.int .i64 0) ?_
 refine nil_ (then_n (wp_block (loop_ 24 (seq_ (seq_ (reg_ ?_))))))
 refine pure_ (.int .i64 0) ?_
 refine pure_ (.bool true) ?_
 refine nil_ (then_n (cond_T ?_))
 refine wp_skip (then_n (seq_ (wp_block ?_)))
 refine quietL_ 13 [.int .i64 0, .int .i64 0, .pointer (some ⟨zb1, 5, none⟩), .pointer (some ⟨zb1, 5, none⟩), .slice (ka 0) (kn 0) (kc 0), .int .i64 0, .pointer (some ⟨zb1, 5, none⟩), .pointer (some ⟨zb1, 5, none⟩), .slice (ka 0) (kn 0) (kc 0), .int .i64 (((kn 0) : Nat) : Int), .int .i64 ((cutK kn 0 : Nat) : Int), .slice (ka 0) (cutK kn 0) (kc 0), .pointer (some ⟨zb1, 5, none⟩)] [[13, 0], [13, 1], [13, 2], [13, 3], [13, 4], [13, 5], [13, 6], [13, 7], [13, 8], [13, 9], [13, 10], [13, 11], [13, 12], [14, 0], [14, 1], [14, 2], [14, 3], [14, 4], [14, 5], [14, 6], [14, 7], [14, 8], [14, 9], [14, 10], [14, 11], [14, 13, 12], [14, 13]] (step_cons qP_ (step_cons qP_ (step_cons qP_ (step_cons qP_ (step_cons (qL_ zS6 0 zb1 5) (step_cons qP_ (step_cons qP_ (step_cons qP_ (step_cons (qL_ zS6 0 zb1 5) (step_cons qP_ (step_cons (qE_ (.int .i64 (if 70 < (((kn 0) : Nat) : Int) then 70 else (((kn 0) : Nat) : Int))) (congrArg _ (cutK_is _ _))) (step_cons (qP_ (h := funext fun _ => run_cut (n := (kn 0)) (e := 5) (kd := .i64) (cutK kn 0) (Nat.le_trans (cutK_le kn 0).1 (hr 0 (by omega)).1))) (step_cons qP_ (step_nil)))))))))))))) ?_
 intro zw7 zh9
 have zS8 := zS6.quiet zh9
 refine pure_ (.pointer (some ⟨zb1, 5, none⟩)) ?_
 refine store_ zS8 0 (.slice (ka 0) (cutK kn 0) (kc 0)) zb1 5 ?_
 intro zw10 zS11
 refine nil_ (blk_n (then_n (reg_ ?_)))
 refine pure_ (.int .i64 0) ?_
 refine pure_ (.int .i64 1) ?_
 refine pure_ (.int .i64 1) ?_
 refine nil_ (again_ (seq_ (seq_ (reg_ ?_))))
 refine pure_ (.int .i64 1) ?_
 refine pure_ (.bool true) ?_
 refine nil_ (then_n (cond_T ?_))
 refine wp_skip (then_n (seq_ (wp_block ?_)))
 refine quietL_ 13 [.int .i64 1, .int .i64 1, .pointer (some ⟨zb1, 5, none⟩), .pointer (some ⟨zb1, 6, none⟩), .slice (ka 1) (kn 1) (kc 1), .int .i64 1, .pointer (some ⟨zb1, 5, none⟩), .pointer (some ⟨zb1, 6, none⟩), .slice (ka 1) (kn 1) (kc 1), .int .i64 (((kn 1) : Nat) : Int), .int .i64 ((cutK kn 1 : Nat) : Int), .slice (ka 1) (cutK kn 1) (kc 1), .pointer (some ⟨zb1, 5, none⟩)] [[13, 0], [13, 1], [13, 2], [13, 3], [13, 4], [13, 5], [13, 6], [13, 7], [13, 8], [13, 9], [13, 10], [13, 11], [13, 12], [14, 0], [14, 1], [14, 2], [14, 3], [14, 4], [14, 5], [14, 6], [14, 7], [14, 8], [14, 9], [14, 10], [14, 11], [14, 13, 12], [14, 13]] (step_cons qP_ (step_cons qP_ (step_cons qP_ (step_cons qP_ (step_cons (qL_ zS11 0 zb1 6) (step_cons qP_ (step_cons qP_ (step_cons qP_ (step_cons (qL_ zS11 0 zb1 6) (step_cons qP_ (step_cons (qE_ (.int .i64 (if 70 < (((kn 1) : Nat) : Int) then 70 else (((kn 1) : Nat) : Int))) (congrArg _ (cutK_is _ _))) (step_cons (qP_ (h := funext fun _ => run_cut (n := (kn 1)) (e := 5) (kd := .i64) (cutK kn 1) (Nat.le_trans (cutK_le kn 1).1 (hr 1 (by omega)).1))) (step_cons qP_ (step_nil)))))))))))))) ?_
 intro zw12 zh14
 have zS13 := zS11.quiet zh14
 refine pure_ (.pointer (some ⟨zb1, 6, none⟩)) ?_
 refine store_ zS13 0 (.slice (ka 1) (cutK kn 1) (kc 1)) zb1 6 ?_
 intro zw15 zS16
 refine nil_ (blk_n (then_n (reg_ ?_)))
 refine pure_ (.int .i64 1) ?_
 refine pure_ (.int .i64 2) ?_
 refine pure_ (.int .i64 2) ?_
 refine nil_ (again_ (seq_ (seq_ (reg_ ?_))))
 refine pure_ (.int .i64 2) ?_
 refine pure_ (.bool true) ?_
 refine nil_ (then_n (cond_T ?_))
 refine wp_skip (then_n (seq_ (wp_block ?_)))
 refine quietL_ 13 [.int .i64 2, .int .i64 2, .pointer (some ⟨zb1, 5, none⟩), .pointer (some ⟨zb1, 7, none⟩), .slice (ka 2) (kn 2) (kc 2), .int .i64 2, .pointer (some ⟨zb1, 5, none⟩), .pointer (some ⟨zb1, 7, none⟩), .slice (ka 2) (kn 2) (kc 2), .int .i64 (((kn 2) : Nat) : Int), .int .i64 ((cutK kn 2 : Nat) : Int), .slice (ka 2) (cutK kn 2) (kc 2), .pointer (some ⟨zb1, 5, none⟩)] [[13, 0], [13, 1], [13, 2], [13, 3], [13, 4], [13, 5], [13, 6], [13, 7], [13, 8], [13, 9], [13, 10], [13, 11], [13, 12], [14, 0], [14, 1], [14, 2], [14, 3], [14, 4], [14, 5], [14, 6], [14, 7], [14, 8], [14, 9], [14, 10], [14, 11], [14, 13, 12], [14, 13]] (step_cons qP_ (step_cons qP_ (step_cons qP_ (step_cons qP_ (step_cons (qL_ zS16 0 zb1 7) (step_cons qP_ (step_cons qP_ (step_cons qP_ (step_cons (qL_ zS16 0 zb1 7) (step_cons qP_ (step_cons (qE_ (.int .i64 (if 70 < (((kn 2) : Nat) : Int) then 70 else (((kn 2) : Nat) : Int))) (congrArg _ (cutK_is _ _))) (step_cons (qP_ (h := funext fun _ => run_cut (n := (kn 2)) (e := 5) (kd := .i64) (cutK kn 2) (Nat.le_trans (cutK_le kn 2).1 (hr 2 (by omega)).1))) (step_cons qP_ (step_nil)))))))))))))) ?_
 intro zw17 zh19
 have zS18 := zS16.quiet zh19
 refine pure_ (.pointer (some ⟨zb1, 7, none⟩)) ?_
 refine store_ zS18 0 (.slice (ka 2) (cutK kn 2) (kc 2)) zb1 7 ?_
 intro zw20 zS21
 refine nil_ (blk_n (then_n (reg_ ?_)))
 refine pure_ (.int .i64 2) ?_
 refine pure_ (.int .i64 3) ?_
 refine pure_ (.int .i64 3) ?_
 refine nil_ (again_ (seq_ (seq_ (reg_ ?_))))
 refine pure_ (.int .i64 3) ?_
 refine pure_ (.bool false) ?_
 refine nil_ (then_n (cond_F ?_))
 refine wp_exit (then_e (then_e (blk_e (then_n (seq_ (reg_ ?_))))))
 refine pure_ (.pointer (some ⟨zb1, 8, none⟩)) ?_
 refine load1_ zS21 0 (.slice (ka 3) (kn 3) (kc 3)) zb1 8 ?_
 refine pure_ (.pointer (some ⟨zb1, 8, none⟩)) ?_
 refine load1_ zS21 0 (.slice (ka 3) (kn 3) (kc 3)) zb1 8 ?_
 refine pure_ (.int .i64 (((kn 3) : Nat) : Int)) ?_
 refine pureE_ (.int .i64 (if 70 < (((kn 3) : Nat) : Int) then 70 else (((kn 3) : Nat) : Int))) (.int .i64 ((cutK kn 3 : Nat) : Int)) (congrArg _ (cutK_is _ _)) ?_
 refine pure_ (.slice (ka 3) (cutK kn 3) (kc 3)) ?_ (h := run_cut (n := (kn 3)) (e := 5) (kd := .i64) (cutK kn 3) (Nat.le_trans (cutK_le kn 3).1 (hr 3 (by omega)).1))
 refine pure_ (.pointer (some ⟨zb1, 8, none⟩)) ?_
 refine store_ zS21 0 (.slice (ka 3) (cutK kn 3) (kc 3)) zb1 8 ?_
 intro zw22 zS23
 refine nil_ (then_n (seq_ (reg_ ?_)))
 refine loadN_ zS23 0 56 (polP p ka (cutK kn) kc) zb1 0 ?_
 refine split_b ((polCode p.i (cutK kn)) == 0) ?_ ?_
 · intro zh24
   have zh25 := eqT' zh24
   refine call_ 21 #[.agg (polP p ka (cutK kn) kc)] ?_
   refine (machok_ p ka (cutK kn) kc kf (by omega) _ (fun i hi => KeyAt.quiet (hk i hi) zS23.ch)).mono ?_; rintro _ zw26 ⟨zb29, zc30, zc31, zc32, zc33, rfl, zT27⟩
   have zS28 : St [] w [⟨zb29, true, .cells #[.pointer (some ⟨zc30, 0, none⟩), .int .i64 0, .pointer (some ⟨zc31, 0, none⟩), .pointer (some ⟨zc32, 0, none⟩), .pointer (some ⟨zc33, 0, none⟩)] 137 (0, 0)⟩, ⟨zb1, true, .cells (polP p ka (cutK kn) kc) 28 (0, 0)⟩] zw26 := (zS23.beside zT27 (Wr.cons rfl Wr.nil)).conv (by kernel_rfl)
   refine assign_ ?_
   refine nil_ (then_n (seq_ (seq_ ?_)))
   refine drawnL_ 13 [⟨0, fun _ => .bool true, fun _ => []⟩, ⟨0, fun _ => .bool false, fun _ => []⟩, ⟨0, fun _ => .bool false, fun _ => []⟩, ⟨0, fun _ => .pointer (some ⟨zb29, 0, none⟩), fun _ => []⟩, ⟨0, fun _ => .bool false, fun _ => []⟩, ⟨0, fun _ => .bool false, fun _ => []⟩, ⟨0, fun _ => .bool false, fun _ => []⟩, ⟨0, fun _ => .pointer (some ⟨zb29, 0, none⟩), fun _ => []⟩, ⟨0, fun _ => .int .i64 0, fun _ => []⟩, ⟨0, fun _ => .agg (polP p ka (cutK kn) kc), fun _ => []⟩, ⟨0, fun _ => .int .i64 (polCode p.i (cutK kn)), fun _ => []⟩, ⟨0, fun _ => .bool false, fun _ => []⟩, ⟨0, fun _ => .bool false, fun _ => []⟩] [] ?_ ?_
   · refine step_cons ?_ ?_
     · intro zy34 zw35 zhc36 zhf37 zhp38
       have zh39 : zy34 5 = .bool true := (zhf37 5 (by kernel_rfl)).trans (by kernel_rfl)
       have zS40 := zS28.quiet zhc36
       refine step1 ?_
       refine yenv [(5, .bool true)] (ag_cons zh39 (ag_nil)) ?_
       have zS41 := zS40.loc
       refine Y.pure_ (.bool true) ?_
       exact ⟨zS41.ch, Sp.mk_holds [] (all_nil)⟩
     refine step_cons ?_ ?_
     · intro zy42 zw43 zhc44 zhf45 zhp46
       have zh47 : zy42 41 = .bool true := (Sp.out0 (zhp46 0 41 (by kernel_rfl) (by kernel_rfl))).1
       have zS48 := zS28.quiet zhc44
       refine step1 ?_
       refine yenv [(41, .bool true)] (ag_cons zh47 (ag_nil)) ?_
       have zS49 := zS48.loc
       refine Y.pure_ (.bool false) ?_
       exact ⟨zS49.ch, Sp.mk_holds [] (all_nil)⟩
     refine step_cons ?_ ?_
     · intro zy50 zw51 zhc52 zhf53 zhp54
       have zh55 : zy50 42 = .bool false := (Sp.out0 (zhp54 1 42 (by kernel_rfl) (by kernel_rfl))).1
       have zS56 := zS28.quiet zhc52
       refine step1 ?_
       refine yenv [(42, .bool false)] (ag_cons zh55 (ag_nil)) ?_
       have zS57 := zS56.loc
       refine Y.pure_ (.bool false) ?_
       exact ⟨zS57.ch, Sp.mk_holds [] (all_nil)⟩
     refine step_cons ?_ ?_
     · intro zy58 zw59 zhc60 zhf61 zhp62
       have zh63 : zy58 7 = .pointer (some ⟨zb29, 0, none⟩) := (zhf61 7 (by kernel_rfl)).trans (by kernel_rfl)
       have zh64 : zy58 43 = .bool false := (Sp.out0 (zhp62 2 43 (by kernel_rfl) (by kernel_rfl))).1
       have zS65 := zS28.quiet zhc60
       refine step_yes (wY_t zh64) ?_
       refine yenv [(7, .pointer (some ⟨zb29, 0, none⟩))] (ag_cons zh63 (ag_nil)) ?_
       have zS66 := zS65.loc
       refine Y.move_ ?_
       exact ⟨zS66.ch, Sp.mk_holds [] (all_nil)⟩
     refine step_cons ?_ ?_
     · intro zy67 zw68 zhc69 zhf70 zhp71
       have zh72 : zy67 44 = .pointer (some ⟨zb29, 0, none⟩) := (Sp.out0 (zhp71 3 44 (by kernel_rfl) (by kernel_rfl))).1
       have zh73 : zy67 43 = .bool false := (Sp.out0 (zhp71 2 43 (by kernel_rfl) (by kernel_rfl))).1
       have zS74 := zS28.quiet zhc69
       refine step_yes (wY_t zh73) ?_
       refine yenv [(44, .pointer (some ⟨zb29, 0, none⟩))] (ag_cons zh72 (ag_nil)) ?_
       have zS75 := zS74.loc
       refine Y.pure_ (.bool false) ?_
       exact ⟨zS75.ch, Sp.mk_holds [] (all_nil)⟩
     refine step_cons ?_ ?_
     · intro zy76 zw77 zhc78 zhf79 zhp80
       have zh81 : zy76 43 = .bool false := (Sp.out0 (zhp80 2 43 (by kernel_rfl) (by kernel_rfl))).1
       have zh82 : zy76 45 = .bool false := (Sp.out0 (zhp80 4 45 (by kernel_rfl) (by kernel_rfl))).1
       have zS83 := zS28.quiet zhc78
       refine step1 ?_
       refine yenv [(43, .bool false), (45, .bool false)] (ag_cons zh81 (ag_cons zh82 (ag_nil))) ?_
       have zS84 := zS83.loc
       refine Y.pure_ (.bool false) ?_
       exact ⟨zS84.ch, Sp.mk_holds [] (all_nil)⟩
     refine step_cons ?_ ?_
     · intro zy85 zw86 zhc87 zhf88 zhp89
       have zh90 : zy85 46 = .bool false := (Sp.out0 (zhp89 5 46 (by kernel_rfl) (by kernel_rfl))).1
       have zS91 := zS28.quiet zhc87
       refine step1 ?_
       refine yenv [(46, .bool false)] (ag_cons zh90 (ag_nil)) ?_
       have zS92 := zS91.loc
       refine Y.pure_ (.bool false) ?_
       exact ⟨zS92.ch, Sp.mk_holds [] (all_nil)⟩
     refine step_cons ?_ ?_
     · intro zy93 zw94 zhc95 zhf96 zhp97
       have zh98 : zy93 7 = .pointer (some ⟨zb29, 0, none⟩) := (zhf96 7 (by kernel_rfl)).trans (by kernel_rfl)
       have zh99 : zy93 47 = .bool false := (Sp.out0 (zhp97 6 47 (by kernel_rfl) (by kernel_rfl))).1
       have zS100 := zS28.quiet zhc95
       refine step_yes (wY_t zh99) ?_
       refine yenv [(7, .pointer (some ⟨zb29, 0, none⟩))] (ag_cons zh98 (ag_nil)) ?_
       have zS101 := zS100.loc
       refine Y.move_ ?_
       exact ⟨zS101.ch, Sp.mk_holds [] (all_nil)⟩
     refine step_cons ?_ ?_
     · intro zy102 zw103 zhc104 zhf105 zhp106
       have zh107 : zy102 48 = .pointer (some ⟨zb29, 0, none⟩) := (Sp.out0 (zhp106 7 48 (by kernel_rfl) (by kernel_rfl))).1
       have zh108 : zy102 47 = .bool false := (Sp.out0 (zhp106 6 47 (by kernel_rfl) (by kernel_rfl))).1
       have zS109 := zS28.quiet zhc104
       refine step_yes (wY_t zh108) ?_
       refine yenv [(48, .pointer (some ⟨zb29, 0, none⟩))] (ag_cons zh107 (ag_nil)) ?_
       have zS110 := zS109.loc
       refine Y.call_ 22 #[.pointer (some ⟨zb29, 0, none⟩)] ?_
       refine enter_ Tryz.func22 rfl ?_
       refine seq_ (reg_ ?_)
       refine pure_ (.int .i64 0) ?_
       refine nil_ (then_n (seq_ (reg_ ?_)))
       refine move_ ?_
       refine pure_ (.pointer (some ⟨zb29, 0, none⟩)) ?_
       refine pure_ (.pointer (some ⟨zb29, 1, none⟩)) ?_
       refine load1_ zS110 0 (.int .i64 0) zb29 1 ?_
       refine pure_ (.int .i64 0) ?_
       refine nil_ (then_n (wp_ret ?_))
       refine ret_ rfl (res_ [.tmp 2] [.int .i64 0] (.int .i64 0) ⟨res_tmp, trivial⟩) ?_
       exact ⟨zS110.ch, Sp.mk_holds [] (all_nil)⟩
     refine step_cons ?_ ?_
     · intro zy111 zw112 zhc113 zhf114 zhp115
       have zh116 : zy111 2 = .pointer (some ⟨zb1, 0, none⟩) := (zhf114 2 (by kernel_rfl)).trans (by kernel_rfl)
       have zh117 : zy111 47 = .bool false := (Sp.out0 (zhp115 6 47 (by kernel_rfl) (by kernel_rfl))).1
       have zS118 := zS28.quiet zhc113
       refine step_yes (wY_t zh117) ?_
       refine yenv [(2, .pointer (some ⟨zb1, 0, none⟩))] (ag_cons zh116 (ag_nil)) ?_
       have zS119 := zS118.loc
       refine Y.loadN_ zS119 1 56 (polP p ka (cutK kn) kc) zb1 0 ?_
       exact ⟨zS119.ch, Sp.mk_holds [] (all_nil)⟩
     refine step_cons ?_ ?_
     · intro zy120 zw121 zhc122 zhf123 zhp124
       have zh125 : zy120 50 = .agg (polP p ka (cutK kn) kc) := (Sp.out0 (zhp124 9 50 (by kernel_rfl) (by kernel_rfl))).1
       have zh126 : zy120 47 = .bool false := (Sp.out0 (zhp124 6 47 (by kernel_rfl) (by kernel_rfl))).1
       have zS127 := zS28.quiet zhc122
       refine step_yes (wY_t zh126) ?_
       refine yenv [(50, .agg (polP p ka (cutK kn) kc))] (ag_cons zh125 (ag_nil)) ?_
       have zS128 := zS127.loc
       refine Y.call_ 23 #[.agg (polP p ka (cutK kn) kc)] ?_
       refine (checkP_ p ka (cutK kn) kc _).mono ?_; rintro _ zw129 ⟨rfl, zh130⟩
       have zS131 := zS128.quiet zh130
       exact ⟨zS131.ch, Sp.mk_holds [] (all_nil)⟩
     refine step_cons ?_ ?_
     · intro zy132 zw133 zhc134 zhf135 zhp136
       have zh137 : zy132 49 = .int .i64 0 := (Sp.out0 (zhp136 8 49 (by kernel_rfl) (by kernel_rfl))).1
       have zh138 : zy132 51 = .int .i64 (polCode p.i (cutK kn)) := (Sp.out0 (zhp136 10 51 (by kernel_rfl) (by kernel_rfl))).1
       have zh139 : zy132 47 = .bool false := (Sp.out0 (zhp136 6 47 (by kernel_rfl) (by kernel_rfl))).1
       have zS140 := zS28.quiet zhc134
       refine step_yes (wY_t zh139) ?_
       refine yenv [(49, .int .i64 0), (51, .int .i64 (polCode p.i (cutK kn)))] (ag_cons zh137 (ag_cons zh138 (ag_nil))) ?_
       have zS141 := zS140.loc
       refine Y.pureE_ (.bool (0 != (polCode p.i (cutK kn)))) (.bool false) (congrArg Value.bool (neF (by omega))) ?_
       exact ⟨zS141.ch, Sp.mk_holds [] (all_nil)⟩
     refine step_cons ?_ ?_
     · intro zy142 zw143 zhc144 zhf145 zhp146
       have zh147 : zy142 47 = .bool false := (Sp.out0 (zhp146 6 47 (by kernel_rfl) (by kernel_rfl))).1
       have zh148 : zy142 52 = .bool false := (Sp.out0 (zhp146 11 52 (by kernel_rfl) (by kernel_rfl))).1
       have zS149 := zS28.quiet zhc144
       refine step1 ?_
       refine yenv [(47, .bool false), (52, .bool false)] (ag_cons zh147 (ag_cons zh148 (ag_nil))) ?_
       have zS150 := zS149.loc
       refine Y.pure_ (.bool false) ?_
       exact ⟨zS150.ch, Sp.mk_holds [] (all_nil)⟩
     exact step_nil
   intro zv151 zw152 zhc153 zha154
   have zh155 : zv151 0 = .bool true := (Sp.out0 (zha154 0 (by kernel_rfl))).1
   have zh156 : zv151 1 = .bool false := (Sp.out0 (zha154 1 (by kernel_rfl))).1
   have zh157 : zv151 2 = .bool false := (Sp.out0 (zha154 2 (by kernel_rfl))).1
   have zh158 : zv151 3 = .pointer (some ⟨zb29, 0, none⟩) := (Sp.out0 (zha154 3 (by kernel_rfl))).1
   have zh159 : zv151 4 = .bool false := (Sp.out0 (zha154 4 (by kernel_rfl))).1
   have zh160 : zv151 5 = .bool false := (Sp.out0 (zha154 5 (by kernel_rfl))).1
   have zh161 : zv151 6 = .bool false := (Sp.out0 (zha154 6 (by kernel_rfl))).1
   have zh162 : zv151 7 = .pointer (some ⟨zb29, 0, none⟩) := (Sp.out0 (zha154 7 (by kernel_rfl))).1
   have zh163 : zv151 8 = .int .i64 0 := (Sp.out0 (zha154 8 (by kernel_rfl))).1
   have zh164 : zv151 9 = .agg (polP p ka (cutK kn) kc) := (Sp.out0 (zha154 9 (by kernel_rfl))).1
   have zh165 : zv151 10 = .int .i64 (polCode p.i (cutK kn)) := (Sp.out0 (zha154 10 (by kernel_rfl))).1
   have zh166 : zv151 11 = .bool false := (Sp.out0 (zha154 11 (by kernel_rfl))).1
   have zh167 : zv151 12 = .bool false := (Sp.out0 (zha154 12 (by kernel_rfl))).1
   have zS168 := zS28.quiet zhc153
   refine ⟨[.bool true, .bool false, .bool false, .pointer (some ⟨zb29, 0, none⟩), .bool false, .bool false, .bool false, .pointer (some ⟨zb29, 0, none⟩), .int .i64 0, .agg (polP p ka (cutK kn) kc), .int .i64 (polCode p.i (cutK kn)), .bool false, .bool false], by kernel_rfl, va_cons zh155 (va_cons zh156 (va_cons zh157 (va_cons zh158 (va_cons zh159 (va_cons zh160 (va_cons zh161 (va_cons zh162 (va_cons zh163 (va_cons zh164 (va_cons zh165 (va_cons zh166 (va_cons zh167 (va_nil))))))))))))), ?_⟩
   refine nil_ (then_n (cond_F ?_))
   refine wp_skip (then_n (seq_ (seq_ (reg_ ?_))))
   refine loadN_ zS168 1 56 (polP p ka (cutK kn) kc) zb1 0 ?_
   refine call_ 23 #[.agg (polP p ka (cutK kn) kc)] ?_
   refine (checkP_ p ka (cutK kn) kc _).mono ?_; rintro _ zw169 ⟨rfl, zh170⟩
   have zS171 := zS168.quiet zh170
   refine pureE_ (.bool ((polCode p.i (cutK kn)) == 0)) (.bool true) (congrArg Value.bool (zh24)) ?_
   refine nil_ (then_n (cond_T ?_))
   refine seq_ (reg_ ?_)
   refine pure_ (.bool true) ?_
   refine nil_ (then_n (wp_ret (then_r ?_)))
   refine ret_ rfl (res_ [.tmp 4] [.bool true] (.bool true) ⟨res_tmp, trivial⟩) ?_
   exact ⟨rfl, zS171.ch⟩
 intro zh172
 have zh173 := eqF' zh172
 refine call_ 21 #[.agg (polP p ka (cutK kn) kc)] ?_
 refine (machbad_ p ka (cutK kn) kc (by omega) _).mono ?_; rintro _ zw174 ⟨zb177, rfl, zT175⟩
 have zS176 : St [] w [⟨zb177, true, .cells #[.pointer none, .int .i64 (polCode p.i (cutK kn)), .pointer none, .pointer none, .pointer none] 137 (0, 0)⟩, ⟨zb1, true, .cells (polP p ka (cutK kn) kc) 28 (0, 0)⟩] zw174 := (zS23.beside zT175 (Wr.cons rfl Wr.nil)).conv (by kernel_rfl)
 refine assign_ ?_
 refine nil_ (then_n (seq_ (seq_ ?_)))
 refine drawnL_ 13 [⟨0, fun _ => .bool true, fun _ => []⟩, ⟨0, fun _ => .bool false, fun _ => []⟩, ⟨0, fun _ => .bool false, fun _ => []⟩, ⟨0, fun _ => .pointer (some ⟨zb177, 0, none⟩), fun _ => []⟩, ⟨0, fun _ => .bool false, fun _ => []⟩, ⟨0, fun _ => .bool false, fun _ => []⟩, ⟨0, fun _ => .bool false, fun _ => []⟩, ⟨0, fun _ => .pointer (some ⟨zb177, 0, none⟩), fun _ => []⟩, ⟨0, fun _ => .int .i64 (polCode p.i (cutK kn)), fun _ => []⟩, ⟨0, fun _ => .agg (polP p ka (cutK kn) kc), fun _ => []⟩, ⟨0, fun _ => .int .i64 (polCode p.i (cutK kn)), fun _ => []⟩, ⟨0, fun _ => .bool false, fun _ => []⟩, ⟨0, fun _ => .bool false, fun _ => []⟩] [] ?_ ?_
 · refine step_cons ?_ ?_
   · intro zy178 zw179 zhc180 zhf181 zhp182
     have zh183 : zy178 5 = .bool true := (zhf181 5 (by kernel_rfl)).trans (by kernel_rfl)
     have zS184 := zS176.quiet zhc180
     refine step1 ?_
     refine yenv [(5, .bool true)] (ag_cons zh183 (ag_nil)) ?_
     have zS185 := zS184.loc
     refine Y.pure_ (.bool true) ?_
     exact ⟨zS185.ch, Sp.mk_holds [] (all_nil)⟩
   refine step_cons ?_ ?_
   · intro zy186 zw187 zhc188 zhf189 zhp190
     have zh191 : zy186 41 = .bool true := (Sp.out0 (zhp190 0 41 (by kernel_rfl) (by kernel_rfl))).1
     have zS192 := zS176.quiet zhc188
     refine step1 ?_
     refine yenv [(41, .bool true)] (ag_cons zh191 (ag_nil)) ?_
     have zS193 := zS192.loc
     refine Y.pure_ (.bool false) ?_
     exact ⟨zS193.ch, Sp.mk_holds [] (all_nil)⟩
   refine step_cons ?_ ?_
   · intro zy194 zw195 zhc196 zhf197 zhp198
     have zh199 : zy194 42 = .bool false := (Sp.out0 (zhp198 1 42 (by kernel_rfl) (by kernel_rfl))).1
     have zS200 := zS176.quiet zhc196
     refine step1 ?_
     refine yenv [(42, .bool false)] (ag_cons zh199 (ag_nil)) ?_
     have zS201 := zS200.loc
     refine Y.pure_ (.bool false) ?_
     exact ⟨zS201.ch, Sp.mk_holds [] (all_nil)⟩
   refine step_cons ?_ ?_
   · intro zy202 zw203 zhc204 zhf205 zhp206
     have zh207 : zy202 7 = .pointer (some ⟨zb177, 0, none⟩) := (zhf205 7 (by kernel_rfl)).trans (by kernel_rfl)
     have zh208 : zy202 43 = .bool false := (Sp.out0 (zhp206 2 43 (by kernel_rfl) (by kernel_rfl))).1
     have zS209 := zS176.quiet zhc204
     refine step_yes (wY_t zh208) ?_
     refine yenv [(7, .pointer (some ⟨zb177, 0, none⟩))] (ag_cons zh207 (ag_nil)) ?_
     have zS210 := zS209.loc
     refine Y.move_ ?_
     exact ⟨zS210.ch, Sp.mk_holds [] (all_nil)⟩
   refine step_cons ?_ ?_
   · intro zy211 zw212 zhc213 zhf214 zhp215
     have zh216 : zy211 44 = .pointer (some ⟨zb177, 0, none⟩) := (Sp.out0 (zhp215 3 44 (by kernel_rfl) (by kernel_rfl))).1
     have zh217 : zy211 43 = .bool false := (Sp.out0 (zhp215 2 43 (by kernel_rfl) (by kernel_rfl))).1
     have zS218 := zS176.quiet zhc213
     refine step_yes (wY_t zh217) ?_
     refine yenv [(44, .pointer (some ⟨zb177, 0, none⟩))] (ag_cons zh216 (ag_nil)) ?_
     have zS219 := zS218.loc
     refine Y.pure_ (.bool false) ?_
     exact ⟨zS219.ch, Sp.mk_holds [] (all_nil)⟩
   refine step_cons ?_ ?_
   · intro zy220 zw221 zhc222 zhf223 zhp224
     have zh225 : zy220 43 = .bool false := (Sp.out0 (zhp224 2 43 (by kernel_rfl) (by kernel_rfl))).1
     have zh226 : zy220 45 = .bool false := (Sp.out0 (zhp224 4 45 (by kernel_rfl) (by kernel_rfl))).1
     have zS227 := zS176.quiet zhc222
     refine step1 ?_
     refine yenv [(43, .bool false), (45, .bool false)] (ag_cons zh225 (ag_cons zh226 (ag_nil))) ?_
     have zS228 := zS227.loc
     refine Y.pure_ (.bool false) ?_
     exact ⟨zS228.ch, Sp.mk_holds [] (all_nil)⟩
   refine step_cons ?_ ?_
   · intro zy229 zw230 zhc231 zhf232 zhp233
     have zh234 : zy229 46 = .bool false := (Sp.out0 (zhp233 5 46 (by kernel_rfl) (by kernel_rfl))).1
     have zS235 := zS176.quiet zhc231
     refine step1 ?_
     refine yenv [(46, .bool false)] (ag_cons zh234 (ag_nil)) ?_
     have zS236 := zS235.loc
     refine Y.pure_ (.bool false) ?_
     exact ⟨zS236.ch, Sp.mk_holds [] (all_nil)⟩
   refine step_cons ?_ ?_
   · intro zy237 zw238 zhc239 zhf240 zhp241
     have zh242 : zy237 7 = .pointer (some ⟨zb177, 0, none⟩) := (zhf240 7 (by kernel_rfl)).trans (by kernel_rfl)
     have zh243 : zy237 47 = .bool false := (Sp.out0 (zhp241 6 47 (by kernel_rfl) (by kernel_rfl))).1
     have zS244 := zS176.quiet zhc239
     refine step_yes (wY_t zh243) ?_
     refine yenv [(7, .pointer (some ⟨zb177, 0, none⟩))] (ag_cons zh242 (ag_nil)) ?_
     have zS245 := zS244.loc
     refine Y.move_ ?_
     exact ⟨zS245.ch, Sp.mk_holds [] (all_nil)⟩
   refine step_cons ?_ ?_
   · intro zy246 zw247 zhc248 zhf249 zhp250
     have zh251 : zy246 48 = .pointer (some ⟨zb177, 0, none⟩) := (Sp.out0 (zhp250 7 48 (by kernel_rfl) (by kernel_rfl))).1
     have zh252 : zy246 47 = .bool false := (Sp.out0 (zhp250 6 47 (by kernel_rfl) (by kernel_rfl))).1
     have zS253 := zS176.quiet zhc248
     refine step_yes (wY_t zh252) ?_
     refine yenv [(48, .pointer (some ⟨zb177, 0, none⟩))] (ag_cons zh251 (ag_nil)) ?_
     have zS254 := zS253.loc
     refine Y.call_ 22 #[.pointer (some ⟨zb177, 0, none⟩)] ?_
     refine enter_ Tryz.func22 rfl ?_
     refine seq_ (reg_ ?_)
     refine pure_ (.int .i64 0) ?_
     refine nil_ (then_n (seq_ (reg_ ?_)))
     refine move_ ?_
     refine pure_ (.pointer (some ⟨zb177, 0, none⟩)) ?_
     refine pure_ (.pointer (some ⟨zb177, 1, none⟩)) ?_
     refine load1_ zS254 0 (.int .i64 (polCode p.i (cutK kn))) zb177 1 ?_
     refine assign_ ?_
     refine nil_ (then_n (wp_ret ?_))
     refine ret_ rfl (res_ [.tmp 2] [.int .i64 (polCode p.i (cutK kn))] (.int .i64 (polCode p.i (cutK kn))) ⟨res_tmp, trivial⟩) ?_
     exact ⟨zS254.ch, Sp.mk_holds [] (all_nil)⟩
   refine step_cons ?_ ?_
   · intro zy255 zw256 zhc257 zhf258 zhp259
     have zh260 : zy255 2 = .pointer (some ⟨zb1, 0, none⟩) := (zhf258 2 (by kernel_rfl)).trans (by kernel_rfl)
     have zh261 : zy255 47 = .bool false := (Sp.out0 (zhp259 6 47 (by kernel_rfl) (by kernel_rfl))).1
     have zS262 := zS176.quiet zhc257
     refine step_yes (wY_t zh261) ?_
     refine yenv [(2, .pointer (some ⟨zb1, 0, none⟩))] (ag_cons zh260 (ag_nil)) ?_
     have zS263 := zS262.loc
     refine Y.loadN_ zS263 1 56 (polP p ka (cutK kn) kc) zb1 0 ?_
     exact ⟨zS263.ch, Sp.mk_holds [] (all_nil)⟩
   refine step_cons ?_ ?_
   · intro zy264 zw265 zhc266 zhf267 zhp268
     have zh269 : zy264 50 = .agg (polP p ka (cutK kn) kc) := (Sp.out0 (zhp268 9 50 (by kernel_rfl) (by kernel_rfl))).1
     have zh270 : zy264 47 = .bool false := (Sp.out0 (zhp268 6 47 (by kernel_rfl) (by kernel_rfl))).1
     have zS271 := zS176.quiet zhc266
     refine step_yes (wY_t zh270) ?_
     refine yenv [(50, .agg (polP p ka (cutK kn) kc))] (ag_cons zh269 (ag_nil)) ?_
     have zS272 := zS271.loc
     refine Y.call_ 23 #[.agg (polP p ka (cutK kn) kc)] ?_
     refine (checkP_ p ka (cutK kn) kc _).mono ?_; rintro _ zw273 ⟨rfl, zh274⟩
     have zS275 := zS272.quiet zh274
     exact ⟨zS275.ch, Sp.mk_holds [] (all_nil)⟩
   refine step_cons ?_ ?_
   · intro zy276 zw277 zhc278 zhf279 zhp280
     have zh281 : zy276 49 = .int .i64 (polCode p.i (cutK kn)) := (Sp.out0 (zhp280 8 49 (by kernel_rfl) (by kernel_rfl))).1
     have zh282 : zy276 51 = .int .i64 (polCode p.i (cutK kn)) := (Sp.out0 (zhp280 10 51 (by kernel_rfl) (by kernel_rfl))).1
     have zh283 : zy276 47 = .bool false := (Sp.out0 (zhp280 6 47 (by kernel_rfl) (by kernel_rfl))).1
     have zS284 := zS176.quiet zhc278
     refine step_yes (wY_t zh283) ?_
     refine yenv [(49, .int .i64 (polCode p.i (cutK kn))), (51, .int .i64 (polCode p.i (cutK kn)))] (ag_cons zh281 (ag_cons zh282 (ag_nil))) ?_
     have zS285 := zS284.loc
     refine Y.pureE_ (.bool ((polCode p.i (cutK kn)) != (polCode p.i (cutK kn)))) (.bool false) (congrArg Value.bool (neF (by omega))) ?_
     exact ⟨zS285.ch, Sp.mk_holds [] (all_nil)⟩
   refine step_cons ?_ ?_
   · intro zy286 zw287 zhc288 zhf289 zhp290
     have zh291 : zy286 47 = .bool false := (Sp.out0 (zhp290 6 47 (by kernel_rfl) (by kernel_rfl))).1
     have zh292 : zy286 52 = .bool false := (Sp.out0 (zhp290 11 52 (by kernel_rfl) (by kernel_rfl))).1
     have zS293 := zS176.quiet zhc288
     refine step1 ?_
     refine yenv [(47, .bool false), (52, .bool false)] (ag_cons zh291 (ag_cons zh292 (ag_nil))) ?_
     have zS294 := zS293.loc
     refine Y.pure_ (.bool false) ?_
     exact ⟨zS294.ch, Sp.mk_holds [] (all_nil)⟩
   exact step_nil
 intro zv295 zw296 zhc297 zha298
 have zh299 : zv295 0 = .bool true := (Sp.out0 (zha298 0 (by kernel_rfl))).1
 have zh300 : zv295 1 = .bool false := (Sp.out0 (zha298 1 (by kernel_rfl))).1
 have zh301 : zv295 2 = .bool false := (Sp.out0 (zha298 2 (by kernel_rfl))).1
 have zh302 : zv295 3 = .pointer (some ⟨zb177, 0, none⟩) := (Sp.out0 (zha298 3 (by kernel_rfl))).1
 have zh303 : zv295 4 = .bool false := (Sp.out0 (zha298 4 (by kernel_rfl))).1
 have zh304 : zv295 5 = .bool false := (Sp.out0 (zha298 5 (by kernel_rfl))).1
 have zh305 : zv295 6 = .bool false := (Sp.out0 (zha298 6 (by kernel_rfl))).1
 have zh306 : zv295 7 = .pointer (some ⟨zb177, 0, none⟩) := (Sp.out0 (zha298 7 (by kernel_rfl))).1
 have zh307 : zv295 8 = .int .i64 (polCode p.i (cutK kn)) := (Sp.out0 (zha298 8 (by kernel_rfl))).1
 have zh308 : zv295 9 = .agg (polP p ka (cutK kn) kc) := (Sp.out0 (zha298 9 (by kernel_rfl))).1
 have zh309 : zv295 10 = .int .i64 (polCode p.i (cutK kn)) := (Sp.out0 (zha298 10 (by kernel_rfl))).1
 have zh310 : zv295 11 = .bool false := (Sp.out0 (zha298 11 (by kernel_rfl))).1
 have zh311 : zv295 12 = .bool false := (Sp.out0 (zha298 12 (by kernel_rfl))).1
 have zS312 := zS176.quiet zhc297
 refine ⟨[.bool true, .bool false, .bool false, .pointer (some ⟨zb177, 0, none⟩), .bool false, .bool false, .bool false, .pointer (some ⟨zb177, 0, none⟩), .int .i64 (polCode p.i (cutK kn)), .agg (polP p ka (cutK kn) kc), .int .i64 (polCode p.i (cutK kn)), .bool false, .bool false], by kernel_rfl, va_cons zh299 (va_cons zh300 (va_cons zh301 (va_cons zh302 (va_cons zh303 (va_cons zh304 (va_cons zh305 (va_cons zh306 (va_cons zh307 (va_cons zh308 (va_cons zh309 (va_cons zh310 (va_cons zh311 (va_nil))))))))))))), ?_⟩
 refine nil_ (then_n (cond_F ?_))
 refine wp_skip (then_n (seq_ (seq_ (reg_ ?_))))
 refine loadN_ zS312 1 56 (polP p ka (cutK kn) kc) zb1 0 ?_
 refine call_ 23 #[.agg (polP p ka (cutK kn) kc)] ?_
 refine (checkP_ p ka (cutK kn) kc _).mono ?_; rintro _ zw313 ⟨rfl, zh314⟩
 have zS315 := zS312.quiet zh314
 refine pureE_ (.bool ((polCode p.i (cutK kn)) == 0)) (.bool false) (congrArg Value.bool (zh172)) ?_
 refine nil_ (then_n (cond_F ?_))
 refine wp_skip (then_n (seq_ (reg_ ?_)))
 refine pure_ (l) ?_
 refine call_ 24 #[l] ?_
 refine (hf _ zS315.ch).mono ?_; rintro _ zw316 ⟨b1, zc317, es, rfl, zh318, zh319, zh320⟩
 have zh322 := (zS315.quiet zh319).ch
 have zS321 : St [] zw316 [⟨zb177, false, .cells #[.pointer none, .int .i64 (polCode p.i (cutK kn)), .pointer none, .pointer none, .pointer none] 137 (0, 0)⟩] zw316 := St.given (w := zw316) [(zb177, .cells #[.pointer none, .int .i64 (polCode p.i (cutK kn)), .pointer none, .pointer none, .pointer none] 137 (0, 0))] (all_cons ((zS315.quiet zh319).at_ 0 _ rfl) all_nil)
 refine assign_ ?_
 refine nil_ (then_n (seq_ (seq_ (reg_ ?_))))
 refine pure_ (.int .i64 0) ?_
 refine nil_ (then_n (wp_block ?_))
 refine loopJ_ (fun zn za zw => ∃ (i : Int) (zj323 : Nat → Value), (zn = (((es.length : Nat) : Int) - i).toNat ∧ 0 ≤ i ∧ i ≤ ((es.length : Nat) : Int)) ∧ za = ⟨#[.agg (polP p ka kn kc), l, .pointer (some ⟨zb1, 0, none⟩), undef, (zj323 4), .bool true, .int .i64 3, .pointer (some ⟨zb177, 0, none⟩), .slice (some ⟨b1, 0, none⟩) (es.length) zc317, .int .i64 i, (zj323 10), (zj323 11), .bool true, .int .i64 3, .bool false, .int .i64 2, .int .i64 3, .int .i64 2, .int .i64 2, .pointer (some ⟨zb1, 5, none⟩), .pointer (some ⟨zb1, 7, none⟩), .slice (ka 2) (kn 2) (kc 2), .int .i64 2, .pointer (some ⟨zb1, 5, none⟩), .pointer (some ⟨zb1, 7, none⟩), .slice (ka 2) (kn 2) (kc 2), .int .i64 (((kn 2) : Nat) : Int), .int .i64 ((cutK kn 2 : Nat) : Int), .slice (ka 2) (cutK kn 2) (kc 2), .pointer (some ⟨zb1, 5, none⟩), .pointer (some ⟨zb1, 7, none⟩), .pointer (some ⟨zb1, 8, none⟩), .slice (ka 3) (kn 3) (kc 3), .pointer (some ⟨zb1, 8, none⟩), .slice (ka 3) (kn 3) (kc 3), .int .i64 (((kn 3) : Nat) : Int), .int .i64 ((cutK kn 3 : Nat) : Int), .slice (ka 3) (cutK kn 3) (kc 3), .pointer (some ⟨zb1, 8, none⟩), .agg (polP p ka (cutK kn) kc), .pointer (some ⟨zb177, 0, none⟩), .bool true, .bool false, .bool false, .pointer (some ⟨zb177, 0, none⟩), .bool false, .bool false, .bool false, .pointer (some ⟨zb177, 0, none⟩), .int .i64 (polCode p.i (cutK kn)), .agg (polP p ka (cutK kn) kc), .int .i64 (polCode p.i (cutK kn)), .bool false, .bool false, .agg (polP p ka (cutK kn) kc), .int .i64 (polCode p.i (cutK kn)), .bool false, l, .slice (some ⟨b1, 0, none⟩) (es.length) zc317, (zj323 59), (zj323 60), (zj323 61), (zj323 62), (zj323 63), (zj323 64), (zj323 65), (zj323 66), (zj323 67), (zj323 68), (zj323 69), (zj323 70), (zj323 71), (zj323 72), (zj323 73), (zj323 74), (zj323 75), (zj323 76), (zj323 77), (zj323 78), (zj323 79), (zj323 80), (zj323 81), (zj323 82), (zj323 83), (zj323 84), (zj323 85), (zj323 86), (zj323 87), (zj323 88), (zj323 89), (zj323 90), (zj323 91), (zj323 92), (zj323 93), (zj323 94), (zj323 95), (zj323 96), (zj323 97), (zj323 98), (zj323 99), (zj323 100)], []⟩ ∧ St [] zw316 [⟨zb177, false, .cells #[.pointer none, .int .i64 (polCode p.i (cutK kn)), .pointer none, .pointer none, .pointer none] 137 (0, 0)⟩] zw) _ (fun zy zye => ⟨(0 : Int), (fun d => zy.tmps.getD d undef), ⟨rfl, by omega, by omega⟩, by subst zye; kernel_rfl, zS321.re (R := ([] : List Blk)) [[⟨zb177, false, .cells #[.pointer none, .int .i64 (polCode p.i (cutK kn)), .pointer none, .pointer none, .pointer none] 137 (0, 0)⟩]] [0]⟩) ?_
 rintro _ _ zw326 ⟨i, zj323, ⟨rfl, zf324, zf325⟩, rfl, zS327⟩
 refine seq_ (seq_ (reg_ ?_))
 refine pure_ (.int .i64 i) ?_
 refine move_ ?_
 refine pure_ (.int .i64 (((es.length) : Nat) : Int)) ?_
 refine pure_ (.bool (decide (i < (((es.length) : Nat) : Int)))) ?_
 refine nil_ (then_n ?_)
 refine cond_S (decide (i < (((es.length) : Nat) : Int))) ?_ ?_
 · intro zh328
   have zh329 := ltT' zh328
   refine wp_skip (then_n (seq_ (wp_block (seq_ (reg_ ?_)))))
   refine move_ ?_
   refine move_ ?_
   refine pure_ (.int .i64 i) ?_
   refine idxS_ (e := 79) b1 0 (i).toNat (es.length) 10 zc317 .i64 i (by omega) (by omega) rfl ?_
   refine loadON_ zS327 10 #[.int .i64 (es.getD (i).toNat evD).kd, .int .i64 (es.getD (i).toNat evD).so, .slice (es.getD (i).toNat evD).a (es.getD (i).toNat evD).n (es.getD (i).toNat evD).c, .bool (es.getD (i).toNat evD).vd, .int .i64 (es.getD (i).toNat evD).x0, .int .i64 (es.getD (i).toNat evD).x1, .int .i64 (es.getD (i).toNat evD).x2, .int .i64 (es.getD (i).toNat evD).x3, .bool (es.getD (i).toNat evD).gv, .bool (es.getD (i).toNat evD).bd] b1 (0 + (i).toNat * 10) (zh320 (i).toNat (by omega)) (by simp) ?_
   refine call_ 25 #[.pointer (some ⟨zb177, 0, none⟩), .agg #[.int .i64 (es.getD (i).toNat evD).kd, .int .i64 (es.getD (i).toNat evD).so, .slice (es.getD (i).toNat evD).a (es.getD (i).toNat evD).n (es.getD (i).toNat evD).c, .bool (es.getD (i).toNat evD).vd, .int .i64 (es.getD (i).toNat evD).x0, .int .i64 (es.getD (i).toNat evD).x1, .int .i64 (es.getD (i).toNat evD).x2, .int .i64 (es.getD (i).toNat evD).x3, .bool (es.getD (i).toNat evD).gv, .bool (es.getD (i).toNat evD).bd]] ?_
   refine enter_ Tryz.func25 rfl ?_
   refine seq_ (reg_ ?_)
   refine new_ zS327 (fun b => .pointer (some ⟨b, 0, none⟩)) (.cells #[.int .i64 (es.getD (i).toNat evD).kd, .int .i64 (es.getD (i).toNat evD).so, .slice (es.getD (i).toNat evD).a (es.getD (i).toNat evD).n (es.getD (i).toNat evD).c, .bool (es.getD (i).toNat evD).vd, .int .i64 (es.getD (i).toNat evD).x0, .int .i64 (es.getD (i).toNat evD).x1, .int .i64 (es.getD (i).toNat evD).x2, .int .i64 (es.getD (i).toNat evD).x3, .bool (es.getD (i).toNat evD).gv, .bool (es.getD (i).toNat evD).bd] 79) ?_
   intro zb330 zw331 zS332
   refine new_ zS332 (fun b => .pointer (some ⟨b, 0, none⟩)) (.cells #[.int .i64 0, .int .i64 0, .int .i64 0, .int .i64 0, .int .i64 0, .int .i64 0, .int .i64 0, .int .i64 0, .int .i64 0, .int .i64 0, .int .i64 0, .int .i64 0, .slice none 0 0, .slice none 0 0, .int .u8 0, .int .u8 0, .int .u8 0, .int .u8 0, .int .u8 0, .int .u8 0, .int .u8 0, .int .u8 0, .int .u8 0, .int .u8 0, .int .u8 0, .int .u8 0, .int .u8 0, .int .u8 0, .int .u8 0, .int .u8 0, .int .u8 0, .int .u8 0, .int .u8 0, .int .u8 0, .int .u8 0, .int .u8 0, .int .u8 0, .int .u8 0, .int .u8 0, .int .u8 0, .int .u8 0, .int .u8 0, .int .u8 0, .int .u8 0, .int .u8 0, .int .u8 0] 54) ?_
   intro zb333 zw334 zS335
   refine nil_ (then_n (seq_ (seq_ (reg_ ?_))))
   refine move_ ?_
   refine pure_ (.pointer (some ⟨zb177, 0, none⟩)) ?_
   refine pure_ (.pointer (some ⟨zb177, 0, none⟩)) ?_
   refine load1_ zS335 2 (.pointer none) zb177 0 ?_
   refine pure_ (.bool true) ?_
   refine nil_ (then_n (cond_T ?_))
   refine seq_ (reg_ ?_)
   refine call_ 27 #[] ?_
   refine (fixed_ _).mono ?_; rintro _ zw336 ⟨rfl, zh337⟩
   have zS338 := zS335.quiet zh337
   refine pure_ (.agg #[.int .i64 4, .int .i64 1, .int .i64 0, .int .i64 0, .int .i64 0, .int .i64 0, .int .i64 2, .int .i64 4, .int .i64 0, .int .i64 2, .int .i64 4, .int .i64 0, .slice none 0 0, .slice none 0 0, .int .u8 0, .int .u8 0, .int .u8 0, .int .u8 0, .int .u8 0, .int .u8 0, .int .u8 0, .int .u8 0, .int .u8 0, .int .u8 0, .int .u8 0, .int .u8 0, .int .u8 0, .int .u8 0, .int .u8 0, .int .u8 0, .int .u8 0, .int .u8 0, .int .u8 0, .int .u8 0, .int .u8 0, .int .u8 0, .int .u8 0, .int .u8 0, .int .u8 0, .int .u8 0, .int .u8 0, .int .u8 0, .int .u8 0, .int .u8 0, .int .u8 0, .int .u8 0]) ?_
   refine store_ zS338 0 (.agg #[.int .i64 4, .int .i64 1, .int .i64 0, .int .i64 0, .int .i64 0, .int .i64 0, .int .i64 2, .int .i64 4, .int .i64 0, .int .i64 2, .int .i64 4, .int .i64 0, .slice none 0 0, .slice none 0 0, .int .u8 0, .int .u8 0, .int .u8 0, .int .u8 0, .int .u8 0, .int .u8 0, .int .u8 0, .int .u8 0, .int .u8 0, .int .u8 0, .int .u8 0, .int .u8 0, .int .u8 0, .int .u8 0, .int .u8 0, .int .u8 0, .int .u8 0, .int .u8 0, .int .u8 0, .int .u8 0, .int .u8 0, .int .u8 0, .int .u8 0, .int .u8 0, .int .u8 0, .int .u8 0, .int .u8 0, .int .u8 0, .int .u8 0, .int .u8 0, .int .u8 0, .int .u8 0]) zb333 0 ?_
   intro zw339 zS340
   refine nil_ (then_n (wp_ret (then_r ?_)))
   refine ret_ rfl (res_ [.cell 4 54] [.agg #[.int .i64 4, .int .i64 1, .int .i64 0, .int .i64 0, .int .i64 0, .int .i64 0, .int .i64 2, .int .i64 4, .int .i64 0, .int .i64 2, .int .i64 4, .int .i64 0, .slice none 0 0, .slice none 0 0, .int .u8 0, .int .u8 0, .int .u8 0, .int .u8 0, .int .u8 0, .int .u8 0, .int .u8 0, .int .u8 0, .int .u8 0, .int .u8 0, .int .u8 0, .int .u8 0, .int .u8 0, .int .u8 0, .int .u8 0, .int .u8 0, .int .u8 0, .int .u8 0, .int .u8 0, .int .u8 0, .int .u8 0, .int .u8 0, .int .u8 0, .int .u8 0, .int .u8 0, .int .u8 0, .int .u8 0, .int .u8 0, .int .u8 0, .int .u8 0, .int .u8 0, .int .u8 0]] (.agg #[.int .i64 4, .int .i64 1, .int .i64 0, .int .i64 0, .int .i64 0, .int .i64 0, .int .i64 2, .int .i64 4, .int .i64 0, .int .i64 2, .int .i64 4, .int .i64 0, .slice none 0 0, .slice none 0 0, .int .u8 0, .int .u8 0, .int .u8 0, .int .u8 0, .int .u8 0, .int .u8 0, .int .u8 0, .int .u8 0, .int .u8 0, .int .u8 0, .int .u8 0, .int .u8 0, .int .u8 0, .int .u8 0, .int .u8 0, .int .u8 0, .int .u8 0, .int .u8 0, .int .u8 0, .int .u8 0, .int .u8 0, .int .u8 0, .int .u8 0, .int .u8 0, .int .u8 0, .int .u8 0, .int .u8 0, .int .u8 0, .int .u8 0, .int .u8 0, .int .u8 0, .int .u8 0]) ⟨res_cellN zS340 0 46 zb333 0, trivial⟩) ?_
   refine new_ zS340 (fun b => .pointer (some ⟨b, 0, none⟩)) (.cells #[.int .i64 0, .int .i64 0, .int .i64 0, .int .i64 0, .int .i64 0, .int .i64 0, .int .i64 0, .int .i64 0, .int .i64 0, .int .i64 0, .int .i64 0, .int .i64 0, .slice none 0 0, .slice none 0 0, .int .u8 0, .int .u8 0, .int .u8 0, .int .u8 0, .int .u8 0, .int .u8 0, .int .u8 0, .int .u8 0, .int .u8 0, .int .u8 0, .int .u8 0, .int .u8 0, .int .u8 0, .int .u8 0, .int .u8 0, .int .u8 0, .int .u8 0, .int .u8 0, .int .u8 0, .int .u8 0, .int .u8 0, .int .u8 0, .int .u8 0, .int .u8 0, .int .u8 0, .int .u8 0, .int .u8 0, .int .u8 0, .int .u8 0, .int .u8 0, .int .u8 0, .int .u8 0] 54) ?_
   intro zb341 zw342 zS343
   refine store_ zS343 0 (.agg #[.int .i64 4, .int .i64 1, .int .i64 0, .int .i64 0, .int .i64 0, .int .i64 0, .int .i64 2, .int .i64 4, .int .i64 0, .int .i64 2, .int .i64 4, .int .i64 0, .slice none 0 0, .slice none 0 0, .int .u8 0, .int .u8 0, .int .u8 0, .int .u8 0, .int .u8 0, .int .u8 0, .int .u8 0, .int .u8 0, .int .u8 0, .int .u8 0, .int .u8 0, .int .u8 0, .int .u8 0, .int .u8 0, .int .u8 0, .int .u8 0, .int .u8 0, .int .u8 0, .int .u8 0, .int .u8 0, .int .u8 0, .int .u8 0, .int .u8 0, .int .u8 0, .int .u8 0, .int .u8 0, .int .u8 0, .int .u8 0, .int .u8 0, .int .u8 0, .int .u8 0, .int .u8 0]) zb341 0 ?_
   intro zw344 zS345
   refine nil_ (then_n (seq_ (reg_ ?_)))
   refine move_ ?_
   refine call_ 26 #[.pointer (some ⟨zb177, 0, none⟩)] ?_
   refine enter_ Tryz.func26 rfl ?_
   refine seq_ (reg_ ?_)
   refine new_ zS345 (fun b => .pointer (some ⟨b, 0, none⟩)) (.cells #[.int .i64 0, .int .i64 0, .int .i64 0, .int .i64 0, .int .i64 0, .int .i64 0, .int .i64 0, .int .i64 0, .int .i64 0, .int .i64 0, .int .i64 0, .int .i64 0, .int .i64 0, .int .i64 0, .int .i64 0, .int .i64 0, .int .i64 0, .int .i64 0, .int .i64 0, .slice none 0 0, .bool false, .bool false, .bool false, .bool false, .bool false, .int .i64 0, .int .i64 0, .int .i64 0, .int .i64 0, .int .i64 0, .bool false] 45) ?_
   intro zb346 zw347 zS348
   refine nil_ (then_n (seq_ (seq_ (reg_ ?_))))
   refine move_ ?_
   refine pure_ (.pointer (some ⟨zb177, 0, none⟩)) ?_
   refine pure_ (.pointer (some ⟨zb177, 0, none⟩)) ?_
   refine load1_ zS348 4 (.pointer none) zb177 0 ?_
   refine pure_ (.bool true) ?_
   refine nil_ (then_n (cond_T ?_))
   refine seq_ (reg_ ?_)
   refine pure_ (.agg #[.int .i64 0, .int .i64 0, .int .i64 0, .int .i64 0, .int .i64 0, .int .i64 0, .int .i64 0, .int .i64 0, .int .i64 0, .int .i64 0, .int .i64 0, .int .i64 0, .int .i64 0, .int .i64 0, .int .i64 0, .int .i64 0, .int .i64 0, .int .i64 0, .int .i64 0, .slice none 0 0, .bool false, .bool false, .bool false, .bool false, .bool false, .int .i64 0, .int .i64 0, .int .i64 0, .int .i64 0, .int .i64 0, .bool false]) ?_
   refine store_ zS348 0 (.agg #[.int .i64 0, .int .i64 0, .int .i64 0, .int .i64 0, .int .i64 0, .int .i64 0, .int .i64 0, .int .i64 0, .int .i64 0, .int .i64 0, .int .i64 0, .int .i64 0, .int .i64 0, .int .i64 0, .int .i64 0, .int .i64 0, .int .i64 0, .int .i64 0, .int .i64 0, .slice none 0 0, .bool false, .bool false, .bool false, .bool false, .bool false, .int .i64 0, .int .i64 0, .int .i64 0, .int .i64 0, .int .i64 0, .bool false]) zb346 0 ?_
   intro zw349 zS350
   refine nil_ (then_n (wp_ret (then_r ?_)))
   refine ret_ rfl (res_ [.cell 2 45] [.agg #[.int .i64 0, .int .i64 0, .int .i64 0, .int .i64 0, .int .i64 0, .int .i64 0, .int .i64 0, .int .i64 0, .int .i64 0, .int .i64 0, .int .i64 0, .int .i64 0, .int .i64 0, .int .i64 0, .int .i64 0, .int .i64 0, .int .i64 0, .int .i64 0, .int .i64 0, .slice none 0 0, .bool false, .bool false, .bool false, .bool false, .bool false, .int .i64 0, .int .i64 0, .int .i64 0, .int .i64 0, .int .i64 0, .bool false]] (.agg #[.int .i64 0, .int .i64 0, .int .i64 0, .int .i64 0, .int .i64 0, .int .i64 0, .int .i64 0, .int .i64 0, .int .i64 0, .int .i64 0, .int .i64 0, .int .i64 0, .int .i64 0, .int .i64 0, .int .i64 0, .int .i64 0, .int .i64 0, .int .i64 0, .int .i64 0, .slice none 0 0, .bool false, .bool false, .bool false, .bool false, .bool false, .int .i64 0, .int .i64 0, .int .i64 0, .int .i64 0, .int .i64 0, .bool false]) ⟨res_cellN zS350 0 31 zb346 0, trivial⟩) ?_
   refine pure_ (.agg #[.int .i64 0, .int .i64 0, .int .i64 0, .int .i64 0, .int .i64 0, .int .i64 0, .int .i64 0, .int .i64 0, .int .i64 0, .int .i64 0, .int .i64 0, .int .i64 0, .int .i64 0, .int .i64 0, .int .i64 0, .int .i64 0, .int .i64 0, .int .i64 0, .int .i64 0, .slice none 0 0, .bool false, .bool false, .bool false, .bool false, .bool false, .int .i64 0, .int .i64 0, .int .i64 0, .int .i64 0, .int .i64 0, .bool false]) ?_
   refine call_ 10 #[.agg #[.int .i64 0, .int .i64 0, .int .i64 0, .int .i64 0, .int .i64 0, .int .i64 0, .int .i64 0, .int .i64 0, .int .i64 0, .int .i64 0, .int .i64 0, .int .i64 0, .int .i64 0, .int .i64 0, .int .i64 0, .int .i64 0, .int .i64 0, .int .i64 0, .int .i64 0, .slice none 0 0, .bool false, .bool false, .bool false, .bool false, .bool false, .int .i64 0, .int .i64 0, .int .i64 0, .int .i64 0, .int .i64 0, .bool false], .agg #[.int .i64 0, .int .i64 0, .int .i64 0, .int .i64 0, .int .i64 0, .int .i64 0, .int .i64 0, .int .i64 0, .int .i64 0, .int .i64 0, .int .i64 0, .int .i64 0, .int .i64 0, .int .i64 0, .int .i64 0, .int .i64 0, .int .i64 0, .int .i64 0, .int .i64 0, .slice none 0 0, .bool false, .bool false, .bool false, .bool false, .bool false, .int .i64 0, .int .i64 0, .int .i64 0, .int .i64 0, .int .i64 0, .bool false]] ?_
   refine enter_ Tryz.func10 rfl ?_
   refine seq_ (reg_ ?_)
   refine new_ zS350 (fun b => .pointer (some ⟨b, 0, none⟩)) (.cells #[.int .i64 0, .int .i64 0, .int .i64 0, .int .i64 0, .int .i64 0, .int .i64 0, .int .i64 0, .int .i64 0, .int .i64 0, .int .i64 0, .int .i64 0, .int .i64 0, .int .i64 0, .int .i64 0, .int .i64 0, .int .i64 0, .int .i64 0, .int .i64 0, .int .i64 0, .slice none 0 0, .bool false, .bool false, .bool false, .bool false, .bool false, .int .i64 0, .int .i64 0, .int .i64 0, .int .i64 0, .int .i64 0, .bool false] 45) ?_
   intro zb351 zw352 zS353
   refine new_ zS353 (fun b => .pointer (some ⟨b, 0, none⟩)) (.cells #[.int .i64 0, .int .i64 0, .int .i64 0, .int .i64 0, .int .i64 0, .int .i64 0, .int .i64 0, .int .i64 0, .int .i64 0, .int .i64 0, .int .i64 0, .int .i64 0, .int .i64 0, .int .i64 0, .int .i64 0, .int .i64 0, .int .i64 0, .int .i64 0, .int .i64 0, .slice none 0 0, .bool false, .bool false, .bool false, .bool false, .bool false, .int .i64 0, .int .i64 0, .int .i64 0, .int .i64 0, .int .i64 0, .bool false] 45) ?_
   intro zb354 zw355 zS356
   refine pure_ (.bool false) ?_
   refine nil_ (then_n (seq_ (reg_ ?_)))
   refine pure_ (.pointer (some ⟨zb351, 19, none⟩)) ?_
   refine load1_ zS356 1 (.slice none 0 0) zb351 19 ?_
   refine pure_ (.pointer (some ⟨zb354, 19, none⟩)) ?_
   refine load1_ zS356 0 (.slice none 0 0) zb354 19 ?_
   refine call_ 37 #[.slice none 0 0, .slice none 0 0] ?_
   refine enter_ Tryz.func37 rfl ?_
   refine seq_ (reg_ ?_)
   refine pure_ (.bool false) ?_
   refine nil_ (then_n (seq_ (seq_ (reg_ ?_))))
   refine pure_ (.slice none 0 0) ?_
   refine pure_ (.int .i64 0) ?_
   refine pure_ (.slice none 0 0) ?_
   refine pure_ (.int .i64 0) ?_
   refine pure_ (.bool false) ?_
   refine nil_ (then_n (cond_F ?_))
   refine wp_skip (then_n (seq_ (seq_ (reg_ ?_))))
   refine pure_ (.int .i64 0) ?_
   refine nil_ (then_n (wp_block (loop_ 24 (seq_ (seq_ (reg_ ?_))))))
   refine pure_ (.int .i64 0) ?_
   refine pure_ (.slice none 0 0) ?_
   refine pure_ (.int .i64 0) ?_
   refine pure_ (.bool false) ?_
   refine nil_ (then_n (cond_F ?_))
   refine wp_exit (then_e (then_e (blk_e (then_n (seq_ (reg_ ?_))))))
   refine pure_ (.bool true) ?_
   refine nil_ (then_n (wp_ret ?_))
   refine ret_ rfl (res_ [.tmp 4] [.bool true] (.bool true) ⟨res_tmp, trivial⟩) ?_
   refine pure_ (.bool true) ?_
   refine nil_ (then_n (seq_ (reg_ ?_)))
   refine pure_ (.bool true) ?_
   refine pure_ (.bool true) ?_
   refine pure_ (.pointer (some ⟨zb351, 0, none⟩)) ?_
   refine load1_ zS356 1 (.int .i64 0) zb351 0 ?_
   refine pure_ (.pointer (some ⟨zb354, 0, none⟩)) ?_
   refine load1_ zS356 0 (.int .i64 0) zb354 0 ?_
   refine pure_ (.bool true) ?_
   refine pure_ (.bool true) ?_
   refine pure_ (.bool true) ?_
   refine pure_ (.pointer (some ⟨zb351, 1, none⟩)) ?_
   refine load1_ zS356 1 (.int .i64 0) zb351 1 ?_
   refine pure_ (.pointer (some ⟨zb354, 1, none⟩)) ?_
   refine load1_ zS356 0 (.int .i64 0) zb354 1 ?_
   refine pure_ (.bool true) ?_
   refine pure_ (.bool true) ?_
   refine pure_ (.bool true) ?_
   refine pure_ (.pointer (some ⟨zb351, 2, none⟩)) ?_
   refine load1_ zS356 1 (.int .i64 0) zb351 2 ?_
   refine pure_ (.pointer (some ⟨zb354, 2, none⟩)) ?_
   refine load1_ zS356 0 (.int .i64 0) zb354 2 ?_
   refine pure_ (.bool true) ?_
   refine pure_ (.bool true) ?_
   refine pure_ (.bool true) ?_
   refine pure_ (.pointer (some ⟨zb351, 3, none⟩)) ?_
   refine load1_ zS356 1 (.int .i64 0) zb351 3 ?_
   refine pure_ (.pointer (some ⟨zb354, 3, none⟩)) ?_
   refine load1_ zS356 0 (.int .i64 0) zb354 3 ?_
   refine pure_ (.bool true) ?_
   refine pure_ (.bool true) ?_
   refine pure_ (.bool true) ?_
   refine pure_ (.pointer (some ⟨zb351, 4, none⟩)) ?_
   refine loadN_ zS356 1 3 #[.int .i64 0, .int .i64 0, .int .i64 0] zb351 4 ?_
   refine pure_ (.pointer (some ⟨zb354, 4, none⟩)) ?_
   refine loadN_ zS356 0 3 #[.int .i64 0, .int .i64 0, .int .i64 0] zb354 4 ?_
   refine eqAgg_ false true #[.int .i64 0, .int .i64 0, .int .i64 0] #[.int .i64 0, .int .i64 0, .int .i64 0] ?_
   refine pure_ (.bool true) ?_
   refine pure_ (.bool true) ?_
   refine pure_ (.pointer (some ⟨zb351, 7, none⟩)) ?_
   refine loadN_ zS356 1 12 (rowF .i64 12 (fun _ => 0)) zb351 7 ?_
   refine pure_ (.pointer (some ⟨zb354, 7, none⟩)) ?_
   refine loadN_ zS356 0 12 (rowF .i64 12 (fun _ => 0)) zb354 7 ?_
   refine eqAgg_ false true (rowF .i64 12 (fun _ => 0)) (rowF .i64 12 (fun _ => 0)) ?_
   refine pure_ (.bool true) ?_
   refine pure_ (.bool true) ?_
   refine pure_ (.pointer (some ⟨zb351, 20, none⟩)) ?_
   refine loadN_ zS356 1 5 #[.bool false, .bool false, .bool false, .bool false, .bool false] zb351 20 ?_
   refine pure_ (.pointer (some ⟨zb354, 20, none⟩)) ?_
   refine loadN_ zS356 0 5 #[.bool false, .bool false, .bool false, .bool false, .bool false] zb354 20 ?_
   refine eqAgg_ false true #[.bool false, .bool false, .bool false, .bool false, .bool false] #[.bool false, .bool false, .bool false, .bool false, .bool false] ?_
   refine pure_ (.bool true) ?_
   refine pure_ (.bool true) ?_
   refine pure_ (.pointer (some ⟨zb351, 25, none⟩)) ?_
   refine loadN_ zS356 1 5 #[.int .i64 0, .int .i64 0, .int .i64 0, .int .i64 0, .int .i64 0] zb351 25 ?_
   refine pure_ (.pointer (some ⟨zb354, 25, none⟩)) ?_
   refine loadN_ zS356 0 5 #[.int .i64 0, .int .i64 0, .int .i64 0, .int .i64 0, .int .i64 0] zb354 25 ?_
   refine eqAgg_ false true #[.int .i64 0, .int .i64 0, .int .i64 0, .int .i64 0, .int .i64 0] #[.int .i64 0, .int .i64 0, .int .i64 0, .int .i64 0, .int .i64 0] ?_
   refine pure_ (.bool true) ?_
   refine pure_ (.bool true) ?_
   refine pure_ (.pointer (some ⟨zb351, 30, none⟩)) ?_
   refine load1_ zS356 1 (.bool false) zb351 30 ?_
   refine pure_ (.pointer (some ⟨zb354, 30, none⟩)) ?_
   refine load1_ zS356 0 (.bool false) zb354 30 ?_
   refine pure_ (.bool true) ?_
   refine pure_ (.bool true) ?_
   refine pure_ (.bool true) ?_
   refine nil_ (then_n (wp_ret ?_))
   refine ret_ rfl (res_ [.tmp 4] [.bool true] (.bool true) ⟨res_tmp, trivial⟩) ?_
   refine pure_ (.bool true) ?_
   refine nil_ (then_n (seq_ ?_))
   refine drawnL_ 26 [⟨0, fun _ => .pointer (some ⟨zb341, 0, none⟩), fun _ => []⟩, ⟨0, fun _ => .agg #[.int .i64 4, .int .i64 1, .int .i64 0, .int .i64 0, .int .i64 0, .int .i64 0, .int .i64 2, .int .i64 4, .int .i64 0, .int .i64 2, .int .i64 4, .int .i64 0], fun _ => []⟩, ⟨0, fun _ => .agg #[.int .i64 4, .int .i64 1, .int .i64 0, .int .i64 0, .int .i64 0, .int .i64 0, .int .i64 2, .int .i64 4, .int .i64 0, .int .i64 2, .int .i64 4, .int .i64 0], fun _ => []⟩, ⟨0, fun _ => .bool false, fun _ => []⟩, ⟨0, fun _ => .bool false, fun _ => []⟩, ⟨0, fun _ => .pointer (some ⟨zb341, 12, none⟩), fun _ => []⟩, ⟨0, fun _ => .slice none 0 0, fun _ => []⟩, ⟨0, fun _ => .int .i64 0, fun _ => []⟩, ⟨0, fun _ => .bool false, fun _ => []⟩, ⟨0, fun _ => .bool false, fun _ => []⟩, ⟨0, fun _ => .bool false, fun _ => []⟩, ⟨0, fun _ => .pointer (some ⟨zb341, 13, none⟩), fun _ => []⟩, ⟨0, fun _ => .slice none 0 0, fun _ => []⟩, ⟨0, fun _ => .int .i64 0, fun _ => []⟩, ⟨0, fun _ => .bool false, fun _ => []⟩, ⟨0, fun _ => .bool false, fun _ => []⟩, ⟨0, fun _ => .bool false, fun _ => []⟩, ⟨0, fun _ => .pointer (some ⟨zb341, 14, none⟩), fun _ => []⟩, ⟨0, fun _ => .agg (rowF .u8 32 (fun _ => 0)), fun _ => []⟩, ⟨0, fun _ => .agg (rowF .u8 32 (fun _ => 0)), fun _ => []⟩, ⟨0, fun _ => .bool false, fun _ => []⟩, ⟨0, fun _ => .bool false, fun _ => []⟩, ⟨0, fun _ => .bool false, fun _ => []⟩, ⟨0, fun _ => .bool true, fun _ => []⟩, ⟨0, fun _ => .bool false, fun _ => []⟩, ⟨0, fun _ => .bool false, fun _ => []⟩] [] ?_ ?_
   · refine step_cons ?_ ?_
     · intro zy357 zw358 zhc359 zhf360 zhp361
       have zh362 : zy357 10 = .pointer (some ⟨zb341, 0, none⟩) := (zhf360 10 (by kernel_rfl)).trans (by kernel_rfl)
       have zS363 := zS356.quiet zhc359
       refine step1 ?_
       refine yenv [(10, .pointer (some ⟨zb341, 0, none⟩))] (ag_cons zh362 (ag_nil)) ?_
       have zS364 := zS363.loc
       refine Y.pure_ (.pointer (some ⟨zb341, 0, none⟩)) ?_
       exact ⟨zS364.ch, Sp.mk_holds [] (all_nil)⟩
     refine step_cons ?_ ?_
     · intro zy365 zw366 zhc367 zhf368 zhp369
       have zh370 : zy365 75 = .pointer (some ⟨zb341, 0, none⟩) := (Sp.out0 (zhp369 0 75 (by kernel_rfl) (by kernel_rfl))).1
       have zS371 := zS356.quiet zhc367
       refine step1 ?_
       refine yenv [(75, .pointer (some ⟨zb341, 0, none⟩))] (ag_cons zh370 (ag_nil)) ?_
       have zS372 := zS371.loc
       refine Y.loadN_ zS372 3 12 #[.int .i64 4, .int .i64 1, .int .i64 0, .int .i64 0, .int .i64 0, .int .i64 0, .int .i64 2, .int .i64 4, .int .i64 0, .int .i64 2, .int .i64 4, .int .i64 0] zb341 0 ?_
       exact ⟨zS372.ch, Sp.mk_holds [] (all_nil)⟩
     refine step_cons ?_ ?_
     · intro zy373 zw374 zhc375 zhf376 zhp377
       have zS378 := zS356.quiet zhc375
       refine step1 ?_
       refine yenv [] (ag_nil) ?_
       have zS379 := zS378.loc
       refine Y.call_ 27 #[] ?_
       refine (fixed_ _).mono ?_; rintro _ zw380 ⟨rfl, zh381⟩
       have zS382 := zS379.quiet zh381
       exact ⟨zS382.ch, Sp.mk_holds [] (all_nil)⟩
     refine step_cons ?_ ?_
     · intro zy383 zw384 zhc385 zhf386 zhp387
       have zh388 : zy383 76 = .agg #[.int .i64 4, .int .i64 1, .int .i64 0, .int .i64 0, .int .i64 0, .int .i64 0, .int .i64 2, .int .i64 4, .int .i64 0, .int .i64 2, .int .i64 4, .int .i64 0] := (Sp.out0 (zhp387 1 76 (by kernel_rfl) (by kernel_rfl))).1
       have zh389 : zy383 77 = .agg #[.int .i64 4, .int .i64 1, .int .i64 0, .int .i64 0, .int .i64 0, .int .i64 0, .int .i64 2, .int .i64 4, .int .i64 0, .int .i64 2, .int .i64 4, .int .i64 0] := (Sp.out0 (zhp387 2 77 (by kernel_rfl) (by kernel_rfl))).1
       have zS390 := zS356.quiet zhc385
       refine step1 ?_
       refine yenv [(76, .agg #[.int .i64 4, .int .i64 1, .int .i64 0, .int .i64 0, .int .i64 0, .int .i64 0, .int .i64 2, .int .i64 4, .int .i64 0, .int .i64 2, .int .i64 4, .int .i64 0]), (77, .agg #[.int .i64 4, .int .i64 1, .int .i64 0, .int .i64 0, .int .i64 0, .int .i64 0, .int .i64 2, .int .i64 4, .int .i64 0, .int .i64 2, .int .i64 4, .int .i64 0])] (ag_cons zh388 (ag_cons zh389 (ag_nil))) ?_
       have zS391 := zS390.loc
       refine Y.eqAgg_ true true #[.int .i64 4, .int .i64 1, .int .i64 0, .int .i64 0, .int .i64 0, .int .i64 0, .int .i64 2, .int .i64 4, .int .i64 0, .int .i64 2, .int .i64 4, .int .i64 0] #[.int .i64 4, .int .i64 1, .int .i64 0, .int .i64 0, .int .i64 0, .int .i64 0, .int .i64 2, .int .i64 4, .int .i64 0, .int .i64 2, .int .i64 4, .int .i64 0] ?_
       exact ⟨zS391.ch, Sp.mk_holds [] (all_nil)⟩
     refine step_cons ?_ ?_
     · intro zy392 zw393 zhc394 zhf395 zhp396
       have zh397 : zy392 78 = .bool false := (Sp.out0 (zhp396 3 78 (by kernel_rfl) (by kernel_rfl))).1
       have zS398 := zS356.quiet zhc394
       refine step1 ?_
       refine yenv [(78, .bool false)] (ag_cons zh397 (ag_nil)) ?_
       have zS399 := zS398.loc
       refine Y.pure_ (.bool false) ?_
       exact ⟨zS399.ch, Sp.mk_holds [] (all_nil)⟩
     refine step_cons ?_ ?_
     · intro zy400 zw401 zhc402 zhf403 zhp404
       have zh405 : zy400 10 = .pointer (some ⟨zb341, 0, none⟩) := (zhf403 10 (by kernel_rfl)).trans (by kernel_rfl)
       have zh406 : zy400 79 = .bool false := (Sp.out0 (zhp404 4 79 (by kernel_rfl) (by kernel_rfl))).1
       have zS407 := zS356.quiet zhc402
       refine step_yes (wY_t zh406) ?_
       refine yenv [(10, .pointer (some ⟨zb341, 0, none⟩))] (ag_cons zh405 (ag_nil)) ?_
       have zS408 := zS407.loc
       refine Y.pure_ (.pointer (some ⟨zb341, 12, none⟩)) ?_
       exact ⟨zS408.ch, Sp.mk_holds [] (all_nil)⟩
     refine step_cons ?_ ?_
     · intro zy409 zw410 zhc411 zhf412 zhp413
       have zh414 : zy409 80 = .pointer (some ⟨zb341, 12, none⟩) := (Sp.out0 (zhp413 5 80 (by kernel_rfl) (by kernel_rfl))).1
       have zh415 : zy409 79 = .bool false := (Sp.out0 (zhp413 4 79 (by kernel_rfl) (by kernel_rfl))).1
       have zS416 := zS356.quiet zhc411
       refine step_yes (wY_t zh415) ?_
       refine yenv [(80, .pointer (some ⟨zb341, 12, none⟩))] (ag_cons zh414 (ag_nil)) ?_
       have zS417 := zS416.loc
       refine Y.load1_ zS417 3 (.slice none 0 0) zb341 12 ?_
       exact ⟨zS417.ch, Sp.mk_holds [] (all_nil)⟩
     refine step_cons ?_ ?_
     · intro zy418 zw419 zhc420 zhf421 zhp422
       have zh423 : zy418 81 = .slice none 0 0 := (Sp.out0 (zhp422 6 81 (by kernel_rfl) (by kernel_rfl))).1
       have zh424 : zy418 79 = .bool false := (Sp.out0 (zhp422 4 79 (by kernel_rfl) (by kernel_rfl))).1
       have zS425 := zS356.quiet zhc420
       refine step_yes (wY_t zh424) ?_
       refine yenv [(81, .slice none 0 0)] (ag_cons zh423 (ag_nil)) ?_
       have zS426 := zS425.loc
       refine Y.pure_ (.int .i64 0) ?_
       exact ⟨zS426.ch, Sp.mk_holds [] (all_nil)⟩
     refine step_cons ?_ ?_
     · intro zy427 zw428 zhc429 zhf430 zhp431
       have zh432 : zy427 82 = .int .i64 0 := (Sp.out0 (zhp431 7 82 (by kernel_rfl) (by kernel_rfl))).1
       have zh433 : zy427 79 = .bool false := (Sp.out0 (zhp431 4 79 (by kernel_rfl) (by kernel_rfl))).1
       have zS434 := zS356.quiet zhc429
       refine step_yes (wY_t zh433) ?_
       refine yenv [(82, .int .i64 0)] (ag_cons zh432 (ag_nil)) ?_
       have zS435 := zS434.loc
       refine Y.pure_ (.bool false) ?_
       exact ⟨zS435.ch, Sp.mk_holds [] (all_nil)⟩
     refine step_cons ?_ ?_
     · intro zy436 zw437 zhc438 zhf439 zhp440
       have zh441 : zy436 79 = .bool false := (Sp.out0 (zhp440 4 79 (by kernel_rfl) (by kernel_rfl))).1
       have zh442 : zy436 83 = .bool false := (Sp.out0 (zhp440 8 83 (by kernel_rfl) (by kernel_rfl))).1
       have zS443 := zS356.quiet zhc438
       refine step1 ?_
       refine yenv [(79, .bool false), (83, .bool false)] (ag_cons zh441 (ag_cons zh442 (ag_nil))) ?_
       have zS444 := zS443.loc
       refine Y.pure_ (.bool false) ?_
       exact ⟨zS444.ch, Sp.mk_holds [] (all_nil)⟩
     refine step_cons ?_ ?_
     · intro zy445 zw446 zhc447 zhf448 zhp449
       have zh450 : zy445 84 = .bool false := (Sp.out0 (zhp449 9 84 (by kernel_rfl) (by kernel_rfl))).1
       have zS451 := zS356.quiet zhc447
       refine step1 ?_
       refine yenv [(84, .bool false)] (ag_cons zh450 (ag_nil)) ?_
       have zS452 := zS451.loc
       refine Y.pure_ (.bool false) ?_
       exact ⟨zS452.ch, Sp.mk_holds [] (all_nil)⟩
     refine step_cons ?_ ?_
     · intro zy453 zw454 zhc455 zhf456 zhp457
       have zh458 : zy453 10 = .pointer (some ⟨zb341, 0, none⟩) := (zhf456 10 (by kernel_rfl)).trans (by kernel_rfl)
       have zh459 : zy453 85 = .bool false := (Sp.out0 (zhp457 10 85 (by kernel_rfl) (by kernel_rfl))).1
       have zS460 := zS356.quiet zhc455
       refine step_yes (wY_t zh459) ?_
       refine yenv [(10, .pointer (some ⟨zb341, 0, none⟩))] (ag_cons zh458 (ag_nil)) ?_
       have zS461 := zS460.loc
       refine Y.pure_ (.pointer (some ⟨zb341, 13, none⟩)) ?_
       exact ⟨zS461.ch, Sp.mk_holds [] (all_nil)⟩
     refine step_cons ?_ ?_
     · intro zy462 zw463 zhc464 zhf465 zhp466
       have zh467 : zy462 86 = .pointer (some ⟨zb341, 13, none⟩) := (Sp.out0 (zhp466 11 86 (by kernel_rfl) (by kernel_rfl))).1
       have zh468 : zy462 85 = .bool false := (Sp.out0 (zhp466 10 85 (by kernel_rfl) (by kernel_rfl))).1
       have zS469 := zS356.quiet zhc464
       refine step_yes (wY_t zh468) ?_
       refine yenv [(86, .pointer (some ⟨zb341, 13, none⟩))] (ag_cons zh467 (ag_nil)) ?_
       have zS470 := zS469.loc
       refine Y.load1_ zS470 3 (.slice none 0 0) zb341 13 ?_
       exact ⟨zS470.ch, Sp.mk_holds [] (all_nil)⟩
     refine step_cons ?_ ?_
     · intro zy471 zw472 zhc473 zhf474 zhp475
       have zh476 : zy471 87 = .slice none 0 0 := (Sp.out0 (zhp475 12 87 (by kernel_rfl) (by kernel_rfl))).1
       have zh477 : zy471 85 = .bool false := (Sp.out0 (zhp475 10 85 (by kernel_rfl) (by kernel_rfl))).1
       have zS478 := zS356.quiet zhc473
       refine step_yes (wY_t zh477) ?_
       refine yenv [(87, .slice none 0 0)] (ag_cons zh476 (ag_nil)) ?_
       have zS479 := zS478.loc
       refine Y.pure_ (.int .i64 0) ?_
       exact ⟨zS479.ch, Sp.mk_holds [] (all_nil)⟩
     refine step_cons ?_ ?_
     · intro zy480 zw481 zhc482 zhf483 zhp484
       have zh485 : zy480 88 = .int .i64 0 := (Sp.out0 (zhp484 13 88 (by kernel_rfl) (by kernel_rfl))).1
       have zh486 : zy480 85 = .bool false := (Sp.out0 (zhp484 10 85 (by kernel_rfl) (by kernel_rfl))).1
       have zS487 := zS356.quiet zhc482
       refine step_yes (wY_t zh486) ?_
       refine yenv [(88, .int .i64 0)] (ag_cons zh485 (ag_nil)) ?_
       have zS488 := zS487.loc
       refine Y.pure_ (.bool false) ?_
       exact ⟨zS488.ch, Sp.mk_holds [] (all_nil)⟩
     refine step_cons ?_ ?_
     · intro zy489 zw490 zhc491 zhf492 zhp493
       have zh494 : zy489 85 = .bool false := (Sp.out0 (zhp493 10 85 (by kernel_rfl) (by kernel_rfl))).1
       have zh495 : zy489 89 = .bool false := (Sp.out0 (zhp493 14 89 (by kernel_rfl) (by kernel_rfl))).1
       have zS496 := zS356.quiet zhc491
       refine step1 ?_
       refine yenv [(85, .bool false), (89, .bool false)] (ag_cons zh494 (ag_cons zh495 (ag_nil))) ?_
       have zS497 := zS496.loc
       refine Y.pure_ (.bool false) ?_
       exact ⟨zS497.ch, Sp.mk_holds [] (all_nil)⟩
     refine step_cons ?_ ?_
     · intro zy498 zw499 zhc500 zhf501 zhp502
       have zh503 : zy498 90 = .bool false := (Sp.out0 (zhp502 15 90 (by kernel_rfl) (by kernel_rfl))).1
       have zS504 := zS356.quiet zhc500
       refine step1 ?_
       refine yenv [(90, .bool false)] (ag_cons zh503 (ag_nil)) ?_
       have zS505 := zS504.loc
       refine Y.pure_ (.bool false) ?_
       exact ⟨zS505.ch, Sp.mk_holds [] (all_nil)⟩
     refine step_cons ?_ ?_
     · intro zy506 zw507 zhc508 zhf509 zhp510
       have zh511 : zy506 10 = .pointer (some ⟨zb341, 0, none⟩) := (zhf509 10 (by kernel_rfl)).trans (by kernel_rfl)
       have zh512 : zy506 91 = .bool false := (Sp.out0 (zhp510 16 91 (by kernel_rfl) (by kernel_rfl))).1
       have zS513 := zS356.quiet zhc508
       refine step_yes (wY_t zh512) ?_
       refine yenv [(10, .pointer (some ⟨zb341, 0, none⟩))] (ag_cons zh511 (ag_nil)) ?_
       have zS514 := zS513.loc
       refine Y.pure_ (.pointer (some ⟨zb341, 14, none⟩)) ?_
       exact ⟨zS514.ch, Sp.mk_holds [] (all_nil)⟩
     refine step_cons ?_ ?_
     · intro zy515 zw516 zhc517 zhf518 zhp519
       have zh520 : zy515 92 = .pointer (some ⟨zb341, 14, none⟩) := (Sp.out0 (zhp519 17 92 (by kernel_rfl) (by kernel_rfl))).1
       have zh521 : zy515 91 = .bool false := (Sp.out0 (zhp519 16 91 (by kernel_rfl) (by kernel_rfl))).1
       have zS522 := zS356.quiet zhc517
       refine step_yes (wY_t zh521) ?_
       refine yenv [(92, .pointer (some ⟨zb341, 14, none⟩))] (ag_cons zh520 (ag_nil)) ?_
       have zS523 := zS522.loc
       refine Y.loadN_ zS523 3 32 (rowF .u8 32 (fun _ => 0)) zb341 14 ?_
       exact ⟨zS523.ch, Sp.mk_holds [] (all_nil)⟩
     refine step_cons ?_ ?_
     · intro zy524 zw525 zhc526 zhf527 zhp528
       have zh529 : zy524 91 = .bool false := (Sp.out0 (zhp528 16 91 (by kernel_rfl) (by kernel_rfl))).1
       have zS530 := zS356.quiet zhc526
       refine step_yes (wY_t zh529) ?_
       refine yenv [] (ag_nil) ?_
       have zS531 := zS530.loc
       refine Y.pure_ (.agg (rowF .u8 32 (fun _ => 0))) ?_
       exact ⟨zS531.ch, Sp.mk_holds [] (all_nil)⟩
     refine step_cons ?_ ?_
     · intro zy532 zw533 zhc534 zhf535 zhp536
       have zh537 : zy532 93 = .agg (rowF .u8 32 (fun _ => 0)) := (Sp.out0 (zhp536 18 93 (by kernel_rfl) (by kernel_rfl))).1
       have zh538 : zy532 94 = .agg (rowF .u8 32 (fun _ => 0)) := (Sp.out0 (zhp536 19 94 (by kernel_rfl) (by kernel_rfl))).1
       have zh539 : zy532 91 = .bool false := (Sp.out0 (zhp536 16 91 (by kernel_rfl) (by kernel_rfl))).1
       have zS540 := zS356.quiet zhc534
       refine step_yes (wY_t zh539) ?_
       refine yenv [(93, .agg (rowF .u8 32 (fun _ => 0))), (94, .agg (rowF .u8 32 (fun _ => 0)))] (ag_cons zh537 (ag_cons zh538 (ag_nil))) ?_
       have zS541 := zS540.loc
       refine Y.eqAgg_ true true (rowF .u8 32 (fun _ => 0)) (rowF .u8 32 (fun _ => 0)) ?_
       exact ⟨zS541.ch, Sp.mk_holds [] (all_nil)⟩
     refine step_cons ?_ ?_
     · intro zy542 zw543 zhc544 zhf545 zhp546
       have zh547 : zy542 91 = .bool false := (Sp.out0 (zhp546 16 91 (by kernel_rfl) (by kernel_rfl))).1
       have zh548 : zy542 95 = .bool false := (Sp.out0 (zhp546 20 95 (by kernel_rfl) (by kernel_rfl))).1
       have zS549 := zS356.quiet zhc544
       refine step1 ?_
       refine yenv [(91, .bool false), (95, .bool false)] (ag_cons zh547 (ag_cons zh548 (ag_nil))) ?_
       have zS550 := zS549.loc
       refine Y.pure_ (.bool false) ?_
       exact ⟨zS550.ch, Sp.mk_holds [] (all_nil)⟩
     refine step_cons ?_ ?_
     · intro zy551 zw552 zhc553 zhf554 zhp555
       have zh556 : zy551 96 = .bool false := (Sp.out0 (zhp555 21 96 (by kernel_rfl) (by kernel_rfl))).1
       have zS557 := zS356.quiet zhc553
       refine step1 ?_
       refine yenv [(96, .bool false)] (ag_cons zh556 (ag_nil)) ?_
       have zS558 := zS557.loc
       refine Y.pure_ (.bool false) ?_
       exact ⟨zS558.ch, Sp.mk_holds [] (all_nil)⟩
     refine step_cons ?_ ?_
     · intro zy559 zw560 zhc561 zhf562 zhp563
       have zh564 : zy559 11 = .bool true := (zhf562 11 (by kernel_rfl)).trans (by kernel_rfl)
       have zh565 : zy559 97 = .bool false := (Sp.out0 (zhp563 22 97 (by kernel_rfl) (by kernel_rfl))).1
       have zS566 := zS356.quiet zhc561
       refine step_yes (wY_t zh565) ?_
       refine yenv [(11, .bool true)] (ag_cons zh564 (ag_nil)) ?_
       have zS567 := zS566.loc
       refine Y.pure_ (.bool true) ?_
       exact ⟨zS567.ch, Sp.mk_holds [] (all_nil)⟩
     refine step_cons ?_ ?_
     · intro zy568 zw569 zhc570 zhf571 zhp572
       have zh573 : zy568 98 = .bool true := (Sp.out0 (zhp572 23 98 (by kernel_rfl) (by kernel_rfl))).1
       have zh574 : zy568 97 = .bool false := (Sp.out0 (zhp572 22 97 (by kernel_rfl) (by kernel_rfl))).1
       have zS575 := zS356.quiet zhc570
       refine step_yes (wY_t zh574) ?_
       refine yenv [(98, .bool true)] (ag_cons zh573 (ag_nil)) ?_
       have zS576 := zS575.loc
       refine Y.pure_ (.bool false) ?_
       exact ⟨zS576.ch, Sp.mk_holds [] (all_nil)⟩
     refine step_cons ?_ ?_
     · intro zy577 zw578 zhc579 zhf580 zhp581
       have zh582 : zy577 97 = .bool false := (Sp.out0 (zhp581 22 97 (by kernel_rfl) (by kernel_rfl))).1
       have zh583 : zy577 99 = .bool false := (Sp.out0 (zhp581 24 99 (by kernel_rfl) (by kernel_rfl))).1
       have zS584 := zS356.quiet zhc579
       refine step1 ?_
       refine yenv [(97, .bool false), (99, .bool false)] (ag_cons zh582 (ag_cons zh583 (ag_nil))) ?_
       have zS585 := zS584.loc
       refine Y.pure_ (.bool false) ?_
       exact ⟨zS585.ch, Sp.mk_holds [] (all_nil)⟩
     exact step_nil
   intro zv586 zw587 zhc588 zha589
   have zh590 : zv586 0 = .pointer (some ⟨zb341, 0, none⟩) := (Sp.out0 (zha589 0 (by kernel_rfl))).1
   have zh591 : zv586 1 = .agg #[.int .i64 4, .int .i64 1, .int .i64 0, .int .i64 0, .int .i64 0, .int .i64 0, .int .i64 2, .int .i64 4, .int .i64 0, .int .i64 2, .int .i64 4, .int .i64 0] := (Sp.out0 (zha589 1 (by kernel_rfl))).1
   have zh592 : zv586 2 = .agg #[.int .i64 4, .int .i64 1, .int .i64 0, .int .i64 0, .int .i64 0, .int .i64 0, .int .i64 2, .int .i64 4, .int .i64 0, .int .i64 2, .int .i64 4, .int .i64 0] := (Sp.out0 (zha589 2 (by kernel_rfl))).1
   have zh593 : zv586 3 = .bool false := (Sp.out0 (zha589 3 (by kernel_rfl))).1
   have zh594 : zv586 4 = .bool false := (Sp.out0 (zha589 4 (by kernel_rfl))).1
   have zh595 : zv586 5 = .pointer (some ⟨zb341, 12, none⟩) := (Sp.out0 (zha589 5 (by kernel_rfl))).1
   have zh596 : zv586 6 = .slice none 0 0 := (Sp.out0 (zha589 6 (by kernel_rfl))).1
   have zh597 : zv586 7 = .int .i64 0 := (Sp.out0 (zha589 7 (by kernel_rfl))).1
   have zh598 : zv586 8 = .bool false := (Sp.out0 (zha589 8 (by kernel_rfl))).1
   have zh599 : zv586 9 = .bool false := (Sp.out0 (zha589 9 (by kernel_rfl))).1
   have zh600 : zv586 10 = .bool false := (Sp.out0 (zha589 10 (by kernel_rfl))).1
   have zh601 : zv586 11 = .pointer (some ⟨zb341, 13, none⟩) := (Sp.out0 (zha589 11 (by kernel_rfl))).1
   have zh602 : zv586 12 = .slice none 0 0 := (Sp.out0 (zha589 12 (by kernel_rfl))).1
   have zh603 : zv586 13 = .int .i64 0 := (Sp.out0 (zha589 13 (by kernel_rfl))).1
   have zh604 : zv586 14 = .bool false := (Sp.out0 (zha589 14 (by kernel_rfl))).1
   have zh605 : zv586 15 = .bool false := (Sp.out0 (zha589 15 (by kernel_rfl))).1
   have zh606 : zv586 16 = .bool false := (Sp.out0 (zha589 16 (by kernel_rfl))).1
   have zh607 : zv586 17 = .pointer (some ⟨zb341, 14, none⟩) := (Sp.out0 (zha589 17 (by kernel_rfl))).1
   have zh608 : zv586 18 = .agg (rowF .u8 32 (fun _ => 0)) := (Sp.out0 (zha589 18 (by kernel_rfl))).1
   have zh609 : zv586 19 = .agg (rowF .u8 32 (fun _ => 0)) := (Sp.out0 (zha589 19 (by kernel_rfl))).1
   have zh610 : zv586 20 = .bool false := (Sp.out0 (zha589 20 (by kernel_rfl))).1
   have zh611 : zv586 21 = .bool false := (Sp.out0 (zha589 21 (by kernel_rfl))).1
   have zh612 : zv586 22 = .bool false := (Sp.out0 (zha589 22 (by kernel_rfl))).1
   have zh613 : zv586 23 = .bool true := (Sp.out0 (zha589 23 (by kernel_rfl))).1
   have zh614 : zv586 24 = .bool false := (Sp.out0 (zha589 24 (by kernel_rfl))).1
   have zh615 : zv586 25 = .bool false := (Sp.out0 (zha589 25 (by kernel_rfl))).1
   have zS616 := zS356.quiet zhc588
   refine ⟨[.pointer (some ⟨zb341, 0, none⟩), .agg #[.int .i64 4, .int .i64 1, .int .i64 0, .int .i64 0, .int .i64 0, .int .i64 0, .int .i64 2, .int .i64 4, .int .i64 0, .int .i64 2, .int .i64 4, .int .i64 0], .agg #[.int .i64 4, .int .i64 1, .int .i64 0, .int .i64 0, .int .i64 0, .int .i64 0, .int .i64 2, .int .i64 4, .int .i64 0, .int .i64 2, .int .i64 4, .int .i64 0], .bool false, .bool false, .pointer (some ⟨zb341, 12, none⟩), .slice none 0 0, .int .i64 0, .bool false, .bool false, .bool false, .pointer (some ⟨zb341, 13, none⟩), .slice none 0 0, .int .i64 0, .bool false, .bool false, .bool false, .pointer (some ⟨zb341, 14, none⟩), .agg (rowF .u8 32 (fun _ => 0)), .agg (rowF .u8 32 (fun _ => 0)), .bool false, .bool false, .bool false, .bool true, .bool false, .bool false], by kernel_rfl, va_cons zh590 (va_cons zh591 (va_cons zh592 (va_cons zh593 (va_cons zh594 (va_cons zh595 (va_cons zh596 (va_cons zh597 (va_cons zh598 (va_cons zh599 (va_cons zh600 (va_cons zh601 (va_cons zh602 (va_cons zh603 (va_cons zh604 (va_cons zh605 (va_cons zh606 (va_cons zh607 (va_cons zh608 (va_cons zh609 (va_cons zh610 (va_cons zh611 (va_cons zh612 (va_cons zh613 (va_cons zh614 (va_cons zh615 (va_nil)))))))))))))))))))))))))), ?_⟩
   refine nil_ (then_n (cond_F ?_))
   refine wp_skip (blk_n (then_n (reg_ ?_)))
   refine pure_ (.int .i64 i) ?_
   refine sum_ .i64 (i + 1) (IntWalk.i64_in _ (by omega)) ?_
   refine pure_ (.int .i64 (i + 1)) ?_
   refine nil_ ?_
   refine then_j fun zy zye => ?_
   exact ⟨_, by omega, (i + 1), (fun d => zy.tmps.getD d undef), ⟨rfl, by omega, by omega⟩, by subst zye; kernel_rfl, zS616.re (R := ([] : List Blk)) [[⟨zb354, true, .cells #[.int .i64 0, .int .i64 0, .int .i64 0, .int .i64 0, .int .i64 0, .int .i64 0, .int .i64 0, .int .i64 0, .int .i64 0, .int .i64 0, .int .i64 0, .int .i64 0, .int .i64 0, .int .i64 0, .int .i64 0, .int .i64 0, .int .i64 0, .int .i64 0, .int .i64 0, .slice none 0 0, .bool false, .bool false, .bool false, .bool false, .bool false, .int .i64 0, .int .i64 0, .int .i64 0, .int .i64 0, .int .i64 0, .bool false] 45 (0, 0)⟩], [⟨zb351, true, .cells #[.int .i64 0, .int .i64 0, .int .i64 0, .int .i64 0, .int .i64 0, .int .i64 0, .int .i64 0, .int .i64 0, .int .i64 0, .int .i64 0, .int .i64 0, .int .i64 0, .int .i64 0, .int .i64 0, .int .i64 0, .int .i64 0, .int .i64 0, .int .i64 0, .int .i64 0, .slice none 0 0, .bool false, .bool false, .bool false, .bool false, .bool false, .int .i64 0, .int .i64 0, .int .i64 0, .int .i64 0, .int .i64 0, .bool false] 45 (0, 0)⟩], [⟨zb346, true, .cells #[.int .i64 0, .int .i64 0, .int .i64 0, .int .i64 0, .int .i64 0, .int .i64 0, .int .i64 0, .int .i64 0, .int .i64 0, .int .i64 0, .int .i64 0, .int .i64 0, .int .i64 0, .int .i64 0, .int .i64 0, .int .i64 0, .int .i64 0, .int .i64 0, .int .i64 0, .slice none 0 0, .bool false, .bool false, .bool false, .bool false, .bool false, .int .i64 0, .int .i64 0, .int .i64 0, .int .i64 0, .int .i64 0, .bool false] 45 (0, 0)⟩], [⟨zb341, true, .cells #[.int .i64 4, .int .i64 1, .int .i64 0, .int .i64 0, .int .i64 0, .int .i64 0, .int .i64 2, .int .i64 4, .int .i64 0, .int .i64 2, .int .i64 4, .int .i64 0, .slice none 0 0, .slice none 0 0, .int .u8 0, .int .u8 0, .int .u8 0, .int .u8 0, .int .u8 0, .int .u8 0, .int .u8 0, .int .u8 0, .int .u8 0, .int .u8 0, .int .u8 0, .int .u8 0, .int .u8 0, .int .u8 0, .int .u8 0, .int .u8 0, .int .u8 0, .int .u8 0, .int .u8 0, .int .u8 0, .int .u8 0, .int .u8 0, .int .u8 0, .int .u8 0, .int .u8 0, .int .u8 0, .int .u8 0, .int .u8 0, .int .u8 0, .int .u8 0, .int .u8 0, .int .u8 0] 54 (0, 0)⟩], [⟨zb333, true, .cells #[.int .i64 4, .int .i64 1, .int .i64 0, .int .i64 0, .int .i64 0, .int .i64 0, .int .i64 2, .int .i64 4, .int .i64 0, .int .i64 2, .int .i64 4, .int .i64 0, .slice none 0 0, .slice none 0 0, .int .u8 0, .int .u8 0, .int .u8 0, .int .u8 0, .int .u8 0, .int .u8 0, .int .u8 0, .int .u8 0, .int .u8 0, .int .u8 0, .int .u8 0, .int .u8 0, .int .u8 0, .int .u8 0, .int .u8 0, .int .u8 0, .int .u8 0, .int .u8 0, .int .u8 0, .int .u8 0, .int .u8 0, .int .u8 0, .int .u8 0, .int .u8 0, .int .u8 0, .int .u8 0, .int .u8 0, .int .u8 0, .int .u8 0, .int .u8 0, .int .u8 0, .int .u8 0] 54 (0, 0)⟩], [⟨zb330, true, .cells #[.int .i64 (es.getD (i).toNat evD).kd, .int .i64 (es.getD (i).toNat evD).so, .slice (es.getD (i).toNat evD).a (es.getD (i).toNat evD).n (es.getD (i).toNat evD).c, .bool (es.getD (i).toNat evD).vd, .int .i64 (es.getD (i).toNat evD).x0, .int .i64 (es.getD (i).toNat evD).x1, .int .i64 (es.getD (i).toNat evD).x2, .int .i64 (es.getD (i).toNat evD).x3, .bool (es.getD (i).toNat evD).gv, .bool (es.getD (i).toNat evD).bd] 79 (0, 0)⟩], [⟨zb177, false, .cells #[.pointer none, .int .i64 (polCode p.i (cutK kn)), .pointer none, .pointer none, .pointer none] 137 (0, 0)⟩]] [6]⟩
 intro zh617
 have zh618 := ltF' zh617
 refine wp_exit (then_e (then_e (blk_e (then_n (seq_ (reg_ ?_))))))
 refine pure_ (.bool true) ?_
 refine nil_ (then_n (wp_ret ?_))
 refine ret_ rfl (res_ [.tmp 4] [.bool true] (.bool true) ⟨res_tmp, trivial⟩) ?_
 exact ⟨rfl, zh322.trans zS327.ch (by simp)⟩

end Go.Proofs.YtgbgjbjlblcpaaaGreatDoor
