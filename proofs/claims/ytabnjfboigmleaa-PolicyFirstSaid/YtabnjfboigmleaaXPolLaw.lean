/- PolicyAll: whichever policy, the law returns true. -/
import Derived.Test.YtabnjfboigmleaaRows
import Derived.Test.YtabnjfboigmleaaSE
import Derived.Test.YtabnjfboigmleaaSD
import Derived.Test.YtabnjfboigmleaaXPol
import Derived.Test.YtabnjfboigmleaaXRef
namespace Go.Proofs.Ytabnjfboigmleaa
open Go Go.RowKit Go.BigFrame Sx
set_option linter.unusedVariables false
set_option linter.unusedSimpArgs false

def cut (kn : Nat → Nat) (i : Nat) : Nat := min (kn i) 70
theorem cut_is (kn : Nat → Nat) (i : Nat) : (if (70 : Int) < ((kn i : Nat) : Int) then 70 else ((kn i : Nat) : Int)) = ((cut kn i : Nat) : Int) := by unfold cut; split <;> omega
theorem cut_le {kn kc : Nat → Nat} {i : Nat} (h : kn i ≤ kc i) : cut kn i ≤ kc i := by unfold cut; omega

set_option maxRecDepth 100000 in
set_option maxHeartbeats 4000000 in
theorem shown12  (w : World) :
    Gives Try.prog 27 #[] w fun v w1 => v = .bool true ∧ Ch [] w w1 := by
 have S0 := St.nil [] w
 refine enter_ Try.func27 rfl ?_
 refine seq_ (reg_ ?_)
 refine pure_ (.bool false) ?_
 refine nil_ (then_n (seq_ (reg_ ?_)))
 refine call_ 31 #[] ?_
 refine enter_ Try.func31 rfl ?_
 refine seq_ (reg_ ?_)
 refine new_ S0 (fun b => .pointer (some ⟨b, 0, none⟩)) (.cells #[.int .i64 0, .int .i64 0, .int .i64 0, .int .i64 0, .int .i64 0, .int .i64 0, .int .i64 0, .int .i64 0, .int .i64 0, .int .i64 0, .int .i64 0, .int .i64 0] 62) ?_
 intro zb1 zw2 zS3
 refine nil_ (then_n (seq_ (reg_ ?_)))
 refine pure_ (.agg #[.int .i64 2, .int .i64 4, .int .i64 0]) ?_
 refine new_ zS3 (fun b => .pointer (some ⟨b, 0, none⟩)) (.cells #[.int .i64 0, .int .i64 0, .int .i64 0] 60) ?_
 intro zb4 zw5 zS6
 refine store_ zS6 0 (.agg #[.int .i64 2, .int .i64 4, .int .i64 0]) zb4 0 ?_
 intro zw7 zS8
 refine nil_ (then_n (seq_ (reg_ ?_)))
 refine loadN_ zS8 0 3 #[.int .i64 2, .int .i64 4, .int .i64 0] zb4 0 ?_
 refine loadN_ zS8 0 3 #[.int .i64 2, .int .i64 4, .int .i64 0] zb4 0 ?_
 refine pure_ (.agg #[.int .i64 4, .int .i64 1, .int .i64 0, .int .i64 0, .int .i64 0, .int .i64 0, .int .i64 2, .int .i64 4, .int .i64 0, .int .i64 2, .int .i64 4, .int .i64 0]) ?_
 refine store_ zS8 1 (.agg #[.int .i64 4, .int .i64 1, .int .i64 0, .int .i64 0, .int .i64 0, .int .i64 0, .int .i64 2, .int .i64 4, .int .i64 0, .int .i64 2, .int .i64 4, .int .i64 0]) zb1 0 ?_
 intro zw9 zS10
 refine nil_ (then_n (wp_ret ?_))
 refine ret_ rfl (res_ [.cell 0 62] [.agg #[.int .i64 4, .int .i64 1, .int .i64 0, .int .i64 0, .int .i64 0, .int .i64 0, .int .i64 2, .int .i64 4, .int .i64 0, .int .i64 2, .int .i64 4, .int .i64 0]] (.agg #[.int .i64 4, .int .i64 1, .int .i64 0, .int .i64 0, .int .i64 0, .int .i64 0, .int .i64 2, .int .i64 4, .int .i64 0, .int .i64 2, .int .i64 4, .int .i64 0]) ⟨res_cellN zS10 1 12 zb1 0, trivial⟩) ?_
 refine new_ zS10 (fun b => .pointer (some ⟨b, 0, none⟩)) (.cells #[.int .i64 0, .int .i64 0, .int .i64 0, .int .i64 0, .int .i64 0, .int .i64 0, .int .i64 0, .int .i64 0, .int .i64 0, .int .i64 0, .int .i64 0, .int .i64 0] 62) ?_
 intro zb11 zw12 zS13
 refine store_ zS13 0 (.agg #[.int .i64 4, .int .i64 1, .int .i64 0, .int .i64 0, .int .i64 0, .int .i64 0, .int .i64 2, .int .i64 4, .int .i64 0, .int .i64 2, .int .i64 4, .int .i64 0]) zb11 0 ?_
 intro zw14 zS15
 refine nil_ (then_n (seq_ (reg_ ?_)))
 refine pure_ (.agg #[.int .i64 0, .int .i64 0, .int .i64 0, .int .i64 0, .int .i64 0, .slice none 0 0, .slice none 0 0, .slice none 0 0, .slice none 0 0, .int .i64 0, .int .i64 0, .int .i64 0, .int .i64 0, .int .i64 0, .int .i64 0, .int .i64 0, .int .i64 0, .int .i64 0, .int .i64 0, .int .i64 0, .int .i64 0, .int .i64 0, .int .i64 0, .int .i64 0, .int .i64 0, .int .i64 0, .int .i64 0, .int .i64 0, .int .i64 0, .int .i64 0, .int .i64 0, .int .i64 0, .int .i64 0, .int .i64 0, .int .i64 0, .int .i64 0, .int .i64 0, .int .i64 0, .int .i64 0, .int .i64 0, .int .i64 0, .int .i64 0, .int .i64 0, .int .i64 0, .int .i64 0, .int .i64 0, .int .i64 0, .int .i64 0, .int .i64 0, .int .i64 0, .int .i64 0, .int .i64 0, .int .i64 0, .int .i64 0, .int .i64 0, .int .i64 0]) ?_
 refine call_ 29 #[.agg #[.int .i64 0, .int .i64 0, .int .i64 0, .int .i64 0, .int .i64 0, .slice none 0 0, .slice none 0 0, .slice none 0 0, .slice none 0 0, .int .i64 0, .int .i64 0, .int .i64 0, .int .i64 0, .int .i64 0, .int .i64 0, .int .i64 0, .int .i64 0, .int .i64 0, .int .i64 0, .int .i64 0, .int .i64 0, .int .i64 0, .int .i64 0, .int .i64 0, .int .i64 0, .int .i64 0, .int .i64 0, .int .i64 0, .int .i64 0, .int .i64 0, .int .i64 0, .int .i64 0, .int .i64 0, .int .i64 0, .int .i64 0, .int .i64 0, .int .i64 0, .int .i64 0, .int .i64 0, .int .i64 0, .int .i64 0, .int .i64 0, .int .i64 0, .int .i64 0, .int .i64 0, .int .i64 0, .int .i64 0, .int .i64 0, .int .i64 0, .int .i64 0, .int .i64 0, .int .i64 0, .int .i64 0, .int .i64 0, .int .i64 0, .int .i64 0]] ?_
 refine (check_any (fun _ => 0) (fun _ => none) (fun _ => 0) (fun _ => 0) _).mono ?_; rintro _ zw16 ⟨hv, zhc17⟩; obtain rfl := hv.trans (congrArg (Value.int .i64) (show polCode (fun _ => 0) (fun _ => 0) = 40 by decide))
 have zS18 := zS15.quiet zhc17
 refine pure_ (.bool true) ?_
 refine pure_ (.bool true) ?_
 refine pure_ (.pointer (some ⟨zb11, 0, none⟩)) ?_
 refine load1_ zS18 0 (.int .i64 4) zb11 0 ?_
 refine pure_ (.bool true) ?_
 refine pure_ (.bool true) ?_
 refine pure_ (.bool true) ?_
 refine pure_ (.pointer (some ⟨zb11, 1, none⟩)) ?_
 refine load1_ zS18 0 (.int .i64 1) zb11 1 ?_
 refine pure_ (.bool true) ?_
 refine pure_ (.bool true) ?_
 refine pure_ (.bool true) ?_
 refine pure_ (.pointer (some ⟨zb11, 6, none⟩)) ?_
 refine loadN_ zS18 0 3 #[.int .i64 2, .int .i64 4, .int .i64 0] zb11 6 ?_
 refine pure_ (.agg #[.int .i64 2, .int .i64 4, .int .i64 0]) ?_
 refine eqAgg_ false true #[.int .i64 2, .int .i64 4, .int .i64 0] #[.int .i64 2, .int .i64 4, .int .i64 0] ?_
 refine pure_ (.bool true) ?_
 refine pure_ (.bool true) ?_
 refine pure_ (.pointer (some ⟨zb11, 9, none⟩)) ?_
 refine loadN_ zS18 0 3 #[.int .i64 2, .int .i64 4, .int .i64 0] zb11 9 ?_
 refine pure_ (.pointer (some ⟨zb11, 6, none⟩)) ?_
 refine loadN_ zS18 0 3 #[.int .i64 2, .int .i64 4, .int .i64 0] zb11 6 ?_
 refine eqAgg_ false true #[.int .i64 2, .int .i64 4, .int .i64 0] #[.int .i64 2, .int .i64 4, .int .i64 0] ?_
 refine pure_ (.bool true) ?_
 refine pure_ (.bool true) ?_
 refine pure_ (.pointer (some ⟨zb11, 2, none⟩)) ?_
 refine loadN_ zS18 0 4 #[.int .i64 0, .int .i64 0, .int .i64 0, .int .i64 0] zb11 2 ?_
 refine pure_ (.agg #[.int .i64 0, .int .i64 0, .int .i64 0, .int .i64 0]) ?_
 refine eqAgg_ false true #[.int .i64 0, .int .i64 0, .int .i64 0, .int .i64 0] #[.int .i64 0, .int .i64 0, .int .i64 0, .int .i64 0] ?_
 refine pure_ (.bool true) ?_
 refine pure_ (.bool true) ?_
 refine nil_ (then_n (wp_ret ?_))
 refine ret_ rfl (res_ [.tmp 0] [.bool true] (.bool true) ⟨res_tmp, trivial⟩) ?_
 exact ⟨rfl, zS18.ch⟩

set_option maxRecDepth 100000 in
set_option maxHeartbeats 4000000 in
theorem few_any (q : Nat → Int) (ka : Nat → Option Addr) (kn kc : Nat → Nat) (w : World) (hkc : ∀ i, i < 4 → kn i ≤ kc i) :
    Gives Try.prog 28 #[.agg (polC q ka kn kc)] w fun v w1 => v = .agg (polC q ka (cut kn) kc) ∧ Ch [] w w1 := by
 have S0 := St.nil [] w
 refine enter_ Try.func28 rfl ?_
 refine seq_ (reg_ ?_)
 refine new_ S0 (fun b => .pointer (some ⟨b, 0, none⟩)) (.cells (polC q ka kn kc) 37) ?_
 intro zb1 zw2 zS3
 refine new_ zS3 (fun b => .pointer (some ⟨b, 0, none⟩)) (.cells #[.int .i64 0, .int .i64 0, .int .i64 0, .int .i64 0, .int .i64 0, .slice none 0 0, .slice none 0 0, .slice none 0 0, .slice none 0 0, .int .i64 0, .int .i64 0, .int .i64 0, .int .i64 0, .int .i64 0, .int .i64 0, .int .i64 0, .int .i64 0, .int .i64 0, .int .i64 0, .int .i64 0, .int .i64 0, .int .i64 0, .int .i64 0, .int .i64 0, .int .i64 0, .int .i64 0, .int .i64 0, .int .i64 0, .int .i64 0, .int .i64 0, .int .i64 0, .int .i64 0, .int .i64 0, .int .i64 0, .int .i64 0, .int .i64 0, .int .i64 0, .int .i64 0, .int .i64 0, .int .i64 0, .int .i64 0, .int .i64 0, .int .i64 0, .int .i64 0, .int .i64 0, .int .i64 0, .int .i64 0, .int .i64 0, .int .i64 0, .int .i64 0, .int .i64 0, .int .i64 0, .int .i64 0, .int .i64 0, .int .i64 0, .int .i64 0] 37) ?_
 intro zb4 zw5 zS6
 refine nil_ (then_n (seq_ (seq_ (reg_ ?_))))
 refine pure_ (.int .i64 0) ?_
 refine nil_ (then_n (wp_block (loop_ 24 (seq_ (seq_ (reg_ ?_))))))
 refine pure_ (.int .i64 0) ?_
 refine pure_ (.bool true) ?_
 refine nil_ (then_n (cond_T ?_))
 refine wp_skip (then_n (seq_ (wp_block ?_)))
 refine drawnL_ 13 [⟨0, fun _ => .int .i64 0, fun _ => []⟩, ⟨0, fun _ => .int .i64 0, fun _ => []⟩, ⟨0, fun _ => .pointer (some ⟨zb1, 5, none⟩), fun _ => []⟩, ⟨0, fun _ => .pointer (some ⟨zb1, 5, none⟩), fun _ => []⟩, ⟨0, fun _ => .slice (ka 0) (kn 0) (kc 0), fun _ => []⟩, ⟨0, fun _ => .int .i64 0, fun _ => []⟩, ⟨0, fun _ => .pointer (some ⟨zb1, 5, none⟩), fun _ => []⟩, ⟨0, fun _ => .pointer (some ⟨zb1, 5, none⟩), fun _ => []⟩, ⟨0, fun _ => .slice (ka 0) (kn 0) (kc 0), fun _ => []⟩, ⟨0, fun _ => .int .i64 (((kn 0) : Nat) : Int), fun _ => []⟩, ⟨0, fun _ => .int .i64 ((cut kn 0 : Nat) : Int), fun _ => []⟩, ⟨0, fun _ => .slice (ka 0) (cut kn 0) (kc 0), fun _ => []⟩, ⟨0, fun _ => .pointer (some ⟨zb1, 5, none⟩), fun _ => []⟩] [[13, 0], [13, 1], [13, 2], [13, 3], [13, 4], [13, 5], [13, 6], [13, 7], [13, 8], [13, 9], [13, 10], [13, 11], [13, 12], [14, 0], [14, 1], [14, 2], [14, 3], [14, 4], [14, 5], [14, 6], [14, 7], [14, 8], [14, 9], [14, 10], [14, 11], [14, 13, 12], [14, 13]] ?_ ?_
 · refine step_cons ?_ ?_
   · intro zy7 zw8 zhc9 zhf10 zhp11
     have zh12 : zy7 3 = .int .i64 0 := (zhf10 3 (by kernel_rfl)).trans (by kernel_rfl)
     have zS13 := zS6.quiet zhc9
     refine step1 ?_
     refine yenv [(3, .int .i64 0)] (ag_cons zh12 (ag_nil)) ?_
     have zS14 := zS13.loc
     refine Y.pure_ (.int .i64 0) ?_
     exact ⟨zS14.ch, Sp.mk_holds [] (all_nil)⟩
   refine step_cons ?_ ?_
   · intro zy15 zw16 zhc17 zhf18 zhp19
     have zh20 : zy15 3 = .int .i64 0 := (zhf18 3 (by kernel_rfl)).trans (by kernel_rfl)
     have zS21 := zS6.quiet zhc17
     refine step1 ?_
     refine yenv [(3, .int .i64 0)] (ag_cons zh20 (ag_nil)) ?_
     have zS22 := zS21.loc
     refine Y.pure_ (.int .i64 0) ?_
     exact ⟨zS22.ch, Sp.mk_holds [] (all_nil)⟩
   refine step_cons ?_ ?_
   · intro zy23 zw24 zhc25 zhf26 zhp27
     have zh28 : zy23 1 = .pointer (some ⟨zb1, 0, none⟩) := (zhf26 1 (by kernel_rfl)).trans (by kernel_rfl)
     have zS29 := zS6.quiet zhc25
     refine step1 ?_
     refine yenv [(1, .pointer (some ⟨zb1, 0, none⟩))] (ag_cons zh28 (ag_nil)) ?_
     have zS30 := zS29.loc
     refine Y.pure_ (.pointer (some ⟨zb1, 5, none⟩)) ?_
     exact ⟨zS30.ch, Sp.mk_holds [] (all_nil)⟩
   refine step_cons ?_ ?_
   · intro zy31 zw32 zhc33 zhf34 zhp35
     have zh36 : zy31 10 = .pointer (some ⟨zb1, 5, none⟩) := (Sp.out0 (zhp35 2 10 (by kernel_rfl) (by kernel_rfl))).1
     have zh37 : zy31 9 = .int .i64 0 := (Sp.out0 (zhp35 1 9 (by kernel_rfl) (by kernel_rfl))).1
     have zS38 := zS6.quiet zhc33
     refine step1 ?_
     refine yenv [(10, .pointer (some ⟨zb1, 5, none⟩)), (9, .int .i64 0)] (ag_cons zh36 (ag_cons zh37 (ag_nil))) ?_
     have zS39 := zS38.loc
     refine Y.pure_ (.pointer (some ⟨zb1, 5, none⟩)) ?_
     exact ⟨zS39.ch, Sp.mk_holds [] (all_nil)⟩
   refine step_cons ?_ ?_
   · intro zy40 zw41 zhc42 zhf43 zhp44
     have zh45 : zy40 11 = .pointer (some ⟨zb1, 5, none⟩) := (Sp.out0 (zhp44 3 11 (by kernel_rfl) (by kernel_rfl))).1
     have zS46 := zS6.quiet zhc42
     refine step1 ?_
     refine yenv [(11, .pointer (some ⟨zb1, 5, none⟩))] (ag_cons zh45 (ag_nil)) ?_
     have zS47 := zS46.loc
     refine Y.load1_ zS47 1 (.slice (ka 0) (kn 0) (kc 0)) zb1 5 ?_
     exact ⟨zS47.ch, Sp.mk_holds [] (all_nil)⟩
   refine step_cons ?_ ?_
   · intro zy48 zw49 zhc50 zhf51 zhp52
     have zh53 : zy48 3 = .int .i64 0 := (zhf51 3 (by kernel_rfl)).trans (by kernel_rfl)
     have zS54 := zS6.quiet zhc50
     refine step1 ?_
     refine yenv [(3, .int .i64 0)] (ag_cons zh53 (ag_nil)) ?_
     have zS55 := zS54.loc
     refine Y.pure_ (.int .i64 0) ?_
     exact ⟨zS55.ch, Sp.mk_holds [] (all_nil)⟩
   refine step_cons ?_ ?_
   · intro zy56 zw57 zhc58 zhf59 zhp60
     have zh61 : zy56 1 = .pointer (some ⟨zb1, 0, none⟩) := (zhf59 1 (by kernel_rfl)).trans (by kernel_rfl)
     have zS62 := zS6.quiet zhc58
     refine step1 ?_
     refine yenv [(1, .pointer (some ⟨zb1, 0, none⟩))] (ag_cons zh61 (ag_nil)) ?_
     have zS63 := zS62.loc
     refine Y.pure_ (.pointer (some ⟨zb1, 5, none⟩)) ?_
     exact ⟨zS63.ch, Sp.mk_holds [] (all_nil)⟩
   refine step_cons ?_ ?_
   · intro zy64 zw65 zhc66 zhf67 zhp68
     have zh69 : zy64 14 = .pointer (some ⟨zb1, 5, none⟩) := (Sp.out0 (zhp68 6 14 (by kernel_rfl) (by kernel_rfl))).1
     have zh70 : zy64 13 = .int .i64 0 := (Sp.out0 (zhp68 5 13 (by kernel_rfl) (by kernel_rfl))).1
     have zS71 := zS6.quiet zhc66
     refine step1 ?_
     refine yenv [(14, .pointer (some ⟨zb1, 5, none⟩)), (13, .int .i64 0)] (ag_cons zh69 (ag_cons zh70 (ag_nil))) ?_
     have zS72 := zS71.loc
     refine Y.pure_ (.pointer (some ⟨zb1, 5, none⟩)) ?_
     exact ⟨zS72.ch, Sp.mk_holds [] (all_nil)⟩
   refine step_cons ?_ ?_
   · intro zy73 zw74 zhc75 zhf76 zhp77
     have zh78 : zy73 15 = .pointer (some ⟨zb1, 5, none⟩) := (Sp.out0 (zhp77 7 15 (by kernel_rfl) (by kernel_rfl))).1
     have zS79 := zS6.quiet zhc75
     refine step1 ?_
     refine yenv [(15, .pointer (some ⟨zb1, 5, none⟩))] (ag_cons zh78 (ag_nil)) ?_
     have zS80 := zS79.loc
     refine Y.load1_ zS80 1 (.slice (ka 0) (kn 0) (kc 0)) zb1 5 ?_
     exact ⟨zS80.ch, Sp.mk_holds [] (all_nil)⟩
   refine step_cons ?_ ?_
   · intro zy81 zw82 zhc83 zhf84 zhp85
     have zh86 : zy81 16 = .slice (ka 0) (kn 0) (kc 0) := (Sp.out0 (zhp85 8 16 (by kernel_rfl) (by kernel_rfl))).1
     have zS87 := zS6.quiet zhc83
     refine step1 ?_
     refine yenv [(16, .slice (ka 0) (kn 0) (kc 0))] (ag_cons zh86 (ag_nil)) ?_
     have zS88 := zS87.loc
     refine Y.pure_ (.int .i64 (((kn 0) : Nat) : Int)) ?_
     exact ⟨zS88.ch, Sp.mk_holds [] (all_nil)⟩
   refine step_cons ?_ ?_
   · intro zy89 zw90 zhc91 zhf92 zhp93
     have zh94 : zy89 17 = .int .i64 (((kn 0) : Nat) : Int) := (Sp.out0 (zhp93 9 17 (by kernel_rfl) (by kernel_rfl))).1
     have zS95 := zS6.quiet zhc91
     refine step1 ?_
     refine yenv [(17, .int .i64 (((kn 0) : Nat) : Int))] (ag_cons zh94 (ag_nil)) ?_
     have zS96 := zS95.loc
     refine Y.pureE_ (.int .i64 (if 70 < (((kn 0) : Nat) : Int) then 70 else (((kn 0) : Nat) : Int))) (.int .i64 ((cut kn 0 : Nat) : Int)) (congrArg _ (cut_is _ _)) ?_
     exact ⟨zS96.ch, Sp.mk_holds [] (all_nil)⟩
   refine step_cons ?_ ?_
   · intro zy97 zw98 zhc99 zhf100 zhp101
     have zh102 : zy97 12 = .slice (ka 0) (kn 0) (kc 0) := (Sp.out0 (zhp101 4 12 (by kernel_rfl) (by kernel_rfl))).1
     have zh103 : zy97 18 = .int .i64 ((cut kn 0 : Nat) : Int) := (Sp.out0 (zhp101 10 18 (by kernel_rfl) (by kernel_rfl))).1
     have zS104 := zS6.quiet zhc99
     refine step1 ?_
     refine yenv [(12, .slice (ka 0) (kn 0) (kc 0)), (18, .int .i64 ((cut kn 0 : Nat) : Int))] (ag_cons zh102 (ag_cons zh103 (ag_nil))) ?_
     have zS105 := zS104.loc
     refine Y.pure_ (.slice (ka 0) (cut kn 0) (kc 0)) ?_ (h := run_cut (n := (kn 0)) (e := 5) (kd := .i64) (cut kn 0) (cut_le (hkc 0 (by omega))))
     exact ⟨zS105.ch, Sp.mk_holds [] (all_nil)⟩
   refine step_cons ?_ ?_
   · intro zy106 zw107 zhc108 zhf109 zhp110
     have zh111 : zy106 1 = .pointer (some ⟨zb1, 0, none⟩) := (zhf109 1 (by kernel_rfl)).trans (by kernel_rfl)
     have zS112 := zS6.quiet zhc108
     refine step1 ?_
     refine yenv [(1, .pointer (some ⟨zb1, 0, none⟩))] (ag_cons zh111 (ag_nil)) ?_
     have zS113 := zS112.loc
     refine Y.pure_ (.pointer (some ⟨zb1, 5, none⟩)) ?_
     exact ⟨zS113.ch, Sp.mk_holds [] (all_nil)⟩
   exact step_nil
 intro zv114 zw115 zhc116 zha117
 have zh118 : zv114 0 = .int .i64 0 := (Sp.out0 (zha117 0 (by kernel_rfl))).1
 have zh119 : zv114 1 = .int .i64 0 := (Sp.out0 (zha117 1 (by kernel_rfl))).1
 have zh120 : zv114 2 = .pointer (some ⟨zb1, 5, none⟩) := (Sp.out0 (zha117 2 (by kernel_rfl))).1
 have zh121 : zv114 3 = .pointer (some ⟨zb1, 5, none⟩) := (Sp.out0 (zha117 3 (by kernel_rfl))).1
 have zh122 : zv114 4 = .slice (ka 0) (kn 0) (kc 0) := (Sp.out0 (zha117 4 (by kernel_rfl))).1
 have zh123 : zv114 5 = .int .i64 0 := (Sp.out0 (zha117 5 (by kernel_rfl))).1
 have zh124 : zv114 6 = .pointer (some ⟨zb1, 5, none⟩) := (Sp.out0 (zha117 6 (by kernel_rfl))).1
 have zh125 : zv114 7 = .pointer (some ⟨zb1, 5, none⟩) := (Sp.out0 (zha117 7 (by kernel_rfl))).1
 have zh126 : zv114 8 = .slice (ka 0) (kn 0) (kc 0) := (Sp.out0 (zha117 8 (by kernel_rfl))).1
 have zh127 : zv114 9 = .int .i64 (((kn 0) : Nat) : Int) := (Sp.out0 (zha117 9 (by kernel_rfl))).1
 have zh128 : zv114 10 = .int .i64 ((cut kn 0 : Nat) : Int) := (Sp.out0 (zha117 10 (by kernel_rfl))).1
 have zh129 : zv114 11 = .slice (ka 0) (cut kn 0) (kc 0) := (Sp.out0 (zha117 11 (by kernel_rfl))).1
 have zh130 : zv114 12 = .pointer (some ⟨zb1, 5, none⟩) := (Sp.out0 (zha117 12 (by kernel_rfl))).1
 have zS131 := zS6.quiet zhc116
 refine ⟨[.int .i64 0, .int .i64 0, .pointer (some ⟨zb1, 5, none⟩), .pointer (some ⟨zb1, 5, none⟩), .slice (ka 0) (kn 0) (kc 0), .int .i64 0, .pointer (some ⟨zb1, 5, none⟩), .pointer (some ⟨zb1, 5, none⟩), .slice (ka 0) (kn 0) (kc 0), .int .i64 (((kn 0) : Nat) : Int), .int .i64 ((cut kn 0 : Nat) : Int), .slice (ka 0) (cut kn 0) (kc 0), .pointer (some ⟨zb1, 5, none⟩)], by kernel_rfl, va_cons zh118 (va_cons zh119 (va_cons zh120 (va_cons zh121 (va_cons zh122 (va_cons zh123 (va_cons zh124 (va_cons zh125 (va_cons zh126 (va_cons zh127 (va_cons zh128 (va_cons zh129 (va_cons zh130 (va_nil))))))))))))), ?_⟩
 refine pure_ (.pointer (some ⟨zb1, 5, none⟩)) ?_
 refine store_ zS131 1 (.slice (ka 0) (cut kn 0) (kc 0)) zb1 5 ?_
 intro zw132 zS133
 refine nil_ (blk_n (then_n (reg_ ?_)))
 refine pure_ (.int .i64 0) ?_
 refine pure_ (.int .i64 1) ?_
 refine pure_ (.int .i64 1) ?_
 refine nil_ (again_ (seq_ (seq_ (reg_ ?_))))
 refine pure_ (.int .i64 1) ?_
 refine pure_ (.bool true) ?_
 refine nil_ (then_n (cond_T ?_))
 refine wp_skip (then_n (seq_ (wp_block ?_)))
 refine drawnL_ 13 [⟨0, fun _ => .int .i64 1, fun _ => []⟩, ⟨0, fun _ => .int .i64 1, fun _ => []⟩, ⟨0, fun _ => .pointer (some ⟨zb1, 5, none⟩), fun _ => []⟩, ⟨0, fun _ => .pointer (some ⟨zb1, 6, none⟩), fun _ => []⟩, ⟨0, fun _ => .slice (ka 1) (kn 1) (kc 1), fun _ => []⟩, ⟨0, fun _ => .int .i64 1, fun _ => []⟩, ⟨0, fun _ => .pointer (some ⟨zb1, 5, none⟩), fun _ => []⟩, ⟨0, fun _ => .pointer (some ⟨zb1, 6, none⟩), fun _ => []⟩, ⟨0, fun _ => .slice (ka 1) (kn 1) (kc 1), fun _ => []⟩, ⟨0, fun _ => .int .i64 (((kn 1) : Nat) : Int), fun _ => []⟩, ⟨0, fun _ => .int .i64 ((cut kn 1 : Nat) : Int), fun _ => []⟩, ⟨0, fun _ => .slice (ka 1) (cut kn 1) (kc 1), fun _ => []⟩, ⟨0, fun _ => .pointer (some ⟨zb1, 5, none⟩), fun _ => []⟩] [[13, 0], [13, 1], [13, 2], [13, 3], [13, 4], [13, 5], [13, 6], [13, 7], [13, 8], [13, 9], [13, 10], [13, 11], [13, 12], [14, 0], [14, 1], [14, 2], [14, 3], [14, 4], [14, 5], [14, 6], [14, 7], [14, 8], [14, 9], [14, 10], [14, 11], [14, 13, 12], [14, 13]] ?_ ?_
 · refine step_cons ?_ ?_
   · intro zy134 zw135 zhc136 zhf137 zhp138
     have zh139 : zy134 3 = .int .i64 1 := (zhf137 3 (by kernel_rfl)).trans (by kernel_rfl)
     have zS140 := zS133.quiet zhc136
     refine step1 ?_
     refine yenv [(3, .int .i64 1)] (ag_cons zh139 (ag_nil)) ?_
     have zS141 := zS140.loc
     refine Y.pure_ (.int .i64 1) ?_
     exact ⟨zS141.ch, Sp.mk_holds [] (all_nil)⟩
   refine step_cons ?_ ?_
   · intro zy142 zw143 zhc144 zhf145 zhp146
     have zh147 : zy142 3 = .int .i64 1 := (zhf145 3 (by kernel_rfl)).trans (by kernel_rfl)
     have zS148 := zS133.quiet zhc144
     refine step1 ?_
     refine yenv [(3, .int .i64 1)] (ag_cons zh147 (ag_nil)) ?_
     have zS149 := zS148.loc
     refine Y.pure_ (.int .i64 1) ?_
     exact ⟨zS149.ch, Sp.mk_holds [] (all_nil)⟩
   refine step_cons ?_ ?_
   · intro zy150 zw151 zhc152 zhf153 zhp154
     have zh155 : zy150 1 = .pointer (some ⟨zb1, 0, none⟩) := (zhf153 1 (by kernel_rfl)).trans (by kernel_rfl)
     have zS156 := zS133.quiet zhc152
     refine step1 ?_
     refine yenv [(1, .pointer (some ⟨zb1, 0, none⟩))] (ag_cons zh155 (ag_nil)) ?_
     have zS157 := zS156.loc
     refine Y.pure_ (.pointer (some ⟨zb1, 5, none⟩)) ?_
     exact ⟨zS157.ch, Sp.mk_holds [] (all_nil)⟩
   refine step_cons ?_ ?_
   · intro zy158 zw159 zhc160 zhf161 zhp162
     have zh163 : zy158 10 = .pointer (some ⟨zb1, 5, none⟩) := (Sp.out0 (zhp162 2 10 (by kernel_rfl) (by kernel_rfl))).1
     have zh164 : zy158 9 = .int .i64 1 := (Sp.out0 (zhp162 1 9 (by kernel_rfl) (by kernel_rfl))).1
     have zS165 := zS133.quiet zhc160
     refine step1 ?_
     refine yenv [(10, .pointer (some ⟨zb1, 5, none⟩)), (9, .int .i64 1)] (ag_cons zh163 (ag_cons zh164 (ag_nil))) ?_
     have zS166 := zS165.loc
     refine Y.pure_ (.pointer (some ⟨zb1, 6, none⟩)) ?_
     exact ⟨zS166.ch, Sp.mk_holds [] (all_nil)⟩
   refine step_cons ?_ ?_
   · intro zy167 zw168 zhc169 zhf170 zhp171
     have zh172 : zy167 11 = .pointer (some ⟨zb1, 6, none⟩) := (Sp.out0 (zhp171 3 11 (by kernel_rfl) (by kernel_rfl))).1
     have zS173 := zS133.quiet zhc169
     refine step1 ?_
     refine yenv [(11, .pointer (some ⟨zb1, 6, none⟩))] (ag_cons zh172 (ag_nil)) ?_
     have zS174 := zS173.loc
     refine Y.load1_ zS174 1 (.slice (ka 1) (kn 1) (kc 1)) zb1 6 ?_
     exact ⟨zS174.ch, Sp.mk_holds [] (all_nil)⟩
   refine step_cons ?_ ?_
   · intro zy175 zw176 zhc177 zhf178 zhp179
     have zh180 : zy175 3 = .int .i64 1 := (zhf178 3 (by kernel_rfl)).trans (by kernel_rfl)
     have zS181 := zS133.quiet zhc177
     refine step1 ?_
     refine yenv [(3, .int .i64 1)] (ag_cons zh180 (ag_nil)) ?_
     have zS182 := zS181.loc
     refine Y.pure_ (.int .i64 1) ?_
     exact ⟨zS182.ch, Sp.mk_holds [] (all_nil)⟩
   refine step_cons ?_ ?_
   · intro zy183 zw184 zhc185 zhf186 zhp187
     have zh188 : zy183 1 = .pointer (some ⟨zb1, 0, none⟩) := (zhf186 1 (by kernel_rfl)).trans (by kernel_rfl)
     have zS189 := zS133.quiet zhc185
     refine step1 ?_
     refine yenv [(1, .pointer (some ⟨zb1, 0, none⟩))] (ag_cons zh188 (ag_nil)) ?_
     have zS190 := zS189.loc
     refine Y.pure_ (.pointer (some ⟨zb1, 5, none⟩)) ?_
     exact ⟨zS190.ch, Sp.mk_holds [] (all_nil)⟩
   refine step_cons ?_ ?_
   · intro zy191 zw192 zhc193 zhf194 zhp195
     have zh196 : zy191 14 = .pointer (some ⟨zb1, 5, none⟩) := (Sp.out0 (zhp195 6 14 (by kernel_rfl) (by kernel_rfl))).1
     have zh197 : zy191 13 = .int .i64 1 := (Sp.out0 (zhp195 5 13 (by kernel_rfl) (by kernel_rfl))).1
     have zS198 := zS133.quiet zhc193
     refine step1 ?_
     refine yenv [(14, .pointer (some ⟨zb1, 5, none⟩)), (13, .int .i64 1)] (ag_cons zh196 (ag_cons zh197 (ag_nil))) ?_
     have zS199 := zS198.loc
     refine Y.pure_ (.pointer (some ⟨zb1, 6, none⟩)) ?_
     exact ⟨zS199.ch, Sp.mk_holds [] (all_nil)⟩
   refine step_cons ?_ ?_
   · intro zy200 zw201 zhc202 zhf203 zhp204
     have zh205 : zy200 15 = .pointer (some ⟨zb1, 6, none⟩) := (Sp.out0 (zhp204 7 15 (by kernel_rfl) (by kernel_rfl))).1
     have zS206 := zS133.quiet zhc202
     refine step1 ?_
     refine yenv [(15, .pointer (some ⟨zb1, 6, none⟩))] (ag_cons zh205 (ag_nil)) ?_
     have zS207 := zS206.loc
     refine Y.load1_ zS207 1 (.slice (ka 1) (kn 1) (kc 1)) zb1 6 ?_
     exact ⟨zS207.ch, Sp.mk_holds [] (all_nil)⟩
   refine step_cons ?_ ?_
   · intro zy208 zw209 zhc210 zhf211 zhp212
     have zh213 : zy208 16 = .slice (ka 1) (kn 1) (kc 1) := (Sp.out0 (zhp212 8 16 (by kernel_rfl) (by kernel_rfl))).1
     have zS214 := zS133.quiet zhc210
     refine step1 ?_
     refine yenv [(16, .slice (ka 1) (kn 1) (kc 1))] (ag_cons zh213 (ag_nil)) ?_
     have zS215 := zS214.loc
     refine Y.pure_ (.int .i64 (((kn 1) : Nat) : Int)) ?_
     exact ⟨zS215.ch, Sp.mk_holds [] (all_nil)⟩
   refine step_cons ?_ ?_
   · intro zy216 zw217 zhc218 zhf219 zhp220
     have zh221 : zy216 17 = .int .i64 (((kn 1) : Nat) : Int) := (Sp.out0 (zhp220 9 17 (by kernel_rfl) (by kernel_rfl))).1
     have zS222 := zS133.quiet zhc218
     refine step1 ?_
     refine yenv [(17, .int .i64 (((kn 1) : Nat) : Int))] (ag_cons zh221 (ag_nil)) ?_
     have zS223 := zS222.loc
     refine Y.pureE_ (.int .i64 (if 70 < (((kn 1) : Nat) : Int) then 70 else (((kn 1) : Nat) : Int))) (.int .i64 ((cut kn 1 : Nat) : Int)) (congrArg _ (cut_is _ _)) ?_
     exact ⟨zS223.ch, Sp.mk_holds [] (all_nil)⟩
   refine step_cons ?_ ?_
   · intro zy224 zw225 zhc226 zhf227 zhp228
     have zh229 : zy224 12 = .slice (ka 1) (kn 1) (kc 1) := (Sp.out0 (zhp228 4 12 (by kernel_rfl) (by kernel_rfl))).1
     have zh230 : zy224 18 = .int .i64 ((cut kn 1 : Nat) : Int) := (Sp.out0 (zhp228 10 18 (by kernel_rfl) (by kernel_rfl))).1
     have zS231 := zS133.quiet zhc226
     refine step1 ?_
     refine yenv [(12, .slice (ka 1) (kn 1) (kc 1)), (18, .int .i64 ((cut kn 1 : Nat) : Int))] (ag_cons zh229 (ag_cons zh230 (ag_nil))) ?_
     have zS232 := zS231.loc
     refine Y.pure_ (.slice (ka 1) (cut kn 1) (kc 1)) ?_ (h := run_cut (n := (kn 1)) (e := 5) (kd := .i64) (cut kn 1) (cut_le (hkc 1 (by omega))))
     exact ⟨zS232.ch, Sp.mk_holds [] (all_nil)⟩
   refine step_cons ?_ ?_
   · intro zy233 zw234 zhc235 zhf236 zhp237
     have zh238 : zy233 1 = .pointer (some ⟨zb1, 0, none⟩) := (zhf236 1 (by kernel_rfl)).trans (by kernel_rfl)
     have zS239 := zS133.quiet zhc235
     refine step1 ?_
     refine yenv [(1, .pointer (some ⟨zb1, 0, none⟩))] (ag_cons zh238 (ag_nil)) ?_
     have zS240 := zS239.loc
     refine Y.pure_ (.pointer (some ⟨zb1, 5, none⟩)) ?_
     exact ⟨zS240.ch, Sp.mk_holds [] (all_nil)⟩
   exact step_nil
 intro zv241 zw242 zhc243 zha244
 have zh245 : zv241 0 = .int .i64 1 := (Sp.out0 (zha244 0 (by kernel_rfl))).1
 have zh246 : zv241 1 = .int .i64 1 := (Sp.out0 (zha244 1 (by kernel_rfl))).1
 have zh247 : zv241 2 = .pointer (some ⟨zb1, 5, none⟩) := (Sp.out0 (zha244 2 (by kernel_rfl))).1
 have zh248 : zv241 3 = .pointer (some ⟨zb1, 6, none⟩) := (Sp.out0 (zha244 3 (by kernel_rfl))).1
 have zh249 : zv241 4 = .slice (ka 1) (kn 1) (kc 1) := (Sp.out0 (zha244 4 (by kernel_rfl))).1
 have zh250 : zv241 5 = .int .i64 1 := (Sp.out0 (zha244 5 (by kernel_rfl))).1
 have zh251 : zv241 6 = .pointer (some ⟨zb1, 5, none⟩) := (Sp.out0 (zha244 6 (by kernel_rfl))).1
 have zh252 : zv241 7 = .pointer (some ⟨zb1, 6, none⟩) := (Sp.out0 (zha244 7 (by kernel_rfl))).1
 have zh253 : zv241 8 = .slice (ka 1) (kn 1) (kc 1) := (Sp.out0 (zha244 8 (by kernel_rfl))).1
 have zh254 : zv241 9 = .int .i64 (((kn 1) : Nat) : Int) := (Sp.out0 (zha244 9 (by kernel_rfl))).1
 have zh255 : zv241 10 = .int .i64 ((cut kn 1 : Nat) : Int) := (Sp.out0 (zha244 10 (by kernel_rfl))).1
 have zh256 : zv241 11 = .slice (ka 1) (cut kn 1) (kc 1) := (Sp.out0 (zha244 11 (by kernel_rfl))).1
 have zh257 : zv241 12 = .pointer (some ⟨zb1, 5, none⟩) := (Sp.out0 (zha244 12 (by kernel_rfl))).1
 have zS258 := zS133.quiet zhc243
 refine ⟨[.int .i64 1, .int .i64 1, .pointer (some ⟨zb1, 5, none⟩), .pointer (some ⟨zb1, 6, none⟩), .slice (ka 1) (kn 1) (kc 1), .int .i64 1, .pointer (some ⟨zb1, 5, none⟩), .pointer (some ⟨zb1, 6, none⟩), .slice (ka 1) (kn 1) (kc 1), .int .i64 (((kn 1) : Nat) : Int), .int .i64 ((cut kn 1 : Nat) : Int), .slice (ka 1) (cut kn 1) (kc 1), .pointer (some ⟨zb1, 5, none⟩)], by kernel_rfl, va_cons zh245 (va_cons zh246 (va_cons zh247 (va_cons zh248 (va_cons zh249 (va_cons zh250 (va_cons zh251 (va_cons zh252 (va_cons zh253 (va_cons zh254 (va_cons zh255 (va_cons zh256 (va_cons zh257 (va_nil))))))))))))), ?_⟩
 refine pure_ (.pointer (some ⟨zb1, 6, none⟩)) ?_
 refine store_ zS258 1 (.slice (ka 1) (cut kn 1) (kc 1)) zb1 6 ?_
 intro zw259 zS260
 refine nil_ (blk_n (then_n (reg_ ?_)))
 refine pure_ (.int .i64 1) ?_
 refine pure_ (.int .i64 2) ?_
 refine pure_ (.int .i64 2) ?_
 refine nil_ (again_ (seq_ (seq_ (reg_ ?_))))
 refine pure_ (.int .i64 2) ?_
 refine pure_ (.bool true) ?_
 refine nil_ (then_n (cond_T ?_))
 refine wp_skip (then_n (seq_ (wp_block ?_)))
 refine drawnL_ 13 [⟨0, fun _ => .int .i64 2, fun _ => []⟩, ⟨0, fun _ => .int .i64 2, fun _ => []⟩, ⟨0, fun _ => .pointer (some ⟨zb1, 5, none⟩), fun _ => []⟩, ⟨0, fun _ => .pointer (some ⟨zb1, 7, none⟩), fun _ => []⟩, ⟨0, fun _ => .slice (ka 2) (kn 2) (kc 2), fun _ => []⟩, ⟨0, fun _ => .int .i64 2, fun _ => []⟩, ⟨0, fun _ => .pointer (some ⟨zb1, 5, none⟩), fun _ => []⟩, ⟨0, fun _ => .pointer (some ⟨zb1, 7, none⟩), fun _ => []⟩, ⟨0, fun _ => .slice (ka 2) (kn 2) (kc 2), fun _ => []⟩, ⟨0, fun _ => .int .i64 (((kn 2) : Nat) : Int), fun _ => []⟩, ⟨0, fun _ => .int .i64 ((cut kn 2 : Nat) : Int), fun _ => []⟩, ⟨0, fun _ => .slice (ka 2) (cut kn 2) (kc 2), fun _ => []⟩, ⟨0, fun _ => .pointer (some ⟨zb1, 5, none⟩), fun _ => []⟩] [[13, 0], [13, 1], [13, 2], [13, 3], [13, 4], [13, 5], [13, 6], [13, 7], [13, 8], [13, 9], [13, 10], [13, 11], [13, 12], [14, 0], [14, 1], [14, 2], [14, 3], [14, 4], [14, 5], [14, 6], [14, 7], [14, 8], [14, 9], [14, 10], [14, 11], [14, 13, 12], [14, 13]] ?_ ?_
 · refine step_cons ?_ ?_
   · intro zy261 zw262 zhc263 zhf264 zhp265
     have zh266 : zy261 3 = .int .i64 2 := (zhf264 3 (by kernel_rfl)).trans (by kernel_rfl)
     have zS267 := zS260.quiet zhc263
     refine step1 ?_
     refine yenv [(3, .int .i64 2)] (ag_cons zh266 (ag_nil)) ?_
     have zS268 := zS267.loc
     refine Y.pure_ (.int .i64 2) ?_
     exact ⟨zS268.ch, Sp.mk_holds [] (all_nil)⟩
   refine step_cons ?_ ?_
   · intro zy269 zw270 zhc271 zhf272 zhp273
     have zh274 : zy269 3 = .int .i64 2 := (zhf272 3 (by kernel_rfl)).trans (by kernel_rfl)
     have zS275 := zS260.quiet zhc271
     refine step1 ?_
     refine yenv [(3, .int .i64 2)] (ag_cons zh274 (ag_nil)) ?_
     have zS276 := zS275.loc
     refine Y.pure_ (.int .i64 2) ?_
     exact ⟨zS276.ch, Sp.mk_holds [] (all_nil)⟩
   refine step_cons ?_ ?_
   · intro zy277 zw278 zhc279 zhf280 zhp281
     have zh282 : zy277 1 = .pointer (some ⟨zb1, 0, none⟩) := (zhf280 1 (by kernel_rfl)).trans (by kernel_rfl)
     have zS283 := zS260.quiet zhc279
     refine step1 ?_
     refine yenv [(1, .pointer (some ⟨zb1, 0, none⟩))] (ag_cons zh282 (ag_nil)) ?_
     have zS284 := zS283.loc
     refine Y.pure_ (.pointer (some ⟨zb1, 5, none⟩)) ?_
     exact ⟨zS284.ch, Sp.mk_holds [] (all_nil)⟩
   refine step_cons ?_ ?_
   · intro zy285 zw286 zhc287 zhf288 zhp289
     have zh290 : zy285 10 = .pointer (some ⟨zb1, 5, none⟩) := (Sp.out0 (zhp289 2 10 (by kernel_rfl) (by kernel_rfl))).1
     have zh291 : zy285 9 = .int .i64 2 := (Sp.out0 (zhp289 1 9 (by kernel_rfl) (by kernel_rfl))).1
     have zS292 := zS260.quiet zhc287
     refine step1 ?_
     refine yenv [(10, .pointer (some ⟨zb1, 5, none⟩)), (9, .int .i64 2)] (ag_cons zh290 (ag_cons zh291 (ag_nil))) ?_
     have zS293 := zS292.loc
     refine Y.pure_ (.pointer (some ⟨zb1, 7, none⟩)) ?_
     exact ⟨zS293.ch, Sp.mk_holds [] (all_nil)⟩
   refine step_cons ?_ ?_
   · intro zy294 zw295 zhc296 zhf297 zhp298
     have zh299 : zy294 11 = .pointer (some ⟨zb1, 7, none⟩) := (Sp.out0 (zhp298 3 11 (by kernel_rfl) (by kernel_rfl))).1
     have zS300 := zS260.quiet zhc296
     refine step1 ?_
     refine yenv [(11, .pointer (some ⟨zb1, 7, none⟩))] (ag_cons zh299 (ag_nil)) ?_
     have zS301 := zS300.loc
     refine Y.load1_ zS301 1 (.slice (ka 2) (kn 2) (kc 2)) zb1 7 ?_
     exact ⟨zS301.ch, Sp.mk_holds [] (all_nil)⟩
   refine step_cons ?_ ?_
   · intro zy302 zw303 zhc304 zhf305 zhp306
     have zh307 : zy302 3 = .int .i64 2 := (zhf305 3 (by kernel_rfl)).trans (by kernel_rfl)
     have zS308 := zS260.quiet zhc304
     refine step1 ?_
     refine yenv [(3, .int .i64 2)] (ag_cons zh307 (ag_nil)) ?_
     have zS309 := zS308.loc
     refine Y.pure_ (.int .i64 2) ?_
     exact ⟨zS309.ch, Sp.mk_holds [] (all_nil)⟩
   refine step_cons ?_ ?_
   · intro zy310 zw311 zhc312 zhf313 zhp314
     have zh315 : zy310 1 = .pointer (some ⟨zb1, 0, none⟩) := (zhf313 1 (by kernel_rfl)).trans (by kernel_rfl)
     have zS316 := zS260.quiet zhc312
     refine step1 ?_
     refine yenv [(1, .pointer (some ⟨zb1, 0, none⟩))] (ag_cons zh315 (ag_nil)) ?_
     have zS317 := zS316.loc
     refine Y.pure_ (.pointer (some ⟨zb1, 5, none⟩)) ?_
     exact ⟨zS317.ch, Sp.mk_holds [] (all_nil)⟩
   refine step_cons ?_ ?_
   · intro zy318 zw319 zhc320 zhf321 zhp322
     have zh323 : zy318 14 = .pointer (some ⟨zb1, 5, none⟩) := (Sp.out0 (zhp322 6 14 (by kernel_rfl) (by kernel_rfl))).1
     have zh324 : zy318 13 = .int .i64 2 := (Sp.out0 (zhp322 5 13 (by kernel_rfl) (by kernel_rfl))).1
     have zS325 := zS260.quiet zhc320
     refine step1 ?_
     refine yenv [(14, .pointer (some ⟨zb1, 5, none⟩)), (13, .int .i64 2)] (ag_cons zh323 (ag_cons zh324 (ag_nil))) ?_
     have zS326 := zS325.loc
     refine Y.pure_ (.pointer (some ⟨zb1, 7, none⟩)) ?_
     exact ⟨zS326.ch, Sp.mk_holds [] (all_nil)⟩
   refine step_cons ?_ ?_
   · intro zy327 zw328 zhc329 zhf330 zhp331
     have zh332 : zy327 15 = .pointer (some ⟨zb1, 7, none⟩) := (Sp.out0 (zhp331 7 15 (by kernel_rfl) (by kernel_rfl))).1
     have zS333 := zS260.quiet zhc329
     refine step1 ?_
     refine yenv [(15, .pointer (some ⟨zb1, 7, none⟩))] (ag_cons zh332 (ag_nil)) ?_
     have zS334 := zS333.loc
     refine Y.load1_ zS334 1 (.slice (ka 2) (kn 2) (kc 2)) zb1 7 ?_
     exact ⟨zS334.ch, Sp.mk_holds [] (all_nil)⟩
   refine step_cons ?_ ?_
   · intro zy335 zw336 zhc337 zhf338 zhp339
     have zh340 : zy335 16 = .slice (ka 2) (kn 2) (kc 2) := (Sp.out0 (zhp339 8 16 (by kernel_rfl) (by kernel_rfl))).1
     have zS341 := zS260.quiet zhc337
     refine step1 ?_
     refine yenv [(16, .slice (ka 2) (kn 2) (kc 2))] (ag_cons zh340 (ag_nil)) ?_
     have zS342 := zS341.loc
     refine Y.pure_ (.int .i64 (((kn 2) : Nat) : Int)) ?_
     exact ⟨zS342.ch, Sp.mk_holds [] (all_nil)⟩
   refine step_cons ?_ ?_
   · intro zy343 zw344 zhc345 zhf346 zhp347
     have zh348 : zy343 17 = .int .i64 (((kn 2) : Nat) : Int) := (Sp.out0 (zhp347 9 17 (by kernel_rfl) (by kernel_rfl))).1
     have zS349 := zS260.quiet zhc345
     refine step1 ?_
     refine yenv [(17, .int .i64 (((kn 2) : Nat) : Int))] (ag_cons zh348 (ag_nil)) ?_
     have zS350 := zS349.loc
     refine Y.pureE_ (.int .i64 (if 70 < (((kn 2) : Nat) : Int) then 70 else (((kn 2) : Nat) : Int))) (.int .i64 ((cut kn 2 : Nat) : Int)) (congrArg _ (cut_is _ _)) ?_
     exact ⟨zS350.ch, Sp.mk_holds [] (all_nil)⟩
   refine step_cons ?_ ?_
   · intro zy351 zw352 zhc353 zhf354 zhp355
     have zh356 : zy351 12 = .slice (ka 2) (kn 2) (kc 2) := (Sp.out0 (zhp355 4 12 (by kernel_rfl) (by kernel_rfl))).1
     have zh357 : zy351 18 = .int .i64 ((cut kn 2 : Nat) : Int) := (Sp.out0 (zhp355 10 18 (by kernel_rfl) (by kernel_rfl))).1
     have zS358 := zS260.quiet zhc353
     refine step1 ?_
     refine yenv [(12, .slice (ka 2) (kn 2) (kc 2)), (18, .int .i64 ((cut kn 2 : Nat) : Int))] (ag_cons zh356 (ag_cons zh357 (ag_nil))) ?_
     have zS359 := zS358.loc
     refine Y.pure_ (.slice (ka 2) (cut kn 2) (kc 2)) ?_ (h := run_cut (n := (kn 2)) (e := 5) (kd := .i64) (cut kn 2) (cut_le (hkc 2 (by omega))))
     exact ⟨zS359.ch, Sp.mk_holds [] (all_nil)⟩
   refine step_cons ?_ ?_
   · intro zy360 zw361 zhc362 zhf363 zhp364
     have zh365 : zy360 1 = .pointer (some ⟨zb1, 0, none⟩) := (zhf363 1 (by kernel_rfl)).trans (by kernel_rfl)
     have zS366 := zS260.quiet zhc362
     refine step1 ?_
     refine yenv [(1, .pointer (some ⟨zb1, 0, none⟩))] (ag_cons zh365 (ag_nil)) ?_
     have zS367 := zS366.loc
     refine Y.pure_ (.pointer (some ⟨zb1, 5, none⟩)) ?_
     exact ⟨zS367.ch, Sp.mk_holds [] (all_nil)⟩
   exact step_nil
 intro zv368 zw369 zhc370 zha371
 have zh372 : zv368 0 = .int .i64 2 := (Sp.out0 (zha371 0 (by kernel_rfl))).1
 have zh373 : zv368 1 = .int .i64 2 := (Sp.out0 (zha371 1 (by kernel_rfl))).1
 have zh374 : zv368 2 = .pointer (some ⟨zb1, 5, none⟩) := (Sp.out0 (zha371 2 (by kernel_rfl))).1
 have zh375 : zv368 3 = .pointer (some ⟨zb1, 7, none⟩) := (Sp.out0 (zha371 3 (by kernel_rfl))).1
 have zh376 : zv368 4 = .slice (ka 2) (kn 2) (kc 2) := (Sp.out0 (zha371 4 (by kernel_rfl))).1
 have zh377 : zv368 5 = .int .i64 2 := (Sp.out0 (zha371 5 (by kernel_rfl))).1
 have zh378 : zv368 6 = .pointer (some ⟨zb1, 5, none⟩) := (Sp.out0 (zha371 6 (by kernel_rfl))).1
 have zh379 : zv368 7 = .pointer (some ⟨zb1, 7, none⟩) := (Sp.out0 (zha371 7 (by kernel_rfl))).1
 have zh380 : zv368 8 = .slice (ka 2) (kn 2) (kc 2) := (Sp.out0 (zha371 8 (by kernel_rfl))).1
 have zh381 : zv368 9 = .int .i64 (((kn 2) : Nat) : Int) := (Sp.out0 (zha371 9 (by kernel_rfl))).1
 have zh382 : zv368 10 = .int .i64 ((cut kn 2 : Nat) : Int) := (Sp.out0 (zha371 10 (by kernel_rfl))).1
 have zh383 : zv368 11 = .slice (ka 2) (cut kn 2) (kc 2) := (Sp.out0 (zha371 11 (by kernel_rfl))).1
 have zh384 : zv368 12 = .pointer (some ⟨zb1, 5, none⟩) := (Sp.out0 (zha371 12 (by kernel_rfl))).1
 have zS385 := zS260.quiet zhc370
 refine ⟨[.int .i64 2, .int .i64 2, .pointer (some ⟨zb1, 5, none⟩), .pointer (some ⟨zb1, 7, none⟩), .slice (ka 2) (kn 2) (kc 2), .int .i64 2, .pointer (some ⟨zb1, 5, none⟩), .pointer (some ⟨zb1, 7, none⟩), .slice (ka 2) (kn 2) (kc 2), .int .i64 (((kn 2) : Nat) : Int), .int .i64 ((cut kn 2 : Nat) : Int), .slice (ka 2) (cut kn 2) (kc 2), .pointer (some ⟨zb1, 5, none⟩)], by kernel_rfl, va_cons zh372 (va_cons zh373 (va_cons zh374 (va_cons zh375 (va_cons zh376 (va_cons zh377 (va_cons zh378 (va_cons zh379 (va_cons zh380 (va_cons zh381 (va_cons zh382 (va_cons zh383 (va_cons zh384 (va_nil))))))))))))), ?_⟩
 refine pure_ (.pointer (some ⟨zb1, 7, none⟩)) ?_
 refine store_ zS385 1 (.slice (ka 2) (cut kn 2) (kc 2)) zb1 7 ?_
 intro zw386 zS387
 refine nil_ (blk_n (then_n (reg_ ?_)))
 refine pure_ (.int .i64 2) ?_
 refine pure_ (.int .i64 3) ?_
 refine pure_ (.int .i64 3) ?_
 refine nil_ (again_ (seq_ (seq_ (reg_ ?_))))
 refine pure_ (.int .i64 3) ?_
 refine pure_ (.bool false) ?_
 refine nil_ (then_n (cond_F ?_))
 refine wp_exit (then_e (then_e (blk_e (then_n (seq_ (reg_ ?_))))))
 refine pure_ (.pointer (some ⟨zb1, 8, none⟩)) ?_
 refine load1_ zS387 1 (.slice (ka 3) (kn 3) (kc 3)) zb1 8 ?_
 refine pure_ (.pointer (some ⟨zb1, 8, none⟩)) ?_
 refine load1_ zS387 1 (.slice (ka 3) (kn 3) (kc 3)) zb1 8 ?_
 refine pure_ (.int .i64 (((kn 3) : Nat) : Int)) ?_
 refine pureE_ (.int .i64 (if 70 < (((kn 3) : Nat) : Int) then 70 else (((kn 3) : Nat) : Int))) (.int .i64 ((cut kn 3 : Nat) : Int)) (congrArg _ (cut_is _ _)) ?_
 refine pure_ (.slice (ka 3) (cut kn 3) (kc 3)) ?_ (h := run_cut (n := (kn 3)) (e := 5) (kd := .i64) (cut kn 3) (cut_le (hkc 3 (by omega))))
 refine pure_ (.pointer (some ⟨zb1, 8, none⟩)) ?_
 refine store_ zS387 1 (.slice (ka 3) (cut kn 3) (kc 3)) zb1 8 ?_
 intro zw388 zS389
 refine nil_ (then_n (seq_ (reg_ ?_)))
 refine loadN_ zS389 1 56 (polC q ka (cut kn) kc) zb1 0 ?_
 refine store_ zS389 0 (.agg (polC q ka (cut kn) kc)) zb4 0 ?_
 intro zw390 zS391
 refine nil_ (then_n (wp_ret ?_))
 refine ret_ rfl (res_ [.cell 2 37] [.agg (polC q ka (cut kn) kc)] (.agg (polC q ka (cut kn) kc)) ⟨res_cellN zS391 0 56 zb4 0, trivial⟩) ?_
 exact ⟨rfl, zS391.ch⟩

set_option maxRecDepth 100000 in
set_option maxHeartbeats 4000000 in
theorem policyAll_any (q : Nat → Int) (ka : Nat → Option Addr) (kn kc : Nat → Nat) (w : World) (hkc : ∀ i, i < 4 → kn i ≤ kc i) :
    Gives Try.prog 11 #[.agg (polC q ka kn kc)] w fun v w1 => v = .bool true ∧ Ch [] w w1 := by
 have S0 := St.nil [] w
 refine enter_ Try.func11 rfl ?_
 refine seq_ (reg_ ?_)
 refine new_ S0 (fun b => .pointer (some ⟨b, 0, none⟩)) (.cells (polC q ka kn kc) 37) ?_
 intro zb1 zw2 zS3
 refine pure_ (.bool false) ?_
 refine nil_ (then_n (seq_ (reg_ ?_)))
 refine call_ 27 #[] ?_
 refine (shown12 _).mono ?_; rintro _ zw4 ⟨rfl, zhc5⟩
 have zS6 := zS3.quiet zhc5
 refine pure_ (.bool true) ?_
 refine nil_ (then_n (seq_ (reg_ ?_)))
 refine loadN_ zS6 0 56 (polC q ka kn kc) zb1 0 ?_
 refine call_ 28 #[.agg (polC q ka kn kc)] ?_
 refine (few_any q ka kn kc _ hkc).mono ?_; rintro _ zw7 ⟨rfl, zhc8⟩
 have zS9 := zS6.quiet zhc8
 refine new_ zS9 (fun b => .pointer (some ⟨b, 0, none⟩)) (.cells #[.int .i64 0, .int .i64 0, .int .i64 0, .int .i64 0, .int .i64 0, .slice none 0 0, .slice none 0 0, .slice none 0 0, .slice none 0 0, .int .i64 0, .int .i64 0, .int .i64 0, .int .i64 0, .int .i64 0, .int .i64 0, .int .i64 0, .int .i64 0, .int .i64 0, .int .i64 0, .int .i64 0, .int .i64 0, .int .i64 0, .int .i64 0, .int .i64 0, .int .i64 0, .int .i64 0, .int .i64 0, .int .i64 0, .int .i64 0, .int .i64 0, .int .i64 0, .int .i64 0, .int .i64 0, .int .i64 0, .int .i64 0, .int .i64 0, .int .i64 0, .int .i64 0, .int .i64 0, .int .i64 0, .int .i64 0, .int .i64 0, .int .i64 0, .int .i64 0, .int .i64 0, .int .i64 0, .int .i64 0, .int .i64 0, .int .i64 0, .int .i64 0, .int .i64 0, .int .i64 0, .int .i64 0, .int .i64 0, .int .i64 0, .int .i64 0] 37) ?_
 intro zb10 zw11 zS12
 refine store_ zS12 0 (.agg (polC q ka (cut kn) kc)) zb10 0 ?_
 intro zw13 zS14
 refine nil_ (then_n (seq_ ?_))
 refine drawnL_ 14 [⟨0, fun _ => .bool true, fun _ => []⟩, ⟨0, fun _ => .bool true, fun _ => []⟩, ⟨0, fun _ => .agg (polC q ka (cut kn) kc), fun _ => []⟩, ⟨0, fun _ => .int .i64 (polCode q (cut kn)), fun _ => []⟩, ⟨0, fun _ => .agg (polC q ka (cut kn) kc), fun _ => []⟩, ⟨0, fun _ => .int .i64 (polCode q (cut kn)), fun _ => []⟩, ⟨0, fun _ => .bool true, fun _ => []⟩, ⟨0, fun _ => .bool true, fun _ => []⟩, ⟨0, fun _ => .bool true, fun _ => []⟩, ⟨0, fun _ => .agg #[.int .i64 4, .int .i64 1, .int .i64 0, .int .i64 0, .int .i64 0, .int .i64 0, .int .i64 2, .int .i64 4, .int .i64 0, .int .i64 2, .int .i64 4, .int .i64 0], fun _ => []⟩, ⟨0, fun _ => .agg #[.int .i64 4, .int .i64 1, .int .i64 0, .int .i64 0, .int .i64 0, .int .i64 0, .int .i64 2, .int .i64 4, .int .i64 0, .int .i64 2, .int .i64 4, .int .i64 0], fun _ => []⟩, ⟨0, fun _ => .bool true, fun _ => []⟩, ⟨0, fun _ => .bool true, fun _ => []⟩, ⟨0, fun _ => .bool true, fun _ => []⟩] [] ?_ ?_
 · refine step_cons ?_ ?_
   · intro zy15 zw16 zhc17 zhf18 zhp19
     have zh20 : zy15 3 = .bool true := (zhf18 3 (by kernel_rfl)).trans (by kernel_rfl)
     have zS21 := zS14.quiet zhc17
     refine step1 ?_
     refine yenv [(3, .bool true)] (ag_cons zh20 (ag_nil)) ?_
     have zS22 := zS21.loc
     refine Y.pure_ (.bool true) ?_
     exact ⟨zS22.ch, Sp.mk_holds [] (all_nil)⟩
   refine step_cons ?_ ?_
   · intro zy23 zw24 zhc25 zhf26 zhp27
     have zh28 : zy23 8 = .bool true := (Sp.out0 (zhp27 0 8 (by kernel_rfl) (by kernel_rfl))).1
     have zS29 := zS14.quiet zhc25
     refine step1 ?_
     refine yenv [(8, .bool true)] (ag_cons zh28 (ag_nil)) ?_
     have zS30 := zS29.loc
     refine Y.pure_ (.bool true) ?_
     exact ⟨zS30.ch, Sp.mk_holds [] (all_nil)⟩
   refine step_cons ?_ ?_
   · intro zy31 zw32 zhc33 zhf34 zhp35
     have zh36 : zy31 4 = .pointer (some ⟨zb10, 0, none⟩) := (zhf34 4 (by kernel_rfl)).trans (by kernel_rfl)
     have zh37 : zy31 9 = .bool true := (Sp.out0 (zhp35 1 9 (by kernel_rfl) (by kernel_rfl))).1
     have zS38 := zS14.quiet zhc33
     refine step_yes (wY_t zh37) ?_
     refine yenv [(4, .pointer (some ⟨zb10, 0, none⟩))] (ag_cons zh36 (ag_nil)) ?_
     have zS39 := zS38.loc
     refine Y.loadN_ zS39 0 56 (polC q ka (cut kn) kc) zb10 0 ?_
     exact ⟨zS39.ch, Sp.mk_holds [] (all_nil)⟩
   refine step_cons ?_ ?_
   · intro zy40 zw41 zhc42 zhf43 zhp44
     have zh45 : zy40 10 = .agg (polC q ka (cut kn) kc) := (Sp.out0 (zhp44 2 10 (by kernel_rfl) (by kernel_rfl))).1
     have zh46 : zy40 9 = .bool true := (Sp.out0 (zhp44 1 9 (by kernel_rfl) (by kernel_rfl))).1
     have zS47 := zS14.quiet zhc42
     refine step_yes (wY_t zh46) ?_
     refine yenv [(10, .agg (polC q ka (cut kn) kc))] (ag_cons zh45 (ag_nil)) ?_
     have zS48 := zS47.loc
     refine Y.call_ 29 #[.agg (polC q ka (cut kn) kc)] ?_
     refine (check_any q ka (cut kn) kc _).mono ?_; rintro _ zw49 ⟨rfl, zhc50⟩
     have zS51 := zS48.quiet zhc50
     exact ⟨zS51.ch, Sp.mk_holds [] (all_nil)⟩
   refine step_cons ?_ ?_
   · intro zy52 zw53 zhc54 zhf55 zhp56
     have zh57 : zy52 4 = .pointer (some ⟨zb10, 0, none⟩) := (zhf55 4 (by kernel_rfl)).trans (by kernel_rfl)
     have zh58 : zy52 9 = .bool true := (Sp.out0 (zhp56 1 9 (by kernel_rfl) (by kernel_rfl))).1
     have zS59 := zS14.quiet zhc54
     refine step_yes (wY_t zh58) ?_
     refine yenv [(4, .pointer (some ⟨zb10, 0, none⟩))] (ag_cons zh57 (ag_nil)) ?_
     have zS60 := zS59.loc
     refine Y.loadN_ zS60 0 56 (polC q ka (cut kn) kc) zb10 0 ?_
     exact ⟨zS60.ch, Sp.mk_holds [] (all_nil)⟩
   refine step_cons ?_ ?_
   · intro zy61 zw62 zhc63 zhf64 zhp65
     have zh66 : zy61 12 = .agg (polC q ka (cut kn) kc) := (Sp.out0 (zhp65 4 12 (by kernel_rfl) (by kernel_rfl))).1
     have zh67 : zy61 9 = .bool true := (Sp.out0 (zhp65 1 9 (by kernel_rfl) (by kernel_rfl))).1
     have zS68 := zS14.quiet zhc63
     refine step_yes (wY_t zh67) ?_
     refine yenv [(12, .agg (polC q ka (cut kn) kc))] (ag_cons zh66 (ag_nil)) ?_
     have zS69 := zS68.loc
     refine Y.call_ 30 #[.agg (polC q ka (cut kn) kc)] ?_
     refine (rcheck_any q ka (cut kn) kc _).mono ?_; rintro _ zw70 ⟨rfl, zhc71⟩
     have zS72 := zS69.quiet zhc71
     exact ⟨zS72.ch, Sp.mk_holds [] (all_nil)⟩
   refine step_cons ?_ ?_
   · intro zy73 zw74 zhc75 zhf76 zhp77
     have zh78 : zy73 11 = .int .i64 (polCode q (cut kn)) := (Sp.out0 (zhp77 3 11 (by kernel_rfl) (by kernel_rfl))).1
     have zh79 : zy73 13 = .int .i64 (polCode q (cut kn)) := (Sp.out0 (zhp77 5 13 (by kernel_rfl) (by kernel_rfl))).1
     have zh80 : zy73 9 = .bool true := (Sp.out0 (zhp77 1 9 (by kernel_rfl) (by kernel_rfl))).1
     have zS81 := zS14.quiet zhc75
     refine step_yes (wY_t zh80) ?_
     refine yenv [(11, .int .i64 (polCode q (cut kn))), (13, .int .i64 (polCode q (cut kn)))] (ag_cons zh78 (ag_cons zh79 (ag_nil))) ?_
     have zS82 := zS81.loc
     refine Y.pureE_ (.bool ((polCode q (cut kn)) == (polCode q (cut kn)))) (.bool true) (congrArg Value.bool (eqT (by omega))) ?_
     exact ⟨zS82.ch, Sp.mk_holds [] (all_nil)⟩
   refine step_cons ?_ ?_
   · intro zy83 zw84 zhc85 zhf86 zhp87
     have zh88 : zy83 9 = .bool true := (Sp.out0 (zhp87 1 9 (by kernel_rfl) (by kernel_rfl))).1
     have zh89 : zy83 14 = .bool true := (Sp.out0 (zhp87 6 14 (by kernel_rfl) (by kernel_rfl))).1
     have zS90 := zS14.quiet zhc85
     refine step1 ?_
     refine yenv [(9, .bool true), (14, .bool true)] (ag_cons zh88 (ag_cons zh89 (ag_nil))) ?_
     have zS91 := zS90.loc
     refine Y.pure_ (.bool true) ?_
     exact ⟨zS91.ch, Sp.mk_holds [] (all_nil)⟩
   refine step_cons ?_ ?_
   · intro zy92 zw93 zhc94 zhf95 zhp96
     have zh97 : zy92 15 = .bool true := (Sp.out0 (zhp96 7 15 (by kernel_rfl) (by kernel_rfl))).1
     have zS98 := zS14.quiet zhc94
     refine step1 ?_
     refine yenv [(15, .bool true)] (ag_cons zh97 (ag_nil)) ?_
     have zS99 := zS98.loc
     refine Y.pure_ (.bool true) ?_
     exact ⟨zS99.ch, Sp.mk_holds [] (all_nil)⟩
   refine step_cons ?_ ?_
   · intro zy100 zw101 zhc102 zhf103 zhp104
     have zh105 : zy100 16 = .bool true := (Sp.out0 (zhp104 8 16 (by kernel_rfl) (by kernel_rfl))).1
     have zS106 := zS14.quiet zhc102
     refine step_yes (wY_t zh105) ?_
     refine yenv [] (ag_nil) ?_
     have zS107 := zS106.loc
     refine Y.call_ 31 #[] ?_
     refine enter_ Try.func31 rfl ?_
     refine seq_ (reg_ ?_)
     refine new_ zS107 (fun b => .pointer (some ⟨b, 0, none⟩)) (.cells #[.int .i64 0, .int .i64 0, .int .i64 0, .int .i64 0, .int .i64 0, .int .i64 0, .int .i64 0, .int .i64 0, .int .i64 0, .int .i64 0, .int .i64 0, .int .i64 0] 62) ?_
     intro zb108 zw109 zS110
     refine nil_ (then_n (seq_ (reg_ ?_)))
     refine pure_ (.agg #[.int .i64 2, .int .i64 4, .int .i64 0]) ?_
     refine new_ zS110 (fun b => .pointer (some ⟨b, 0, none⟩)) (.cells #[.int .i64 0, .int .i64 0, .int .i64 0] 60) ?_
     intro zb111 zw112 zS113
     refine store_ zS113 0 (.agg #[.int .i64 2, .int .i64 4, .int .i64 0]) zb111 0 ?_
     intro zw114 zS115
     refine nil_ (then_n (seq_ (reg_ ?_)))
     refine loadN_ zS115 0 3 #[.int .i64 2, .int .i64 4, .int .i64 0] zb111 0 ?_
     refine loadN_ zS115 0 3 #[.int .i64 2, .int .i64 4, .int .i64 0] zb111 0 ?_
     refine pure_ (.agg #[.int .i64 4, .int .i64 1, .int .i64 0, .int .i64 0, .int .i64 0, .int .i64 0, .int .i64 2, .int .i64 4, .int .i64 0, .int .i64 2, .int .i64 4, .int .i64 0]) ?_
     refine store_ zS115 1 (.agg #[.int .i64 4, .int .i64 1, .int .i64 0, .int .i64 0, .int .i64 0, .int .i64 0, .int .i64 2, .int .i64 4, .int .i64 0, .int .i64 2, .int .i64 4, .int .i64 0]) zb108 0 ?_
     intro zw116 zS117
     refine nil_ (then_n (wp_ret ?_))
     refine ret_ rfl (res_ [.cell 0 62] [.agg #[.int .i64 4, .int .i64 1, .int .i64 0, .int .i64 0, .int .i64 0, .int .i64 0, .int .i64 2, .int .i64 4, .int .i64 0, .int .i64 2, .int .i64 4, .int .i64 0]] (.agg #[.int .i64 4, .int .i64 1, .int .i64 0, .int .i64 0, .int .i64 0, .int .i64 0, .int .i64 2, .int .i64 4, .int .i64 0, .int .i64 2, .int .i64 4, .int .i64 0]) ⟨res_cellN zS117 1 12 zb108 0, trivial⟩) ?_
     exact ⟨zS117.ch, Sp.mk_holds [] (all_nil)⟩
   refine step_cons ?_ ?_
   · intro zy118 zw119 zhc120 zhf121 zhp122
     have zh123 : zy118 16 = .bool true := (Sp.out0 (zhp122 8 16 (by kernel_rfl) (by kernel_rfl))).1
     have zS124 := zS14.quiet zhc120
     refine step_yes (wY_t zh123) ?_
     refine yenv [] (ag_nil) ?_
     have zS125 := zS124.loc
     refine Y.call_ 32 #[] ?_
     refine enter_ Try.func32 rfl ?_
     refine seq_ (reg_ ?_)
     refine new_ zS125 (fun b => .pointer (some ⟨b, 0, none⟩)) (.cells #[.int .i64 0, .int .i64 0, .int .i64 0, .int .i64 0, .int .i64 0, .int .i64 0, .int .i64 0, .int .i64 0, .int .i64 0, .int .i64 0, .int .i64 0, .int .i64 0] 62) ?_
     intro zb126 zw127 zS128
     refine nil_ (then_n (seq_ (reg_ ?_)))
     refine pure_ (.agg #[.int .i64 2, .int .i64 4, .int .i64 0]) ?_
     refine new_ zS128 (fun b => .pointer (some ⟨b, 0, none⟩)) (.cells #[.int .i64 0, .int .i64 0, .int .i64 0] 60) ?_
     intro zb129 zw130 zS131
     refine store_ zS131 0 (.agg #[.int .i64 2, .int .i64 4, .int .i64 0]) zb129 0 ?_
     intro zw132 zS133
     refine nil_ (then_n (seq_ (reg_ ?_)))
     refine loadN_ zS133 0 3 #[.int .i64 2, .int .i64 4, .int .i64 0] zb129 0 ?_
     refine loadN_ zS133 0 3 #[.int .i64 2, .int .i64 4, .int .i64 0] zb129 0 ?_
     refine pure_ (.agg #[.int .i64 4, .int .i64 1, .int .i64 0, .int .i64 0, .int .i64 0, .int .i64 0, .int .i64 2, .int .i64 4, .int .i64 0, .int .i64 2, .int .i64 4, .int .i64 0]) ?_
     refine store_ zS133 1 (.agg #[.int .i64 4, .int .i64 1, .int .i64 0, .int .i64 0, .int .i64 0, .int .i64 0, .int .i64 2, .int .i64 4, .int .i64 0, .int .i64 2, .int .i64 4, .int .i64 0]) zb126 0 ?_
     intro zw134 zS135
     refine nil_ (then_n (wp_ret ?_))
     refine ret_ rfl (res_ [.cell 0 62] [.agg #[.int .i64 4, .int .i64 1, .int .i64 0, .int .i64 0, .int .i64 0, .int .i64 0, .int .i64 2, .int .i64 4, .int .i64 0, .int .i64 2, .int .i64 4, .int .i64 0]] (.agg #[.int .i64 4, .int .i64 1, .int .i64 0, .int .i64 0, .int .i64 0, .int .i64 0, .int .i64 2, .int .i64 4, .int .i64 0, .int .i64 2, .int .i64 4, .int .i64 0]) ⟨res_cellN zS135 1 12 zb126 0, trivial⟩) ?_
     exact ⟨zS135.ch, Sp.mk_holds [] (all_nil)⟩
   refine step_cons ?_ ?_
   · intro zy136 zw137 zhc138 zhf139 zhp140
     have zh141 : zy136 17 = .agg #[.int .i64 4, .int .i64 1, .int .i64 0, .int .i64 0, .int .i64 0, .int .i64 0, .int .i64 2, .int .i64 4, .int .i64 0, .int .i64 2, .int .i64 4, .int .i64 0] := (Sp.out0 (zhp140 9 17 (by kernel_rfl) (by kernel_rfl))).1
     have zh142 : zy136 18 = .agg #[.int .i64 4, .int .i64 1, .int .i64 0, .int .i64 0, .int .i64 0, .int .i64 0, .int .i64 2, .int .i64 4, .int .i64 0, .int .i64 2, .int .i64 4, .int .i64 0] := (Sp.out0 (zhp140 10 18 (by kernel_rfl) (by kernel_rfl))).1
     have zh143 : zy136 16 = .bool true := (Sp.out0 (zhp140 8 16 (by kernel_rfl) (by kernel_rfl))).1
     have zS144 := zS14.quiet zhc138
     refine step_yes (wY_t zh143) ?_
     refine yenv [(17, .agg #[.int .i64 4, .int .i64 1, .int .i64 0, .int .i64 0, .int .i64 0, .int .i64 0, .int .i64 2, .int .i64 4, .int .i64 0, .int .i64 2, .int .i64 4, .int .i64 0]), (18, .agg #[.int .i64 4, .int .i64 1, .int .i64 0, .int .i64 0, .int .i64 0, .int .i64 0, .int .i64 2, .int .i64 4, .int .i64 0, .int .i64 2, .int .i64 4, .int .i64 0])] (ag_cons zh141 (ag_cons zh142 (ag_nil))) ?_
     have zS145 := zS144.loc
     refine Y.eqAgg_ false true #[.int .i64 4, .int .i64 1, .int .i64 0, .int .i64 0, .int .i64 0, .int .i64 0, .int .i64 2, .int .i64 4, .int .i64 0, .int .i64 2, .int .i64 4, .int .i64 0] #[.int .i64 4, .int .i64 1, .int .i64 0, .int .i64 0, .int .i64 0, .int .i64 0, .int .i64 2, .int .i64 4, .int .i64 0, .int .i64 2, .int .i64 4, .int .i64 0] ?_
     exact ⟨zS145.ch, Sp.mk_holds [] (all_nil)⟩
   refine step_cons ?_ ?_
   · intro zy146 zw147 zhc148 zhf149 zhp150
     have zh151 : zy146 16 = .bool true := (Sp.out0 (zhp150 8 16 (by kernel_rfl) (by kernel_rfl))).1
     have zh152 : zy146 19 = .bool true := (Sp.out0 (zhp150 11 19 (by kernel_rfl) (by kernel_rfl))).1
     have zS153 := zS14.quiet zhc148
     refine step1 ?_
     refine yenv [(16, .bool true), (19, .bool true)] (ag_cons zh151 (ag_cons zh152 (ag_nil))) ?_
     have zS154 := zS153.loc
     refine Y.pure_ (.bool true) ?_
     exact ⟨zS154.ch, Sp.mk_holds [] (all_nil)⟩
   refine step_cons ?_ ?_
   · intro zy155 zw156 zhc157 zhf158 zhp159
     have zh160 : zy155 20 = .bool true := (Sp.out0 (zhp159 12 20 (by kernel_rfl) (by kernel_rfl))).1
     have zS161 := zS14.quiet zhc157
     refine step1 ?_
     refine yenv [(20, .bool true)] (ag_cons zh160 (ag_nil)) ?_
     have zS162 := zS161.loc
     refine Y.pure_ (.bool true) ?_
     exact ⟨zS162.ch, Sp.mk_holds [] (all_nil)⟩
   exact step_nil
 intro zv163 zw164 zhc165 zha166
 have zh167 : zv163 0 = .bool true := (Sp.out0 (zha166 0 (by kernel_rfl))).1
 have zh168 : zv163 1 = .bool true := (Sp.out0 (zha166 1 (by kernel_rfl))).1
 have zh169 : zv163 2 = .agg (polC q ka (cut kn) kc) := (Sp.out0 (zha166 2 (by kernel_rfl))).1
 have zh170 : zv163 3 = .int .i64 (polCode q (cut kn)) := (Sp.out0 (zha166 3 (by kernel_rfl))).1
 have zh171 : zv163 4 = .agg (polC q ka (cut kn) kc) := (Sp.out0 (zha166 4 (by kernel_rfl))).1
 have zh172 : zv163 5 = .int .i64 (polCode q (cut kn)) := (Sp.out0 (zha166 5 (by kernel_rfl))).1
 have zh173 : zv163 6 = .bool true := (Sp.out0 (zha166 6 (by kernel_rfl))).1
 have zh174 : zv163 7 = .bool true := (Sp.out0 (zha166 7 (by kernel_rfl))).1
 have zh175 : zv163 8 = .bool true := (Sp.out0 (zha166 8 (by kernel_rfl))).1
 have zh176 : zv163 9 = .agg #[.int .i64 4, .int .i64 1, .int .i64 0, .int .i64 0, .int .i64 0, .int .i64 0, .int .i64 2, .int .i64 4, .int .i64 0, .int .i64 2, .int .i64 4, .int .i64 0] := (Sp.out0 (zha166 9 (by kernel_rfl))).1
 have zh177 : zv163 10 = .agg #[.int .i64 4, .int .i64 1, .int .i64 0, .int .i64 0, .int .i64 0, .int .i64 0, .int .i64 2, .int .i64 4, .int .i64 0, .int .i64 2, .int .i64 4, .int .i64 0] := (Sp.out0 (zha166 10 (by kernel_rfl))).1
 have zh178 : zv163 11 = .bool true := (Sp.out0 (zha166 11 (by kernel_rfl))).1
 have zh179 : zv163 12 = .bool true := (Sp.out0 (zha166 12 (by kernel_rfl))).1
 have zh180 : zv163 13 = .bool true := (Sp.out0 (zha166 13 (by kernel_rfl))).1
 have zS181 := zS14.quiet zhc165
 refine ⟨[.bool true, .bool true, .agg (polC q ka (cut kn) kc), .int .i64 (polCode q (cut kn)), .agg (polC q ka (cut kn) kc), .int .i64 (polCode q (cut kn)), .bool true, .bool true, .bool true, .agg #[.int .i64 4, .int .i64 1, .int .i64 0, .int .i64 0, .int .i64 0, .int .i64 0, .int .i64 2, .int .i64 4, .int .i64 0, .int .i64 2, .int .i64 4, .int .i64 0], .agg #[.int .i64 4, .int .i64 1, .int .i64 0, .int .i64 0, .int .i64 0, .int .i64 0, .int .i64 2, .int .i64 4, .int .i64 0, .int .i64 2, .int .i64 4, .int .i64 0], .bool true, .bool true, .bool true], by kernel_rfl, va_cons zh167 (va_cons zh168 (va_cons zh169 (va_cons zh170 (va_cons zh171 (va_cons zh172 (va_cons zh173 (va_cons zh174 (va_cons zh175 (va_cons zh176 (va_cons zh177 (va_cons zh178 (va_cons zh179 (va_cons zh180 (va_nil)))))))))))))), ?_⟩
 refine nil_ (then_n (wp_ret ?_))
 refine ret_ rfl (res_ [.tmp 2] [.bool true] (.bool true) ⟨res_tmp, trivial⟩) ?_
 exact ⟨rfl, zS181.ch⟩

end Go.Proofs.Ytabnjfboigmleaa
