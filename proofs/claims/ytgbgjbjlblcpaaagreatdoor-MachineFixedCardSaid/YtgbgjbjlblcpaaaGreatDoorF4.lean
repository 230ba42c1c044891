/- machine.New. -/
import Derived.Test.YtgbgjbjlblcpaaaGreatDoorF2
namespace Go.Proofs.YtgbgjbjlblcpaaaGreatDoor
open Go Go.RowKit Go.BigFrame Sx
set_option linter.unusedVariables false
set_option linter.unusedSimpArgs false

set_option maxRecDepth 100000 in
set_option maxHeartbeats 4000000 in
theorem stream_  (w : World) {ms : List Nat} {w0 : World} {bs : List Blk} (S0 : St ms w0 bs w) :
    Gives Tryz.prog 54 #[] w fun v w1 => ∃ b, v = .pointer (some ⟨b, 0, none⟩) ∧ St ms w0 (⟨b, true, .cells #[.slice none 0 0] 180 (0, 0)⟩ :: bs) w1 := by
 refine enter_ Tryz.func54 rfl ?_
 refine seq_ (reg_ ?_)
 refine pure_ (.pointer none) ?_
 refine nil_ (then_n (seq_ (reg_ ?_)))
 refine pure_ (.agg #[.slice none 0 0]) ?_
 refine new_ S0 (fun b => .pointer (some ⟨b, 0, none⟩)) (.cells #[.slice none 0 0] 180) ?_
 intro zb1 zw2 zS3
 refine assign_ ?_
 refine nil_ (then_n (wp_ret ?_))
 refine ret_ rfl (res_ [.tmp 0] [.pointer (some ⟨zb1, 0, none⟩)] (.pointer (some ⟨zb1, 0, none⟩)) ⟨res_tmp, trivial⟩) ?_
 exact ⟨zb1, rfl, zS3.re (R := bs) [[⟨zb1, true, .cells #[.slice none 0 0] 180 (0, 0)⟩]] [0]⟩

set_option maxRecDepth 100000 in
set_option maxHeartbeats 4000000 in
theorem machbad_ (p : Sd.Pol) (ka : Nat → Option Addr) (kn kc : Nat → Nat) (h : ¬ polCode p.i kn = 0) (w : World) :
    Gives Tryz.prog 21 #[.agg (polP p ka kn kc)] w fun v w1 => ∃ b, v = .pointer (some ⟨b, 0, none⟩) ∧ St [] w [⟨b, true, .cells #[.pointer none, .int .i64 (polCode p.i kn), .pointer none, .pointer none, .pointer none] 137 (0, 0)⟩] w1 := by
 have S0 := St.nil [] w
 refine enter_ Tryz.func21 rfl ?_
 refine seq_ (reg_ ?_)
 refine new_ S0 (fun b => .pointer (some ⟨b, 0, none⟩)) (.cells (polP p ka kn kc) 28) ?_
 intro zb1 zw2 zS3
 refine pure_ (.pointer none) ?_
 refine nil_ (then_n (seq_ (reg_ ?_)))
 refine loadN_ zS3 0 56 (polP p ka kn kc) zb1 0 ?_
 refine call_ 8 #[.agg (polP p ka kn kc)] ?_
 refine (corebad_ p ka kn kc h _).mono ?_; rintro _ zw4 ⟨rfl, zh5⟩
 have zS6 := zS3.quiet zh5
 refine move_ ?_
 refine pure_ (.pointer none) ?_
 refine pure_ (.int .i64 (polCode p.i kn)) ?_
 refine pure_ (.pointer none) ?_
 refine assign_ ?_
 refine nil_ (then_n (seq_ (seq_ (reg_ ?_))))
 refine move_ ?_
 refine pureE_ (.bool ((polCode p.i kn) != 0)) (.bool true) (congrArg Value.bool (neT (by omega))) ?_
 refine nil_ (then_n (cond_T ?_))
 refine seq_ (reg_ ?_)
 refine move_ ?_
 refine pure_ (.agg #[.pointer none, .int .i64 (polCode p.i kn), .pointer none, .pointer none, .pointer none]) ?_
 refine new_ zS6 (fun b => .pointer (some ⟨b, 0, none⟩)) (.cells #[.pointer none, .int .i64 (polCode p.i kn), .pointer none, .pointer none, .pointer none] 137) ?_
 intro zb7 zw8 zS9
 refine assign_ ?_
 refine nil_ (then_n (wp_ret (then_r ?_)))
 refine ret_ rfl (res_ [.tmp 2] [.pointer (some ⟨zb7, 0, none⟩)] (.pointer (some ⟨zb7, 0, none⟩)) ⟨res_tmp, trivial⟩) ?_
 exact ⟨zb7, rfl, (show St [] w [⟨zb7, true, .cells #[.pointer none, .int .i64 (polCode p.i kn), .pointer none, .pointer none, .pointer none] 137 (0, 0)⟩] _ from zS9.re (R := ([] : List Blk)) [[⟨zb7, true, .cells #[.pointer none, .int .i64 (polCode p.i kn), .pointer none, .pointer none, .pointer none] 137 (0, 0)⟩], [⟨zb1, true, .cells (polP p ka kn kc) 28 (0, 0)⟩]] [0])⟩

def polZ : Sd.Pol := ⟨fun _ => 0, fun _ => []⟩
theorem code0 : polCode polZ.i (fun _ => 0) = 40 := by decide
theorem mach0_ (w : World) : Gives Tryz.prog 21 #[.agg (polP polZ (fun _ => none) (fun _ => 0) (fun _ => 0))] w fun v w1 => ∃ b, v = .pointer (some ⟨b, 0, none⟩) ∧ St [] w [⟨b, true, .cells #[.pointer none, .int .i64 40, .pointer none, .pointer none, .pointer none] 137 (0, 0)⟩] w1 := by
  have h := machbad_ polZ (fun _ => none) (fun _ => 0) (fun _ => 0) (by rw [code0]; decide) w
  rw [code0] at h
  exact h

set_option maxRecDepth 100000 in
set_option maxHeartbeats 4000000 in
theorem machok_ (p : Sd.Pol) (ka : Nat → Option Addr) (kn kc : Nat → Nat) (kf : Nat → Nat → Int) (h : polCode p.i kn = 0) (w : World) (hk : ∀ i, i < 4 → KeyAt w (ka i) (kn i) (kc i) (kf i)) :
    Gives Tryz.prog 21 #[.agg (polP p ka kn kc)] w fun v w1 => ∃ b c s0 s1 s2, v = .pointer (some ⟨b, 0, none⟩) ∧ St [] w [⟨b, true, .cells #[.pointer (some ⟨c, 0, none⟩), .int .i64 0, .pointer (some ⟨s0, 0, none⟩), .pointer (some ⟨s1, 0, none⟩), .pointer (some ⟨s2, 0, none⟩)] 137 (0, 0)⟩] w1 := by
 have S0 := St.nil [] w
 refine enter_ Tryz.func21 rfl ?_
 refine seq_ (reg_ ?_)
 refine new_ S0 (fun b => .pointer (some ⟨b, 0, none⟩)) (.cells (polP p ka kn kc) 28) ?_
 intro zb1 zw2 zS3
 refine pure_ (.pointer none) ?_
 refine nil_ (then_n (seq_ (reg_ ?_)))
 refine loadN_ zS3 0 56 (polP p ka kn kc) zb1 0 ?_
 refine call_ 8 #[.agg (polP p ka kn kc)] ?_
 refine (coreok_ p ka kn kc kf h _ (fun i hi => KeyAt.quiet (hk i hi) zS3.ch)).mono ?_; rintro _ zw4 ⟨zb7, rfl, zh5⟩
 have zS6 := zS3.quiet zh5
 refine move_ ?_
 refine pure_ (.pointer (some ⟨zb7, 0, none⟩)) ?_
 refine pure_ (.int .i64 0) ?_
 refine assign_ ?_
 refine pure_ (.int .i64 0) ?_
 refine nil_ (then_n (seq_ (seq_ (reg_ ?_))))
 refine pure_ (.int .i64 0) ?_
 refine pure_ (.bool false) ?_
 refine nil_ (then_n (cond_F ?_))
 refine wp_skip (then_n (seq_ (reg_ ?_)))
 refine move_ ?_
 refine pure_ (.agg #[.pointer (some ⟨zb7, 0, none⟩), .int .i64 0, .pointer none, .pointer none, .pointer none]) ?_
 refine new_ zS6 (fun b => .pointer (some ⟨b, 0, none⟩)) (.cells #[.pointer (some ⟨zb7, 0, none⟩), .int .i64 0, .pointer none, .pointer none, .pointer none] 137) ?_
 intro zb8 zw9 zS10
 refine assign_ ?_
 refine nil_ (then_n (seq_ (seq_ (reg_ ?_))))
 refine pure_ (.int .i64 0) ?_
 refine nil_ (then_n (wp_block (loop_ 24 (seq_ (reg_ ?_)))))
 refine pure_ (.bool true) ?_
 refine nil_ (then_n (seq_ (cond_T ?_)))
 refine wp_skip (then_n (seq_ (wp_block (seq_ (reg_ ?_)))))
 refine pure_ (.int .i64 0) ?_
 refine pure_ (.int .i64 0) ?_
 refine nil_ (then_n ?_)
 refine drawnL_ 5 [⟨0, fun _ => .pointer (some ⟨zb8, 0, none⟩), fun _ => []⟩, ⟨0, fun _ => .int .i64 0, fun _ => []⟩, ⟨1, fun ids => .pointer (some ⟨(ids.getD 0 0), 0, none⟩), fun ids => [((ids.getD 0 0), .cells #[.slice none 0 0] 180 (0, 0))]⟩, ⟨0, fun _ => .pointer (some ⟨zb8, 0, none⟩), fun _ => []⟩, ⟨0, fun _ => .pointer (some ⟨zb8, 2, none⟩), fun _ => []⟩] [[5, 0], [5, 1], [5, 2], [5, 4, 3], [5, 4], [6, 0], [6, 1], [6, 2], [6, 5, 4, 3], [6, 5, 4], [6, 5]] ?_ ?_
 · refine step_cons ?_ ?_
   · intro zy11 zw12 zhc13 zhf14 zhp15
     have zh16 : zy11 5 = .pointer (some ⟨zb8, 0, none⟩) := (zhf14 5 (by kernel_rfl)).trans (by kernel_rfl)
     have zS17 := zS10.quiet zhc13
     refine step1 ?_
     refine yenv [(5, .pointer (some ⟨zb8, 0, none⟩))] (ag_cons zh16 (ag_nil)) ?_
     have zS18 := zS17.loc
     refine Y.move_ ?_
     exact ⟨zS18.ch, Sp.mk_holds [] (all_nil)⟩
   refine step_cons ?_ ?_
   · intro zy19 zw20 zhc21 zhf22 zhp23
     have zh24 : zy19 6 = .int .i64 0 := (zhf22 6 (by kernel_rfl)).trans (by kernel_rfl)
     have zS25 := zS10.quiet zhc21
     refine step1 ?_
     refine yenv [(6, .int .i64 0)] (ag_cons zh24 (ag_nil)) ?_
     have zS26 := zS25.loc
     refine Y.pure_ (.int .i64 0) ?_
     exact ⟨zS26.ch, Sp.mk_holds [] (all_nil)⟩
   refine step_cons ?_ ?_
   · intro zy27 zw28 zhc29 zhf30 zhp31
     have zS32 := zS10.quiet zhc29
     refine step1 ?_
     refine yenv [] (ag_nil) ?_
     have zS33 := zS32.loc
     refine Y.call_ 54 #[] ?_
     refine enter_ Tryz.func54 rfl ?_
     refine seq_ (reg_ ?_)
     refine pure_ (.pointer none) ?_
     refine nil_ (then_n (seq_ (reg_ ?_)))
     refine pure_ (.agg #[.slice none 0 0]) ?_
     refine new_ zS33 (fun b => .pointer (some ⟨b, 0, none⟩)) (.cells #[.slice none 0 0] 180) ?_
     intro zb34 zw35 zS36
     refine assign_ ?_
     refine nil_ (then_n (wp_ret ?_))
     refine ret_ rfl (res_ [.tmp 0] [.pointer (some ⟨zb34, 0, none⟩)] (.pointer (some ⟨zb34, 0, none⟩)) ⟨res_tmp, trivial⟩) ?_
     exact ⟨zS36.ch, Sp.mk_holds [zb34] (all_cons (zS36.isNew zhc29.size 0 (by kernel_rfl)) (all_nil))⟩
   refine step_cons ?_ ?_
   · intro zy37 zw38 zhc39 zhf40 zhp41
     have zh42 : zy37 23 = .pointer (some ⟨zb8, 0, none⟩) := (Sp.out0 (zhp41 0 23 (by kernel_rfl) (by kernel_rfl))).1
     have zS43 := zS10.quiet zhc39
     refine step1 ?_
     refine yenv [(23, .pointer (some ⟨zb8, 0, none⟩))] (ag_cons zh42 (ag_nil)) ?_
     have zS44 := zS43.loc
     refine Y.pure_ (.pointer (some ⟨zb8, 0, none⟩)) ?_
     exact ⟨zS44.ch, Sp.mk_holds [] (all_nil)⟩
   refine step_cons ?_ ?_
   · intro zy45 zw46 zhc47 zhf48 zhp49
     have zh50 : zy45 26 = .pointer (some ⟨zb8, 0, none⟩) := (Sp.out0 (zhp49 3 26 (by kernel_rfl) (by kernel_rfl))).1
     have zS51 := zS10.quiet zhc47
     refine step1 ?_
     refine yenv [(26, .pointer (some ⟨zb8, 0, none⟩))] (ag_cons zh50 (ag_nil)) ?_
     have zS52 := zS51.loc
     refine Y.pure_ (.pointer (some ⟨zb8, 2, none⟩)) ?_
     exact ⟨zS52.ch, Sp.mk_holds [] (all_nil)⟩
   exact step_nil
 intro zv53 zw54 zhc55 zha56
 have zh57 : zv53 0 = .pointer (some ⟨zb8, 0, none⟩) := (Sp.out0 (zha56 0 (by kernel_rfl))).1
 have zh58 : zv53 1 = .int .i64 0 := (Sp.out0 (zha56 1 (by kernel_rfl))).1
 have zo62 := Sp.out1 (zha56 2 (by kernel_rfl))
 obtain ⟨zb60, zh59', zg61'⟩ := zo62
 have zh59 : zv53 2 = .pointer (some ⟨zb60, 0, none⟩) := zh59'
 have zg61 : ∀ zp ∈ ([(zb60, .cells #[.slice none 0 0] 180 (0, 0))] : List (Nat × Obj)), zw9.heap.size ≤ zp.1 ∧ zw54.heap[zp.1]? = some zp.2 := zg61'
 have zh63 : zv53 3 = .pointer (some ⟨zb8, 0, none⟩) := (Sp.out0 (zha56 3 (by kernel_rfl))).1
 have zh64 : zv53 4 = .pointer (some ⟨zb8, 2, none⟩) := (Sp.out0 (zha56 4 (by kernel_rfl))).1
 have zS65 := zS10.ro zhc55 ([(zb60, .cells #[.slice none 0 0] 180 (0, 0))]) (zg61)
 refine ⟨[.pointer (some ⟨zb8, 0, none⟩), .int .i64 0, .pointer (some ⟨zb60, 0, none⟩), .pointer (some ⟨zb8, 0, none⟩), .pointer (some ⟨zb8, 2, none⟩)], by kernel_rfl, va_cons zh57 (va_cons zh58 (va_cons zh59 (va_cons zh63 (va_cons zh64 (va_nil))))), ?_⟩
 refine pure_ (.pointer (some ⟨zb8, 2, none⟩)) ?_
 refine store_ zS65 1 (.pointer (some ⟨zb60, 0, none⟩)) zb8 2 ?_
 intro zw66 zS67
 refine nil_ (blk_n (then_n (reg_ ?_)))
 refine pure_ (.int .i64 1) ?_
 refine pure_ (.int .i64 1) ?_
 refine nil_ (again_ (seq_ (reg_ ?_)))
 refine pure_ (.bool true) ?_
 refine nil_ (then_n (seq_ (cond_T ?_)))
 refine wp_skip (then_n (seq_ (wp_block (seq_ (reg_ ?_)))))
 refine pure_ (.int .i64 1) ?_
 refine pure_ (.int .i64 1) ?_
 refine nil_ (then_n ?_)
 refine drawnL_ 5 [⟨0, fun _ => .pointer (some ⟨zb8, 0, none⟩), fun _ => []⟩, ⟨0, fun _ => .int .i64 1, fun _ => []⟩, ⟨1, fun ids => .pointer (some ⟨(ids.getD 0 0), 0, none⟩), fun ids => [((ids.getD 0 0), .cells #[.slice none 0 0] 180 (0, 0))]⟩, ⟨0, fun _ => .pointer (some ⟨zb8, 0, none⟩), fun _ => []⟩, ⟨0, fun _ => .pointer (some ⟨zb8, 2, none⟩), fun _ => []⟩] [[5, 0], [5, 1], [5, 2], [5, 4, 3], [5, 4], [6, 0], [6, 1], [6, 2], [6, 5, 4, 3], [6, 5, 4], [6, 5]] ?_ ?_
 · refine step_cons ?_ ?_
   · intro zy68 zw69 zhc70 zhf71 zhp72
     have zh73 : zy68 5 = .pointer (some ⟨zb8, 0, none⟩) := (zhf71 5 (by kernel_rfl)).trans (by kernel_rfl)
     have zS74 := zS67.quiet zhc70
     refine step1 ?_
     refine yenv [(5, .pointer (some ⟨zb8, 0, none⟩))] (ag_cons zh73 (ag_nil)) ?_
     have zS75 := zS74.loc
     refine Y.move_ ?_
     exact ⟨zS75.ch, Sp.mk_holds [] (all_nil)⟩
   refine step_cons ?_ ?_
   · intro zy76 zw77 zhc78 zhf79 zhp80
     have zh81 : zy76 6 = .int .i64 1 := (zhf79 6 (by kernel_rfl)).trans (by kernel_rfl)
     have zS82 := zS67.quiet zhc78
     refine step1 ?_
     refine yenv [(6, .int .i64 1)] (ag_cons zh81 (ag_nil)) ?_
     have zS83 := zS82.loc
     refine Y.pure_ (.int .i64 1) ?_
     exact ⟨zS83.ch, Sp.mk_holds [] (all_nil)⟩
   refine step_cons ?_ ?_
   · intro zy84 zw85 zhc86 zhf87 zhp88
     have zS89 := zS67.quiet zhc86
     refine step1 ?_
     refine yenv [] (ag_nil) ?_
     have zS90 := zS89.loc
     refine Y.call_ 54 #[] ?_
     refine enter_ Tryz.func54 rfl ?_
     refine seq_ (reg_ ?_)
     refine pure_ (.pointer none) ?_
     refine nil_ (then_n (seq_ (reg_ ?_)))
     refine pure_ (.agg #[.slice none 0 0]) ?_
     refine new_ zS90 (fun b => .pointer (some ⟨b, 0, none⟩)) (.cells #[.slice none 0 0] 180) ?_
     intro zb91 zw92 zS93
     refine assign_ ?_
     refine nil_ (then_n (wp_ret ?_))
     refine ret_ rfl (res_ [.tmp 0] [.pointer (some ⟨zb91, 0, none⟩)] (.pointer (some ⟨zb91, 0, none⟩)) ⟨res_tmp, trivial⟩) ?_
     exact ⟨zS93.ch, Sp.mk_holds [zb91] (all_cons (zS93.isNew zhc86.size 0 (by kernel_rfl)) (all_nil))⟩
   refine step_cons ?_ ?_
   · intro zy94 zw95 zhc96 zhf97 zhp98
     have zh99 : zy94 23 = .pointer (some ⟨zb8, 0, none⟩) := (Sp.out0 (zhp98 0 23 (by kernel_rfl) (by kernel_rfl))).1
     have zS100 := zS67.quiet zhc96
     refine step1 ?_
     refine yenv [(23, .pointer (some ⟨zb8, 0, none⟩))] (ag_cons zh99 (ag_nil)) ?_
     have zS101 := zS100.loc
     refine Y.pure_ (.pointer (some ⟨zb8, 0, none⟩)) ?_
     exact ⟨zS101.ch, Sp.mk_holds [] (all_nil)⟩
   refine step_cons ?_ ?_
   · intro zy102 zw103 zhc104 zhf105 zhp106
     have zh107 : zy102 26 = .pointer (some ⟨zb8, 0, none⟩) := (Sp.out0 (zhp106 3 26 (by kernel_rfl) (by kernel_rfl))).1
     have zS108 := zS67.quiet zhc104
     refine step1 ?_
     refine yenv [(26, .pointer (some ⟨zb8, 0, none⟩))] (ag_cons zh107 (ag_nil)) ?_
     have zS109 := zS108.loc
     refine Y.pure_ (.pointer (some ⟨zb8, 2, none⟩)) ?_
     exact ⟨zS109.ch, Sp.mk_holds [] (all_nil)⟩
   exact step_nil
 intro zv110 zw111 zhc112 zha113
 have zh114 : zv110 0 = .pointer (some ⟨zb8, 0, none⟩) := (Sp.out0 (zha113 0 (by kernel_rfl))).1
 have zh115 : zv110 1 = .int .i64 1 := (Sp.out0 (zha113 1 (by kernel_rfl))).1
 have zo119 := Sp.out1 (zha113 2 (by kernel_rfl))
 obtain ⟨zb117, zh116', zg118'⟩ := zo119
 have zh116 : zv110 2 = .pointer (some ⟨zb117, 0, none⟩) := zh116'
 have zg118 : ∀ zp ∈ ([(zb117, .cells #[.slice none 0 0] 180 (0, 0))] : List (Nat × Obj)), zw66.heap.size ≤ zp.1 ∧ zw111.heap[zp.1]? = some zp.2 := zg118'
 have zh120 : zv110 3 = .pointer (some ⟨zb8, 0, none⟩) := (Sp.out0 (zha113 3 (by kernel_rfl))).1
 have zh121 : zv110 4 = .pointer (some ⟨zb8, 2, none⟩) := (Sp.out0 (zha113 4 (by kernel_rfl))).1
 have zS122 := zS67.ro zhc112 ([(zb117, .cells #[.slice none 0 0] 180 (0, 0))]) (zg118)
 refine ⟨[.pointer (some ⟨zb8, 0, none⟩), .int .i64 1, .pointer (some ⟨zb117, 0, none⟩), .pointer (some ⟨zb8, 0, none⟩), .pointer (some ⟨zb8, 2, none⟩)], by kernel_rfl, va_cons zh114 (va_cons zh115 (va_cons zh116 (va_cons zh120 (va_cons zh121 (va_nil))))), ?_⟩
 refine pure_ (.pointer (some ⟨zb8, 3, none⟩)) ?_
 refine store_ zS122 2 (.pointer (some ⟨zb117, 0, none⟩)) zb8 3 ?_
 intro zw123 zS124
 refine nil_ (blk_n (then_n (reg_ ?_)))
 refine pure_ (.int .i64 2) ?_
 refine pure_ (.int .i64 2) ?_
 refine nil_ (again_ (seq_ (reg_ ?_)))
 refine pure_ (.bool true) ?_
 refine nil_ (then_n (seq_ (cond_T ?_)))
 refine wp_skip (then_n (seq_ (wp_block (seq_ (reg_ ?_)))))
 refine pure_ (.int .i64 2) ?_
 refine pure_ (.int .i64 2) ?_
 refine nil_ (then_n ?_)
 refine drawnL_ 5 [⟨0, fun _ => .pointer (some ⟨zb8, 0, none⟩), fun _ => []⟩, ⟨0, fun _ => .int .i64 2, fun _ => []⟩, ⟨1, fun ids => .pointer (some ⟨(ids.getD 0 0), 0, none⟩), fun ids => [((ids.getD 0 0), .cells #[.slice none 0 0] 180 (0, 0))]⟩, ⟨0, fun _ => .pointer (some ⟨zb8, 0, none⟩), fun _ => []⟩, ⟨0, fun _ => .pointer (some ⟨zb8, 2, none⟩), fun _ => []⟩] [[5, 0], [5, 1], [5, 2], [5, 4, 3], [5, 4], [6, 0], [6, 1], [6, 2], [6, 5, 4, 3], [6, 5, 4], [6, 5]] ?_ ?_
 · refine step_cons ?_ ?_
   · intro zy125 zw126 zhc127 zhf128 zhp129
     have zh130 : zy125 5 = .pointer (some ⟨zb8, 0, none⟩) := (zhf128 5 (by kernel_rfl)).trans (by kernel_rfl)
     have zS131 := zS124.quiet zhc127
     refine step1 ?_
     refine yenv [(5, .pointer (some ⟨zb8, 0, none⟩))] (ag_cons zh130 (ag_nil)) ?_
     have zS132 := zS131.loc
     refine Y.move_ ?_
     exact ⟨zS132.ch, Sp.mk_holds [] (all_nil)⟩
   refine step_cons ?_ ?_
   · intro zy133 zw134 zhc135 zhf136 zhp137
     have zh138 : zy133 6 = .int .i64 2 := (zhf136 6 (by kernel_rfl)).trans (by kernel_rfl)
     have zS139 := zS124.quiet zhc135
     refine step1 ?_
     refine yenv [(6, .int .i64 2)] (ag_cons zh138 (ag_nil)) ?_
     have zS140 := zS139.loc
     refine Y.pure_ (.int .i64 2) ?_
     exact ⟨zS140.ch, Sp.mk_holds [] (all_nil)⟩
   refine step_cons ?_ ?_
   · intro zy141 zw142 zhc143 zhf144 zhp145
     have zS146 := zS124.quiet zhc143
     refine step1 ?_
     refine yenv [] (ag_nil) ?_
     have zS147 := zS146.loc
     refine Y.call_ 54 #[] ?_
     refine enter_ Tryz.func54 rfl ?_
     refine seq_ (reg_ ?_)
     refine pure_ (.pointer none) ?_
     refine nil_ (then_n (seq_ (reg_ ?_)))
     refine pure_ (.agg #[.slice none 0 0]) ?_
     refine new_ zS147 (fun b => .pointer (some ⟨b, 0, none⟩)) (.cells #[.slice none 0 0] 180) ?_
     intro zb148 zw149 zS150
     refine assign_ ?_
     refine nil_ (then_n (wp_ret ?_))
     refine ret_ rfl (res_ [.tmp 0] [.pointer (some ⟨zb148, 0, none⟩)] (.pointer (some ⟨zb148, 0, none⟩)) ⟨res_tmp, trivial⟩) ?_
     exact ⟨zS150.ch, Sp.mk_holds [zb148] (all_cons (zS150.isNew zhc143.size 0 (by kernel_rfl)) (all_nil))⟩
   refine step_cons ?_ ?_
   · intro zy151 zw152 zhc153 zhf154 zhp155
     have zh156 : zy151 23 = .pointer (some ⟨zb8, 0, none⟩) := (Sp.out0 (zhp155 0 23 (by kernel_rfl) (by kernel_rfl))).1
     have zS157 := zS124.quiet zhc153
     refine step1 ?_
     refine yenv [(23, .pointer (some ⟨zb8, 0, none⟩))] (ag_cons zh156 (ag_nil)) ?_
     have zS158 := zS157.loc
     refine Y.pure_ (.pointer (some ⟨zb8, 0, none⟩)) ?_
     exact ⟨zS158.ch, Sp.mk_holds [] (all_nil)⟩
   refine step_cons ?_ ?_
   · intro zy159 zw160 zhc161 zhf162 zhp163
     have zh164 : zy159 26 = .pointer (some ⟨zb8, 0, none⟩) := (Sp.out0 (zhp163 3 26 (by kernel_rfl) (by kernel_rfl))).1
     have zS165 := zS124.quiet zhc161
     refine step1 ?_
     refine yenv [(26, .pointer (some ⟨zb8, 0, none⟩))] (ag_cons zh164 (ag_nil)) ?_
     have zS166 := zS165.loc
     refine Y.pure_ (.pointer (some ⟨zb8, 2, none⟩)) ?_
     exact ⟨zS166.ch, Sp.mk_holds [] (all_nil)⟩
   exact step_nil
 intro zv167 zw168 zhc169 zha170
 have zh171 : zv167 0 = .pointer (some ⟨zb8, 0, none⟩) := (Sp.out0 (zha170 0 (by kernel_rfl))).1
 have zh172 : zv167 1 = .int .i64 2 := (Sp.out0 (zha170 1 (by kernel_rfl))).1
 have zo176 := Sp.out1 (zha170 2 (by kernel_rfl))
 obtain ⟨zb174, zh173', zg175'⟩ := zo176
 have zh173 : zv167 2 = .pointer (some ⟨zb174, 0, none⟩) := zh173'
 have zg175 : ∀ zp ∈ ([(zb174, .cells #[.slice none 0 0] 180 (0, 0))] : List (Nat × Obj)), zw123.heap.size ≤ zp.1 ∧ zw168.heap[zp.1]? = some zp.2 := zg175'
 have zh177 : zv167 3 = .pointer (some ⟨zb8, 0, none⟩) := (Sp.out0 (zha170 3 (by kernel_rfl))).1
 have zh178 : zv167 4 = .pointer (some ⟨zb8, 2, none⟩) := (Sp.out0 (zha170 4 (by kernel_rfl))).1
 have zS179 := zS124.ro zhc169 ([(zb174, .cells #[.slice none 0 0] 180 (0, 0))]) (zg175)
 refine ⟨[.pointer (some ⟨zb8, 0, none⟩), .int .i64 2, .pointer (some ⟨zb174, 0, none⟩), .pointer (some ⟨zb8, 0, none⟩), .pointer (some ⟨zb8, 2, none⟩)], by kernel_rfl, va_cons zh171 (va_cons zh172 (va_cons zh173 (va_cons zh177 (va_cons zh178 (va_nil))))), ?_⟩
 refine pure_ (.pointer (some ⟨zb8, 4, none⟩)) ?_
 refine store_ zS179 3 (.pointer (some ⟨zb174, 0, none⟩)) zb8 4 ?_
 intro zw180 zS181
 refine nil_ (blk_n (then_n (reg_ ?_)))
 refine pure_ (.int .i64 3) ?_
 refine pure_ (.int .i64 3) ?_
 refine nil_ (again_ (seq_ (reg_ ?_)))
 refine pure_ (.bool false) ?_
 refine nil_ (then_n (seq_ (cond_F ?_)))
 refine wp_exit (then_e (then_e (blk_e (then_n (seq_ (reg_ ?_))))))
 refine move_ ?_
 refine assign_ ?_
 refine nil_ (then_n (wp_ret ?_))
 refine ret_ rfl (res_ [.tmp 2] [.pointer (some ⟨zb8, 0, none⟩)] (.pointer (some ⟨zb8, 0, none⟩)) ⟨res_tmp, trivial⟩) ?_
 exact ⟨zb8, zb7, zb60, zb117, zb174, rfl, (show St [] w [⟨zb8, true, .cells #[.pointer (some ⟨zb7, 0, none⟩), .int .i64 0, .pointer (some ⟨zb60, 0, none⟩), .pointer (some ⟨zb117, 0, none⟩), .pointer (some ⟨zb174, 0, none⟩)] 137 (0, 0)⟩] _ from zS181.re (R := ([] : List Blk)) [[⟨zb174, false, .cells #[.slice none 0 0] 180 (0, 0)⟩], [⟨zb117, false, .cells #[.slice none 0 0] 180 (0, 0)⟩], [⟨zb60, false, .cells #[.slice none 0 0] 180 (0, 0)⟩], [⟨zb8, true, .cells #[.pointer (some ⟨zb7, 0, none⟩), .int .i64 0, .pointer (some ⟨zb60, 0, none⟩), .pointer (some ⟨zb117, 0, none⟩), .pointer (some ⟨zb174, 0, none⟩)] 137 (0, 0)⟩], [⟨zb1, true, .cells (polP p ka kn kc) 28 (0, 0)⟩]] [3])⟩

end Go.Proofs.YtgbgjbjlblcpaaaGreatDoor
