/- Rows of those who wait, held against each other. -/
import Derived.Test.YtmfhgekknjghoaaD2
namespace Go.Proofs.Ytmfhgekknjghoaa
open Go Go.RowKit Go.BigFrame Sx
set_option linter.unusedVariables false
set_option linter.unusedSimpArgs false

set_option maxRecDepth 100000 in
set_option maxHeartbeats 4000000 in
theorem same_ne (xa xb : Option Addr) (na ca nb cb : Nat) (hn : ¬ na = nb) (w : World) :
    Gives Try.prog 16 #[.slice xa na ca, .slice xb nb cb] w fun v w1 => v = .bool false ∧ Ch [] w w1 := by
 have S0 := St.nil [] w
 refine enter_ Try.func16 rfl ?_
 refine seq_ (reg_ ?_)
 refine pure_ (.bool false) ?_
 refine nil_ (then_n (seq_ (seq_ (reg_ ?_))))
 refine pure_ (.slice xa na ca) ?_
 refine pure_ (.int .i64 ((na : Nat) : Int)) ?_
 refine pure_ (.slice xb nb cb) ?_
 refine pure_ (.int .i64 ((nb : Nat) : Int)) ?_
 refine pureE_ (.bool (((na : Nat) : Int) != ((nb : Nat) : Int))) (.bool true) (congrArg Value.bool (neT (by omega))) ?_
 refine nil_ (then_n (cond_T ?_))
 refine seq_ (reg_ ?_)
 refine pure_ (.bool false) ?_
 refine nil_ (then_n (wp_ret (then_r ?_)))
 refine ret_ rfl (res_ [.tmp 4] [.bool false] (.bool false) ⟨res_tmp, trivial⟩) ?_
 exact ⟨rfl, S0.ch⟩

set_option maxRecDepth 100000 in
set_option maxHeartbeats 4000000 in
theorem same_0 (xa xb : Option Addr) (ca cb : Nat) (w : World) :
    Gives Try.prog 16 #[.slice xa 0 ca, .slice xb 0 cb] w fun v w1 => v = .bool true ∧ Ch [] w w1 := by
 have S0 := St.nil [] w
 refine enter_ Try.func16 rfl ?_
 refine seq_ (reg_ ?_)
 refine pure_ (.bool false) ?_
 refine nil_ (then_n (seq_ (seq_ (reg_ ?_))))
 refine pure_ (.slice xa 0 ca) ?_
 refine pure_ (.int .i64 0) ?_
 refine pure_ (.slice xb 0 cb) ?_
 refine pure_ (.int .i64 0) ?_
 refine pure_ (.bool false) ?_
 refine nil_ (then_n (cond_F ?_))
 refine wp_skip (then_n (seq_ (seq_ (reg_ ?_))))
 refine pure_ (.int .i64 0) ?_
 refine nil_ (then_n (wp_block (loop_ 24 (seq_ (seq_ (reg_ ?_))))))
 refine pure_ (.int .i64 0) ?_
 refine pure_ (.slice xa 0 ca) ?_
 refine pure_ (.int .i64 0) ?_
 refine pure_ (.bool false) ?_
 refine nil_ (then_n (cond_F ?_))
 refine wp_exit (then_e (then_e (blk_e (then_n (seq_ (reg_ ?_))))))
 refine pure_ (.bool true) ?_
 refine nil_ (then_n (wp_ret ?_))
 refine ret_ rfl (res_ [.tmp 4] [.bool true] (.bool true) ⟨res_tmp, trivial⟩) ?_
 exact ⟨rfl, S0.ch⟩

set_option maxRecDepth 100000 in
set_option maxHeartbeats 4000000 in
theorem same_1 (ba bb ca cb : Nat) (ta tb : List Value) (a0 b0 : Sd.Ask) (w : World) (ha : w.heap[ba]? = some (.cells (([.int .i64 a0.source, .int .i64 a0.rank, .int .i64 a0.age.n, .int .i64 a0.age.most] : List Value) ++ ta).toArray 32 (0, 0))) (hb : w.heap[bb]? = some (.cells (([.int .i64 b0.source, .int .i64 b0.rank, .int .i64 b0.age.n, .int .i64 b0.age.most] : List Value) ++ tb).toArray 32 (0, 0))) :
    Gives Try.prog 16 #[.slice (some ⟨ba, 0, none⟩) 1 ca, .slice (some ⟨bb, 0, none⟩) 1 cb] w fun v w1 => v = .bool (decide ([a0] = [b0])) ∧ Ch [] w w1 := by
 have S0 := St.given (w := w) [(ba, .cells (([.int .i64 a0.source, .int .i64 a0.rank, .int .i64 a0.age.n, .int .i64 a0.age.most] : List Value) ++ ta).toArray 32 (0, 0)), (bb, .cells (([.int .i64 b0.source, .int .i64 b0.rank, .int .i64 b0.age.n, .int .i64 b0.age.most] : List Value) ++ tb).toArray 32 (0, 0))] (all_cons ha (all_cons hb (all_nil)))
 refine enter_ Try.func16 rfl ?_
 refine seq_ (reg_ ?_)
 refine pure_ (.bool false) ?_
 refine nil_ (then_n (seq_ (seq_ (reg_ ?_))))
 refine move_ ?_
 refine pure_ (.int .i64 1) ?_
 refine move_ ?_
 refine pure_ (.int .i64 1) ?_
 refine pure_ (.bool false) ?_
 refine nil_ (then_n (cond_F ?_))
 refine wp_skip (then_n (seq_ (seq_ (reg_ ?_))))
 refine pure_ (.int .i64 0) ?_
 refine nil_ (then_n (wp_block (loop_ 24 (seq_ (seq_ (reg_ ?_))))))
 refine pure_ (.int .i64 0) ?_
 refine move_ ?_
 refine pure_ (.int .i64 1) ?_
 refine pure_ (.bool true) ?_
 refine nil_ (then_n (cond_T ?_))
 refine wp_skip (then_n (seq_ (wp_block (seq_ ?_))))
 refine quietL_ 8 [.slice (some ⟨ba, 0, none⟩) 1 ca, .int .i64 0, .pointer (some ⟨ba, 0, none⟩), .agg (askC a0), .slice (some ⟨bb, 0, none⟩) 1 cb, .int .i64 0, .pointer (some ⟨bb, 0, none⟩), .agg (askC b0)] [[8, 3, 2, 0], [8, 3, 2, 1], [8, 3, 2], [8, 3], [8, 7, 6, 4], [8, 7, 6, 5], [8, 7, 6], [8, 7]] (step_cons qP_ (step_cons qP_ (step_cons qP_ (step_cons (qN_ S0 0 ba 0 4 (askC a0)) (step_cons qP_ (step_cons qP_ (step_cons qP_ (step_cons (qN_ S0 1 bb 0 4 (askC b0)) (step_nil))))))))) ?_
 intro zw1 zh3
 have zS2 := S0.quiet zh3
 refine eqAgg_ true ((a0.source == b0.source) && ((a0.rank == b0.rank) && (((a0.age.n == b0.age.n) && ((a0.age.most == b0.age.most) && true)) && true))) (askC a0) (askC b0) ?_
 refine nil_ (then_n ?_)
 refine cond_S (!((a0.source == b0.source) && ((a0.rank == b0.rank) && (((a0.age.n == b0.age.n) && ((a0.age.most == b0.age.most) && true)) && true)))) ?_ ?_
 · intro zh4
   have zh5 := notT' zh4
   refine seq_ (reg_ ?_)
   refine pure_ (.bool false) ?_
   refine nil_ (then_n (wp_ret (blk_r (then_r (then_r (blk_r (then_r ?_)))))))
   refine ret_ rfl (res_ [.tmp 4] [.bool false] (.bool false) ⟨res_tmp, trivial⟩) ?_
   have zh6 := zh5; rw [askEq] at zh6
   exact ⟨congrArg Value.bool (by simp at zh6; simp [zh6]), zS2.ch⟩
 intro zh7
 have zh8 := notF' zh7
 have zh9 := andL zh8
 have zh10 := andR zh8
 have zh11 := eqT' zh9
 have zh12 := andL zh10
 have zh13 := andR zh10
 have zh14 := eqT' zh12
 have zh15 := andL zh13
 have zh16 := andR zh13
 have zh17 := andL zh15
 have zh18 := andR zh15
 have zh19 := eqT' zh17
 have zh20 := andL zh18
 have zh21 := andR zh18
 have zh22 := eqT' zh20
 refine wp_skip (blk_n (then_n (reg_ ?_)))
 refine pure_ (.int .i64 0) ?_
 refine pure_ (.int .i64 1) ?_
 refine pure_ (.int .i64 1) ?_
 refine nil_ (again_ (seq_ (seq_ (reg_ ?_))))
 refine pure_ (.int .i64 1) ?_
 refine move_ ?_
 refine pure_ (.int .i64 1) ?_
 refine pure_ (.bool false) ?_
 refine nil_ (then_n (cond_F ?_))
 refine wp_exit (then_e (then_e (blk_e (then_n (seq_ (reg_ ?_))))))
 refine pure_ (.bool true) ?_
 refine nil_ (then_n (wp_ret ?_))
 refine ret_ rfl (res_ [.tmp 4] [.bool true] (.bool true) ⟨res_tmp, trivial⟩) ?_
 have zh23 := zh8; rw [askEq] at zh23
 exact ⟨congrArg Value.bool (by simp at zh23; simp [zh23]), zS2.ch⟩

set_option maxRecDepth 100000 in
set_option maxHeartbeats 4000000 in
theorem same_2 (ba bb ca cb : Nat) (ta tb : List Value) (a0 b0 : Sd.Ask) (a1 b1 : Sd.Ask) (w : World) (ha : w.heap[ba]? = some (.cells (([.int .i64 a0.source, .int .i64 a0.rank, .int .i64 a0.age.n, .int .i64 a0.age.most, .int .i64 a1.source, .int .i64 a1.rank, .int .i64 a1.age.n, .int .i64 a1.age.most] : List Value) ++ ta).toArray 32 (0, 0))) (hb : w.heap[bb]? = some (.cells (([.int .i64 b0.source, .int .i64 b0.rank, .int .i64 b0.age.n, .int .i64 b0.age.most, .int .i64 b1.source, .int .i64 b1.rank, .int .i64 b1.age.n, .int .i64 b1.age.most] : List Value) ++ tb).toArray 32 (0, 0))) :
    Gives Try.prog 16 #[.slice (some ⟨ba, 0, none⟩) 2 ca, .slice (some ⟨bb, 0, none⟩) 2 cb] w fun v w1 => v = .bool (decide ([a0, a1] = [b0, b1])) ∧ Ch [] w w1 := by
 have S0 := St.given (w := w) [(ba, .cells (([.int .i64 a0.source, .int .i64 a0.rank, .int .i64 a0.age.n, .int .i64 a0.age.most, .int .i64 a1.source, .int .i64 a1.rank, .int .i64 a1.age.n, .int .i64 a1.age.most] : List Value) ++ ta).toArray 32 (0, 0)), (bb, .cells (([.int .i64 b0.source, .int .i64 b0.rank, .int .i64 b0.age.n, .int .i64 b0.age.most, .int .i64 b1.source, .int .i64 b1.rank, .int .i64 b1.age.n, .int .i64 b1.age.most] : List Value) ++ tb).toArray 32 (0, 0))] (all_cons ha (all_cons hb (all_nil)))
 refine enter_ Try.func16 rfl ?_
 refine seq_ (reg_ ?_)
 refine pure_ (.bool false) ?_
 refine nil_ (then_n (seq_ (seq_ (reg_ ?_))))
 refine move_ ?_
 refine pure_ (.int .i64 2) ?_
 refine move_ ?_
 refine pure_ (.int .i64 2) ?_
 refine pure_ (.bool false) ?_
 refine nil_ (then_n (cond_F ?_))
 refine wp_skip (then_n (seq_ (seq_ (reg_ ?_))))
 refine pure_ (.int .i64 0) ?_
 refine nil_ (then_n (wp_block (loop_ 24 (seq_ (seq_ (reg_ ?_))))))
 refine pure_ (.int .i64 0) ?_
 refine move_ ?_
 refine pure_ (.int .i64 2) ?_
 refine pure_ (.bool true) ?_
 refine nil_ (then_n (cond_T ?_))
 refine wp_skip (then_n (seq_ (wp_block (seq_ ?_))))
 refine quietL_ 8 [.slice (some ⟨ba, 0, none⟩) 2 ca, .int .i64 0, .pointer (some ⟨ba, 0, none⟩), .agg (askC a0), .slice (some ⟨bb, 0, none⟩) 2 cb, .int .i64 0, .pointer (some ⟨bb, 0, none⟩), .agg (askC b0)] [[8, 3, 2, 0], [8, 3, 2, 1], [8, 3, 2], [8, 3], [8, 7, 6, 4], [8, 7, 6, 5], [8, 7, 6], [8, 7]] (step_cons qP_ (step_cons qP_ (step_cons qP_ (step_cons (qN_ S0 0 ba 0 4 (askC a0)) (step_cons qP_ (step_cons qP_ (step_cons qP_ (step_cons (qN_ S0 1 bb 0 4 (askC b0)) (step_nil))))))))) ?_
 intro zw1 zh3
 have zS2 := S0.quiet zh3
 refine eqAgg_ true ((a0.source == b0.source) && ((a0.rank == b0.rank) && (((a0.age.n == b0.age.n) && ((a0.age.most == b0.age.most) && true)) && true))) (askC a0) (askC b0) ?_
 refine nil_ (then_n ?_)
 refine cond_S (!((a0.source == b0.source) && ((a0.rank == b0.rank) && (((a0.age.n == b0.age.n) && ((a0.age.most == b0.age.most) && true)) && true)))) ?_ ?_
 · intro zh4
   have zh5 := notT' zh4
   refine seq_ (reg_ ?_)
   refine pure_ (.bool false) ?_
   refine nil_ (then_n (wp_ret (blk_r (then_r (then_r (blk_r (then_r ?_)))))))
   refine ret_ rfl (res_ [.tmp 4] [.bool false] (.bool false) ⟨res_tmp, trivial⟩) ?_
   have zh6 := zh5; rw [askEq] at zh6
   exact ⟨congrArg Value.bool (by simp at zh6; simp [zh6]), zS2.ch⟩
 intro zh7
 have zh8 := notF' zh7
 have zh9 := andL zh8
 have zh10 := andR zh8
 have zh11 := eqT' zh9
 have zh12 := andL zh10
 have zh13 := andR zh10
 have zh14 := eqT' zh12
 have zh15 := andL zh13
 have zh16 := andR zh13
 have zh17 := andL zh15
 have zh18 := andR zh15
 have zh19 := eqT' zh17
 have zh20 := andL zh18
 have zh21 := andR zh18
 have zh22 := eqT' zh20
 refine wp_skip (blk_n (then_n (reg_ ?_)))
 refine pure_ (.int .i64 0) ?_
 refine pure_ (.int .i64 1) ?_
 refine pure_ (.int .i64 1) ?_
 refine nil_ (again_ (seq_ (seq_ (reg_ ?_))))
 refine pure_ (.int .i64 1) ?_
 refine move_ ?_
 refine pure_ (.int .i64 2) ?_
 refine pure_ (.bool true) ?_
 refine nil_ (then_n (cond_T ?_))
 refine wp_skip (then_n (seq_ (wp_block (seq_ ?_))))
 refine quietL_ 8 [.slice (some ⟨ba, 0, none⟩) 2 ca, .int .i64 1, .pointer (some ⟨ba, 4, none⟩), .agg (askC a1), .slice (some ⟨bb, 0, none⟩) 2 cb, .int .i64 1, .pointer (some ⟨bb, 4, none⟩), .agg (askC b1)] [[8, 3, 2, 0], [8, 3, 2, 1], [8, 3, 2], [8, 3], [8, 7, 6, 4], [8, 7, 6, 5], [8, 7, 6], [8, 7]] (step_cons qP_ (step_cons qP_ (step_cons qP_ (step_cons (qN_ zS2 0 ba 4 4 (askC a1)) (step_cons qP_ (step_cons qP_ (step_cons qP_ (step_cons (qN_ zS2 1 bb 4 4 (askC b1)) (step_nil))))))))) ?_
 intro zw23 zh25
 have zS24 := zS2.quiet zh25
 refine eqAgg_ true ((a1.source == b1.source) && ((a1.rank == b1.rank) && (((a1.age.n == b1.age.n) && ((a1.age.most == b1.age.most) && true)) && true))) (askC a1) (askC b1) ?_
 refine nil_ (then_n ?_)
 refine cond_S (!((a1.source == b1.source) && ((a1.rank == b1.rank) && (((a1.age.n == b1.age.n) && ((a1.age.most == b1.age.most) && true)) && true)))) ?_ ?_
 · intro zh26
   have zh27 := notT' zh26
   refine seq_ (reg_ ?_)
   refine pure_ (.bool false) ?_
   refine nil_ (then_n (wp_ret (blk_r (then_r (then_r (blk_r (then_r ?_)))))))
   refine ret_ rfl (res_ [.tmp 4] [.bool false] (.bool false) ⟨res_tmp, trivial⟩) ?_
   have zh28 := zh8; rw [askEq] at zh28
   have zh29 := zh27; rw [askEq] at zh29
   exact ⟨congrArg Value.bool (by simp at zh28 zh29; simp [zh28, zh29]), zS24.ch⟩
 intro zh30
 have zh31 := notF' zh30
 have zh32 := andL zh31
 have zh33 := andR zh31
 have zh34 := eqT' zh32
 have zh35 := andL zh33
 have zh36 := andR zh33
 have zh37 := eqT' zh35
 have zh38 := andL zh36
 have zh39 := andR zh36
 have zh40 := andL zh38
 have zh41 := andR zh38
 have zh42 := eqT' zh40
 have zh43 := andL zh41
 have zh44 := andR zh41
 have zh45 := eqT' zh43
 refine wp_skip (blk_n (then_n (reg_ ?_)))
 refine pure_ (.int .i64 1) ?_
 refine pure_ (.int .i64 2) ?_
 refine pure_ (.int .i64 2) ?_
 refine nil_ (again_ (seq_ (seq_ (reg_ ?_))))
 refine pure_ (.int .i64 2) ?_
 refine move_ ?_
 refine pure_ (.int .i64 2) ?_
 refine pure_ (.bool false) ?_
 refine nil_ (then_n (cond_F ?_))
 refine wp_exit (then_e (then_e (blk_e (then_n (seq_ (reg_ ?_))))))
 refine pure_ (.bool true) ?_
 refine nil_ (then_n (wp_ret ?_))
 refine ret_ rfl (res_ [.tmp 4] [.bool true] (.bool true) ⟨res_tmp, trivial⟩) ?_
 have zh46 := zh8; rw [askEq] at zh46
 have zh47 := zh31; rw [askEq] at zh47
 exact ⟨congrArg Value.bool (by simp at zh46 zh47; simp [zh46, zh47]), zS24.ch⟩

set_option maxRecDepth 100000 in
set_option maxHeartbeats 4000000 in
theorem same_3 (ba bb ca cb : Nat) (ta tb : List Value) (a0 b0 : Sd.Ask) (a1 b1 : Sd.Ask) (a2 b2 : Sd.Ask) (w : World) (ha : w.heap[ba]? = some (.cells (([.int .i64 a0.source, .int .i64 a0.rank, .int .i64 a0.age.n, .int .i64 a0.age.most, .int .i64 a1.source, .int .i64 a1.rank, .int .i64 a1.age.n, .int .i64 a1.age.most, .int .i64 a2.source, .int .i64 a2.rank, .int .i64 a2.age.n, .int .i64 a2.age.most] : List Value) ++ ta).toArray 32 (0, 0))) (hb : w.heap[bb]? = some (.cells (([.int .i64 b0.source, .int .i64 b0.rank, .int .i64 b0.age.n, .int .i64 b0.age.most, .int .i64 b1.source, .int .i64 b1.rank, .int .i64 b1.age.n, .int .i64 b1.age.most, .int .i64 b2.source, .int .i64 b2.rank, .int .i64 b2.age.n, .int .i64 b2.age.most] : List Value) ++ tb).toArray 32 (0, 0))) :
    Gives Try.prog 16 #[.slice (some ⟨ba, 0, none⟩) 3 ca, .slice (some ⟨bb, 0, none⟩) 3 cb] w fun v w1 => v = .bool (decide ([a0, a1, a2] = [b0, b1, b2])) ∧ Ch [] w w1 := by
 have S0 := St.given (w := w) [(ba, .cells (([.int .i64 a0.source, .int .i64 a0.rank, .int .i64 a0.age.n, .int .i64 a0.age.most, .int .i64 a1.source, .int .i64 a1.rank, .int .i64 a1.age.n, .int .i64 a1.age.most, .int .i64 a2.source, .int .i64 a2.rank, .int .i64 a2.age.n, .int .i64 a2.age.most] : List Value) ++ ta).toArray 32 (0, 0)), (bb, .cells (([.int .i64 b0.source, .int .i64 b0.rank, .int .i64 b0.age.n, .int .i64 b0.age.most, .int .i64 b1.source, .int .i64 b1.rank, .int .i64 b1.age.n, .int .i64 b1.age.most, .int .i64 b2.source, .int .i64 b2.rank, .int .i64 b2.age.n, .int .i64 b2.age.most] : List Value) ++ tb).toArray 32 (0, 0))] (all_cons ha (all_cons hb (all_nil)))
 refine enter_ Try.func16 rfl ?_
 refine seq_ (reg_ ?_)
 refine pure_ (.bool false) ?_
 refine nil_ (then_n (seq_ (seq_ (reg_ ?_))))
 refine move_ ?_
 refine pure_ (.int .i64 3) ?_
 refine move_ ?_
 refine pure_ (.int .i64 3) ?_
 refine pure_ (.bool false) ?_
 refine nil_ (then_n (cond_F ?_))
 refine wp_skip (then_n (seq_ (seq_ (reg_ ?_))))
 refine pure_ (.int .i64 0) ?_
 refine nil_ (then_n (wp_block (loop_ 24 (seq_ (seq_ (reg_ ?_))))))
 refine pure_ (.int .i64 0) ?_
 refine move_ ?_
 refine pure_ (.int .i64 3) ?_
 refine pure_ (.bool true) ?_
 refine nil_ (then_n (cond_T ?_))
 refine wp_skip (then_n (seq_ (wp_block (seq_ ?_))))
 refine quietL_ 8 [.slice (some ⟨ba, 0, none⟩) 3 ca, .int .i64 0, .pointer (some ⟨ba, 0, none⟩), .agg (askC a0), .slice (some ⟨bb, 0, none⟩) 3 cb, .int .i64 0, .pointer (some ⟨bb, 0, none⟩), .agg (askC b0)] [[8, 3, 2, 0], [8, 3, 2, 1], [8, 3, 2], [8, 3], [8, 7, 6, 4], [8, 7, 6, 5], [8, 7, 6], [8, 7]] (step_cons qP_ (step_cons qP_ (step_cons qP_ (step_cons (qN_ S0 0 ba 0 4 (askC a0)) (step_cons qP_ (step_cons qP_ (step_cons qP_ (step_cons (qN_ S0 1 bb 0 4 (askC b0)) (step_nil))))))))) ?_
 intro zw1 zh3
 have zS2 := S0.quiet zh3
 refine eqAgg_ true ((a0.source == b0.source) && ((a0.rank == b0.rank) && (((a0.age.n == b0.age.n) && ((a0.age.most == b0.age.most) && true)) && true))) (askC a0) (askC b0) ?_
 refine nil_ (then_n ?_)
 refine cond_S (!((a0.source == b0.source) && ((a0.rank == b0.rank) && (((a0.age.n == b0.age.n) && ((a0.age.most == b0.age.most) && true)) && true)))) ?_ ?_
 · intro zh4
   have zh5 := notT' zh4
   refine seq_ (reg_ ?_)
   refine pure_ (.bool false) ?_
   refine nil_ (then_n (wp_ret (blk_r (then_r (then_r (blk_r (then_r ?_)))))))
   refine ret_ rfl (res_ [.tmp 4] [.bool false] (.bool false) ⟨res_tmp, trivial⟩) ?_
   have zh6 := zh5; rw [askEq] at zh6
   exact ⟨congrArg Value.bool (by simp at zh6; simp [zh6]), zS2.ch⟩
 intro zh7
 have zh8 := notF' zh7
 have zh9 := andL zh8
 have zh10 := andR zh8
 have zh11 := eqT' zh9
 have zh12 := andL zh10
 have zh13 := andR zh10
 have zh14 := eqT' zh12
 have zh15 := andL zh13
 have zh16 := andR zh13
 have zh17 := andL zh15
 have zh18 := andR zh15
 have zh19 := eqT' zh17
 have zh20 := andL zh18
 have zh21 := andR zh18
 have zh22 := eqT' zh20
 refine wp_skip (blk_n (then_n (reg_ ?_)))
 refine pure_ (.int .i64 0) ?_
 refine pure_ (.int .i64 1) ?_
 refine pure_ (.int .i64 1) ?_
 refine nil_ (again_ (seq_ (seq_ (reg_ ?_))))
 refine pure_ (.int .i64 1) ?_
 refine move_ ?_
 refine pure_ (.int .i64 3) ?_
 refine pure_ (.bool true) ?_
 refine nil_ (then_n (cond_T ?_))
 refine wp_skip (then_n (seq_ (wp_block (seq_ ?_))))
 refine quietL_ 8 [.slice (some ⟨ba, 0, none⟩) 3 ca, .int .i64 1, .pointer (some ⟨ba, 4, none⟩), .agg (askC a1), .slice (some ⟨bb, 0, none⟩) 3 cb, .int .i64 1, .pointer (some ⟨bb, 4, none⟩), .agg (askC b1)] [[8, 3, 2, 0], [8, 3, 2, 1], [8, 3, 2], [8, 3], [8, 7, 6, 4], [8, 7, 6, 5], [8, 7, 6], [8, 7]] (step_cons qP_ (step_cons qP_ (step_cons qP_ (step_cons (qN_ zS2 0 ba 4 4 (askC a1)) (step_cons qP_ (step_cons qP_ (step_cons qP_ (step_cons (qN_ zS2 1 bb 4 4 (askC b1)) (step_nil))))))))) ?_
 intro zw23 zh25
 have zS24 := zS2.quiet zh25
 refine eqAgg_ true ((a1.source == b1.source) && ((a1.rank == b1.rank) && (((a1.age.n == b1.age.n) && ((a1.age.most == b1.age.most) && true)) && true))) (askC a1) (askC b1) ?_
 refine nil_ (then_n ?_)
 refine cond_S (!((a1.source == b1.source) && ((a1.rank == b1.rank) && (((a1.age.n == b1.age.n) && ((a1.age.most == b1.age.most) && true)) && true)))) ?_ ?_
 · intro zh26
   have zh27 := notT' zh26
   refine seq_ (reg_ ?_)
   refine pure_ (.bool false) ?_
   refine nil_ (then_n (wp_ret (blk_r (then_r (then_r (blk_r (then_r ?_)))))))
   refine ret_ rfl (res_ [.tmp 4] [.bool false] (.bool false) ⟨res_tmp, trivial⟩) ?_
   have zh28 := zh8; rw [askEq] at zh28
   have zh29 := zh27; rw [askEq] at zh29
   exact ⟨congrArg Value.bool (by simp at zh28 zh29; simp [zh28, zh29]), zS24.ch⟩
 intro zh30
 have zh31 := notF' zh30
 have zh32 := andL zh31
 have zh33 := andR zh31
 have zh34 := eqT' zh32
 have zh35 := andL zh33
 have zh36 := andR zh33
 have zh37 := eqT' zh35
 have zh38 := andL zh36
 have zh39 := andR zh36
 have zh40 := andL zh38
 have zh41 := andR zh38
 have zh42 := eqT' zh40
 have zh43 := andL zh41
 have zh44 := andR zh41
 have zh45 := eqT' zh43
 refine wp_skip (blk_n (then_n (reg_ ?_)))
 refine pure_ (.int .i64 1) ?_
 refine pure_ (.int .i64 2) ?_
 refine pure_ (.int .i64 2) ?_
 refine nil_ (again_ (seq_ (seq_ (reg_ ?_))))
 refine pure_ (.int .i64 2) ?_
 refine move_ ?_
 refine pure_ (.int .i64 3) ?_
 refine pure_ (.bool true) ?_
 refine nil_ (then_n (cond_T ?_))
 refine wp_skip (then_n (seq_ (wp_block (seq_ ?_))))
 refine quietL_ 8 [.slice (some ⟨ba, 0, none⟩) 3 ca, .int .i64 2, .pointer (some ⟨ba, 8, none⟩), .agg (askC a2), .slice (some ⟨bb, 0, none⟩) 3 cb, .int .i64 2, .pointer (some ⟨bb, 8, none⟩), .agg (askC b2)] [[8, 3, 2, 0], [8, 3, 2, 1], [8, 3, 2], [8, 3], [8, 7, 6, 4], [8, 7, 6, 5], [8, 7, 6], [8, 7]] (step_cons qP_ (step_cons qP_ (step_cons qP_ (step_cons (qN_ zS24 0 ba 8 4 (askC a2)) (step_cons qP_ (step_cons qP_ (step_cons qP_ (step_cons (qN_ zS24 1 bb 8 4 (askC b2)) (step_nil))))))))) ?_
 intro zw46 zh48
 have zS47 := zS24.quiet zh48
 refine eqAgg_ true ((a2.source == b2.source) && ((a2.rank == b2.rank) && (((a2.age.n == b2.age.n) && ((a2.age.most == b2.age.most) && true)) && true))) (askC a2) (askC b2) ?_
 refine nil_ (then_n ?_)
 refine cond_S (!((a2.source == b2.source) && ((a2.rank == b2.rank) && (((a2.age.n == b2.age.n) && ((a2.age.most == b2.age.most) && true)) && true)))) ?_ ?_
 · intro zh49
   have zh50 := notT' zh49
   refine seq_ (reg_ ?_)
   refine pure_ (.bool false) ?_
   refine nil_ (then_n (wp_ret (blk_r (then_r (then_r (blk_r (then_r ?_)))))))
   refine ret_ rfl (res_ [.tmp 4] [.bool false] (.bool false) ⟨res_tmp, trivial⟩) ?_
   have zh51 := zh8; rw [askEq] at zh51
   have zh52 := zh31; rw [askEq] at zh52
   have zh53 := zh50; rw [askEq] at zh53
   exact ⟨congrArg Value.bool (by simp at zh51 zh52 zh53; simp [zh51, zh52, zh53]), zS47.ch⟩
 intro zh54
 have zh55 := notF' zh54
 have zh56 := andL zh55
 have zh57 := andR zh55
 have zh58 := eqT' zh56
 have zh59 := andL zh57
 have zh60 := andR zh57
 have zh61 := eqT' zh59
 have zh62 := andL zh60
 have zh63 := andR zh60
 have zh64 := andL zh62
 have zh65 := andR zh62
 have zh66 := eqT' zh64
 have zh67 := andL zh65
 have zh68 := andR zh65
 have zh69 := eqT' zh67
 refine wp_skip (blk_n (then_n (reg_ ?_)))
 refine pure_ (.int .i64 2) ?_
 refine pure_ (.int .i64 3) ?_
 refine pure_ (.int .i64 3) ?_
 refine nil_ (again_ (seq_ (seq_ (reg_ ?_))))
 refine pure_ (.int .i64 3) ?_
 refine move_ ?_
 refine pure_ (.int .i64 3) ?_
 refine pure_ (.bool false) ?_
 refine nil_ (then_n (cond_F ?_))
 refine wp_exit (then_e (then_e (blk_e (then_n (seq_ (reg_ ?_))))))
 refine pure_ (.bool true) ?_
 refine nil_ (then_n (wp_ret ?_))
 refine ret_ rfl (res_ [.tmp 4] [.bool true] (.bool true) ⟨res_tmp, trivial⟩) ?_
 have zh70 := zh8; rw [askEq] at zh70
 have zh71 := zh31; rw [askEq] at zh71
 have zh72 := zh55; rw [askEq] at zh72
 exact ⟨congrArg Value.bool (by simp at zh70 zh71 zh72; simp [zh70, zh71, zh72]), zS47.ch⟩

theorem rowv_at {z T olds x n c bl} (h : rowv z T olds x n c bl) (hn : 0 < n) : ∃ b tail, x = some ⟨b, 0, none⟩ ∧ bl = [⟨b, true, .cells (olds ++ tail).toArray T (0, 0)⟩] := by
  rcases h.2.2 with ⟨_, h0, _, _⟩ | ⟨b, tail, h1, h2, _⟩
  · omega
  · exact ⟨b, tail, h1, h2⟩
theorem row_open {T L a l x n c bl} (h : rowv 4 T (asksV L) x n c bl) (e : L = a :: l) : ∃ b tail, x = some ⟨b, 0, none⟩ ∧ bl = [⟨b, true, .cells (([.int .i64 a.source, .int .i64 a.rank, .int .i64 a.age.n, .int .i64 a.age.most] : List Value) ++ tail).toArray T (0, 0)⟩] := by
  subst e
  have hn : 0 < n := by
    have := h.1
    simp [asksV, askC] at this; omega
  obtain ⟨b, tail, h1, h2⟩ := rowv_at h hn
  exact ⟨b, asksV l ++ tail, h1, by rw [h2]; simp [asksV, askC]⟩
theorem same_ (A B : List Sd.Ask) {xa xb : Option Addr} {ca cb : Nat} {ra rb : List Blk} (hA : rowv 4 32 (asksV A) xa A.length ca ra) (hB : rowv 4 32 (asksV B) xb B.length cb rb) (h3 : A.length ≤ 3) {ms : List Nat} {w0 w : World} {bs : List Blk} (S0 : St ms w0 (ra ++ (rb ++ bs)) w) :
    Gives Try.prog 16 #[.slice xa A.length ca, .slice xb B.length cb] w fun v w1 => v = .bool (decide (A = B)) ∧ St ms w0 (ra ++ (rb ++ bs)) w1 := by
  by_cases hl : A.length = B.length
  · match A, B, hl, h3, hA, hB with
    | [], [], _, _, hA, hB => exact (same_0 xa xb ca cb w).mono fun v w1 h => ⟨h.1, S0.quiet h.2⟩
    | [a0], [b0], _, _, hA, hB =>
      obtain ⟨ba, ta, rfl, rfl⟩ := rowv_at hA (by simp); obtain ⟨bb, tb, rfl, rfl⟩ := rowv_at hB (by simp)
      exact (same_1 ba bb ca cb ta tb a0 b0 w (S0.at_ 0 _ rfl) (S0.at_ 1 _ rfl)).mono fun v w1 h => ⟨h.1, S0.quiet h.2⟩
    | [a0, a1], [b0, b1], _, _, hA, hB =>
      obtain ⟨ba, ta, rfl, rfl⟩ := rowv_at hA (by simp); obtain ⟨bb, tb, rfl, rfl⟩ := rowv_at hB (by simp)
      exact (same_2 ba bb ca cb ta tb a0 b0 a1 b1 w (S0.at_ 0 _ rfl) (S0.at_ 1 _ rfl)).mono fun v w1 h => ⟨h.1, S0.quiet h.2⟩
    | [a0, a1, a2], [b0, b1, b2], _, _, hA, hB =>
      obtain ⟨ba, ta, rfl, rfl⟩ := rowv_at hA (by simp); obtain ⟨bb, tb, rfl, rfl⟩ := rowv_at hB (by simp)
      exact (same_3 ba bb ca cb ta tb a0 b0 a1 b1 a2 b2 w (S0.at_ 0 _ rfl) (S0.at_ 1 _ rfl)).mono fun v w1 h => ⟨h.1, S0.quiet h.2⟩
    | _ :: _ :: _ :: _ :: _, _, _, h, _, _ => exact absurd h (by simp)
  · refine (same_ne xa xb A.length ca B.length cb hl w).mono fun v w1 h => ⟨h.1.trans ?_, S0.quiet h.2⟩
    have : ¬ A = B := fun e => hl (by rw [e])
    simp [this]
/-- what is told of a list, without the list -/
theorem q_listQ {bq : Nat} {most : Int} {L : List Sd.Ask} {bl : List Blk} (hQ : QS bq most L bl) {ms : List Nat} {w0 w : World} {bs : List Blk} (S0 : St ms w0 (bl ++ bs) w) :
    Gives Try.prog 12 #[.pointer (some ⟨bq, 0, none⟩)] w fun v w1 => (∃ k c, v = .slice (optA k) L.length c) ∧ Ch [] w w1 := by
  have S1 : St (bl.map Blk.id) w (bl ++ []) w := St.mk' (Ch.refl _ _) (fun x hx => S0.at' (by simp at hx; simp [hx])) (fun x hx _ => .inl (List.mem_map_of_mem (by simpa using hx))) (by
    have := S0.pw
    rw [List.pairwise_append] at this
    simpa using this.1)
  refine (q_list hQ S1).mono fun v w1 ⟨x, c, rows, h1, h2, h3⟩ => ⟨?_, ⟨h3.ch.os, h3.ch.tape, h3.ch.output, h3.ch.size, fun k hk _ => ?_⟩⟩
  · rcases h2.2.2 with ⟨rfl, _, _, _⟩ | ⟨b, tail, rfl, _⟩
    · exact ⟨0, c, h1⟩
    · exact ⟨b + 1, c, h1⟩
  · by_cases hm : k ∈ bl.map Blk.id
    · obtain ⟨y, hy, rfl⟩ := List.mem_map.1 hm
      rw [h3.at' (x := y) (by simp [hy]), S0.at' (x := y) (by simp [hy])]
    · exact h3.ch.block k hk hm

end Go.Proofs.Ytmfhgekknjghoaa
