/- Package queue, up to three who wait: find, Drop. -/
import Derived.Test.YtmfhgekknjghoaaC0
import Derived.Test.YtmfhgekknjghoaaSAE
namespace Go.Proofs.Ytmfhgekknjghoaa
open Go Go.RowKit Go.BigFrame Sx
set_option linter.unusedVariables false
set_option linter.unusedSimpArgs false

structure One where
  a : Sd.Ask
  came : Int
def HeapOk : List One → Prop
  | [] => True
  | [_] => True
  | [x, y] => x.a.rank < y.a.rank ∧ ¬ x.a.source = y.a.source
  | [x, y, z] => (x.a.rank < y.a.rank ∧ x.a.rank < z.a.rank ∧ ¬ y.a.rank = z.a.rank) ∧ ¬ x.a.source = y.a.source ∧ ¬ x.a.source = z.a.source ∧ ¬ y.a.source = z.a.source
  | _ => False
def absL : List One → List Sd.Ask
  | [] => []
  | [x] => [x.a]
  | [x, y] => [x.a, y.a]
  | [x, y, z] => if y.a.rank < z.a.rank then [x.a, y.a, z.a] else [x.a, z.a, y.a]
  | _ => []
def oneC (t : One) : Array Value := #[.int .i64 t.a.source, .int .i64 t.a.rank, .int .i64 t.a.age.n, .int .i64 t.a.age.most, .int .u64 t.came]
def onesV : List One → List Value
  | [] => []
  | e :: es => (oneC e).toList ++ onesV es

set_option maxRecDepth 100000 in
set_option maxHeartbeats 4000000 in
theorem find_0 (bq bl c : Nat) (most came s : Int) (tl : List Value)  (w : World) (hq : w.heap[bq]? = some (.cells #[.slice (some ⟨bl, 0, none⟩) 0 c, .int .i64 most, .int .u64 came] 71 (0, 0))) (hl : w.heap[bl]? = some (.cells (([] : List Value) ++ tl).toArray 76 (0, 0))) :
    Gives Try.prog 24 #[.pointer (some ⟨bq, 0, none⟩), .int .i64 s] w fun v w1 => v = .int .i64 (-1) ∧ Ch [] w w1 := by
 have S0 := St.given (w := w) [(bq, .cells #[.slice (some ⟨bl, 0, none⟩) 0 c, .int .i64 most, .int .u64 came] 71 (0, 0)), (bl, .cells (([] : List Value) ++ tl).toArray 76 (0, 0))] (all_cons hq (all_cons hl (all_nil)))
 refine enter_ Try.func24 rfl ?_
 refine seq_ (reg_ ?_)
 refine new_ S0 (fun b => .pointer (some ⟨b, 0, none⟩)) (.cells #[.int .i64 s] 3) ?_
 intro zb1 zw2 zS3
 refine pure_ (.int .i64 0) ?_
 refine nil_ (then_n (seq_ (reg_ ?_)))
 refine move_ ?_
 refine pure_ (.pointer (some ⟨bq, 0, none⟩)) ?_
 refine pure_ (.pointer (some ⟨bq, 0, none⟩)) ?_
 refine load1_ zS3 1 (.slice (some ⟨bl, 0, none⟩) 0 c) bq 0 ?_
 refine pure_ (.func (.func 40) #[] #[.pointer (some ⟨zb1, 0, none⟩)]) ?_
 refine call_ 39 #[.slice (some ⟨bl, 0, none⟩) 0 c, .func (.func 40) #[] #[.pointer (some ⟨zb1, 0, none⟩)]] ?_
 refine enter_ Try.func39 rfl ?_
 refine seq_ (reg_ ?_)
 refine pure_ (.int .i64 0) ?_
 refine nil_ (then_n (seq_ (seq_ (reg_ ?_))))
 refine move_ ?_
 refine pure_ (.int .i64 0) ?_
 refine pure_ (.int .i64 0) ?_
 refine nil_ (then_n (wp_block (loop_ 24 (seq_ (reg_ ?_)))))
 refine pure_ (.bool false) ?_
 refine nil_ (then_n (seq_ (cond_F ?_)))
 refine wp_exit (then_e (then_e (blk_e (then_n (seq_ (reg_ ?_))))))
 refine pure_ (.int .i64 (-1)) ?_
 refine nil_ (then_n (wp_ret ?_))
 refine ret_ rfl (res_ [.tmp 4] [.int .i64 (-1)] (.int .i64 (-1)) ⟨res_tmp, trivial⟩) ?_
 refine pure_ (.int .i64 (-1)) ?_
 refine nil_ (then_n (wp_ret ?_))
 refine ret_ rfl (res_ [.tmp 4] [.int .i64 (-1)] (.int .i64 (-1)) ⟨res_tmp, trivial⟩) ?_
 exact ⟨by simp [], zS3.ch⟩

set_option maxRecDepth 100000 in
set_option maxHeartbeats 4000000 in
theorem find_1 (bq bl c : Nat) (most came s : Int) (tl : List Value) (e0 : One) (w : World) (hq : w.heap[bq]? = some (.cells #[.slice (some ⟨bl, 0, none⟩) 1 c, .int .i64 most, .int .u64 came] 71 (0, 0))) (hl : w.heap[bl]? = some (.cells (([.int .i64 e0.a.source, .int .i64 e0.a.rank, .int .i64 e0.a.age.n, .int .i64 e0.a.age.most, .int .u64 e0.came] : List Value) ++ tl).toArray 76 (0, 0))) :
    Gives Try.prog 24 #[.pointer (some ⟨bq, 0, none⟩), .int .i64 s] w fun v w1 => v = .int .i64 (if e0.a.source = s then 0 else -1) ∧ Ch [] w w1 := by
 have S0 := St.given (w := w) [(bq, .cells #[.slice (some ⟨bl, 0, none⟩) 1 c, .int .i64 most, .int .u64 came] 71 (0, 0)), (bl, .cells (([.int .i64 e0.a.source, .int .i64 e0.a.rank, .int .i64 e0.a.age.n, .int .i64 e0.a.age.most, .int .u64 e0.came] : List Value) ++ tl).toArray 76 (0, 0))] (all_cons hq (all_cons hl (all_nil)))
 refine enter_ Try.func24 rfl ?_
 refine seq_ (reg_ ?_)
 refine new_ S0 (fun b => .pointer (some ⟨b, 0, none⟩)) (.cells #[.int .i64 s] 3) ?_
 intro zb1 zw2 zS3
 refine pure_ (.int .i64 0) ?_
 refine nil_ (then_n (seq_ (reg_ ?_)))
 refine move_ ?_
 refine pure_ (.pointer (some ⟨bq, 0, none⟩)) ?_
 refine pure_ (.pointer (some ⟨bq, 0, none⟩)) ?_
 refine load1_ zS3 1 (.slice (some ⟨bl, 0, none⟩) 1 c) bq 0 ?_
 refine pure_ (.func (.func 40) #[] #[.pointer (some ⟨zb1, 0, none⟩)]) ?_
 refine call_ 39 #[.slice (some ⟨bl, 0, none⟩) 1 c, .func (.func 40) #[] #[.pointer (some ⟨zb1, 0, none⟩)]] ?_
 refine enter_ Try.func39 rfl ?_
 refine seq_ (reg_ ?_)
 refine pure_ (.int .i64 0) ?_
 refine nil_ (then_n (seq_ (seq_ (reg_ ?_))))
 refine move_ ?_
 refine pure_ (.int .i64 1) ?_
 refine pure_ (.int .i64 0) ?_
 refine nil_ (then_n (wp_block (loop_ 24 (seq_ (reg_ ?_)))))
 refine pure_ (.bool true) ?_
 refine nil_ (then_n (seq_ (cond_T ?_)))
 refine wp_skip (then_n (seq_ (wp_block (seq_ (reg_ ?_)))))
 refine pure_ (.int .i64 0) ?_
 refine pure_ (.int .i64 0) ?_
 refine nil_ (then_n (seq_ (reg_ ?_)))
 refine move_ ?_
 refine move_ ?_
 refine pure_ (.int .i64 0) ?_
 refine pure_ (.pointer (some ⟨bl, 0, none⟩)) ?_
 refine loadN_ zS3 2 5 #[.int .i64 e0.a.source, .int .i64 e0.a.rank, .int .i64 e0.a.age.n, .int .i64 e0.a.age.most, .int .u64 e0.came] bl 0 ?_
 refine call_ 40 #[.agg #[.int .i64 e0.a.source, .int .i64 e0.a.rank, .int .i64 e0.a.age.n, .int .i64 e0.a.age.most, .int .u64 e0.came], .pointer (some ⟨zb1, 0, none⟩)] ?_
 refine enter_ Try.func40 rfl ?_
 refine seq_ (reg_ ?_)
 refine new_ zS3 (fun b => .pointer (some ⟨b, 0, none⟩)) (.cells #[.int .i64 e0.a.source, .int .i64 e0.a.rank, .int .i64 e0.a.age.n, .int .i64 e0.a.age.most, .int .u64 e0.came] 76) ?_
 intro zb4 zw5 zS6
 refine pure_ (.bool false) ?_
 refine nil_ (then_n (seq_ (reg_ ?_)))
 refine pure_ (.pointer (some ⟨zb4, 0, none⟩)) ?_
 refine pure_ (.pointer (some ⟨zb4, 0, none⟩)) ?_
 refine load1_ zS6 0 (.int .i64 e0.a.source) zb4 0 ?_
 refine load1_ zS6 1 (.int .i64 s) zb1 0 ?_
 refine pure_ (.bool (e0.a.source == s)) ?_
 refine pure_ (.bool (e0.a.source == s)) ?_
 refine nil_ (then_n (wp_ret ?_))
 refine ret_ rfl (res_ [.tmp 3] [.bool (e0.a.source == s)] (.bool (e0.a.source == s)) ⟨res_tmp, trivial⟩) ?_
 refine nil_ (then_n ?_)
 refine cond_S (e0.a.source == s) ?_ ?_
 · intro zh7
   have zh8 := eqT' zh7
   refine seq_ (reg_ ?_)
   refine pure_ (.int .i64 0) ?_
   refine pure_ (.int .i64 0) ?_
   refine nil_ (then_n (wp_ret (blk_r (then_r (then_r (blk_r (then_r ?_)))))))
   refine ret_ rfl (res_ [.tmp 4] [.int .i64 0] (.int .i64 0) ⟨res_tmp, trivial⟩) ?_
   refine pure_ (.int .i64 0) ?_
   refine nil_ (then_n (wp_ret ?_))
   refine ret_ rfl (res_ [.tmp 4] [.int .i64 0] (.int .i64 0) ⟨res_tmp, trivial⟩) ?_
   exact ⟨by simp [zh7, zh8], zS6.ch⟩
 intro zh9
 have zh10 := eqF' zh9
 refine wp_skip (blk_n (then_n (reg_ ?_)))
 refine pure_ (.int .i64 1) ?_
 refine pure_ (.int .i64 1) ?_
 refine nil_ (again_ (seq_ (reg_ ?_)))
 refine pure_ (.bool false) ?_
 refine nil_ (then_n (seq_ (cond_F ?_)))
 refine wp_exit (then_e (then_e (blk_e (then_n (seq_ (reg_ ?_))))))
 refine pure_ (.int .i64 (-1)) ?_
 refine nil_ (then_n (wp_ret ?_))
 refine ret_ rfl (res_ [.tmp 4] [.int .i64 (-1)] (.int .i64 (-1)) ⟨res_tmp, trivial⟩) ?_
 refine pure_ (.int .i64 (-1)) ?_
 refine nil_ (then_n (wp_ret ?_))
 refine ret_ rfl (res_ [.tmp 4] [.int .i64 (-1)] (.int .i64 (-1)) ⟨res_tmp, trivial⟩) ?_
 exact ⟨by simp [zh9, zh10], zS6.ch⟩

set_option maxRecDepth 100000 in
set_option maxHeartbeats 4000000 in
theorem find_2 (bq bl c : Nat) (most came s : Int) (tl : List Value) (e0 : One) (e1 : One) (w : World) (hq : w.heap[bq]? = some (.cells #[.slice (some ⟨bl, 0, none⟩) 2 c, .int .i64 most, .int .u64 came] 71 (0, 0))) (hl : w.heap[bl]? = some (.cells (([.int .i64 e0.a.source, .int .i64 e0.a.rank, .int .i64 e0.a.age.n, .int .i64 e0.a.age.most, .int .u64 e0.came, .int .i64 e1.a.source, .int .i64 e1.a.rank, .int .i64 e1.a.age.n, .int .i64 e1.a.age.most, .int .u64 e1.came] : List Value) ++ tl).toArray 76 (0, 0))) :
    Gives Try.prog 24 #[.pointer (some ⟨bq, 0, none⟩), .int .i64 s] w fun v w1 => v = .int .i64 (if e0.a.source = s then 0 else if e1.a.source = s then 1 else -1) ∧ Ch [] w w1 := by
 have S0 := St.given (w := w) [(bq, .cells #[.slice (some ⟨bl, 0, none⟩) 2 c, .int .i64 most, .int .u64 came] 71 (0, 0)), (bl, .cells (([.int .i64 e0.a.source, .int .i64 e0.a.rank, .int .i64 e0.a.age.n, .int .i64 e0.a.age.most, .int .u64 e0.came, .int .i64 e1.a.source, .int .i64 e1.a.rank, .int .i64 e1.a.age.n, .int .i64 e1.a.age.most, .int .u64 e1.came] : List Value) ++ tl).toArray 76 (0, 0))] (all_cons hq (all_cons hl (all_nil)))
 refine enter_ Try.func24 rfl ?_
 refine seq_ (reg_ ?_)
 refine new_ S0 (fun b => .pointer (some ⟨b, 0, none⟩)) (.cells #[.int .i64 s] 3) ?_
 intro zb1 zw2 zS3
 refine pure_ (.int .i64 0) ?_
 refine nil_ (then_n (seq_ (reg_ ?_)))
 refine move_ ?_
 refine pure_ (.pointer (some ⟨bq, 0, none⟩)) ?_
 refine pure_ (.pointer (some ⟨bq, 0, none⟩)) ?_
 refine load1_ zS3 1 (.slice (some ⟨bl, 0, none⟩) 2 c) bq 0 ?_
 refine pure_ (.func (.func 40) #[] #[.pointer (some ⟨zb1, 0, none⟩)]) ?_
 refine call_ 39 #[.slice (some ⟨bl, 0, none⟩) 2 c, .func (.func 40) #[] #[.pointer (some ⟨zb1, 0, none⟩)]] ?_
 refine enter_ Try.func39 rfl ?_
 refine seq_ (reg_ ?_)
 refine pure_ (.int .i64 0) ?_
 refine nil_ (then_n (seq_ (seq_ (reg_ ?_))))
 refine move_ ?_
 refine pure_ (.int .i64 2) ?_
 refine pure_ (.int .i64 0) ?_
 refine nil_ (then_n (wp_block (loop_ 24 (seq_ (reg_ ?_)))))
 refine pure_ (.bool true) ?_
 refine nil_ (then_n (seq_ (cond_T ?_)))
 refine wp_skip (then_n (seq_ (wp_block (seq_ (reg_ ?_)))))
 refine pure_ (.int .i64 0) ?_
 refine pure_ (.int .i64 0) ?_
 refine nil_ (then_n (seq_ (reg_ ?_)))
 refine move_ ?_
 refine move_ ?_
 refine pure_ (.int .i64 0) ?_
 refine pure_ (.pointer (some ⟨bl, 0, none⟩)) ?_
 refine loadN_ zS3 2 5 #[.int .i64 e0.a.source, .int .i64 e0.a.rank, .int .i64 e0.a.age.n, .int .i64 e0.a.age.most, .int .u64 e0.came] bl 0 ?_
 refine call_ 40 #[.agg #[.int .i64 e0.a.source, .int .i64 e0.a.rank, .int .i64 e0.a.age.n, .int .i64 e0.a.age.most, .int .u64 e0.came], .pointer (some ⟨zb1, 0, none⟩)] ?_
 refine enter_ Try.func40 rfl ?_
 refine seq_ (reg_ ?_)
 refine new_ zS3 (fun b => .pointer (some ⟨b, 0, none⟩)) (.cells #[.int .i64 e0.a.source, .int .i64 e0.a.rank, .int .i64 e0.a.age.n, .int .i64 e0.a.age.most, .int .u64 e0.came] 76) ?_
 intro zb4 zw5 zS6
 refine pure_ (.bool false) ?_
 refine nil_ (then_n (seq_ (reg_ ?_)))
 refine pure_ (.pointer (some ⟨zb4, 0, none⟩)) ?_
 refine pure_ (.pointer (some ⟨zb4, 0, none⟩)) ?_
 refine load1_ zS6 0 (.int .i64 e0.a.source) zb4 0 ?_
 refine load1_ zS6 1 (.int .i64 s) zb1 0 ?_
 refine pure_ (.bool (e0.a.source == s)) ?_
 refine pure_ (.bool (e0.a.source == s)) ?_
 refine nil_ (then_n (wp_ret ?_))
 refine ret_ rfl (res_ [.tmp 3] [.bool (e0.a.source == s)] (.bool (e0.a.source == s)) ⟨res_tmp, trivial⟩) ?_
 refine nil_ (then_n ?_)
 refine cond_S (e0.a.source == s) ?_ ?_
 · intro zh7
   have zh8 := eqT' zh7
   refine seq_ (reg_ ?_)
   refine pure_ (.int .i64 0) ?_
   refine pure_ (.int .i64 0) ?_
   refine nil_ (then_n (wp_ret (blk_r (then_r (then_r (blk_r (then_r ?_)))))))
   refine ret_ rfl (res_ [.tmp 4] [.int .i64 0] (.int .i64 0) ⟨res_tmp, trivial⟩) ?_
   refine pure_ (.int .i64 0) ?_
   refine nil_ (then_n (wp_ret ?_))
   refine ret_ rfl (res_ [.tmp 4] [.int .i64 0] (.int .i64 0) ⟨res_tmp, trivial⟩) ?_
   exact ⟨by simp [zh7, zh8], zS6.ch⟩
 intro zh9
 have zh10 := eqF' zh9
 refine wp_skip (blk_n (then_n (reg_ ?_)))
 refine pure_ (.int .i64 1) ?_
 refine pure_ (.int .i64 1) ?_
 refine nil_ (again_ (seq_ (reg_ ?_)))
 refine pure_ (.bool true) ?_
 refine nil_ (then_n (seq_ (cond_T ?_)))
 refine wp_skip (then_n (seq_ (wp_block (seq_ (reg_ ?_)))))
 refine pure_ (.int .i64 1) ?_
 refine pure_ (.int .i64 1) ?_
 refine nil_ (then_n (seq_ (reg_ ?_)))
 refine move_ ?_
 refine move_ ?_
 refine pure_ (.int .i64 1) ?_
 refine pure_ (.pointer (some ⟨bl, 5, none⟩)) ?_
 refine loadN_ zS6 3 5 #[.int .i64 e1.a.source, .int .i64 e1.a.rank, .int .i64 e1.a.age.n, .int .i64 e1.a.age.most, .int .u64 e1.came] bl 5 ?_
 refine call_ 40 #[.agg #[.int .i64 e1.a.source, .int .i64 e1.a.rank, .int .i64 e1.a.age.n, .int .i64 e1.a.age.most, .int .u64 e1.came], .pointer (some ⟨zb1, 0, none⟩)] ?_
 refine enter_ Try.func40 rfl ?_
 refine seq_ (reg_ ?_)
 refine new_ zS6 (fun b => .pointer (some ⟨b, 0, none⟩)) (.cells #[.int .i64 e1.a.source, .int .i64 e1.a.rank, .int .i64 e1.a.age.n, .int .i64 e1.a.age.most, .int .u64 e1.came] 76) ?_
 intro zb11 zw12 zS13
 refine pure_ (.bool false) ?_
 refine nil_ (then_n (seq_ (reg_ ?_)))
 refine pure_ (.pointer (some ⟨zb11, 0, none⟩)) ?_
 refine pure_ (.pointer (some ⟨zb11, 0, none⟩)) ?_
 refine load1_ zS13 0 (.int .i64 e1.a.source) zb11 0 ?_
 refine load1_ zS13 2 (.int .i64 s) zb1 0 ?_
 refine pure_ (.bool (e1.a.source == s)) ?_
 refine pure_ (.bool (e1.a.source == s)) ?_
 refine nil_ (then_n (wp_ret ?_))
 refine ret_ rfl (res_ [.tmp 3] [.bool (e1.a.source == s)] (.bool (e1.a.source == s)) ⟨res_tmp, trivial⟩) ?_
 refine nil_ (then_n ?_)
 refine cond_S (e1.a.source == s) ?_ ?_
 · intro zh14
   have zh15 := eqT' zh14
   refine seq_ (reg_ ?_)
   refine pure_ (.int .i64 1) ?_
   refine pure_ (.int .i64 1) ?_
   refine nil_ (then_n (wp_ret (blk_r (then_r (then_r (blk_r (then_r ?_)))))))
   refine ret_ rfl (res_ [.tmp 4] [.int .i64 1] (.int .i64 1) ⟨res_tmp, trivial⟩) ?_
   refine pure_ (.int .i64 1) ?_
   refine nil_ (then_n (wp_ret ?_))
   refine ret_ rfl (res_ [.tmp 4] [.int .i64 1] (.int .i64 1) ⟨res_tmp, trivial⟩) ?_
   exact ⟨by simp [zh9, zh14, zh10, zh15], zS13.ch⟩
 intro zh16
 have zh17 := eqF' zh16
 refine wp_skip (blk_n (then_n (reg_ ?_)))
 refine pure_ (.int .i64 2) ?_
 refine pure_ (.int .i64 2) ?_
 refine nil_ (again_ (seq_ (reg_ ?_)))
 refine pure_ (.bool false) ?_
 refine nil_ (then_n (seq_ (cond_F ?_)))
 refine wp_exit (then_e (then_e (blk_e (then_n (seq_ (reg_ ?_))))))
 refine pure_ (.int .i64 (-1)) ?_
 refine nil_ (then_n (wp_ret ?_))
 refine ret_ rfl (res_ [.tmp 4] [.int .i64 (-1)] (.int .i64 (-1)) ⟨res_tmp, trivial⟩) ?_
 refine pure_ (.int .i64 (-1)) ?_
 refine nil_ (then_n (wp_ret ?_))
 refine ret_ rfl (res_ [.tmp 4] [.int .i64 (-1)] (.int .i64 (-1)) ⟨res_tmp, trivial⟩) ?_
 exact ⟨by simp [zh9, zh16, zh10, zh17], zS13.ch⟩

set_option maxRecDepth 100000 in
set_option maxHeartbeats 4000000 in
theorem find_3 (bq bl c : Nat) (most came s : Int) (tl : List Value) (e0 : One) (e1 : One) (e2 : One) (w : World) (hq : w.heap[bq]? = some (.cells #[.slice (some ⟨bl, 0, none⟩) 3 c, .int .i64 most, .int .u64 came] 71 (0, 0))) (hl : w.heap[bl]? = some (.cells (([.int .i64 e0.a.source, .int .i64 e0.a.rank, .int .i64 e0.a.age.n, .int .i64 e0.a.age.most, .int .u64 e0.came, .int .i64 e1.a.source, .int .i64 e1.a.rank, .int .i64 e1.a.age.n, .int .i64 e1.a.age.most, .int .u64 e1.came, .int .i64 e2.a.source, .int .i64 e2.a.rank, .int .i64 e2.a.age.n, .int .i64 e2.a.age.most, .int .u64 e2.came] : List Value) ++ tl).toArray 76 (0, 0))) :
    Gives Try.prog 24 #[.pointer (some ⟨bq, 0, none⟩), .int .i64 s] w fun v w1 => v = .int .i64 (if e0.a.source = s then 0 else if e1.a.source = s then 1 else if e2.a.source = s then 2 else -1) ∧ Ch [] w w1 := by
 have S0 := St.given (w := w) [(bq, .cells #[.slice (some ⟨bl, 0, none⟩) 3 c, .int .i64 most, .int .u64 came] 71 (0, 0)), (bl, .cells (([.int .i64 e0.a.source, .int .i64 e0.a.rank, .int .i64 e0.a.age.n, .int .i64 e0.a.age.most, .int .u64 e0.came, .int .i64 e1.a.source, .int .i64 e1.a.rank, .int .i64 e1.a.age.n, .int .i64 e1.a.age.most, .int .u64 e1.came, .int .i64 e2.a.source, .int .i64 e2.a.rank, .int .i64 e2.a.age.n, .int .i64 e2.a.age.most, .int .u64 e2.came] : List Value) ++ tl).toArray 76 (0, 0))] (all_cons hq (all_cons hl (all_nil)))
 refine enter_ Try.func24 rfl ?_
 refine seq_ (reg_ ?_)
 refine new_ S0 (fun b => .pointer (some ⟨b, 0, none⟩)) (.cells #[.int .i64 s] 3) ?_
 intro zb1 zw2 zS3
 refine pure_ (.int .i64 0) ?_
 refine nil_ (then_n (seq_ (reg_ ?_)))
 refine move_ ?_
 refine pure_ (.pointer (some ⟨bq, 0, none⟩)) ?_
 refine pure_ (.pointer (some ⟨bq, 0, none⟩)) ?_
 refine load1_ zS3 1 (.slice (some ⟨bl, 0, none⟩) 3 c) bq 0 ?_
 refine pure_ (.func (.func 40) #[] #[.pointer (some ⟨zb1, 0, none⟩)]) ?_
 refine call_ 39 #[.slice (some ⟨bl, 0, none⟩) 3 c, .func (.func 40) #[] #[.pointer (some ⟨zb1, 0, none⟩)]] ?_
 refine enter_ Try.func39 rfl ?_
 refine seq_ (reg_ ?_)
 refine pure_ (.int .i64 0) ?_
 refine nil_ (then_n (seq_ (seq_ (reg_ ?_))))
 refine move_ ?_
 refine pure_ (.int .i64 3) ?_
 refine pure_ (.int .i64 0) ?_
 refine nil_ (then_n (wp_block (loop_ 24 (seq_ (reg_ ?_)))))
 refine pure_ (.bool true) ?_
 refine nil_ (then_n (seq_ (cond_T ?_)))
 refine wp_skip (then_n (seq_ (wp_block (seq_ (reg_ ?_)))))
 refine pure_ (.int .i64 0) ?_
 refine pure_ (.int .i64 0) ?_
 refine nil_ (then_n (seq_ (reg_ ?_)))
 refine move_ ?_
 refine move_ ?_
 refine pure_ (.int .i64 0) ?_
 refine pure_ (.pointer (some ⟨bl, 0, none⟩)) ?_
 refine loadN_ zS3 2 5 #[.int .i64 e0.a.source, .int .i64 e0.a.rank, .int .i64 e0.a.age.n, .int .i64 e0.a.age.most, .int .u64 e0.came] bl 0 ?_
 refine call_ 40 #[.agg #[.int .i64 e0.a.source, .int .i64 e0.a.rank, .int .i64 e0.a.age.n, .int .i64 e0.a.age.most, .int .u64 e0.came], .pointer (some ⟨zb1, 0, none⟩)] ?_
 refine enter_ Try.func40 rfl ?_
 refine seq_ (reg_ ?_)
 refine new_ zS3 (fun b => .pointer (some ⟨b, 0, none⟩)) (.cells #[.int .i64 e0.a.source, .int .i64 e0.a.rank, .int .i64 e0.a.age.n, .int .i64 e0.a.age.most, .int .u64 e0.came] 76) ?_
 intro zb4 zw5 zS6
 refine pure_ (.bool false) ?_
 refine nil_ (then_n (seq_ (reg_ ?_)))
 refine pure_ (.pointer (some ⟨zb4, 0, none⟩)) ?_
 refine pure_ (.pointer (some ⟨zb4, 0, none⟩)) ?_
 refine load1_ zS6 0 (.int .i64 e0.a.source) zb4 0 ?_
 refine load1_ zS6 1 (.int .i64 s) zb1 0 ?_
 refine pure_ (.bool (e0.a.source == s)) ?_
 refine pure_ (.bool (e0.a.source == s)) ?_
 refine nil_ (then_n (wp_ret ?_))
 refine ret_ rfl (res_ [.tmp 3] [.bool (e0.a.source == s)] (.bool (e0.a.source == s)) ⟨res_tmp, trivial⟩) ?_
 refine nil_ (then_n ?_)
 refine cond_S (e0.a.source == s) ?_ ?_
 · intro zh7
   have zh8 := eqT' zh7
   refine seq_ (reg_ ?_)
   refine pure_ (.int .i64 0) ?_
   refine pure_ (.int .i64 0) ?_
   refine nil_ (then_n (wp_ret (blk_r (then_r (then_r (blk_r (then_r ?_)))))))
   refine ret_ rfl (res_ [.tmp 4] [.int .i64 0] (.int .i64 0) ⟨res_tmp, trivial⟩) ?_
   refine pure_ (.int .i64 0) ?_
   refine nil_ (then_n (wp_ret ?_))
   refine ret_ rfl (res_ [.tmp 4] [.int .i64 0] (.int .i64 0) ⟨res_tmp, trivial⟩) ?_
   exact ⟨by simp [zh7, zh8], zS6.ch⟩
 intro zh9
 have zh10 := eqF' zh9
 refine wp_skip (blk_n (then_n (reg_ ?_)))
 refine pure_ (.int .i64 1) ?_
 refine pure_ (.int .i64 1) ?_
 refine nil_ (again_ (seq_ (reg_ ?_)))
 refine pure_ (.bool true) ?_
 refine nil_ (then_n (seq_ (cond_T ?_)))
 refine wp_skip (then_n (seq_ (wp_block (seq_ (reg_ ?_)))))
 refine pure_ (.int .i64 1) ?_
 refine pure_ (.int .i64 1) ?_
 refine nil_ (then_n (seq_ (reg_ ?_)))
 refine move_ ?_
 refine move_ ?_
 refine pure_ (.int .i64 1) ?_
 refine pure_ (.pointer (some ⟨bl, 5, none⟩)) ?_
 refine loadN_ zS6 3 5 #[.int .i64 e1.a.source, .int .i64 e1.a.rank, .int .i64 e1.a.age.n, .int .i64 e1.a.age.most, .int .u64 e1.came] bl 5 ?_
 refine call_ 40 #[.agg #[.int .i64 e1.a.source, .int .i64 e1.a.rank, .int .i64 e1.a.age.n, .int .i64 e1.a.age.most, .int .u64 e1.came], .pointer (some ⟨zb1, 0, none⟩)] ?_
 refine enter_ Try.func40 rfl ?_
 refine seq_ (reg_ ?_)
 refine new_ zS6 (fun b => .pointer (some ⟨b, 0, none⟩)) (.cells #[.int .i64 e1.a.source, .int .i64 e1.a.rank, .int .i64 e1.a.age.n, .int .i64 e1.a.age.most, .int .u64 e1.came] 76) ?_
 intro zb11 zw12 zS13
 refine pure_ (.bool false) ?_
 refine nil_ (then_n (seq_ (reg_ ?_)))
 refine pure_ (.pointer (some ⟨zb11, 0, none⟩)) ?_
 refine pure_ (.pointer (some ⟨zb11, 0, none⟩)) ?_
 refine load1_ zS13 0 (.int .i64 e1.a.source) zb11 0 ?_
 refine load1_ zS13 2 (.int .i64 s) zb1 0 ?_
 refine pure_ (.bool (e1.a.source == s)) ?_
 refine pure_ (.bool (e1.a.source == s)) ?_
 refine nil_ (then_n (wp_ret ?_))
 refine ret_ rfl (res_ [.tmp 3] [.bool (e1.a.source == s)] (.bool (e1.a.source == s)) ⟨res_tmp, trivial⟩) ?_
 refine nil_ (then_n ?_)
 refine cond_S (e1.a.source == s) ?_ ?_
 · intro zh14
   have zh15 := eqT' zh14
   refine seq_ (reg_ ?_)
   refine pure_ (.int .i64 1) ?_
   refine pure_ (.int .i64 1) ?_
   refine nil_ (then_n (wp_ret (blk_r (then_r (then_r (blk_r (then_r ?_)))))))
   refine ret_ rfl (res_ [.tmp 4] [.int .i64 1] (.int .i64 1) ⟨res_tmp, trivial⟩) ?_
   refine pure_ (.int .i64 1) ?_
   refine nil_ (then_n (wp_ret ?_))
   refine ret_ rfl (res_ [.tmp 4] [.int .i64 1] (.int .i64 1) ⟨res_tmp, trivial⟩) ?_
   exact ⟨by simp [zh9, zh14, zh10, zh15], zS13.ch⟩
 intro zh16
 have zh17 := eqF' zh16
 refine wp_skip (blk_n (then_n (reg_ ?_)))
 refine pure_ (.int .i64 2) ?_
 refine pure_ (.int .i64 2) ?_
 refine nil_ (again_ (seq_ (reg_ ?_)))
 refine pure_ (.bool true) ?_
 refine nil_ (then_n (seq_ (cond_T ?_)))
 refine wp_skip (then_n (seq_ (wp_block (seq_ (reg_ ?_)))))
 refine pure_ (.int .i64 2) ?_
 refine pure_ (.int .i64 2) ?_
 refine nil_ (then_n (seq_ (reg_ ?_)))
 refine move_ ?_
 refine move_ ?_
 refine pure_ (.int .i64 2) ?_
 refine pure_ (.pointer (some ⟨bl, 10, none⟩)) ?_
 refine loadN_ zS13 4 5 #[.int .i64 e2.a.source, .int .i64 e2.a.rank, .int .i64 e2.a.age.n, .int .i64 e2.a.age.most, .int .u64 e2.came] bl 10 ?_
 refine call_ 40 #[.agg #[.int .i64 e2.a.source, .int .i64 e2.a.rank, .int .i64 e2.a.age.n, .int .i64 e2.a.age.most, .int .u64 e2.came], .pointer (some ⟨zb1, 0, none⟩)] ?_
 refine enter_ Try.func40 rfl ?_
 refine seq_ (reg_ ?_)
 refine new_ zS13 (fun b => .pointer (some ⟨b, 0, none⟩)) (.cells #[.int .i64 e2.a.source, .int .i64 e2.a.rank, .int .i64 e2.a.age.n, .int .i64 e2.a.age.most, .int .u64 e2.came] 76) ?_
 intro zb18 zw19 zS20
 refine pure_ (.bool false) ?_
 refine nil_ (then_n (seq_ (reg_ ?_)))
 refine pure_ (.pointer (some ⟨zb18, 0, none⟩)) ?_
 refine pure_ (.pointer (some ⟨zb18, 0, none⟩)) ?_
 refine load1_ zS20 0 (.int .i64 e2.a.source) zb18 0 ?_
 refine load1_ zS20 3 (.int .i64 s) zb1 0 ?_
 refine pure_ (.bool (e2.a.source == s)) ?_
 refine pure_ (.bool (e2.a.source == s)) ?_
 refine nil_ (then_n (wp_ret ?_))
 refine ret_ rfl (res_ [.tmp 3] [.bool (e2.a.source == s)] (.bool (e2.a.source == s)) ⟨res_tmp, trivial⟩) ?_
 refine nil_ (then_n ?_)
 refine cond_S (e2.a.source == s) ?_ ?_
 · intro zh21
   have zh22 := eqT' zh21
   refine seq_ (reg_ ?_)
   refine pure_ (.int .i64 2) ?_
   refine pure_ (.int .i64 2) ?_
   refine nil_ (then_n (wp_ret (blk_r (then_r (then_r (blk_r (then_r ?_)))))))
   refine ret_ rfl (res_ [.tmp 4] [.int .i64 2] (.int .i64 2) ⟨res_tmp, trivial⟩) ?_
   refine pure_ (.int .i64 2) ?_
   refine nil_ (then_n (wp_ret ?_))
   refine ret_ rfl (res_ [.tmp 4] [.int .i64 2] (.int .i64 2) ⟨res_tmp, trivial⟩) ?_
   exact ⟨by simp [zh9, zh16, zh21, zh10, zh17, zh22], zS20.ch⟩
 intro zh23
 have zh24 := eqF' zh23
 refine wp_skip (blk_n (then_n (reg_ ?_)))
 refine pure_ (.int .i64 3) ?_
 refine pure_ (.int .i64 3) ?_
 refine nil_ (again_ (seq_ (reg_ ?_)))
 refine pure_ (.bool false) ?_
 refine nil_ (then_n (seq_ (cond_F ?_)))
 refine wp_exit (then_e (then_e (blk_e (then_n (seq_ (reg_ ?_))))))
 refine pure_ (.int .i64 (-1)) ?_
 refine nil_ (then_n (wp_ret ?_))
 refine ret_ rfl (res_ [.tmp 4] [.int .i64 (-1)] (.int .i64 (-1)) ⟨res_tmp, trivial⟩) ?_
 refine pure_ (.int .i64 (-1)) ?_
 refine nil_ (then_n (wp_ret ?_))
 refine ret_ rfl (res_ [.tmp 4] [.int .i64 (-1)] (.int .i64 (-1)) ⟨res_tmp, trivial⟩) ?_
 exact ⟨by simp [zh9, zh16, zh23, zh10, zh17, zh24], zS20.ch⟩

set_option maxRecDepth 100000 in
set_option maxHeartbeats 4000000 in
theorem drop_0z (bq : Nat) (most came s : Int)   (hH : HeapOk []) (w : World) {ms : List Nat} {w0 : World} {bs : List Blk} (S0 : St ms w0 ([⟨bq, true, .cells #[.slice none 0 0, .int .i64 most, .int .u64 came] 71 (0, 0)⟩] ++ bs) w) :
    Gives Try.prog 17 #[.pointer (some ⟨bq, 0, none⟩), .int .i64 s] w fun v w1 => ∃ es x c1 cm rows, v = .bool (Sd.Q.waits (absL []) s) ∧ HeapOk es ∧ absL es = Sd.Q.drop (absL []) s ∧ rowv 5 76 (onesV es) x es.length c1 rows ∧ St ms w0 (⟨bq, true, .cells #[.slice x es.length c1, .int .i64 most, .int .u64 cm] 71 (0, 0)⟩ :: (rows ++ bs)) w1 := by
 refine enter_ Try.func17 rfl ?_
 refine seq_ (reg_ ?_)
 refine pure_ (.bool false) ?_
 refine nil_ (then_n (seq_ (reg_ ?_)))
 refine move_ ?_
 refine pure_ (.int .i64 s) ?_
 refine call_ 24 #[.pointer (some ⟨bq, 0, none⟩), .int .i64 s] ?_
 refine enter_ Try.func24 rfl ?_
 refine seq_ (reg_ ?_)
 refine new_ S0 (fun b => .pointer (some ⟨b, 0, none⟩)) (.cells #[.int .i64 s] 3) ?_
 intro zb1 zw2 zS3
 refine pure_ (.int .i64 0) ?_
 refine nil_ (then_n (seq_ (reg_ ?_)))
 refine move_ ?_
 refine pure_ (.pointer (some ⟨bq, 0, none⟩)) ?_
 refine pure_ (.pointer (some ⟨bq, 0, none⟩)) ?_
 refine load1_ zS3 1 (.slice none 0 0) bq 0 ?_
 refine pure_ (.func (.func 40) #[] #[.pointer (some ⟨zb1, 0, none⟩)]) ?_
 refine call_ 39 #[.slice none 0 0, .func (.func 40) #[] #[.pointer (some ⟨zb1, 0, none⟩)]] ?_
 refine enter_ Try.func39 rfl ?_
 refine seq_ (reg_ ?_)
 refine pure_ (.int .i64 0) ?_
 refine nil_ (then_n (seq_ (seq_ (reg_ ?_))))
 refine pure_ (.slice none 0 0) ?_
 refine pure_ (.int .i64 0) ?_
 refine pure_ (.int .i64 0) ?_
 refine nil_ (then_n (wp_block (loop_ 24 (seq_ (reg_ ?_)))))
 refine pure_ (.bool false) ?_
 refine nil_ (then_n (seq_ (cond_F ?_)))
 refine wp_exit (then_e (then_e (blk_e (then_n (seq_ (reg_ ?_))))))
 refine pure_ (.int .i64 (-1)) ?_
 refine nil_ (then_n (wp_ret ?_))
 refine ret_ rfl (res_ [.tmp 4] [.int .i64 (-1)] (.int .i64 (-1)) ⟨res_tmp, trivial⟩) ?_
 refine pure_ (.int .i64 (-1)) ?_
 refine nil_ (then_n (wp_ret ?_))
 refine ret_ rfl (res_ [.tmp 4] [.int .i64 (-1)] (.int .i64 (-1)) ⟨res_tmp, trivial⟩) ?_
 refine pure_ (.int .i64 (-1)) ?_
 refine nil_ (then_n (seq_ (seq_ (reg_ ?_))))
 refine pure_ (.int .i64 (-1)) ?_
 refine pure_ (.bool true) ?_
 refine nil_ (then_n (cond_T ?_))
 refine seq_ (reg_ ?_)
 refine pure_ (.bool false) ?_
 refine nil_ (then_n (wp_ret (then_r ?_)))
 refine ret_ rfl (res_ [.tmp 4] [.bool false] (.bool false) ⟨res_tmp, trivial⟩) ?_
 exact ⟨[], none, 0, came, [], by simp [absL, Sd.Q.waits, ], by simp [HeapOk] <;> omega, by simp [absL, Sd.Q.drop, ] <;> omega, rowv_nil _ _, zS3.pickT (A := [⟨bq, true, .cells #[.slice none 0 0, .int .i64 most, .int .u64 came] 71 (0, 0)⟩]) (T := bs) [1] 2 (by kernel_rfl) (by kernel_rfl) (by decide) rfl⟩

set_option maxRecDepth 100000 in
set_option maxHeartbeats 4000000 in
theorem drop_0 (bq bl c : Nat) (tl : List Value) (most came s : Int)  (hc : 0 ≤ c) (hl : (onesV [] ++ tl).length = c * 5) (hH : HeapOk []) (w : World) {ms : List Nat} {w0 : World} {bs : List Blk} (S0 : St ms w0 ([⟨bq, true, .cells #[.slice (some ⟨bl, 0, none⟩) 0 c, .int .i64 most, .int .u64 came] 71 (0, 0)⟩, ⟨bl, true, .cells (([] : List Value) ++ tl).toArray 76 (0, 0)⟩] ++ bs) w) :
    Gives Try.prog 17 #[.pointer (some ⟨bq, 0, none⟩), .int .i64 s] w fun v w1 => ∃ es x c1 cm rows, v = .bool (Sd.Q.waits (absL []) s) ∧ HeapOk es ∧ absL es = Sd.Q.drop (absL []) s ∧ rowv 5 76 (onesV es) x es.length c1 rows ∧ St ms w0 (⟨bq, true, .cells #[.slice x es.length c1, .int .i64 most, .int .u64 cm] 71 (0, 0)⟩ :: (rows ++ bs)) w1 := by
 refine enter_ Try.func17 rfl ?_
 refine seq_ (reg_ ?_)
 refine pure_ (.bool false) ?_
 refine nil_ (then_n (seq_ (reg_ ?_)))
 refine move_ ?_
 refine pure_ (.int .i64 s) ?_
 refine call_ 24 #[.pointer (some ⟨bq, 0, none⟩), .int .i64 s] ?_
 refine enter_ Try.func24 rfl ?_
 refine seq_ (reg_ ?_)
 refine new_ S0 (fun b => .pointer (some ⟨b, 0, none⟩)) (.cells #[.int .i64 s] 3) ?_
 intro zb1 zw2 zS3
 refine pure_ (.int .i64 0) ?_
 refine nil_ (then_n (seq_ (reg_ ?_)))
 refine move_ ?_
 refine pure_ (.pointer (some ⟨bq, 0, none⟩)) ?_
 refine pure_ (.pointer (some ⟨bq, 0, none⟩)) ?_
 refine load1_ zS3 1 (.slice (some ⟨bl, 0, none⟩) 0 c) bq 0 ?_
 refine pure_ (.func (.func 40) #[] #[.pointer (some ⟨zb1, 0, none⟩)]) ?_
 refine call_ 39 #[.slice (some ⟨bl, 0, none⟩) 0 c, .func (.func 40) #[] #[.pointer (some ⟨zb1, 0, none⟩)]] ?_
 refine enter_ Try.func39 rfl ?_
 refine seq_ (reg_ ?_)
 refine pure_ (.int .i64 0) ?_
 refine nil_ (then_n (seq_ (seq_ (reg_ ?_))))
 refine move_ ?_
 refine pure_ (.int .i64 0) ?_
 refine pure_ (.int .i64 0) ?_
 refine nil_ (then_n (wp_block (loop_ 24 (seq_ (reg_ ?_)))))
 refine pure_ (.bool false) ?_
 refine nil_ (then_n (seq_ (cond_F ?_)))
 refine wp_exit (then_e (then_e (blk_e (then_n (seq_ (reg_ ?_))))))
 refine pure_ (.int .i64 (-1)) ?_
 refine nil_ (then_n (wp_ret ?_))
 refine ret_ rfl (res_ [.tmp 4] [.int .i64 (-1)] (.int .i64 (-1)) ⟨res_tmp, trivial⟩) ?_
 refine pure_ (.int .i64 (-1)) ?_
 refine nil_ (then_n (wp_ret ?_))
 refine ret_ rfl (res_ [.tmp 4] [.int .i64 (-1)] (.int .i64 (-1)) ⟨res_tmp, trivial⟩) ?_
 refine pure_ (.int .i64 (-1)) ?_
 refine nil_ (then_n (seq_ (seq_ (reg_ ?_))))
 refine pure_ (.int .i64 (-1)) ?_
 refine pure_ (.bool true) ?_
 refine nil_ (then_n (cond_T ?_))
 refine seq_ (reg_ ?_)
 refine pure_ (.bool false) ?_
 refine nil_ (then_n (wp_ret (then_r ?_)))
 refine ret_ rfl (res_ [.tmp 4] [.bool false] (.bool false) ⟨res_tmp, trivial⟩) ?_
 exact ⟨[], (some ⟨bl, 0, none⟩), c, came, [⟨bl, true, .cells (onesV [] ++ tl).toArray 76 (0, 0)⟩], by simp [absL, Sd.Q.waits, ], by simp [HeapOk] <;> omega, by simp [absL, Sd.Q.drop, ] <;> omega, ⟨rfl, by have := hc; simp <;> omega, .inr ⟨bl, tl, rfl, rfl, by have := hl; simpa [onesV, oneC] using this⟩⟩, zS3.pickT (A := [⟨bq, true, .cells #[.slice (some ⟨bl, 0, none⟩) 0 c, .int .i64 most, .int .u64 came] 71 (0, 0)⟩, ⟨bl, true, .cells (onesV [] ++ tl).toArray 76 (0, 0)⟩]) (T := bs) [1, 2] 3 (by kernel_rfl) (by kernel_rfl) (by decide) rfl⟩

set_option maxRecDepth 100000 in
set_option maxHeartbeats 4000000 in
theorem drop_1 (bq bl c : Nat) (tl : List Value) (most came s : Int) (e0 : One) (hc : 1 ≤ c) (hl : (onesV [e0] ++ tl).length = c * 5) (hH : HeapOk [e0]) (w : World) {ms : List Nat} {w0 : World} {bs : List Blk} (S0 : St ms w0 ([⟨bq, true, .cells #[.slice (some ⟨bl, 0, none⟩) 1 c, .int .i64 most, .int .u64 came] 71 (0, 0)⟩, ⟨bl, true, .cells (([.int .i64 e0.a.source, .int .i64 e0.a.rank, .int .i64 e0.a.age.n, .int .i64 e0.a.age.most, .int .u64 e0.came] : List Value) ++ tl).toArray 76 (0, 0)⟩] ++ bs) w) :
    Gives Try.prog 17 #[.pointer (some ⟨bq, 0, none⟩), .int .i64 s] w fun v w1 => ∃ es x c1 cm rows, v = .bool (Sd.Q.waits (absL [e0]) s) ∧ HeapOk es ∧ absL es = Sd.Q.drop (absL [e0]) s ∧ rowv 5 76 (onesV es) x es.length c1 rows ∧ St ms w0 (⟨bq, true, .cells #[.slice x es.length c1, .int .i64 most, .int .u64 cm] 71 (0, 0)⟩ :: (rows ++ bs)) w1 := by
 refine enter_ Try.func17 rfl ?_
 refine seq_ (reg_ ?_)
 refine pure_ (.bool false) ?_
 refine nil_ (then_n (seq_ (reg_ ?_)))
 refine move_ ?_
 refine pure_ (.int .i64 s) ?_
 refine call_ 24 #[.pointer (some ⟨bq, 0, none⟩), .int .i64 s] ?_
 refine enter_ Try.func24 rfl ?_
 refine seq_ (reg_ ?_)
 refine new_ S0 (fun b => .pointer (some ⟨b, 0, none⟩)) (.cells #[.int .i64 s] 3) ?_
 intro zb1 zw2 zS3
 refine pure_ (.int .i64 0) ?_
 refine nil_ (then_n (seq_ (reg_ ?_)))
 refine move_ ?_
 refine pure_ (.pointer (some ⟨bq, 0, none⟩)) ?_
 refine pure_ (.pointer (some ⟨bq, 0, none⟩)) ?_
 refine load1_ zS3 1 (.slice (some ⟨bl, 0, none⟩) 1 c) bq 0 ?_
 refine pure_ (.func (.func 40) #[] #[.pointer (some ⟨zb1, 0, none⟩)]) ?_
 refine call_ 39 #[.slice (some ⟨bl, 0, none⟩) 1 c, .func (.func 40) #[] #[.pointer (some ⟨zb1, 0, none⟩)]] ?_
 refine enter_ Try.func39 rfl ?_
 refine seq_ (reg_ ?_)
 refine pure_ (.int .i64 0) ?_
 refine nil_ (then_n (seq_ (seq_ (reg_ ?_))))
 refine move_ ?_
 refine pure_ (.int .i64 1) ?_
 refine pure_ (.int .i64 0) ?_
 refine nil_ (then_n (wp_block (loop_ 24 (seq_ (reg_ ?_)))))
 refine pure_ (.bool true) ?_
 refine nil_ (then_n (seq_ (cond_T ?_)))
 refine wp_skip (then_n (seq_ (wp_block (seq_ (reg_ ?_)))))
 refine pure_ (.int .i64 0) ?_
 refine pure_ (.int .i64 0) ?_
 refine nil_ (then_n (seq_ (reg_ ?_)))
 refine move_ ?_
 refine move_ ?_
 refine pure_ (.int .i64 0) ?_
 refine pure_ (.pointer (some ⟨bl, 0, none⟩)) ?_
 refine loadN_ zS3 2 5 #[.int .i64 e0.a.source, .int .i64 e0.a.rank, .int .i64 e0.a.age.n, .int .i64 e0.a.age.most, .int .u64 e0.came] bl 0 ?_
 refine call_ 40 #[.agg #[.int .i64 e0.a.source, .int .i64 e0.a.rank, .int .i64 e0.a.age.n, .int .i64 e0.a.age.most, .int .u64 e0.came], .pointer (some ⟨zb1, 0, none⟩)] ?_
 refine enter_ Try.func40 rfl ?_
 refine seq_ (reg_ ?_)
 refine new_ zS3 (fun b => .pointer (some ⟨b, 0, none⟩)) (.cells #[.int .i64 e0.a.source, .int .i64 e0.a.rank, .int .i64 e0.a.age.n, .int .i64 e0.a.age.most, .int .u64 e0.came] 76) ?_
 intro zb4 zw5 zS6
 refine pure_ (.bool false) ?_
 refine nil_ (then_n (seq_ (reg_ ?_)))
 refine pure_ (.pointer (some ⟨zb4, 0, none⟩)) ?_
 refine pure_ (.pointer (some ⟨zb4, 0, none⟩)) ?_
 refine load1_ zS6 0 (.int .i64 e0.a.source) zb4 0 ?_
 refine load1_ zS6 1 (.int .i64 s) zb1 0 ?_
 refine pure_ (.bool (e0.a.source == s)) ?_
 refine pure_ (.bool (e0.a.source == s)) ?_
 refine nil_ (then_n (wp_ret ?_))
 refine ret_ rfl (res_ [.tmp 3] [.bool (e0.a.source == s)] (.bool (e0.a.source == s)) ⟨res_tmp, trivial⟩) ?_
 refine nil_ (then_n ?_)
 refine cond_S (e0.a.source == s) ?_ ?_
 · intro zh7
   have zh8 := eqT' zh7
   refine seq_ (reg_ ?_)
   refine pure_ (.int .i64 0) ?_
   refine pure_ (.int .i64 0) ?_
   refine nil_ (then_n (wp_ret (blk_r (then_r (then_r (blk_r (then_r ?_)))))))
   refine ret_ rfl (res_ [.tmp 4] [.int .i64 0] (.int .i64 0) ⟨res_tmp, trivial⟩) ?_
   refine pure_ (.int .i64 0) ?_
   refine nil_ (then_n (wp_ret ?_))
   refine ret_ rfl (res_ [.tmp 4] [.int .i64 0] (.int .i64 0) ⟨res_tmp, trivial⟩) ?_
   refine pure_ (.int .i64 0) ?_
   refine nil_ (then_n (seq_ (seq_ (reg_ ?_))))
   refine pure_ (.int .i64 0) ?_
   refine pure_ (.bool false) ?_
   refine nil_ (then_n (cond_F ?_))
   refine wp_skip (then_n (seq_ (reg_ ?_)))
   refine move_ ?_
   refine pure_ (.pointer (some ⟨bq, 0, none⟩)) ?_
   refine pure_ (.pointer (some ⟨bq, 0, none⟩)) ?_
   refine pure_ (.iface 74 (.pointer (some ⟨bq, 0, none⟩))) ?_
   refine pure_ (.int .i64 0) ?_
   refine call_ 28 #[.iface 74 (.pointer (some ⟨bq, 0, none⟩)), .int .i64 0] ?_
   refine enter_ Try.func28 rfl ?_
   refine seq_ (reg_ ?_)
   refine pure_ (.nilIface) ?_
   refine nil_ (then_n (seq_ (reg_ ?_)))
   refine move_ ?_
   refine callD_ zS6 2 (.slice (some ⟨bl, 0, none⟩) 1 c) bq 0 68 81 #[] ?_
   refine enter_ Try.func81 rfl ?_
   refine seq_ (reg_ ?_)
   refine pure_ (.int .i64 0) ?_
   refine nil_ (then_n (seq_ (reg_ ?_)))
   refine move_ ?_
   refine pure_ (.int .i64 1) ?_
   refine pure_ (.int .i64 1) ?_
   refine nil_ (then_n (wp_ret ?_))
   refine ret_ rfl (res_ [.tmp 2] [.int .i64 1] (.int .i64 1) ⟨res_tmp, trivial⟩) ?_
   refine pure_ (.int .i64 0) ?_
   refine pure_ (.int .i64 0) ?_
   refine nil_ (then_n (seq_ (seq_ (reg_ ?_))))
   refine pure_ (.int .i64 0) ?_
   refine pure_ (.int .i64 0) ?_
   refine pure_ (.bool false) ?_
   refine nil_ (then_n (cond_F ?_))
   refine wp_skip (then_n (seq_ (reg_ ?_)))
   refine move_ ?_
   refine call_ 84 #[.pointer (some ⟨bq, 0, none⟩)] ?_
   refine enter_ Try.func84 rfl ?_
   refine seq_ (reg_ ?_)
   refine pure_ (.nilIface) ?_
   refine nil_ (then_n (seq_ (reg_ ?_)))
   refine move_ ?_
   refine pure_ (.pointer (some ⟨bq, 0, none⟩)) ?_
   refine load1_ zS6 2 (.slice (some ⟨bl, 0, none⟩) 1 c) bq 0 ?_
   refine pure_ (.int .i64 1) ?_
   refine pure_ (.int .i64 0) ?_
   refine pure_ (.int .i64 0) ?_
   refine nil_ (then_n (seq_ (reg_ ?_)))
   refine move_ ?_
   refine pure_ (.pointer (some ⟨bq, 0, none⟩)) ?_
   refine load1_ zS6 2 (.slice (some ⟨bl, 0, none⟩) 1 c) bq 0 ?_
   refine pure_ (.int .i64 0) ?_
   refine pure_ (.pointer (some ⟨bl, 0, none⟩)) ?_
   refine loadN_ zS6 3 5 #[.int .i64 e0.a.source, .int .i64 e0.a.rank, .int .i64 e0.a.age.n, .int .i64 e0.a.age.most, .int .u64 e0.came] bl 0 ?_
   refine new_ zS6 (fun b => .pointer (some ⟨b, 0, none⟩)) (.cells #[.int .i64 0, .int .i64 0, .int .i64 0, .int .i64 0, .int .u64 0] 76) ?_
   intro zb9 zw10 zS11
   refine store_ zS11 0 (.agg #[.int .i64 e0.a.source, .int .i64 e0.a.rank, .int .i64 e0.a.age.n, .int .i64 e0.a.age.most, .int .u64 e0.came]) zb9 0 ?_
   intro zw12 zS13
   refine nil_ (then_n (seq_ (reg_ ?_)))
   refine move_ ?_
   refine move_ ?_
   refine pure_ (.pointer (some ⟨bq, 0, none⟩)) ?_
   refine load1_ zS13 3 (.slice (some ⟨bl, 0, none⟩) 1 c) bq 0 ?_
   refine pure_ (.int .i64 0) ?_
   refine pure_ (.slice (some ⟨bl, 0, none⟩) 0 c) ?_ (h := run_cut (n := 1) (e := 76) (kd := .i64) 0 (by omega))
   refine pure_ (.pointer (some ⟨bq, 0, none⟩)) ?_
   refine store_ zS13 3 (.slice (some ⟨bl, 0, none⟩) 0 c) bq 0 ?_
   intro zw14 zS15
   refine nil_ (then_n (seq_ (reg_ ?_)))
   refine loadN_ zS15 0 5 #[.int .i64 e0.a.source, .int .i64 e0.a.rank, .int .i64 e0.a.age.n, .int .i64 e0.a.age.most, .int .u64 e0.came] zb9 0 ?_
   refine pure_ (.iface 76 (.agg #[.int .i64 e0.a.source, .int .i64 e0.a.rank, .int .i64 e0.a.age.n, .int .i64 e0.a.age.most, .int .u64 e0.came])) ?_
   refine assign_ ?_
   refine nil_ (then_n (wp_ret ?_))
   refine ret_ rfl (res_ [.tmp 2] [.iface 76 (.agg #[.int .i64 e0.a.source, .int .i64 e0.a.rank, .int .i64 e0.a.age.n, .int .i64 e0.a.age.most, .int .u64 e0.came])] (.iface 76 (.agg #[.int .i64 e0.a.source, .int .i64 e0.a.rank, .int .i64 e0.a.age.n, .int .i64 e0.a.age.most, .int .u64 e0.came])) ⟨res_tmp, trivial⟩) ?_
   refine assign_ ?_
   refine nil_ (then_n (wp_ret ?_))
   refine ret_ rfl (res_ [.tmp 4] [.iface 76 (.agg #[.int .i64 e0.a.source, .int .i64 e0.a.rank, .int .i64 e0.a.age.n, .int .i64 e0.a.age.most, .int .u64 e0.came])] (.iface 76 (.agg #[.int .i64 e0.a.source, .int .i64 e0.a.rank, .int .i64 e0.a.age.n, .int .i64 e0.a.age.most, .int .u64 e0.came])) ⟨res_tmp, trivial⟩) ?_
   refine nil_ (then_n (seq_ (reg_ ?_)))
   refine pure_ (.bool true) ?_
   refine nil_ (then_n (wp_ret ?_))
   refine ret_ rfl (res_ [.tmp 4] [.bool true] (.bool true) ⟨res_tmp, trivial⟩) ?_
   have zs0 : e0.a.source = s := by omega
   exact ⟨[], (some ⟨bl, 0, none⟩), c, came, [⟨bl, true, .cells (onesV [] ++ (([.int .i64 e0.a.source, .int .i64 e0.a.rank, .int .i64 e0.a.age.n, .int .i64 e0.a.age.most, .int .u64 e0.came] : List Value) ++ tl)).toArray 76 (0, 0)⟩], by simp [absL, Sd.Q.waits, zs0], by simp [HeapOk] <;> omega, by simp [absL, Sd.Q.drop, zs0] <;> omega, ⟨rfl, by have := hc; simp <;> omega, .inr ⟨bl, (([.int .i64 e0.a.source, .int .i64 e0.a.rank, .int .i64 e0.a.age.n, .int .i64 e0.a.age.most, .int .u64 e0.came] : List Value) ++ tl), rfl, rfl, by have := hl; simpa [onesV, oneC] using this⟩⟩, zS15.pickT (A := [⟨bq, true, .cells #[.slice (some ⟨bl, 0, none⟩) 0 c, .int .i64 most, .int .u64 came] 71 (0, 0)⟩, ⟨bl, true, .cells (onesV [] ++ (([.int .i64 e0.a.source, .int .i64 e0.a.rank, .int .i64 e0.a.age.n, .int .i64 e0.a.age.most, .int .u64 e0.came] : List Value) ++ tl)).toArray 76 (0, 0)⟩]) (T := bs) [3, 4] 5 (by kernel_rfl) (by kernel_rfl) (by decide) rfl⟩
 intro zh16
 have zh17 := eqF' zh16
 refine wp_skip (blk_n (then_n (reg_ ?_)))
 refine pure_ (.int .i64 1) ?_
 refine pure_ (.int .i64 1) ?_
 refine nil_ (again_ (seq_ (reg_ ?_)))
 refine pure_ (.bool false) ?_
 refine nil_ (then_n (seq_ (cond_F ?_)))
 refine wp_exit (then_e (then_e (blk_e (then_n (seq_ (reg_ ?_))))))
 refine pure_ (.int .i64 (-1)) ?_
 refine nil_ (then_n (wp_ret ?_))
 refine ret_ rfl (res_ [.tmp 4] [.int .i64 (-1)] (.int .i64 (-1)) ⟨res_tmp, trivial⟩) ?_
 refine pure_ (.int .i64 (-1)) ?_
 refine nil_ (then_n (wp_ret ?_))
 refine ret_ rfl (res_ [.tmp 4] [.int .i64 (-1)] (.int .i64 (-1)) ⟨res_tmp, trivial⟩) ?_
 refine pure_ (.int .i64 (-1)) ?_
 refine nil_ (then_n (seq_ (seq_ (reg_ ?_))))
 refine pure_ (.int .i64 (-1)) ?_
 refine pure_ (.bool true) ?_
 refine nil_ (then_n (cond_T ?_))
 refine seq_ (reg_ ?_)
 refine pure_ (.bool false) ?_
 refine nil_ (then_n (wp_ret (then_r ?_)))
 refine ret_ rfl (res_ [.tmp 4] [.bool false] (.bool false) ⟨res_tmp, trivial⟩) ?_
 have zs0 : ¬ e0.a.source = s := by omega
 exact ⟨[e0], (some ⟨bl, 0, none⟩), c, came, [⟨bl, true, .cells (onesV [e0] ++ tl).toArray 76 (0, 0)⟩], by simp [absL, Sd.Q.waits, zs0], by simp [HeapOk] <;> omega, by simp [absL, Sd.Q.drop, zs0] <;> omega, ⟨rfl, by have := hc; simp <;> omega, .inr ⟨bl, tl, rfl, rfl, by have := hl; simpa [onesV, oneC] using this⟩⟩, zS6.pickT (A := [⟨bq, true, .cells #[.slice (some ⟨bl, 0, none⟩) 1 c, .int .i64 most, .int .u64 came] 71 (0, 0)⟩, ⟨bl, true, .cells (onesV [e0] ++ tl).toArray 76 (0, 0)⟩]) (T := bs) [2, 3] 4 (by kernel_rfl) (by kernel_rfl) (by decide) rfl⟩

set_option maxRecDepth 100000 in
set_option maxHeartbeats 4000000 in
theorem drop_2 (bq bl c : Nat) (tl : List Value) (most came s : Int) (e0 : One) (e1 : One) (hc : 2 ≤ c) (hl : (onesV [e0, e1] ++ tl).length = c * 5) (hH : HeapOk [e0, e1]) (w : World) {ms : List Nat} {w0 : World} {bs : List Blk} (S0 : St ms w0 ([⟨bq, true, .cells #[.slice (some ⟨bl, 0, none⟩) 2 c, .int .i64 most, .int .u64 came] 71 (0, 0)⟩, ⟨bl, true, .cells (([.int .i64 e0.a.source, .int .i64 e0.a.rank, .int .i64 e0.a.age.n, .int .i64 e0.a.age.most, .int .u64 e0.came, .int .i64 e1.a.source, .int .i64 e1.a.rank, .int .i64 e1.a.age.n, .int .i64 e1.a.age.most, .int .u64 e1.came] : List Value) ++ tl).toArray 76 (0, 0)⟩] ++ bs) w) :
    Gives Try.prog 17 #[.pointer (some ⟨bq, 0, none⟩), .int .i64 s] w fun v w1 => ∃ es x c1 cm rows, v = .bool (Sd.Q.waits (absL [e0, e1]) s) ∧ HeapOk es ∧ absL es = Sd.Q.drop (absL [e0, e1]) s ∧ rowv 5 76 (onesV es) x es.length c1 rows ∧ St ms w0 (⟨bq, true, .cells #[.slice x es.length c1, .int .i64 most, .int .u64 cm] 71 (0, 0)⟩ :: (rows ++ bs)) w1 := by
 simp only [HeapOk] at hH
 refine enter_ Try.func17 rfl ?_
 refine seq_ (reg_ ?_)
 refine pure_ (.bool false) ?_
 refine nil_ (then_n (seq_ (reg_ ?_)))
 refine move_ ?_
 refine pure_ (.int .i64 s) ?_
 refine call_ 24 #[.pointer (some ⟨bq, 0, none⟩), .int .i64 s] ?_
 refine enter_ Try.func24 rfl ?_
 refine seq_ (reg_ ?_)
 refine new_ S0 (fun b => .pointer (some ⟨b, 0, none⟩)) (.cells #[.int .i64 s] 3) ?_
 intro zb1 zw2 zS3
 refine pure_ (.int .i64 0) ?_
 refine nil_ (then_n (seq_ (reg_ ?_)))
 refine move_ ?_
 refine pure_ (.pointer (some ⟨bq, 0, none⟩)) ?_
 refine pure_ (.pointer (some ⟨bq, 0, none⟩)) ?_
 refine load1_ zS3 1 (.slice (some ⟨bl, 0, none⟩) 2 c) bq 0 ?_
 refine pure_ (.func (.func 40) #[] #[.pointer (some ⟨zb1, 0, none⟩)]) ?_
 refine call_ 39 #[.slice (some ⟨bl, 0, none⟩) 2 c, .func (.func 40) #[] #[.pointer (some ⟨zb1, 0, none⟩)]] ?_
 refine enter_ Try.func39 rfl ?_
 refine seq_ (reg_ ?_)
 refine pure_ (.int .i64 0) ?_
 refine nil_ (then_n (seq_ (seq_ (reg_ ?_))))
 refine move_ ?_
 refine pure_ (.int .i64 2) ?_
 refine pure_ (.int .i64 0) ?_
 refine nil_ (then_n (wp_block (loop_ 24 (seq_ (reg_ ?_)))))
 refine pure_ (.bool true) ?_
 refine nil_ (then_n (seq_ (cond_T ?_)))
 refine wp_skip (then_n (seq_ (wp_block (seq_ (reg_ ?_)))))
 refine pure_ (.int .i64 0) ?_
 refine pure_ (.int .i64 0) ?_
 refine nil_ (then_n (seq_ (reg_ ?_)))
 refine move_ ?_
 refine move_ ?_
 refine pure_ (.int .i64 0) ?_
 refine pure_ (.pointer (some ⟨bl, 0, none⟩)) ?_
 refine loadN_ zS3 2 5 #[.int .i64 e0.a.source, .int .i64 e0.a.rank, .int .i64 e0.a.age.n, .int .i64 e0.a.age.most, .int .u64 e0.came] bl 0 ?_
 refine call_ 40 #[.agg #[.int .i64 e0.a.source, .int .i64 e0.a.rank, .int .i64 e0.a.age.n, .int .i64 e0.a.age.most, .int .u64 e0.came], .pointer (some ⟨zb1, 0, none⟩)] ?_
 refine enter_ Try.func40 rfl ?_
 refine seq_ (reg_ ?_)
 refine new_ zS3 (fun b => .pointer (some ⟨b, 0, none⟩)) (.cells #[.int .i64 e0.a.source, .int .i64 e0.a.rank, .int .i64 e0.a.age.n, .int .i64 e0.a.age.most, .int .u64 e0.came] 76) ?_
 intro zb4 zw5 zS6
 refine pure_ (.bool false) ?_
 refine nil_ (then_n (seq_ (reg_ ?_)))
 refine pure_ (.pointer (some ⟨zb4, 0, none⟩)) ?_
 refine pure_ (.pointer (some ⟨zb4, 0, none⟩)) ?_
 refine load1_ zS6 0 (.int .i64 e0.a.source) zb4 0 ?_
 refine load1_ zS6 1 (.int .i64 s) zb1 0 ?_
 refine pure_ (.bool (e0.a.source == s)) ?_
 refine pure_ (.bool (e0.a.source == s)) ?_
 refine nil_ (then_n (wp_ret ?_))
 refine ret_ rfl (res_ [.tmp 3] [.bool (e0.a.source == s)] (.bool (e0.a.source == s)) ⟨res_tmp, trivial⟩) ?_
 refine nil_ (then_n ?_)
 refine cond_S (e0.a.source == s) ?_ ?_
 · intro zh7
   have zh8 := eqT' zh7
   refine seq_ (reg_ ?_)
   refine pure_ (.int .i64 0) ?_
   refine pure_ (.int .i64 0) ?_
   refine nil_ (then_n (wp_ret (blk_r (then_r (then_r (blk_r (then_r ?_)))))))
   refine ret_ rfl (res_ [.tmp 4] [.int .i64 0] (.int .i64 0) ⟨res_tmp, trivial⟩) ?_
   refine pure_ (.int .i64 0) ?_
   refine nil_ (then_n (wp_ret ?_))
   refine ret_ rfl (res_ [.tmp 4] [.int .i64 0] (.int .i64 0) ⟨res_tmp, trivial⟩) ?_
   refine pure_ (.int .i64 0) ?_
   refine nil_ (then_n (seq_ (seq_ (reg_ ?_))))
   refine pure_ (.int .i64 0) ?_
   refine pure_ (.bool false) ?_
   refine nil_ (then_n (cond_F ?_))
   refine wp_skip (then_n (seq_ (reg_ ?_)))
   refine move_ ?_
   refine pure_ (.pointer (some ⟨bq, 0, none⟩)) ?_
   refine pure_ (.pointer (some ⟨bq, 0, none⟩)) ?_
   refine pure_ (.iface 74 (.pointer (some ⟨bq, 0, none⟩))) ?_
   refine pure_ (.int .i64 0) ?_
   refine call_ 28 #[.iface 74 (.pointer (some ⟨bq, 0, none⟩)), .int .i64 0] ?_
   refine enter_ Try.func28 rfl ?_
   refine seq_ (reg_ ?_)
   refine pure_ (.nilIface) ?_
   refine nil_ (then_n (seq_ (reg_ ?_)))
   refine move_ ?_
   refine callD_ zS6 2 (.slice (some ⟨bl, 0, none⟩) 2 c) bq 0 68 81 #[] ?_
   refine enter_ Try.func81 rfl ?_
   refine seq_ (reg_ ?_)
   refine pure_ (.int .i64 0) ?_
   refine nil_ (then_n (seq_ (reg_ ?_)))
   refine move_ ?_
   refine pure_ (.int .i64 2) ?_
   refine pure_ (.int .i64 2) ?_
   refine nil_ (then_n (wp_ret ?_))
   refine ret_ rfl (res_ [.tmp 2] [.int .i64 2] (.int .i64 2) ⟨res_tmp, trivial⟩) ?_
   refine pure_ (.int .i64 1) ?_
   refine pure_ (.int .i64 1) ?_
   refine nil_ (then_n (seq_ (seq_ (reg_ ?_))))
   refine pure_ (.int .i64 1) ?_
   refine pure_ (.int .i64 0) ?_
   refine pure_ (.bool true) ?_
   refine nil_ (then_n (cond_T ?_))
   refine seq_ (reg_ ?_)
   refine move_ ?_
   refine pure_ (.int .i64 0) ?_
   refine pure_ (.int .i64 1) ?_
   refine callD_ zS6 2 (.slice (some ⟨bl, 0, none⟩) 2 c) bq 0 68 83 #[.int .i64 0, .int .i64 1] ?_
   refine enter_ Try.func83 rfl ?_
   refine storeL_ zS6 14 13 3 bl 0 [[13, 7], [13, 11]] (.agg #[.int .i64 e1.a.source, .int .i64 e1.a.rank, .int .i64 e1.a.age.n, .int .i64 e1.a.age.most, .int .u64 e1.came]) [.slice (some ⟨bl, 0, none⟩) 2 c, .int .i64 0, .slice (some ⟨bl, 0, none⟩) 2 c, .int .i64 1, .slice (some ⟨bl, 0, none⟩) 2 c, .int .i64 1, .pointer (some ⟨bl, 5, none⟩), .agg #[.int .i64 e1.a.source, .int .i64 e1.a.rank, .int .i64 e1.a.age.n, .int .i64 e1.a.age.most, .int .u64 e1.came], .slice (some ⟨bl, 0, none⟩) 2 c, .int .i64 0, .pointer (some ⟨bl, 0, none⟩), .agg #[.int .i64 e0.a.source, .int .i64 e0.a.rank, .int .i64 e0.a.age.n, .int .i64 e0.a.age.most, .int .u64 e0.came], .pointer (some ⟨bl, 0, none⟩), undef] [[14, 0], [14, 1], [14, 2], [14, 3], [14, 4], [14, 5], [14, 6], [14, 7], [14, 8], [14, 9], [14, 10], [14, 11], [14, 12], [14, 13], [15, 0], [15, 1], [15, 2], [15, 3], [15, 4], [15, 5], [15, 6], [15, 7], [15, 8], [15, 9], [15, 10], [15, 11], [15, 12], [15, 13], [15, 14]] (estep_cons eP_ (estep_cons eP_ (estep_cons eP_ (estep_cons eP_ (estep_cons eP_ (estep_cons eP_ (estep_cons eP_ (estep_cons (eNp_ zS6 3 bl 5 5 #[.int .i64 e1.a.source, .int .i64 e1.a.rank, .int .i64 e1.a.age.n, .int .i64 e1.a.age.most, .int .u64 e1.came]) (estep_cons eP_ (estep_cons eP_ (estep_cons eP_ (estep_cons (eNp_ zS6 3 bl 0 5 #[.int .i64 e0.a.source, .int .i64 e0.a.rank, .int .i64 e0.a.age.n, .int .i64 e0.a.age.most, .int .u64 e0.came]) (estep_cons eP_ (estep_cons (eW_ zS6 3 (.agg #[.int .i64 e1.a.source, .int .i64 e1.a.rank, .int .i64 e1.a.age.n, .int .i64 e1.a.age.most, .int .u64 e1.came]) bl 0) (estep_nil))))))))))))))) ?_
   intro zw9 zS10
   refine pure_ (.pointer (some ⟨bl, 5, none⟩)) ?_
   refine store_ zS10 3 (.agg #[.int .i64 e0.a.source, .int .i64 e0.a.rank, .int .i64 e0.a.age.n, .int .i64 e0.a.age.most, .int .u64 e0.came]) bl 5 ?_
   intro zw11 zS12
   refine nil_ ?_
   refine end_ rfl (res_ [] [] (.tuple #[]) trivial) ?_
   refine nil_ (then_n (seq_ (reg_ ?_)))
   refine move_ ?_
   refine pure_ (.int .i64 0) ?_
   refine pure_ (.int .i64 1) ?_
   refine call_ 44 #[.iface 74 (.pointer (some ⟨bq, 0, none⟩)), .int .i64 0, .int .i64 1] ?_
   refine enter_ Try.func44 rfl ?_
   refine seq_ (reg_ ?_)
   refine pure_ (.bool false) ?_
   refine nil_ (then_n (seq_ (reg_ ?_)))
   refine pure_ (.int .i64 0) ?_
   refine pure_ (.int .i64 0) ?_
   refine nil_ (then_n (seq_ (wp_block (loop_ 24 (wp_block (seq_ (reg_ ?_)))))))
   refine pure_ (.int .i64 0) ?_
   refine pure_ (.int .i64 0) ?_
   refine pure_ (.int .i64 1) ?_
   refine pure_ (.int .i64 1) ?_
   refine nil_ (then_n (seq_ (seq_ (reg_ ?_))))
   refine pure_ (.int .i64 1) ?_
   refine pure_ (.int .i64 1) ?_
   refine pure_ (.bool true) ?_
   refine pure_ (.bool true) ?_
   refine skip_ ?_
   refine skip_ ?_
   refine pure_ (.bool true) ?_
   refine nil_ (then_n (cond_T ?_))
   refine wp_exit (then_e ?_)
   refine blk_o ?_
   refine then_e (blk_e (then_n (seq_ (reg_ ?_))))
   refine pure_ (.int .i64 0) ?_
   refine pure_ (.int .i64 0) ?_
   refine pure_ (.bool false) ?_
   refine pure_ (.bool false) ?_
   refine nil_ (then_n (wp_ret ?_))
   refine ret_ rfl (res_ [.tmp 6] [.bool false] (.bool false) ⟨res_tmp, trivial⟩) ?_
   refine pure_ (.bool true) ?_
   refine nil_ (then_n (cond_T ?_))
   refine reg_ ?_
   refine move_ ?_
   refine pure_ (.int .i64 0) ?_
   refine call_ 41 #[.iface 74 (.pointer (some ⟨bq, 0, none⟩)), .int .i64 0] ?_
   refine enter_ Try.func41 rfl ?_
   refine wp_block (loop_ 24 (wp_block (seq_ (reg_ ?_))))
   refine pure_ (.int .i64 0) ?_
   refine pure_ (.int .i64 (-1)) ?_
   refine pure_ (.int .i64 0) ?_
   refine pure_ (.int .i64 0) ?_
   refine nil_ (then_n (seq_ (seq_ (reg_ ?_))))
   refine pure_ (.int .i64 0) ?_
   refine pure_ (.int .i64 0) ?_
   refine pure_ (.bool true) ?_
   refine pure_ (.bool true) ?_
   refine skip_ ?_
   refine skip_ ?_
   refine skip_ ?_
   refine skip_ ?_
   refine skip_ ?_
   refine pure_ (.bool true) ?_
   refine nil_ (then_n (cond_T ?_))
   refine wp_exit (then_e ?_)
   refine blk_o ?_
   refine then_e (blk_e ?_)
   refine end_ rfl (res_ [] [] (.tuple #[]) trivial) ?_
   refine nil_ (then_n (seq_ (reg_ ?_)))
   refine move_ ?_
   refine call_ 84 #[.pointer (some ⟨bq, 0, none⟩)] ?_
   refine enter_ Try.func84 rfl ?_
   refine seq_ (reg_ ?_)
   refine pure_ (.nilIface) ?_
   refine nil_ (then_n (seq_ (reg_ ?_)))
   refine move_ ?_
   refine pure_ (.pointer (some ⟨bq, 0, none⟩)) ?_
   refine load1_ zS12 2 (.slice (some ⟨bl, 0, none⟩) 2 c) bq 0 ?_
   refine pure_ (.int .i64 2) ?_
   refine pure_ (.int .i64 1) ?_
   refine pure_ (.int .i64 1) ?_
   refine nil_ (then_n (seq_ (reg_ ?_)))
   refine move_ ?_
   refine pure_ (.pointer (some ⟨bq, 0, none⟩)) ?_
   refine load1_ zS12 2 (.slice (some ⟨bl, 0, none⟩) 2 c) bq 0 ?_
   refine pure_ (.int .i64 1) ?_
   refine pure_ (.pointer (some ⟨bl, 5, none⟩)) ?_
   refine loadN_ zS12 3 5 #[.int .i64 e0.a.source, .int .i64 e0.a.rank, .int .i64 e0.a.age.n, .int .i64 e0.a.age.most, .int .u64 e0.came] bl 5 ?_
   refine new_ zS12 (fun b => .pointer (some ⟨b, 0, none⟩)) (.cells #[.int .i64 0, .int .i64 0, .int .i64 0, .int .i64 0, .int .u64 0] 76) ?_
   intro zb13 zw14 zS15
   refine store_ zS15 0 (.agg #[.int .i64 e0.a.source, .int .i64 e0.a.rank, .int .i64 e0.a.age.n, .int .i64 e0.a.age.most, .int .u64 e0.came]) zb13 0 ?_
   intro zw16 zS17
   refine nil_ (then_n (seq_ (reg_ ?_)))
   refine move_ ?_
   refine move_ ?_
   refine pure_ (.pointer (some ⟨bq, 0, none⟩)) ?_
   refine load1_ zS17 3 (.slice (some ⟨bl, 0, none⟩) 2 c) bq 0 ?_
   refine pure_ (.int .i64 1) ?_
   refine pure_ (.slice (some ⟨bl, 0, none⟩) 1 c) ?_ (h := run_cut (n := 2) (e := 76) (kd := .i64) 1 (by omega))
   refine pure_ (.pointer (some ⟨bq, 0, none⟩)) ?_
   refine store_ zS17 3 (.slice (some ⟨bl, 0, none⟩) 1 c) bq 0 ?_
   intro zw18 zS19
   refine nil_ (then_n (seq_ (reg_ ?_)))
   refine loadN_ zS19 0 5 #[.int .i64 e0.a.source, .int .i64 e0.a.rank, .int .i64 e0.a.age.n, .int .i64 e0.a.age.most, .int .u64 e0.came] zb13 0 ?_
   refine pure_ (.iface 76 (.agg #[.int .i64 e0.a.source, .int .i64 e0.a.rank, .int .i64 e0.a.age.n, .int .i64 e0.a.age.most, .int .u64 e0.came])) ?_
   refine assign_ ?_
   refine nil_ (then_n (wp_ret ?_))
   refine ret_ rfl (res_ [.tmp 2] [.iface 76 (.agg #[.int .i64 e0.a.source, .int .i64 e0.a.rank, .int .i64 e0.a.age.n, .int .i64 e0.a.age.most, .int .u64 e0.came])] (.iface 76 (.agg #[.int .i64 e0.a.source, .int .i64 e0.a.rank, .int .i64 e0.a.age.n, .int .i64 e0.a.age.most, .int .u64 e0.came])) ⟨res_tmp, trivial⟩) ?_
   refine assign_ ?_
   refine nil_ (then_n (wp_ret ?_))
   refine ret_ rfl (res_ [.tmp 4] [.iface 76 (.agg #[.int .i64 e0.a.source, .int .i64 e0.a.rank, .int .i64 e0.a.age.n, .int .i64 e0.a.age.most, .int .u64 e0.came])] (.iface 76 (.agg #[.int .i64 e0.a.source, .int .i64 e0.a.rank, .int .i64 e0.a.age.n, .int .i64 e0.a.age.most, .int .u64 e0.came])) ⟨res_tmp, trivial⟩) ?_
   refine nil_ (then_n (seq_ (reg_ ?_)))
   refine pure_ (.bool true) ?_
   refine nil_ (then_n (wp_ret ?_))
   refine ret_ rfl (res_ [.tmp 4] [.bool true] (.bool true) ⟨res_tmp, trivial⟩) ?_
   have zs0 : e0.a.source = s := by omega
   have zs1 : ¬ e1.a.source = s := by omega
   exact ⟨[e1], (some ⟨bl, 0, none⟩), c, came, [⟨bl, true, .cells (onesV [e1] ++ (([.int .i64 e0.a.source, .int .i64 e0.a.rank, .int .i64 e0.a.age.n, .int .i64 e0.a.age.most, .int .u64 e0.came] : List Value) ++ tl)).toArray 76 (0, 0)⟩], by simp [absL, Sd.Q.waits, zs0, zs1], by simp [HeapOk] <;> omega, by simp [absL, Sd.Q.drop, zs0, zs1] <;> omega, ⟨rfl, by have := hc; simp <;> omega, .inr ⟨bl, (([.int .i64 e0.a.source, .int .i64 e0.a.rank, .int .i64 e0.a.age.n, .int .i64 e0.a.age.most, .int .u64 e0.came] : List Value) ++ tl), rfl, rfl, by have := hl; simpa [onesV, oneC] using this⟩⟩, zS19.pickT (A := [⟨bq, true, .cells #[.slice (some ⟨bl, 0, none⟩) 1 c, .int .i64 most, .int .u64 came] 71 (0, 0)⟩, ⟨bl, true, .cells (onesV [e1] ++ (([.int .i64 e0.a.source, .int .i64 e0.a.rank, .int .i64 e0.a.age.n, .int .i64 e0.a.age.most, .int .u64 e0.came] : List Value) ++ tl)).toArray 76 (0, 0)⟩]) (T := bs) [3, 4] 5 (by kernel_rfl) (by kernel_rfl) (by decide) rfl⟩
 intro zh20
 have zh21 := eqF' zh20
 refine wp_skip (blk_n (then_n (reg_ ?_)))
 refine pure_ (.int .i64 1) ?_
 refine pure_ (.int .i64 1) ?_
 refine nil_ (again_ (seq_ (reg_ ?_)))
 refine pure_ (.bool true) ?_
 refine nil_ (then_n (seq_ (cond_T ?_)))
 refine wp_skip (then_n (seq_ (wp_block (seq_ (reg_ ?_)))))
 refine pure_ (.int .i64 1) ?_
 refine pure_ (.int .i64 1) ?_
 refine nil_ (then_n (seq_ (reg_ ?_)))
 refine move_ ?_
 refine move_ ?_
 refine pure_ (.int .i64 1) ?_
 refine pure_ (.pointer (some ⟨bl, 5, none⟩)) ?_
 refine loadN_ zS6 3 5 #[.int .i64 e1.a.source, .int .i64 e1.a.rank, .int .i64 e1.a.age.n, .int .i64 e1.a.age.most, .int .u64 e1.came] bl 5 ?_
 refine call_ 40 #[.agg #[.int .i64 e1.a.source, .int .i64 e1.a.rank, .int .i64 e1.a.age.n, .int .i64 e1.a.age.most, .int .u64 e1.came], .pointer (some ⟨zb1, 0, none⟩)] ?_
 refine enter_ Try.func40 rfl ?_
 refine seq_ (reg_ ?_)
 refine new_ zS6 (fun b => .pointer (some ⟨b, 0, none⟩)) (.cells #[.int .i64 e1.a.source, .int .i64 e1.a.rank, .int .i64 e1.a.age.n, .int .i64 e1.a.age.most, .int .u64 e1.came] 76) ?_
 intro zb22 zw23 zS24
 refine pure_ (.bool false) ?_
 refine nil_ (then_n (seq_ (reg_ ?_)))
 refine pure_ (.pointer (some ⟨zb22, 0, none⟩)) ?_
 refine pure_ (.pointer (some ⟨zb22, 0, none⟩)) ?_
 refine load1_ zS24 0 (.int .i64 e1.a.source) zb22 0 ?_
 refine load1_ zS24 2 (.int .i64 s) zb1 0 ?_
 refine pure_ (.bool (e1.a.source == s)) ?_
 refine pure_ (.bool (e1.a.source == s)) ?_
 refine nil_ (then_n (wp_ret ?_))
 refine ret_ rfl (res_ [.tmp 3] [.bool (e1.a.source == s)] (.bool (e1.a.source == s)) ⟨res_tmp, trivial⟩) ?_
 refine nil_ (then_n ?_)
 refine cond_S (e1.a.source == s) ?_ ?_
 · intro zh25
   have zh26 := eqT' zh25
   refine seq_ (reg_ ?_)
   refine pure_ (.int .i64 1) ?_
   refine pure_ (.int .i64 1) ?_
   refine nil_ (then_n (wp_ret (blk_r (then_r (then_r (blk_r (then_r ?_)))))))
   refine ret_ rfl (res_ [.tmp 4] [.int .i64 1] (.int .i64 1) ⟨res_tmp, trivial⟩) ?_
   refine pure_ (.int .i64 1) ?_
   refine nil_ (then_n (wp_ret ?_))
   refine ret_ rfl (res_ [.tmp 4] [.int .i64 1] (.int .i64 1) ⟨res_tmp, trivial⟩) ?_
   refine pure_ (.int .i64 1) ?_
   refine nil_ (then_n (seq_ (seq_ (reg_ ?_))))
   refine pure_ (.int .i64 1) ?_
   refine pure_ (.bool false) ?_
   refine nil_ (then_n (cond_F ?_))
   refine wp_skip (then_n (seq_ (reg_ ?_)))
   refine move_ ?_
   refine pure_ (.pointer (some ⟨bq, 0, none⟩)) ?_
   refine pure_ (.pointer (some ⟨bq, 0, none⟩)) ?_
   refine pure_ (.iface 74 (.pointer (some ⟨bq, 0, none⟩))) ?_
   refine pure_ (.int .i64 1) ?_
   refine call_ 28 #[.iface 74 (.pointer (some ⟨bq, 0, none⟩)), .int .i64 1] ?_
   refine enter_ Try.func28 rfl ?_
   refine seq_ (reg_ ?_)
   refine pure_ (.nilIface) ?_
   refine nil_ (then_n (seq_ (reg_ ?_)))
   refine move_ ?_
   refine callD_ zS24 3 (.slice (some ⟨bl, 0, none⟩) 2 c) bq 0 68 81 #[] ?_
   refine enter_ Try.func81 rfl ?_
   refine seq_ (reg_ ?_)
   refine pure_ (.int .i64 0) ?_
   refine nil_ (then_n (seq_ (reg_ ?_)))
   refine move_ ?_
   refine pure_ (.int .i64 2) ?_
   refine pure_ (.int .i64 2) ?_
   refine nil_ (then_n (wp_ret ?_))
   refine ret_ rfl (res_ [.tmp 2] [.int .i64 2] (.int .i64 2) ⟨res_tmp, trivial⟩) ?_
   refine pure_ (.int .i64 1) ?_
   refine pure_ (.int .i64 1) ?_
   refine nil_ (then_n (seq_ (seq_ (reg_ ?_))))
   refine pure_ (.int .i64 1) ?_
   refine pure_ (.int .i64 1) ?_
   refine pure_ (.bool false) ?_
   refine nil_ (then_n (cond_F ?_))
   refine wp_skip (then_n (seq_ (reg_ ?_)))
   refine move_ ?_
   refine call_ 84 #[.pointer (some ⟨bq, 0, none⟩)] ?_
   refine enter_ Try.func84 rfl ?_
   refine seq_ (reg_ ?_)
   refine pure_ (.nilIface) ?_
   refine nil_ (then_n (seq_ (reg_ ?_)))
   refine move_ ?_
   refine pure_ (.pointer (some ⟨bq, 0, none⟩)) ?_
   refine load1_ zS24 3 (.slice (some ⟨bl, 0, none⟩) 2 c) bq 0 ?_
   refine pure_ (.int .i64 2) ?_
   refine pure_ (.int .i64 1) ?_
   refine pure_ (.int .i64 1) ?_
   refine nil_ (then_n (seq_ (reg_ ?_)))
   refine move_ ?_
   refine pure_ (.pointer (some ⟨bq, 0, none⟩)) ?_
   refine load1_ zS24 3 (.slice (some ⟨bl, 0, none⟩) 2 c) bq 0 ?_
   refine pure_ (.int .i64 1) ?_
   refine pure_ (.pointer (some ⟨bl, 5, none⟩)) ?_
   refine loadN_ zS24 4 5 #[.int .i64 e1.a.source, .int .i64 e1.a.rank, .int .i64 e1.a.age.n, .int .i64 e1.a.age.most, .int .u64 e1.came] bl 5 ?_
   refine new_ zS24 (fun b => .pointer (some ⟨b, 0, none⟩)) (.cells #[.int .i64 0, .int .i64 0, .int .i64 0, .int .i64 0, .int .u64 0] 76) ?_
   intro zb27 zw28 zS29
   refine store_ zS29 0 (.agg #[.int .i64 e1.a.source, .int .i64 e1.a.rank, .int .i64 e1.a.age.n, .int .i64 e1.a.age.most, .int .u64 e1.came]) zb27 0 ?_
   intro zw30 zS31
   refine nil_ (then_n (seq_ (reg_ ?_)))
   refine move_ ?_
   refine move_ ?_
   refine pure_ (.pointer (some ⟨bq, 0, none⟩)) ?_
   refine load1_ zS31 4 (.slice (some ⟨bl, 0, none⟩) 2 c) bq 0 ?_
   refine pure_ (.int .i64 1) ?_
   refine pure_ (.slice (some ⟨bl, 0, none⟩) 1 c) ?_ (h := run_cut (n := 2) (e := 76) (kd := .i64) 1 (by omega))
   refine pure_ (.pointer (some ⟨bq, 0, none⟩)) ?_
   refine store_ zS31 4 (.slice (some ⟨bl, 0, none⟩) 1 c) bq 0 ?_
   intro zw32 zS33
   refine nil_ (then_n (seq_ (reg_ ?_)))
   refine loadN_ zS33 0 5 #[.int .i64 e1.a.source, .int .i64 e1.a.rank, .int .i64 e1.a.age.n, .int .i64 e1.a.age.most, .int .u64 e1.came] zb27 0 ?_
   refine pure_ (.iface 76 (.agg #[.int .i64 e1.a.source, .int .i64 e1.a.rank, .int .i64 e1.a.age.n, .int .i64 e1.a.age.most, .int .u64 e1.came])) ?_
   refine assign_ ?_
   refine nil_ (then_n (wp_ret ?_))
   refine ret_ rfl (res_ [.tmp 2] [.iface 76 (.agg #[.int .i64 e1.a.source, .int .i64 e1.a.rank, .int .i64 e1.a.age.n, .int .i64 e1.a.age.most, .int .u64 e1.came])] (.iface 76 (.agg #[.int .i64 e1.a.source, .int .i64 e1.a.rank, .int .i64 e1.a.age.n, .int .i64 e1.a.age.most, .int .u64 e1.came])) ⟨res_tmp, trivial⟩) ?_
   refine assign_ ?_
   refine nil_ (then_n (wp_ret ?_))
   refine ret_ rfl (res_ [.tmp 4] [.iface 76 (.agg #[.int .i64 e1.a.source, .int .i64 e1.a.rank, .int .i64 e1.a.age.n, .int .i64 e1.a.age.most, .int .u64 e1.came])] (.iface 76 (.agg #[.int .i64 e1.a.source, .int .i64 e1.a.rank, .int .i64 e1.a.age.n, .int .i64 e1.a.age.most, .int .u64 e1.came])) ⟨res_tmp, trivial⟩) ?_
   refine nil_ (then_n (seq_ (reg_ ?_)))
   refine pure_ (.bool true) ?_
   refine nil_ (then_n (wp_ret ?_))
   refine ret_ rfl (res_ [.tmp 4] [.bool true] (.bool true) ⟨res_tmp, trivial⟩) ?_
   have zs0 : ¬ e0.a.source = s := by omega
   have zs1 : e1.a.source = s := by omega
   exact ⟨[e0], (some ⟨bl, 0, none⟩), c, came, [⟨bl, true, .cells (onesV [e0] ++ (([.int .i64 e1.a.source, .int .i64 e1.a.rank, .int .i64 e1.a.age.n, .int .i64 e1.a.age.most, .int .u64 e1.came] : List Value) ++ tl)).toArray 76 (0, 0)⟩], by simp [absL, Sd.Q.waits, zs0, zs1], by simp [HeapOk] <;> omega, by simp [absL, Sd.Q.drop, zs0, zs1] <;> omega, ⟨rfl, by have := hc; simp <;> omega, .inr ⟨bl, (([.int .i64 e1.a.source, .int .i64 e1.a.rank, .int .i64 e1.a.age.n, .int .i64 e1.a.age.most, .int .u64 e1.came] : List Value) ++ tl), rfl, rfl, by have := hl; simpa [onesV, oneC] using this⟩⟩, zS33.pickT (A := [⟨bq, true, .cells #[.slice (some ⟨bl, 0, none⟩) 1 c, .int .i64 most, .int .u64 came] 71 (0, 0)⟩, ⟨bl, true, .cells (onesV [e0] ++ (([.int .i64 e1.a.source, .int .i64 e1.a.rank, .int .i64 e1.a.age.n, .int .i64 e1.a.age.most, .int .u64 e1.came] : List Value) ++ tl)).toArray 76 (0, 0)⟩]) (T := bs) [4, 5] 6 (by kernel_rfl) (by kernel_rfl) (by decide) rfl⟩
 intro zh34
 have zh35 := eqF' zh34
 refine wp_skip (blk_n (then_n (reg_ ?_)))
 refine pure_ (.int .i64 2) ?_
 refine pure_ (.int .i64 2) ?_
 refine nil_ (again_ (seq_ (reg_ ?_)))
 refine pure_ (.bool false) ?_
 refine nil_ (then_n (seq_ (cond_F ?_)))
 refine wp_exit (then_e (then_e (blk_e (then_n (seq_ (reg_ ?_))))))
 refine pure_ (.int .i64 (-1)) ?_
 refine nil_ (then_n (wp_ret ?_))
 refine ret_ rfl (res_ [.tmp 4] [.int .i64 (-1)] (.int .i64 (-1)) ⟨res_tmp, trivial⟩) ?_
 refine pure_ (.int .i64 (-1)) ?_
 refine nil_ (then_n (wp_ret ?_))
 refine ret_ rfl (res_ [.tmp 4] [.int .i64 (-1)] (.int .i64 (-1)) ⟨res_tmp, trivial⟩) ?_
 refine pure_ (.int .i64 (-1)) ?_
 refine nil_ (then_n (seq_ (seq_ (reg_ ?_))))
 refine pure_ (.int .i64 (-1)) ?_
 refine pure_ (.bool true) ?_
 refine nil_ (then_n (cond_T ?_))
 refine seq_ (reg_ ?_)
 refine pure_ (.bool false) ?_
 refine nil_ (then_n (wp_ret (then_r ?_)))
 refine ret_ rfl (res_ [.tmp 4] [.bool false] (.bool false) ⟨res_tmp, trivial⟩) ?_
 have zs0 : ¬ e0.a.source = s := by omega
 have zs1 : ¬ e1.a.source = s := by omega
 exact ⟨[e0, e1], (some ⟨bl, 0, none⟩), c, came, [⟨bl, true, .cells (onesV [e0, e1] ++ tl).toArray 76 (0, 0)⟩], by simp [absL, Sd.Q.waits, zs0, zs1], by simp [HeapOk] <;> omega, by simp [absL, Sd.Q.drop, zs0, zs1] <;> omega, ⟨rfl, by have := hc; simp <;> omega, .inr ⟨bl, tl, rfl, rfl, by have := hl; simpa [onesV, oneC] using this⟩⟩, zS24.pickT (A := [⟨bq, true, .cells #[.slice (some ⟨bl, 0, none⟩) 2 c, .int .i64 most, .int .u64 came] 71 (0, 0)⟩, ⟨bl, true, .cells (onesV [e0, e1] ++ tl).toArray 76 (0, 0)⟩]) (T := bs) [3, 4] 5 (by kernel_rfl) (by kernel_rfl) (by decide) rfl⟩

set_option maxRecDepth 100000 in
set_option maxHeartbeats 4000000 in
theorem drop_3 (bq bl c : Nat) (tl : List Value) (most came s : Int) (e0 : One) (e1 : One) (e2 : One) (hc : 3 ≤ c) (hl : (onesV [e0, e1, e2] ++ tl).length = c * 5) (hH : HeapOk [e0, e1, e2]) (w : World) {ms : List Nat} {w0 : World} {bs : List Blk} (S0 : St ms w0 ([⟨bq, true, .cells #[.slice (some ⟨bl, 0, none⟩) 3 c, .int .i64 most, .int .u64 came] 71 (0, 0)⟩, ⟨bl, true, .cells (([.int .i64 e0.a.source, .int .i64 e0.a.rank, .int .i64 e0.a.age.n, .int .i64 e0.a.age.most, .int .u64 e0.came, .int .i64 e1.a.source, .int .i64 e1.a.rank, .int .i64 e1.a.age.n, .int .i64 e1.a.age.most, .int .u64 e1.came, .int .i64 e2.a.source, .int .i64 e2.a.rank, .int .i64 e2.a.age.n, .int .i64 e2.a.age.most, .int .u64 e2.came] : List Value) ++ tl).toArray 76 (0, 0)⟩] ++ bs) w) :
    Gives Try.prog 17 #[.pointer (some ⟨bq, 0, none⟩), .int .i64 s] w fun v w1 => ∃ es x c1 cm rows, v = .bool (Sd.Q.waits (absL [e0, e1, e2]) s) ∧ HeapOk es ∧ absL es = Sd.Q.drop (absL [e0, e1, e2]) s ∧ rowv 5 76 (onesV es) x es.length c1 rows ∧ St ms w0 (⟨bq, true, .cells #[.slice x es.length c1, .int .i64 most, .int .u64 cm] 71 (0, 0)⟩ :: (rows ++ bs)) w1 := by
 simp only [HeapOk] at hH
 refine enter_ Try.func17 rfl ?_
 refine seq_ (reg_ ?_)
 refine pure_ (.bool false) ?_
 refine nil_ (then_n (seq_ (reg_ ?_)))
 refine move_ ?_
 refine pure_ (.int .i64 s) ?_
 refine call_ 24 #[.pointer (some ⟨bq, 0, none⟩), .int .i64 s] ?_
 refine enter_ Try.func24 rfl ?_
 refine seq_ (reg_ ?_)
 refine new_ S0 (fun b => .pointer (some ⟨b, 0, none⟩)) (.cells #[.int .i64 s] 3) ?_
 intro zb1 zw2 zS3
 refine pure_ (.int .i64 0) ?_
 refine nil_ (then_n (seq_ (reg_ ?_)))
 refine move_ ?_
 refine pure_ (.pointer (some ⟨bq, 0, none⟩)) ?_
 refine pure_ (.pointer (some ⟨bq, 0, none⟩)) ?_
 refine load1_ zS3 1 (.slice (some ⟨bl, 0, none⟩) 3 c) bq 0 ?_
 refine pure_ (.func (.func 40) #[] #[.pointer (some ⟨zb1, 0, none⟩)]) ?_
 refine call_ 39 #[.slice (some ⟨bl, 0, none⟩) 3 c, .func (.func 40) #[] #[.pointer (some ⟨zb1, 0, none⟩)]] ?_
 refine enter_ Try.func39 rfl ?_
 refine seq_ (reg_ ?_)
 refine pure_ (.int .i64 0) ?_
 refine nil_ (then_n (seq_ (seq_ (reg_ ?_))))
 refine move_ ?_
 refine pure_ (.int .i64 3) ?_
 refine pure_ (.int .i64 0) ?_
 refine nil_ (then_n (wp_block (loop_ 24 (seq_ (reg_ ?_)))))
 refine pure_ (.bool true) ?_
 refine nil_ (then_n (seq_ (cond_T ?_)))
 refine wp_skip (then_n (seq_ (wp_block (seq_ (reg_ ?_)))))
 refine pure_ (.int .i64 0) ?_
 refine pure_ (.int .i64 0) ?_
 refine nil_ (then_n (seq_ (reg_ ?_)))
 refine move_ ?_
 refine move_ ?_
 refine pure_ (.int .i64 0) ?_
 refine pure_ (.pointer (some ⟨bl, 0, none⟩)) ?_
 refine loadN_ zS3 2 5 #[.int .i64 e0.a.source, .int .i64 e0.a.rank, .int .i64 e0.a.age.n, .int .i64 e0.a.age.most, .int .u64 e0.came] bl 0 ?_
 refine call_ 40 #[.agg #[.int .i64 e0.a.source, .int .i64 e0.a.rank, .int .i64 e0.a.age.n, .int .i64 e0.a.age.most, .int .u64 e0.came], .pointer (some ⟨zb1, 0, none⟩)] ?_
 refine enter_ Try.func40 rfl ?_
 refine seq_ (reg_ ?_)
 refine new_ zS3 (fun b => .pointer (some ⟨b, 0, none⟩)) (.cells #[.int .i64 e0.a.source, .int .i64 e0.a.rank, .int .i64 e0.a.age.n, .int .i64 e0.a.age.most, .int .u64 e0.came] 76) ?_
 intro zb4 zw5 zS6
 refine pure_ (.bool false) ?_
 refine nil_ (then_n (seq_ (reg_ ?_)))
 refine pure_ (.pointer (some ⟨zb4, 0, none⟩)) ?_
 refine pure_ (.pointer (some ⟨zb4, 0, none⟩)) ?_
 refine load1_ zS6 0 (.int .i64 e0.a.source) zb4 0 ?_
 refine load1_ zS6 1 (.int .i64 s) zb1 0 ?_
 refine pure_ (.bool (e0.a.source == s)) ?_
 refine pure_ (.bool (e0.a.source == s)) ?_
 refine nil_ (then_n (wp_ret ?_))
 refine ret_ rfl (res_ [.tmp 3] [.bool (e0.a.source == s)] (.bool (e0.a.source == s)) ⟨res_tmp, trivial⟩) ?_
 refine nil_ (then_n ?_)
 refine cond_S (e0.a.source == s) ?_ ?_
 · intro zh7
   have zh8 := eqT' zh7
   refine seq_ (reg_ ?_)
   refine pure_ (.int .i64 0) ?_
   refine pure_ (.int .i64 0) ?_
   refine nil_ (then_n (wp_ret (blk_r (then_r (then_r (blk_r (then_r ?_)))))))
   refine ret_ rfl (res_ [.tmp 4] [.int .i64 0] (.int .i64 0) ⟨res_tmp, trivial⟩) ?_
   refine pure_ (.int .i64 0) ?_
   refine nil_ (then_n (wp_ret ?_))
   refine ret_ rfl (res_ [.tmp 4] [.int .i64 0] (.int .i64 0) ⟨res_tmp, trivial⟩) ?_
   refine pure_ (.int .i64 0) ?_
   refine nil_ (then_n (seq_ (seq_ (reg_ ?_))))
   refine pure_ (.int .i64 0) ?_
   refine pure_ (.bool false) ?_
   refine nil_ (then_n (cond_F ?_))
   refine wp_skip (then_n (seq_ (reg_ ?_)))
   refine move_ ?_
   refine pure_ (.pointer (some ⟨bq, 0, none⟩)) ?_
   refine pure_ (.pointer (some ⟨bq, 0, none⟩)) ?_
   refine pure_ (.iface 74 (.pointer (some ⟨bq, 0, none⟩))) ?_
   refine pure_ (.int .i64 0) ?_
   refine call_ 28 #[.iface 74 (.pointer (some ⟨bq, 0, none⟩)), .int .i64 0] ?_
   refine enter_ Try.func28 rfl ?_
   refine seq_ (reg_ ?_)
   refine pure_ (.nilIface) ?_
   refine nil_ (then_n (seq_ (reg_ ?_)))
   refine move_ ?_
   refine callD_ zS6 2 (.slice (some ⟨bl, 0, none⟩) 3 c) bq 0 68 81 #[] ?_
   refine enter_ Try.func81 rfl ?_
   refine seq_ (reg_ ?_)
   refine pure_ (.int .i64 0) ?_
   refine nil_ (then_n (seq_ (reg_ ?_)))
   refine move_ ?_
   refine pure_ (.int .i64 3) ?_
   refine pure_ (.int .i64 3) ?_
   refine nil_ (then_n (wp_ret ?_))
   refine ret_ rfl (res_ [.tmp 2] [.int .i64 3] (.int .i64 3) ⟨res_tmp, trivial⟩) ?_
   refine pure_ (.int .i64 2) ?_
   refine pure_ (.int .i64 2) ?_
   refine nil_ (then_n (seq_ (seq_ (reg_ ?_))))
   refine pure_ (.int .i64 2) ?_
   refine pure_ (.int .i64 0) ?_
   refine pure_ (.bool true) ?_
   refine nil_ (then_n (cond_T ?_))
   refine seq_ (reg_ ?_)
   refine move_ ?_
   refine pure_ (.int .i64 0) ?_
   refine pure_ (.int .i64 2) ?_
   refine callD_ zS6 2 (.slice (some ⟨bl, 0, none⟩) 3 c) bq 0 68 83 #[.int .i64 0, .int .i64 2] ?_
   refine enter_ Try.func83 rfl ?_
   refine storeL_ zS6 14 13 3 bl 0 [[13, 7], [13, 11]] (.agg #[.int .i64 e2.a.source, .int .i64 e2.a.rank, .int .i64 e2.a.age.n, .int .i64 e2.a.age.most, .int .u64 e2.came]) [.slice (some ⟨bl, 0, none⟩) 3 c, .int .i64 0, .slice (some ⟨bl, 0, none⟩) 3 c, .int .i64 2, .slice (some ⟨bl, 0, none⟩) 3 c, .int .i64 2, .pointer (some ⟨bl, 10, none⟩), .agg #[.int .i64 e2.a.source, .int .i64 e2.a.rank, .int .i64 e2.a.age.n, .int .i64 e2.a.age.most, .int .u64 e2.came], .slice (some ⟨bl, 0, none⟩) 3 c, .int .i64 0, .pointer (some ⟨bl, 0, none⟩), .agg #[.int .i64 e0.a.source, .int .i64 e0.a.rank, .int .i64 e0.a.age.n, .int .i64 e0.a.age.most, .int .u64 e0.came], .pointer (some ⟨bl, 0, none⟩), undef] [[14, 0], [14, 1], [14, 2], [14, 3], [14, 4], [14, 5], [14, 6], [14, 7], [14, 8], [14, 9], [14, 10], [14, 11], [14, 12], [14, 13], [15, 0], [15, 1], [15, 2], [15, 3], [15, 4], [15, 5], [15, 6], [15, 7], [15, 8], [15, 9], [15, 10], [15, 11], [15, 12], [15, 13], [15, 14]] (estep_cons eP_ (estep_cons eP_ (estep_cons eP_ (estep_cons eP_ (estep_cons eP_ (estep_cons eP_ (estep_cons eP_ (estep_cons (eNp_ zS6 3 bl 10 5 #[.int .i64 e2.a.source, .int .i64 e2.a.rank, .int .i64 e2.a.age.n, .int .i64 e2.a.age.most, .int .u64 e2.came]) (estep_cons eP_ (estep_cons eP_ (estep_cons eP_ (estep_cons (eNp_ zS6 3 bl 0 5 #[.int .i64 e0.a.source, .int .i64 e0.a.rank, .int .i64 e0.a.age.n, .int .i64 e0.a.age.most, .int .u64 e0.came]) (estep_cons eP_ (estep_cons (eW_ zS6 3 (.agg #[.int .i64 e2.a.source, .int .i64 e2.a.rank, .int .i64 e2.a.age.n, .int .i64 e2.a.age.most, .int .u64 e2.came]) bl 0) (estep_nil))))))))))))))) ?_
   intro zw9 zS10
   refine pure_ (.pointer (some ⟨bl, 10, none⟩)) ?_
   refine store_ zS10 3 (.agg #[.int .i64 e0.a.source, .int .i64 e0.a.rank, .int .i64 e0.a.age.n, .int .i64 e0.a.age.most, .int .u64 e0.came]) bl 10 ?_
   intro zw11 zS12
   refine nil_ ?_
   refine end_ rfl (res_ [] [] (.tuple #[]) trivial) ?_
   refine nil_ (then_n (seq_ (reg_ ?_)))
   refine move_ ?_
   refine pure_ (.int .i64 0) ?_
   refine pure_ (.int .i64 2) ?_
   refine call_ 44 #[.iface 74 (.pointer (some ⟨bq, 0, none⟩)), .int .i64 0, .int .i64 2] ?_
   refine enter_ Try.func44 rfl ?_
   refine seq_ (reg_ ?_)
   refine pure_ (.bool false) ?_
   refine nil_ (then_n (seq_ (reg_ ?_)))
   refine pure_ (.int .i64 0) ?_
   refine pure_ (.int .i64 0) ?_
   refine nil_ (then_n (seq_ (wp_block (loop_ 24 (wp_block (seq_ (reg_ ?_)))))))
   refine pure_ (.int .i64 0) ?_
   refine pure_ (.int .i64 0) ?_
   refine pure_ (.int .i64 1) ?_
   refine pure_ (.int .i64 1) ?_
   refine nil_ (then_n (seq_ (seq_ (reg_ ?_))))
   refine pure_ (.int .i64 1) ?_
   refine pure_ (.int .i64 2) ?_
   refine pure_ (.bool false) ?_
   refine pure_ (.bool false) ?_
   refine pure_ (.int .i64 1) ?_
   refine pure_ (.bool false) ?_
   refine pure_ (.bool false) ?_
   refine nil_ (then_n (cond_F ?_))
   refine wp_skip (then_n (seq_ (reg_ ?_)))
   refine pure_ (.int .i64 1) ?_
   refine pure_ (.int .i64 1) ?_
   refine nil_ (then_n (seq_ (seq_ (reg_ ?_))))
   refine pure_ (.int .i64 1) ?_
   refine pure_ (.int .i64 2) ?_
   refine pure_ (.int .i64 2) ?_
   refine nil_ (then_n (seq_ (reg_ ?_)))
   refine pure_ (.int .i64 2) ?_
   refine pure_ (.int .i64 2) ?_
   refine pure_ (.bool false) ?_
   refine pure_ (.bool false) ?_
   refine skip_ ?_
   refine skip_ ?_
   refine skip_ ?_
   refine skip_ ?_
   refine pure_ (.bool false) ?_
   refine nil_ (then_n (cond_F ?_))
   refine wp_skip (then_n (seq_ (seq_ (reg_ ?_))))
   refine move_ ?_
   refine pure_ (.int .i64 1) ?_
   refine pure_ (.int .i64 0) ?_
   refine callD_ zS12 2 (.slice (some ⟨bl, 0, none⟩) 3 c) bq 0 68 82 #[.int .i64 1, .int .i64 0] ?_
   refine enter_ Try.func82 rfl ?_
   refine seq_ (reg_ ?_)
   refine pure_ (.bool false) ?_
   refine nil_ (then_n (seq_ (seq_ ?_)))
   refine quietL_ 12 [.slice (some ⟨bl, 0, none⟩) 3 c, .int .i64 1, .pointer (some ⟨bl, 5, none⟩), .pointer (some ⟨bl, 5, none⟩), .pointer (some ⟨bl, 6, none⟩), .int .i64 e1.a.rank, .slice (some ⟨bl, 0, none⟩) 3 c, .int .i64 0, .pointer (some ⟨bl, 0, none⟩), .pointer (some ⟨bl, 0, none⟩), .pointer (some ⟨bl, 1, none⟩), .int .i64 e2.a.rank] [[12, 5, 4, 3, 2, 0], [12, 5, 4, 3, 2, 1], [12, 5, 4, 3, 2], [12, 5, 4, 3], [12, 5, 4], [12, 5], [12, 11, 10, 9, 8, 6], [12, 11, 10, 9, 8, 7], [12, 11, 10, 9, 8], [12, 11, 10, 9], [12, 11, 10], [12, 11]] (step_cons qP_ (step_cons qP_ (step_cons qP_ (step_cons qP_ (step_cons qP_ (step_cons (qL_ zS12 3 bl 6) (step_cons qP_ (step_cons qP_ (step_cons qP_ (step_cons qP_ (step_cons qP_ (step_cons (qL_ zS12 3 bl 1) (step_nil))))))))))))) ?_
   intro zw13 zh15
   have zS14 := zS12.quiet zh15
   refine pure_ (.bool (e1.a.rank != e2.a.rank)) ?_
   refine nil_ (then_n ?_)
   refine cond_S (e1.a.rank != e2.a.rank) ?_ ?_
   · intro zh16
     have zh17 := neT' zh16
     refine seq_ ?_
     refine quietL_ 12 [.slice (some ⟨bl, 0, none⟩) 3 c, .int .i64 1, .pointer (some ⟨bl, 5, none⟩), .pointer (some ⟨bl, 5, none⟩), .pointer (some ⟨bl, 6, none⟩), .int .i64 e1.a.rank, .slice (some ⟨bl, 0, none⟩) 3 c, .int .i64 0, .pointer (some ⟨bl, 0, none⟩), .pointer (some ⟨bl, 0, none⟩), .pointer (some ⟨bl, 1, none⟩), .int .i64 e2.a.rank] [[12, 5, 4, 3, 2, 0], [12, 5, 4, 3, 2, 1], [12, 5, 4, 3, 2], [12, 5, 4, 3], [12, 5, 4], [12, 5], [12, 11, 10, 9, 8, 6], [12, 11, 10, 9, 8, 7], [12, 11, 10, 9, 8], [12, 11, 10, 9], [12, 11, 10], [12, 11], [13, 0], [13, 1], [13, 2], [13, 3], [13, 4], [13, 5], [13, 6], [13, 7], [13, 8], [13, 9], [13, 10], [13, 11], [13, 12]] (step_cons qP_ (step_cons qP_ (step_cons qP_ (step_cons qP_ (step_cons qP_ (step_cons (qL_ zS14 3 bl 6) (step_cons qP_ (step_cons qP_ (step_cons qP_ (step_cons qP_ (step_cons qP_ (step_cons (qL_ zS14 3 bl 1) (step_nil))))))))))))) ?_
     intro zw18 zh20
     have zS19 := zS14.quiet zh20
     refine pure_ (.bool (decide (e1.a.rank < e2.a.rank))) ?_
     refine assign_ ?_
     refine nil_ (then_n (wp_ret (then_r ?_)))
     refine ret_ rfl (res_ [.tmp 6] [.bool (decide (e1.a.rank < e2.a.rank))] (.bool (decide (e1.a.rank < e2.a.rank))) ⟨res_tmp, trivial⟩) ?_
     refine pure_ (.bool (!(decide (e1.a.rank < e2.a.rank)))) ?_
     refine nil_ (then_n ?_)
     refine cond_S (!(decide (e1.a.rank < e2.a.rank))) ?_ ?_
     · intro zh21
       have zh22 := notT' zh21
       have zh23 := ltF' zh22
       refine wp_exit (then_e ?_)
       refine blk_o ?_
       refine then_e (blk_e (then_n (seq_ (reg_ ?_))))
       refine pure_ (.int .i64 0) ?_
       refine pure_ (.int .i64 0) ?_
       refine pure_ (.bool false) ?_
       refine pure_ (.bool false) ?_
       refine nil_ (then_n (wp_ret ?_))
       refine ret_ rfl (res_ [.tmp 6] [.bool false] (.bool false) ⟨res_tmp, trivial⟩) ?_
       refine pure_ (.bool true) ?_
       refine nil_ (then_n (cond_T ?_))
       refine reg_ ?_
       refine move_ ?_
       refine pure_ (.int .i64 0) ?_
       refine call_ 41 #[.iface 74 (.pointer (some ⟨bq, 0, none⟩)), .int .i64 0] ?_
       refine enter_ Try.func41 rfl ?_
       refine wp_block (loop_ 24 (wp_block (seq_ (reg_ ?_))))
       refine pure_ (.int .i64 0) ?_
       refine pure_ (.int .i64 (-1)) ?_
       refine pure_ (.int .i64 0) ?_
       refine pure_ (.int .i64 0) ?_
       refine nil_ (then_n (seq_ (seq_ (reg_ ?_))))
       refine pure_ (.int .i64 0) ?_
       refine pure_ (.int .i64 0) ?_
       refine pure_ (.bool true) ?_
       refine pure_ (.bool true) ?_
       refine skip_ ?_
       refine skip_ ?_
       refine skip_ ?_
       refine skip_ ?_
       refine skip_ ?_
       refine pure_ (.bool true) ?_
       refine nil_ (then_n (cond_T ?_))
       refine wp_exit (then_e ?_)
       refine blk_o ?_
       refine then_e (blk_e ?_)
       refine end_ rfl (res_ [] [] (.tuple #[]) trivial) ?_
       refine nil_ (then_n (seq_ (reg_ ?_)))
       refine move_ ?_
       refine call_ 84 #[.pointer (some ⟨bq, 0, none⟩)] ?_
       refine enter_ Try.func84 rfl ?_
       refine seq_ (reg_ ?_)
       refine pure_ (.nilIface) ?_
       refine nil_ (then_n (seq_ (reg_ ?_)))
       refine move_ ?_
       refine pure_ (.pointer (some ⟨bq, 0, none⟩)) ?_
       refine load1_ zS19 2 (.slice (some ⟨bl, 0, none⟩) 3 c) bq 0 ?_
       refine pure_ (.int .i64 3) ?_
       refine pure_ (.int .i64 2) ?_
       refine pure_ (.int .i64 2) ?_
       refine nil_ (then_n (seq_ (reg_ ?_)))
       refine move_ ?_
       refine pure_ (.pointer (some ⟨bq, 0, none⟩)) ?_
       refine load1_ zS19 2 (.slice (some ⟨bl, 0, none⟩) 3 c) bq 0 ?_
       refine pure_ (.int .i64 2) ?_
       refine pure_ (.pointer (some ⟨bl, 10, none⟩)) ?_
       refine loadN_ zS19 3 5 #[.int .i64 e0.a.source, .int .i64 e0.a.rank, .int .i64 e0.a.age.n, .int .i64 e0.a.age.most, .int .u64 e0.came] bl 10 ?_
       refine new_ zS19 (fun b => .pointer (some ⟨b, 0, none⟩)) (.cells #[.int .i64 0, .int .i64 0, .int .i64 0, .int .i64 0, .int .u64 0] 76) ?_
       intro zb24 zw25 zS26
       refine store_ zS26 0 (.agg #[.int .i64 e0.a.source, .int .i64 e0.a.rank, .int .i64 e0.a.age.n, .int .i64 e0.a.age.most, .int .u64 e0.came]) zb24 0 ?_
       intro zw27 zS28
       refine nil_ (then_n (seq_ (reg_ ?_)))
       refine move_ ?_
       refine move_ ?_
       refine pure_ (.pointer (some ⟨bq, 0, none⟩)) ?_
       refine load1_ zS28 3 (.slice (some ⟨bl, 0, none⟩) 3 c) bq 0 ?_
       refine pure_ (.int .i64 2) ?_
       refine pure_ (.slice (some ⟨bl, 0, none⟩) 2 c) ?_ (h := run_cut (n := 3) (e := 76) (kd := .i64) 2 (by omega))
       refine pure_ (.pointer (some ⟨bq, 0, none⟩)) ?_
       refine store_ zS28 3 (.slice (some ⟨bl, 0, none⟩) 2 c) bq 0 ?_
       intro zw29 zS30
       refine nil_ (then_n (seq_ (reg_ ?_)))
       refine loadN_ zS30 0 5 #[.int .i64 e0.a.source, .int .i64 e0.a.rank, .int .i64 e0.a.age.n, .int .i64 e0.a.age.most, .int .u64 e0.came] zb24 0 ?_
       refine pure_ (.iface 76 (.agg #[.int .i64 e0.a.source, .int .i64 e0.a.rank, .int .i64 e0.a.age.n, .int .i64 e0.a.age.most, .int .u64 e0.came])) ?_
       refine assign_ ?_
       refine nil_ (then_n (wp_ret ?_))
       refine ret_ rfl (res_ [.tmp 2] [.iface 76 (.agg #[.int .i64 e0.a.source, .int .i64 e0.a.rank, .int .i64 e0.a.age.n, .int .i64 e0.a.age.most, .int .u64 e0.came])] (.iface 76 (.agg #[.int .i64 e0.a.source, .int .i64 e0.a.rank, .int .i64 e0.a.age.n, .int .i64 e0.a.age.most, .int .u64 e0.came])) ⟨res_tmp, trivial⟩) ?_
       refine assign_ ?_
       refine nil_ (then_n (wp_ret ?_))
       refine ret_ rfl (res_ [.tmp 4] [.iface 76 (.agg #[.int .i64 e0.a.source, .int .i64 e0.a.rank, .int .i64 e0.a.age.n, .int .i64 e0.a.age.most, .int .u64 e0.came])] (.iface 76 (.agg #[.int .i64 e0.a.source, .int .i64 e0.a.rank, .int .i64 e0.a.age.n, .int .i64 e0.a.age.most, .int .u64 e0.came])) ⟨res_tmp, trivial⟩) ?_
       refine nil_ (then_n (seq_ (reg_ ?_)))
       refine pure_ (.bool true) ?_
       refine nil_ (then_n (wp_ret ?_))
       refine ret_ rfl (res_ [.tmp 4] [.bool true] (.bool true) ⟨res_tmp, trivial⟩) ?_
       have zs0 : e0.a.source = s := by omega
       have zs1 : ¬ e1.a.source = s := by omega
       have zs2 : ¬ e2.a.source = s := by omega
       have zr0 : e2.a.rank < e1.a.rank ∧ ¬ e1.a.rank < e2.a.rank ∧ e2.a.rank ≤ e1.a.rank ∧ ¬ e1.a.rank ≤ e2.a.rank := by omega
       exact ⟨[e2, e1], (some ⟨bl, 0, none⟩), c, came, [⟨bl, true, .cells (onesV [e2, e1] ++ (([.int .i64 e0.a.source, .int .i64 e0.a.rank, .int .i64 e0.a.age.n, .int .i64 e0.a.age.most, .int .u64 e0.came] : List Value) ++ tl)).toArray 76 (0, 0)⟩], by simp [absL, Sd.Q.waits, zs0, zs1, zs2, zr0], by simp [HeapOk] <;> omega, by simp [absL, Sd.Q.drop, zs0, zs1, zs2, zr0] <;> omega, ⟨rfl, by have := hc; simp <;> omega, .inr ⟨bl, (([.int .i64 e0.a.source, .int .i64 e0.a.rank, .int .i64 e0.a.age.n, .int .i64 e0.a.age.most, .int .u64 e0.came] : List Value) ++ tl), rfl, rfl, by have := hl; simpa [onesV, oneC] using this⟩⟩, zS30.pickT (A := [⟨bq, true, .cells #[.slice (some ⟨bl, 0, none⟩) 2 c, .int .i64 most, .int .u64 came] 71 (0, 0)⟩, ⟨bl, true, .cells (onesV [e2, e1] ++ (([.int .i64 e0.a.source, .int .i64 e0.a.rank, .int .i64 e0.a.age.n, .int .i64 e0.a.age.most, .int .u64 e0.came] : List Value) ++ tl)).toArray 76 (0, 0)⟩]) (T := bs) [3, 4] 5 (by kernel_rfl) (by kernel_rfl) (by decide) rfl⟩
     intro zh31
     have zh32 := notF' zh31
     have zh33 := ltT' zh32
     refine wp_skip (then_n (seq_ (reg_ ?_)))
     refine move_ ?_
     refine pure_ (.int .i64 0) ?_
     refine pure_ (.int .i64 1) ?_
     refine callD_ zS19 2 (.slice (some ⟨bl, 0, none⟩) 3 c) bq 0 68 83 #[.int .i64 0, .int .i64 1] ?_
     refine enter_ Try.func83 rfl ?_
     refine storeL_ zS19 14 13 3 bl 0 [[13, 7], [13, 11]] (.agg #[.int .i64 e1.a.source, .int .i64 e1.a.rank, .int .i64 e1.a.age.n, .int .i64 e1.a.age.most, .int .u64 e1.came]) [.slice (some ⟨bl, 0, none⟩) 3 c, .int .i64 0, .slice (some ⟨bl, 0, none⟩) 3 c, .int .i64 1, .slice (some ⟨bl, 0, none⟩) 3 c, .int .i64 1, .pointer (some ⟨bl, 5, none⟩), .agg #[.int .i64 e1.a.source, .int .i64 e1.a.rank, .int .i64 e1.a.age.n, .int .i64 e1.a.age.most, .int .u64 e1.came], .slice (some ⟨bl, 0, none⟩) 3 c, .int .i64 0, .pointer (some ⟨bl, 0, none⟩), .agg #[.int .i64 e2.a.source, .int .i64 e2.a.rank, .int .i64 e2.a.age.n, .int .i64 e2.a.age.most, .int .u64 e2.came], .pointer (some ⟨bl, 0, none⟩), undef] [[14, 0], [14, 1], [14, 2], [14, 3], [14, 4], [14, 5], [14, 6], [14, 7], [14, 8], [14, 9], [14, 10], [14, 11], [14, 12], [14, 13], [15, 0], [15, 1], [15, 2], [15, 3], [15, 4], [15, 5], [15, 6], [15, 7], [15, 8], [15, 9], [15, 10], [15, 11], [15, 12], [15, 13], [15, 14]] (estep_cons eP_ (estep_cons eP_ (estep_cons eP_ (estep_cons eP_ (estep_cons eP_ (estep_cons eP_ (estep_cons eP_ (estep_cons (eNp_ zS19 3 bl 5 5 #[.int .i64 e1.a.source, .int .i64 e1.a.rank, .int .i64 e1.a.age.n, .int .i64 e1.a.age.most, .int .u64 e1.came]) (estep_cons eP_ (estep_cons eP_ (estep_cons eP_ (estep_cons (eNp_ zS19 3 bl 0 5 #[.int .i64 e2.a.source, .int .i64 e2.a.rank, .int .i64 e2.a.age.n, .int .i64 e2.a.age.most, .int .u64 e2.came]) (estep_cons eP_ (estep_cons (eW_ zS19 3 (.agg #[.int .i64 e1.a.source, .int .i64 e1.a.rank, .int .i64 e1.a.age.n, .int .i64 e1.a.age.most, .int .u64 e1.came]) bl 0) (estep_nil))))))))))))))) ?_
     intro zw34 zS35
     refine pure_ (.pointer (some ⟨bl, 5, none⟩)) ?_
     refine store_ zS35 3 (.agg #[.int .i64 e2.a.source, .int .i64 e2.a.rank, .int .i64 e2.a.age.n, .int .i64 e2.a.age.most, .int .u64 e2.came]) bl 5 ?_
     intro zw36 zS37
     refine nil_ ?_
     refine end_ rfl (res_ [] [] (.tuple #[]) trivial) ?_
     refine nil_ (then_n (reg_ ?_))
     refine pure_ (.int .i64 1) ?_
     refine pure_ (.int .i64 1) ?_
     refine nil_ (blk_n (again_ (wp_block (seq_ (reg_ ?_)))))
     refine pure_ (.int .i64 1) ?_
     refine pure_ (.int .i64 2) ?_
     refine pure_ (.int .i64 3) ?_
     refine pure_ (.int .i64 3) ?_
     refine nil_ (then_n (seq_ (seq_ (reg_ ?_))))
     refine pure_ (.int .i64 3) ?_
     refine pure_ (.int .i64 2) ?_
     refine pure_ (.bool true) ?_
     refine pure_ (.bool true) ?_
     refine skip_ ?_
     refine skip_ ?_
     refine pure_ (.bool true) ?_
     refine nil_ (then_n (cond_T ?_))
     refine wp_exit (then_e ?_)
     refine blk_o ?_
     refine then_e (blk_e (then_n (seq_ (reg_ ?_))))
     refine pure_ (.int .i64 1) ?_
     refine pure_ (.int .i64 0) ?_
     refine pure_ (.bool true) ?_
     refine pure_ (.bool true) ?_
     refine nil_ (then_n (wp_ret ?_))
     refine ret_ rfl (res_ [.tmp 6] [.bool true] (.bool true) ⟨res_tmp, trivial⟩) ?_
     refine pure_ (.bool false) ?_
     refine nil_ (then_n (cond_F ?_))
     refine wp_skip (then_n (seq_ (reg_ ?_)))
     refine move_ ?_
     refine call_ 84 #[.pointer (some ⟨bq, 0, none⟩)] ?_
     refine enter_ Try.func84 rfl ?_
     refine seq_ (reg_ ?_)
     refine pure_ (.nilIface) ?_
     refine nil_ (then_n (seq_ (reg_ ?_)))
     refine move_ ?_
     refine pure_ (.pointer (some ⟨bq, 0, none⟩)) ?_
     refine load1_ zS37 2 (.slice (some ⟨bl, 0, none⟩) 3 c) bq 0 ?_
     refine pure_ (.int .i64 3) ?_
     refine pure_ (.int .i64 2) ?_
     refine pure_ (.int .i64 2) ?_
     refine nil_ (then_n (seq_ (reg_ ?_)))
     refine move_ ?_
     refine pure_ (.pointer (some ⟨bq, 0, none⟩)) ?_
     refine load1_ zS37 2 (.slice (some ⟨bl, 0, none⟩) 3 c) bq 0 ?_
     refine pure_ (.int .i64 2) ?_
     refine pure_ (.pointer (some ⟨bl, 10, none⟩)) ?_
     refine loadN_ zS37 3 5 #[.int .i64 e0.a.source, .int .i64 e0.a.rank, .int .i64 e0.a.age.n, .int .i64 e0.a.age.most, .int .u64 e0.came] bl 10 ?_
     refine new_ zS37 (fun b => .pointer (some ⟨b, 0, none⟩)) (.cells #[.int .i64 0, .int .i64 0, .int .i64 0, .int .i64 0, .int .u64 0] 76) ?_
     intro zb38 zw39 zS40
     refine store_ zS40 0 (.agg #[.int .i64 e0.a.source, .int .i64 e0.a.rank, .int .i64 e0.a.age.n, .int .i64 e0.a.age.most, .int .u64 e0.came]) zb38 0 ?_
     intro zw41 zS42
     refine nil_ (then_n (seq_ (reg_ ?_)))
     refine move_ ?_
     refine move_ ?_
     refine pure_ (.pointer (some ⟨bq, 0, none⟩)) ?_
     refine load1_ zS42 3 (.slice (some ⟨bl, 0, none⟩) 3 c) bq 0 ?_
     refine pure_ (.int .i64 2) ?_
     refine pure_ (.slice (some ⟨bl, 0, none⟩) 2 c) ?_ (h := run_cut (n := 3) (e := 76) (kd := .i64) 2 (by omega))
     refine pure_ (.pointer (some ⟨bq, 0, none⟩)) ?_
     refine store_ zS42 3 (.slice (some ⟨bl, 0, none⟩) 2 c) bq 0 ?_
     intro zw43 zS44
     refine nil_ (then_n (seq_ (reg_ ?_)))
     refine loadN_ zS44 0 5 #[.int .i64 e0.a.source, .int .i64 e0.a.rank, .int .i64 e0.a.age.n, .int .i64 e0.a.age.most, .int .u64 e0.came] zb38 0 ?_
     refine pure_ (.iface 76 (.agg #[.int .i64 e0.a.source, .int .i64 e0.a.rank, .int .i64 e0.a.age.n, .int .i64 e0.a.age.most, .int .u64 e0.came])) ?_
     refine assign_ ?_
     refine nil_ (then_n (wp_ret ?_))
     refine ret_ rfl (res_ [.tmp 2] [.iface 76 (.agg #[.int .i64 e0.a.source, .int .i64 e0.a.rank, .int .i64 e0.a.age.n, .int .i64 e0.a.age.most, .int .u64 e0.came])] (.iface 76 (.agg #[.int .i64 e0.a.source, .int .i64 e0.a.rank, .int .i64 e0.a.age.n, .int .i64 e0.a.age.most, .int .u64 e0.came])) ⟨res_tmp, trivial⟩) ?_
     refine assign_ ?_
     refine nil_ (then_n (wp_ret ?_))
     refine ret_ rfl (res_ [.tmp 4] [.iface 76 (.agg #[.int .i64 e0.a.source, .int .i64 e0.a.rank, .int .i64 e0.a.age.n, .int .i64 e0.a.age.most, .int .u64 e0.came])] (.iface 76 (.agg #[.int .i64 e0.a.source, .int .i64 e0.a.rank, .int .i64 e0.a.age.n, .int .i64 e0.a.age.most, .int .u64 e0.came])) ⟨res_tmp, trivial⟩) ?_
     refine nil_ (then_n (seq_ (reg_ ?_)))
     refine pure_ (.bool true) ?_
     refine nil_ (then_n (wp_ret ?_))
     refine ret_ rfl (res_ [.tmp 4] [.bool true] (.bool true) ⟨res_tmp, trivial⟩) ?_
     have zs0 : e0.a.source = s := by omega
     have zs1 : ¬ e1.a.source = s := by omega
     have zs2 : ¬ e2.a.source = s := by omega
     have zr0 : e1.a.rank < e2.a.rank ∧ ¬ e2.a.rank < e1.a.rank ∧ e1.a.rank ≤ e2.a.rank ∧ ¬ e2.a.rank ≤ e1.a.rank := by omega
     exact ⟨[e1, e2], (some ⟨bl, 0, none⟩), c, came, [⟨bl, true, .cells (onesV [e1, e2] ++ (([.int .i64 e0.a.source, .int .i64 e0.a.rank, .int .i64 e0.a.age.n, .int .i64 e0.a.age.most, .int .u64 e0.came] : List Value) ++ tl)).toArray 76 (0, 0)⟩], by simp [absL, Sd.Q.waits, zs0, zs1, zs2, zr0], by simp [HeapOk] <;> omega, by simp [absL, Sd.Q.drop, zs0, zs1, zs2, zr0] <;> omega, ⟨rfl, by have := hc; simp <;> omega, .inr ⟨bl, (([.int .i64 e0.a.source, .int .i64 e0.a.rank, .int .i64 e0.a.age.n, .int .i64 e0.a.age.most, .int .u64 e0.came] : List Value) ++ tl), rfl, rfl, by have := hl; simpa [onesV, oneC] using this⟩⟩, zS44.pickT (A := [⟨bq, true, .cells #[.slice (some ⟨bl, 0, none⟩) 2 c, .int .i64 most, .int .u64 came] 71 (0, 0)⟩, ⟨bl, true, .cells (onesV [e1, e2] ++ (([.int .i64 e0.a.source, .int .i64 e0.a.rank, .int .i64 e0.a.age.n, .int .i64 e0.a.age.most, .int .u64 e0.came] : List Value) ++ tl)).toArray 76 (0, 0)⟩]) (T := bs) [3, 4] 5 (by kernel_rfl) (by kernel_rfl) (by decide) rfl⟩
   intro zh45
   have zh46 := neF' zh45
   refine wp_skip (then_n (seq_ ?_))
   refine quietL_ 10 [.slice (some ⟨bl, 0, none⟩) 3 c, .int .i64 1, .pointer (some ⟨bl, 5, none⟩), .pointer (some ⟨bl, 9, none⟩), .int .u64 e1.came, .slice (some ⟨bl, 0, none⟩) 3 c, .int .i64 0, .pointer (some ⟨bl, 0, none⟩), .pointer (some ⟨bl, 4, none⟩), .int .u64 e2.came] [[10, 4, 3, 2, 0], [10, 4, 3, 2, 1], [10, 4, 3, 2], [10, 4, 3], [10, 4], [10, 9, 8, 7, 5], [10, 9, 8, 7, 6], [10, 9, 8, 7], [10, 9, 8], [10, 9], [11, 0], [11, 1], [11, 2], [11, 3], [11, 4], [11, 5], [11, 6], [11, 7], [11, 8], [11, 9], [11, 10]] (step_cons qP_ (step_cons qP_ (step_cons qP_ (step_cons qP_ (step_cons (qL_ zS14 3 bl 9) (step_cons qP_ (step_cons qP_ (step_cons qP_ (step_cons qP_ (step_cons (qL_ zS14 3 bl 4) (step_nil))))))))))) ?_
   intro zw47 zh49
   have zS48 := zS14.quiet zh49
   refine pure_ (.bool (decide (e1.came < e2.came))) ?_
   refine assign_ ?_
   refine nil_ (then_n (wp_ret ?_))
   refine ret_ rfl (res_ [.tmp 6] [.bool (decide (e1.came < e2.came))] (.bool (decide (e1.came < e2.came))) ⟨res_tmp, trivial⟩) ?_
   refine pure_ (.bool (!(decide (e1.came < e2.came)))) ?_
   refine nil_ (then_n ?_)
   refine cond_S (!(decide (e1.came < e2.came))) ?_ ?_
   · intro zh50
     have zh51 := notT' zh50
     have zh52 := ltF' zh51
     refine wp_exit (then_e ?_)
     refine blk_o ?_
     refine then_e (blk_e (then_n (seq_ (reg_ ?_))))
     refine pure_ (.int .i64 0) ?_
     refine pure_ (.int .i64 0) ?_
     refine pure_ (.bool false) ?_
     refine pure_ (.bool false) ?_
     refine nil_ (then_n (wp_ret ?_))
     refine ret_ rfl (res_ [.tmp 6] [.bool false] (.bool false) ⟨res_tmp, trivial⟩) ?_
     refine pure_ (.bool true) ?_
     refine nil_ (then_n (cond_T ?_))
     refine reg_ ?_
     refine move_ ?_
     refine pure_ (.int .i64 0) ?_
     refine call_ 41 #[.iface 74 (.pointer (some ⟨bq, 0, none⟩)), .int .i64 0] ?_
     refine enter_ Try.func41 rfl ?_
     refine wp_block (loop_ 24 (wp_block (seq_ (reg_ ?_))))
     refine pure_ (.int .i64 0) ?_
     refine pure_ (.int .i64 (-1)) ?_
     refine pure_ (.int .i64 0) ?_
     refine pure_ (.int .i64 0) ?_
     refine nil_ (then_n (seq_ (seq_ (reg_ ?_))))
     refine pure_ (.int .i64 0) ?_
     refine pure_ (.int .i64 0) ?_
     refine pure_ (.bool true) ?_
     refine pure_ (.bool true) ?_
     refine skip_ ?_
     refine skip_ ?_
     refine skip_ ?_
     refine skip_ ?_
     refine skip_ ?_
     refine pure_ (.bool true) ?_
     refine nil_ (then_n (cond_T ?_))
     refine wp_exit (then_e ?_)
     refine blk_o ?_
     refine then_e (blk_e ?_)
     refine end_ rfl (res_ [] [] (.tuple #[]) trivial) ?_
     refine nil_ (then_n (seq_ (reg_ ?_)))
     refine move_ ?_
     refine call_ 84 #[.pointer (some ⟨bq, 0, none⟩)] ?_
     refine enter_ Try.func84 rfl ?_
     refine seq_ (reg_ ?_)
     refine pure_ (.nilIface) ?_
     refine nil_ (then_n (seq_ (reg_ ?_)))
     refine move_ ?_
     refine pure_ (.pointer (some ⟨bq, 0, none⟩)) ?_
     refine load1_ zS48 2 (.slice (some ⟨bl, 0, none⟩) 3 c) bq 0 ?_
     refine pure_ (.int .i64 3) ?_
     refine pure_ (.int .i64 2) ?_
     refine pure_ (.int .i64 2) ?_
     refine nil_ (then_n (seq_ (reg_ ?_)))
     refine move_ ?_
     refine pure_ (.pointer (some ⟨bq, 0, none⟩)) ?_
     refine load1_ zS48 2 (.slice (some ⟨bl, 0, none⟩) 3 c) bq 0 ?_
     refine pure_ (.int .i64 2) ?_
     refine pure_ (.pointer (some ⟨bl, 10, none⟩)) ?_
     refine loadN_ zS48 3 5 #[.int .i64 e0.a.source, .int .i64 e0.a.rank, .int .i64 e0.a.age.n, .int .i64 e0.a.age.most, .int .u64 e0.came] bl 10 ?_
     refine new_ zS48 (fun b => .pointer (some ⟨b, 0, none⟩)) (.cells #[.int .i64 0, .int .i64 0, .int .i64 0, .int .i64 0, .int .u64 0] 76) ?_
     intro zb53 zw54 zS55
     refine store_ zS55 0 (.agg #[.int .i64 e0.a.source, .int .i64 e0.a.rank, .int .i64 e0.a.age.n, .int .i64 e0.a.age.most, .int .u64 e0.came]) zb53 0 ?_
     intro zw56 zS57
     refine nil_ (then_n (seq_ (reg_ ?_)))
     refine move_ ?_
     refine move_ ?_
     refine pure_ (.pointer (some ⟨bq, 0, none⟩)) ?_
     refine load1_ zS57 3 (.slice (some ⟨bl, 0, none⟩) 3 c) bq 0 ?_
     refine pure_ (.int .i64 2) ?_
     refine pure_ (.slice (some ⟨bl, 0, none⟩) 2 c) ?_ (h := run_cut (n := 3) (e := 76) (kd := .i64) 2 (by omega))
     refine pure_ (.pointer (some ⟨bq, 0, none⟩)) ?_
     refine store_ zS57 3 (.slice (some ⟨bl, 0, none⟩) 2 c) bq 0 ?_
     intro zw58 zS59
     refine nil_ (then_n (seq_ (reg_ ?_)))
     refine loadN_ zS59 0 5 #[.int .i64 e0.a.source, .int .i64 e0.a.rank, .int .i64 e0.a.age.n, .int .i64 e0.a.age.most, .int .u64 e0.came] zb53 0 ?_
     refine pure_ (.iface 76 (.agg #[.int .i64 e0.a.source, .int .i64 e0.a.rank, .int .i64 e0.a.age.n, .int .i64 e0.a.age.most, .int .u64 e0.came])) ?_
     refine assign_ ?_
     refine nil_ (then_n (wp_ret ?_))
     refine ret_ rfl (res_ [.tmp 2] [.iface 76 (.agg #[.int .i64 e0.a.source, .int .i64 e0.a.rank, .int .i64 e0.a.age.n, .int .i64 e0.a.age.most, .int .u64 e0.came])] (.iface 76 (.agg #[.int .i64 e0.a.source, .int .i64 e0.a.rank, .int .i64 e0.a.age.n, .int .i64 e0.a.age.most, .int .u64 e0.came])) ⟨res_tmp, trivial⟩) ?_
     refine assign_ ?_
     refine nil_ (then_n (wp_ret ?_))
     refine ret_ rfl (res_ [.tmp 4] [.iface 76 (.agg #[.int .i64 e0.a.source, .int .i64 e0.a.rank, .int .i64 e0.a.age.n, .int .i64 e0.a.age.most, .int .u64 e0.came])] (.iface 76 (.agg #[.int .i64 e0.a.source, .int .i64 e0.a.rank, .int .i64 e0.a.age.n, .int .i64 e0.a.age.most, .int .u64 e0.came])) ⟨res_tmp, trivial⟩) ?_
     refine nil_ (then_n (seq_ (reg_ ?_)))
     refine pure_ (.bool true) ?_
     refine nil_ (then_n (wp_ret ?_))
     refine ret_ rfl (res_ [.tmp 4] [.bool true] (.bool true) ⟨res_tmp, trivial⟩) ?_
     have zs0 : e0.a.source = s := by omega
     have zs1 : ¬ e1.a.source = s := by omega
     have zs2 : ¬ e2.a.source = s := by omega
     have zr0 : e2.a.rank < e1.a.rank ∧ ¬ e1.a.rank < e2.a.rank ∧ e2.a.rank ≤ e1.a.rank ∧ ¬ e1.a.rank ≤ e2.a.rank := by omega
     exact ⟨[e2, e1], (some ⟨bl, 0, none⟩), c, came, [⟨bl, true, .cells (onesV [e2, e1] ++ (([.int .i64 e0.a.source, .int .i64 e0.a.rank, .int .i64 e0.a.age.n, .int .i64 e0.a.age.most, .int .u64 e0.came] : List Value) ++ tl)).toArray 76 (0, 0)⟩], by simp [absL, Sd.Q.waits, zs0, zs1, zs2, zr0], by simp [HeapOk] <;> omega, by simp [absL, Sd.Q.drop, zs0, zs1, zs2, zr0] <;> omega, ⟨rfl, by have := hc; simp <;> omega, .inr ⟨bl, (([.int .i64 e0.a.source, .int .i64 e0.a.rank, .int .i64 e0.a.age.n, .int .i64 e0.a.age.most, .int .u64 e0.came] : List Value) ++ tl), rfl, rfl, by have := hl; simpa [onesV, oneC] using this⟩⟩, zS59.pickT (A := [⟨bq, true, .cells #[.slice (some ⟨bl, 0, none⟩) 2 c, .int .i64 most, .int .u64 came] 71 (0, 0)⟩, ⟨bl, true, .cells (onesV [e2, e1] ++ (([.int .i64 e0.a.source, .int .i64 e0.a.rank, .int .i64 e0.a.age.n, .int .i64 e0.a.age.most, .int .u64 e0.came] : List Value) ++ tl)).toArray 76 (0, 0)⟩]) (T := bs) [3, 4] 5 (by kernel_rfl) (by kernel_rfl) (by decide) rfl⟩
   intro zh60
   have zh61 := notF' zh60
   have zh62 := ltT' zh61
   refine wp_skip (then_n (seq_ (reg_ ?_)))
   refine move_ ?_
   refine pure_ (.int .i64 0) ?_
   refine pure_ (.int .i64 1) ?_
   refine callD_ zS48 2 (.slice (some ⟨bl, 0, none⟩) 3 c) bq 0 68 83 #[.int .i64 0, .int .i64 1] ?_
   refine enter_ Try.func83 rfl ?_
   refine storeL_ zS48 14 13 3 bl 0 [[13, 7], [13, 11]] (.agg #[.int .i64 e1.a.source, .int .i64 e1.a.rank, .int .i64 e1.a.age.n, .int .i64 e1.a.age.most, .int .u64 e1.came]) [.slice (some ⟨bl, 0, none⟩) 3 c, .int .i64 0, .slice (some ⟨bl, 0, none⟩) 3 c, .int .i64 1, .slice (some ⟨bl, 0, none⟩) 3 c, .int .i64 1, .pointer (some ⟨bl, 5, none⟩), .agg #[.int .i64 e1.a.source, .int .i64 e1.a.rank, .int .i64 e1.a.age.n, .int .i64 e1.a.age.most, .int .u64 e1.came], .slice (some ⟨bl, 0, none⟩) 3 c, .int .i64 0, .pointer (some ⟨bl, 0, none⟩), .agg #[.int .i64 e2.a.source, .int .i64 e2.a.rank, .int .i64 e2.a.age.n, .int .i64 e2.a.age.most, .int .u64 e2.came], .pointer (some ⟨bl, 0, none⟩), undef] [[14, 0], [14, 1], [14, 2], [14, 3], [14, 4], [14, 5], [14, 6], [14, 7], [14, 8], [14, 9], [14, 10], [14, 11], [14, 12], [14, 13], [15, 0], [15, 1], [15, 2], [15, 3], [15, 4], [15, 5], [15, 6], [15, 7], [15, 8], [15, 9], [15, 10], [15, 11], [15, 12], [15, 13], [15, 14]] (estep_cons eP_ (estep_cons eP_ (estep_cons eP_ (estep_cons eP_ (estep_cons eP_ (estep_cons eP_ (estep_cons eP_ (estep_cons (eNp_ zS48 3 bl 5 5 #[.int .i64 e1.a.source, .int .i64 e1.a.rank, .int .i64 e1.a.age.n, .int .i64 e1.a.age.most, .int .u64 e1.came]) (estep_cons eP_ (estep_cons eP_ (estep_cons eP_ (estep_cons (eNp_ zS48 3 bl 0 5 #[.int .i64 e2.a.source, .int .i64 e2.a.rank, .int .i64 e2.a.age.n, .int .i64 e2.a.age.most, .int .u64 e2.came]) (estep_cons eP_ (estep_cons (eW_ zS48 3 (.agg #[.int .i64 e1.a.source, .int .i64 e1.a.rank, .int .i64 e1.a.age.n, .int .i64 e1.a.age.most, .int .u64 e1.came]) bl 0) (estep_nil))))))))))))))) ?_
   intro zw63 zS64
   refine pure_ (.pointer (some ⟨bl, 5, none⟩)) ?_
   refine store_ zS64 3 (.agg #[.int .i64 e2.a.source, .int .i64 e2.a.rank, .int .i64 e2.a.age.n, .int .i64 e2.a.age.most, .int .u64 e2.came]) bl 5 ?_
   intro zw65 zS66
   refine nil_ ?_
   refine end_ rfl (res_ [] [] (.tuple #[]) trivial) ?_
   refine nil_ (then_n (reg_ ?_))
   refine pure_ (.int .i64 1) ?_
   refine pure_ (.int .i64 1) ?_
   refine nil_ (blk_n (again_ (wp_block (seq_ (reg_ ?_)))))
   refine pure_ (.int .i64 1) ?_
   refine pure_ (.int .i64 2) ?_
   refine pure_ (.int .i64 3) ?_
   refine pure_ (.int .i64 3) ?_
   refine nil_ (then_n (seq_ (seq_ (reg_ ?_))))
   refine pure_ (.int .i64 3) ?_
   refine pure_ (.int .i64 2) ?_
   refine pure_ (.bool true) ?_
   refine pure_ (.bool true) ?_
   refine skip_ ?_
   refine skip_ ?_
   refine pure_ (.bool true) ?_
   refine nil_ (then_n (cond_T ?_))
   refine wp_exit (then_e ?_)
   refine blk_o ?_
   refine then_e (blk_e (then_n (seq_ (reg_ ?_))))
   refine pure_ (.int .i64 1) ?_
   refine pure_ (.int .i64 0) ?_
   refine pure_ (.bool true) ?_
   refine pure_ (.bool true) ?_
   refine nil_ (then_n (wp_ret ?_))
   refine ret_ rfl (res_ [.tmp 6] [.bool true] (.bool true) ⟨res_tmp, trivial⟩) ?_
   refine pure_ (.bool false) ?_
   refine nil_ (then_n (cond_F ?_))
   refine wp_skip (then_n (seq_ (reg_ ?_)))
   refine move_ ?_
   refine call_ 84 #[.pointer (some ⟨bq, 0, none⟩)] ?_
   refine enter_ Try.func84 rfl ?_
   refine seq_ (reg_ ?_)
   refine pure_ (.nilIface) ?_
   refine nil_ (then_n (seq_ (reg_ ?_)))
   refine move_ ?_
   refine pure_ (.pointer (some ⟨bq, 0, none⟩)) ?_
   refine load1_ zS66 2 (.slice (some ⟨bl, 0, none⟩) 3 c) bq 0 ?_
   refine pure_ (.int .i64 3) ?_
   refine pure_ (.int .i64 2) ?_
   refine pure_ (.int .i64 2) ?_
   refine nil_ (then_n (seq_ (reg_ ?_)))
   refine move_ ?_
   refine pure_ (.pointer (some ⟨bq, 0, none⟩)) ?_
   refine load1_ zS66 2 (.slice (some ⟨bl, 0, none⟩) 3 c) bq 0 ?_
   refine pure_ (.int .i64 2) ?_
   refine pure_ (.pointer (some ⟨bl, 10, none⟩)) ?_
   refine loadN_ zS66 3 5 #[.int .i64 e0.a.source, .int .i64 e0.a.rank, .int .i64 e0.a.age.n, .int .i64 e0.a.age.most, .int .u64 e0.came] bl 10 ?_
   refine new_ zS66 (fun b => .pointer (some ⟨b, 0, none⟩)) (.cells #[.int .i64 0, .int .i64 0, .int .i64 0, .int .i64 0, .int .u64 0] 76) ?_
   intro zb67 zw68 zS69
   refine store_ zS69 0 (.agg #[.int .i64 e0.a.source, .int .i64 e0.a.rank, .int .i64 e0.a.age.n, .int .i64 e0.a.age.most, .int .u64 e0.came]) zb67 0 ?_
   intro zw70 zS71
   refine nil_ (then_n (seq_ (reg_ ?_)))
   refine move_ ?_
   refine move_ ?_
   refine pure_ (.pointer (some ⟨bq, 0, none⟩)) ?_
   refine load1_ zS71 3 (.slice (some ⟨bl, 0, none⟩) 3 c) bq 0 ?_
   refine pure_ (.int .i64 2) ?_
   refine pure_ (.slice (some ⟨bl, 0, none⟩) 2 c) ?_ (h := run_cut (n := 3) (e := 76) (kd := .i64) 2 (by omega))
   refine pure_ (.pointer (some ⟨bq, 0, none⟩)) ?_
   refine store_ zS71 3 (.slice (some ⟨bl, 0, none⟩) 2 c) bq 0 ?_
   intro zw72 zS73
   refine nil_ (then_n (seq_ (reg_ ?_)))
   refine loadN_ zS73 0 5 #[.int .i64 e0.a.source, .int .i64 e0.a.rank, .int .i64 e0.a.age.n, .int .i64 e0.a.age.most, .int .u64 e0.came] zb67 0 ?_
   refine pure_ (.iface 76 (.agg #[.int .i64 e0.a.source, .int .i64 e0.a.rank, .int .i64 e0.a.age.n, .int .i64 e0.a.age.most, .int .u64 e0.came])) ?_
   refine assign_ ?_
   refine nil_ (then_n (wp_ret ?_))
   refine ret_ rfl (res_ [.tmp 2] [.iface 76 (.agg #[.int .i64 e0.a.source, .int .i64 e0.a.rank, .int .i64 e0.a.age.n, .int .i64 e0.a.age.most, .int .u64 e0.came])] (.iface 76 (.agg #[.int .i64 e0.a.source, .int .i64 e0.a.rank, .int .i64 e0.a.age.n, .int .i64 e0.a.age.most, .int .u64 e0.came])) ⟨res_tmp, trivial⟩) ?_
   refine assign_ ?_
   refine nil_ (then_n (wp_ret ?_))
   refine ret_ rfl (res_ [.tmp 4] [.iface 76 (.agg #[.int .i64 e0.a.source, .int .i64 e0.a.rank, .int .i64 e0.a.age.n, .int .i64 e0.a.age.most, .int .u64 e0.came])] (.iface 76 (.agg #[.int .i64 e0.a.source, .int .i64 e0.a.rank, .int .i64 e0.a.age.n, .int .i64 e0.a.age.most, .int .u64 e0.came])) ⟨res_tmp, trivial⟩) ?_
   refine nil_ (then_n (seq_ (reg_ ?_)))
   refine pure_ (.bool true) ?_
   refine nil_ (then_n (wp_ret ?_))
   refine ret_ rfl (res_ [.tmp 4] [.bool true] (.bool true) ⟨res_tmp, trivial⟩) ?_
   have zs0 : e0.a.source = s := by omega
   have zs1 : ¬ e1.a.source = s := by omega
   have zs2 : ¬ e2.a.source = s := by omega
   have zr0 : e2.a.rank < e1.a.rank ∧ ¬ e1.a.rank < e2.a.rank ∧ e2.a.rank ≤ e1.a.rank ∧ ¬ e1.a.rank ≤ e2.a.rank := by omega
   exact ⟨[e1, e2], (some ⟨bl, 0, none⟩), c, came, [⟨bl, true, .cells (onesV [e1, e2] ++ (([.int .i64 e0.a.source, .int .i64 e0.a.rank, .int .i64 e0.a.age.n, .int .i64 e0.a.age.most, .int .u64 e0.came] : List Value) ++ tl)).toArray 76 (0, 0)⟩], by simp [absL, Sd.Q.waits, zs0, zs1, zs2, zr0], by simp [HeapOk] <;> omega, by simp [absL, Sd.Q.drop, zs0, zs1, zs2, zr0] <;> omega, ⟨rfl, by have := hc; simp <;> omega, .inr ⟨bl, (([.int .i64 e0.a.source, .int .i64 e0.a.rank, .int .i64 e0.a.age.n, .int .i64 e0.a.age.most, .int .u64 e0.came] : List Value) ++ tl), rfl, rfl, by have := hl; simpa [onesV, oneC] using this⟩⟩, zS73.pickT (A := [⟨bq, true, .cells #[.slice (some ⟨bl, 0, none⟩) 2 c, .int .i64 most, .int .u64 came] 71 (0, 0)⟩, ⟨bl, true, .cells (onesV [e1, e2] ++ (([.int .i64 e0.a.source, .int .i64 e0.a.rank, .int .i64 e0.a.age.n, .int .i64 e0.a.age.most, .int .u64 e0.came] : List Value) ++ tl)).toArray 76 (0, 0)⟩]) (T := bs) [3, 4] 5 (by kernel_rfl) (by kernel_rfl) (by decide) rfl⟩
 intro zh74
 have zh75 := eqF' zh74
 refine wp_skip (blk_n (then_n (reg_ ?_)))
 refine pure_ (.int .i64 1) ?_
 refine pure_ (.int .i64 1) ?_
 refine nil_ (again_ (seq_ (reg_ ?_)))
 refine pure_ (.bool true) ?_
 refine nil_ (then_n (seq_ (cond_T ?_)))
 refine wp_skip (then_n (seq_ (wp_block (seq_ (reg_ ?_)))))
 refine pure_ (.int .i64 1) ?_
 refine pure_ (.int .i64 1) ?_
 refine nil_ (then_n (seq_ (reg_ ?_)))
 refine move_ ?_
 refine move_ ?_
 refine pure_ (.int .i64 1) ?_
 refine pure_ (.pointer (some ⟨bl, 5, none⟩)) ?_
 refine loadN_ zS6 3 5 #[.int .i64 e1.a.source, .int .i64 e1.a.rank, .int .i64 e1.a.age.n, .int .i64 e1.a.age.most, .int .u64 e1.came] bl 5 ?_
 refine call_ 40 #[.agg #[.int .i64 e1.a.source, .int .i64 e1.a.rank, .int .i64 e1.a.age.n, .int .i64 e1.a.age.most, .int .u64 e1.came], .pointer (some ⟨zb1, 0, none⟩)] ?_
 refine enter_ Try.func40 rfl ?_
 refine seq_ (reg_ ?_)
 refine new_ zS6 (fun b => .pointer (some ⟨b, 0, none⟩)) (.cells #[.int .i64 e1.a.source, .int .i64 e1.a.rank, .int .i64 e1.a.age.n, .int .i64 e1.a.age.most, .int .u64 e1.came] 76) ?_
 intro zb76 zw77 zS78
 refine pure_ (.bool false) ?_
 refine nil_ (then_n (seq_ (reg_ ?_)))
 refine pure_ (.pointer (some ⟨zb76, 0, none⟩)) ?_
 refine pure_ (.pointer (some ⟨zb76, 0, none⟩)) ?_
 refine load1_ zS78 0 (.int .i64 e1.a.source) zb76 0 ?_
 refine load1_ zS78 2 (.int .i64 s) zb1 0 ?_
 refine pure_ (.bool (e1.a.source == s)) ?_
 refine pure_ (.bool (e1.a.source == s)) ?_
 refine nil_ (then_n (wp_ret ?_))
 refine ret_ rfl (res_ [.tmp 3] [.bool (e1.a.source == s)] (.bool (e1.a.source == s)) ⟨res_tmp, trivial⟩) ?_
 refine nil_ (then_n ?_)
 refine cond_S (e1.a.source == s) ?_ ?_
 · intro zh79
   have zh80 := eqT' zh79
   refine seq_ (reg_ ?_)
   refine pure_ (.int .i64 1) ?_
   refine pure_ (.int .i64 1) ?_
   refine nil_ (then_n (wp_ret (blk_r (then_r (then_r (blk_r (then_r ?_)))))))
   refine ret_ rfl (res_ [.tmp 4] [.int .i64 1] (.int .i64 1) ⟨res_tmp, trivial⟩) ?_
   refine pure_ (.int .i64 1) ?_
   refine nil_ (then_n (wp_ret ?_))
   refine ret_ rfl (res_ [.tmp 4] [.int .i64 1] (.int .i64 1) ⟨res_tmp, trivial⟩) ?_
   refine pure_ (.int .i64 1) ?_
   refine nil_ (then_n (seq_ (seq_ (reg_ ?_))))
   refine pure_ (.int .i64 1) ?_
   refine pure_ (.bool false) ?_
   refine nil_ (then_n (cond_F ?_))
   refine wp_skip (then_n (seq_ (reg_ ?_)))
   refine move_ ?_
   refine pure_ (.pointer (some ⟨bq, 0, none⟩)) ?_
   refine pure_ (.pointer (some ⟨bq, 0, none⟩)) ?_
   refine pure_ (.iface 74 (.pointer (some ⟨bq, 0, none⟩))) ?_
   refine pure_ (.int .i64 1) ?_
   refine call_ 28 #[.iface 74 (.pointer (some ⟨bq, 0, none⟩)), .int .i64 1] ?_
   refine enter_ Try.func28 rfl ?_
   refine seq_ (reg_ ?_)
   refine pure_ (.nilIface) ?_
   refine nil_ (then_n (seq_ (reg_ ?_)))
   refine move_ ?_
   refine callD_ zS78 3 (.slice (some ⟨bl, 0, none⟩) 3 c) bq 0 68 81 #[] ?_
   refine enter_ Try.func81 rfl ?_
   refine seq_ (reg_ ?_)
   refine pure_ (.int .i64 0) ?_
   refine nil_ (then_n (seq_ (reg_ ?_)))
   refine move_ ?_
   refine pure_ (.int .i64 3) ?_
   refine pure_ (.int .i64 3) ?_
   refine nil_ (then_n (wp_ret ?_))
   refine ret_ rfl (res_ [.tmp 2] [.int .i64 3] (.int .i64 3) ⟨res_tmp, trivial⟩) ?_
   refine pure_ (.int .i64 2) ?_
   refine pure_ (.int .i64 2) ?_
   refine nil_ (then_n (seq_ (seq_ (reg_ ?_))))
   refine pure_ (.int .i64 2) ?_
   refine pure_ (.int .i64 1) ?_
   refine pure_ (.bool true) ?_
   refine nil_ (then_n (cond_T ?_))
   refine seq_ (reg_ ?_)
   refine move_ ?_
   refine pure_ (.int .i64 1) ?_
   refine pure_ (.int .i64 2) ?_
   refine callD_ zS78 3 (.slice (some ⟨bl, 0, none⟩) 3 c) bq 0 68 83 #[.int .i64 1, .int .i64 2] ?_
   refine enter_ Try.func83 rfl ?_
   refine storeL_ zS78 14 13 4 bl 5 [[13, 7], [13, 11]] (.agg #[.int .i64 e2.a.source, .int .i64 e2.a.rank, .int .i64 e2.a.age.n, .int .i64 e2.a.age.most, .int .u64 e2.came]) [.slice (some ⟨bl, 0, none⟩) 3 c, .int .i64 1, .slice (some ⟨bl, 0, none⟩) 3 c, .int .i64 2, .slice (some ⟨bl, 0, none⟩) 3 c, .int .i64 2, .pointer (some ⟨bl, 10, none⟩), .agg #[.int .i64 e2.a.source, .int .i64 e2.a.rank, .int .i64 e2.a.age.n, .int .i64 e2.a.age.most, .int .u64 e2.came], .slice (some ⟨bl, 0, none⟩) 3 c, .int .i64 1, .pointer (some ⟨bl, 5, none⟩), .agg #[.int .i64 e1.a.source, .int .i64 e1.a.rank, .int .i64 e1.a.age.n, .int .i64 e1.a.age.most, .int .u64 e1.came], .pointer (some ⟨bl, 5, none⟩), undef] [[14, 0], [14, 1], [14, 2], [14, 3], [14, 4], [14, 5], [14, 6], [14, 7], [14, 8], [14, 9], [14, 10], [14, 11], [14, 12], [14, 13], [15, 0], [15, 1], [15, 2], [15, 3], [15, 4], [15, 5], [15, 6], [15, 7], [15, 8], [15, 9], [15, 10], [15, 11], [15, 12], [15, 13], [15, 14]] (estep_cons eP_ (estep_cons eP_ (estep_cons eP_ (estep_cons eP_ (estep_cons eP_ (estep_cons eP_ (estep_cons eP_ (estep_cons (eNp_ zS78 4 bl 10 5 #[.int .i64 e2.a.source, .int .i64 e2.a.rank, .int .i64 e2.a.age.n, .int .i64 e2.a.age.most, .int .u64 e2.came]) (estep_cons eP_ (estep_cons eP_ (estep_cons eP_ (estep_cons (eNp_ zS78 4 bl 5 5 #[.int .i64 e1.a.source, .int .i64 e1.a.rank, .int .i64 e1.a.age.n, .int .i64 e1.a.age.most, .int .u64 e1.came]) (estep_cons eP_ (estep_cons (eW_ zS78 4 (.agg #[.int .i64 e2.a.source, .int .i64 e2.a.rank, .int .i64 e2.a.age.n, .int .i64 e2.a.age.most, .int .u64 e2.came]) bl 5) (estep_nil))))))))))))))) ?_
   intro zw81 zS82
   refine pure_ (.pointer (some ⟨bl, 10, none⟩)) ?_
   refine store_ zS82 4 (.agg #[.int .i64 e1.a.source, .int .i64 e1.a.rank, .int .i64 e1.a.age.n, .int .i64 e1.a.age.most, .int .u64 e1.came]) bl 10 ?_
   intro zw83 zS84
   refine nil_ ?_
   refine end_ rfl (res_ [] [] (.tuple #[]) trivial) ?_
   refine nil_ (then_n (seq_ (reg_ ?_)))
   refine move_ ?_
   refine pure_ (.int .i64 1) ?_
   refine pure_ (.int .i64 2) ?_
   refine call_ 44 #[.iface 74 (.pointer (some ⟨bq, 0, none⟩)), .int .i64 1, .int .i64 2] ?_
   refine enter_ Try.func44 rfl ?_
   refine seq_ (reg_ ?_)
   refine pure_ (.bool false) ?_
   refine nil_ (then_n (seq_ (reg_ ?_)))
   refine pure_ (.int .i64 1) ?_
   refine pure_ (.int .i64 1) ?_
   refine nil_ (then_n (seq_ (wp_block (loop_ 24 (wp_block (seq_ (reg_ ?_)))))))
   refine pure_ (.int .i64 1) ?_
   refine pure_ (.int .i64 2) ?_
   refine pure_ (.int .i64 3) ?_
   refine pure_ (.int .i64 3) ?_
   refine nil_ (then_n (seq_ (seq_ (reg_ ?_))))
   refine pure_ (.int .i64 3) ?_
   refine pure_ (.int .i64 2) ?_
   refine pure_ (.bool true) ?_
   refine pure_ (.bool true) ?_
   refine skip_ ?_
   refine skip_ ?_
   refine pure_ (.bool true) ?_
   refine nil_ (then_n (cond_T ?_))
   refine wp_exit (then_e ?_)
   refine blk_o ?_
   refine then_e (blk_e (then_n (seq_ (reg_ ?_))))
   refine pure_ (.int .i64 1) ?_
   refine pure_ (.int .i64 1) ?_
   refine pure_ (.bool false) ?_
   refine pure_ (.bool false) ?_
   refine nil_ (then_n (wp_ret ?_))
   refine ret_ rfl (res_ [.tmp 6] [.bool false] (.bool false) ⟨res_tmp, trivial⟩) ?_
   refine pure_ (.bool true) ?_
   refine nil_ (then_n (cond_T ?_))
   refine reg_ ?_
   refine move_ ?_
   refine pure_ (.int .i64 1) ?_
   refine call_ 41 #[.iface 74 (.pointer (some ⟨bq, 0, none⟩)), .int .i64 1] ?_
   refine enter_ Try.func41 rfl ?_
   refine wp_block (loop_ 24 (wp_block (seq_ (reg_ ?_))))
   refine pure_ (.int .i64 1) ?_
   refine pure_ (.int .i64 0) ?_
   refine pure_ (.int .i64 0) ?_
   refine pure_ (.int .i64 0) ?_
   refine nil_ (then_n (seq_ (seq_ (reg_ ?_))))
   refine pure_ (.int .i64 0) ?_
   refine pure_ (.int .i64 1) ?_
   refine pure_ (.bool false) ?_
   refine pure_ (.bool false) ?_
   refine move_ ?_
   refine pure_ (.int .i64 1) ?_
   refine pure_ (.int .i64 0) ?_
   refine callD_ zS84 3 (.slice (some ⟨bl, 0, none⟩) 3 c) bq 0 68 82 #[.int .i64 1, .int .i64 0] ?_
   refine enter_ Try.func82 rfl ?_
   refine seq_ (reg_ ?_)
   refine pure_ (.bool false) ?_
   refine nil_ (then_n (seq_ (seq_ ?_)))
   refine quietL_ 12 [.slice (some ⟨bl, 0, none⟩) 3 c, .int .i64 1, .pointer (some ⟨bl, 5, none⟩), .pointer (some ⟨bl, 5, none⟩), .pointer (some ⟨bl, 6, none⟩), .int .i64 e2.a.rank, .slice (some ⟨bl, 0, none⟩) 3 c, .int .i64 0, .pointer (some ⟨bl, 0, none⟩), .pointer (some ⟨bl, 0, none⟩), .pointer (some ⟨bl, 1, none⟩), .int .i64 e0.a.rank] [[12, 5, 4, 3, 2, 0], [12, 5, 4, 3, 2, 1], [12, 5, 4, 3, 2], [12, 5, 4, 3], [12, 5, 4], [12, 5], [12, 11, 10, 9, 8, 6], [12, 11, 10, 9, 8, 7], [12, 11, 10, 9, 8], [12, 11, 10, 9], [12, 11, 10], [12, 11]] (step_cons qP_ (step_cons qP_ (step_cons qP_ (step_cons qP_ (step_cons qP_ (step_cons (qL_ zS84 4 bl 6) (step_cons qP_ (step_cons qP_ (step_cons qP_ (step_cons qP_ (step_cons qP_ (step_cons (qL_ zS84 4 bl 1) (step_nil))))))))))))) ?_
   intro zw85 zh87
   have zS86 := zS84.quiet zh87
   refine pureE_ (.bool (e2.a.rank != e0.a.rank)) (.bool true) (congrArg Value.bool (neT (by omega))) ?_
   refine nil_ (then_n (cond_T ?_))
   refine seq_ ?_
   refine quietL_ 12 [.slice (some ⟨bl, 0, none⟩) 3 c, .int .i64 1, .pointer (some ⟨bl, 5, none⟩), .pointer (some ⟨bl, 5, none⟩), .pointer (some ⟨bl, 6, none⟩), .int .i64 e2.a.rank, .slice (some ⟨bl, 0, none⟩) 3 c, .int .i64 0, .pointer (some ⟨bl, 0, none⟩), .pointer (some ⟨bl, 0, none⟩), .pointer (some ⟨bl, 1, none⟩), .int .i64 e0.a.rank] [[12, 5, 4, 3, 2, 0], [12, 5, 4, 3, 2, 1], [12, 5, 4, 3, 2], [12, 5, 4, 3], [12, 5, 4], [12, 5], [12, 11, 10, 9, 8, 6], [12, 11, 10, 9, 8, 7], [12, 11, 10, 9, 8], [12, 11, 10, 9], [12, 11, 10], [12, 11], [13, 0], [13, 1], [13, 2], [13, 3], [13, 4], [13, 5], [13, 6], [13, 7], [13, 8], [13, 9], [13, 10], [13, 11], [13, 12]] (step_cons qP_ (step_cons qP_ (step_cons qP_ (step_cons qP_ (step_cons qP_ (step_cons (qL_ zS86 4 bl 6) (step_cons qP_ (step_cons qP_ (step_cons qP_ (step_cons qP_ (step_cons qP_ (step_cons (qL_ zS86 4 bl 1) (step_nil))))))))))))) ?_
   intro zw88 zh90
   have zS89 := zS86.quiet zh90
   refine pureE_ (.bool (decide (e2.a.rank < e0.a.rank))) (.bool false) (congrArg Value.bool (ltF (by omega))) ?_
   refine pure_ (.bool false) ?_
   refine nil_ (then_n (wp_ret (then_r ?_)))
   refine ret_ rfl (res_ [.tmp 6] [.bool false] (.bool false) ⟨res_tmp, trivial⟩) ?_
   refine pure_ (.bool true) ?_
   refine pure_ (.bool true) ?_
   refine nil_ (then_n (cond_T ?_))
   refine wp_exit (then_e ?_)
   refine blk_o ?_
   refine then_e (blk_e ?_)
   refine end_ rfl (res_ [] [] (.tuple #[]) trivial) ?_
   refine nil_ (then_n (seq_ (reg_ ?_)))
   refine move_ ?_
   refine call_ 84 #[.pointer (some ⟨bq, 0, none⟩)] ?_
   refine enter_ Try.func84 rfl ?_
   refine seq_ (reg_ ?_)
   refine pure_ (.nilIface) ?_
   refine nil_ (then_n (seq_ (reg_ ?_)))
   refine move_ ?_
   refine pure_ (.pointer (some ⟨bq, 0, none⟩)) ?_
   refine load1_ zS89 3 (.slice (some ⟨bl, 0, none⟩) 3 c) bq 0 ?_
   refine pure_ (.int .i64 3) ?_
   refine pure_ (.int .i64 2) ?_
   refine pure_ (.int .i64 2) ?_
   refine nil_ (then_n (seq_ (reg_ ?_)))
   refine move_ ?_
   refine pure_ (.pointer (some ⟨bq, 0, none⟩)) ?_
   refine load1_ zS89 3 (.slice (some ⟨bl, 0, none⟩) 3 c) bq 0 ?_
   refine pure_ (.int .i64 2) ?_
   refine pure_ (.pointer (some ⟨bl, 10, none⟩)) ?_
   refine loadN_ zS89 4 5 #[.int .i64 e1.a.source, .int .i64 e1.a.rank, .int .i64 e1.a.age.n, .int .i64 e1.a.age.most, .int .u64 e1.came] bl 10 ?_
   refine new_ zS89 (fun b => .pointer (some ⟨b, 0, none⟩)) (.cells #[.int .i64 0, .int .i64 0, .int .i64 0, .int .i64 0, .int .u64 0] 76) ?_
   intro zb91 zw92 zS93
   refine store_ zS93 0 (.agg #[.int .i64 e1.a.source, .int .i64 e1.a.rank, .int .i64 e1.a.age.n, .int .i64 e1.a.age.most, .int .u64 e1.came]) zb91 0 ?_
   intro zw94 zS95
   refine nil_ (then_n (seq_ (reg_ ?_)))
   refine move_ ?_
   refine move_ ?_
   refine pure_ (.pointer (some ⟨bq, 0, none⟩)) ?_
   refine load1_ zS95 4 (.slice (some ⟨bl, 0, none⟩) 3 c) bq 0 ?_
   refine pure_ (.int .i64 2) ?_
   refine pure_ (.slice (some ⟨bl, 0, none⟩) 2 c) ?_ (h := run_cut (n := 3) (e := 76) (kd := .i64) 2 (by omega))
   refine pure_ (.pointer (some ⟨bq, 0, none⟩)) ?_
   refine store_ zS95 4 (.slice (some ⟨bl, 0, none⟩) 2 c) bq 0 ?_
   intro zw96 zS97
   refine nil_ (then_n (seq_ (reg_ ?_)))
   refine loadN_ zS97 0 5 #[.int .i64 e1.a.source, .int .i64 e1.a.rank, .int .i64 e1.a.age.n, .int .i64 e1.a.age.most, .int .u64 e1.came] zb91 0 ?_
   refine pure_ (.iface 76 (.agg #[.int .i64 e1.a.source, .int .i64 e1.a.rank, .int .i64 e1.a.age.n, .int .i64 e1.a.age.most, .int .u64 e1.came])) ?_
   refine assign_ ?_
   refine nil_ (then_n (wp_ret ?_))
   refine ret_ rfl (res_ [.tmp 2] [.iface 76 (.agg #[.int .i64 e1.a.source, .int .i64 e1.a.rank, .int .i64 e1.a.age.n, .int .i64 e1.a.age.most, .int .u64 e1.came])] (.iface 76 (.agg #[.int .i64 e1.a.source, .int .i64 e1.a.rank, .int .i64 e1.a.age.n, .int .i64 e1.a.age.most, .int .u64 e1.came])) ⟨res_tmp, trivial⟩) ?_
   refine assign_ ?_
   refine nil_ (then_n (wp_ret ?_))
   refine ret_ rfl (res_ [.tmp 4] [.iface 76 (.agg #[.int .i64 e1.a.source, .int .i64 e1.a.rank, .int .i64 e1.a.age.n, .int .i64 e1.a.age.most, .int .u64 e1.came])] (.iface 76 (.agg #[.int .i64 e1.a.source, .int .i64 e1.a.rank, .int .i64 e1.a.age.n, .int .i64 e1.a.age.most, .int .u64 e1.came])) ⟨res_tmp, trivial⟩) ?_
   refine nil_ (then_n (seq_ (reg_ ?_)))
   refine pure_ (.bool true) ?_
   refine nil_ (then_n (wp_ret ?_))
   refine ret_ rfl (res_ [.tmp 4] [.bool true] (.bool true) ⟨res_tmp, trivial⟩) ?_
   by_cases zq0 : e1.a.rank < e2.a.rank
   · have zs0 : ¬ e0.a.source = s := by omega
     have zs1 : e1.a.source = s := by omega
     have zs2 : ¬ e2.a.source = s := by omega
     have zr0 : e1.a.rank < e2.a.rank ∧ ¬ e2.a.rank < e1.a.rank ∧ e1.a.rank ≤ e2.a.rank ∧ ¬ e2.a.rank ≤ e1.a.rank := by omega
     exact ⟨[e0, e2], (some ⟨bl, 0, none⟩), c, came, [⟨bl, true, .cells (onesV [e0, e2] ++ (([.int .i64 e1.a.source, .int .i64 e1.a.rank, .int .i64 e1.a.age.n, .int .i64 e1.a.age.most, .int .u64 e1.came] : List Value) ++ tl)).toArray 76 (0, 0)⟩], by simp [absL, Sd.Q.waits, zs0, zs1, zs2, zr0], by simp [HeapOk] <;> omega, by simp [absL, Sd.Q.drop, zs0, zs1, zs2, zr0] <;> omega, ⟨rfl, by have := hc; simp <;> omega, .inr ⟨bl, (([.int .i64 e1.a.source, .int .i64 e1.a.rank, .int .i64 e1.a.age.n, .int .i64 e1.a.age.most, .int .u64 e1.came] : List Value) ++ tl), rfl, rfl, by have := hl; simpa [onesV, oneC] using this⟩⟩, zS97.pickT (A := [⟨bq, true, .cells #[.slice (some ⟨bl, 0, none⟩) 2 c, .int .i64 most, .int .u64 came] 71 (0, 0)⟩, ⟨bl, true, .cells (onesV [e0, e2] ++ (([.int .i64 e1.a.source, .int .i64 e1.a.rank, .int .i64 e1.a.age.n, .int .i64 e1.a.age.most, .int .u64 e1.came] : List Value) ++ tl)).toArray 76 (0, 0)⟩]) (T := bs) [4, 5] 6 (by kernel_rfl) (by kernel_rfl) (by decide) rfl⟩
   have zs0 : ¬ e0.a.source = s := by omega
   have zs1 : e1.a.source = s := by omega
   have zs2 : ¬ e2.a.source = s := by omega
   have zr0 : e2.a.rank < e1.a.rank ∧ ¬ e1.a.rank < e2.a.rank ∧ e2.a.rank ≤ e1.a.rank ∧ ¬ e1.a.rank ≤ e2.a.rank := by omega
   exact ⟨[e0, e2], (some ⟨bl, 0, none⟩), c, came, [⟨bl, true, .cells (onesV [e0, e2] ++ (([.int .i64 e1.a.source, .int .i64 e1.a.rank, .int .i64 e1.a.age.n, .int .i64 e1.a.age.most, .int .u64 e1.came] : List Value) ++ tl)).toArray 76 (0, 0)⟩], by simp [absL, Sd.Q.waits, zs0, zs1, zs2, zr0], by simp [HeapOk] <;> omega, by simp [absL, Sd.Q.drop, zs0, zs1, zs2, zr0] <;> omega, ⟨rfl, by have := hc; simp <;> omega, .inr ⟨bl, (([.int .i64 e1.a.source, .int .i64 e1.a.rank, .int .i64 e1.a.age.n, .int .i64 e1.a.age.most, .int .u64 e1.came] : List Value) ++ tl), rfl, rfl, by have := hl; simpa [onesV, oneC] using this⟩⟩, zS97.pickT (A := [⟨bq, true, .cells #[.slice (some ⟨bl, 0, none⟩) 2 c, .int .i64 most, .int .u64 came] 71 (0, 0)⟩, ⟨bl, true, .cells (onesV [e0, e2] ++ (([.int .i64 e1.a.source, .int .i64 e1.a.rank, .int .i64 e1.a.age.n, .int .i64 e1.a.age.most, .int .u64 e1.came] : List Value) ++ tl)).toArray 76 (0, 0)⟩]) (T := bs) [4, 5] 6 (by kernel_rfl) (by kernel_rfl) (by decide) rfl⟩
 intro zh98
 have zh99 := eqF' zh98
 refine wp_skip (blk_n (then_n (reg_ ?_)))
 refine pure_ (.int .i64 2) ?_
 refine pure_ (.int .i64 2) ?_
 refine nil_ (again_ (seq_ (reg_ ?_)))
 refine pure_ (.bool true) ?_
 refine nil_ (then_n (seq_ (cond_T ?_)))
 refine wp_skip (then_n (seq_ (wp_block (seq_ (reg_ ?_)))))
 refine pure_ (.int .i64 2) ?_
 refine pure_ (.int .i64 2) ?_
 refine nil_ (then_n (seq_ (reg_ ?_)))
 refine move_ ?_
 refine move_ ?_
 refine pure_ (.int .i64 2) ?_
 refine pure_ (.pointer (some ⟨bl, 10, none⟩)) ?_
 refine loadN_ zS78 4 5 #[.int .i64 e2.a.source, .int .i64 e2.a.rank, .int .i64 e2.a.age.n, .int .i64 e2.a.age.most, .int .u64 e2.came] bl 10 ?_
 refine call_ 40 #[.agg #[.int .i64 e2.a.source, .int .i64 e2.a.rank, .int .i64 e2.a.age.n, .int .i64 e2.a.age.most, .int .u64 e2.came], .pointer (some ⟨zb1, 0, none⟩)] ?_
 refine enter_ Try.func40 rfl ?_
 refine seq_ (reg_ ?_)
 refine new_ zS78 (fun b => .pointer (some ⟨b, 0, none⟩)) (.cells #[.int .i64 e2.a.source, .int .i64 e2.a.rank, .int .i64 e2.a.age.n, .int .i64 e2.a.age.most, .int .u64 e2.came] 76) ?_
 intro zb100 zw101 zS102
 refine pure_ (.bool false) ?_
 refine nil_ (then_n (seq_ (reg_ ?_)))
 refine pure_ (.pointer (some ⟨zb100, 0, none⟩)) ?_
 refine pure_ (.pointer (some ⟨zb100, 0, none⟩)) ?_
 refine load1_ zS102 0 (.int .i64 e2.a.source) zb100 0 ?_
 refine load1_ zS102 3 (.int .i64 s) zb1 0 ?_
 refine pure_ (.bool (e2.a.source == s)) ?_
 refine pure_ (.bool (e2.a.source == s)) ?_
 refine nil_ (then_n (wp_ret ?_))
 refine ret_ rfl (res_ [.tmp 3] [.bool (e2.a.source == s)] (.bool (e2.a.source == s)) ⟨res_tmp, trivial⟩) ?_
 refine nil_ (then_n ?_)
 refine cond_S (e2.a.source == s) ?_ ?_
 · intro zh103
   have zh104 := eqT' zh103
   refine seq_ (reg_ ?_)
   refine pure_ (.int .i64 2) ?_
   refine pure_ (.int .i64 2) ?_
   refine nil_ (then_n (wp_ret (blk_r (then_r (then_r (blk_r (then_r ?_)))))))
   refine ret_ rfl (res_ [.tmp 4] [.int .i64 2] (.int .i64 2) ⟨res_tmp, trivial⟩) ?_
   refine pure_ (.int .i64 2) ?_
   refine nil_ (then_n (wp_ret ?_))
   refine ret_ rfl (res_ [.tmp 4] [.int .i64 2] (.int .i64 2) ⟨res_tmp, trivial⟩) ?_
   refine pure_ (.int .i64 2) ?_
   refine nil_ (then_n (seq_ (seq_ (reg_ ?_))))
   refine pure_ (.int .i64 2) ?_
   refine pure_ (.bool false) ?_
   refine nil_ (then_n (cond_F ?_))
   refine wp_skip (then_n (seq_ (reg_ ?_)))
   refine move_ ?_
   refine pure_ (.pointer (some ⟨bq, 0, none⟩)) ?_
   refine pure_ (.pointer (some ⟨bq, 0, none⟩)) ?_
   refine pure_ (.iface 74 (.pointer (some ⟨bq, 0, none⟩))) ?_
   refine pure_ (.int .i64 2) ?_
   refine call_ 28 #[.iface 74 (.pointer (some ⟨bq, 0, none⟩)), .int .i64 2] ?_
   refine enter_ Try.func28 rfl ?_
   refine seq_ (reg_ ?_)
   refine pure_ (.nilIface) ?_
   refine nil_ (then_n (seq_ (reg_ ?_)))
   refine move_ ?_
   refine callD_ zS102 4 (.slice (some ⟨bl, 0, none⟩) 3 c) bq 0 68 81 #[] ?_
   refine enter_ Try.func81 rfl ?_
   refine seq_ (reg_ ?_)
   refine pure_ (.int .i64 0) ?_
   refine nil_ (then_n (seq_ (reg_ ?_)))
   refine move_ ?_
   refine pure_ (.int .i64 3) ?_
   refine pure_ (.int .i64 3) ?_
   refine nil_ (then_n (wp_ret ?_))
   refine ret_ rfl (res_ [.tmp 2] [.int .i64 3] (.int .i64 3) ⟨res_tmp, trivial⟩) ?_
   refine pure_ (.int .i64 2) ?_
   refine pure_ (.int .i64 2) ?_
   refine nil_ (then_n (seq_ (seq_ (reg_ ?_))))
   refine pure_ (.int .i64 2) ?_
   refine pure_ (.int .i64 2) ?_
   refine pure_ (.bool false) ?_
   refine nil_ (then_n (cond_F ?_))
   refine wp_skip (then_n (seq_ (reg_ ?_)))
   refine move_ ?_
   refine call_ 84 #[.pointer (some ⟨bq, 0, none⟩)] ?_
   refine enter_ Try.func84 rfl ?_
   refine seq_ (reg_ ?_)
   refine pure_ (.nilIface) ?_
   refine nil_ (then_n (seq_ (reg_ ?_)))
   refine move_ ?_
   refine pure_ (.pointer (some ⟨bq, 0, none⟩)) ?_
   refine load1_ zS102 4 (.slice (some ⟨bl, 0, none⟩) 3 c) bq 0 ?_
   refine pure_ (.int .i64 3) ?_
   refine pure_ (.int .i64 2) ?_
   refine pure_ (.int .i64 2) ?_
   refine nil_ (then_n (seq_ (reg_ ?_)))
   refine move_ ?_
   refine pure_ (.pointer (some ⟨bq, 0, none⟩)) ?_
   refine load1_ zS102 4 (.slice (some ⟨bl, 0, none⟩) 3 c) bq 0 ?_
   refine pure_ (.int .i64 2) ?_
   refine pure_ (.pointer (some ⟨bl, 10, none⟩)) ?_
   refine loadN_ zS102 5 5 #[.int .i64 e2.a.source, .int .i64 e2.a.rank, .int .i64 e2.a.age.n, .int .i64 e2.a.age.most, .int .u64 e2.came] bl 10 ?_
   refine new_ zS102 (fun b => .pointer (some ⟨b, 0, none⟩)) (.cells #[.int .i64 0, .int .i64 0, .int .i64 0, .int .i64 0, .int .u64 0] 76) ?_
   intro zb105 zw106 zS107
   refine store_ zS107 0 (.agg #[.int .i64 e2.a.source, .int .i64 e2.a.rank, .int .i64 e2.a.age.n, .int .i64 e2.a.age.most, .int .u64 e2.came]) zb105 0 ?_
   intro zw108 zS109
   refine nil_ (then_n (seq_ (reg_ ?_)))
   refine move_ ?_
   refine move_ ?_
   refine pure_ (.pointer (some ⟨bq, 0, none⟩)) ?_
   refine load1_ zS109 5 (.slice (some ⟨bl, 0, none⟩) 3 c) bq 0 ?_
   refine pure_ (.int .i64 2) ?_
   refine pure_ (.slice (some ⟨bl, 0, none⟩) 2 c) ?_ (h := run_cut (n := 3) (e := 76) (kd := .i64) 2 (by omega))
   refine pure_ (.pointer (some ⟨bq, 0, none⟩)) ?_
   refine store_ zS109 5 (.slice (some ⟨bl, 0, none⟩) 2 c) bq 0 ?_
   intro zw110 zS111
   refine nil_ (then_n (seq_ (reg_ ?_)))
   refine loadN_ zS111 0 5 #[.int .i64 e2.a.source, .int .i64 e2.a.rank, .int .i64 e2.a.age.n, .int .i64 e2.a.age.most, .int .u64 e2.came] zb105 0 ?_
   refine pure_ (.iface 76 (.agg #[.int .i64 e2.a.source, .int .i64 e2.a.rank, .int .i64 e2.a.age.n, .int .i64 e2.a.age.most, .int .u64 e2.came])) ?_
   refine assign_ ?_
   refine nil_ (then_n (wp_ret ?_))
   refine ret_ rfl (res_ [.tmp 2] [.iface 76 (.agg #[.int .i64 e2.a.source, .int .i64 e2.a.rank, .int .i64 e2.a.age.n, .int .i64 e2.a.age.most, .int .u64 e2.came])] (.iface 76 (.agg #[.int .i64 e2.a.source, .int .i64 e2.a.rank, .int .i64 e2.a.age.n, .int .i64 e2.a.age.most, .int .u64 e2.came])) ⟨res_tmp, trivial⟩) ?_
   refine assign_ ?_
   refine nil_ (then_n (wp_ret ?_))
   refine ret_ rfl (res_ [.tmp 4] [.iface 76 (.agg #[.int .i64 e2.a.source, .int .i64 e2.a.rank, .int .i64 e2.a.age.n, .int .i64 e2.a.age.most, .int .u64 e2.came])] (.iface 76 (.agg #[.int .i64 e2.a.source, .int .i64 e2.a.rank, .int .i64 e2.a.age.n, .int .i64 e2.a.age.most, .int .u64 e2.came])) ⟨res_tmp, trivial⟩) ?_
   refine nil_ (then_n (seq_ (reg_ ?_)))
   refine pure_ (.bool true) ?_
   refine nil_ (then_n (wp_ret ?_))
   refine ret_ rfl (res_ [.tmp 4] [.bool true] (.bool true) ⟨res_tmp, trivial⟩) ?_
   by_cases zq0 : e1.a.rank < e2.a.rank
   · have zs0 : ¬ e0.a.source = s := by omega
     have zs1 : ¬ e1.a.source = s := by omega
     have zs2 : e2.a.source = s := by omega
     have zr0 : e1.a.rank < e2.a.rank ∧ ¬ e2.a.rank < e1.a.rank ∧ e1.a.rank ≤ e2.a.rank ∧ ¬ e2.a.rank ≤ e1.a.rank := by omega
     exact ⟨[e0, e1], (some ⟨bl, 0, none⟩), c, came, [⟨bl, true, .cells (onesV [e0, e1] ++ (([.int .i64 e2.a.source, .int .i64 e2.a.rank, .int .i64 e2.a.age.n, .int .i64 e2.a.age.most, .int .u64 e2.came] : List Value) ++ tl)).toArray 76 (0, 0)⟩], by simp [absL, Sd.Q.waits, zs0, zs1, zs2, zr0], by simp [HeapOk] <;> omega, by simp [absL, Sd.Q.drop, zs0, zs1, zs2, zr0] <;> omega, ⟨rfl, by have := hc; simp <;> omega, .inr ⟨bl, (([.int .i64 e2.a.source, .int .i64 e2.a.rank, .int .i64 e2.a.age.n, .int .i64 e2.a.age.most, .int .u64 e2.came] : List Value) ++ tl), rfl, rfl, by have := hl; simpa [onesV, oneC] using this⟩⟩, zS111.pickT (A := [⟨bq, true, .cells #[.slice (some ⟨bl, 0, none⟩) 2 c, .int .i64 most, .int .u64 came] 71 (0, 0)⟩, ⟨bl, true, .cells (onesV [e0, e1] ++ (([.int .i64 e2.a.source, .int .i64 e2.a.rank, .int .i64 e2.a.age.n, .int .i64 e2.a.age.most, .int .u64 e2.came] : List Value) ++ tl)).toArray 76 (0, 0)⟩]) (T := bs) [5, 6] 7 (by kernel_rfl) (by kernel_rfl) (by decide) rfl⟩
   have zs0 : ¬ e0.a.source = s := by omega
   have zs1 : ¬ e1.a.source = s := by omega
   have zs2 : e2.a.source = s := by omega
   have zr0 : e2.a.rank < e1.a.rank ∧ ¬ e1.a.rank < e2.a.rank ∧ e2.a.rank ≤ e1.a.rank ∧ ¬ e1.a.rank ≤ e2.a.rank := by omega
   exact ⟨[e0, e1], (some ⟨bl, 0, none⟩), c, came, [⟨bl, true, .cells (onesV [e0, e1] ++ (([.int .i64 e2.a.source, .int .i64 e2.a.rank, .int .i64 e2.a.age.n, .int .i64 e2.a.age.most, .int .u64 e2.came] : List Value) ++ tl)).toArray 76 (0, 0)⟩], by simp [absL, Sd.Q.waits, zs0, zs1, zs2, zr0], by simp [HeapOk] <;> omega, by simp [absL, Sd.Q.drop, zs0, zs1, zs2, zr0] <;> omega, ⟨rfl, by have := hc; simp <;> omega, .inr ⟨bl, (([.int .i64 e2.a.source, .int .i64 e2.a.rank, .int .i64 e2.a.age.n, .int .i64 e2.a.age.most, .int .u64 e2.came] : List Value) ++ tl), rfl, rfl, by have := hl; simpa [onesV, oneC] using this⟩⟩, zS111.pickT (A := [⟨bq, true, .cells #[.slice (some ⟨bl, 0, none⟩) 2 c, .int .i64 most, .int .u64 came] 71 (0, 0)⟩, ⟨bl, true, .cells (onesV [e0, e1] ++ (([.int .i64 e2.a.source, .int .i64 e2.a.rank, .int .i64 e2.a.age.n, .int .i64 e2.a.age.most, .int .u64 e2.came] : List Value) ++ tl)).toArray 76 (0, 0)⟩]) (T := bs) [5, 6] 7 (by kernel_rfl) (by kernel_rfl) (by decide) rfl⟩
 intro zh112
 have zh113 := eqF' zh112
 refine wp_skip (blk_n (then_n (reg_ ?_)))
 refine pure_ (.int .i64 3) ?_
 refine pure_ (.int .i64 3) ?_
 refine nil_ (again_ (seq_ (reg_ ?_)))
 refine pure_ (.bool false) ?_
 refine nil_ (then_n (seq_ (cond_F ?_)))
 refine wp_exit (then_e (then_e (blk_e (then_n (seq_ (reg_ ?_))))))
 refine pure_ (.int .i64 (-1)) ?_
 refine nil_ (then_n (wp_ret ?_))
 refine ret_ rfl (res_ [.tmp 4] [.int .i64 (-1)] (.int .i64 (-1)) ⟨res_tmp, trivial⟩) ?_
 refine pure_ (.int .i64 (-1)) ?_
 refine nil_ (then_n (wp_ret ?_))
 refine ret_ rfl (res_ [.tmp 4] [.int .i64 (-1)] (.int .i64 (-1)) ⟨res_tmp, trivial⟩) ?_
 refine pure_ (.int .i64 (-1)) ?_
 refine nil_ (then_n (seq_ (seq_ (reg_ ?_))))
 refine pure_ (.int .i64 (-1)) ?_
 refine pure_ (.bool true) ?_
 refine nil_ (then_n (cond_T ?_))
 refine seq_ (reg_ ?_)
 refine pure_ (.bool false) ?_
 refine nil_ (then_n (wp_ret (then_r ?_)))
 refine ret_ rfl (res_ [.tmp 4] [.bool false] (.bool false) ⟨res_tmp, trivial⟩) ?_
 by_cases zq0 : e1.a.rank < e2.a.rank
 · have zs0 : ¬ e0.a.source = s := by omega
   have zs1 : ¬ e1.a.source = s := by omega
   have zs2 : ¬ e2.a.source = s := by omega
   have zr0 : e1.a.rank < e2.a.rank ∧ ¬ e2.a.rank < e1.a.rank ∧ e1.a.rank ≤ e2.a.rank ∧ ¬ e2.a.rank ≤ e1.a.rank := by omega
   exact ⟨[e0, e1, e2], (some ⟨bl, 0, none⟩), c, came, [⟨bl, true, .cells (onesV [e0, e1, e2] ++ tl).toArray 76 (0, 0)⟩], by simp [absL, Sd.Q.waits, zs0, zs1, zs2, zr0], by simp [HeapOk] <;> omega, by simp [absL, Sd.Q.drop, zs0, zs1, zs2, zr0] <;> omega, ⟨rfl, by have := hc; simp <;> omega, .inr ⟨bl, tl, rfl, rfl, by have := hl; simpa [onesV, oneC] using this⟩⟩, zS102.pickT (A := [⟨bq, true, .cells #[.slice (some ⟨bl, 0, none⟩) 3 c, .int .i64 most, .int .u64 came] 71 (0, 0)⟩, ⟨bl, true, .cells (onesV [e0, e1, e2] ++ tl).toArray 76 (0, 0)⟩]) (T := bs) [4, 5] 6 (by kernel_rfl) (by kernel_rfl) (by decide) rfl⟩
 have zs0 : ¬ e0.a.source = s := by omega
 have zs1 : ¬ e1.a.source = s := by omega
 have zs2 : ¬ e2.a.source = s := by omega
 have zr0 : e2.a.rank < e1.a.rank ∧ ¬ e1.a.rank < e2.a.rank ∧ e2.a.rank ≤ e1.a.rank ∧ ¬ e1.a.rank ≤ e2.a.rank := by omega
 exact ⟨[e0, e1, e2], (some ⟨bl, 0, none⟩), c, came, [⟨bl, true, .cells (onesV [e0, e1, e2] ++ tl).toArray 76 (0, 0)⟩], by simp [absL, Sd.Q.waits, zs0, zs1, zs2, zr0], by simp [HeapOk] <;> omega, by simp [absL, Sd.Q.drop, zs0, zs1, zs2, zr0] <;> omega, ⟨rfl, by have := hc; simp <;> omega, .inr ⟨bl, tl, rfl, rfl, by have := hl; simpa [onesV, oneC] using this⟩⟩, zS102.pickT (A := [⟨bq, true, .cells #[.slice (some ⟨bl, 0, none⟩) 3 c, .int .i64 most, .int .u64 came] 71 (0, 0)⟩, ⟨bl, true, .cells (onesV [e0, e1, e2] ++ tl).toArray 76 (0, 0)⟩]) (T := bs) [4, 5] 6 (by kernel_rfl) (by kernel_rfl) (by decide) rfl⟩

end Go.Proofs.Ytmfhgekknjghoaa
