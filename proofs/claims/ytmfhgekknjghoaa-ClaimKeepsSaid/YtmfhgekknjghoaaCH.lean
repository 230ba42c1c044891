/- Package queue, up to three who wait: Head, List. -/
import Derived.Test.YtmfhgekknjghoaaCQ
namespace Go.Proofs.Ytmfhgekknjghoaa
open Go Go.RowKit Go.BigFrame Sx
set_option linter.unusedVariables false
set_option linter.unusedSimpArgs false

def asksV : List Sd.Ask → List Value
  | [] => []
  | e :: es => (askC e).toList ++ asksV es

set_option maxRecDepth 100000 in
set_option maxHeartbeats 4000000 in
theorem head_0z (bq : Nat) (most came : Int)   (hH : HeapOk []) (w : World) (hq : w.heap[bq]? = some (.cells #[.slice none 0 0, .int .i64 most, .int .u64 came] 71 (0, 0))) :
    Gives Try.prog 15 #[.pointer (some ⟨bq, 0, none⟩)] w fun v w1 => v = .tuple #[.agg (askC ⟨0, 0, ⟨0, 0⟩⟩), .int .i64 2] ∧ Ch [] w w1 := by
 have S0 := St.given (w := w) [(bq, .cells #[.slice none 0 0, .int .i64 most, .int .u64 came] 71 (0, 0))] (all_cons hq (all_nil))
 refine enter_ Try.func15 rfl ?_
 refine seq_ (reg_ ?_)
 refine new_ S0 (fun b => .pointer (some ⟨b, 0, none⟩)) (.cells #[.int .i64 0, .int .i64 0, .int .i64 0, .int .i64 0] 32) ?_
 intro zb1 zw2 zS3
 refine pure_ (.int .i64 0) ?_
 refine nil_ (then_n (seq_ (seq_ (reg_ ?_))))
 refine move_ ?_
 refine pure_ (.pointer (some ⟨bq, 0, none⟩)) ?_
 refine pure_ (.pointer (some ⟨bq, 0, none⟩)) ?_
 refine load1_ zS3 1 (.slice none 0 0) bq 0 ?_
 refine pure_ (.int .i64 0) ?_
 refine pure_ (.bool true) ?_
 refine nil_ (then_n (cond_T ?_))
 refine seq_ (reg_ ?_)
 refine pure_ (.agg #[.int .i64 0, .int .i64 0, .int .i64 0, .int .i64 0]) ?_
 refine store_ zS3 0 (.agg #[.int .i64 0, .int .i64 0, .int .i64 0, .int .i64 0]) zb1 0 ?_
 intro zw4 zS5
 refine pure_ (.int .i64 2) ?_
 refine nil_ (then_n (wp_ret (then_r ?_)))
 refine ret_ rfl (res_ [.cell 2 32, .tmp 3] [.agg #[.int .i64 0, .int .i64 0, .int .i64 0, .int .i64 0], .int .i64 2] (.tuple #[.agg #[.int .i64 0, .int .i64 0, .int .i64 0, .int .i64 0], .int .i64 2]) ⟨res_cellN zS5 0 4 zb1 0, res_tmp, trivial⟩) ?_
 exact ⟨rfl, zS5.ch⟩

set_option maxRecDepth 100000 in
set_option maxHeartbeats 4000000 in
theorem list_0z (bq : Nat) (most came : Int)   (hH : HeapOk []) (w : World) {ms : List Nat} {w0 : World} {bs : List Blk} (S0 : St ms w0 ([⟨bq, true, .cells #[.slice none 0 0, .int .i64 most, .int .u64 came] 71 (0, 0)⟩] ++ bs) w) :
    Gives Try.prog 12 #[.pointer (some ⟨bq, 0, none⟩)] w fun v w1 => ∃ l x c1 rows, v = .slice x l.length c1 ∧ absL [] = l ∧ rowv 4 32 (asksV l) x l.length c1 rows ∧ St ms w0 (rows ++ ([⟨bq, true, .cells #[.slice none 0 0, .int .i64 most, .int .u64 came] 71 (0, 0)⟩] ++ bs)) w1 := by
 refine enter_ Try.func12 rfl ?_
 refine seq_ (reg_ ?_)
 refine pure_ (.slice none 0 0) ?_
 refine nil_ (then_n (seq_ (reg_ ?_)))
 refine pure_ (.slice none 0 0) ?_
 refine nil_ (then_n (seq_ (seq_ (reg_ ?_))))
 refine move_ ?_
 refine call_ 26 #[.pointer (some ⟨bq, 0, none⟩)] ?_
 refine enter_ Try.func26 rfl ?_
 refine seq_ (reg_ ?_)
 refine pure_ (.slice none 0 0) ?_
 refine nil_ (then_n (seq_ (reg_ ?_)))
 refine move_ ?_
 refine pure_ (.pointer (some ⟨bq, 0, none⟩)) ?_
 refine pure_ (.pointer (some ⟨bq, 0, none⟩)) ?_
 refine load1_ S0 0 (.slice none 0 0) bq 0 ?_
 refine call_ 42 #[.slice none 0 0] ?_
 refine enter_ Try.func42 rfl ?_
 refine seq_ (reg_ ?_)
 refine pure_ (.slice none 0 0) ?_
 refine nil_ (then_n (seq_ (seq_ (reg_ ?_))))
 refine pure_ (.slice none 0 0) ?_
 refine pure_ (.bool true) ?_
 refine nil_ (then_n (cond_T ?_))
 refine seq_ (reg_ ?_)
 refine pure_ (.slice none 0 0) ?_
 refine nil_ (then_n (wp_ret (then_r ?_)))
 refine ret_ rfl (res_ [.tmp 2] [.slice none 0 0] (.slice none 0 0) ⟨res_tmp, trivial⟩) ?_
 refine pure_ (.slice none 0 0) ?_
 refine nil_ (then_n (seq_ (reg_ ?_)))
 refine pure_ (.slice none 0 0) ?_
 refine pure_ (.iface 68 (.slice none 0 0)) ?_
 refine call_ 43 #[.iface 68 (.slice none 0 0)] ?_
 refine enter_ Try.func43 rfl ?_
 refine seq_ (reg_ ?_)
 refine move_ ?_
 refine call_ 81 #[.slice none 0 0] ?_
 refine enter_ Try.func81 rfl ?_
 refine seq_ (reg_ ?_)
 refine pure_ (.int .i64 0) ?_
 refine nil_ (then_n (seq_ (reg_ ?_)))
 refine pure_ (.slice none 0 0) ?_
 refine pure_ (.int .i64 0) ?_
 refine pure_ (.int .i64 0) ?_
 refine nil_ (then_n (wp_ret ?_))
 refine ret_ rfl (res_ [.tmp 2] [.int .i64 0] (.int .i64 0) ⟨res_tmp, trivial⟩) ?_
 refine pure_ (.int .i64 0) ?_
 refine nil_ (then_n (seq_ (seq_ (reg_ ?_))))
 refine pure_ (.int .i64 0) ?_
 refine pure_ (.bool true) ?_
 refine nil_ (then_n (cond_T ?_))
 refine wp_ret (then_r ?_)
 refine ret_ rfl (res_ [] [] (.tuple #[]) trivial) ?_
 refine nil_ (then_n (seq_ (reg_ ?_)))
 refine pure_ (.slice none 0 0) ?_
 refine pure_ (.slice none 0 0) ?_
 refine nil_ (then_n (wp_ret ?_))
 refine ret_ rfl (res_ [.tmp 2] [.slice none 0 0] (.slice none 0 0) ⟨res_tmp, trivial⟩) ?_
 refine pure_ (.int .i64 0) ?_
 refine pure_ (.int .i64 0) ?_
 refine nil_ (then_n (wp_block (loop_ 24 (seq_ (reg_ ?_)))))
 refine pure_ (.bool false) ?_
 refine nil_ (then_n (seq_ (cond_F ?_)))
 refine wp_exit (then_e (then_e (blk_e (then_n (seq_ (reg_ ?_))))))
 refine pure_ (.slice none 0 0) ?_
 refine pure_ (.slice none 0 0) ?_
 refine nil_ (then_n (wp_ret ?_))
 refine ret_ rfl (res_ [.tmp 2] [.slice none 0 0] (.slice none 0 0) ⟨res_tmp, trivial⟩) ?_
 exact ⟨[], none, 0, [], by rfl, by simp [absL], rowv_nil _ _, S0.pickT (A := [⟨bq, true, .cells #[.slice none 0 0, .int .i64 most, .int .u64 came] 71 (0, 0)⟩]) (T := bs) [0] 1 (by kernel_rfl) (by kernel_rfl) (by decide) rfl⟩

set_option maxRecDepth 100000 in
set_option maxHeartbeats 4000000 in
theorem head_0 (bq bl c : Nat) (tl : List Value) (most came : Int)  (hc : 0 ≤ c) (hl : (onesV [] ++ tl).length = c * 5) (hH : HeapOk []) (w : World) (hq : w.heap[bq]? = some (.cells #[.slice (some ⟨bl, 0, none⟩) 0 c, .int .i64 most, .int .u64 came] 71 (0, 0))) (hlb : w.heap[bl]? = some (.cells (([] : List Value) ++ tl).toArray 76 (0, 0))) :
    Gives Try.prog 15 #[.pointer (some ⟨bq, 0, none⟩)] w fun v w1 => v = .tuple #[.agg (askC ⟨0, 0, ⟨0, 0⟩⟩), .int .i64 2] ∧ Ch [] w w1 := by
 have S0 := St.given (w := w) [(bq, .cells #[.slice (some ⟨bl, 0, none⟩) 0 c, .int .i64 most, .int .u64 came] 71 (0, 0)), (bl, .cells (([] : List Value) ++ tl).toArray 76 (0, 0))] (all_cons hq (all_cons hlb (all_nil)))
 refine enter_ Try.func15 rfl ?_
 refine seq_ (reg_ ?_)
 refine new_ S0 (fun b => .pointer (some ⟨b, 0, none⟩)) (.cells #[.int .i64 0, .int .i64 0, .int .i64 0, .int .i64 0] 32) ?_
 intro zb1 zw2 zS3
 refine pure_ (.int .i64 0) ?_
 refine nil_ (then_n (seq_ (seq_ (reg_ ?_))))
 refine move_ ?_
 refine pure_ (.pointer (some ⟨bq, 0, none⟩)) ?_
 refine pure_ (.pointer (some ⟨bq, 0, none⟩)) ?_
 refine load1_ zS3 1 (.slice (some ⟨bl, 0, none⟩) 0 c) bq 0 ?_
 refine pure_ (.int .i64 0) ?_
 refine pure_ (.bool true) ?_
 refine nil_ (then_n (cond_T ?_))
 refine seq_ (reg_ ?_)
 refine pure_ (.agg #[.int .i64 0, .int .i64 0, .int .i64 0, .int .i64 0]) ?_
 refine store_ zS3 0 (.agg #[.int .i64 0, .int .i64 0, .int .i64 0, .int .i64 0]) zb1 0 ?_
 intro zw4 zS5
 refine pure_ (.int .i64 2) ?_
 refine nil_ (then_n (wp_ret (then_r ?_)))
 refine ret_ rfl (res_ [.cell 2 32, .tmp 3] [.agg #[.int .i64 0, .int .i64 0, .int .i64 0, .int .i64 0], .int .i64 2] (.tuple #[.agg #[.int .i64 0, .int .i64 0, .int .i64 0, .int .i64 0], .int .i64 2]) ⟨res_cellN zS5 0 4 zb1 0, res_tmp, trivial⟩) ?_
 exact ⟨rfl, zS5.ch⟩

set_option maxRecDepth 100000 in
set_option maxHeartbeats 4000000 in
theorem list_0 (bq bl c : Nat) (tl : List Value) (most came : Int)  (hc : 0 ≤ c) (hl : (onesV [] ++ tl).length = c * 5) (hH : HeapOk []) (w : World) {ms : List Nat} {w0 : World} {bs : List Blk} (S0 : St ms w0 ([⟨bq, true, .cells #[.slice (some ⟨bl, 0, none⟩) 0 c, .int .i64 most, .int .u64 came] 71 (0, 0)⟩, ⟨bl, true, .cells (([] : List Value) ++ tl).toArray 76 (0, 0)⟩] ++ bs) w) :
    Gives Try.prog 12 #[.pointer (some ⟨bq, 0, none⟩)] w fun v w1 => ∃ l x c1 rows, v = .slice x l.length c1 ∧ absL [] = l ∧ rowv 4 32 (asksV l) x l.length c1 rows ∧ St ms w0 (rows ++ ([⟨bq, true, .cells #[.slice (some ⟨bl, 0, none⟩) 0 c, .int .i64 most, .int .u64 came] 71 (0, 0)⟩, ⟨bl, true, .cells (([] : List Value) ++ tl).toArray 76 (0, 0)⟩] ++ bs)) w1 := by
 refine enter_ Try.func12 rfl ?_
 refine seq_ (reg_ ?_)
 refine pure_ (.slice none 0 0) ?_
 refine nil_ (then_n (seq_ (reg_ ?_)))
 refine pure_ (.slice none 0 0) ?_
 refine nil_ (then_n (seq_ (seq_ (reg_ ?_))))
 refine move_ ?_
 refine call_ 26 #[.pointer (some ⟨bq, 0, none⟩)] ?_
 refine enter_ Try.func26 rfl ?_
 refine seq_ (reg_ ?_)
 refine pure_ (.slice none 0 0) ?_
 refine nil_ (then_n (seq_ (reg_ ?_)))
 refine move_ ?_
 refine pure_ (.pointer (some ⟨bq, 0, none⟩)) ?_
 refine pure_ (.pointer (some ⟨bq, 0, none⟩)) ?_
 refine load1_ S0 0 (.slice (some ⟨bl, 0, none⟩) 0 c) bq 0 ?_
 refine call_ 42 #[.slice (some ⟨bl, 0, none⟩) 0 c] ?_
 refine enter_ Try.func42 rfl ?_
 refine seq_ (reg_ ?_)
 refine pure_ (.slice none 0 0) ?_
 refine nil_ (then_n (seq_ (seq_ (reg_ ?_))))
 refine move_ ?_
 refine pure_ (.bool false) ?_
 refine nil_ (then_n (cond_F ?_))
 refine wp_skip (then_n (seq_ (reg_ ?_)))
 refine new_ S0 (fun b => .slice (some ⟨b, 0, none⟩) 0 0) (.cells #[] 76) ?_
 intro zb1 zw2 zS3
 refine move_ ?_
 refine appendO_ (T := 76) (n := 0) (c := 0) (xv := .slice (some ⟨bl, 0, none⟩) 0 c) (srcK zS3 2 0 5 [] (tx := 68) (e' := 76) (by kernel_rfl) (by kernel_rfl) (by kernel_rfl) (by rfl)) rfl (some ⟨zb1, 0, none⟩) (by decide) rfl ?_
 refine assign_ ?_
 refine nil_ (then_n (wp_ret ?_))
 refine ret_ rfl (res_ [.tmp 2] [.slice (some ⟨zb1, 0, none⟩) 0 0] (.slice (some ⟨zb1, 0, none⟩) 0 0) ⟨res_tmp, trivial⟩) ?_
 refine assign_ ?_
 refine nil_ (then_n (seq_ (reg_ ?_)))
 refine move_ ?_
 refine pure_ (.iface 68 (.slice (some ⟨zb1, 0, none⟩) 0 0)) ?_
 refine call_ 43 #[.iface 68 (.slice (some ⟨zb1, 0, none⟩) 0 0)] ?_
 refine enter_ Try.func43 rfl ?_
 refine seq_ (reg_ ?_)
 refine move_ ?_
 refine call_ 81 #[.slice (some ⟨zb1, 0, none⟩) 0 0] ?_
 refine enter_ Try.func81 rfl ?_
 refine seq_ (reg_ ?_)
 refine pure_ (.int .i64 0) ?_
 refine nil_ (then_n (seq_ (reg_ ?_)))
 refine move_ ?_
 refine pure_ (.int .i64 0) ?_
 refine pure_ (.int .i64 0) ?_
 refine nil_ (then_n (wp_ret ?_))
 refine ret_ rfl (res_ [.tmp 2] [.int .i64 0] (.int .i64 0) ⟨res_tmp, trivial⟩) ?_
 refine pure_ (.int .i64 0) ?_
 refine nil_ (then_n (seq_ (seq_ (reg_ ?_))))
 refine pure_ (.int .i64 0) ?_
 refine pure_ (.bool true) ?_
 refine nil_ (then_n (cond_T ?_))
 refine wp_ret (then_r ?_)
 refine ret_ rfl (res_ [] [] (.tuple #[]) trivial) ?_
 refine nil_ (then_n (seq_ (reg_ ?_)))
 refine move_ ?_
 refine assign_ ?_
 refine nil_ (then_n (wp_ret ?_))
 refine ret_ rfl (res_ [.tmp 2] [.slice (some ⟨zb1, 0, none⟩) 0 0] (.slice (some ⟨zb1, 0, none⟩) 0 0) ⟨res_tmp, trivial⟩) ?_
 refine pure_ (.int .i64 0) ?_
 refine pure_ (.int .i64 0) ?_
 refine nil_ (then_n (wp_block (loop_ 24 (seq_ (reg_ ?_)))))
 refine pure_ (.bool false) ?_
 refine nil_ (then_n (seq_ (cond_F ?_)))
 refine wp_exit (then_e (then_e (blk_e (then_n (seq_ (reg_ ?_))))))
 refine pure_ (.slice none 0 0) ?_
 refine pure_ (.slice none 0 0) ?_
 refine nil_ (then_n (wp_ret ?_))
 refine ret_ rfl (res_ [.tmp 2] [.slice none 0 0] (.slice none 0 0) ⟨res_tmp, trivial⟩) ?_
 exact ⟨[], none, 0, [], by rfl, by simp [absL], rowv_nil _ _, zS3.pickT (A := [⟨bq, true, .cells #[.slice (some ⟨bl, 0, none⟩) 0 c, .int .i64 most, .int .u64 came] 71 (0, 0)⟩, ⟨bl, true, .cells (([] : List Value) ++ tl).toArray 76 (0, 0)⟩]) (T := bs) [1, 2] 3 (by kernel_rfl) (by kernel_rfl) (by decide) rfl⟩

set_option maxRecDepth 100000 in
set_option maxHeartbeats 4000000 in
theorem head_1 (bq bl c : Nat) (tl : List Value) (most came : Int) (e0 : One) (hc : 1 ≤ c) (hl : (onesV [e0] ++ tl).length = c * 5) (hH : HeapOk [e0]) (w : World) (hq : w.heap[bq]? = some (.cells #[.slice (some ⟨bl, 0, none⟩) 1 c, .int .i64 most, .int .u64 came] 71 (0, 0))) (hlb : w.heap[bl]? = some (.cells (([.int .i64 e0.a.source, .int .i64 e0.a.rank, .int .i64 e0.a.age.n, .int .i64 e0.a.age.most, .int .u64 e0.came] : List Value) ++ tl).toArray 76 (0, 0))) :
    Gives Try.prog 15 #[.pointer (some ⟨bq, 0, none⟩)] w fun v w1 => v = .tuple #[.agg (askC e0.a), .int .i64 0] ∧ Ch [] w w1 := by
 have S0 := St.given (w := w) [(bq, .cells #[.slice (some ⟨bl, 0, none⟩) 1 c, .int .i64 most, .int .u64 came] 71 (0, 0)), (bl, .cells (([.int .i64 e0.a.source, .int .i64 e0.a.rank, .int .i64 e0.a.age.n, .int .i64 e0.a.age.most, .int .u64 e0.came] : List Value) ++ tl).toArray 76 (0, 0))] (all_cons hq (all_cons hlb (all_nil)))
 refine enter_ Try.func15 rfl ?_
 refine seq_ (reg_ ?_)
 refine new_ S0 (fun b => .pointer (some ⟨b, 0, none⟩)) (.cells #[.int .i64 0, .int .i64 0, .int .i64 0, .int .i64 0] 32) ?_
 intro zb1 zw2 zS3
 refine pure_ (.int .i64 0) ?_
 refine nil_ (then_n (seq_ (seq_ (reg_ ?_))))
 refine move_ ?_
 refine pure_ (.pointer (some ⟨bq, 0, none⟩)) ?_
 refine pure_ (.pointer (some ⟨bq, 0, none⟩)) ?_
 refine load1_ zS3 1 (.slice (some ⟨bl, 0, none⟩) 1 c) bq 0 ?_
 refine pure_ (.int .i64 1) ?_
 refine pure_ (.bool false) ?_
 refine nil_ (then_n (cond_F ?_))
 refine wp_skip (then_n (seq_ (reg_ ?_)))
 refine move_ ?_
 refine pure_ (.pointer (some ⟨bq, 0, none⟩)) ?_
 refine pure_ (.pointer (some ⟨bq, 0, none⟩)) ?_
 refine load1_ zS3 1 (.slice (some ⟨bl, 0, none⟩) 1 c) bq 0 ?_
 refine pure_ (.pointer (some ⟨bl, 0, none⟩)) ?_
 refine pure_ (.pointer (some ⟨bl, 0, none⟩)) ?_
 refine loadN_ zS3 2 4 (askC e0.a) bl 0 ?_
 refine store_ zS3 0 (.agg (askC e0.a)) zb1 0 ?_
 intro zw4 zS5
 refine pure_ (.int .i64 0) ?_
 refine nil_ (then_n (wp_ret ?_))
 refine ret_ rfl (res_ [.cell 2 32, .tmp 3] [.agg (askC e0.a), .int .i64 0] (.tuple #[.agg (askC e0.a), .int .i64 0]) ⟨res_cellN zS5 0 4 zb1 0, res_tmp, trivial⟩) ?_
 exact ⟨rfl, zS5.ch⟩

set_option maxRecDepth 100000 in
set_option maxHeartbeats 4000000 in
theorem list_1 (bq bl c : Nat) (tl : List Value) (most came : Int) (e0 : One) (hc : 1 ≤ c) (hl : (onesV [e0] ++ tl).length = c * 5) (hH : HeapOk [e0]) (w : World) {ms : List Nat} {w0 : World} {bs : List Blk} (S0 : St ms w0 ([⟨bq, true, .cells #[.slice (some ⟨bl, 0, none⟩) 1 c, .int .i64 most, .int .u64 came] 71 (0, 0)⟩, ⟨bl, true, .cells (([.int .i64 e0.a.source, .int .i64 e0.a.rank, .int .i64 e0.a.age.n, .int .i64 e0.a.age.most, .int .u64 e0.came] : List Value) ++ tl).toArray 76 (0, 0)⟩] ++ bs) w) :
    Gives Try.prog 12 #[.pointer (some ⟨bq, 0, none⟩)] w fun v w1 => ∃ l x c1 rows, v = .slice x l.length c1 ∧ absL [e0] = l ∧ rowv 4 32 (asksV l) x l.length c1 rows ∧ St ms w0 (rows ++ ([⟨bq, true, .cells #[.slice (some ⟨bl, 0, none⟩) 1 c, .int .i64 most, .int .u64 came] 71 (0, 0)⟩, ⟨bl, true, .cells (([.int .i64 e0.a.source, .int .i64 e0.a.rank, .int .i64 e0.a.age.n, .int .i64 e0.a.age.most, .int .u64 e0.came] : List Value) ++ tl).toArray 76 (0, 0)⟩] ++ bs)) w1 := by
 refine enter_ Try.func12 rfl ?_
 refine seq_ (reg_ ?_)
 refine pure_ (.slice none 0 0) ?_
 refine nil_ (then_n (seq_ (reg_ ?_)))
 refine pure_ (.slice none 0 0) ?_
 refine nil_ (then_n (seq_ (seq_ (reg_ ?_))))
 refine move_ ?_
 refine call_ 26 #[.pointer (some ⟨bq, 0, none⟩)] ?_
 refine enter_ Try.func26 rfl ?_
 refine seq_ (reg_ ?_)
 refine pure_ (.slice none 0 0) ?_
 refine nil_ (then_n (seq_ (reg_ ?_)))
 refine move_ ?_
 refine pure_ (.pointer (some ⟨bq, 0, none⟩)) ?_
 refine pure_ (.pointer (some ⟨bq, 0, none⟩)) ?_
 refine load1_ S0 0 (.slice (some ⟨bl, 0, none⟩) 1 c) bq 0 ?_
 refine call_ 42 #[.slice (some ⟨bl, 0, none⟩) 1 c] ?_
 refine enter_ Try.func42 rfl ?_
 refine seq_ (reg_ ?_)
 refine pure_ (.slice none 0 0) ?_
 refine nil_ (then_n (seq_ (seq_ (reg_ ?_))))
 refine move_ ?_
 refine pure_ (.bool false) ?_
 refine nil_ (then_n (cond_F ?_))
 refine wp_skip (then_n (seq_ (reg_ ?_)))
 refine new_ S0 (fun b => .slice (some ⟨b, 0, none⟩) 0 0) (.cells #[] 76) ?_
 intro zb1 zw2 zS3
 refine move_ ?_
 refine appendZ_ (T := 76) (xv := .slice (some ⟨bl, 0, none⟩) 1 c) zS3 (srcK zS3 2 1 5 [.int .i64 e0.a.source, .int .i64 e0.a.rank, .int .i64 e0.a.age.n, .int .i64 e0.a.age.most, .int .u64 e0.came] (tx := 68) (e' := 76) (by kernel_rfl) (by kernel_rfl) (by kernel_rfl) (by rfl)) 40 rfl (by decide) (by decide) (by unfold maxLen; omega) ?_ (some ⟨zb1, 0, none⟩)
 intro zb4 zc5 zt6 zw7 zh9 zh10 zS8
 refine assign_ ?_
 refine nil_ (then_n (wp_ret ?_))
 refine ret_ rfl (res_ [.tmp 2] [.slice (some ⟨zb4, 0, none⟩) 1 zc5] (.slice (some ⟨zb4, 0, none⟩) 1 zc5) ⟨res_tmp, trivial⟩) ?_
 refine assign_ ?_
 refine nil_ (then_n (seq_ (reg_ ?_)))
 refine move_ ?_
 refine pure_ (.iface 68 (.slice (some ⟨zb4, 0, none⟩) 1 zc5)) ?_
 refine call_ 43 #[.iface 68 (.slice (some ⟨zb4, 0, none⟩) 1 zc5)] ?_
 refine enter_ Try.func43 rfl ?_
 refine seq_ (reg_ ?_)
 refine move_ ?_
 refine call_ 81 #[.slice (some ⟨zb4, 0, none⟩) 1 zc5] ?_
 refine enter_ Try.func81 rfl ?_
 refine seq_ (reg_ ?_)
 refine pure_ (.int .i64 0) ?_
 refine nil_ (then_n (seq_ (reg_ ?_)))
 refine move_ ?_
 refine pure_ (.int .i64 1) ?_
 refine pure_ (.int .i64 1) ?_
 refine nil_ (then_n (wp_ret ?_))
 refine ret_ rfl (res_ [.tmp 2] [.int .i64 1] (.int .i64 1) ⟨res_tmp, trivial⟩) ?_
 refine pure_ (.int .i64 1) ?_
 refine nil_ (then_n (seq_ (seq_ (reg_ ?_))))
 refine pure_ (.int .i64 1) ?_
 refine pure_ (.bool true) ?_
 refine nil_ (then_n (cond_T ?_))
 refine wp_ret (then_r ?_)
 refine ret_ rfl (res_ [] [] (.tuple #[]) trivial) ?_
 refine nil_ (then_n (seq_ (reg_ ?_)))
 refine move_ ?_
 refine assign_ ?_
 refine nil_ (then_n (wp_ret ?_))
 refine ret_ rfl (res_ [.tmp 2] [.slice (some ⟨zb4, 0, none⟩) 1 zc5] (.slice (some ⟨zb4, 0, none⟩) 1 zc5) ⟨res_tmp, trivial⟩) ?_
 refine pure_ (.int .i64 1) ?_
 refine pure_ (.int .i64 0) ?_
 refine nil_ (then_n (wp_block (loop_ 24 (seq_ (reg_ ?_)))))
 refine pure_ (.bool true) ?_
 refine nil_ (then_n (seq_ (cond_T ?_)))
 refine wp_skip (then_n (seq_ (wp_block (seq_ (reg_ ?_)))))
 refine pure_ (.pointer (some ⟨zb4, 0, none⟩)) ?_
 refine loadN_ zS8 0 5 #[.int .i64 e0.a.source, .int .i64 e0.a.rank, .int .i64 e0.a.age.n, .int .i64 e0.a.age.most, .int .u64 e0.came] zb4 0 ?_
 refine new_ zS8 (fun b => .pointer (some ⟨b, 0, none⟩)) (.cells #[.int .i64 0, .int .i64 0, .int .i64 0, .int .i64 0, .int .u64 0] 76) ?_
 intro zb11 zw12 zS13
 refine store_ zS13 0 (.agg #[.int .i64 e0.a.source, .int .i64 e0.a.rank, .int .i64 e0.a.age.n, .int .i64 e0.a.age.most, .int .u64 e0.came]) zb11 0 ?_
 intro zw14 zS15
 refine nil_ (then_n (reg_ ?_))
 refine pure_ (.slice none 0 0) ?_
 refine pure_ (.pointer (some ⟨zb11, 0, none⟩)) ?_
 refine loadN_ zS15 0 4 (askC e0.a) zb11 0 ?_
 refine new_ zS15 (fun b => .slice (some ⟨b, 0, none⟩) 1 1) (.cells (askC e0.a) 32) ?_
 intro zb16 zw17 zS18
 refine appendZ_ (T := 32) (xv := .slice (some ⟨zb16, 0, none⟩) 1 1) zS18 (srcK zS18 0 1 4 [.int .i64 e0.a.source, .int .i64 e0.a.rank, .int .i64 e0.a.age.n, .int .i64 e0.a.age.most] (tx := 22) (e' := 32) (by kernel_rfl) (by kernel_rfl) (by kernel_rfl) (by rfl)) 32 rfl (by decide) (by decide) (by unfold maxLen; omega) ?_ none
 intro zb19 zc20 zt21 zw22 zh24 zh25 zS23
 refine assign_ ?_
 refine nil_ (blk_n (then_n (reg_ ?_)))
 refine pure_ (.int .i64 1) ?_
 refine pure_ (.int .i64 1) ?_
 refine nil_ (again_ (seq_ (reg_ ?_)))
 refine pure_ (.bool false) ?_
 refine nil_ (then_n (seq_ (cond_F ?_)))
 refine wp_exit (then_e (then_e (blk_e (then_n (seq_ (reg_ ?_))))))
 refine move_ ?_
 refine assign_ ?_
 refine nil_ (then_n (wp_ret ?_))
 refine ret_ rfl (res_ [.tmp 2] [.slice (some ⟨zb19, 0, none⟩) 1 zc20] (.slice (some ⟨zb19, 0, none⟩) 1 zc20) ⟨res_tmp, trivial⟩) ?_
 exact ⟨[e0.a], some ⟨zb19, 0, none⟩, zc20, [⟨zb19, true, .cells (asksV [e0.a] ++ zt21).toArray 32 (0, 0)⟩], by rfl, by simp [absL], ⟨rfl, by have := zh25; simp <;> omega, .inr ⟨zb19, zt21, rfl, rfl, by have := zh24; simpa [asksV, askC] using this⟩⟩, zS23.pickT (A := [⟨zb19, true, .cells (asksV [e0.a] ++ zt21).toArray 32 (0, 0)⟩, ⟨bq, true, .cells #[.slice (some ⟨bl, 0, none⟩) 1 c, .int .i64 most, .int .u64 came] 71 (0, 0)⟩, ⟨bl, true, .cells (([.int .i64 e0.a.source, .int .i64 e0.a.rank, .int .i64 e0.a.age.n, .int .i64 e0.a.age.most, .int .u64 e0.came] : List Value) ++ tl).toArray 76 (0, 0)⟩]) (T := bs) [0, 5, 6] 7 (by kernel_rfl) (by kernel_rfl) (by decide) rfl⟩

set_option maxRecDepth 100000 in
set_option maxHeartbeats 4000000 in
theorem head_2 (bq bl c : Nat) (tl : List Value) (most came : Int) (e0 : One) (e1 : One) (hc : 2 ≤ c) (hl : (onesV [e0, e1] ++ tl).length = c * 5) (hH : HeapOk [e0, e1]) (w : World) (hq : w.heap[bq]? = some (.cells #[.slice (some ⟨bl, 0, none⟩) 2 c, .int .i64 most, .int .u64 came] 71 (0, 0))) (hlb : w.heap[bl]? = some (.cells (([.int .i64 e0.a.source, .int .i64 e0.a.rank, .int .i64 e0.a.age.n, .int .i64 e0.a.age.most, .int .u64 e0.came, .int .i64 e1.a.source, .int .i64 e1.a.rank, .int .i64 e1.a.age.n, .int .i64 e1.a.age.most, .int .u64 e1.came] : List Value) ++ tl).toArray 76 (0, 0))) :
    Gives Try.prog 15 #[.pointer (some ⟨bq, 0, none⟩)] w fun v w1 => v = .tuple #[.agg (askC e0.a), .int .i64 0] ∧ Ch [] w w1 := by
 have S0 := St.given (w := w) [(bq, .cells #[.slice (some ⟨bl, 0, none⟩) 2 c, .int .i64 most, .int .u64 came] 71 (0, 0)), (bl, .cells (([.int .i64 e0.a.source, .int .i64 e0.a.rank, .int .i64 e0.a.age.n, .int .i64 e0.a.age.most, .int .u64 e0.came, .int .i64 e1.a.source, .int .i64 e1.a.rank, .int .i64 e1.a.age.n, .int .i64 e1.a.age.most, .int .u64 e1.came] : List Value) ++ tl).toArray 76 (0, 0))] (all_cons hq (all_cons hlb (all_nil)))
 refine enter_ Try.func15 rfl ?_
 refine seq_ (reg_ ?_)
 refine new_ S0 (fun b => .pointer (some ⟨b, 0, none⟩)) (.cells #[.int .i64 0, .int .i64 0, .int .i64 0, .int .i64 0] 32) ?_
 intro zb1 zw2 zS3
 refine pure_ (.int .i64 0) ?_
 refine nil_ (then_n (seq_ (seq_ (reg_ ?_))))
 refine move_ ?_
 refine pure_ (.pointer (some ⟨bq, 0, none⟩)) ?_
 refine pure_ (.pointer (some ⟨bq, 0, none⟩)) ?_
 refine load1_ zS3 1 (.slice (some ⟨bl, 0, none⟩) 2 c) bq 0 ?_
 refine pure_ (.int .i64 2) ?_
 refine pure_ (.bool false) ?_
 refine nil_ (then_n (cond_F ?_))
 refine wp_skip (then_n (seq_ (reg_ ?_)))
 refine move_ ?_
 refine pure_ (.pointer (some ⟨bq, 0, none⟩)) ?_
 refine pure_ (.pointer (some ⟨bq, 0, none⟩)) ?_
 refine load1_ zS3 1 (.slice (some ⟨bl, 0, none⟩) 2 c) bq 0 ?_
 refine pure_ (.pointer (some ⟨bl, 0, none⟩)) ?_
 refine pure_ (.pointer (some ⟨bl, 0, none⟩)) ?_
 refine loadN_ zS3 2 4 (askC e0.a) bl 0 ?_
 refine store_ zS3 0 (.agg (askC e0.a)) zb1 0 ?_
 intro zw4 zS5
 refine pure_ (.int .i64 0) ?_
 refine nil_ (then_n (wp_ret ?_))
 refine ret_ rfl (res_ [.cell 2 32, .tmp 3] [.agg (askC e0.a), .int .i64 0] (.tuple #[.agg (askC e0.a), .int .i64 0]) ⟨res_cellN zS5 0 4 zb1 0, res_tmp, trivial⟩) ?_
 exact ⟨rfl, zS5.ch⟩

set_option maxRecDepth 100000 in
set_option maxHeartbeats 4000000 in
theorem list_2 (bq bl c : Nat) (tl : List Value) (most came : Int) (e0 : One) (e1 : One) (hc : 2 ≤ c) (hl : (onesV [e0, e1] ++ tl).length = c * 5) (hH : HeapOk [e0, e1]) (w : World) {ms : List Nat} {w0 : World} {bs : List Blk} (S0 : St ms w0 ([⟨bq, true, .cells #[.slice (some ⟨bl, 0, none⟩) 2 c, .int .i64 most, .int .u64 came] 71 (0, 0)⟩, ⟨bl, true, .cells (([.int .i64 e0.a.source, .int .i64 e0.a.rank, .int .i64 e0.a.age.n, .int .i64 e0.a.age.most, .int .u64 e0.came, .int .i64 e1.a.source, .int .i64 e1.a.rank, .int .i64 e1.a.age.n, .int .i64 e1.a.age.most, .int .u64 e1.came] : List Value) ++ tl).toArray 76 (0, 0)⟩] ++ bs) w) :
    Gives Try.prog 12 #[.pointer (some ⟨bq, 0, none⟩)] w fun v w1 => ∃ l x c1 rows, v = .slice x l.length c1 ∧ absL [e0, e1] = l ∧ rowv 4 32 (asksV l) x l.length c1 rows ∧ St ms w0 (rows ++ ([⟨bq, true, .cells #[.slice (some ⟨bl, 0, none⟩) 2 c, .int .i64 most, .int .u64 came] 71 (0, 0)⟩, ⟨bl, true, .cells (([.int .i64 e0.a.source, .int .i64 e0.a.rank, .int .i64 e0.a.age.n, .int .i64 e0.a.age.most, .int .u64 e0.came, .int .i64 e1.a.source, .int .i64 e1.a.rank, .int .i64 e1.a.age.n, .int .i64 e1.a.age.most, .int .u64 e1.came] : List Value) ++ tl).toArray 76 (0, 0)⟩] ++ bs)) w1 := by
 simp only [HeapOk] at hH
 refine enter_ Try.func12 rfl ?_
 refine seq_ (reg_ ?_)
 refine pure_ (.slice none 0 0) ?_
 refine nil_ (then_n (seq_ (reg_ ?_)))
 refine pure_ (.slice none 0 0) ?_
 refine nil_ (then_n (seq_ (seq_ (reg_ ?_))))
 refine move_ ?_
 refine call_ 26 #[.pointer (some ⟨bq, 0, none⟩)] ?_
 refine enter_ Try.func26 rfl ?_
 refine seq_ (reg_ ?_)
 refine pure_ (.slice none 0 0) ?_
 refine nil_ (then_n (seq_ (reg_ ?_)))
 refine move_ ?_
 refine pure_ (.pointer (some ⟨bq, 0, none⟩)) ?_
 refine pure_ (.pointer (some ⟨bq, 0, none⟩)) ?_
 refine load1_ S0 0 (.slice (some ⟨bl, 0, none⟩) 2 c) bq 0 ?_
 refine call_ 42 #[.slice (some ⟨bl, 0, none⟩) 2 c] ?_
 refine enter_ Try.func42 rfl ?_
 refine seq_ (reg_ ?_)
 refine pure_ (.slice none 0 0) ?_
 refine nil_ (then_n (seq_ (seq_ (reg_ ?_))))
 refine move_ ?_
 refine pure_ (.bool false) ?_
 refine nil_ (then_n (cond_F ?_))
 refine wp_skip (then_n (seq_ (reg_ ?_)))
 refine new_ S0 (fun b => .slice (some ⟨b, 0, none⟩) 0 0) (.cells #[] 76) ?_
 intro zb1 zw2 zS3
 refine move_ ?_
 refine appendZ_ (T := 76) (xv := .slice (some ⟨bl, 0, none⟩) 2 c) zS3 (srcK zS3 2 2 5 [.int .i64 e0.a.source, .int .i64 e0.a.rank, .int .i64 e0.a.age.n, .int .i64 e0.a.age.most, .int .u64 e0.came, .int .i64 e1.a.source, .int .i64 e1.a.rank, .int .i64 e1.a.age.n, .int .i64 e1.a.age.most, .int .u64 e1.came] (tx := 68) (e' := 76) (by kernel_rfl) (by kernel_rfl) (by kernel_rfl) (by rfl)) 40 rfl (by decide) (by decide) (by unfold maxLen; omega) ?_ (some ⟨zb1, 0, none⟩)
 intro zb4 zc5 zt6 zw7 zh9 zh10 zS8
 refine assign_ ?_
 refine nil_ (then_n (wp_ret ?_))
 refine ret_ rfl (res_ [.tmp 2] [.slice (some ⟨zb4, 0, none⟩) 2 zc5] (.slice (some ⟨zb4, 0, none⟩) 2 zc5) ⟨res_tmp, trivial⟩) ?_
 refine assign_ ?_
 refine nil_ (then_n (seq_ (reg_ ?_)))
 refine move_ ?_
 refine pure_ (.iface 68 (.slice (some ⟨zb4, 0, none⟩) 2 zc5)) ?_
 refine call_ 43 #[.iface 68 (.slice (some ⟨zb4, 0, none⟩) 2 zc5)] ?_
 refine enter_ Try.func43 rfl ?_
 refine seq_ (reg_ ?_)
 refine move_ ?_
 refine call_ 81 #[.slice (some ⟨zb4, 0, none⟩) 2 zc5] ?_
 refine enter_ Try.func81 rfl ?_
 refine seq_ (reg_ ?_)
 refine pure_ (.int .i64 0) ?_
 refine nil_ (then_n (seq_ (reg_ ?_)))
 refine move_ ?_
 refine pure_ (.int .i64 2) ?_
 refine pure_ (.int .i64 2) ?_
 refine nil_ (then_n (wp_ret ?_))
 refine ret_ rfl (res_ [.tmp 2] [.int .i64 2] (.int .i64 2) ⟨res_tmp, trivial⟩) ?_
 refine pure_ (.int .i64 2) ?_
 refine nil_ (then_n (seq_ (seq_ (reg_ ?_))))
 refine pure_ (.int .i64 2) ?_
 refine pure_ (.bool false) ?_
 refine nil_ (then_n (cond_F ?_))
 refine wp_skip (then_n (seq_ (reg_ ?_)))
 refine pure_ (.int .i64 2) ?_
 refine pure_ (.int .u64 2) ?_
 refine call_ 47 #[.int .u64 2] ?_
 refine enter_ Try.func47 rfl ?_
 refine seq_ (reg_ ?_)
 refine pure_ (.int .i64 0) ?_
 refine nil_ (then_n (seq_ (cond_F ?_)))
 refine wp_skip (then_n (seq_ (reg_ ?_)))
 refine pure_ (.int .u64 2) ?_
 refine call_ 50 #[.int .u64 2] ?_
 refine enter_ Try.func50 rfl ?_
 refine seq_ (reg_ ?_)
 refine pure_ (.int .i64 0) ?_
 refine nil_ (then_n (seq_ (seq_ (reg_ ?_))))
 refine pure_ (.int .u64 2) ?_
 refine pure_ (.bool false) ?_
 refine nil_ (then_n (cond_F ?_))
 refine wp_skip (then_n (seq_ (seq_ (reg_ ?_))))
 refine pure_ (.int .u64 2) ?_
 refine pure_ (.bool false) ?_
 refine nil_ (then_n (cond_F ?_))
 refine wp_skip (then_n (seq_ (seq_ (reg_ ?_))))
 refine pure_ (.int .u64 2) ?_
 refine pure_ (.bool false) ?_
 refine nil_ (then_n (cond_F ?_))
 refine wp_skip (then_n (seq_ (reg_ ?_)))
 refine pure_ (.int .i64 0) ?_
 refine pure_ (.int .u64 2) ?_
 refine pure_ (.int .u8 2) ?_
 refine pure_ (.int .u8 2) ?_
 refine pure_ (.int .i64 2) ?_
 refine pure_ (.int .i64 2) ?_
 refine pure_ (.int .i64 2) ?_
 refine nil_ (then_n (wp_ret ?_))
 refine ret_ rfl (res_ [.tmp 2] [.int .i64 2] (.int .i64 2) ⟨res_tmp, trivial⟩) ?_
 refine pure_ (.int .i64 2) ?_
 refine nil_ (then_n (wp_ret ?_))
 refine ret_ rfl (res_ [.tmp 2] [.int .i64 2] (.int .i64 2) ⟨res_tmp, trivial⟩) ?_
 refine pure_ (.int .i64 2) ?_
 refine nil_ (then_n (reg_ ?_))
 refine move_ ?_
 refine pure_ (.int .i64 2) ?_
 refine pure_ (.int .i64 2) ?_
 refine call_ 48 #[.iface 68 (.slice (some ⟨zb4, 0, none⟩) 2 zc5), .int .i64 0, .int .i64 2, .int .i64 2] ?_
 refine enter_ Try.func48 rfl ?_
 refine seq_ (reg_ ?_)
 refine pure_ (.bool true) ?_
 refine nil_ (then_n (seq_ (reg_ ?_)))
 refine pure_ (.bool true) ?_
 refine nil_ (then_n (wp_block (loop_ 24 (wp_block (seq_ (reg_ ?_))))))
 refine pure_ (.int .i64 2) ?_
 refine pure_ (.int .i64 0) ?_
 refine pure_ (.int .i64 2) ?_
 refine pure_ (.int .i64 2) ?_
 refine nil_ (then_n (seq_ (seq_ (reg_ ?_))))
 refine pure_ (.int .i64 2) ?_
 refine pure_ (.bool true) ?_
 refine nil_ (then_n (cond_T ?_))
 refine seq_ (reg_ ?_)
 refine move_ ?_
 refine pure_ (.int .i64 0) ?_
 refine pure_ (.int .i64 2) ?_
 refine call_ 51 #[.iface 68 (.slice (some ⟨zb4, 0, none⟩) 2 zc5), .int .i64 0, .int .i64 2] ?_
 refine enter_ Try.func51 rfl ?_
 refine seq_ (reg_ ?_)
 refine pure_ (.int .i64 0) ?_
 refine pure_ (.int .i64 1) ?_
 refine pure_ (.int .i64 1) ?_
 refine nil_ (then_n (wp_block (loop_ 24 (seq_ (seq_ (reg_ ?_))))))
 refine pure_ (.int .i64 1) ?_
 refine pure_ (.int .i64 2) ?_
 refine pure_ (.bool true) ?_
 refine nil_ (then_n (cond_T ?_))
 refine wp_skip (then_n (seq_ (wp_block (seq_ (reg_ ?_)))))
 refine pure_ (.int .i64 1) ?_
 refine pure_ (.int .i64 1) ?_
 refine nil_ (then_n (wp_block (loop_ 24 (seq_ (seq_ (reg_ ?_))))))
 refine pure_ (.int .i64 1) ?_
 refine pure_ (.int .i64 0) ?_
 refine pure_ (.bool true) ?_
 refine pure_ (.bool true) ?_
 refine move_ ?_
 refine pure_ (.int .i64 1) ?_
 refine pure_ (.int .i64 1) ?_
 refine pure_ (.int .i64 0) ?_
 refine call_ 82 #[.slice (some ⟨zb4, 0, none⟩) 2 zc5, .int .i64 1, .int .i64 0] ?_
 refine enter_ Try.func82 rfl ?_
 refine seq_ (reg_ ?_)
 refine pure_ (.bool false) ?_
 refine nil_ (then_n (seq_ (seq_ ?_)))
 refine quietL_ 12 [.slice (some ⟨zb4, 0, none⟩) 2 zc5, .int .i64 1, .pointer (some ⟨zb4, 5, none⟩), .pointer (some ⟨zb4, 5, none⟩), .pointer (some ⟨zb4, 6, none⟩), .int .i64 e1.a.rank, .slice (some ⟨zb4, 0, none⟩) 2 zc5, .int .i64 0, .pointer (some ⟨zb4, 0, none⟩), .pointer (some ⟨zb4, 0, none⟩), .pointer (some ⟨zb4, 1, none⟩), .int .i64 e0.a.rank] [[12, 5, 4, 3, 2, 0], [12, 5, 4, 3, 2, 1], [12, 5, 4, 3, 2], [12, 5, 4, 3], [12, 5, 4], [12, 5], [12, 11, 10, 9, 8, 6], [12, 11, 10, 9, 8, 7], [12, 11, 10, 9, 8], [12, 11, 10, 9], [12, 11, 10], [12, 11]] (step_cons qP_ (step_cons qP_ (step_cons qP_ (step_cons qP_ (step_cons qP_ (step_cons (qL_ zS8 0 zb4 6) (step_cons qP_ (step_cons qP_ (step_cons qP_ (step_cons qP_ (step_cons qP_ (step_cons (qL_ zS8 0 zb4 1) (step_nil))))))))))))) ?_
 intro zw11 zh13
 have zS12 := zS8.quiet zh13
 refine pureE_ (.bool (e1.a.rank != e0.a.rank)) (.bool true) (congrArg Value.bool (neT (by omega))) ?_
 refine nil_ (then_n (cond_T ?_))
 refine seq_ ?_
 refine quietL_ 12 [.slice (some ⟨zb4, 0, none⟩) 2 zc5, .int .i64 1, .pointer (some ⟨zb4, 5, none⟩), .pointer (some ⟨zb4, 5, none⟩), .pointer (some ⟨zb4, 6, none⟩), .int .i64 e1.a.rank, .slice (some ⟨zb4, 0, none⟩) 2 zc5, .int .i64 0, .pointer (some ⟨zb4, 0, none⟩), .pointer (some ⟨zb4, 0, none⟩), .pointer (some ⟨zb4, 1, none⟩), .int .i64 e0.a.rank] [[12, 5, 4, 3, 2, 0], [12, 5, 4, 3, 2, 1], [12, 5, 4, 3, 2], [12, 5, 4, 3], [12, 5, 4], [12, 5], [12, 11, 10, 9, 8, 6], [12, 11, 10, 9, 8, 7], [12, 11, 10, 9, 8], [12, 11, 10, 9], [12, 11, 10], [12, 11], [13, 0], [13, 1], [13, 2], [13, 3], [13, 4], [13, 5], [13, 6], [13, 7], [13, 8], [13, 9], [13, 10], [13, 11], [13, 12]] (step_cons qP_ (step_cons qP_ (step_cons qP_ (step_cons qP_ (step_cons qP_ (step_cons (qL_ zS12 0 zb4 6) (step_cons qP_ (step_cons qP_ (step_cons qP_ (step_cons qP_ (step_cons qP_ (step_cons (qL_ zS12 0 zb4 1) (step_nil))))))))))))) ?_
 intro zw14 zh16
 have zS15 := zS12.quiet zh16
 refine pureE_ (.bool (decide (e1.a.rank < e0.a.rank))) (.bool false) (congrArg Value.bool (ltF (by omega))) ?_
 refine pure_ (.bool false) ?_
 refine nil_ (then_n (wp_ret (then_r ?_)))
 refine ret_ rfl (res_ [.tmp 6] [.bool false] (.bool false) ⟨res_tmp, trivial⟩) ?_
 refine pure_ (.bool false) ?_
 refine nil_ (then_n (cond_F ?_))
 refine wp_exit (then_e (then_e (blk_e (blk_n (then_n (reg_ ?_))))))
 refine pure_ (.int .i64 1) ?_
 refine pure_ (.int .i64 2) ?_
 refine pure_ (.int .i64 2) ?_
 refine nil_ (again_ (seq_ (seq_ (reg_ ?_))))
 refine pure_ (.int .i64 2) ?_
 refine pure_ (.int .i64 2) ?_
 refine pure_ (.bool false) ?_
 refine nil_ (then_n (cond_F ?_))
 refine wp_exit (then_e (then_e (blk_e ?_)))
 refine end_ rfl (res_ [] [] (.tuple #[]) trivial) ?_
 refine nil_ (then_n (wp_ret (then_r (blk_r (then_r (blk_r ?_))))))
 refine ret_ rfl (res_ [] [] (.tuple #[]) trivial) ?_
 refine nil_ ?_
 refine end_ rfl (res_ [] [] (.tuple #[]) trivial) ?_
 refine nil_ (then_n (seq_ (reg_ ?_)))
 refine move_ ?_
 refine assign_ ?_
 refine nil_ (then_n (wp_ret ?_))
 refine ret_ rfl (res_ [.tmp 2] [.slice (some ⟨zb4, 0, none⟩) 2 zc5] (.slice (some ⟨zb4, 0, none⟩) 2 zc5) ⟨res_tmp, trivial⟩) ?_
 refine pure_ (.int .i64 2) ?_
 refine pure_ (.int .i64 0) ?_
 refine nil_ (then_n (wp_block (loop_ 24 (seq_ (reg_ ?_)))))
 refine pure_ (.bool true) ?_
 refine nil_ (then_n (seq_ (cond_T ?_)))
 refine wp_skip (then_n (seq_ (wp_block (seq_ (reg_ ?_)))))
 refine pure_ (.pointer (some ⟨zb4, 0, none⟩)) ?_
 refine loadN_ zS15 0 5 #[.int .i64 e0.a.source, .int .i64 e0.a.rank, .int .i64 e0.a.age.n, .int .i64 e0.a.age.most, .int .u64 e0.came] zb4 0 ?_
 refine new_ zS15 (fun b => .pointer (some ⟨b, 0, none⟩)) (.cells #[.int .i64 0, .int .i64 0, .int .i64 0, .int .i64 0, .int .u64 0] 76) ?_
 intro zb17 zw18 zS19
 refine store_ zS19 0 (.agg #[.int .i64 e0.a.source, .int .i64 e0.a.rank, .int .i64 e0.a.age.n, .int .i64 e0.a.age.most, .int .u64 e0.came]) zb17 0 ?_
 intro zw20 zS21
 refine nil_ (then_n (reg_ ?_))
 refine pure_ (.slice none 0 0) ?_
 refine pure_ (.pointer (some ⟨zb17, 0, none⟩)) ?_
 refine loadN_ zS21 0 4 (askC e0.a) zb17 0 ?_
 refine new_ zS21 (fun b => .slice (some ⟨b, 0, none⟩) 1 1) (.cells (askC e0.a) 32) ?_
 intro zb22 zw23 zS24
 refine appendZ_ (T := 32) (xv := .slice (some ⟨zb22, 0, none⟩) 1 1) zS24 (srcK zS24 0 1 4 [.int .i64 e0.a.source, .int .i64 e0.a.rank, .int .i64 e0.a.age.n, .int .i64 e0.a.age.most] (tx := 22) (e' := 32) (by kernel_rfl) (by kernel_rfl) (by kernel_rfl) (by rfl)) 32 rfl (by decide) (by decide) (by unfold maxLen; omega) ?_ none
 intro zb25 zc26 zt27 zw28 zh30 zh31 zS29
 refine assign_ ?_
 refine nil_ (blk_n (then_n (reg_ ?_)))
 refine pure_ (.int .i64 1) ?_
 refine pure_ (.int .i64 1) ?_
 refine nil_ (again_ (seq_ (reg_ ?_)))
 refine pure_ (.bool true) ?_
 refine nil_ (then_n (seq_ (cond_T ?_)))
 refine wp_skip (then_n (seq_ (wp_block (seq_ (reg_ ?_)))))
 refine pure_ (.pointer (some ⟨zb4, 5, none⟩)) ?_
 refine loadN_ zS29 3 5 #[.int .i64 e1.a.source, .int .i64 e1.a.rank, .int .i64 e1.a.age.n, .int .i64 e1.a.age.most, .int .u64 e1.came] zb4 5 ?_
 refine new_ zS29 (fun b => .pointer (some ⟨b, 0, none⟩)) (.cells #[.int .i64 0, .int .i64 0, .int .i64 0, .int .i64 0, .int .u64 0] 76) ?_
 intro zb32 zw33 zS34
 refine store_ zS34 0 (.agg #[.int .i64 e1.a.source, .int .i64 e1.a.rank, .int .i64 e1.a.age.n, .int .i64 e1.a.age.most, .int .u64 e1.came]) zb32 0 ?_
 intro zw35 zS36
 refine nil_ (then_n (reg_ ?_))
 refine move_ ?_
 refine pure_ (.pointer (some ⟨zb32, 0, none⟩)) ?_
 refine loadN_ zS36 0 4 (askC e1.a) zb32 0 ?_
 refine new_ zS36 (fun b => .slice (some ⟨b, 0, none⟩) 1 1) (.cells (askC e1.a) 32) ?_
 intro zb37 zw38 zS39
 refine appendB_ (b := zb25) (T := 32) (xv := .slice (some ⟨zb37, 0, none⟩) 1 1) zS39 2 (n := 1) (c := zc26) [.int .i64 e0.a.source, .int .i64 e0.a.rank, .int .i64 e0.a.age.n, .int .i64 e0.a.age.most] zt27 (srcK zS39 0 1 4 [.int .i64 e1.a.source, .int .i64 e1.a.rank, .int .i64 e1.a.age.n, .int .i64 e1.a.age.most] (tx := 22) (e' := 32) (by kernel_rfl) (by kernel_rfl) (by kernel_rfl) (by rfl)) 32 rfl (by kernel_rfl) (by rfl) (zh30) (zh31) (by decide) (by decide) (by unfold maxLen; omega) ?_
 intro zb40 zc41 zt42 zw43 zh45 zh46 zS44
 refine assign_ ?_
 refine nil_ (blk_n (then_n (reg_ ?_)))
 refine pure_ (.int .i64 2) ?_
 refine pure_ (.int .i64 2) ?_
 refine nil_ (again_ (seq_ (reg_ ?_)))
 refine pure_ (.bool false) ?_
 refine nil_ (then_n (seq_ (cond_F ?_)))
 refine wp_exit (then_e (then_e (blk_e (then_n (seq_ (reg_ ?_))))))
 refine move_ ?_
 refine assign_ ?_
 refine nil_ (then_n (wp_ret ?_))
 refine ret_ rfl (res_ [.tmp 2] [.slice (some ⟨zb40, 0, none⟩) 2 zc41] (.slice (some ⟨zb40, 0, none⟩) 2 zc41) ⟨res_tmp, trivial⟩) ?_
 exact ⟨[e0.a, e1.a], some ⟨zb40, 0, none⟩, zc41, [⟨zb40, true, .cells (asksV [e0.a, e1.a] ++ zt42).toArray 32 (0, 0)⟩], by rfl, by simp [absL], ⟨rfl, by have := zh46; simp <;> omega, .inr ⟨zb40, zt42, rfl, rfl, by have := zh45; simpa [asksV, askC] using this⟩⟩, zS44.pickT (A := [⟨zb40, true, .cells (asksV [e0.a, e1.a] ++ zt42).toArray 32 (0, 0)⟩, ⟨bq, true, .cells #[.slice (some ⟨bl, 0, none⟩) 2 c, .int .i64 most, .int .u64 came] 71 (0, 0)⟩, ⟨bl, true, .cells (([.int .i64 e0.a.source, .int .i64 e0.a.rank, .int .i64 e0.a.age.n, .int .i64 e0.a.age.most, .int .u64 e0.came, .int .i64 e1.a.source, .int .i64 e1.a.rank, .int .i64 e1.a.age.n, .int .i64 e1.a.age.most, .int .u64 e1.came] : List Value) ++ tl).toArray 76 (0, 0)⟩]) (T := bs) [0, 7, 8] 9 (by kernel_rfl) (by kernel_rfl) (by decide) rfl⟩

set_option maxRecDepth 100000 in
set_option maxHeartbeats 4000000 in
theorem head_3 (bq bl c : Nat) (tl : List Value) (most came : Int) (e0 : One) (e1 : One) (e2 : One) (hc : 3 ≤ c) (hl : (onesV [e0, e1, e2] ++ tl).length = c * 5) (hH : HeapOk [e0, e1, e2]) (w : World) (hq : w.heap[bq]? = some (.cells #[.slice (some ⟨bl, 0, none⟩) 3 c, .int .i64 most, .int .u64 came] 71 (0, 0))) (hlb : w.heap[bl]? = some (.cells (([.int .i64 e0.a.source, .int .i64 e0.a.rank, .int .i64 e0.a.age.n, .int .i64 e0.a.age.most, .int .u64 e0.came, .int .i64 e1.a.source, .int .i64 e1.a.rank, .int .i64 e1.a.age.n, .int .i64 e1.a.age.most, .int .u64 e1.came, .int .i64 e2.a.source, .int .i64 e2.a.rank, .int .i64 e2.a.age.n, .int .i64 e2.a.age.most, .int .u64 e2.came] : List Value) ++ tl).toArray 76 (0, 0))) :
    Gives Try.prog 15 #[.pointer (some ⟨bq, 0, none⟩)] w fun v w1 => v = .tuple #[.agg (askC e0.a), .int .i64 0] ∧ Ch [] w w1 := by
 have S0 := St.given (w := w) [(bq, .cells #[.slice (some ⟨bl, 0, none⟩) 3 c, .int .i64 most, .int .u64 came] 71 (0, 0)), (bl, .cells (([.int .i64 e0.a.source, .int .i64 e0.a.rank, .int .i64 e0.a.age.n, .int .i64 e0.a.age.most, .int .u64 e0.came, .int .i64 e1.a.source, .int .i64 e1.a.rank, .int .i64 e1.a.age.n, .int .i64 e1.a.age.most, .int .u64 e1.came, .int .i64 e2.a.source, .int .i64 e2.a.rank, .int .i64 e2.a.age.n, .int .i64 e2.a.age.most, .int .u64 e2.came] : List Value) ++ tl).toArray 76 (0, 0))] (all_cons hq (all_cons hlb (all_nil)))
 refine enter_ Try.func15 rfl ?_
 refine seq_ (reg_ ?_)
 refine new_ S0 (fun b => .pointer (some ⟨b, 0, none⟩)) (.cells #[.int .i64 0, .int .i64 0, .int .i64 0, .int .i64 0] 32) ?_
 intro zb1 zw2 zS3
 refine pure_ (.int .i64 0) ?_
 refine nil_ (then_n (seq_ (seq_ (reg_ ?_))))
 refine move_ ?_
 refine pure_ (.pointer (some ⟨bq, 0, none⟩)) ?_
 refine pure_ (.pointer (some ⟨bq, 0, none⟩)) ?_
 refine load1_ zS3 1 (.slice (some ⟨bl, 0, none⟩) 3 c) bq 0 ?_
 refine pure_ (.int .i64 3) ?_
 refine pure_ (.bool false) ?_
 refine nil_ (then_n (cond_F ?_))
 refine wp_skip (then_n (seq_ (reg_ ?_)))
 refine move_ ?_
 refine pure_ (.pointer (some ⟨bq, 0, none⟩)) ?_
 refine pure_ (.pointer (some ⟨bq, 0, none⟩)) ?_
 refine load1_ zS3 1 (.slice (some ⟨bl, 0, none⟩) 3 c) bq 0 ?_
 refine pure_ (.pointer (some ⟨bl, 0, none⟩)) ?_
 refine pure_ (.pointer (some ⟨bl, 0, none⟩)) ?_
 refine loadN_ zS3 2 4 (askC e0.a) bl 0 ?_
 refine store_ zS3 0 (.agg (askC e0.a)) zb1 0 ?_
 intro zw4 zS5
 refine pure_ (.int .i64 0) ?_
 refine nil_ (then_n (wp_ret ?_))
 refine ret_ rfl (res_ [.cell 2 32, .tmp 3] [.agg (askC e0.a), .int .i64 0] (.tuple #[.agg (askC e0.a), .int .i64 0]) ⟨res_cellN zS5 0 4 zb1 0, res_tmp, trivial⟩) ?_
 exact ⟨rfl, zS5.ch⟩

set_option maxRecDepth 100000 in
set_option maxHeartbeats 4000000 in
theorem list_3 (bq bl c : Nat) (tl : List Value) (most came : Int) (e0 : One) (e1 : One) (e2 : One) (hc : 3 ≤ c) (hl : (onesV [e0, e1, e2] ++ tl).length = c * 5) (hH : HeapOk [e0, e1, e2]) (w : World) {ms : List Nat} {w0 : World} {bs : List Blk} (S0 : St ms w0 ([⟨bq, true, .cells #[.slice (some ⟨bl, 0, none⟩) 3 c, .int .i64 most, .int .u64 came] 71 (0, 0)⟩, ⟨bl, true, .cells (([.int .i64 e0.a.source, .int .i64 e0.a.rank, .int .i64 e0.a.age.n, .int .i64 e0.a.age.most, .int .u64 e0.came, .int .i64 e1.a.source, .int .i64 e1.a.rank, .int .i64 e1.a.age.n, .int .i64 e1.a.age.most, .int .u64 e1.came, .int .i64 e2.a.source, .int .i64 e2.a.rank, .int .i64 e2.a.age.n, .int .i64 e2.a.age.most, .int .u64 e2.came] : List Value) ++ tl).toArray 76 (0, 0)⟩] ++ bs) w) :
    Gives Try.prog 12 #[.pointer (some ⟨bq, 0, none⟩)] w fun v w1 => ∃ l x c1 rows, v = .slice x l.length c1 ∧ absL [e0, e1, e2] = l ∧ rowv 4 32 (asksV l) x l.length c1 rows ∧ St ms w0 (rows ++ ([⟨bq, true, .cells #[.slice (some ⟨bl, 0, none⟩) 3 c, .int .i64 most, .int .u64 came] 71 (0, 0)⟩, ⟨bl, true, .cells (([.int .i64 e0.a.source, .int .i64 e0.a.rank, .int .i64 e0.a.age.n, .int .i64 e0.a.age.most, .int .u64 e0.came, .int .i64 e1.a.source, .int .i64 e1.a.rank, .int .i64 e1.a.age.n, .int .i64 e1.a.age.most, .int .u64 e1.came, .int .i64 e2.a.source, .int .i64 e2.a.rank, .int .i64 e2.a.age.n, .int .i64 e2.a.age.most, .int .u64 e2.came] : List Value) ++ tl).toArray 76 (0, 0)⟩] ++ bs)) w1 := by
 simp only [HeapOk] at hH
 refine enter_ Try.func12 rfl ?_
 refine seq_ (reg_ ?_)
 refine pure_ (.slice none 0 0) ?_
 refine nil_ (then_n (seq_ (reg_ ?_)))
 refine pure_ (.slice none 0 0) ?_
 refine nil_ (then_n (seq_ (seq_ (reg_ ?_))))
 refine move_ ?_
 refine call_ 26 #[.pointer (some ⟨bq, 0, none⟩)] ?_
 refine enter_ Try.func26 rfl ?_
 refine seq_ (reg_ ?_)
 refine pure_ (.slice none 0 0) ?_
 refine nil_ (then_n (seq_ (reg_ ?_)))
 refine move_ ?_
 refine pure_ (.pointer (some ⟨bq, 0, none⟩)) ?_
 refine pure_ (.pointer (some ⟨bq, 0, none⟩)) ?_
 refine load1_ S0 0 (.slice (some ⟨bl, 0, none⟩) 3 c) bq 0 ?_
 refine call_ 42 #[.slice (some ⟨bl, 0, none⟩) 3 c] ?_
 refine enter_ Try.func42 rfl ?_
 refine seq_ (reg_ ?_)
 refine pure_ (.slice none 0 0) ?_
 refine nil_ (then_n (seq_ (seq_ (reg_ ?_))))
 refine move_ ?_
 refine pure_ (.bool false) ?_
 refine nil_ (then_n (cond_F ?_))
 refine wp_skip (then_n (seq_ (reg_ ?_)))
 refine new_ S0 (fun b => .slice (some ⟨b, 0, none⟩) 0 0) (.cells #[] 76) ?_
 intro zb1 zw2 zS3
 refine move_ ?_
 refine appendZ_ (T := 76) (xv := .slice (some ⟨bl, 0, none⟩) 3 c) zS3 (srcK zS3 2 3 5 [.int .i64 e0.a.source, .int .i64 e0.a.rank, .int .i64 e0.a.age.n, .int .i64 e0.a.age.most, .int .u64 e0.came, .int .i64 e1.a.source, .int .i64 e1.a.rank, .int .i64 e1.a.age.n, .int .i64 e1.a.age.most, .int .u64 e1.came, .int .i64 e2.a.source, .int .i64 e2.a.rank, .int .i64 e2.a.age.n, .int .i64 e2.a.age.most, .int .u64 e2.came] (tx := 68) (e' := 76) (by kernel_rfl) (by kernel_rfl) (by kernel_rfl) (by rfl)) 40 rfl (by decide) (by decide) (by unfold maxLen; omega) ?_ (some ⟨zb1, 0, none⟩)
 intro zb4 zc5 zt6 zw7 zh9 zh10 zS8
 refine assign_ ?_
 refine nil_ (then_n (wp_ret ?_))
 refine ret_ rfl (res_ [.tmp 2] [.slice (some ⟨zb4, 0, none⟩) 3 zc5] (.slice (some ⟨zb4, 0, none⟩) 3 zc5) ⟨res_tmp, trivial⟩) ?_
 refine assign_ ?_
 refine nil_ (then_n (seq_ (reg_ ?_)))
 refine move_ ?_
 refine pure_ (.iface 68 (.slice (some ⟨zb4, 0, none⟩) 3 zc5)) ?_
 refine call_ 43 #[.iface 68 (.slice (some ⟨zb4, 0, none⟩) 3 zc5)] ?_
 refine enter_ Try.func43 rfl ?_
 refine seq_ (reg_ ?_)
 refine move_ ?_
 refine call_ 81 #[.slice (some ⟨zb4, 0, none⟩) 3 zc5] ?_
 refine enter_ Try.func81 rfl ?_
 refine seq_ (reg_ ?_)
 refine pure_ (.int .i64 0) ?_
 refine nil_ (then_n (seq_ (reg_ ?_)))
 refine move_ ?_
 refine pure_ (.int .i64 3) ?_
 refine pure_ (.int .i64 3) ?_
 refine nil_ (then_n (wp_ret ?_))
 refine ret_ rfl (res_ [.tmp 2] [.int .i64 3] (.int .i64 3) ⟨res_tmp, trivial⟩) ?_
 refine pure_ (.int .i64 3) ?_
 refine nil_ (then_n (seq_ (seq_ (reg_ ?_))))
 refine pure_ (.int .i64 3) ?_
 refine pure_ (.bool false) ?_
 refine nil_ (then_n (cond_F ?_))
 refine wp_skip (then_n (seq_ (reg_ ?_)))
 refine pure_ (.int .i64 3) ?_
 refine pure_ (.int .u64 3) ?_
 refine call_ 47 #[.int .u64 3] ?_
 refine enter_ Try.func47 rfl ?_
 refine seq_ (reg_ ?_)
 refine pure_ (.int .i64 0) ?_
 refine nil_ (then_n (seq_ (cond_F ?_)))
 refine wp_skip (then_n (seq_ (reg_ ?_)))
 refine pure_ (.int .u64 3) ?_
 refine call_ 50 #[.int .u64 3] ?_
 refine enter_ Try.func50 rfl ?_
 refine seq_ (reg_ ?_)
 refine pure_ (.int .i64 0) ?_
 refine nil_ (then_n (seq_ (seq_ (reg_ ?_))))
 refine pure_ (.int .u64 3) ?_
 refine pure_ (.bool false) ?_
 refine nil_ (then_n (cond_F ?_))
 refine wp_skip (then_n (seq_ (seq_ (reg_ ?_))))
 refine pure_ (.int .u64 3) ?_
 refine pure_ (.bool false) ?_
 refine nil_ (then_n (cond_F ?_))
 refine wp_skip (then_n (seq_ (seq_ (reg_ ?_))))
 refine pure_ (.int .u64 3) ?_
 refine pure_ (.bool false) ?_
 refine nil_ (then_n (cond_F ?_))
 refine wp_skip (then_n (seq_ (reg_ ?_)))
 refine pure_ (.int .i64 0) ?_
 refine pure_ (.int .u64 3) ?_
 refine pure_ (.int .u8 3) ?_
 refine pure_ (.int .u8 2) ?_
 refine pure_ (.int .i64 2) ?_
 refine pure_ (.int .i64 2) ?_
 refine pure_ (.int .i64 2) ?_
 refine nil_ (then_n (wp_ret ?_))
 refine ret_ rfl (res_ [.tmp 2] [.int .i64 2] (.int .i64 2) ⟨res_tmp, trivial⟩) ?_
 refine pure_ (.int .i64 2) ?_
 refine nil_ (then_n (wp_ret ?_))
 refine ret_ rfl (res_ [.tmp 2] [.int .i64 2] (.int .i64 2) ⟨res_tmp, trivial⟩) ?_
 refine pure_ (.int .i64 2) ?_
 refine nil_ (then_n (reg_ ?_))
 refine move_ ?_
 refine pure_ (.int .i64 3) ?_
 refine pure_ (.int .i64 2) ?_
 refine call_ 48 #[.iface 68 (.slice (some ⟨zb4, 0, none⟩) 3 zc5), .int .i64 0, .int .i64 3, .int .i64 2] ?_
 refine enter_ Try.func48 rfl ?_
 refine seq_ (reg_ ?_)
 refine pure_ (.bool true) ?_
 refine nil_ (then_n (seq_ (reg_ ?_)))
 refine pure_ (.bool true) ?_
 refine nil_ (then_n (wp_block (loop_ 24 (wp_block (seq_ (reg_ ?_))))))
 refine pure_ (.int .i64 3) ?_
 refine pure_ (.int .i64 0) ?_
 refine pure_ (.int .i64 3) ?_
 refine pure_ (.int .i64 3) ?_
 refine nil_ (then_n (seq_ (seq_ (reg_ ?_))))
 refine pure_ (.int .i64 3) ?_
 refine pure_ (.bool true) ?_
 refine nil_ (then_n (cond_T ?_))
 refine seq_ (reg_ ?_)
 refine move_ ?_
 refine pure_ (.int .i64 0) ?_
 refine pure_ (.int .i64 3) ?_
 refine call_ 51 #[.iface 68 (.slice (some ⟨zb4, 0, none⟩) 3 zc5), .int .i64 0, .int .i64 3] ?_
 refine enter_ Try.func51 rfl ?_
 refine seq_ (reg_ ?_)
 refine pure_ (.int .i64 0) ?_
 refine pure_ (.int .i64 1) ?_
 refine pure_ (.int .i64 1) ?_
 refine nil_ (then_n (wp_block (loop_ 24 (seq_ (seq_ (reg_ ?_))))))
 refine pure_ (.int .i64 1) ?_
 refine pure_ (.int .i64 3) ?_
 refine pure_ (.bool true) ?_
 refine nil_ (then_n (cond_T ?_))
 refine wp_skip (then_n (seq_ (wp_block (seq_ (reg_ ?_)))))
 refine pure_ (.int .i64 1) ?_
 refine pure_ (.int .i64 1) ?_
 refine nil_ (then_n (wp_block (loop_ 24 (seq_ (seq_ (reg_ ?_))))))
 refine pure_ (.int .i64 1) ?_
 refine pure_ (.int .i64 0) ?_
 refine pure_ (.bool true) ?_
 refine pure_ (.bool true) ?_
 refine move_ ?_
 refine pure_ (.int .i64 1) ?_
 refine pure_ (.int .i64 1) ?_
 refine pure_ (.int .i64 0) ?_
 refine call_ 82 #[.slice (some ⟨zb4, 0, none⟩) 3 zc5, .int .i64 1, .int .i64 0] ?_
 refine enter_ Try.func82 rfl ?_
 refine seq_ (reg_ ?_)
 refine pure_ (.bool false) ?_
 refine nil_ (then_n (seq_ (seq_ ?_)))
 refine quietL_ 12 [.slice (some ⟨zb4, 0, none⟩) 3 zc5, .int .i64 1, .pointer (some ⟨zb4, 5, none⟩), .pointer (some ⟨zb4, 5, none⟩), .pointer (some ⟨zb4, 6, none⟩), .int .i64 e1.a.rank, .slice (some ⟨zb4, 0, none⟩) 3 zc5, .int .i64 0, .pointer (some ⟨zb4, 0, none⟩), .pointer (some ⟨zb4, 0, none⟩), .pointer (some ⟨zb4, 1, none⟩), .int .i64 e0.a.rank] [[12, 5, 4, 3, 2, 0], [12, 5, 4, 3, 2, 1], [12, 5, 4, 3, 2], [12, 5, 4, 3], [12, 5, 4], [12, 5], [12, 11, 10, 9, 8, 6], [12, 11, 10, 9, 8, 7], [12, 11, 10, 9, 8], [12, 11, 10, 9], [12, 11, 10], [12, 11]] (step_cons qP_ (step_cons qP_ (step_cons qP_ (step_cons qP_ (step_cons qP_ (step_cons (qL_ zS8 0 zb4 6) (step_cons qP_ (step_cons qP_ (step_cons qP_ (step_cons qP_ (step_cons qP_ (step_cons (qL_ zS8 0 zb4 1) (step_nil))))))))))))) ?_
 intro zw11 zh13
 have zS12 := zS8.quiet zh13
 refine pureE_ (.bool (e1.a.rank != e0.a.rank)) (.bool true) (congrArg Value.bool (neT (by omega))) ?_
 refine nil_ (then_n (cond_T ?_))
 refine seq_ ?_
 refine quietL_ 12 [.slice (some ⟨zb4, 0, none⟩) 3 zc5, .int .i64 1, .pointer (some ⟨zb4, 5, none⟩), .pointer (some ⟨zb4, 5, none⟩), .pointer (some ⟨zb4, 6, none⟩), .int .i64 e1.a.rank, .slice (some ⟨zb4, 0, none⟩) 3 zc5, .int .i64 0, .pointer (some ⟨zb4, 0, none⟩), .pointer (some ⟨zb4, 0, none⟩), .pointer (some ⟨zb4, 1, none⟩), .int .i64 e0.a.rank] [[12, 5, 4, 3, 2, 0], [12, 5, 4, 3, 2, 1], [12, 5, 4, 3, 2], [12, 5, 4, 3], [12, 5, 4], [12, 5], [12, 11, 10, 9, 8, 6], [12, 11, 10, 9, 8, 7], [12, 11, 10, 9, 8], [12, 11, 10, 9], [12, 11, 10], [12, 11], [13, 0], [13, 1], [13, 2], [13, 3], [13, 4], [13, 5], [13, 6], [13, 7], [13, 8], [13, 9], [13, 10], [13, 11], [13, 12]] (step_cons qP_ (step_cons qP_ (step_cons qP_ (step_cons qP_ (step_cons qP_ (step_cons (qL_ zS12 0 zb4 6) (step_cons qP_ (step_cons qP_ (step_cons qP_ (step_cons qP_ (step_cons qP_ (step_cons (qL_ zS12 0 zb4 1) (step_nil))))))))))))) ?_
 intro zw14 zh16
 have zS15 := zS12.quiet zh16
 refine pureE_ (.bool (decide (e1.a.rank < e0.a.rank))) (.bool false) (congrArg Value.bool (ltF (by omega))) ?_
 refine pure_ (.bool false) ?_
 refine nil_ (then_n (wp_ret (then_r ?_)))
 refine ret_ rfl (res_ [.tmp 6] [.bool false] (.bool false) ⟨res_tmp, trivial⟩) ?_
 refine pure_ (.bool false) ?_
 refine nil_ (then_n (cond_F ?_))
 refine wp_exit (then_e (then_e (blk_e (blk_n (then_n (reg_ ?_))))))
 refine pure_ (.int .i64 1) ?_
 refine pure_ (.int .i64 2) ?_
 refine pure_ (.int .i64 2) ?_
 refine nil_ (again_ (seq_ (seq_ (reg_ ?_))))
 refine pure_ (.int .i64 2) ?_
 refine pure_ (.int .i64 3) ?_
 refine pure_ (.bool true) ?_
 refine nil_ (then_n (cond_T ?_))
 refine wp_skip (then_n (seq_ (wp_block (seq_ (reg_ ?_)))))
 refine pure_ (.int .i64 2) ?_
 refine pure_ (.int .i64 2) ?_
 refine nil_ (then_n (wp_block (loop_ 24 (seq_ (seq_ (reg_ ?_))))))
 refine pure_ (.int .i64 2) ?_
 refine pure_ (.int .i64 0) ?_
 refine pure_ (.bool true) ?_
 refine pure_ (.bool true) ?_
 refine move_ ?_
 refine pure_ (.int .i64 2) ?_
 refine pure_ (.int .i64 2) ?_
 refine pure_ (.int .i64 1) ?_
 refine call_ 82 #[.slice (some ⟨zb4, 0, none⟩) 3 zc5, .int .i64 2, .int .i64 1] ?_
 refine enter_ Try.func82 rfl ?_
 refine seq_ (reg_ ?_)
 refine pure_ (.bool false) ?_
 refine nil_ (then_n (seq_ (seq_ ?_)))
 refine quietL_ 12 [.slice (some ⟨zb4, 0, none⟩) 3 zc5, .int .i64 2, .pointer (some ⟨zb4, 10, none⟩), .pointer (some ⟨zb4, 10, none⟩), .pointer (some ⟨zb4, 11, none⟩), .int .i64 e2.a.rank, .slice (some ⟨zb4, 0, none⟩) 3 zc5, .int .i64 1, .pointer (some ⟨zb4, 5, none⟩), .pointer (some ⟨zb4, 5, none⟩), .pointer (some ⟨zb4, 6, none⟩), .int .i64 e1.a.rank] [[12, 5, 4, 3, 2, 0], [12, 5, 4, 3, 2, 1], [12, 5, 4, 3, 2], [12, 5, 4, 3], [12, 5, 4], [12, 5], [12, 11, 10, 9, 8, 6], [12, 11, 10, 9, 8, 7], [12, 11, 10, 9, 8], [12, 11, 10, 9], [12, 11, 10], [12, 11]] (step_cons qP_ (step_cons qP_ (step_cons qP_ (step_cons qP_ (step_cons qP_ (step_cons (qL_ zS15 0 zb4 11) (step_cons qP_ (step_cons qP_ (step_cons qP_ (step_cons qP_ (step_cons qP_ (step_cons (qL_ zS15 0 zb4 6) (step_nil))))))))))))) ?_
 intro zw17 zh19
 have zS18 := zS15.quiet zh19
 refine pureE_ (.bool (e2.a.rank != e1.a.rank)) (.bool true) (congrArg Value.bool (neT (by omega))) ?_
 refine nil_ (then_n (cond_T ?_))
 refine seq_ ?_
 refine quietL_ 12 [.slice (some ⟨zb4, 0, none⟩) 3 zc5, .int .i64 2, .pointer (some ⟨zb4, 10, none⟩), .pointer (some ⟨zb4, 10, none⟩), .pointer (some ⟨zb4, 11, none⟩), .int .i64 e2.a.rank, .slice (some ⟨zb4, 0, none⟩) 3 zc5, .int .i64 1, .pointer (some ⟨zb4, 5, none⟩), .pointer (some ⟨zb4, 5, none⟩), .pointer (some ⟨zb4, 6, none⟩), .int .i64 e1.a.rank] [[12, 5, 4, 3, 2, 0], [12, 5, 4, 3, 2, 1], [12, 5, 4, 3, 2], [12, 5, 4, 3], [12, 5, 4], [12, 5], [12, 11, 10, 9, 8, 6], [12, 11, 10, 9, 8, 7], [12, 11, 10, 9, 8], [12, 11, 10, 9], [12, 11, 10], [12, 11], [13, 0], [13, 1], [13, 2], [13, 3], [13, 4], [13, 5], [13, 6], [13, 7], [13, 8], [13, 9], [13, 10], [13, 11], [13, 12]] (step_cons qP_ (step_cons qP_ (step_cons qP_ (step_cons qP_ (step_cons qP_ (step_cons (qL_ zS18 0 zb4 11) (step_cons qP_ (step_cons qP_ (step_cons qP_ (step_cons qP_ (step_cons qP_ (step_cons (qL_ zS18 0 zb4 6) (step_nil))))))))))))) ?_
 intro zw20 zh22
 have zS21 := zS18.quiet zh22
 refine pure_ (.bool (decide (e2.a.rank < e1.a.rank))) ?_
 refine assign_ ?_
 refine nil_ (then_n (wp_ret (then_r ?_)))
 refine ret_ rfl (res_ [.tmp 6] [.bool (decide (e2.a.rank < e1.a.rank))] (.bool (decide (e2.a.rank < e1.a.rank))) ⟨res_tmp, trivial⟩) ?_
 refine pure_ (.bool (decide (e2.a.rank < e1.a.rank))) ?_
 refine nil_ (then_n ?_)
 refine cond_S (decide (e2.a.rank < e1.a.rank)) ?_ ?_
 · intro zh23
   have zh24 := ltT' zh23
   refine wp_skip (then_n (seq_ (wp_block (reg_ ?_))))
   refine move_ ?_
   refine pure_ (.int .i64 2) ?_
   refine pure_ (.int .i64 2) ?_
   refine pure_ (.int .i64 1) ?_
   refine call_ 83 #[.slice (some ⟨zb4, 0, none⟩) 3 zc5, .int .i64 2, .int .i64 1] ?_
   refine enter_ Try.func83 rfl ?_
   refine storeL_ zS21 14 13 0 zb4 10 [[13, 7], [13, 11]] (.agg #[.int .i64 e1.a.source, .int .i64 e1.a.rank, .int .i64 e1.a.age.n, .int .i64 e1.a.age.most, .int .u64 e1.came]) [.slice (some ⟨zb4, 0, none⟩) 3 zc5, .int .i64 2, .slice (some ⟨zb4, 0, none⟩) 3 zc5, .int .i64 1, .slice (some ⟨zb4, 0, none⟩) 3 zc5, .int .i64 1, .pointer (some ⟨zb4, 5, none⟩), .agg #[.int .i64 e1.a.source, .int .i64 e1.a.rank, .int .i64 e1.a.age.n, .int .i64 e1.a.age.most, .int .u64 e1.came], .slice (some ⟨zb4, 0, none⟩) 3 zc5, .int .i64 2, .pointer (some ⟨zb4, 10, none⟩), .agg #[.int .i64 e2.a.source, .int .i64 e2.a.rank, .int .i64 e2.a.age.n, .int .i64 e2.a.age.most, .int .u64 e2.came], .pointer (some ⟨zb4, 10, none⟩), undef] [[14, 0], [14, 1], [14, 2], [14, 3], [14, 4], [14, 5], [14, 6], [14, 7], [14, 8], [14, 9], [14, 10], [14, 11], [14, 12], [14, 13], [15, 0], [15, 1], [15, 2], [15, 3], [15, 4], [15, 5], [15, 6], [15, 7], [15, 8], [15, 9], [15, 10], [15, 11], [15, 12], [15, 13], [15, 14]] (estep_cons eP_ (estep_cons eP_ (estep_cons eP_ (estep_cons eP_ (estep_cons eP_ (estep_cons eP_ (estep_cons eP_ (estep_cons (eNp_ zS21 0 zb4 5 5 #[.int .i64 e1.a.source, .int .i64 e1.a.rank, .int .i64 e1.a.age.n, .int .i64 e1.a.age.most, .int .u64 e1.came]) (estep_cons eP_ (estep_cons eP_ (estep_cons eP_ (estep_cons (eNp_ zS21 0 zb4 10 5 #[.int .i64 e2.a.source, .int .i64 e2.a.rank, .int .i64 e2.a.age.n, .int .i64 e2.a.age.most, .int .u64 e2.came]) (estep_cons eP_ (estep_cons (eW_ zS21 0 (.agg #[.int .i64 e1.a.source, .int .i64 e1.a.rank, .int .i64 e1.a.age.n, .int .i64 e1.a.age.most, .int .u64 e1.came]) zb4 10) (estep_nil))))))))))))))) ?_
   intro zw25 zS26
   refine pure_ (.pointer (some ⟨zb4, 5, none⟩)) ?_
   refine store_ zS26 0 (.agg #[.int .i64 e2.a.source, .int .i64 e2.a.rank, .int .i64 e2.a.age.n, .int .i64 e2.a.age.most, .int .u64 e2.came]) zb4 5 ?_
   intro zw27 zS28
   refine nil_ ?_
   refine end_ rfl (res_ [] [] (.tuple #[]) trivial) ?_
   refine nil_ (blk_n (then_n (reg_ ?_)))
   refine pure_ (.int .i64 2) ?_
   refine pure_ (.int .i64 1) ?_
   refine pure_ (.int .i64 1) ?_
   refine nil_ (again_ (seq_ (seq_ (reg_ ?_))))
   refine pure_ (.int .i64 1) ?_
   refine pure_ (.int .i64 0) ?_
   refine pure_ (.bool true) ?_
   refine pure_ (.bool true) ?_
   refine move_ ?_
   refine pure_ (.int .i64 1) ?_
   refine pure_ (.int .i64 1) ?_
   refine pure_ (.int .i64 0) ?_
   refine call_ 82 #[.slice (some ⟨zb4, 0, none⟩) 3 zc5, .int .i64 1, .int .i64 0] ?_
   refine enter_ Try.func82 rfl ?_
   refine seq_ (reg_ ?_)
   refine pure_ (.bool false) ?_
   refine nil_ (then_n (seq_ (seq_ ?_)))
   refine quietL_ 12 [.slice (some ⟨zb4, 0, none⟩) 3 zc5, .int .i64 1, .pointer (some ⟨zb4, 5, none⟩), .pointer (some ⟨zb4, 5, none⟩), .pointer (some ⟨zb4, 6, none⟩), .int .i64 e2.a.rank, .slice (some ⟨zb4, 0, none⟩) 3 zc5, .int .i64 0, .pointer (some ⟨zb4, 0, none⟩), .pointer (some ⟨zb4, 0, none⟩), .pointer (some ⟨zb4, 1, none⟩), .int .i64 e0.a.rank] [[12, 5, 4, 3, 2, 0], [12, 5, 4, 3, 2, 1], [12, 5, 4, 3, 2], [12, 5, 4, 3], [12, 5, 4], [12, 5], [12, 11, 10, 9, 8, 6], [12, 11, 10, 9, 8, 7], [12, 11, 10, 9, 8], [12, 11, 10, 9], [12, 11, 10], [12, 11]] (step_cons qP_ (step_cons qP_ (step_cons qP_ (step_cons qP_ (step_cons qP_ (step_cons (qL_ zS28 0 zb4 6) (step_cons qP_ (step_cons qP_ (step_cons qP_ (step_cons qP_ (step_cons qP_ (step_cons (qL_ zS28 0 zb4 1) (step_nil))))))))))))) ?_
   intro zw29 zh31
   have zS30 := zS28.quiet zh31
   refine pureE_ (.bool (e2.a.rank != e0.a.rank)) (.bool true) (congrArg Value.bool (neT (by omega))) ?_
   refine nil_ (then_n (cond_T ?_))
   refine seq_ ?_
   refine quietL_ 12 [.slice (some ⟨zb4, 0, none⟩) 3 zc5, .int .i64 1, .pointer (some ⟨zb4, 5, none⟩), .pointer (some ⟨zb4, 5, none⟩), .pointer (some ⟨zb4, 6, none⟩), .int .i64 e2.a.rank, .slice (some ⟨zb4, 0, none⟩) 3 zc5, .int .i64 0, .pointer (some ⟨zb4, 0, none⟩), .pointer (some ⟨zb4, 0, none⟩), .pointer (some ⟨zb4, 1, none⟩), .int .i64 e0.a.rank] [[12, 5, 4, 3, 2, 0], [12, 5, 4, 3, 2, 1], [12, 5, 4, 3, 2], [12, 5, 4, 3], [12, 5, 4], [12, 5], [12, 11, 10, 9, 8, 6], [12, 11, 10, 9, 8, 7], [12, 11, 10, 9, 8], [12, 11, 10, 9], [12, 11, 10], [12, 11], [13, 0], [13, 1], [13, 2], [13, 3], [13, 4], [13, 5], [13, 6], [13, 7], [13, 8], [13, 9], [13, 10], [13, 11], [13, 12]] (step_cons qP_ (step_cons qP_ (step_cons qP_ (step_cons qP_ (step_cons qP_ (step_cons (qL_ zS30 0 zb4 6) (step_cons qP_ (step_cons qP_ (step_cons qP_ (step_cons qP_ (step_cons qP_ (step_cons (qL_ zS30 0 zb4 1) (step_nil))))))))))))) ?_
   intro zw32 zh34
   have zS33 := zS30.quiet zh34
   refine pureE_ (.bool (decide (e2.a.rank < e0.a.rank))) (.bool false) (congrArg Value.bool (ltF (by omega))) ?_
   refine pure_ (.bool false) ?_
   refine nil_ (then_n (wp_ret (then_r ?_)))
   refine ret_ rfl (res_ [.tmp 6] [.bool false] (.bool false) ⟨res_tmp, trivial⟩) ?_
   refine pure_ (.bool false) ?_
   refine nil_ (then_n (cond_F ?_))
   refine wp_exit (then_e (then_e (blk_e (blk_n (then_n (reg_ ?_))))))
   refine pure_ (.int .i64 2) ?_
   refine pure_ (.int .i64 3) ?_
   refine pure_ (.int .i64 3) ?_
   refine nil_ (again_ (seq_ (seq_ (reg_ ?_))))
   refine pure_ (.int .i64 3) ?_
   refine pure_ (.int .i64 3) ?_
   refine pure_ (.bool false) ?_
   refine nil_ (then_n (cond_F ?_))
   refine wp_exit (then_e (then_e (blk_e ?_)))
   refine end_ rfl (res_ [] [] (.tuple #[]) trivial) ?_
   refine nil_ (then_n (wp_ret (then_r (blk_r (then_r (blk_r ?_))))))
   refine ret_ rfl (res_ [] [] (.tuple #[]) trivial) ?_
   refine nil_ ?_
   refine end_ rfl (res_ [] [] (.tuple #[]) trivial) ?_
   refine nil_ (then_n (seq_ (reg_ ?_)))
   refine move_ ?_
   refine assign_ ?_
   refine nil_ (then_n (wp_ret ?_))
   refine ret_ rfl (res_ [.tmp 2] [.slice (some ⟨zb4, 0, none⟩) 3 zc5] (.slice (some ⟨zb4, 0, none⟩) 3 zc5) ⟨res_tmp, trivial⟩) ?_
   refine pure_ (.int .i64 3) ?_
   refine pure_ (.int .i64 0) ?_
   refine nil_ (then_n (wp_block (loop_ 24 (seq_ (reg_ ?_)))))
   refine pure_ (.bool true) ?_
   refine nil_ (then_n (seq_ (cond_T ?_)))
   refine wp_skip (then_n (seq_ (wp_block (seq_ (reg_ ?_)))))
   refine pure_ (.pointer (some ⟨zb4, 0, none⟩)) ?_
   refine loadN_ zS33 0 5 #[.int .i64 e0.a.source, .int .i64 e0.a.rank, .int .i64 e0.a.age.n, .int .i64 e0.a.age.most, .int .u64 e0.came] zb4 0 ?_
   refine new_ zS33 (fun b => .pointer (some ⟨b, 0, none⟩)) (.cells #[.int .i64 0, .int .i64 0, .int .i64 0, .int .i64 0, .int .u64 0] 76) ?_
   intro zb35 zw36 zS37
   refine store_ zS37 0 (.agg #[.int .i64 e0.a.source, .int .i64 e0.a.rank, .int .i64 e0.a.age.n, .int .i64 e0.a.age.most, .int .u64 e0.came]) zb35 0 ?_
   intro zw38 zS39
   refine nil_ (then_n (reg_ ?_))
   refine pure_ (.slice none 0 0) ?_
   refine pure_ (.pointer (some ⟨zb35, 0, none⟩)) ?_
   refine loadN_ zS39 0 4 (askC e0.a) zb35 0 ?_
   refine new_ zS39 (fun b => .slice (some ⟨b, 0, none⟩) 1 1) (.cells (askC e0.a) 32) ?_
   intro zb40 zw41 zS42
   refine appendZ_ (T := 32) (xv := .slice (some ⟨zb40, 0, none⟩) 1 1) zS42 (srcK zS42 0 1 4 [.int .i64 e0.a.source, .int .i64 e0.a.rank, .int .i64 e0.a.age.n, .int .i64 e0.a.age.most] (tx := 22) (e' := 32) (by kernel_rfl) (by kernel_rfl) (by kernel_rfl) (by rfl)) 32 rfl (by decide) (by decide) (by unfold maxLen; omega) ?_ none
   intro zb43 zc44 zt45 zw46 zh48 zh49 zS47
   refine assign_ ?_
   refine nil_ (blk_n (then_n (reg_ ?_)))
   refine pure_ (.int .i64 1) ?_
   refine pure_ (.int .i64 1) ?_
   refine nil_ (again_ (seq_ (reg_ ?_)))
   refine pure_ (.bool true) ?_
   refine nil_ (then_n (seq_ (cond_T ?_)))
   refine wp_skip (then_n (seq_ (wp_block (seq_ (reg_ ?_)))))
   refine pure_ (.pointer (some ⟨zb4, 5, none⟩)) ?_
   refine loadN_ zS47 3 5 #[.int .i64 e2.a.source, .int .i64 e2.a.rank, .int .i64 e2.a.age.n, .int .i64 e2.a.age.most, .int .u64 e2.came] zb4 5 ?_
   refine new_ zS47 (fun b => .pointer (some ⟨b, 0, none⟩)) (.cells #[.int .i64 0, .int .i64 0, .int .i64 0, .int .i64 0, .int .u64 0] 76) ?_
   intro zb50 zw51 zS52
   refine store_ zS52 0 (.agg #[.int .i64 e2.a.source, .int .i64 e2.a.rank, .int .i64 e2.a.age.n, .int .i64 e2.a.age.most, .int .u64 e2.came]) zb50 0 ?_
   intro zw53 zS54
   refine nil_ (then_n (reg_ ?_))
   refine move_ ?_
   refine pure_ (.pointer (some ⟨zb50, 0, none⟩)) ?_
   refine loadN_ zS54 0 4 (askC e2.a) zb50 0 ?_
   refine new_ zS54 (fun b => .slice (some ⟨b, 0, none⟩) 1 1) (.cells (askC e2.a) 32) ?_
   intro zb55 zw56 zS57
   refine appendB_ (b := zb43) (T := 32) (xv := .slice (some ⟨zb55, 0, none⟩) 1 1) zS57 2 (n := 1) (c := zc44) [.int .i64 e0.a.source, .int .i64 e0.a.rank, .int .i64 e0.a.age.n, .int .i64 e0.a.age.most] zt45 (srcK zS57 0 1 4 [.int .i64 e2.a.source, .int .i64 e2.a.rank, .int .i64 e2.a.age.n, .int .i64 e2.a.age.most] (tx := 22) (e' := 32) (by kernel_rfl) (by kernel_rfl) (by kernel_rfl) (by rfl)) 32 rfl (by kernel_rfl) (by rfl) (zh48) (zh49) (by decide) (by decide) (by unfold maxLen; omega) ?_
   intro zb58 zc59 zt60 zw61 zh63 zh64 zS62
   refine assign_ ?_
   refine nil_ (blk_n (then_n (reg_ ?_)))
   refine pure_ (.int .i64 2) ?_
   refine pure_ (.int .i64 2) ?_
   refine nil_ (again_ (seq_ (reg_ ?_)))
   refine pure_ (.bool true) ?_
   refine nil_ (then_n (seq_ (cond_T ?_)))
   refine wp_skip (then_n (seq_ (wp_block (seq_ (reg_ ?_)))))
   refine pure_ (.pointer (some ⟨zb4, 10, none⟩)) ?_
   refine loadN_ zS62 5 5 #[.int .i64 e1.a.source, .int .i64 e1.a.rank, .int .i64 e1.a.age.n, .int .i64 e1.a.age.most, .int .u64 e1.came] zb4 10 ?_
   refine new_ zS62 (fun b => .pointer (some ⟨b, 0, none⟩)) (.cells #[.int .i64 0, .int .i64 0, .int .i64 0, .int .i64 0, .int .u64 0] 76) ?_
   intro zb65 zw66 zS67
   refine store_ zS67 0 (.agg #[.int .i64 e1.a.source, .int .i64 e1.a.rank, .int .i64 e1.a.age.n, .int .i64 e1.a.age.most, .int .u64 e1.came]) zb65 0 ?_
   intro zw68 zS69
   refine nil_ (then_n (reg_ ?_))
   refine move_ ?_
   refine pure_ (.pointer (some ⟨zb65, 0, none⟩)) ?_
   refine loadN_ zS69 0 4 (askC e1.a) zb65 0 ?_
   refine new_ zS69 (fun b => .slice (some ⟨b, 0, none⟩) 1 1) (.cells (askC e1.a) 32) ?_
   intro zb70 zw71 zS72
   refine appendB_ (b := zb58) (T := 32) (xv := .slice (some ⟨zb70, 0, none⟩) 1 1) zS72 2 (n := 2) (c := zc59) [.int .i64 e0.a.source, .int .i64 e0.a.rank, .int .i64 e0.a.age.n, .int .i64 e0.a.age.most, .int .i64 e2.a.source, .int .i64 e2.a.rank, .int .i64 e2.a.age.n, .int .i64 e2.a.age.most] zt60 (srcK zS72 0 1 4 [.int .i64 e1.a.source, .int .i64 e1.a.rank, .int .i64 e1.a.age.n, .int .i64 e1.a.age.most] (tx := 22) (e' := 32) (by kernel_rfl) (by kernel_rfl) (by kernel_rfl) (by rfl)) 32 rfl (by kernel_rfl) (by rfl) (zh63) (zh64) (by decide) (by decide) (by unfold maxLen; omega) ?_
   intro zb73 zc74 zt75 zw76 zh78 zh79 zS77
   refine assign_ ?_
   refine nil_ (blk_n (then_n (reg_ ?_)))
   refine pure_ (.int .i64 3) ?_
   refine pure_ (.int .i64 3) ?_
   refine nil_ (again_ (seq_ (reg_ ?_)))
   refine pure_ (.bool false) ?_
   refine nil_ (then_n (seq_ (cond_F ?_)))
   refine wp_exit (then_e (then_e (blk_e (then_n (seq_ (reg_ ?_))))))
   refine move_ ?_
   refine assign_ ?_
   refine nil_ (then_n (wp_ret ?_))
   refine ret_ rfl (res_ [.tmp 2] [.slice (some ⟨zb73, 0, none⟩) 3 zc74] (.slice (some ⟨zb73, 0, none⟩) 3 zc74) ⟨res_tmp, trivial⟩) ?_
   have zr : ¬ e1.a.rank < e2.a.rank := by omega
   exact ⟨[e0.a, e2.a, e1.a], some ⟨zb73, 0, none⟩, zc74, [⟨zb73, true, .cells (asksV [e0.a, e2.a, e1.a] ++ zt75).toArray 32 (0, 0)⟩], by rfl, by simp [absL, zr], ⟨rfl, by have := zh79; simp <;> omega, .inr ⟨zb73, zt75, rfl, rfl, by have := zh78; simpa [asksV, askC] using this⟩⟩, zS77.pickT (A := [⟨zb73, true, .cells (asksV [e0.a, e2.a, e1.a] ++ zt75).toArray 32 (0, 0)⟩, ⟨bq, true, .cells #[.slice (some ⟨bl, 0, none⟩) 3 c, .int .i64 most, .int .u64 came] 71 (0, 0)⟩, ⟨bl, true, .cells (([.int .i64 e0.a.source, .int .i64 e0.a.rank, .int .i64 e0.a.age.n, .int .i64 e0.a.age.most, .int .u64 e0.came, .int .i64 e1.a.source, .int .i64 e1.a.rank, .int .i64 e1.a.age.n, .int .i64 e1.a.age.most, .int .u64 e1.came, .int .i64 e2.a.source, .int .i64 e2.a.rank, .int .i64 e2.a.age.n, .int .i64 e2.a.age.most, .int .u64 e2.came] : List Value) ++ tl).toArray 76 (0, 0)⟩]) (T := bs) [0, 9, 10] 11 (by kernel_rfl) (by kernel_rfl) (by decide) rfl⟩
 intro zh80
 have zh81 := ltF' zh80
 refine wp_exit (then_e (then_e (blk_e (blk_n (then_n (reg_ ?_))))))
 refine pure_ (.int .i64 2) ?_
 refine pure_ (.int .i64 3) ?_
 refine pure_ (.int .i64 3) ?_
 refine nil_ (again_ (seq_ (seq_ (reg_ ?_))))
 refine pure_ (.int .i64 3) ?_
 refine pure_ (.int .i64 3) ?_
 refine pure_ (.bool false) ?_
 refine nil_ (then_n (cond_F ?_))
 refine wp_exit (then_e (then_e (blk_e ?_)))
 refine end_ rfl (res_ [] [] (.tuple #[]) trivial) ?_
 refine nil_ (then_n (wp_ret (then_r (blk_r (then_r (blk_r ?_))))))
 refine ret_ rfl (res_ [] [] (.tuple #[]) trivial) ?_
 refine nil_ ?_
 refine end_ rfl (res_ [] [] (.tuple #[]) trivial) ?_
 refine nil_ (then_n (seq_ (reg_ ?_)))
 refine move_ ?_
 refine assign_ ?_
 refine nil_ (then_n (wp_ret ?_))
 refine ret_ rfl (res_ [.tmp 2] [.slice (some ⟨zb4, 0, none⟩) 3 zc5] (.slice (some ⟨zb4, 0, none⟩) 3 zc5) ⟨res_tmp, trivial⟩) ?_
 refine pure_ (.int .i64 3) ?_
 refine pure_ (.int .i64 0) ?_
 refine nil_ (then_n (wp_block (loop_ 24 (seq_ (reg_ ?_)))))
 refine pure_ (.bool true) ?_
 refine nil_ (then_n (seq_ (cond_T ?_)))
 refine wp_skip (then_n (seq_ (wp_block (seq_ (reg_ ?_)))))
 refine pure_ (.pointer (some ⟨zb4, 0, none⟩)) ?_
 refine loadN_ zS21 0 5 #[.int .i64 e0.a.source, .int .i64 e0.a.rank, .int .i64 e0.a.age.n, .int .i64 e0.a.age.most, .int .u64 e0.came] zb4 0 ?_
 refine new_ zS21 (fun b => .pointer (some ⟨b, 0, none⟩)) (.cells #[.int .i64 0, .int .i64 0, .int .i64 0, .int .i64 0, .int .u64 0] 76) ?_
 intro zb82 zw83 zS84
 refine store_ zS84 0 (.agg #[.int .i64 e0.a.source, .int .i64 e0.a.rank, .int .i64 e0.a.age.n, .int .i64 e0.a.age.most, .int .u64 e0.came]) zb82 0 ?_
 intro zw85 zS86
 refine nil_ (then_n (reg_ ?_))
 refine pure_ (.slice none 0 0) ?_
 refine pure_ (.pointer (some ⟨zb82, 0, none⟩)) ?_
 refine loadN_ zS86 0 4 (askC e0.a) zb82 0 ?_
 refine new_ zS86 (fun b => .slice (some ⟨b, 0, none⟩) 1 1) (.cells (askC e0.a) 32) ?_
 intro zb87 zw88 zS89
 refine appendZ_ (T := 32) (xv := .slice (some ⟨zb87, 0, none⟩) 1 1) zS89 (srcK zS89 0 1 4 [.int .i64 e0.a.source, .int .i64 e0.a.rank, .int .i64 e0.a.age.n, .int .i64 e0.a.age.most] (tx := 22) (e' := 32) (by kernel_rfl) (by kernel_rfl) (by kernel_rfl) (by rfl)) 32 rfl (by decide) (by decide) (by unfold maxLen; omega) ?_ none
 intro zb90 zc91 zt92 zw93 zh95 zh96 zS94
 refine assign_ ?_
 refine nil_ (blk_n (then_n (reg_ ?_)))
 refine pure_ (.int .i64 1) ?_
 refine pure_ (.int .i64 1) ?_
 refine nil_ (again_ (seq_ (reg_ ?_)))
 refine pure_ (.bool true) ?_
 refine nil_ (then_n (seq_ (cond_T ?_)))
 refine wp_skip (then_n (seq_ (wp_block (seq_ (reg_ ?_)))))
 refine pure_ (.pointer (some ⟨zb4, 5, none⟩)) ?_
 refine loadN_ zS94 3 5 #[.int .i64 e1.a.source, .int .i64 e1.a.rank, .int .i64 e1.a.age.n, .int .i64 e1.a.age.most, .int .u64 e1.came] zb4 5 ?_
 refine new_ zS94 (fun b => .pointer (some ⟨b, 0, none⟩)) (.cells #[.int .i64 0, .int .i64 0, .int .i64 0, .int .i64 0, .int .u64 0] 76) ?_
 intro zb97 zw98 zS99
 refine store_ zS99 0 (.agg #[.int .i64 e1.a.source, .int .i64 e1.a.rank, .int .i64 e1.a.age.n, .int .i64 e1.a.age.most, .int .u64 e1.came]) zb97 0 ?_
 intro zw100 zS101
 refine nil_ (then_n (reg_ ?_))
 refine move_ ?_
 refine pure_ (.pointer (some ⟨zb97, 0, none⟩)) ?_
 refine loadN_ zS101 0 4 (askC e1.a) zb97 0 ?_
 refine new_ zS101 (fun b => .slice (some ⟨b, 0, none⟩) 1 1) (.cells (askC e1.a) 32) ?_
 intro zb102 zw103 zS104
 refine appendB_ (b := zb90) (T := 32) (xv := .slice (some ⟨zb102, 0, none⟩) 1 1) zS104 2 (n := 1) (c := zc91) [.int .i64 e0.a.source, .int .i64 e0.a.rank, .int .i64 e0.a.age.n, .int .i64 e0.a.age.most] zt92 (srcK zS104 0 1 4 [.int .i64 e1.a.source, .int .i64 e1.a.rank, .int .i64 e1.a.age.n, .int .i64 e1.a.age.most] (tx := 22) (e' := 32) (by kernel_rfl) (by kernel_rfl) (by kernel_rfl) (by rfl)) 32 rfl (by kernel_rfl) (by rfl) (zh95) (zh96) (by decide) (by decide) (by unfold maxLen; omega) ?_
 intro zb105 zc106 zt107 zw108 zh110 zh111 zS109
 refine assign_ ?_
 refine nil_ (blk_n (then_n (reg_ ?_)))
 refine pure_ (.int .i64 2) ?_
 refine pure_ (.int .i64 2) ?_
 refine nil_ (again_ (seq_ (reg_ ?_)))
 refine pure_ (.bool true) ?_
 refine nil_ (then_n (seq_ (cond_T ?_)))
 refine wp_skip (then_n (seq_ (wp_block (seq_ (reg_ ?_)))))
 refine pure_ (.pointer (some ⟨zb4, 10, none⟩)) ?_
 refine loadN_ zS109 5 5 #[.int .i64 e2.a.source, .int .i64 e2.a.rank, .int .i64 e2.a.age.n, .int .i64 e2.a.age.most, .int .u64 e2.came] zb4 10 ?_
 refine new_ zS109 (fun b => .pointer (some ⟨b, 0, none⟩)) (.cells #[.int .i64 0, .int .i64 0, .int .i64 0, .int .i64 0, .int .u64 0] 76) ?_
 intro zb112 zw113 zS114
 refine store_ zS114 0 (.agg #[.int .i64 e2.a.source, .int .i64 e2.a.rank, .int .i64 e2.a.age.n, .int .i64 e2.a.age.most, .int .u64 e2.came]) zb112 0 ?_
 intro zw115 zS116
 refine nil_ (then_n (reg_ ?_))
 refine move_ ?_
 refine pure_ (.pointer (some ⟨zb112, 0, none⟩)) ?_
 refine loadN_ zS116 0 4 (askC e2.a) zb112 0 ?_
 refine new_ zS116 (fun b => .slice (some ⟨b, 0, none⟩) 1 1) (.cells (askC e2.a) 32) ?_
 intro zb117 zw118 zS119
 refine appendB_ (b := zb105) (T := 32) (xv := .slice (some ⟨zb117, 0, none⟩) 1 1) zS119 2 (n := 2) (c := zc106) [.int .i64 e0.a.source, .int .i64 e0.a.rank, .int .i64 e0.a.age.n, .int .i64 e0.a.age.most, .int .i64 e1.a.source, .int .i64 e1.a.rank, .int .i64 e1.a.age.n, .int .i64 e1.a.age.most] zt107 (srcK zS119 0 1 4 [.int .i64 e2.a.source, .int .i64 e2.a.rank, .int .i64 e2.a.age.n, .int .i64 e2.a.age.most] (tx := 22) (e' := 32) (by kernel_rfl) (by kernel_rfl) (by kernel_rfl) (by rfl)) 32 rfl (by kernel_rfl) (by rfl) (zh110) (zh111) (by decide) (by decide) (by unfold maxLen; omega) ?_
 intro zb120 zc121 zt122 zw123 zh125 zh126 zS124
 refine assign_ ?_
 refine nil_ (blk_n (then_n (reg_ ?_)))
 refine pure_ (.int .i64 3) ?_
 refine pure_ (.int .i64 3) ?_
 refine nil_ (again_ (seq_ (reg_ ?_)))
 refine pure_ (.bool false) ?_
 refine nil_ (then_n (seq_ (cond_F ?_)))
 refine wp_exit (then_e (then_e (blk_e (then_n (seq_ (reg_ ?_))))))
 refine move_ ?_
 refine assign_ ?_
 refine nil_ (then_n (wp_ret ?_))
 refine ret_ rfl (res_ [.tmp 2] [.slice (some ⟨zb120, 0, none⟩) 3 zc121] (.slice (some ⟨zb120, 0, none⟩) 3 zc121) ⟨res_tmp, trivial⟩) ?_
 have zr : e1.a.rank < e2.a.rank := by omega
 exact ⟨[e0.a, e1.a, e2.a], some ⟨zb120, 0, none⟩, zc121, [⟨zb120, true, .cells (asksV [e0.a, e1.a, e2.a] ++ zt122).toArray 32 (0, 0)⟩], by rfl, by simp [absL, zr], ⟨rfl, by have := zh126; simp <;> omega, .inr ⟨zb120, zt122, rfl, rfl, by have := zh125; simpa [asksV, askC] using this⟩⟩, zS124.pickT (A := [⟨zb120, true, .cells (asksV [e0.a, e1.a, e2.a] ++ zt122).toArray 32 (0, 0)⟩, ⟨bq, true, .cells #[.slice (some ⟨bl, 0, none⟩) 3 c, .int .i64 most, .int .u64 came] 71 (0, 0)⟩, ⟨bl, true, .cells (([.int .i64 e0.a.source, .int .i64 e0.a.rank, .int .i64 e0.a.age.n, .int .i64 e0.a.age.most, .int .u64 e0.came, .int .i64 e1.a.source, .int .i64 e1.a.rank, .int .i64 e1.a.age.n, .int .i64 e1.a.age.most, .int .u64 e1.came, .int .i64 e2.a.source, .int .i64 e2.a.rank, .int .i64 e2.a.age.n, .int .i64 e2.a.age.most, .int .u64 e2.came] : List Value) ++ tl).toArray 76 (0, 0)⟩]) (T := bs) [0, 9, 10] 11 (by kernel_rfl) (by kernel_rfl) (by decide) rfl⟩

end Go.Proofs.Ytmfhgekknjghoaa
