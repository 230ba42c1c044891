/- Package queue, up to three who wait: Push. -/
import Derived.Test.YtmfhgekknjghoaaCQ
namespace Go.Proofs.Ytmfhgekknjghoaa
open Go Go.RowKit Go.BigFrame Sx
set_option linter.unusedVariables false
set_option linter.unusedSimpArgs false

set_option maxRecDepth 100000 in
set_option maxHeartbeats 4000000 in
theorem push_0z (bq : Nat) (most came : Int) (a : Sd.Ask)   (hH : HeapOk []) (hm : most ≤ 3) (w : World) {ms : List Nat} {w0 : World} {bs : List Blk} (S0 : St ms w0 ([⟨bq, true, .cells #[.slice none 0 0, .int .i64 most, .int .u64 came] 71 (0, 0)⟩] ++ bs) w) :
    Gives Try.prog 11 #[.pointer (some ⟨bq, 0, none⟩), .agg (askC a)] w fun v w1 => ∃ es x c1 cm rows, v = .int .i64 (Sd.Q.push most (absL []) a).2 ∧ HeapOk es ∧ absL es = (Sd.Q.push most (absL []) a).1 ∧ rowv 5 76 (onesV es) x es.length c1 rows ∧ St ms w0 (⟨bq, true, .cells #[.slice x es.length c1, .int .i64 most, .int .u64 cm] 71 (0, 0)⟩ :: (rows ++ bs)) w1 := by
 refine enter_ Try.func11 rfl ?_
 refine seq_ (reg_ ?_)
 refine new_ S0 (fun b => .pointer (some ⟨b, 0, none⟩)) (.cells (askC a) 32) ?_
 intro zb1 zw2 zS3
 refine pure_ (.int .i64 0) ?_
 refine nil_ (then_n (seq_ (seq_ (reg_ ?_))))
 refine move_ ?_
 refine pure_ (.pointer (some ⟨zb1, 0, none⟩)) ?_
 refine load1_ zS3 0 (.int .i64 a.source) zb1 0 ?_
 refine call_ 24 #[.pointer (some ⟨bq, 0, none⟩), .int .i64 a.source] ?_
 refine enter_ Try.func24 rfl ?_
 refine seq_ (reg_ ?_)
 refine new_ zS3 (fun b => .pointer (some ⟨b, 0, none⟩)) (.cells #[.int .i64 a.source] 3) ?_
 intro zb4 zw5 zS6
 refine pure_ (.int .i64 0) ?_
 refine nil_ (then_n (seq_ (reg_ ?_)))
 refine move_ ?_
 refine pure_ (.pointer (some ⟨bq, 0, none⟩)) ?_
 refine pure_ (.pointer (some ⟨bq, 0, none⟩)) ?_
 refine load1_ zS6 2 (.slice none 0 0) bq 0 ?_
 refine pure_ (.func (.func 40) #[] #[.pointer (some ⟨zb4, 0, none⟩)]) ?_
 refine call_ 39 #[.slice none 0 0, .func (.func 40) #[] #[.pointer (some ⟨zb4, 0, none⟩)]] ?_
 refine enter_ Try.func39 rfl ?_
 refine seq_ (reg_ ?_)
 refine pure_ (.int .i64 0) ?_
 refine nil_ (then_n (seq_ (seq_ (reg_ ?_))))
 refine pure_ (.slice none 0 0) ?_
 refine pure_ (.int .i64 0) ?_
 refine pure_ (.int .i64 0) ?_
 refine nil_ (then_n (wp_block (loop_ 24 (seq_ (reg_ ?_)))))
 refine pure_ (.bool false) ?_
 refine nil_ (then_n (seq_ (cond_F ?_)))
 refine wp_exit (then_e (then_e (blk_e (then_n (seq_ (reg_ ?_))))))
 refine pure_ (.int .i64 (-1)) ?_
 refine nil_ (then_n (wp_ret ?_))
 refine ret_ rfl (res_ [.tmp 4] [.int .i64 (-1)] (.int .i64 (-1)) ⟨res_tmp, trivial⟩) ?_
 refine pure_ (.int .i64 (-1)) ?_
 refine nil_ (then_n (wp_ret ?_))
 refine ret_ rfl (res_ [.tmp 4] [.int .i64 (-1)] (.int .i64 (-1)) ⟨res_tmp, trivial⟩) ?_
 refine pure_ (.bool false) ?_
 refine nil_ (then_n (cond_F ?_))
 refine wp_skip (then_n (seq_ (seq_ ?_)))
 refine quietL_ 9 [.pointer (some ⟨bq, 0, none⟩), .pointer (some ⟨bq, 0, none⟩), .pointer (some ⟨bq, 0, none⟩), .slice none 0 0, .int .i64 0, .pointer (some ⟨bq, 0, none⟩), .pointer (some ⟨bq, 0, none⟩), .pointer (some ⟨bq, 1, none⟩), .int .i64 most] [[9, 4, 3, 2, 1, 0], [9, 4, 3, 2, 1], [9, 4, 3, 2], [9, 4, 3], [9, 4], [9, 8, 7, 6, 5], [9, 8, 7, 6], [9, 8, 7], [9, 8]] (step_cons qP_ (step_cons qP_ (step_cons qP_ (step_cons (qL_ zS6 2 bq 0) (step_cons qP_ (step_cons qP_ (step_cons qP_ (step_cons qP_ (step_cons (qL_ zS6 2 bq 1) (step_nil)))))))))) ?_
 intro zw7 zh9
 have zS8 := zS6.quiet zh9
 refine pure_ (.bool (decide (most ≤ 0))) ?_
 refine nil_ (then_n ?_)
 refine cond_S (decide (most ≤ 0)) ?_ ?_
 · intro zh10
   have zh11 := leT' zh10
   refine seq_ (reg_ ?_)
   refine pure_ (.int .i64 3) ?_
   refine nil_ (then_n (wp_ret (then_r ?_)))
   refine ret_ rfl (res_ [.tmp 4] [.int .i64 3] (.int .i64 3) ⟨res_tmp, trivial⟩) ?_
   have zm : most ≤ 0 := by omega
   exact ⟨[], none, 0, came, [], by simp [absL, Sd.Q.push, Sd.Q.insert, Sd.Q.waits, zm, ] <;> omega, by simp [HeapOk] <;> omega, by simp [absL, Sd.Q.push, Sd.Q.insert, Sd.Q.waits, zm, ] <;> omega, rowv_nil _ _, zS8.pickT (A := [⟨bq, true, .cells #[.slice none 0 0, .int .i64 most, .int .u64 came] 71 (0, 0)⟩]) (T := bs) [2] 3 (by kernel_rfl) (by kernel_rfl) (by decide) rfl⟩
 intro zh12
 have zh13 := leF' zh12
 refine wp_skip (then_n (seq_ ?_))
 refine quietL_ 11 [.pointer (some ⟨bq, 0, none⟩), .pointer (some ⟨bq, 0, none⟩), .pointer (some ⟨bq, 0, none⟩), .iface 74 (.pointer (some ⟨bq, 0, none⟩)), .agg (askC a), .pointer (some ⟨bq, 0, none⟩), .pointer (some ⟨bq, 0, none⟩), .pointer (some ⟨bq, 2, none⟩), .int .u64 came, .agg #[.int .i64 a.source, .int .i64 a.rank, .int .i64 a.age.n, .int .i64 a.age.most, .int .u64 came], .iface 76 (.agg #[.int .i64 a.source, .int .i64 a.rank, .int .i64 a.age.n, .int .i64 a.age.most, .int .u64 came])] [[11, 3, 2, 1, 0], [11, 3, 2, 1], [11, 3, 2], [11, 3], [11, 10, 9, 4], [11, 10, 9, 8, 7, 6, 5], [11, 10, 9, 8, 7, 6], [11, 10, 9, 8, 7], [11, 10, 9, 8], [11, 10, 9], [11, 10]] (step_cons qP_ (step_cons qP_ (step_cons qP_ (step_cons qP_ (step_cons (qN_ zS8 1 zb1 0 4 (askC a)) (step_cons qP_ (step_cons qP_ (step_cons qP_ (step_cons (qL_ zS8 2 bq 2) (step_cons qP_ (step_cons qP_ (step_nil)))))))))))) ?_
 intro zw14 zh16
 have zS15 := zS8.quiet zh16
 refine call_ 25 #[.iface 74 (.pointer (some ⟨bq, 0, none⟩)), .iface 76 (.agg #[.int .i64 a.source, .int .i64 a.rank, .int .i64 a.age.n, .int .i64 a.age.most, .int .u64 came])] ?_
 refine enter_ Try.func25 rfl ?_
 refine seq_ (reg_ ?_)
 refine move_ ?_
 refine move_ ?_
 refine call_ 85 #[.pointer (some ⟨bq, 0, none⟩), .iface 76 (.agg #[.int .i64 a.source, .int .i64 a.rank, .int .i64 a.age.n, .int .i64 a.age.most, .int .u64 came])] ?_
 refine enter_ Try.func85 rfl ?_
 refine seq_ (reg_ ?_)
 refine move_ ?_
 refine pure_ (.tuple #[.agg #[.int .i64 a.source, .int .i64 a.rank, .int .i64 a.age.n, .int .i64 a.age.most, .int .u64 came], .bool true]) ?_
 refine move_ ?_
 refine pure_ (.agg #[.int .i64 a.source, .int .i64 a.rank, .int .i64 a.age.n, .int .i64 a.age.most, .int .u64 came]) ?_
 refine pure_ (.bool true) ?_
 refine new_ zS15 (fun b => .pointer (some ⟨b, 0, none⟩)) (.cells #[.int .i64 0, .int .i64 0, .int .i64 0, .int .i64 0, .int .u64 0] 76) ?_
 intro zb17 zw18 zS19
 refine store_ zS19 0 (.agg #[.int .i64 a.source, .int .i64 a.rank, .int .i64 a.age.n, .int .i64 a.age.most, .int .u64 came]) zb17 0 ?_
 intro zw20 zS21
 refine pure_ (.bool true) ?_
 refine nil_ (then_n (seq_ (reg_ ?_)))
 refine pure_ (.bool true) ?_
 refine nil_ (then_n (cond_T ?_))
 refine appLZ_ (z := 5) (T := 76) (T' := 76) zS21 7 6 5 1 [.int .i64 a.source, .int .i64 a.rank, .int .i64 a.age.n, .int .i64 a.age.most, .int .u64 came] [] [.pointer (some ⟨bq, 0, none⟩), .pointer (some ⟨bq, 0, none⟩), .pointer (some ⟨bq, 0, none⟩), .slice none 0 0, .agg #[.int .i64 a.source, .int .i64 a.rank, .int .i64 a.age.n, .int .i64 a.age.most, .int .u64 came], undef, undef] [[7, 0], [7, 1], [7, 2], [7, 3], [7, 4], [7, 5], [7, 6], [8, 0], [8, 1], [8, 2], [8, 3], [8, 4], [8, 5], [8, 6], [8, 7]] (fun zS zr zD => estep_cons eP_ (estep_cons eP_ (estep_cons eP_ (estep_cons (eL_ zD 3 bq 0) (estep_cons (eN_ zD 0 zb17 0 5 #[.int .i64 a.source, .int .i64 a.rank, .int .i64 a.age.n, .int .i64 a.age.most, .int .u64 came]) (estep_cons (eB_ 1 [.int .i64 a.source, .int .i64 a.rank, .int .i64 a.age.n, .int .i64 a.age.most, .int .u64 came] 76) (estep_cons (eA_ zS zr 15 17 5 1 [.int .i64 a.source, .int .i64 a.rank, .int .i64 a.age.n, .int .i64 a.age.most, .int .u64 came] 40 (by decide) (by unfold maxLen; omega) (e' := 76)) (estep_nil)))))))) ?_
 intro zb22 zc23 zt24 zu25 zw26 zh27 zh28 zS29
 refine pure_ (.pointer (some ⟨bq, 0, none⟩)) ?_
 refine store_ zS29 4 (.slice (some ⟨zb22, 0, none⟩) 1 zc23) bq 0 ?_
 intro zw30 zS31
 refine nil_ ?_
 refine end_ rfl (res_ [] [] (.tuple #[]) trivial) ?_
 refine nil_ (then_n (reg_ ?_))
 refine move_ ?_
 refine move_ ?_
 refine callD_ zS31 4 (.slice (some ⟨zb22, 0, none⟩) 1 zc23) bq 0 68 81 #[] ?_
 refine enter_ Try.func81 rfl ?_
 refine seq_ (reg_ ?_)
 refine pure_ (.int .i64 0) ?_
 refine nil_ (then_n (seq_ (reg_ ?_)))
 refine move_ ?_
 refine pure_ (.int .i64 1) ?_
 refine pure_ (.int .i64 1) ?_
 refine nil_ (then_n (wp_ret ?_))
 refine ret_ rfl (res_ [.tmp 2] [.int .i64 1] (.int .i64 1) ⟨res_tmp, trivial⟩) ?_
 refine pure_ (.int .i64 0) ?_
 refine call_ 41 #[.iface 74 (.pointer (some ⟨bq, 0, none⟩)), .int .i64 0] ?_
 refine enter_ Try.func41 rfl ?_
 refine wp_block (loop_ 24 (wp_block (seq_ (reg_ ?_))))
 refine pure_ (.int .i64 0) ?_
 refine pure_ (.int .i64 (-1)) ?_
 refine pure_ (.int .i64 0) ?_
 refine pure_ (.int .i64 0) ?_
 refine nil_ (then_n (seq_ (seq_ (reg_ ?_))))
 refine pure_ (.int .i64 0) ?_
 refine pure_ (.int .i64 0) ?_
 refine pure_ (.bool true) ?_
 refine pure_ (.bool true) ?_
 refine skip_ ?_
 refine skip_ ?_
 refine skip_ ?_
 refine skip_ ?_
 refine skip_ ?_
 refine pure_ (.bool true) ?_
 refine nil_ (then_n (cond_T ?_))
 refine wp_exit (then_e ?_)
 refine blk_o ?_
 refine then_e (blk_e ?_)
 refine end_ rfl (res_ [] [] (.tuple #[]) trivial) ?_
 refine nil_ ?_
 refine end_ rfl (res_ [] [] (.tuple #[]) trivial) ?_
 refine nil_ (then_n (seq_ (reg_ ?_)))
 refine move_ ?_
 refine pure_ (.pointer (some ⟨bq, 0, none⟩)) ?_
 refine pure_ (.pointer (some ⟨bq, 2, none⟩)) ?_
 refine load1_ zS31 4 (.int .u64 came) bq 2 ?_
 refine pure_ (.int .u64 (IntKind.u64.wrap (came + 1))) ?_
 refine pure_ (.pointer (some ⟨bq, 0, none⟩)) ?_
 refine pure_ (.pointer (some ⟨bq, 2, none⟩)) ?_
 refine store_ zS31 4 (.int .u64 (IntKind.u64.wrap (came + 1))) bq 2 ?_
 intro zw32 zS33
 refine nil_ (then_n (seq_ (reg_ ?_)))
 refine pure_ (.int .i64 0) ?_
 refine nil_ (then_n (wp_ret ?_))
 refine ret_ rfl (res_ [.tmp 4] [.int .i64 0] (.int .i64 0) ⟨res_tmp, trivial⟩) ?_
 have zm : ¬ most ≤ 0 := by omega
 exact ⟨[(⟨a, came⟩ : One)], (some ⟨zb22, 0, none⟩), zc23, (IntKind.u64.wrap (came + 1)), [⟨zb22, true, .cells (onesV [(⟨a, came⟩ : One)] ++ zt24).toArray 76 (0, 0)⟩], by simp [absL, Sd.Q.push, Sd.Q.insert, Sd.Q.waits, zm, ] <;> omega, by simp [HeapOk] <;> omega, by simp [absL, Sd.Q.push, Sd.Q.insert, Sd.Q.waits, zm, ] <;> omega, ⟨rfl, by have := zh28; simp <;> omega, .inr ⟨zb22, zt24, rfl, rfl, by have := zh27; simpa [onesV, oneC] using this⟩⟩, zS33.pickT (A := [⟨bq, true, .cells #[.slice (some ⟨zb22, 0, none⟩) 1 zc23, .int .i64 most, .int .u64 (IntKind.u64.wrap (came + 1))] 71 (0, 0)⟩, ⟨zb22, true, .cells (onesV [(⟨a, came⟩ : One)] ++ zt24).toArray 76 (0, 0)⟩]) (T := bs) [4, 0] 5 (by kernel_rfl) (by kernel_rfl) (by decide) rfl⟩

set_option maxRecDepth 100000 in
set_option maxHeartbeats 4000000 in
theorem push_0 (bq bl c : Nat) (tl : List Value) (most came : Int) (a : Sd.Ask)  (hc : 0 ≤ c) (hl : (onesV [] ++ tl).length = c * 5) (hH : HeapOk []) (hm : most ≤ 3) (w : World) {ms : List Nat} {w0 : World} {bs : List Blk} (S0 : St ms w0 ([⟨bq, true, .cells #[.slice (some ⟨bl, 0, none⟩) 0 c, .int .i64 most, .int .u64 came] 71 (0, 0)⟩, ⟨bl, true, .cells (([] : List Value) ++ tl).toArray 76 (0, 0)⟩] ++ bs) w) :
    Gives Try.prog 11 #[.pointer (some ⟨bq, 0, none⟩), .agg (askC a)] w fun v w1 => ∃ es x c1 cm rows, v = .int .i64 (Sd.Q.push most (absL []) a).2 ∧ HeapOk es ∧ absL es = (Sd.Q.push most (absL []) a).1 ∧ rowv 5 76 (onesV es) x es.length c1 rows ∧ St ms w0 (⟨bq, true, .cells #[.slice x es.length c1, .int .i64 most, .int .u64 cm] 71 (0, 0)⟩ :: (rows ++ bs)) w1 := by
 refine enter_ Try.func11 rfl ?_
 refine seq_ (reg_ ?_)
 refine new_ S0 (fun b => .pointer (some ⟨b, 0, none⟩)) (.cells (askC a) 32) ?_
 intro zb1 zw2 zS3
 refine pure_ (.int .i64 0) ?_
 refine nil_ (then_n (seq_ (seq_ (reg_ ?_))))
 refine move_ ?_
 refine pure_ (.pointer (some ⟨zb1, 0, none⟩)) ?_
 refine load1_ zS3 0 (.int .i64 a.source) zb1 0 ?_
 refine call_ 24 #[.pointer (some ⟨bq, 0, none⟩), .int .i64 a.source] ?_
 refine enter_ Try.func24 rfl ?_
 refine seq_ (reg_ ?_)
 refine new_ zS3 (fun b => .pointer (some ⟨b, 0, none⟩)) (.cells #[.int .i64 a.source] 3) ?_
 intro zb4 zw5 zS6
 refine pure_ (.int .i64 0) ?_
 refine nil_ (then_n (seq_ (reg_ ?_)))
 refine move_ ?_
 refine pure_ (.pointer (some ⟨bq, 0, none⟩)) ?_
 refine pure_ (.pointer (some ⟨bq, 0, none⟩)) ?_
 refine load1_ zS6 2 (.slice (some ⟨bl, 0, none⟩) 0 c) bq 0 ?_
 refine pure_ (.func (.func 40) #[] #[.pointer (some ⟨zb4, 0, none⟩)]) ?_
 refine call_ 39 #[.slice (some ⟨bl, 0, none⟩) 0 c, .func (.func 40) #[] #[.pointer (some ⟨zb4, 0, none⟩)]] ?_
 refine enter_ Try.func39 rfl ?_
 refine seq_ (reg_ ?_)
 refine pure_ (.int .i64 0) ?_
 refine nil_ (then_n (seq_ (seq_ (reg_ ?_))))
 refine move_ ?_
 refine pure_ (.int .i64 0) ?_
 refine pure_ (.int .i64 0) ?_
 refine nil_ (then_n (wp_block (loop_ 24 (seq_ (reg_ ?_)))))
 refine pure_ (.bool false) ?_
 refine nil_ (then_n (seq_ (cond_F ?_)))
 refine wp_exit (then_e (then_e (blk_e (then_n (seq_ (reg_ ?_))))))
 refine pure_ (.int .i64 (-1)) ?_
 refine nil_ (then_n (wp_ret ?_))
 refine ret_ rfl (res_ [.tmp 4] [.int .i64 (-1)] (.int .i64 (-1)) ⟨res_tmp, trivial⟩) ?_
 refine pure_ (.int .i64 (-1)) ?_
 refine nil_ (then_n (wp_ret ?_))
 refine ret_ rfl (res_ [.tmp 4] [.int .i64 (-1)] (.int .i64 (-1)) ⟨res_tmp, trivial⟩) ?_
 refine pure_ (.bool false) ?_
 refine nil_ (then_n (cond_F ?_))
 refine wp_skip (then_n (seq_ (seq_ ?_)))
 refine quietL_ 9 [.pointer (some ⟨bq, 0, none⟩), .pointer (some ⟨bq, 0, none⟩), .pointer (some ⟨bq, 0, none⟩), .slice (some ⟨bl, 0, none⟩) 0 c, .int .i64 0, .pointer (some ⟨bq, 0, none⟩), .pointer (some ⟨bq, 0, none⟩), .pointer (some ⟨bq, 1, none⟩), .int .i64 most] [[9, 4, 3, 2, 1, 0], [9, 4, 3, 2, 1], [9, 4, 3, 2], [9, 4, 3], [9, 4], [9, 8, 7, 6, 5], [9, 8, 7, 6], [9, 8, 7], [9, 8]] (step_cons qP_ (step_cons qP_ (step_cons qP_ (step_cons (qL_ zS6 2 bq 0) (step_cons qP_ (step_cons qP_ (step_cons qP_ (step_cons qP_ (step_cons (qL_ zS6 2 bq 1) (step_nil)))))))))) ?_
 intro zw7 zh9
 have zS8 := zS6.quiet zh9
 refine pure_ (.bool (decide (most ≤ 0))) ?_
 refine nil_ (then_n ?_)
 refine cond_S (decide (most ≤ 0)) ?_ ?_
 · intro zh10
   have zh11 := leT' zh10
   refine seq_ (reg_ ?_)
   refine pure_ (.int .i64 3) ?_
   refine nil_ (then_n (wp_ret (then_r ?_)))
   refine ret_ rfl (res_ [.tmp 4] [.int .i64 3] (.int .i64 3) ⟨res_tmp, trivial⟩) ?_
   have zm : most ≤ 0 := by omega
   exact ⟨[], (some ⟨bl, 0, none⟩), c, came, [⟨bl, true, .cells (onesV [] ++ tl).toArray 76 (0, 0)⟩], by simp [absL, Sd.Q.push, Sd.Q.insert, Sd.Q.waits, zm, ] <;> omega, by simp [HeapOk] <;> omega, by simp [absL, Sd.Q.push, Sd.Q.insert, Sd.Q.waits, zm, ] <;> omega, ⟨rfl, by have := hc; simp <;> omega, .inr ⟨bl, tl, rfl, rfl, by have := hl; simpa [onesV, oneC] using this⟩⟩, zS8.pickT (A := [⟨bq, true, .cells #[.slice (some ⟨bl, 0, none⟩) 0 c, .int .i64 most, .int .u64 came] 71 (0, 0)⟩, ⟨bl, true, .cells (onesV [] ++ tl).toArray 76 (0, 0)⟩]) (T := bs) [2, 3] 4 (by kernel_rfl) (by kernel_rfl) (by decide) rfl⟩
 intro zh12
 have zh13 := leF' zh12
 refine wp_skip (then_n (seq_ ?_))
 refine quietL_ 11 [.pointer (some ⟨bq, 0, none⟩), .pointer (some ⟨bq, 0, none⟩), .pointer (some ⟨bq, 0, none⟩), .iface 74 (.pointer (some ⟨bq, 0, none⟩)), .agg (askC a), .pointer (some ⟨bq, 0, none⟩), .pointer (some ⟨bq, 0, none⟩), .pointer (some ⟨bq, 2, none⟩), .int .u64 came, .agg #[.int .i64 a.source, .int .i64 a.rank, .int .i64 a.age.n, .int .i64 a.age.most, .int .u64 came], .iface 76 (.agg #[.int .i64 a.source, .int .i64 a.rank, .int .i64 a.age.n, .int .i64 a.age.most, .int .u64 came])] [[11, 3, 2, 1, 0], [11, 3, 2, 1], [11, 3, 2], [11, 3], [11, 10, 9, 4], [11, 10, 9, 8, 7, 6, 5], [11, 10, 9, 8, 7, 6], [11, 10, 9, 8, 7], [11, 10, 9, 8], [11, 10, 9], [11, 10]] (step_cons qP_ (step_cons qP_ (step_cons qP_ (step_cons qP_ (step_cons (qN_ zS8 1 zb1 0 4 (askC a)) (step_cons qP_ (step_cons qP_ (step_cons qP_ (step_cons (qL_ zS8 2 bq 2) (step_cons qP_ (step_cons qP_ (step_nil)))))))))))) ?_
 intro zw14 zh16
 have zS15 := zS8.quiet zh16
 refine call_ 25 #[.iface 74 (.pointer (some ⟨bq, 0, none⟩)), .iface 76 (.agg #[.int .i64 a.source, .int .i64 a.rank, .int .i64 a.age.n, .int .i64 a.age.most, .int .u64 came])] ?_
 refine enter_ Try.func25 rfl ?_
 refine seq_ (reg_ ?_)
 refine move_ ?_
 refine move_ ?_
 refine call_ 85 #[.pointer (some ⟨bq, 0, none⟩), .iface 76 (.agg #[.int .i64 a.source, .int .i64 a.rank, .int .i64 a.age.n, .int .i64 a.age.most, .int .u64 came])] ?_
 refine enter_ Try.func85 rfl ?_
 refine seq_ (reg_ ?_)
 refine move_ ?_
 refine pure_ (.tuple #[.agg #[.int .i64 a.source, .int .i64 a.rank, .int .i64 a.age.n, .int .i64 a.age.most, .int .u64 came], .bool true]) ?_
 refine move_ ?_
 refine pure_ (.agg #[.int .i64 a.source, .int .i64 a.rank, .int .i64 a.age.n, .int .i64 a.age.most, .int .u64 came]) ?_
 refine pure_ (.bool true) ?_
 refine new_ zS15 (fun b => .pointer (some ⟨b, 0, none⟩)) (.cells #[.int .i64 0, .int .i64 0, .int .i64 0, .int .i64 0, .int .u64 0] 76) ?_
 intro zb17 zw18 zS19
 refine store_ zS19 0 (.agg #[.int .i64 a.source, .int .i64 a.rank, .int .i64 a.age.n, .int .i64 a.age.most, .int .u64 came]) zb17 0 ?_
 intro zw20 zS21
 refine pure_ (.bool true) ?_
 refine nil_ (then_n (seq_ (reg_ ?_)))
 refine pure_ (.bool true) ?_
 refine nil_ (then_n (cond_T ?_))
 refine appLB_ (b := bl) (T := 76) (T' := 76) (z := 5) (n := 0) (c := c) zS21 4 [] tl 7 6 5 1 [.int .i64 a.source, .int .i64 a.rank, .int .i64 a.age.n, .int .i64 a.age.most, .int .u64 came] [] [.pointer (some ⟨bq, 0, none⟩), .pointer (some ⟨bq, 0, none⟩), .pointer (some ⟨bq, 0, none⟩), .slice (some ⟨bl, 0, none⟩) 0 c, .agg #[.int .i64 a.source, .int .i64 a.rank, .int .i64 a.age.n, .int .i64 a.age.most, .int .u64 came], undef, undef] [[7, 0], [7, 1], [7, 2], [7, 3], [7, 4], [7, 5], [7, 6], [8, 0], [8, 1], [8, 2], [8, 3], [8, 4], [8, 5], [8, 6], [8, 7]] hl hc (fun zS zr zD => estep_cons eP_ (estep_cons eP_ (estep_cons eP_ (estep_cons (eL_ zD 3 bq 0) (estep_cons (eN_ zD 0 zb17 0 5 #[.int .i64 a.source, .int .i64 a.rank, .int .i64 a.age.n, .int .i64 a.age.most, .int .u64 came]) (estep_cons (eB_ 1 [.int .i64 a.source, .int .i64 a.rank, .int .i64 a.age.n, .int .i64 a.age.most, .int .u64 came] 76) (estep_cons (eA_ zS zr 15 17 5 1 [.int .i64 a.source, .int .i64 a.rank, .int .i64 a.age.n, .int .i64 a.age.most, .int .u64 came] 40 (by decide) (by unfold maxLen; omega) (e' := 76)) (estep_nil)))))))) ?_
 intro zb22 zc23 zt24 zu25 zw26 zh27 zh28 zS29
 refine pure_ (.pointer (some ⟨bq, 0, none⟩)) ?_
 refine store_ zS29 4 (.slice (some ⟨zb22, 0, none⟩) 1 zc23) bq 0 ?_
 intro zw30 zS31
 refine nil_ ?_
 refine end_ rfl (res_ [] [] (.tuple #[]) trivial) ?_
 refine nil_ (then_n (reg_ ?_))
 refine move_ ?_
 refine move_ ?_
 refine callD_ zS31 4 (.slice (some ⟨zb22, 0, none⟩) 1 zc23) bq 0 68 81 #[] ?_
 refine enter_ Try.func81 rfl ?_
 refine seq_ (reg_ ?_)
 refine pure_ (.int .i64 0) ?_
 refine nil_ (then_n (seq_ (reg_ ?_)))
 refine move_ ?_
 refine pure_ (.int .i64 1) ?_
 refine pure_ (.int .i64 1) ?_
 refine nil_ (then_n (wp_ret ?_))
 refine ret_ rfl (res_ [.tmp 2] [.int .i64 1] (.int .i64 1) ⟨res_tmp, trivial⟩) ?_
 refine pure_ (.int .i64 0) ?_
 refine call_ 41 #[.iface 74 (.pointer (some ⟨bq, 0, none⟩)), .int .i64 0] ?_
 refine enter_ Try.func41 rfl ?_
 refine wp_block (loop_ 24 (wp_block (seq_ (reg_ ?_))))
 refine pure_ (.int .i64 0) ?_
 refine pure_ (.int .i64 (-1)) ?_
 refine pure_ (.int .i64 0) ?_
 refine pure_ (.int .i64 0) ?_
 refine nil_ (then_n (seq_ (seq_ (reg_ ?_))))
 refine pure_ (.int .i64 0) ?_
 refine pure_ (.int .i64 0) ?_
 refine pure_ (.bool true) ?_
 refine pure_ (.bool true) ?_
 refine skip_ ?_
 refine skip_ ?_
 refine skip_ ?_
 refine skip_ ?_
 refine skip_ ?_
 refine pure_ (.bool true) ?_
 refine nil_ (then_n (cond_T ?_))
 refine wp_exit (then_e ?_)
 refine blk_o ?_
 refine then_e (blk_e ?_)
 refine end_ rfl (res_ [] [] (.tuple #[]) trivial) ?_
 refine nil_ ?_
 refine end_ rfl (res_ [] [] (.tuple #[]) trivial) ?_
 refine nil_ (then_n (seq_ (reg_ ?_)))
 refine move_ ?_
 refine pure_ (.pointer (some ⟨bq, 0, none⟩)) ?_
 refine pure_ (.pointer (some ⟨bq, 2, none⟩)) ?_
 refine load1_ zS31 4 (.int .u64 came) bq 2 ?_
 refine pure_ (.int .u64 (IntKind.u64.wrap (came + 1))) ?_
 refine pure_ (.pointer (some ⟨bq, 0, none⟩)) ?_
 refine pure_ (.pointer (some ⟨bq, 2, none⟩)) ?_
 refine store_ zS31 4 (.int .u64 (IntKind.u64.wrap (came + 1))) bq 2 ?_
 intro zw32 zS33
 refine nil_ (then_n (seq_ (reg_ ?_)))
 refine pure_ (.int .i64 0) ?_
 refine nil_ (then_n (wp_ret ?_))
 refine ret_ rfl (res_ [.tmp 4] [.int .i64 0] (.int .i64 0) ⟨res_tmp, trivial⟩) ?_
 have zm : ¬ most ≤ 0 := by omega
 exact ⟨[(⟨a, came⟩ : One)], (some ⟨zb22, 0, none⟩), zc23, (IntKind.u64.wrap (came + 1)), [⟨zb22, true, .cells (onesV [(⟨a, came⟩ : One)] ++ zt24).toArray 76 (0, 0)⟩], by simp [absL, Sd.Q.push, Sd.Q.insert, Sd.Q.waits, zm, ] <;> omega, by simp [HeapOk] <;> omega, by simp [absL, Sd.Q.push, Sd.Q.insert, Sd.Q.waits, zm, ] <;> omega, ⟨rfl, by have := zh28; simp <;> omega, .inr ⟨zb22, zt24, rfl, rfl, by have := zh27; simpa [onesV, oneC] using this⟩⟩, zS33.pickT (A := [⟨bq, true, .cells #[.slice (some ⟨zb22, 0, none⟩) 1 zc23, .int .i64 most, .int .u64 (IntKind.u64.wrap (came + 1))] 71 (0, 0)⟩, ⟨zb22, true, .cells (onesV [(⟨a, came⟩ : One)] ++ zt24).toArray 76 (0, 0)⟩]) (T := bs) [4, 0] 5 (by kernel_rfl) (by kernel_rfl) (by decide) rfl⟩

set_option maxRecDepth 100000 in
set_option maxHeartbeats 4000000 in
theorem push_1 (bq bl c : Nat) (tl : List Value) (most came : Int) (a : Sd.Ask) (e0 : One) (hc : 1 ≤ c) (hl : (onesV [e0] ++ tl).length = c * 5) (hH : HeapOk [e0]) (hr0 : e0.a.source = a.source ∨ ¬ e0.a.rank = a.rank) (hm : most ≤ 3) (w : World) {ms : List Nat} {w0 : World} {bs : List Blk} (S0 : St ms w0 ([⟨bq, true, .cells #[.slice (some ⟨bl, 0, none⟩) 1 c, .int .i64 most, .int .u64 came] 71 (0, 0)⟩, ⟨bl, true, .cells (([.int .i64 e0.a.source, .int .i64 e0.a.rank, .int .i64 e0.a.age.n, .int .i64 e0.a.age.most, .int .u64 e0.came] : List Value) ++ tl).toArray 76 (0, 0)⟩] ++ bs) w) :
    Gives Try.prog 11 #[.pointer (some ⟨bq, 0, none⟩), .agg (askC a)] w fun v w1 => ∃ es x c1 cm rows, v = .int .i64 (Sd.Q.push most (absL [e0]) a).2 ∧ HeapOk es ∧ absL es = (Sd.Q.push most (absL [e0]) a).1 ∧ rowv 5 76 (onesV es) x es.length c1 rows ∧ St ms w0 (⟨bq, true, .cells #[.slice x es.length c1, .int .i64 most, .int .u64 cm] 71 (0, 0)⟩ :: (rows ++ bs)) w1 := by
 refine enter_ Try.func11 rfl ?_
 refine seq_ (reg_ ?_)
 refine new_ S0 (fun b => .pointer (some ⟨b, 0, none⟩)) (.cells (askC a) 32) ?_
 intro zb1 zw2 zS3
 refine pure_ (.int .i64 0) ?_
 refine nil_ (then_n (seq_ (seq_ (reg_ ?_))))
 refine move_ ?_
 refine pure_ (.pointer (some ⟨zb1, 0, none⟩)) ?_
 refine load1_ zS3 0 (.int .i64 a.source) zb1 0 ?_
 refine call_ 24 #[.pointer (some ⟨bq, 0, none⟩), .int .i64 a.source] ?_
 refine enter_ Try.func24 rfl ?_
 refine seq_ (reg_ ?_)
 refine new_ zS3 (fun b => .pointer (some ⟨b, 0, none⟩)) (.cells #[.int .i64 a.source] 3) ?_
 intro zb4 zw5 zS6
 refine pure_ (.int .i64 0) ?_
 refine nil_ (then_n (seq_ (reg_ ?_)))
 refine move_ ?_
 refine pure_ (.pointer (some ⟨bq, 0, none⟩)) ?_
 refine pure_ (.pointer (some ⟨bq, 0, none⟩)) ?_
 refine load1_ zS6 2 (.slice (some ⟨bl, 0, none⟩) 1 c) bq 0 ?_
 refine pure_ (.func (.func 40) #[] #[.pointer (some ⟨zb4, 0, none⟩)]) ?_
 refine call_ 39 #[.slice (some ⟨bl, 0, none⟩) 1 c, .func (.func 40) #[] #[.pointer (some ⟨zb4, 0, none⟩)]] ?_
 refine enter_ Try.func39 rfl ?_
 refine seq_ (reg_ ?_)
 refine pure_ (.int .i64 0) ?_
 refine nil_ (then_n (seq_ (seq_ (reg_ ?_))))
 refine move_ ?_
 refine pure_ (.int .i64 1) ?_
 refine pure_ (.int .i64 0) ?_
 refine nil_ (then_n (wp_block (loop_ 24 (seq_ (reg_ ?_)))))
 refine pure_ (.bool true) ?_
 refine nil_ (then_n (seq_ (cond_T ?_)))
 refine wp_skip (then_n (seq_ (wp_block (seq_ (reg_ ?_)))))
 refine pure_ (.int .i64 0) ?_
 refine pure_ (.int .i64 0) ?_
 refine nil_ (then_n (seq_ (reg_ ?_)))
 refine move_ ?_
 refine move_ ?_
 refine pure_ (.int .i64 0) ?_
 refine pure_ (.pointer (some ⟨bl, 0, none⟩)) ?_
 refine loadN_ zS6 3 5 #[.int .i64 e0.a.source, .int .i64 e0.a.rank, .int .i64 e0.a.age.n, .int .i64 e0.a.age.most, .int .u64 e0.came] bl 0 ?_
 refine call_ 40 #[.agg #[.int .i64 e0.a.source, .int .i64 e0.a.rank, .int .i64 e0.a.age.n, .int .i64 e0.a.age.most, .int .u64 e0.came], .pointer (some ⟨zb4, 0, none⟩)] ?_
 refine enter_ Try.func40 rfl ?_
 refine seq_ (reg_ ?_)
 refine new_ zS6 (fun b => .pointer (some ⟨b, 0, none⟩)) (.cells #[.int .i64 e0.a.source, .int .i64 e0.a.rank, .int .i64 e0.a.age.n, .int .i64 e0.a.age.most, .int .u64 e0.came] 76) ?_
 intro zb7 zw8 zS9
 refine pure_ (.bool false) ?_
 refine nil_ (then_n (seq_ (reg_ ?_)))
 refine pure_ (.pointer (some ⟨zb7, 0, none⟩)) ?_
 refine pure_ (.pointer (some ⟨zb7, 0, none⟩)) ?_
 refine load1_ zS9 0 (.int .i64 e0.a.source) zb7 0 ?_
 refine load1_ zS9 1 (.int .i64 a.source) zb4 0 ?_
 refine pure_ (.bool (e0.a.source == a.source)) ?_
 refine assign_ ?_
 refine nil_ (then_n (wp_ret ?_))
 refine ret_ rfl (res_ [.tmp 3] [.bool (e0.a.source == a.source)] (.bool (e0.a.source == a.source)) ⟨res_tmp, trivial⟩) ?_
 refine nil_ (then_n ?_)
 refine cond_S (e0.a.source == a.source) ?_ ?_
 · intro zh10
   have zh11 := eqT' zh10
   refine seq_ (reg_ ?_)
   refine pure_ (.int .i64 0) ?_
   refine pure_ (.int .i64 0) ?_
   refine nil_ (then_n (wp_ret (blk_r (then_r (then_r (blk_r (then_r ?_)))))))
   refine ret_ rfl (res_ [.tmp 4] [.int .i64 0] (.int .i64 0) ⟨res_tmp, trivial⟩) ?_
   refine pure_ (.int .i64 0) ?_
   refine nil_ (then_n (wp_ret ?_))
   refine ret_ rfl (res_ [.tmp 4] [.int .i64 0] (.int .i64 0) ⟨res_tmp, trivial⟩) ?_
   refine pure_ (.bool true) ?_
   refine nil_ (then_n (cond_T ?_))
   refine seq_ (reg_ ?_)
   refine pure_ (.int .i64 27) ?_
   refine nil_ (then_n (wp_ret (then_r ?_)))
   refine ret_ rfl (res_ [.tmp 4] [.int .i64 27] (.int .i64 27) ⟨res_tmp, trivial⟩) ?_
   have zs0 : e0.a.source = a.source := by omega
   exact ⟨[e0], (some ⟨bl, 0, none⟩), c, came, [⟨bl, true, .cells (onesV [e0] ++ tl).toArray 76 (0, 0)⟩], by simp [absL, Sd.Q.push, Sd.Q.insert, Sd.Q.waits, zs0] <;> omega, by simp [HeapOk] <;> omega, by simp [absL, Sd.Q.push, Sd.Q.insert, Sd.Q.waits, zs0] <;> omega, ⟨rfl, by have := hc; simp <;> omega, .inr ⟨bl, tl, rfl, rfl, by have := hl; simpa [onesV, oneC] using this⟩⟩, zS9.pickT (A := [⟨bq, true, .cells #[.slice (some ⟨bl, 0, none⟩) 1 c, .int .i64 most, .int .u64 came] 71 (0, 0)⟩, ⟨bl, true, .cells (onesV [e0] ++ tl).toArray 76 (0, 0)⟩]) (T := bs) [3, 4] 5 (by kernel_rfl) (by kernel_rfl) (by decide) rfl⟩
 intro zh12
 have zh13 := eqF' zh12
 refine wp_skip (blk_n (then_n (reg_ ?_)))
 refine pure_ (.int .i64 1) ?_
 refine pure_ (.int .i64 1) ?_
 refine nil_ (again_ (seq_ (reg_ ?_)))
 refine pure_ (.bool false) ?_
 refine nil_ (then_n (seq_ (cond_F ?_)))
 refine wp_exit (then_e (then_e (blk_e (then_n (seq_ (reg_ ?_))))))
 refine pure_ (.int .i64 (-1)) ?_
 refine nil_ (then_n (wp_ret ?_))
 refine ret_ rfl (res_ [.tmp 4] [.int .i64 (-1)] (.int .i64 (-1)) ⟨res_tmp, trivial⟩) ?_
 refine pure_ (.int .i64 (-1)) ?_
 refine nil_ (then_n (wp_ret ?_))
 refine ret_ rfl (res_ [.tmp 4] [.int .i64 (-1)] (.int .i64 (-1)) ⟨res_tmp, trivial⟩) ?_
 refine pure_ (.bool false) ?_
 refine nil_ (then_n (cond_F ?_))
 refine wp_skip (then_n (seq_ (seq_ ?_)))
 refine quietL_ 9 [.pointer (some ⟨bq, 0, none⟩), .pointer (some ⟨bq, 0, none⟩), .pointer (some ⟨bq, 0, none⟩), .slice (some ⟨bl, 0, none⟩) 1 c, .int .i64 1, .pointer (some ⟨bq, 0, none⟩), .pointer (some ⟨bq, 0, none⟩), .pointer (some ⟨bq, 1, none⟩), .int .i64 most] [[9, 4, 3, 2, 1, 0], [9, 4, 3, 2, 1], [9, 4, 3, 2], [9, 4, 3], [9, 4], [9, 8, 7, 6, 5], [9, 8, 7, 6], [9, 8, 7], [9, 8]] (step_cons qP_ (step_cons qP_ (step_cons qP_ (step_cons (qL_ zS9 3 bq 0) (step_cons qP_ (step_cons qP_ (step_cons qP_ (step_cons qP_ (step_cons (qL_ zS9 3 bq 1) (step_nil)))))))))) ?_
 intro zw14 zh16
 have zS15 := zS9.quiet zh16
 refine pure_ (.bool (decide (most ≤ 1))) ?_
 refine nil_ (then_n ?_)
 refine cond_S (decide (most ≤ 1)) ?_ ?_
 · intro zh17
   have zh18 := leT' zh17
   refine seq_ (reg_ ?_)
   refine pure_ (.int .i64 3) ?_
   refine nil_ (then_n (wp_ret (then_r ?_)))
   refine ret_ rfl (res_ [.tmp 4] [.int .i64 3] (.int .i64 3) ⟨res_tmp, trivial⟩) ?_
   have zm : most ≤ 1 := by omega
   have zs0 : ¬ e0.a.source = a.source := by omega
   exact ⟨[e0], (some ⟨bl, 0, none⟩), c, came, [⟨bl, true, .cells (onesV [e0] ++ tl).toArray 76 (0, 0)⟩], by simp [absL, Sd.Q.push, Sd.Q.insert, Sd.Q.waits, zm, zs0] <;> omega, by simp [HeapOk] <;> omega, by simp [absL, Sd.Q.push, Sd.Q.insert, Sd.Q.waits, zm, zs0] <;> omega, ⟨rfl, by have := hc; simp <;> omega, .inr ⟨bl, tl, rfl, rfl, by have := hl; simpa [onesV, oneC] using this⟩⟩, zS15.pickT (A := [⟨bq, true, .cells #[.slice (some ⟨bl, 0, none⟩) 1 c, .int .i64 most, .int .u64 came] 71 (0, 0)⟩, ⟨bl, true, .cells (onesV [e0] ++ tl).toArray 76 (0, 0)⟩]) (T := bs) [3, 4] 5 (by kernel_rfl) (by kernel_rfl) (by decide) rfl⟩
 intro zh19
 have zh20 := leF' zh19
 refine wp_skip (then_n (seq_ ?_))
 refine quietL_ 11 [.pointer (some ⟨bq, 0, none⟩), .pointer (some ⟨bq, 0, none⟩), .pointer (some ⟨bq, 0, none⟩), .iface 74 (.pointer (some ⟨bq, 0, none⟩)), .agg (askC a), .pointer (some ⟨bq, 0, none⟩), .pointer (some ⟨bq, 0, none⟩), .pointer (some ⟨bq, 2, none⟩), .int .u64 came, .agg #[.int .i64 a.source, .int .i64 a.rank, .int .i64 a.age.n, .int .i64 a.age.most, .int .u64 came], .iface 76 (.agg #[.int .i64 a.source, .int .i64 a.rank, .int .i64 a.age.n, .int .i64 a.age.most, .int .u64 came])] [[11, 3, 2, 1, 0], [11, 3, 2, 1], [11, 3, 2], [11, 3], [11, 10, 9, 4], [11, 10, 9, 8, 7, 6, 5], [11, 10, 9, 8, 7, 6], [11, 10, 9, 8, 7], [11, 10, 9, 8], [11, 10, 9], [11, 10]] (step_cons qP_ (step_cons qP_ (step_cons qP_ (step_cons qP_ (step_cons (qN_ zS15 2 zb1 0 4 (askC a)) (step_cons qP_ (step_cons qP_ (step_cons qP_ (step_cons (qL_ zS15 3 bq 2) (step_cons qP_ (step_cons qP_ (step_nil)))))))))))) ?_
 intro zw21 zh23
 have zS22 := zS15.quiet zh23
 refine call_ 25 #[.iface 74 (.pointer (some ⟨bq, 0, none⟩)), .iface 76 (.agg #[.int .i64 a.source, .int .i64 a.rank, .int .i64 a.age.n, .int .i64 a.age.most, .int .u64 came])] ?_
 refine enter_ Try.func25 rfl ?_
 refine seq_ (reg_ ?_)
 refine move_ ?_
 refine move_ ?_
 refine call_ 85 #[.pointer (some ⟨bq, 0, none⟩), .iface 76 (.agg #[.int .i64 a.source, .int .i64 a.rank, .int .i64 a.age.n, .int .i64 a.age.most, .int .u64 came])] ?_
 refine enter_ Try.func85 rfl ?_
 refine seq_ (reg_ ?_)
 refine move_ ?_
 refine pure_ (.tuple #[.agg #[.int .i64 a.source, .int .i64 a.rank, .int .i64 a.age.n, .int .i64 a.age.most, .int .u64 came], .bool true]) ?_
 refine move_ ?_
 refine pure_ (.agg #[.int .i64 a.source, .int .i64 a.rank, .int .i64 a.age.n, .int .i64 a.age.most, .int .u64 came]) ?_
 refine pure_ (.bool true) ?_
 refine new_ zS22 (fun b => .pointer (some ⟨b, 0, none⟩)) (.cells #[.int .i64 0, .int .i64 0, .int .i64 0, .int .i64 0, .int .u64 0] 76) ?_
 intro zb24 zw25 zS26
 refine store_ zS26 0 (.agg #[.int .i64 a.source, .int .i64 a.rank, .int .i64 a.age.n, .int .i64 a.age.most, .int .u64 came]) zb24 0 ?_
 intro zw27 zS28
 refine pure_ (.bool true) ?_
 refine nil_ (then_n (seq_ (reg_ ?_)))
 refine pure_ (.bool true) ?_
 refine nil_ (then_n (cond_T ?_))
 refine appLB_ (b := bl) (T := 76) (T' := 76) (z := 5) (n := 1) (c := c) zS28 5 [.int .i64 e0.a.source, .int .i64 e0.a.rank, .int .i64 e0.a.age.n, .int .i64 e0.a.age.most, .int .u64 e0.came] tl 7 6 5 1 [.int .i64 a.source, .int .i64 a.rank, .int .i64 a.age.n, .int .i64 a.age.most, .int .u64 came] [] [.pointer (some ⟨bq, 0, none⟩), .pointer (some ⟨bq, 0, none⟩), .pointer (some ⟨bq, 0, none⟩), .slice (some ⟨bl, 0, none⟩) 1 c, .agg #[.int .i64 a.source, .int .i64 a.rank, .int .i64 a.age.n, .int .i64 a.age.most, .int .u64 came], undef, undef] [[7, 0], [7, 1], [7, 2], [7, 3], [7, 4], [7, 5], [7, 6], [8, 0], [8, 1], [8, 2], [8, 3], [8, 4], [8, 5], [8, 6], [8, 7]] hl hc (fun zS zr zD => estep_cons eP_ (estep_cons eP_ (estep_cons eP_ (estep_cons (eL_ zD 4 bq 0) (estep_cons (eN_ zD 0 zb24 0 5 #[.int .i64 a.source, .int .i64 a.rank, .int .i64 a.age.n, .int .i64 a.age.most, .int .u64 came]) (estep_cons (eB_ 1 [.int .i64 a.source, .int .i64 a.rank, .int .i64 a.age.n, .int .i64 a.age.most, .int .u64 came] 76) (estep_cons (eA_ zS zr 15 17 5 1 [.int .i64 a.source, .int .i64 a.rank, .int .i64 a.age.n, .int .i64 a.age.most, .int .u64 came] 40 (by decide) (by unfold maxLen; omega) (e' := 76)) (estep_nil)))))))) ?_
 intro zb29 zc30 zt31 zu32 zw33 zh34 zh35 zS36
 refine pure_ (.pointer (some ⟨bq, 0, none⟩)) ?_
 refine store_ zS36 5 (.slice (some ⟨zb29, 0, none⟩) 2 zc30) bq 0 ?_
 intro zw37 zS38
 refine nil_ ?_
 refine end_ rfl (res_ [] [] (.tuple #[]) trivial) ?_
 refine nil_ (then_n (reg_ ?_))
 refine move_ ?_
 refine move_ ?_
 refine callD_ zS38 5 (.slice (some ⟨zb29, 0, none⟩) 2 zc30) bq 0 68 81 #[] ?_
 refine enter_ Try.func81 rfl ?_
 refine seq_ (reg_ ?_)
 refine pure_ (.int .i64 0) ?_
 refine nil_ (then_n (seq_ (reg_ ?_)))
 refine move_ ?_
 refine pure_ (.int .i64 2) ?_
 refine pure_ (.int .i64 2) ?_
 refine nil_ (then_n (wp_ret ?_))
 refine ret_ rfl (res_ [.tmp 2] [.int .i64 2] (.int .i64 2) ⟨res_tmp, trivial⟩) ?_
 refine pure_ (.int .i64 1) ?_
 refine call_ 41 #[.iface 74 (.pointer (some ⟨bq, 0, none⟩)), .int .i64 1] ?_
 refine enter_ Try.func41 rfl ?_
 refine wp_block (loop_ 24 (wp_block (seq_ (reg_ ?_))))
 refine pure_ (.int .i64 1) ?_
 refine pure_ (.int .i64 0) ?_
 refine pure_ (.int .i64 0) ?_
 refine pure_ (.int .i64 0) ?_
 refine nil_ (then_n (seq_ (seq_ (reg_ ?_))))
 refine pure_ (.int .i64 0) ?_
 refine pure_ (.int .i64 1) ?_
 refine pure_ (.bool false) ?_
 refine pure_ (.bool false) ?_
 refine move_ ?_
 refine pure_ (.int .i64 1) ?_
 refine pure_ (.int .i64 0) ?_
 refine callD_ zS38 5 (.slice (some ⟨zb29, 0, none⟩) 2 zc30) bq 0 68 82 #[.int .i64 1, .int .i64 0] ?_
 refine enter_ Try.func82 rfl ?_
 refine seq_ (reg_ ?_)
 refine pure_ (.bool false) ?_
 refine nil_ (then_n (seq_ (seq_ ?_)))
 refine quietL_ 12 [.slice (some ⟨zb29, 0, none⟩) 2 zc30, .int .i64 1, .pointer (some ⟨zb29, 5, none⟩), .pointer (some ⟨zb29, 5, none⟩), .pointer (some ⟨zb29, 6, none⟩), .int .i64 a.rank, .slice (some ⟨zb29, 0, none⟩) 2 zc30, .int .i64 0, .pointer (some ⟨zb29, 0, none⟩), .pointer (some ⟨zb29, 0, none⟩), .pointer (some ⟨zb29, 1, none⟩), .int .i64 e0.a.rank] [[12, 5, 4, 3, 2, 0], [12, 5, 4, 3, 2, 1], [12, 5, 4, 3, 2], [12, 5, 4, 3], [12, 5, 4], [12, 5], [12, 11, 10, 9, 8, 6], [12, 11, 10, 9, 8, 7], [12, 11, 10, 9, 8], [12, 11, 10, 9], [12, 11, 10], [12, 11]] (step_cons qP_ (step_cons qP_ (step_cons qP_ (step_cons qP_ (step_cons qP_ (step_cons (qL_ zS38 0 zb29 6) (step_cons qP_ (step_cons qP_ (step_cons qP_ (step_cons qP_ (step_cons qP_ (step_cons (qL_ zS38 0 zb29 1) (step_nil))))))))))))) ?_
 intro zw39 zh41
 have zS40 := zS38.quiet zh41
 refine pureE_ (.bool (a.rank != e0.a.rank)) (.bool true) (congrArg Value.bool (neT (by omega))) ?_
 refine nil_ (then_n (cond_T ?_))
 refine seq_ ?_
 refine quietL_ 12 [.slice (some ⟨zb29, 0, none⟩) 2 zc30, .int .i64 1, .pointer (some ⟨zb29, 5, none⟩), .pointer (some ⟨zb29, 5, none⟩), .pointer (some ⟨zb29, 6, none⟩), .int .i64 a.rank, .slice (some ⟨zb29, 0, none⟩) 2 zc30, .int .i64 0, .pointer (some ⟨zb29, 0, none⟩), .pointer (some ⟨zb29, 0, none⟩), .pointer (some ⟨zb29, 1, none⟩), .int .i64 e0.a.rank] [[12, 5, 4, 3, 2, 0], [12, 5, 4, 3, 2, 1], [12, 5, 4, 3, 2], [12, 5, 4, 3], [12, 5, 4], [12, 5], [12, 11, 10, 9, 8, 6], [12, 11, 10, 9, 8, 7], [12, 11, 10, 9, 8], [12, 11, 10, 9], [12, 11, 10], [12, 11], [13, 0], [13, 1], [13, 2], [13, 3], [13, 4], [13, 5], [13, 6], [13, 7], [13, 8], [13, 9], [13, 10], [13, 11], [13, 12]] (step_cons qP_ (step_cons qP_ (step_cons qP_ (step_cons qP_ (step_cons qP_ (step_cons (qL_ zS40 0 zb29 6) (step_cons qP_ (step_cons qP_ (step_cons qP_ (step_cons qP_ (step_cons qP_ (step_cons (qL_ zS40 0 zb29 1) (step_nil))))))))))))) ?_
 intro zw42 zh44
 have zS43 := zS40.quiet zh44
 refine pure_ (.bool (decide (a.rank < e0.a.rank))) ?_
 refine assign_ ?_
 refine nil_ (then_n (wp_ret (then_r ?_)))
 refine ret_ rfl (res_ [.tmp 6] [.bool (decide (a.rank < e0.a.rank))] (.bool (decide (a.rank < e0.a.rank))) ⟨res_tmp, trivial⟩) ?_
 refine pure_ (.bool (!(decide (a.rank < e0.a.rank)))) ?_
 refine pure_ (.bool (!(decide (a.rank < e0.a.rank)))) ?_
 refine nil_ (then_n ?_)
 refine cond_S (!(decide (a.rank < e0.a.rank))) ?_ ?_
 · intro zh45
   have zh46 := notT' zh45
   have zh47 := ltF' zh46
   refine wp_exit (then_e ?_)
   refine blk_o ?_
   refine then_e (blk_e ?_)
   refine end_ rfl (res_ [] [] (.tuple #[]) trivial) ?_
   refine nil_ ?_
   refine end_ rfl (res_ [] [] (.tuple #[]) trivial) ?_
   refine nil_ (then_n (seq_ (reg_ ?_)))
   refine move_ ?_
   refine pure_ (.pointer (some ⟨bq, 0, none⟩)) ?_
   refine pure_ (.pointer (some ⟨bq, 2, none⟩)) ?_
   refine load1_ zS43 5 (.int .u64 came) bq 2 ?_
   refine pure_ (.int .u64 (IntKind.u64.wrap (came + 1))) ?_
   refine pure_ (.pointer (some ⟨bq, 0, none⟩)) ?_
   refine pure_ (.pointer (some ⟨bq, 2, none⟩)) ?_
   refine store_ zS43 5 (.int .u64 (IntKind.u64.wrap (came + 1))) bq 2 ?_
   intro zw48 zS49
   refine nil_ (then_n (seq_ (reg_ ?_)))
   refine pure_ (.int .i64 0) ?_
   refine nil_ (then_n (wp_ret ?_))
   refine ret_ rfl (res_ [.tmp 4] [.int .i64 0] (.int .i64 0) ⟨res_tmp, trivial⟩) ?_
   have zm : ¬ most ≤ 1 := by omega
   have zs0 : ¬ e0.a.source = a.source := by omega
   have zr0 : e0.a.rank < a.rank ∧ ¬ a.rank < e0.a.rank ∧ e0.a.rank ≤ a.rank ∧ ¬ a.rank ≤ e0.a.rank := by omega
   exact ⟨[e0, (⟨a, came⟩ : One)], (some ⟨zb29, 0, none⟩), zc30, (IntKind.u64.wrap (came + 1)), [⟨zb29, true, .cells (onesV [e0, (⟨a, came⟩ : One)] ++ zt31).toArray 76 (0, 0)⟩], by simp [absL, Sd.Q.push, Sd.Q.insert, Sd.Q.waits, zm, zs0, zr0] <;> omega, by simp [HeapOk] <;> omega, by simp [absL, Sd.Q.push, Sd.Q.insert, Sd.Q.waits, zm, zs0, zr0] <;> omega, ⟨rfl, by have := zh35; simp <;> omega, .inr ⟨zb29, zt31, rfl, rfl, by have := zh34; simpa [onesV, oneC] using this⟩⟩, zS49.pickT (A := [⟨bq, true, .cells #[.slice (some ⟨zb29, 0, none⟩) 2 zc30, .int .i64 most, .int .u64 (IntKind.u64.wrap (came + 1))] 71 (0, 0)⟩, ⟨zb29, true, .cells (onesV [e0, (⟨a, came⟩ : One)] ++ zt31).toArray 76 (0, 0)⟩]) (T := bs) [5, 0] 6 (by kernel_rfl) (by kernel_rfl) (by decide) rfl⟩
 intro zh50
 have zh51 := notF' zh50
 have zh52 := ltT' zh51
 refine wp_skip (then_n (seq_ (reg_ ?_)))
 refine move_ ?_
 refine pure_ (.int .i64 0) ?_
 refine pure_ (.int .i64 1) ?_
 refine callD_ zS43 5 (.slice (some ⟨zb29, 0, none⟩) 2 zc30) bq 0 68 83 #[.int .i64 0, .int .i64 1] ?_
 refine enter_ Try.func83 rfl ?_
 refine storeL_ zS43 14 13 0 zb29 0 [[13, 7], [13, 11]] (.agg #[.int .i64 a.source, .int .i64 a.rank, .int .i64 a.age.n, .int .i64 a.age.most, .int .u64 came]) [.slice (some ⟨zb29, 0, none⟩) 2 zc30, .int .i64 0, .slice (some ⟨zb29, 0, none⟩) 2 zc30, .int .i64 1, .slice (some ⟨zb29, 0, none⟩) 2 zc30, .int .i64 1, .pointer (some ⟨zb29, 5, none⟩), .agg #[.int .i64 a.source, .int .i64 a.rank, .int .i64 a.age.n, .int .i64 a.age.most, .int .u64 came], .slice (some ⟨zb29, 0, none⟩) 2 zc30, .int .i64 0, .pointer (some ⟨zb29, 0, none⟩), .agg #[.int .i64 e0.a.source, .int .i64 e0.a.rank, .int .i64 e0.a.age.n, .int .i64 e0.a.age.most, .int .u64 e0.came], .pointer (some ⟨zb29, 0, none⟩), undef] [[14, 0], [14, 1], [14, 2], [14, 3], [14, 4], [14, 5], [14, 6], [14, 7], [14, 8], [14, 9], [14, 10], [14, 11], [14, 12], [14, 13], [15, 0], [15, 1], [15, 2], [15, 3], [15, 4], [15, 5], [15, 6], [15, 7], [15, 8], [15, 9], [15, 10], [15, 11], [15, 12], [15, 13], [15, 14]] (estep_cons eP_ (estep_cons eP_ (estep_cons eP_ (estep_cons eP_ (estep_cons eP_ (estep_cons eP_ (estep_cons eP_ (estep_cons (eNp_ zS43 0 zb29 5 5 #[.int .i64 a.source, .int .i64 a.rank, .int .i64 a.age.n, .int .i64 a.age.most, .int .u64 came]) (estep_cons eP_ (estep_cons eP_ (estep_cons eP_ (estep_cons (eNp_ zS43 0 zb29 0 5 #[.int .i64 e0.a.source, .int .i64 e0.a.rank, .int .i64 e0.a.age.n, .int .i64 e0.a.age.most, .int .u64 e0.came]) (estep_cons eP_ (estep_cons (eW_ zS43 0 (.agg #[.int .i64 a.source, .int .i64 a.rank, .int .i64 a.age.n, .int .i64 a.age.most, .int .u64 came]) zb29 0) (estep_nil))))))))))))))) ?_
 intro zw53 zS54
 refine pure_ (.pointer (some ⟨zb29, 5, none⟩)) ?_
 refine store_ zS54 0 (.agg #[.int .i64 e0.a.source, .int .i64 e0.a.rank, .int .i64 e0.a.age.n, .int .i64 e0.a.age.most, .int .u64 e0.came]) zb29 5 ?_
 intro zw55 zS56
 refine nil_ ?_
 refine end_ rfl (res_ [] [] (.tuple #[]) trivial) ?_
 refine nil_ (then_n (reg_ ?_))
 refine pure_ (.int .i64 0) ?_
 refine pure_ (.int .i64 0) ?_
 refine nil_ (blk_n (again_ (wp_block (seq_ (reg_ ?_)))))
 refine pure_ (.int .i64 0) ?_
 refine pure_ (.int .i64 (-1)) ?_
 refine pure_ (.int .i64 0) ?_
 refine pure_ (.int .i64 0) ?_
 refine nil_ (then_n (seq_ (seq_ (reg_ ?_))))
 refine pure_ (.int .i64 0) ?_
 refine pure_ (.int .i64 0) ?_
 refine pure_ (.bool true) ?_
 refine pure_ (.bool true) ?_
 refine skip_ ?_
 refine skip_ ?_
 refine skip_ ?_
 refine skip_ ?_
 refine skip_ ?_
 refine pure_ (.bool true) ?_
 refine nil_ (then_n (cond_T ?_))
 refine wp_exit (then_e ?_)
 refine blk_o ?_
 refine then_e (blk_e ?_)
 refine end_ rfl (res_ [] [] (.tuple #[]) trivial) ?_
 refine nil_ ?_
 refine end_ rfl (res_ [] [] (.tuple #[]) trivial) ?_
 refine nil_ (then_n (seq_ (reg_ ?_)))
 refine move_ ?_
 refine pure_ (.pointer (some ⟨bq, 0, none⟩)) ?_
 refine pure_ (.pointer (some ⟨bq, 2, none⟩)) ?_
 refine load1_ zS56 5 (.int .u64 came) bq 2 ?_
 refine pure_ (.int .u64 (IntKind.u64.wrap (came + 1))) ?_
 refine pure_ (.pointer (some ⟨bq, 0, none⟩)) ?_
 refine pure_ (.pointer (some ⟨bq, 2, none⟩)) ?_
 refine store_ zS56 5 (.int .u64 (IntKind.u64.wrap (came + 1))) bq 2 ?_
 intro zw57 zS58
 refine nil_ (then_n (seq_ (reg_ ?_)))
 refine pure_ (.int .i64 0) ?_
 refine nil_ (then_n (wp_ret ?_))
 refine ret_ rfl (res_ [.tmp 4] [.int .i64 0] (.int .i64 0) ⟨res_tmp, trivial⟩) ?_
 have zm : ¬ most ≤ 1 := by omega
 have zs0 : ¬ e0.a.source = a.source := by omega
 have zr0 : a.rank < e0.a.rank ∧ ¬ e0.a.rank < a.rank ∧ a.rank ≤ e0.a.rank ∧ ¬ e0.a.rank ≤ a.rank := by omega
 exact ⟨[(⟨a, came⟩ : One), e0], (some ⟨zb29, 0, none⟩), zc30, (IntKind.u64.wrap (came + 1)), [⟨zb29, true, .cells (onesV [(⟨a, came⟩ : One), e0] ++ zt31).toArray 76 (0, 0)⟩], by simp [absL, Sd.Q.push, Sd.Q.insert, Sd.Q.waits, zm, zs0, zr0] <;> omega, by simp [HeapOk] <;> omega, by simp [absL, Sd.Q.push, Sd.Q.insert, Sd.Q.waits, zm, zs0, zr0] <;> omega, ⟨rfl, by have := zh35; simp <;> omega, .inr ⟨zb29, zt31, rfl, rfl, by have := zh34; simpa [onesV, oneC] using this⟩⟩, zS58.pickT (A := [⟨bq, true, .cells #[.slice (some ⟨zb29, 0, none⟩) 2 zc30, .int .i64 most, .int .u64 (IntKind.u64.wrap (came + 1))] 71 (0, 0)⟩, ⟨zb29, true, .cells (onesV [(⟨a, came⟩ : One), e0] ++ zt31).toArray 76 (0, 0)⟩]) (T := bs) [5, 0] 6 (by kernel_rfl) (by kernel_rfl) (by decide) rfl⟩

set_option maxRecDepth 100000 in
set_option maxHeartbeats 4000000 in
theorem push_2 (bq bl c : Nat) (tl : List Value) (most came : Int) (a : Sd.Ask) (e0 : One) (e1 : One) (hc : 2 ≤ c) (hl : (onesV [e0, e1] ++ tl).length = c * 5) (hH : HeapOk [e0, e1]) (hr0 : e0.a.source = a.source ∨ ¬ e0.a.rank = a.rank) (hr1 : e1.a.source = a.source ∨ ¬ e1.a.rank = a.rank) (hm : most ≤ 3) (w : World) {ms : List Nat} {w0 : World} {bs : List Blk} (S0 : St ms w0 ([⟨bq, true, .cells #[.slice (some ⟨bl, 0, none⟩) 2 c, .int .i64 most, .int .u64 came] 71 (0, 0)⟩, ⟨bl, true, .cells (([.int .i64 e0.a.source, .int .i64 e0.a.rank, .int .i64 e0.a.age.n, .int .i64 e0.a.age.most, .int .u64 e0.came, .int .i64 e1.a.source, .int .i64 e1.a.rank, .int .i64 e1.a.age.n, .int .i64 e1.a.age.most, .int .u64 e1.came] : List Value) ++ tl).toArray 76 (0, 0)⟩] ++ bs) w) :
    Gives Try.prog 11 #[.pointer (some ⟨bq, 0, none⟩), .agg (askC a)] w fun v w1 => ∃ es x c1 cm rows, v = .int .i64 (Sd.Q.push most (absL [e0, e1]) a).2 ∧ HeapOk es ∧ absL es = (Sd.Q.push most (absL [e0, e1]) a).1 ∧ rowv 5 76 (onesV es) x es.length c1 rows ∧ St ms w0 (⟨bq, true, .cells #[.slice x es.length c1, .int .i64 most, .int .u64 cm] 71 (0, 0)⟩ :: (rows ++ bs)) w1 := by
 simp only [HeapOk] at hH
 refine enter_ Try.func11 rfl ?_
 refine seq_ (reg_ ?_)
 refine new_ S0 (fun b => .pointer (some ⟨b, 0, none⟩)) (.cells (askC a) 32) ?_
 intro zb1 zw2 zS3
 refine pure_ (.int .i64 0) ?_
 refine nil_ (then_n (seq_ (seq_ (reg_ ?_))))
 refine move_ ?_
 refine pure_ (.pointer (some ⟨zb1, 0, none⟩)) ?_
 refine load1_ zS3 0 (.int .i64 a.source) zb1 0 ?_
 refine call_ 24 #[.pointer (some ⟨bq, 0, none⟩), .int .i64 a.source] ?_
 refine enter_ Try.func24 rfl ?_
 refine seq_ (reg_ ?_)
 refine new_ zS3 (fun b => .pointer (some ⟨b, 0, none⟩)) (.cells #[.int .i64 a.source] 3) ?_
 intro zb4 zw5 zS6
 refine pure_ (.int .i64 0) ?_
 refine nil_ (then_n (seq_ (reg_ ?_)))
 refine move_ ?_
 refine pure_ (.pointer (some ⟨bq, 0, none⟩)) ?_
 refine pure_ (.pointer (some ⟨bq, 0, none⟩)) ?_
 refine load1_ zS6 2 (.slice (some ⟨bl, 0, none⟩) 2 c) bq 0 ?_
 refine pure_ (.func (.func 40) #[] #[.pointer (some ⟨zb4, 0, none⟩)]) ?_
 refine call_ 39 #[.slice (some ⟨bl, 0, none⟩) 2 c, .func (.func 40) #[] #[.pointer (some ⟨zb4, 0, none⟩)]] ?_
 refine enter_ Try.func39 rfl ?_
 refine seq_ (reg_ ?_)
 refine pure_ (.int .i64 0) ?_
 refine nil_ (then_n (seq_ (seq_ (reg_ ?_))))
 refine move_ ?_
 refine pure_ (.int .i64 2) ?_
 refine pure_ (.int .i64 0) ?_
 refine nil_ (then_n (wp_block (loop_ 24 (seq_ (reg_ ?_)))))
 refine pure_ (.bool true) ?_
 refine nil_ (then_n (seq_ (cond_T ?_)))
 refine wp_skip (then_n (seq_ (wp_block (seq_ (reg_ ?_)))))
 refine pure_ (.int .i64 0) ?_
 refine pure_ (.int .i64 0) ?_
 refine nil_ (then_n (seq_ (reg_ ?_)))
 refine move_ ?_
 refine move_ ?_
 refine pure_ (.int .i64 0) ?_
 refine pure_ (.pointer (some ⟨bl, 0, none⟩)) ?_
 refine loadN_ zS6 3 5 #[.int .i64 e0.a.source, .int .i64 e0.a.rank, .int .i64 e0.a.age.n, .int .i64 e0.a.age.most, .int .u64 e0.came] bl 0 ?_
 refine call_ 40 #[.agg #[.int .i64 e0.a.source, .int .i64 e0.a.rank, .int .i64 e0.a.age.n, .int .i64 e0.a.age.most, .int .u64 e0.came], .pointer (some ⟨zb4, 0, none⟩)] ?_
 refine enter_ Try.func40 rfl ?_
 refine seq_ (reg_ ?_)
 refine new_ zS6 (fun b => .pointer (some ⟨b, 0, none⟩)) (.cells #[.int .i64 e0.a.source, .int .i64 e0.a.rank, .int .i64 e0.a.age.n, .int .i64 e0.a.age.most, .int .u64 e0.came] 76) ?_
 intro zb7 zw8 zS9
 refine pure_ (.bool false) ?_
 refine nil_ (then_n (seq_ (reg_ ?_)))
 refine pure_ (.pointer (some ⟨zb7, 0, none⟩)) ?_
 refine pure_ (.pointer (some ⟨zb7, 0, none⟩)) ?_
 refine load1_ zS9 0 (.int .i64 e0.a.source) zb7 0 ?_
 refine load1_ zS9 1 (.int .i64 a.source) zb4 0 ?_
 refine pure_ (.bool (e0.a.source == a.source)) ?_
 refine assign_ ?_
 refine nil_ (then_n (wp_ret ?_))
 refine ret_ rfl (res_ [.tmp 3] [.bool (e0.a.source == a.source)] (.bool (e0.a.source == a.source)) ⟨res_tmp, trivial⟩) ?_
 refine nil_ (then_n ?_)
 refine cond_S (e0.a.source == a.source) ?_ ?_
 · intro zh10
   have zh11 := eqT' zh10
   refine seq_ (reg_ ?_)
   refine pure_ (.int .i64 0) ?_
   refine pure_ (.int .i64 0) ?_
   refine nil_ (then_n (wp_ret (blk_r (then_r (then_r (blk_r (then_r ?_)))))))
   refine ret_ rfl (res_ [.tmp 4] [.int .i64 0] (.int .i64 0) ⟨res_tmp, trivial⟩) ?_
   refine pure_ (.int .i64 0) ?_
   refine nil_ (then_n (wp_ret ?_))
   refine ret_ rfl (res_ [.tmp 4] [.int .i64 0] (.int .i64 0) ⟨res_tmp, trivial⟩) ?_
   refine pure_ (.bool true) ?_
   refine nil_ (then_n (cond_T ?_))
   refine seq_ (reg_ ?_)
   refine pure_ (.int .i64 27) ?_
   refine nil_ (then_n (wp_ret (then_r ?_)))
   refine ret_ rfl (res_ [.tmp 4] [.int .i64 27] (.int .i64 27) ⟨res_tmp, trivial⟩) ?_
   have zs0 : e0.a.source = a.source := by omega
   have zs1 : ¬ e1.a.source = a.source := by omega
   exact ⟨[e0, e1], (some ⟨bl, 0, none⟩), c, came, [⟨bl, true, .cells (onesV [e0, e1] ++ tl).toArray 76 (0, 0)⟩], by simp [absL, Sd.Q.push, Sd.Q.insert, Sd.Q.waits, zs0, zs1] <;> omega, by simp [HeapOk] <;> omega, by simp [absL, Sd.Q.push, Sd.Q.insert, Sd.Q.waits, zs0, zs1] <;> omega, ⟨rfl, by have := hc; simp <;> omega, .inr ⟨bl, tl, rfl, rfl, by have := hl; simpa [onesV, oneC] using this⟩⟩, zS9.pickT (A := [⟨bq, true, .cells #[.slice (some ⟨bl, 0, none⟩) 2 c, .int .i64 most, .int .u64 came] 71 (0, 0)⟩, ⟨bl, true, .cells (onesV [e0, e1] ++ tl).toArray 76 (0, 0)⟩]) (T := bs) [3, 4] 5 (by kernel_rfl) (by kernel_rfl) (by decide) rfl⟩
 intro zh12
 have zh13 := eqF' zh12
 refine wp_skip (blk_n (then_n (reg_ ?_)))
 refine pure_ (.int .i64 1) ?_
 refine pure_ (.int .i64 1) ?_
 refine nil_ (again_ (seq_ (reg_ ?_)))
 refine pure_ (.bool true) ?_
 refine nil_ (then_n (seq_ (cond_T ?_)))
 refine wp_skip (then_n (seq_ (wp_block (seq_ (reg_ ?_)))))
 refine pure_ (.int .i64 1) ?_
 refine pure_ (.int .i64 1) ?_
 refine nil_ (then_n (seq_ (reg_ ?_)))
 refine move_ ?_
 refine move_ ?_
 refine pure_ (.int .i64 1) ?_
 refine pure_ (.pointer (some ⟨bl, 5, none⟩)) ?_
 refine loadN_ zS9 4 5 #[.int .i64 e1.a.source, .int .i64 e1.a.rank, .int .i64 e1.a.age.n, .int .i64 e1.a.age.most, .int .u64 e1.came] bl 5 ?_
 refine call_ 40 #[.agg #[.int .i64 e1.a.source, .int .i64 e1.a.rank, .int .i64 e1.a.age.n, .int .i64 e1.a.age.most, .int .u64 e1.came], .pointer (some ⟨zb4, 0, none⟩)] ?_
 refine enter_ Try.func40 rfl ?_
 refine seq_ (reg_ ?_)
 refine new_ zS9 (fun b => .pointer (some ⟨b, 0, none⟩)) (.cells #[.int .i64 e1.a.source, .int .i64 e1.a.rank, .int .i64 e1.a.age.n, .int .i64 e1.a.age.most, .int .u64 e1.came] 76) ?_
 intro zb14 zw15 zS16
 refine pure_ (.bool false) ?_
 refine nil_ (then_n (seq_ (reg_ ?_)))
 refine pure_ (.pointer (some ⟨zb14, 0, none⟩)) ?_
 refine pure_ (.pointer (some ⟨zb14, 0, none⟩)) ?_
 refine load1_ zS16 0 (.int .i64 e1.a.source) zb14 0 ?_
 refine load1_ zS16 2 (.int .i64 a.source) zb4 0 ?_
 refine pure_ (.bool (e1.a.source == a.source)) ?_
 refine assign_ ?_
 refine nil_ (then_n (wp_ret ?_))
 refine ret_ rfl (res_ [.tmp 3] [.bool (e1.a.source == a.source)] (.bool (e1.a.source == a.source)) ⟨res_tmp, trivial⟩) ?_
 refine nil_ (then_n ?_)
 refine cond_S (e1.a.source == a.source) ?_ ?_
 · intro zh17
   have zh18 := eqT' zh17
   refine seq_ (reg_ ?_)
   refine pure_ (.int .i64 1) ?_
   refine pure_ (.int .i64 1) ?_
   refine nil_ (then_n (wp_ret (blk_r (then_r (then_r (blk_r (then_r ?_)))))))
   refine ret_ rfl (res_ [.tmp 4] [.int .i64 1] (.int .i64 1) ⟨res_tmp, trivial⟩) ?_
   refine pure_ (.int .i64 1) ?_
   refine nil_ (then_n (wp_ret ?_))
   refine ret_ rfl (res_ [.tmp 4] [.int .i64 1] (.int .i64 1) ⟨res_tmp, trivial⟩) ?_
   refine pure_ (.bool true) ?_
   refine nil_ (then_n (cond_T ?_))
   refine seq_ (reg_ ?_)
   refine pure_ (.int .i64 27) ?_
   refine nil_ (then_n (wp_ret (then_r ?_)))
   refine ret_ rfl (res_ [.tmp 4] [.int .i64 27] (.int .i64 27) ⟨res_tmp, trivial⟩) ?_
   have zs0 : ¬ e0.a.source = a.source := by omega
   have zs1 : e1.a.source = a.source := by omega
   exact ⟨[e0, e1], (some ⟨bl, 0, none⟩), c, came, [⟨bl, true, .cells (onesV [e0, e1] ++ tl).toArray 76 (0, 0)⟩], by simp [absL, Sd.Q.push, Sd.Q.insert, Sd.Q.waits, zs0, zs1] <;> omega, by simp [HeapOk] <;> omega, by simp [absL, Sd.Q.push, Sd.Q.insert, Sd.Q.waits, zs0, zs1] <;> omega, ⟨rfl, by have := hc; simp <;> omega, .inr ⟨bl, tl, rfl, rfl, by have := hl; simpa [onesV, oneC] using this⟩⟩, zS16.pickT (A := [⟨bq, true, .cells #[.slice (some ⟨bl, 0, none⟩) 2 c, .int .i64 most, .int .u64 came] 71 (0, 0)⟩, ⟨bl, true, .cells (onesV [e0, e1] ++ tl).toArray 76 (0, 0)⟩]) (T := bs) [4, 5] 6 (by kernel_rfl) (by kernel_rfl) (by decide) rfl⟩
 intro zh19
 have zh20 := eqF' zh19
 refine wp_skip (blk_n (then_n (reg_ ?_)))
 refine pure_ (.int .i64 2) ?_
 refine pure_ (.int .i64 2) ?_
 refine nil_ (again_ (seq_ (reg_ ?_)))
 refine pure_ (.bool false) ?_
 refine nil_ (then_n (seq_ (cond_F ?_)))
 refine wp_exit (then_e (then_e (blk_e (then_n (seq_ (reg_ ?_))))))
 refine pure_ (.int .i64 (-1)) ?_
 refine nil_ (then_n (wp_ret ?_))
 refine ret_ rfl (res_ [.tmp 4] [.int .i64 (-1)] (.int .i64 (-1)) ⟨res_tmp, trivial⟩) ?_
 refine pure_ (.int .i64 (-1)) ?_
 refine nil_ (then_n (wp_ret ?_))
 refine ret_ rfl (res_ [.tmp 4] [.int .i64 (-1)] (.int .i64 (-1)) ⟨res_tmp, trivial⟩) ?_
 refine pure_ (.bool false) ?_
 refine nil_ (then_n (cond_F ?_))
 refine wp_skip (then_n (seq_ (seq_ ?_)))
 refine quietL_ 9 [.pointer (some ⟨bq, 0, none⟩), .pointer (some ⟨bq, 0, none⟩), .pointer (some ⟨bq, 0, none⟩), .slice (some ⟨bl, 0, none⟩) 2 c, .int .i64 2, .pointer (some ⟨bq, 0, none⟩), .pointer (some ⟨bq, 0, none⟩), .pointer (some ⟨bq, 1, none⟩), .int .i64 most] [[9, 4, 3, 2, 1, 0], [9, 4, 3, 2, 1], [9, 4, 3, 2], [9, 4, 3], [9, 4], [9, 8, 7, 6, 5], [9, 8, 7, 6], [9, 8, 7], [9, 8]] (step_cons qP_ (step_cons qP_ (step_cons qP_ (step_cons (qL_ zS16 4 bq 0) (step_cons qP_ (step_cons qP_ (step_cons qP_ (step_cons qP_ (step_cons (qL_ zS16 4 bq 1) (step_nil)))))))))) ?_
 intro zw21 zh23
 have zS22 := zS16.quiet zh23
 refine pure_ (.bool (decide (most ≤ 2))) ?_
 refine nil_ (then_n ?_)
 refine cond_S (decide (most ≤ 2)) ?_ ?_
 · intro zh24
   have zh25 := leT' zh24
   refine seq_ (reg_ ?_)
   refine pure_ (.int .i64 3) ?_
   refine nil_ (then_n (wp_ret (then_r ?_)))
   refine ret_ rfl (res_ [.tmp 4] [.int .i64 3] (.int .i64 3) ⟨res_tmp, trivial⟩) ?_
   have zm : most ≤ 2 := by omega
   have zs0 : ¬ e0.a.source = a.source := by omega
   have zs1 : ¬ e1.a.source = a.source := by omega
   exact ⟨[e0, e1], (some ⟨bl, 0, none⟩), c, came, [⟨bl, true, .cells (onesV [e0, e1] ++ tl).toArray 76 (0, 0)⟩], by simp [absL, Sd.Q.push, Sd.Q.insert, Sd.Q.waits, zm, zs0, zs1] <;> omega, by simp [HeapOk] <;> omega, by simp [absL, Sd.Q.push, Sd.Q.insert, Sd.Q.waits, zm, zs0, zs1] <;> omega, ⟨rfl, by have := hc; simp <;> omega, .inr ⟨bl, tl, rfl, rfl, by have := hl; simpa [onesV, oneC] using this⟩⟩, zS22.pickT (A := [⟨bq, true, .cells #[.slice (some ⟨bl, 0, none⟩) 2 c, .int .i64 most, .int .u64 came] 71 (0, 0)⟩, ⟨bl, true, .cells (onesV [e0, e1] ++ tl).toArray 76 (0, 0)⟩]) (T := bs) [4, 5] 6 (by kernel_rfl) (by kernel_rfl) (by decide) rfl⟩
 intro zh26
 have zh27 := leF' zh26
 refine wp_skip (then_n (seq_ ?_))
 refine quietL_ 11 [.pointer (some ⟨bq, 0, none⟩), .pointer (some ⟨bq, 0, none⟩), .pointer (some ⟨bq, 0, none⟩), .iface 74 (.pointer (some ⟨bq, 0, none⟩)), .agg (askC a), .pointer (some ⟨bq, 0, none⟩), .pointer (some ⟨bq, 0, none⟩), .pointer (some ⟨bq, 2, none⟩), .int .u64 came, .agg #[.int .i64 a.source, .int .i64 a.rank, .int .i64 a.age.n, .int .i64 a.age.most, .int .u64 came], .iface 76 (.agg #[.int .i64 a.source, .int .i64 a.rank, .int .i64 a.age.n, .int .i64 a.age.most, .int .u64 came])] [[11, 3, 2, 1, 0], [11, 3, 2, 1], [11, 3, 2], [11, 3], [11, 10, 9, 4], [11, 10, 9, 8, 7, 6, 5], [11, 10, 9, 8, 7, 6], [11, 10, 9, 8, 7], [11, 10, 9, 8], [11, 10, 9], [11, 10]] (step_cons qP_ (step_cons qP_ (step_cons qP_ (step_cons qP_ (step_cons (qN_ zS22 3 zb1 0 4 (askC a)) (step_cons qP_ (step_cons qP_ (step_cons qP_ (step_cons (qL_ zS22 4 bq 2) (step_cons qP_ (step_cons qP_ (step_nil)))))))))))) ?_
 intro zw28 zh30
 have zS29 := zS22.quiet zh30
 refine call_ 25 #[.iface 74 (.pointer (some ⟨bq, 0, none⟩)), .iface 76 (.agg #[.int .i64 a.source, .int .i64 a.rank, .int .i64 a.age.n, .int .i64 a.age.most, .int .u64 came])] ?_
 refine enter_ Try.func25 rfl ?_
 refine seq_ (reg_ ?_)
 refine move_ ?_
 refine move_ ?_
 refine call_ 85 #[.pointer (some ⟨bq, 0, none⟩), .iface 76 (.agg #[.int .i64 a.source, .int .i64 a.rank, .int .i64 a.age.n, .int .i64 a.age.most, .int .u64 came])] ?_
 refine enter_ Try.func85 rfl ?_
 refine seq_ (reg_ ?_)
 refine move_ ?_
 refine pure_ (.tuple #[.agg #[.int .i64 a.source, .int .i64 a.rank, .int .i64 a.age.n, .int .i64 a.age.most, .int .u64 came], .bool true]) ?_
 refine move_ ?_
 refine pure_ (.agg #[.int .i64 a.source, .int .i64 a.rank, .int .i64 a.age.n, .int .i64 a.age.most, .int .u64 came]) ?_
 refine pure_ (.bool true) ?_
 refine new_ zS29 (fun b => .pointer (some ⟨b, 0, none⟩)) (.cells #[.int .i64 0, .int .i64 0, .int .i64 0, .int .i64 0, .int .u64 0] 76) ?_
 intro zb31 zw32 zS33
 refine store_ zS33 0 (.agg #[.int .i64 a.source, .int .i64 a.rank, .int .i64 a.age.n, .int .i64 a.age.most, .int .u64 came]) zb31 0 ?_
 intro zw34 zS35
 refine pure_ (.bool true) ?_
 refine nil_ (then_n (seq_ (reg_ ?_)))
 refine pure_ (.bool true) ?_
 refine nil_ (then_n (cond_T ?_))
 refine appLB_ (b := bl) (T := 76) (T' := 76) (z := 5) (n := 2) (c := c) zS35 6 [.int .i64 e0.a.source, .int .i64 e0.a.rank, .int .i64 e0.a.age.n, .int .i64 e0.a.age.most, .int .u64 e0.came, .int .i64 e1.a.source, .int .i64 e1.a.rank, .int .i64 e1.a.age.n, .int .i64 e1.a.age.most, .int .u64 e1.came] tl 7 6 5 1 [.int .i64 a.source, .int .i64 a.rank, .int .i64 a.age.n, .int .i64 a.age.most, .int .u64 came] [] [.pointer (some ⟨bq, 0, none⟩), .pointer (some ⟨bq, 0, none⟩), .pointer (some ⟨bq, 0, none⟩), .slice (some ⟨bl, 0, none⟩) 2 c, .agg #[.int .i64 a.source, .int .i64 a.rank, .int .i64 a.age.n, .int .i64 a.age.most, .int .u64 came], undef, undef] [[7, 0], [7, 1], [7, 2], [7, 3], [7, 4], [7, 5], [7, 6], [8, 0], [8, 1], [8, 2], [8, 3], [8, 4], [8, 5], [8, 6], [8, 7]] hl hc (fun zS zr zD => estep_cons eP_ (estep_cons eP_ (estep_cons eP_ (estep_cons (eL_ zD 5 bq 0) (estep_cons (eN_ zD 0 zb31 0 5 #[.int .i64 a.source, .int .i64 a.rank, .int .i64 a.age.n, .int .i64 a.age.most, .int .u64 came]) (estep_cons (eB_ 1 [.int .i64 a.source, .int .i64 a.rank, .int .i64 a.age.n, .int .i64 a.age.most, .int .u64 came] 76) (estep_cons (eA_ zS zr 15 17 5 1 [.int .i64 a.source, .int .i64 a.rank, .int .i64 a.age.n, .int .i64 a.age.most, .int .u64 came] 40 (by decide) (by unfold maxLen; omega) (e' := 76)) (estep_nil)))))))) ?_
 intro zb36 zc37 zt38 zu39 zw40 zh41 zh42 zS43
 refine pure_ (.pointer (some ⟨bq, 0, none⟩)) ?_
 refine store_ zS43 6 (.slice (some ⟨zb36, 0, none⟩) 3 zc37) bq 0 ?_
 intro zw44 zS45
 refine nil_ ?_
 refine end_ rfl (res_ [] [] (.tuple #[]) trivial) ?_
 refine nil_ (then_n (reg_ ?_))
 refine move_ ?_
 refine move_ ?_
 refine callD_ zS45 6 (.slice (some ⟨zb36, 0, none⟩) 3 zc37) bq 0 68 81 #[] ?_
 refine enter_ Try.func81 rfl ?_
 refine seq_ (reg_ ?_)
 refine pure_ (.int .i64 0) ?_
 refine nil_ (then_n (seq_ (reg_ ?_)))
 refine move_ ?_
 refine pure_ (.int .i64 3) ?_
 refine pure_ (.int .i64 3) ?_
 refine nil_ (then_n (wp_ret ?_))
 refine ret_ rfl (res_ [.tmp 2] [.int .i64 3] (.int .i64 3) ⟨res_tmp, trivial⟩) ?_
 refine pure_ (.int .i64 2) ?_
 refine call_ 41 #[.iface 74 (.pointer (some ⟨bq, 0, none⟩)), .int .i64 2] ?_
 refine enter_ Try.func41 rfl ?_
 refine wp_block (loop_ 24 (wp_block (seq_ (reg_ ?_))))
 refine pure_ (.int .i64 2) ?_
 refine pure_ (.int .i64 1) ?_
 refine pure_ (.int .i64 0) ?_
 refine pure_ (.int .i64 0) ?_
 refine nil_ (then_n (seq_ (seq_ (reg_ ?_))))
 refine pure_ (.int .i64 0) ?_
 refine pure_ (.int .i64 2) ?_
 refine pure_ (.bool false) ?_
 refine pure_ (.bool false) ?_
 refine move_ ?_
 refine pure_ (.int .i64 2) ?_
 refine pure_ (.int .i64 0) ?_
 refine callD_ zS45 6 (.slice (some ⟨zb36, 0, none⟩) 3 zc37) bq 0 68 82 #[.int .i64 2, .int .i64 0] ?_
 refine enter_ Try.func82 rfl ?_
 refine seq_ (reg_ ?_)
 refine pure_ (.bool false) ?_
 refine nil_ (then_n (seq_ (seq_ ?_)))
 refine quietL_ 12 [.slice (some ⟨zb36, 0, none⟩) 3 zc37, .int .i64 2, .pointer (some ⟨zb36, 10, none⟩), .pointer (some ⟨zb36, 10, none⟩), .pointer (some ⟨zb36, 11, none⟩), .int .i64 a.rank, .slice (some ⟨zb36, 0, none⟩) 3 zc37, .int .i64 0, .pointer (some ⟨zb36, 0, none⟩), .pointer (some ⟨zb36, 0, none⟩), .pointer (some ⟨zb36, 1, none⟩), .int .i64 e0.a.rank] [[12, 5, 4, 3, 2, 0], [12, 5, 4, 3, 2, 1], [12, 5, 4, 3, 2], [12, 5, 4, 3], [12, 5, 4], [12, 5], [12, 11, 10, 9, 8, 6], [12, 11, 10, 9, 8, 7], [12, 11, 10, 9, 8], [12, 11, 10, 9], [12, 11, 10], [12, 11]] (step_cons qP_ (step_cons qP_ (step_cons qP_ (step_cons qP_ (step_cons qP_ (step_cons (qL_ zS45 0 zb36 11) (step_cons qP_ (step_cons qP_ (step_cons qP_ (step_cons qP_ (step_cons qP_ (step_cons (qL_ zS45 0 zb36 1) (step_nil))))))))))))) ?_
 intro zw46 zh48
 have zS47 := zS45.quiet zh48
 refine pureE_ (.bool (a.rank != e0.a.rank)) (.bool true) (congrArg Value.bool (neT (by omega))) ?_
 refine nil_ (then_n (cond_T ?_))
 refine seq_ ?_
 refine quietL_ 12 [.slice (some ⟨zb36, 0, none⟩) 3 zc37, .int .i64 2, .pointer (some ⟨zb36, 10, none⟩), .pointer (some ⟨zb36, 10, none⟩), .pointer (some ⟨zb36, 11, none⟩), .int .i64 a.rank, .slice (some ⟨zb36, 0, none⟩) 3 zc37, .int .i64 0, .pointer (some ⟨zb36, 0, none⟩), .pointer (some ⟨zb36, 0, none⟩), .pointer (some ⟨zb36, 1, none⟩), .int .i64 e0.a.rank] [[12, 5, 4, 3, 2, 0], [12, 5, 4, 3, 2, 1], [12, 5, 4, 3, 2], [12, 5, 4, 3], [12, 5, 4], [12, 5], [12, 11, 10, 9, 8, 6], [12, 11, 10, 9, 8, 7], [12, 11, 10, 9, 8], [12, 11, 10, 9], [12, 11, 10], [12, 11], [13, 0], [13, 1], [13, 2], [13, 3], [13, 4], [13, 5], [13, 6], [13, 7], [13, 8], [13, 9], [13, 10], [13, 11], [13, 12]] (step_cons qP_ (step_cons qP_ (step_cons qP_ (step_cons qP_ (step_cons qP_ (step_cons (qL_ zS47 0 zb36 11) (step_cons qP_ (step_cons qP_ (step_cons qP_ (step_cons qP_ (step_cons qP_ (step_cons (qL_ zS47 0 zb36 1) (step_nil))))))))))))) ?_
 intro zw49 zh51
 have zS50 := zS47.quiet zh51
 refine pure_ (.bool (decide (a.rank < e0.a.rank))) ?_
 refine assign_ ?_
 refine nil_ (then_n (wp_ret (then_r ?_)))
 refine ret_ rfl (res_ [.tmp 6] [.bool (decide (a.rank < e0.a.rank))] (.bool (decide (a.rank < e0.a.rank))) ⟨res_tmp, trivial⟩) ?_
 refine pure_ (.bool (!(decide (a.rank < e0.a.rank)))) ?_
 refine pure_ (.bool (!(decide (a.rank < e0.a.rank)))) ?_
 refine nil_ (then_n ?_)
 refine cond_S (!(decide (a.rank < e0.a.rank))) ?_ ?_
 · intro zh52
   have zh53 := notT' zh52
   have zh54 := ltF' zh53
   refine wp_exit (then_e ?_)
   refine blk_o ?_
   refine then_e (blk_e ?_)
   refine end_ rfl (res_ [] [] (.tuple #[]) trivial) ?_
   refine nil_ ?_
   refine end_ rfl (res_ [] [] (.tuple #[]) trivial) ?_
   refine nil_ (then_n (seq_ (reg_ ?_)))
   refine move_ ?_
   refine pure_ (.pointer (some ⟨bq, 0, none⟩)) ?_
   refine pure_ (.pointer (some ⟨bq, 2, none⟩)) ?_
   refine load1_ zS50 6 (.int .u64 came) bq 2 ?_
   refine pure_ (.int .u64 (IntKind.u64.wrap (came + 1))) ?_
   refine pure_ (.pointer (some ⟨bq, 0, none⟩)) ?_
   refine pure_ (.pointer (some ⟨bq, 2, none⟩)) ?_
   refine store_ zS50 6 (.int .u64 (IntKind.u64.wrap (came + 1))) bq 2 ?_
   intro zw55 zS56
   refine nil_ (then_n (seq_ (reg_ ?_)))
   refine pure_ (.int .i64 0) ?_
   refine nil_ (then_n (wp_ret ?_))
   refine ret_ rfl (res_ [.tmp 4] [.int .i64 0] (.int .i64 0) ⟨res_tmp, trivial⟩) ?_
   have zm : ¬ most ≤ 2 := by omega
   by_cases zq1 : a.rank < e1.a.rank
   · have zs0 : ¬ e0.a.source = a.source := by omega
     have zs1 : ¬ e1.a.source = a.source := by omega
     have zr0 : e0.a.rank < a.rank ∧ ¬ a.rank < e0.a.rank ∧ e0.a.rank ≤ a.rank ∧ ¬ a.rank ≤ e0.a.rank := by omega
     have zr1 : a.rank < e1.a.rank ∧ ¬ e1.a.rank < a.rank ∧ a.rank ≤ e1.a.rank ∧ ¬ e1.a.rank ≤ a.rank := by omega
     exact ⟨[e0, e1, (⟨a, came⟩ : One)], (some ⟨zb36, 0, none⟩), zc37, (IntKind.u64.wrap (came + 1)), [⟨zb36, true, .cells (onesV [e0, e1, (⟨a, came⟩ : One)] ++ zt38).toArray 76 (0, 0)⟩], by simp [absL, Sd.Q.push, Sd.Q.insert, Sd.Q.waits, zm, zs0, zs1, zr0, zr1] <;> omega, by simp [HeapOk] <;> omega, by simp [absL, Sd.Q.push, Sd.Q.insert, Sd.Q.waits, zm, zs0, zs1, zr0, zr1] <;> omega, ⟨rfl, by have := zh42; simp <;> omega, .inr ⟨zb36, zt38, rfl, rfl, by have := zh41; simpa [onesV, oneC] using this⟩⟩, zS56.pickT (A := [⟨bq, true, .cells #[.slice (some ⟨zb36, 0, none⟩) 3 zc37, .int .i64 most, .int .u64 (IntKind.u64.wrap (came + 1))] 71 (0, 0)⟩, ⟨zb36, true, .cells (onesV [e0, e1, (⟨a, came⟩ : One)] ++ zt38).toArray 76 (0, 0)⟩]) (T := bs) [6, 0] 7 (by kernel_rfl) (by kernel_rfl) (by decide) rfl⟩
   have zs0 : ¬ e0.a.source = a.source := by omega
   have zs1 : ¬ e1.a.source = a.source := by omega
   have zr0 : e0.a.rank < a.rank ∧ ¬ a.rank < e0.a.rank ∧ e0.a.rank ≤ a.rank ∧ ¬ a.rank ≤ e0.a.rank := by omega
   have zr1 : e1.a.rank < a.rank ∧ ¬ a.rank < e1.a.rank ∧ e1.a.rank ≤ a.rank ∧ ¬ a.rank ≤ e1.a.rank := by omega
   exact ⟨[e0, e1, (⟨a, came⟩ : One)], (some ⟨zb36, 0, none⟩), zc37, (IntKind.u64.wrap (came + 1)), [⟨zb36, true, .cells (onesV [e0, e1, (⟨a, came⟩ : One)] ++ zt38).toArray 76 (0, 0)⟩], by simp [absL, Sd.Q.push, Sd.Q.insert, Sd.Q.waits, zm, zs0, zs1, zr0, zr1] <;> omega, by simp [HeapOk] <;> omega, by simp [absL, Sd.Q.push, Sd.Q.insert, Sd.Q.waits, zm, zs0, zs1, zr0, zr1] <;> omega, ⟨rfl, by have := zh42; simp <;> omega, .inr ⟨zb36, zt38, rfl, rfl, by have := zh41; simpa [onesV, oneC] using this⟩⟩, zS56.pickT (A := [⟨bq, true, .cells #[.slice (some ⟨zb36, 0, none⟩) 3 zc37, .int .i64 most, .int .u64 (IntKind.u64.wrap (came + 1))] 71 (0, 0)⟩, ⟨zb36, true, .cells (onesV [e0, e1, (⟨a, came⟩ : One)] ++ zt38).toArray 76 (0, 0)⟩]) (T := bs) [6, 0] 7 (by kernel_rfl) (by kernel_rfl) (by decide) rfl⟩
 intro zh57
 have zh58 := notF' zh57
 have zh59 := ltT' zh58
 refine wp_skip (then_n (seq_ (reg_ ?_)))
 refine move_ ?_
 refine pure_ (.int .i64 0) ?_
 refine pure_ (.int .i64 2) ?_
 refine callD_ zS50 6 (.slice (some ⟨zb36, 0, none⟩) 3 zc37) bq 0 68 83 #[.int .i64 0, .int .i64 2] ?_
 refine enter_ Try.func83 rfl ?_
 refine storeL_ zS50 14 13 0 zb36 0 [[13, 7], [13, 11]] (.agg #[.int .i64 a.source, .int .i64 a.rank, .int .i64 a.age.n, .int .i64 a.age.most, .int .u64 came]) [.slice (some ⟨zb36, 0, none⟩) 3 zc37, .int .i64 0, .slice (some ⟨zb36, 0, none⟩) 3 zc37, .int .i64 2, .slice (some ⟨zb36, 0, none⟩) 3 zc37, .int .i64 2, .pointer (some ⟨zb36, 10, none⟩), .agg #[.int .i64 a.source, .int .i64 a.rank, .int .i64 a.age.n, .int .i64 a.age.most, .int .u64 came], .slice (some ⟨zb36, 0, none⟩) 3 zc37, .int .i64 0, .pointer (some ⟨zb36, 0, none⟩), .agg #[.int .i64 e0.a.source, .int .i64 e0.a.rank, .int .i64 e0.a.age.n, .int .i64 e0.a.age.most, .int .u64 e0.came], .pointer (some ⟨zb36, 0, none⟩), undef] [[14, 0], [14, 1], [14, 2], [14, 3], [14, 4], [14, 5], [14, 6], [14, 7], [14, 8], [14, 9], [14, 10], [14, 11], [14, 12], [14, 13], [15, 0], [15, 1], [15, 2], [15, 3], [15, 4], [15, 5], [15, 6], [15, 7], [15, 8], [15, 9], [15, 10], [15, 11], [15, 12], [15, 13], [15, 14]] (estep_cons eP_ (estep_cons eP_ (estep_cons eP_ (estep_cons eP_ (estep_cons eP_ (estep_cons eP_ (estep_cons eP_ (estep_cons (eNp_ zS50 0 zb36 10 5 #[.int .i64 a.source, .int .i64 a.rank, .int .i64 a.age.n, .int .i64 a.age.most, .int .u64 came]) (estep_cons eP_ (estep_cons eP_ (estep_cons eP_ (estep_cons (eNp_ zS50 0 zb36 0 5 #[.int .i64 e0.a.source, .int .i64 e0.a.rank, .int .i64 e0.a.age.n, .int .i64 e0.a.age.most, .int .u64 e0.came]) (estep_cons eP_ (estep_cons (eW_ zS50 0 (.agg #[.int .i64 a.source, .int .i64 a.rank, .int .i64 a.age.n, .int .i64 a.age.most, .int .u64 came]) zb36 0) (estep_nil))))))))))))))) ?_
 intro zw60 zS61
 refine pure_ (.pointer (some ⟨zb36, 10, none⟩)) ?_
 refine store_ zS61 0 (.agg #[.int .i64 e0.a.source, .int .i64 e0.a.rank, .int .i64 e0.a.age.n, .int .i64 e0.a.age.most, .int .u64 e0.came]) zb36 10 ?_
 intro zw62 zS63
 refine nil_ ?_
 refine end_ rfl (res_ [] [] (.tuple #[]) trivial) ?_
 refine nil_ (then_n (reg_ ?_))
 refine pure_ (.int .i64 0) ?_
 refine pure_ (.int .i64 0) ?_
 refine nil_ (blk_n (again_ (wp_block (seq_ (reg_ ?_)))))
 refine pure_ (.int .i64 0) ?_
 refine pure_ (.int .i64 (-1)) ?_
 refine pure_ (.int .i64 0) ?_
 refine pure_ (.int .i64 0) ?_
 refine nil_ (then_n (seq_ (seq_ (reg_ ?_))))
 refine pure_ (.int .i64 0) ?_
 refine pure_ (.int .i64 0) ?_
 refine pure_ (.bool true) ?_
 refine pure_ (.bool true) ?_
 refine skip_ ?_
 refine skip_ ?_
 refine skip_ ?_
 refine skip_ ?_
 refine skip_ ?_
 refine pure_ (.bool true) ?_
 refine nil_ (then_n (cond_T ?_))
 refine wp_exit (then_e ?_)
 refine blk_o ?_
 refine then_e (blk_e ?_)
 refine end_ rfl (res_ [] [] (.tuple #[]) trivial) ?_
 refine nil_ ?_
 refine end_ rfl (res_ [] [] (.tuple #[]) trivial) ?_
 refine nil_ (then_n (seq_ (reg_ ?_)))
 refine move_ ?_
 refine pure_ (.pointer (some ⟨bq, 0, none⟩)) ?_
 refine pure_ (.pointer (some ⟨bq, 2, none⟩)) ?_
 refine load1_ zS63 6 (.int .u64 came) bq 2 ?_
 refine pure_ (.int .u64 (IntKind.u64.wrap (came + 1))) ?_
 refine pure_ (.pointer (some ⟨bq, 0, none⟩)) ?_
 refine pure_ (.pointer (some ⟨bq, 2, none⟩)) ?_
 refine store_ zS63 6 (.int .u64 (IntKind.u64.wrap (came + 1))) bq 2 ?_
 intro zw64 zS65
 refine nil_ (then_n (seq_ (reg_ ?_)))
 refine pure_ (.int .i64 0) ?_
 refine nil_ (then_n (wp_ret ?_))
 refine ret_ rfl (res_ [.tmp 4] [.int .i64 0] (.int .i64 0) ⟨res_tmp, trivial⟩) ?_
 have zm : ¬ most ≤ 2 := by omega
 have zs0 : ¬ e0.a.source = a.source := by omega
 have zs1 : ¬ e1.a.source = a.source := by omega
 have zr0 : a.rank < e0.a.rank ∧ ¬ e0.a.rank < a.rank ∧ a.rank ≤ e0.a.rank ∧ ¬ e0.a.rank ≤ a.rank := by omega
 have zr1 : a.rank < e1.a.rank ∧ ¬ e1.a.rank < a.rank ∧ a.rank ≤ e1.a.rank ∧ ¬ e1.a.rank ≤ a.rank := by omega
 exact ⟨[(⟨a, came⟩ : One), e1, e0], (some ⟨zb36, 0, none⟩), zc37, (IntKind.u64.wrap (came + 1)), [⟨zb36, true, .cells (onesV [(⟨a, came⟩ : One), e1, e0] ++ zt38).toArray 76 (0, 0)⟩], by simp [absL, Sd.Q.push, Sd.Q.insert, Sd.Q.waits, zm, zs0, zs1, zr0, zr1] <;> omega, by simp [HeapOk] <;> omega, by simp [absL, Sd.Q.push, Sd.Q.insert, Sd.Q.waits, zm, zs0, zs1, zr0, zr1] <;> omega, ⟨rfl, by have := zh42; simp <;> omega, .inr ⟨zb36, zt38, rfl, rfl, by have := zh41; simpa [onesV, oneC] using this⟩⟩, zS65.pickT (A := [⟨bq, true, .cells #[.slice (some ⟨zb36, 0, none⟩) 3 zc37, .int .i64 most, .int .u64 (IntKind.u64.wrap (came + 1))] 71 (0, 0)⟩, ⟨zb36, true, .cells (onesV [(⟨a, came⟩ : One), e1, e0] ++ zt38).toArray 76 (0, 0)⟩]) (T := bs) [6, 0] 7 (by kernel_rfl) (by kernel_rfl) (by decide) rfl⟩

set_option maxRecDepth 100000 in
set_option maxHeartbeats 4000000 in
theorem push_3 (bq bl c : Nat) (tl : List Value) (most came : Int) (a : Sd.Ask) (e0 : One) (e1 : One) (e2 : One) (hc : 3 ≤ c) (hl : (onesV [e0, e1, e2] ++ tl).length = c * 5) (hH : HeapOk [e0, e1, e2]) (hr0 : e0.a.source = a.source ∨ ¬ e0.a.rank = a.rank) (hr1 : e1.a.source = a.source ∨ ¬ e1.a.rank = a.rank) (hr2 : e2.a.source = a.source ∨ ¬ e2.a.rank = a.rank) (hm : most ≤ 3) (w : World) {ms : List Nat} {w0 : World} {bs : List Blk} (S0 : St ms w0 ([⟨bq, true, .cells #[.slice (some ⟨bl, 0, none⟩) 3 c, .int .i64 most, .int .u64 came] 71 (0, 0)⟩, ⟨bl, true, .cells (([.int .i64 e0.a.source, .int .i64 e0.a.rank, .int .i64 e0.a.age.n, .int .i64 e0.a.age.most, .int .u64 e0.came, .int .i64 e1.a.source, .int .i64 e1.a.rank, .int .i64 e1.a.age.n, .int .i64 e1.a.age.most, .int .u64 e1.came, .int .i64 e2.a.source, .int .i64 e2.a.rank, .int .i64 e2.a.age.n, .int .i64 e2.a.age.most, .int .u64 e2.came] : List Value) ++ tl).toArray 76 (0, 0)⟩] ++ bs) w) :
    Gives Try.prog 11 #[.pointer (some ⟨bq, 0, none⟩), .agg (askC a)] w fun v w1 => ∃ es x c1 cm rows, v = .int .i64 (Sd.Q.push most (absL [e0, e1, e2]) a).2 ∧ HeapOk es ∧ absL es = (Sd.Q.push most (absL [e0, e1, e2]) a).1 ∧ rowv 5 76 (onesV es) x es.length c1 rows ∧ St ms w0 (⟨bq, true, .cells #[.slice x es.length c1, .int .i64 most, .int .u64 cm] 71 (0, 0)⟩ :: (rows ++ bs)) w1 := by
 simp only [HeapOk] at hH
 refine enter_ Try.func11 rfl ?_
 refine seq_ (reg_ ?_)
 refine new_ S0 (fun b => .pointer (some ⟨b, 0, none⟩)) (.cells (askC a) 32) ?_
 intro zb1 zw2 zS3
 refine pure_ (.int .i64 0) ?_
 refine nil_ (then_n (seq_ (seq_ (reg_ ?_))))
 refine move_ ?_
 refine pure_ (.pointer (some ⟨zb1, 0, none⟩)) ?_
 refine load1_ zS3 0 (.int .i64 a.source) zb1 0 ?_
 refine call_ 24 #[.pointer (some ⟨bq, 0, none⟩), .int .i64 a.source] ?_
 refine enter_ Try.func24 rfl ?_
 refine seq_ (reg_ ?_)
 refine new_ zS3 (fun b => .pointer (some ⟨b, 0, none⟩)) (.cells #[.int .i64 a.source] 3) ?_
 intro zb4 zw5 zS6
 refine pure_ (.int .i64 0) ?_
 refine nil_ (then_n (seq_ (reg_ ?_)))
 refine move_ ?_
 refine pure_ (.pointer (some ⟨bq, 0, none⟩)) ?_
 refine pure_ (.pointer (some ⟨bq, 0, none⟩)) ?_
 refine load1_ zS6 2 (.slice (some ⟨bl, 0, none⟩) 3 c) bq 0 ?_
 refine pure_ (.func (.func 40) #[] #[.pointer (some ⟨zb4, 0, none⟩)]) ?_
 refine call_ 39 #[.slice (some ⟨bl, 0, none⟩) 3 c, .func (.func 40) #[] #[.pointer (some ⟨zb4, 0, none⟩)]] ?_
 refine enter_ Try.func39 rfl ?_
 refine seq_ (reg_ ?_)
 refine pure_ (.int .i64 0) ?_
 refine nil_ (then_n (seq_ (seq_ (reg_ ?_))))
 refine move_ ?_
 refine pure_ (.int .i64 3) ?_
 refine pure_ (.int .i64 0) ?_
 refine nil_ (then_n (wp_block (loop_ 24 (seq_ (reg_ ?_)))))
 refine pure_ (.bool true) ?_
 refine nil_ (then_n (seq_ (cond_T ?_)))
 refine wp_skip (then_n (seq_ (wp_block (seq_ (reg_ ?_)))))
 refine pure_ (.int .i64 0) ?_
 refine pure_ (.int .i64 0) ?_
 refine nil_ (then_n (seq_ (reg_ ?_)))
 refine move_ ?_
 refine move_ ?_
 refine pure_ (.int .i64 0) ?_
 refine pure_ (.pointer (some ⟨bl, 0, none⟩)) ?_
 refine loadN_ zS6 3 5 #[.int .i64 e0.a.source, .int .i64 e0.a.rank, .int .i64 e0.a.age.n, .int .i64 e0.a.age.most, .int .u64 e0.came] bl 0 ?_
 refine call_ 40 #[.agg #[.int .i64 e0.a.source, .int .i64 e0.a.rank, .int .i64 e0.a.age.n, .int .i64 e0.a.age.most, .int .u64 e0.came], .pointer (some ⟨zb4, 0, none⟩)] ?_
 refine enter_ Try.func40 rfl ?_
 refine seq_ (reg_ ?_)
 refine new_ zS6 (fun b => .pointer (some ⟨b, 0, none⟩)) (.cells #[.int .i64 e0.a.source, .int .i64 e0.a.rank, .int .i64 e0.a.age.n, .int .i64 e0.a.age.most, .int .u64 e0.came] 76) ?_
 intro zb7 zw8 zS9
 refine pure_ (.bool false) ?_
 refine nil_ (then_n (seq_ (reg_ ?_)))
 refine pure_ (.pointer (some ⟨zb7, 0, none⟩)) ?_
 refine pure_ (.pointer (some ⟨zb7, 0, none⟩)) ?_
 refine load1_ zS9 0 (.int .i64 e0.a.source) zb7 0 ?_
 refine load1_ zS9 1 (.int .i64 a.source) zb4 0 ?_
 refine pure_ (.bool (e0.a.source == a.source)) ?_
 refine assign_ ?_
 refine nil_ (then_n (wp_ret ?_))
 refine ret_ rfl (res_ [.tmp 3] [.bool (e0.a.source == a.source)] (.bool (e0.a.source == a.source)) ⟨res_tmp, trivial⟩) ?_
 refine nil_ (then_n ?_)
 refine cond_S (e0.a.source == a.source) ?_ ?_
 · intro zh10
   have zh11 := eqT' zh10
   refine seq_ (reg_ ?_)
   refine pure_ (.int .i64 0) ?_
   refine pure_ (.int .i64 0) ?_
   refine nil_ (then_n (wp_ret (blk_r (then_r (then_r (blk_r (then_r ?_)))))))
   refine ret_ rfl (res_ [.tmp 4] [.int .i64 0] (.int .i64 0) ⟨res_tmp, trivial⟩) ?_
   refine pure_ (.int .i64 0) ?_
   refine nil_ (then_n (wp_ret ?_))
   refine ret_ rfl (res_ [.tmp 4] [.int .i64 0] (.int .i64 0) ⟨res_tmp, trivial⟩) ?_
   refine pure_ (.bool true) ?_
   refine nil_ (then_n (cond_T ?_))
   refine seq_ (reg_ ?_)
   refine pure_ (.int .i64 27) ?_
   refine nil_ (then_n (wp_ret (then_r ?_)))
   refine ret_ rfl (res_ [.tmp 4] [.int .i64 27] (.int .i64 27) ⟨res_tmp, trivial⟩) ?_
   by_cases zq0 : e1.a.rank < e2.a.rank
   · have zs0 : e0.a.source = a.source := by omega
     have zs1 : ¬ e1.a.source = a.source := by omega
     have zs2 : ¬ e2.a.source = a.source := by omega
     have zr0 : e1.a.rank < e2.a.rank ∧ ¬ e2.a.rank < e1.a.rank ∧ e1.a.rank ≤ e2.a.rank ∧ ¬ e2.a.rank ≤ e1.a.rank := by omega
     exact ⟨[e0, e1, e2], (some ⟨bl, 0, none⟩), c, came, [⟨bl, true, .cells (onesV [e0, e1, e2] ++ tl).toArray 76 (0, 0)⟩], by simp [absL, Sd.Q.push, Sd.Q.insert, Sd.Q.waits, zs0, zs1, zs2, zr0] <;> omega, by simp [HeapOk] <;> omega, by simp [absL, Sd.Q.push, Sd.Q.insert, Sd.Q.waits, zs0, zs1, zs2, zr0] <;> omega, ⟨rfl, by have := hc; simp <;> omega, .inr ⟨bl, tl, rfl, rfl, by have := hl; simpa [onesV, oneC] using this⟩⟩, zS9.pickT (A := [⟨bq, true, .cells #[.slice (some ⟨bl, 0, none⟩) 3 c, .int .i64 most, .int .u64 came] 71 (0, 0)⟩, ⟨bl, true, .cells (onesV [e0, e1, e2] ++ tl).toArray 76 (0, 0)⟩]) (T := bs) [3, 4] 5 (by kernel_rfl) (by kernel_rfl) (by decide) rfl⟩
   have zs0 : e0.a.source = a.source := by omega
   have zs1 : ¬ e1.a.source = a.source := by omega
   have zs2 : ¬ e2.a.source = a.source := by omega
   have zr0 : e2.a.rank < e1.a.rank ∧ ¬ e1.a.rank < e2.a.rank ∧ e2.a.rank ≤ e1.a.rank ∧ ¬ e1.a.rank ≤ e2.a.rank := by omega
   exact ⟨[e0, e1, e2], (some ⟨bl, 0, none⟩), c, came, [⟨bl, true, .cells (onesV [e0, e1, e2] ++ tl).toArray 76 (0, 0)⟩], by simp [absL, Sd.Q.push, Sd.Q.insert, Sd.Q.waits, zs0, zs1, zs2, zr0] <;> omega, by simp [HeapOk] <;> omega, by simp [absL, Sd.Q.push, Sd.Q.insert, Sd.Q.waits, zs0, zs1, zs2, zr0] <;> omega, ⟨rfl, by have := hc; simp <;> omega, .inr ⟨bl, tl, rfl, rfl, by have := hl; simpa [onesV, oneC] using this⟩⟩, zS9.pickT (A := [⟨bq, true, .cells #[.slice (some ⟨bl, 0, none⟩) 3 c, .int .i64 most, .int .u64 came] 71 (0, 0)⟩, ⟨bl, true, .cells (onesV [e0, e1, e2] ++ tl).toArray 76 (0, 0)⟩]) (T := bs) [3, 4] 5 (by kernel_rfl) (by kernel_rfl) (by decide) rfl⟩
 intro zh12
 have zh13 := eqF' zh12
 refine wp_skip (blk_n (then_n (reg_ ?_)))
 refine pure_ (.int .i64 1) ?_
 refine pure_ (.int .i64 1) ?_
 refine nil_ (again_ (seq_ (reg_ ?_)))
 refine pure_ (.bool true) ?_
 refine nil_ (then_n (seq_ (cond_T ?_)))
 refine wp_skip (then_n (seq_ (wp_block (seq_ (reg_ ?_)))))
 refine pure_ (.int .i64 1) ?_
 refine pure_ (.int .i64 1) ?_
 refine nil_ (then_n (seq_ (reg_ ?_)))
 refine move_ ?_
 refine move_ ?_
 refine pure_ (.int .i64 1) ?_
 refine pure_ (.pointer (some ⟨bl, 5, none⟩)) ?_
 refine loadN_ zS9 4 5 #[.int .i64 e1.a.source, .int .i64 e1.a.rank, .int .i64 e1.a.age.n, .int .i64 e1.a.age.most, .int .u64 e1.came] bl 5 ?_
 refine call_ 40 #[.agg #[.int .i64 e1.a.source, .int .i64 e1.a.rank, .int .i64 e1.a.age.n, .int .i64 e1.a.age.most, .int .u64 e1.came], .pointer (some ⟨zb4, 0, none⟩)] ?_
 refine enter_ Try.func40 rfl ?_
 refine seq_ (reg_ ?_)
 refine new_ zS9 (fun b => .pointer (some ⟨b, 0, none⟩)) (.cells #[.int .i64 e1.a.source, .int .i64 e1.a.rank, .int .i64 e1.a.age.n, .int .i64 e1.a.age.most, .int .u64 e1.came] 76) ?_
 intro zb14 zw15 zS16
 refine pure_ (.bool false) ?_
 refine nil_ (then_n (seq_ (reg_ ?_)))
 refine pure_ (.pointer (some ⟨zb14, 0, none⟩)) ?_
 refine pure_ (.pointer (some ⟨zb14, 0, none⟩)) ?_
 refine load1_ zS16 0 (.int .i64 e1.a.source) zb14 0 ?_
 refine load1_ zS16 2 (.int .i64 a.source) zb4 0 ?_
 refine pure_ (.bool (e1.a.source == a.source)) ?_
 refine assign_ ?_
 refine nil_ (then_n (wp_ret ?_))
 refine ret_ rfl (res_ [.tmp 3] [.bool (e1.a.source == a.source)] (.bool (e1.a.source == a.source)) ⟨res_tmp, trivial⟩) ?_
 refine nil_ (then_n ?_)
 refine cond_S (e1.a.source == a.source) ?_ ?_
 · intro zh17
   have zh18 := eqT' zh17
   refine seq_ (reg_ ?_)
   refine pure_ (.int .i64 1) ?_
   refine pure_ (.int .i64 1) ?_
   refine nil_ (then_n (wp_ret (blk_r (then_r (then_r (blk_r (then_r ?_)))))))
   refine ret_ rfl (res_ [.tmp 4] [.int .i64 1] (.int .i64 1) ⟨res_tmp, trivial⟩) ?_
   refine pure_ (.int .i64 1) ?_
   refine nil_ (then_n (wp_ret ?_))
   refine ret_ rfl (res_ [.tmp 4] [.int .i64 1] (.int .i64 1) ⟨res_tmp, trivial⟩) ?_
   refine pure_ (.bool true) ?_
   refine nil_ (then_n (cond_T ?_))
   refine seq_ (reg_ ?_)
   refine pure_ (.int .i64 27) ?_
   refine nil_ (then_n (wp_ret (then_r ?_)))
   refine ret_ rfl (res_ [.tmp 4] [.int .i64 27] (.int .i64 27) ⟨res_tmp, trivial⟩) ?_
   by_cases zq0 : e1.a.rank < e2.a.rank
   · have zs0 : ¬ e0.a.source = a.source := by omega
     have zs1 : e1.a.source = a.source := by omega
     have zs2 : ¬ e2.a.source = a.source := by omega
     have zr0 : e1.a.rank < e2.a.rank ∧ ¬ e2.a.rank < e1.a.rank ∧ e1.a.rank ≤ e2.a.rank ∧ ¬ e2.a.rank ≤ e1.a.rank := by omega
     exact ⟨[e0, e1, e2], (some ⟨bl, 0, none⟩), c, came, [⟨bl, true, .cells (onesV [e0, e1, e2] ++ tl).toArray 76 (0, 0)⟩], by simp [absL, Sd.Q.push, Sd.Q.insert, Sd.Q.waits, zs0, zs1, zs2, zr0] <;> omega, by simp [HeapOk] <;> omega, by simp [absL, Sd.Q.push, Sd.Q.insert, Sd.Q.waits, zs0, zs1, zs2, zr0] <;> omega, ⟨rfl, by have := hc; simp <;> omega, .inr ⟨bl, tl, rfl, rfl, by have := hl; simpa [onesV, oneC] using this⟩⟩, zS16.pickT (A := [⟨bq, true, .cells #[.slice (some ⟨bl, 0, none⟩) 3 c, .int .i64 most, .int .u64 came] 71 (0, 0)⟩, ⟨bl, true, .cells (onesV [e0, e1, e2] ++ tl).toArray 76 (0, 0)⟩]) (T := bs) [4, 5] 6 (by kernel_rfl) (by kernel_rfl) (by decide) rfl⟩
   have zs0 : ¬ e0.a.source = a.source := by omega
   have zs1 : e1.a.source = a.source := by omega
   have zs2 : ¬ e2.a.source = a.source := by omega
   have zr0 : e2.a.rank < e1.a.rank ∧ ¬ e1.a.rank < e2.a.rank ∧ e2.a.rank ≤ e1.a.rank ∧ ¬ e1.a.rank ≤ e2.a.rank := by omega
   exact ⟨[e0, e1, e2], (some ⟨bl, 0, none⟩), c, came, [⟨bl, true, .cells (onesV [e0, e1, e2] ++ tl).toArray 76 (0, 0)⟩], by simp [absL, Sd.Q.push, Sd.Q.insert, Sd.Q.waits, zs0, zs1, zs2, zr0] <;> omega, by simp [HeapOk] <;> omega, by simp [absL, Sd.Q.push, Sd.Q.insert, Sd.Q.waits, zs0, zs1, zs2, zr0] <;> omega, ⟨rfl, by have := hc; simp <;> omega, .inr ⟨bl, tl, rfl, rfl, by have := hl; simpa [onesV, oneC] using this⟩⟩, zS16.pickT (A := [⟨bq, true, .cells #[.slice (some ⟨bl, 0, none⟩) 3 c, .int .i64 most, .int .u64 came] 71 (0, 0)⟩, ⟨bl, true, .cells (onesV [e0, e1, e2] ++ tl).toArray 76 (0, 0)⟩]) (T := bs) [4, 5] 6 (by kernel_rfl) (by kernel_rfl) (by decide) rfl⟩
 intro zh19
 have zh20 := eqF' zh19
 refine wp_skip (blk_n (then_n (reg_ ?_)))
 refine pure_ (.int .i64 2) ?_
 refine pure_ (.int .i64 2) ?_
 refine nil_ (again_ (seq_ (reg_ ?_)))
 refine pure_ (.bool true) ?_
 refine nil_ (then_n (seq_ (cond_T ?_)))
 refine wp_skip (then_n (seq_ (wp_block (seq_ (reg_ ?_)))))
 refine pure_ (.int .i64 2) ?_
 refine pure_ (.int .i64 2) ?_
 refine nil_ (then_n (seq_ (reg_ ?_)))
 refine move_ ?_
 refine move_ ?_
 refine pure_ (.int .i64 2) ?_
 refine pure_ (.pointer (some ⟨bl, 10, none⟩)) ?_
 refine loadN_ zS16 5 5 #[.int .i64 e2.a.source, .int .i64 e2.a.rank, .int .i64 e2.a.age.n, .int .i64 e2.a.age.most, .int .u64 e2.came] bl 10 ?_
 refine call_ 40 #[.agg #[.int .i64 e2.a.source, .int .i64 e2.a.rank, .int .i64 e2.a.age.n, .int .i64 e2.a.age.most, .int .u64 e2.came], .pointer (some ⟨zb4, 0, none⟩)] ?_
 refine enter_ Try.func40 rfl ?_
 refine seq_ (reg_ ?_)
 refine new_ zS16 (fun b => .pointer (some ⟨b, 0, none⟩)) (.cells #[.int .i64 e2.a.source, .int .i64 e2.a.rank, .int .i64 e2.a.age.n, .int .i64 e2.a.age.most, .int .u64 e2.came] 76) ?_
 intro zb21 zw22 zS23
 refine pure_ (.bool false) ?_
 refine nil_ (then_n (seq_ (reg_ ?_)))
 refine pure_ (.pointer (some ⟨zb21, 0, none⟩)) ?_
 refine pure_ (.pointer (some ⟨zb21, 0, none⟩)) ?_
 refine load1_ zS23 0 (.int .i64 e2.a.source) zb21 0 ?_
 refine load1_ zS23 3 (.int .i64 a.source) zb4 0 ?_
 refine pure_ (.bool (e2.a.source == a.source)) ?_
 refine assign_ ?_
 refine nil_ (then_n (wp_ret ?_))
 refine ret_ rfl (res_ [.tmp 3] [.bool (e2.a.source == a.source)] (.bool (e2.a.source == a.source)) ⟨res_tmp, trivial⟩) ?_
 refine nil_ (then_n ?_)
 refine cond_S (e2.a.source == a.source) ?_ ?_
 · intro zh24
   have zh25 := eqT' zh24
   refine seq_ (reg_ ?_)
   refine pure_ (.int .i64 2) ?_
   refine pure_ (.int .i64 2) ?_
   refine nil_ (then_n (wp_ret (blk_r (then_r (then_r (blk_r (then_r ?_)))))))
   refine ret_ rfl (res_ [.tmp 4] [.int .i64 2] (.int .i64 2) ⟨res_tmp, trivial⟩) ?_
   refine pure_ (.int .i64 2) ?_
   refine nil_ (then_n (wp_ret ?_))
   refine ret_ rfl (res_ [.tmp 4] [.int .i64 2] (.int .i64 2) ⟨res_tmp, trivial⟩) ?_
   refine pure_ (.bool true) ?_
   refine nil_ (then_n (cond_T ?_))
   refine seq_ (reg_ ?_)
   refine pure_ (.int .i64 27) ?_
   refine nil_ (then_n (wp_ret (then_r ?_)))
   refine ret_ rfl (res_ [.tmp 4] [.int .i64 27] (.int .i64 27) ⟨res_tmp, trivial⟩) ?_
   by_cases zq0 : e1.a.rank < e2.a.rank
   · have zs0 : ¬ e0.a.source = a.source := by omega
     have zs1 : ¬ e1.a.source = a.source := by omega
     have zs2 : e2.a.source = a.source := by omega
     have zr0 : e1.a.rank < e2.a.rank ∧ ¬ e2.a.rank < e1.a.rank ∧ e1.a.rank ≤ e2.a.rank ∧ ¬ e2.a.rank ≤ e1.a.rank := by omega
     exact ⟨[e0, e1, e2], (some ⟨bl, 0, none⟩), c, came, [⟨bl, true, .cells (onesV [e0, e1, e2] ++ tl).toArray 76 (0, 0)⟩], by simp [absL, Sd.Q.push, Sd.Q.insert, Sd.Q.waits, zs0, zs1, zs2, zr0] <;> omega, by simp [HeapOk] <;> omega, by simp [absL, Sd.Q.push, Sd.Q.insert, Sd.Q.waits, zs0, zs1, zs2, zr0] <;> omega, ⟨rfl, by have := hc; simp <;> omega, .inr ⟨bl, tl, rfl, rfl, by have := hl; simpa [onesV, oneC] using this⟩⟩, zS23.pickT (A := [⟨bq, true, .cells #[.slice (some ⟨bl, 0, none⟩) 3 c, .int .i64 most, .int .u64 came] 71 (0, 0)⟩, ⟨bl, true, .cells (onesV [e0, e1, e2] ++ tl).toArray 76 (0, 0)⟩]) (T := bs) [5, 6] 7 (by kernel_rfl) (by kernel_rfl) (by decide) rfl⟩
   have zs0 : ¬ e0.a.source = a.source := by omega
   have zs1 : ¬ e1.a.source = a.source := by omega
   have zs2 : e2.a.source = a.source := by omega
   have zr0 : e2.a.rank < e1.a.rank ∧ ¬ e1.a.rank < e2.a.rank ∧ e2.a.rank ≤ e1.a.rank ∧ ¬ e1.a.rank ≤ e2.a.rank := by omega
   exact ⟨[e0, e1, e2], (some ⟨bl, 0, none⟩), c, came, [⟨bl, true, .cells (onesV [e0, e1, e2] ++ tl).toArray 76 (0, 0)⟩], by simp [absL, Sd.Q.push, Sd.Q.insert, Sd.Q.waits, zs0, zs1, zs2, zr0] <;> omega, by simp [HeapOk] <;> omega, by simp [absL, Sd.Q.push, Sd.Q.insert, Sd.Q.waits, zs0, zs1, zs2, zr0] <;> omega, ⟨rfl, by have := hc; simp <;> omega, .inr ⟨bl, tl, rfl, rfl, by have := hl; simpa [onesV, oneC] using this⟩⟩, zS23.pickT (A := [⟨bq, true, .cells #[.slice (some ⟨bl, 0, none⟩) 3 c, .int .i64 most, .int .u64 came] 71 (0, 0)⟩, ⟨bl, true, .cells (onesV [e0, e1, e2] ++ tl).toArray 76 (0, 0)⟩]) (T := bs) [5, 6] 7 (by kernel_rfl) (by kernel_rfl) (by decide) rfl⟩
 intro zh26
 have zh27 := eqF' zh26
 refine wp_skip (blk_n (then_n (reg_ ?_)))
 refine pure_ (.int .i64 3) ?_
 refine pure_ (.int .i64 3) ?_
 refine nil_ (again_ (seq_ (reg_ ?_)))
 refine pure_ (.bool false) ?_
 refine nil_ (then_n (seq_ (cond_F ?_)))
 refine wp_exit (then_e (then_e (blk_e (then_n (seq_ (reg_ ?_))))))
 refine pure_ (.int .i64 (-1)) ?_
 refine nil_ (then_n (wp_ret ?_))
 refine ret_ rfl (res_ [.tmp 4] [.int .i64 (-1)] (.int .i64 (-1)) ⟨res_tmp, trivial⟩) ?_
 refine pure_ (.int .i64 (-1)) ?_
 refine nil_ (then_n (wp_ret ?_))
 refine ret_ rfl (res_ [.tmp 4] [.int .i64 (-1)] (.int .i64 (-1)) ⟨res_tmp, trivial⟩) ?_
 refine pure_ (.bool false) ?_
 refine nil_ (then_n (cond_F ?_))
 refine wp_skip (then_n (seq_ (seq_ ?_)))
 refine quietL_ 9 [.pointer (some ⟨bq, 0, none⟩), .pointer (some ⟨bq, 0, none⟩), .pointer (some ⟨bq, 0, none⟩), .slice (some ⟨bl, 0, none⟩) 3 c, .int .i64 3, .pointer (some ⟨bq, 0, none⟩), .pointer (some ⟨bq, 0, none⟩), .pointer (some ⟨bq, 1, none⟩), .int .i64 most] [[9, 4, 3, 2, 1, 0], [9, 4, 3, 2, 1], [9, 4, 3, 2], [9, 4, 3], [9, 4], [9, 8, 7, 6, 5], [9, 8, 7, 6], [9, 8, 7], [9, 8]] (step_cons qP_ (step_cons qP_ (step_cons qP_ (step_cons (qL_ zS23 5 bq 0) (step_cons qP_ (step_cons qP_ (step_cons qP_ (step_cons qP_ (step_cons (qL_ zS23 5 bq 1) (step_nil)))))))))) ?_
 intro zw28 zh30
 have zS29 := zS23.quiet zh30
 refine pureE_ (.bool (decide (most ≤ 3))) (.bool true) (congrArg Value.bool (leT (by omega))) ?_
 refine nil_ (then_n (cond_T ?_))
 refine seq_ (reg_ ?_)
 refine pure_ (.int .i64 3) ?_
 refine nil_ (then_n (wp_ret (then_r ?_)))
 refine ret_ rfl (res_ [.tmp 4] [.int .i64 3] (.int .i64 3) ⟨res_tmp, trivial⟩) ?_
 have zm : most ≤ 3 := by omega
 by_cases zq0 : e1.a.rank < e2.a.rank
 · have zs0 : ¬ e0.a.source = a.source := by omega
   have zs1 : ¬ e1.a.source = a.source := by omega
   have zs2 : ¬ e2.a.source = a.source := by omega
   have zr0 : e1.a.rank < e2.a.rank ∧ ¬ e2.a.rank < e1.a.rank ∧ e1.a.rank ≤ e2.a.rank ∧ ¬ e2.a.rank ≤ e1.a.rank := by omega
   exact ⟨[e0, e1, e2], (some ⟨bl, 0, none⟩), c, came, [⟨bl, true, .cells (onesV [e0, e1, e2] ++ tl).toArray 76 (0, 0)⟩], by simp [absL, Sd.Q.push, Sd.Q.insert, Sd.Q.waits, zm, zs0, zs1, zs2, zr0] <;> omega, by simp [HeapOk] <;> omega, by simp [absL, Sd.Q.push, Sd.Q.insert, Sd.Q.waits, zm, zs0, zs1, zs2, zr0] <;> omega, ⟨rfl, by have := hc; simp <;> omega, .inr ⟨bl, tl, rfl, rfl, by have := hl; simpa [onesV, oneC] using this⟩⟩, zS29.pickT (A := [⟨bq, true, .cells #[.slice (some ⟨bl, 0, none⟩) 3 c, .int .i64 most, .int .u64 came] 71 (0, 0)⟩, ⟨bl, true, .cells (onesV [e0, e1, e2] ++ tl).toArray 76 (0, 0)⟩]) (T := bs) [5, 6] 7 (by kernel_rfl) (by kernel_rfl) (by decide) rfl⟩
 have zs0 : ¬ e0.a.source = a.source := by omega
 have zs1 : ¬ e1.a.source = a.source := by omega
 have zs2 : ¬ e2.a.source = a.source := by omega
 have zr0 : e2.a.rank < e1.a.rank ∧ ¬ e1.a.rank < e2.a.rank ∧ e2.a.rank ≤ e1.a.rank ∧ ¬ e1.a.rank ≤ e2.a.rank := by omega
 exact ⟨[e0, e1, e2], (some ⟨bl, 0, none⟩), c, came, [⟨bl, true, .cells (onesV [e0, e1, e2] ++ tl).toArray 76 (0, 0)⟩], by simp [absL, Sd.Q.push, Sd.Q.insert, Sd.Q.waits, zm, zs0, zs1, zs2, zr0] <;> omega, by simp [HeapOk] <;> omega, by simp [absL, Sd.Q.push, Sd.Q.insert, Sd.Q.waits, zm, zs0, zs1, zs2, zr0] <;> omega, ⟨rfl, by have := hc; simp <;> omega, .inr ⟨bl, tl, rfl, rfl, by have := hl; simpa [onesV, oneC] using this⟩⟩, zS29.pickT (A := [⟨bq, true, .cells #[.slice (some ⟨bl, 0, none⟩) 3 c, .int .i64 most, .int .u64 came] 71 (0, 0)⟩, ⟨bl, true, .cells (onesV [e0, e1, e2] ++ tl).toArray 76 (0, 0)⟩]) (T := bs) [5, 6] 7 (by kernel_rfl) (by kernel_rfl) (by decide) rfl⟩

end Go.Proofs.Ytmfhgekknjghoaa
