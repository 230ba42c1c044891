/- Package claim. -/
import Derived.Test.YtmfhgekknjghoaaCJ
import Derived.Test.YtmfhgekknjghoaaSCE
namespace Go.Proofs.Ytmfhgekknjghoaa
open Go Go.RowKit Go.BigFrame Sx
set_option linter.unusedVariables false
set_option linter.unusedSimpArgs false

theorem q_wr {bq : Nat} {most : Int} {L : List Sd.Ask} {bl : List Blk} (h : QS bq most L bl) : ∀ x ∈ bl, x.wr = true := by
  obtain ⟨es, x, c, came, rows, rfl, hr, _⟩ := h
  intro y hy
  rcases List.mem_cons.1 hy with rfl | hy
  · rfl
  · exact hr.wr y hy
theorem toFirst_eq (t : Sd.Tok) (q : List Sd.Ask) : Sd.toFirst t q = if (headL q).2 ≠ 0 then (t, (headL q).2, q) else if (t.grant (headL q).1.source).2 ≠ 0 then (t, (t.grant (headL q).1.source).2, q) else ((t.grant (headL q).1.source).1, 0, Sd.Q.drop q (headL q).1.source) := by
  cases q with
  | nil => rfl
  | cons a l =>
    simp [Sd.toFirst, headL]
    by_cases h : (t.grant a.source).2 = 0 <;> simp [h]
theorem start_bd (m : Int) : (Sd.Timer.start m).n = 0 ∧ m ≤ (Sd.Timer.start m).most ∧ 0 ≤ (Sd.Timer.start m).most ∧ ((Sd.Timer.start m).most = m ∨ (Sd.Timer.start m).most = 0) := by
  show (0 : Int) = 0 ∧ m ≤ max m 0 ∧ 0 ≤ max m 0 ∧ (max m 0 = m ∨ max m 0 = 0)
  omega
theorem q_pushE {bq : Nat} {most : Int} {L : List Sd.Ask} {bl : List Blk} (a : Sd.Ask) (hQ : QS bq most L bl) (hm : most ≤ 3) (hr : ∀ e ∈ L, e.source = a.source ∨ ¬ e.rank = a.rank) : ∀ w', St (bl.map Blk.id) w' bl w' →
    Gives Try.prog 11 #[.pointer (some ⟨bq, 0, none⟩), .agg (askC a)] w' fun v w1 => ∃ bl', v = .int .i64 (Sd.Q.push most L a).2 ∧ QS bq most (Sd.Q.push most L a).1 bl' ∧ St (bl.map Blk.id) w' bl' w1 := fun w' zS =>
  (q_push a hQ hm hr (bs := []) (by simpa using zS)).mono (by rintro v w1 ⟨b, h1, h2, h3⟩; exact ⟨b, h1, h2, by simpa using h3⟩)

set_option maxRecDepth 100000 in
set_option maxHeartbeats 4000000 in
theorem toFirst_ (bq : Nat) (most : Int) (L : List Sd.Ask) (bl : List Blk) (t : Sd.Tok) (hQ : QS bq most L bl) (he : -9223372036854775808 ≤ t.epoch ∧ t.epoch ≤ 9223372036854775807) (w : World) {ms : List Nat} {w0 : World} {bs : List Blk} (S0 : St ms w0 (bl ++ bs) w) :
    Gives Try.prog 32 #[.agg (tokC t), .pointer (some ⟨bq, 0, none⟩)] w fun v w1 => ∃ bl1, v = .tuple #[.agg (tokC ((Sd.toFirst t L).1)), .int .i64 ((Sd.toFirst t L).2.1)] ∧ QS bq most (Sd.toFirst t L).2.2 bl1 ∧ St ms w0 (bl1 ++ bs) w1 := by
 refine enter_ Try.func32 rfl ?_
 refine seq_ (reg_ ?_)
 refine new_ S0 (fun b => .pointer (some ⟨b, 0, none⟩)) (.cells (tokC t) 54) ?_
 intro zb1 zw2 zS3
 refine new_ zS3 (fun b => .pointer (some ⟨b, 0, none⟩)) (.cells #[.int .i64 0, .int .i64 0, .int .i64 0, .int .i64 0, .int .i64 0, .int .i64 0, .int .i64 0, .bool false] 54) ?_
 intro zb4 zw5 zS6
 refine pure_ (.int .i64 0) ?_
 refine nil_ (then_n (seq_ (reg_ ?_)))
 refine move_ ?_
 refine call_ 15 #[.pointer (some ⟨bq, 0, none⟩)] ?_
 refine (q_head hQ (St.sink (A := []) (X := [⟨zb4, true, .cells #[.int .i64 0, .int .i64 0, .int .i64 0, .int .i64 0, .int .i64 0, .int .i64 0, .int .i64 0, .bool false] 54 (0, 0)⟩, ⟨zb1, true, .cells (tokC t) 54 (0, 0)⟩]) (F := bl) (R := bs) zS6)).mono ?_; rintro _ zw7 ⟨rfl, zh8⟩
 have zS9 := zS6.quiet zh8
 refine move_ ?_
 refine pure_ (.agg (askC ((headL L).1))) ?_
 refine pure_ (.int .i64 (headL L).2) ?_
 refine new_ zS9 (fun b => .pointer (some ⟨b, 0, none⟩)) (.cells #[.int .i64 0, .int .i64 0, .int .i64 0, .int .i64 0] 32) ?_
 intro zb10 zw11 zS12
 refine store_ zS12 0 (.agg (askC ((headL L).1))) zb10 0 ?_
 intro zw13 zS14
 refine pure_ (.int .i64 (headL L).2) ?_
 refine nil_ (then_n (seq_ (seq_ (reg_ ?_))))
 refine pure_ (.int .i64 (headL L).2) ?_
 refine pure_ (.bool ((headL L).2 != 0)) ?_
 refine nil_ (then_n ?_)
 refine cond_S ((headL L).2 != 0) ?_ ?_
 · intro zh15
   have zh16 := neT' zh15
   refine seq_ (reg_ ?_)
   refine loadN_ zS14 2 8 (tokC t) zb1 0 ?_
   refine pure_ (.int .i64 (headL L).2) ?_
   refine store_ zS14 1 (.agg (tokC t)) zb4 0 ?_
   intro zw17 zS18
   refine pure_ (.int .i64 (headL L).2) ?_
   refine nil_ (then_n (wp_ret (then_r ?_)))
   refine ret_ rfl (res_ [.cell 4 54, .tmp 5] [.agg (tokC t), .int .i64 (headL L).2] (.tuple #[.agg (tokC t), .int .i64 (headL L).2]) ⟨res_cellN zS18 1 8 zb4 0, res_tmp, trivial⟩) ?_
   have ze : Sd.toFirst t L = (t, (headL L).2, L) := by first | rfl | (simp [toFirst_eq, zh15, zh16]; done) | (simp_all [toFirst_eq, zh15, zh16]; done) | (simp [toFirst_eq, zh15, zh16]; omega) | (simp_all [toFirst_eq, zh15, zh16]; omega)
   exact ⟨bl, by rw [ze] <;> rfl, by rw [ze]; exact hQ, (zS18.pickT (A := []) (T := (bl ++ bs)) [] 3 (by kernel_rfl) rfl (by decide) rfl : St ms w0 ([] ++ (bl ++ bs)) _)⟩
 intro zh19
 have zh20 := neF' zh19
 refine wp_skip (then_n (seq_ (reg_ ?_)))
 refine loadN_ zS14 2 8 (tokC t) zb1 0 ?_
 refine pure_ (.pointer (some ⟨zb10, 0, none⟩)) ?_
 refine load1_ zS14 0 (.int .i64 ((headL L).1).source) zb10 0 ?_
 refine call_ 36 #[.agg (tokC t), .int .i64 ((headL L).1).source] ?_
 refine (grant_ t (((headL L).1).source) (by omega) _).mono ?_; intro v zw21 ⟨hv, zh22⟩; generalize ze25 : Sd.Tok.grant t (((headL L).1).source) = zr24 at hv; subst hv
 have zS23 := zS14.quiet zh22
 refine move_ ?_
 refine pure_ (.agg (tokC zr24.1)) ?_
 refine pure_ (.int .i64 zr24.2) ?_
 refine new_ zS23 (fun b => .pointer (some ⟨b, 0, none⟩)) (.cells #[.int .i64 0, .int .i64 0, .int .i64 0, .int .i64 0, .int .i64 0, .int .i64 0, .int .i64 0, .bool false] 54) ?_
 intro zb26 zw27 zS28
 refine store_ zS28 0 (.agg (tokC zr24.1)) zb26 0 ?_
 intro zw29 zS30
 refine pure_ (.int .i64 zr24.2) ?_
 refine nil_ (then_n (seq_ (seq_ (reg_ ?_))))
 refine pure_ (.int .i64 zr24.2) ?_
 refine pure_ (.bool (zr24.2 != 0)) ?_
 refine nil_ (then_n ?_)
 refine cond_S (zr24.2 != 0) ?_ ?_
 · intro zh31
   have zh32 := neT' zh31
   refine seq_ (reg_ ?_)
   refine loadN_ zS30 3 8 (tokC t) zb1 0 ?_
   refine pure_ (.int .i64 zr24.2) ?_
   refine store_ zS30 2 (.agg (tokC t)) zb4 0 ?_
   intro zw33 zS34
   refine pure_ (.int .i64 zr24.2) ?_
   refine nil_ (then_n (wp_ret (then_r ?_)))
   refine ret_ rfl (res_ [.cell 4 54, .tmp 5] [.agg (tokC t), .int .i64 zr24.2] (.tuple #[.agg (tokC t), .int .i64 zr24.2]) ⟨res_cellN zS34 2 8 zb4 0, res_tmp, trivial⟩) ?_
   have ze : Sd.toFirst t L = (t, zr24.2, L) := by first | rfl | (simp [toFirst_eq, zh19, zh31, zh20, zh32, ze25]; done) | (simp_all [toFirst_eq, zh19, zh31, zh20, zh32, ze25]; done) | (simp [toFirst_eq, zh19, zh31, zh20, zh32, ze25]; omega) | (simp_all [toFirst_eq, zh19, zh31, zh20, zh32, ze25]; omega)
   exact ⟨bl, by rw [ze] <;> rfl, by rw [ze]; exact hQ, (zS34.pickT (A := []) (T := (bl ++ bs)) [] 4 (by kernel_rfl) rfl (by decide) rfl : St ms w0 ([] ++ (bl ++ bs)) _)⟩
 intro zh35
 have zh36 := neF' zh35
 refine wp_skip (then_n (seq_ (reg_ ?_)))
 refine move_ ?_
 refine pure_ (.pointer (some ⟨zb10, 0, none⟩)) ?_
 refine load1_ zS30 1 (.int .i64 ((headL L).1).source) zb10 0 ?_
 refine call_ 17 #[.pointer (some ⟨bq, 0, none⟩), .int .i64 ((headL L).1).source] ?_
 refine (q_drop (((headL L).1).source) hQ (St.sink (A := []) (X := [⟨zb26, true, .cells (tokC zr24.1) 54 (0, 0)⟩, ⟨zb10, true, .cells (askC ((headL L).1)) 32 (0, 0)⟩, ⟨zb4, true, .cells #[.int .i64 0, .int .i64 0, .int .i64 0, .int .i64 0, .int .i64 0, .int .i64 0, .int .i64 0, .bool false] 54 (0, 0)⟩, ⟨zb1, true, .cells (tokC t) 54 (0, 0)⟩]) (F := bl) (R := bs) zS30)).mono ?_; rintro _ zw37 ⟨zq40, rfl, zh41, zS39⟩
 have zS38 := St.float (A := []) (X := [⟨zb26, true, .cells (tokC zr24.1) 54 (0, 0)⟩, ⟨zb10, true, .cells (askC ((headL L).1)) 32 (0, 0)⟩, ⟨zb4, true, .cells #[.int .i64 0, .int .i64 0, .int .i64 0, .int .i64 0, .int .i64 0, .int .i64 0, .int .i64 0, .bool false] 54 (0, 0)⟩, ⟨zb1, true, .cells (tokC t) 54 (0, 0)⟩]) (F := zq40) (R := bs) zS39
 refine nil_ (then_n (seq_ (reg_ ?_)))
 refine loadN_ zS38 0 8 (tokC zr24.1) zb26 0 ?_
 refine store_ zS38 2 (.agg (tokC zr24.1)) zb4 0 ?_
 intro zw42 zS43
 refine pure_ (.int .i64 0) ?_
 refine nil_ (then_n (wp_ret ?_))
 refine ret_ rfl (res_ [.cell 4 54, .tmp 5] [.agg (tokC zr24.1), .int .i64 0] (.tuple #[.agg (tokC zr24.1), .int .i64 0]) ⟨res_cellN zS43 2 8 zb4 0, res_tmp, trivial⟩) ?_
 have ze : Sd.toFirst t L = (zr24.1, 0, Sd.Q.drop L (((headL L).1).source)) := by first | rfl | (simp [toFirst_eq, zh19, zh35, zh20, zh36, ze25]; done) | (simp_all [toFirst_eq, zh19, zh35, zh20, zh36, ze25]; done) | (simp [toFirst_eq, zh19, zh35, zh20, zh36, ze25]; omega) | (simp_all [toFirst_eq, zh19, zh35, zh20, zh36, ze25]; omega)
 exact ⟨zq40, by rw [ze] <;> rfl, by rw [ze]; exact zh41, (zS43.pickT (A := []) (T := (zq40 ++ bs)) [] 4 (by kernel_rfl) rfl (by decide) rfl : St ms w0 ([] ++ (zq40 ++ bs)) _)⟩

set_option maxRecDepth 100000 in
set_option maxHeartbeats 4000000 in
theorem release_ (bq : Nat) (most : Int) (L : List Sd.Ask) (bl : List Blk) (t : Sd.Tok) (f : Int) (hQ : QS bq most L bl) (he : -9223372036854775808 ≤ t.epoch ∧ t.epoch ≤ 9223372036854775807) (w : World) {ms : List Nat} {w0 : World} {bs : List Blk} (S0 : St ms w0 (bl ++ bs) w) :
    Gives Try.prog 21 #[.agg (tokC t), .pointer (some ⟨bq, 0, none⟩), .int .i64 f] w fun v w1 => ∃ bl1, v = .tuple #[.agg (tokC ((Sd.releaseTok t L f).1)), .int .i64 ((Sd.releaseTok t L f).2.1)] ∧ QS bq most (Sd.releaseTok t L f).2.2 bl1 ∧ St ms w0 (bl1 ++ bs) w1 := by
 refine enter_ Try.func21 rfl ?_
 refine seq_ (reg_ ?_)
 refine new_ S0 (fun b => .pointer (some ⟨b, 0, none⟩)) (.cells (tokC t) 54) ?_
 intro zb1 zw2 zS3
 refine new_ zS3 (fun b => .pointer (some ⟨b, 0, none⟩)) (.cells #[.int .i64 0, .int .i64 0, .int .i64 0, .int .i64 0, .int .i64 0, .int .i64 0, .int .i64 0, .bool false] 54) ?_
 intro zb4 zw5 zS6
 refine pure_ (.int .i64 0) ?_
 refine nil_ (then_n (seq_ (seq_ (reg_ ?_))))
 refine pure_ (.int .i64 f) ?_
 refine pure_ (.pointer (some ⟨zb1, 0, none⟩)) ?_
 refine load1_ zS6 1 (.int .i64 t.holder) zb1 0 ?_
 refine pure_ (.bool (f != t.holder)) ?_
 refine nil_ (then_n ?_)
 refine cond_S (f != t.holder) ?_ ?_
 · intro zh7
   have zh8 := neT' zh7
   refine seq_ (reg_ ?_)
   refine loadN_ zS6 1 8 (tokC t) zb1 0 ?_
   refine store_ zS6 0 (.agg (tokC t)) zb4 0 ?_
   intro zw9 zS10
   refine pure_ (.int .i64 20) ?_
   refine nil_ (then_n (wp_ret (then_r ?_)))
   refine ret_ rfl (res_ [.cell 6 54, .tmp 7] [.agg (tokC t), .int .i64 20] (.tuple #[.agg (tokC t), .int .i64 20]) ⟨res_cellN zS10 0 8 zb4 0, res_tmp, trivial⟩) ?_
   have ze : Sd.releaseTok t L f = (t, 20, L) := by first | rfl | (simp [Sd.releaseTok, zh7, zh8]; done) | (simp_all [Sd.releaseTok, zh7, zh8]; done) | (simp [Sd.releaseTok, zh7, zh8]; omega) | (simp_all [Sd.releaseTok, zh7, zh8]; omega)
   exact ⟨bl, by rw [ze] <;> rfl, by rw [ze]; exact hQ, (zS10.pickT (A := []) (T := (bl ++ bs)) [] 2 (by kernel_rfl) rfl (by decide) rfl : St ms w0 ([] ++ (bl ++ bs)) _)⟩
 intro zh11
 have zh12 := neF' zh11
 refine wp_skip (then_n (seq_ (seq_ (reg_ ?_))))
 refine pure_ (.pointer (some ⟨zb1, 1, none⟩)) ?_
 refine load1_ zS6 1 (.int .i64 t.epoch) zb1 1 ?_
 refine pure_ (.bool (decide (65535 ≤ t.epoch))) ?_
 refine nil_ (then_n ?_)
 refine cond_S (decide (65535 ≤ t.epoch)) ?_ ?_
 · intro zh13
   have zh14 := leT' zh13
   refine seq_ (reg_ ?_)
   refine loadN_ zS6 1 8 (tokC t) zb1 0 ?_
   refine store_ zS6 0 (.agg (tokC t)) zb4 0 ?_
   intro zw15 zS16
   refine pure_ (.int .i64 24) ?_
   refine nil_ (then_n (wp_ret (then_r ?_)))
   refine ret_ rfl (res_ [.cell 6 54, .tmp 7] [.agg (tokC t), .int .i64 24] (.tuple #[.agg (tokC t), .int .i64 24]) ⟨res_cellN zS16 0 8 zb4 0, res_tmp, trivial⟩) ?_
   have ze : Sd.releaseTok t L f = (t, 24, L) := by first | rfl | (simp [Sd.releaseTok, zh11, zh13, zh12]; done) | (simp_all [Sd.releaseTok, zh11, zh13, zh12]; done) | (simp [Sd.releaseTok, zh11, zh13, zh12]; omega) | (simp_all [Sd.releaseTok, zh11, zh13, zh12]; omega)
   exact ⟨bl, by rw [ze] <;> rfl, by rw [ze]; exact hQ, (zS16.pickT (A := []) (T := (bl ++ bs)) [] 2 (by kernel_rfl) rfl (by decide) rfl : St ms w0 ([] ++ (bl ++ bs)) _)⟩
 intro zh17
 have zh18 := leF' zh17
 refine wp_skip (then_n (seq_ (reg_ ?_)))
 refine loadN_ zS6 1 8 (tokC t) zb1 0 ?_
 refine move_ ?_
 refine call_ 32 #[.agg (tokC t), .pointer (some ⟨bq, 0, none⟩)] ?_
 refine (toFirst_ bq most L bl t hQ (by omega) _ (St.sink (A := []) (X := [⟨zb4, true, .cells #[.int .i64 0, .int .i64 0, .int .i64 0, .int .i64 0, .int .i64 0, .int .i64 0, .int .i64 0, .bool false] 54 (0, 0)⟩, ⟨zb1, true, .cells (tokC t) 54 (0, 0)⟩]) (F := bl) (R := bs) zS6)).mono ?_; rintro _ zw19 ⟨zq22, rfl, zh23, zS21⟩
 have zS20 := St.float (A := []) (X := [⟨zb4, true, .cells #[.int .i64 0, .int .i64 0, .int .i64 0, .int .i64 0, .int .i64 0, .int .i64 0, .int .i64 0, .bool false] 54 (0, 0)⟩, ⟨zb1, true, .cells (tokC t) 54 (0, 0)⟩]) (F := zq22) (R := bs) zS21
 generalize ze25 : Sd.toFirst t L = zr24 at *
 refine pure_ (.agg (tokC zr24.1)) ?_
 refine pure_ (.int .i64 zr24.2.1) ?_
 refine store_ zS20 0 (.agg (tokC zr24.1)) zb4 0 ?_
 intro zw26 zS27
 refine pure_ (.int .i64 zr24.2.1) ?_
 refine nil_ (then_n (wp_ret ?_))
 refine ret_ rfl (res_ [.cell 6 54, .tmp 7] [.agg (tokC zr24.1), .int .i64 zr24.2.1] (.tuple #[.agg (tokC zr24.1), .int .i64 zr24.2.1]) ⟨res_cellN zS27 0 8 zb4 0, res_tmp, trivial⟩) ?_
 have ze : Sd.releaseTok t L f = (zr24.1, zr24.2.1, zr24.2.2) := by first | rfl | (simp [Sd.releaseTok, zh11, zh17, zh12, ze25]; done) | (simp_all [Sd.releaseTok, zh11, zh17, zh12, ze25]; done) | (simp [Sd.releaseTok, zh11, zh17, zh12, ze25]; omega) | (simp_all [Sd.releaseTok, zh11, zh17, zh12, ze25]; omega)
 exact ⟨zq22, by rw [ze] <;> rfl, by rw [ze]; exact zh23, (zS27.pickT (A := []) (T := (zq22 ++ bs)) [] 2 (by kernel_rfl) rfl (by decide) rfl : St ms w0 ([] ++ (zq22 ++ bs)) _)⟩

set_option maxRecDepth 100000 in
set_option maxHeartbeats 4000000 in
theorem refuse_ (bt : Nat) (t : Sd.Tok) (code : Int) (w : World) (hb : w.heap[bt]? = some (.cells (tokC t) 54 (0, 0))) :
    Gives Try.prog 34 #[.int .i64 code, .pointer (some ⟨bt, 0, none⟩)] w fun v w1 => v = .tuple #[.agg (tokC t), .int .i64 0, .int .i64 code] ∧ Ch [] w w1 := by
 have S0 := St.given (w := w) [(bt, .cells (tokC t) 54 (0, 0))] (all_cons hb (all_nil))
 refine enter_ Try.func34 rfl ?_
 refine seq_ (reg_ ?_)
 refine new_ S0 (fun b => .pointer (some ⟨b, 0, none⟩)) (.cells #[.int .i64 0, .int .i64 0, .int .i64 0, .int .i64 0, .int .i64 0, .int .i64 0, .int .i64 0, .bool false] 54) ?_
 intro zb1 zw2 zS3
 refine pure_ (.int .i64 0) ?_
 refine pure_ (.int .i64 0) ?_
 refine nil_ (then_n (seq_ (reg_ ?_)))
 refine loadN_ zS3 1 8 (tokC t) bt 0 ?_
 refine pure_ (.int .i64 code) ?_
 refine store_ zS3 0 (.agg (tokC t)) zb1 0 ?_
 intro zw4 zS5
 refine pure_ (.int .i64 0) ?_
 refine pure_ (.int .i64 code) ?_
 refine nil_ (then_n (wp_ret ?_))
 refine ret_ rfl (res_ [.cell 3 54, .tmp 4, .tmp 5] [.agg (tokC t), .int .i64 0, .int .i64 code] (.tuple #[.agg (tokC t), .int .i64 0, .int .i64 code]) ⟨res_cellN zS5 0 8 zb1 0, res_tmp, res_tmp, trivial⟩) ?_
 exact ⟨rfl, zS5.ch⟩

set_option maxRecDepth 100000 in
set_option maxHeartbeats 4000000 in
theorem ask_ (bq : Nat) (most : Int) (L : List Sd.Ask) (bl : List Blk) (p : Sd.Pol) (ka : Nat → Option Addr) (kn kc : Nat → Nat) (t : Sd.Tok) (f : Int) (nw : Bool) (hQ : QS bq most L bl) (he : -9223372036854775808 ≤ t.epoch ∧ t.epoch ≤ 9223372036854775807) (hm : most ≤ 3) (hr : ∀ e ∈ L, e.source = f ∨ ¬ e.rank = Sd.placeOf p f) (hq45 : 1 ≤ p.i 45 ∧ p.i 45 ≤ 1000) (w : World) {ms : List Nat} {w0 : World} {bs : List Blk} (S0 : St ms w0 (bl ++ bs) w) :
    Gives Try.prog 23 #[.agg (polP p ka kn kc), .agg (tokC t), .pointer (some ⟨bq, 0, none⟩), .int .i64 f, .bool nw] w fun v w1 => ∃ bl1, v = .tuple #[.agg (tokC ((Sd.askTok p t most L f nw).1)), .int .i64 ((Sd.askTok p t most L f nw).2.1), .int .i64 ((Sd.askTok p t most L f nw).2.2.1)] ∧ QS bq most (Sd.askTok p t most L f nw).2.2.2 bl1 ∧ St ms w0 (bl1 ++ bs) w1 := by
 refine enter_ Try.func23 rfl ?_
 refine seq_ (reg_ ?_)
 refine new_ S0 (fun b => .pointer (some ⟨b, 0, none⟩)) (.cells (polP p ka kn kc) 48) ?_
 intro zb1 zw2 zS3
 refine new_ zS3 (fun b => .pointer (some ⟨b, 0, none⟩)) (.cells (tokC t) 54) ?_
 intro zb4 zw5 zS6
 refine new_ zS6 (fun b => .pointer (some ⟨b, 0, none⟩)) (.cells #[.int .i64 0, .int .i64 0, .int .i64 0, .int .i64 0, .int .i64 0, .int .i64 0, .int .i64 0, .bool false] 54) ?_
 intro zb7 zw8 zS9
 refine pure_ (.int .i64 0) ?_
 refine pure_ (.int .i64 0) ?_
 refine nil_ (then_n (seq_ (reg_ ?_)))
 refine pure_ (.func (.func 34) #[] #[.pointer (some ⟨zb4, 0, none⟩)]) ?_
 refine assign_ ?_
 refine nil_ (then_n (seq_ (wp_block (seq_ (reg_ ?_)))))
 refine pure_ (.pointer (some ⟨zb4, 7, none⟩)) ?_
 refine load1_ zS9 1 (.bool t.bad) zb4 7 ?_
 refine pure_ (.bool t.bad) ?_
 refine nil_ (then_n ?_)
 refine cond_S t.bad ?_ ?_
 · intro zh10
   refine seq_ (reg_ ?_)
   refine move_ ?_
   refine call_ 34 #[.int .i64 29, .pointer (some ⟨zb4, 0, none⟩)] ?_
   refine enter_ Try.func34 rfl ?_
   refine seq_ (reg_ ?_)
   refine new_ zS9 (fun b => .pointer (some ⟨b, 0, none⟩)) (.cells #[.int .i64 0, .int .i64 0, .int .i64 0, .int .i64 0, .int .i64 0, .int .i64 0, .int .i64 0, .bool false] 54) ?_
   intro zb11 zw12 zS13
   refine pure_ (.int .i64 0) ?_
   refine pure_ (.int .i64 0) ?_
   refine nil_ (then_n (seq_ (reg_ ?_)))
   refine loadN_ zS13 2 8 (tokC t) zb4 0 ?_
   refine pure_ (.int .i64 29) ?_
   refine store_ zS13 0 (.agg (tokC t)) zb11 0 ?_
   intro zw14 zS15
   refine pure_ (.int .i64 0) ?_
   refine pure_ (.int .i64 29) ?_
   refine nil_ (then_n (wp_ret ?_))
   refine ret_ rfl (res_ [.cell 3 54, .tmp 4, .tmp 5] [.agg (tokC t), .int .i64 0, .int .i64 29] (.tuple #[.agg (tokC t), .int .i64 0, .int .i64 29]) ⟨res_cellN zS15 0 8 zb11 0, res_tmp, res_tmp, trivial⟩) ?_
   refine pure_ (.agg (tokC t)) ?_
   refine pure_ (.int .i64 0) ?_
   refine pure_ (.int .i64 29) ?_
   refine store_ zS15 1 (.agg (tokC t)) zb7 0 ?_
   intro zw16 zS17
   refine pure_ (.int .i64 0) ?_
   refine pure_ (.int .i64 29) ?_
   refine nil_ (then_n (wp_ret (blk_r (then_r ?_))))
   refine ret_ rfl (res_ [.cell 10 54, .tmp 11, .tmp 12] [.agg (tokC t), .int .i64 0, .int .i64 29] (.tuple #[.agg (tokC t), .int .i64 0, .int .i64 29]) ⟨res_cellN zS17 1 8 zb7 0, res_tmp, res_tmp, trivial⟩) ?_
   have ze : Sd.askTok p t most L f nw = (t, 0, 29, L) := by first | rfl | (simp [Sd.askTok, Sd.Pol.ask, Sd.rank, zh10]; done) | (simp_all [Sd.askTok, Sd.Pol.ask, Sd.rank, zh10]; done) | (simp [Sd.askTok, Sd.Pol.ask, Sd.rank, zh10]; omega) | (simp_all [Sd.askTok, Sd.Pol.ask, Sd.rank, zh10]; omega)
   exact ⟨bl, by rw [ze] <;> rfl, by rw [ze]; exact hQ, (zS17.pickT (A := []) (T := (bl ++ bs)) [] 4 (by kernel_rfl) rfl (by decide) rfl : St ms w0 ([] ++ (bl ++ bs)) _)⟩
 intro zh18
 refine seq_ (reg_ ?_)
 refine pure_ (.int .i64 f) ?_
 refine pure_ (.pointer (some ⟨zb4, 0, none⟩)) ?_
 refine load1_ zS9 1 (.int .i64 t.holder) zb4 0 ?_
 refine pure_ (.bool (f == t.holder)) ?_
 refine pure_ (.bool (f == t.holder)) ?_
 refine nil_ (then_n ?_)
 refine cond_S (f == t.holder) ?_ ?_
 · intro zh19
   have zh20 := eqT' zh19
   refine seq_ (reg_ ?_)
   refine move_ ?_
   refine call_ 34 #[.int .i64 25, .pointer (some ⟨zb4, 0, none⟩)] ?_
   refine enter_ Try.func34 rfl ?_
   refine seq_ (reg_ ?_)
   refine new_ zS9 (fun b => .pointer (some ⟨b, 0, none⟩)) (.cells #[.int .i64 0, .int .i64 0, .int .i64 0, .int .i64 0, .int .i64 0, .int .i64 0, .int .i64 0, .bool false] 54) ?_
   intro zb21 zw22 zS23
   refine pure_ (.int .i64 0) ?_
   refine pure_ (.int .i64 0) ?_
   refine nil_ (then_n (seq_ (reg_ ?_)))
   refine loadN_ zS23 2 8 (tokC t) zb4 0 ?_
   refine pure_ (.int .i64 25) ?_
   refine store_ zS23 0 (.agg (tokC t)) zb21 0 ?_
   intro zw24 zS25
   refine pure_ (.int .i64 0) ?_
   refine pure_ (.int .i64 25) ?_
   refine nil_ (then_n (wp_ret ?_))
   refine ret_ rfl (res_ [.cell 3 54, .tmp 4, .tmp 5] [.agg (tokC t), .int .i64 0, .int .i64 25] (.tuple #[.agg (tokC t), .int .i64 0, .int .i64 25]) ⟨res_cellN zS25 0 8 zb21 0, res_tmp, res_tmp, trivial⟩) ?_
   refine pure_ (.agg (tokC t)) ?_
   refine pure_ (.int .i64 0) ?_
   refine pure_ (.int .i64 25) ?_
   refine store_ zS25 1 (.agg (tokC t)) zb7 0 ?_
   intro zw26 zS27
   refine pure_ (.int .i64 0) ?_
   refine pure_ (.int .i64 25) ?_
   refine nil_ (then_n (wp_ret (blk_r (then_r ?_))))
   refine ret_ rfl (res_ [.cell 10 54, .tmp 11, .tmp 12] [.agg (tokC t), .int .i64 0, .int .i64 25] (.tuple #[.agg (tokC t), .int .i64 0, .int .i64 25]) ⟨res_cellN zS27 1 8 zb7 0, res_tmp, res_tmp, trivial⟩) ?_
   have ze : Sd.askTok p t most L f nw = (t, 0, 25, L) := by first | rfl | (simp [Sd.askTok, Sd.Pol.ask, Sd.rank, zh18, zh19, zh20]; done) | (simp_all [Sd.askTok, Sd.Pol.ask, Sd.rank, zh18, zh19, zh20]; done) | (simp [Sd.askTok, Sd.Pol.ask, Sd.rank, zh18, zh19, zh20]; omega) | (simp_all [Sd.askTok, Sd.Pol.ask, Sd.rank, zh18, zh19, zh20]; omega)
   exact ⟨bl, by rw [ze] <;> rfl, by rw [ze]; exact hQ, (zS27.pickT (A := []) (T := (bl ++ bs)) [] 4 (by kernel_rfl) rfl (by decide) rfl : St ms w0 ([] ++ (bl ++ bs)) _)⟩
 intro zh28
 have zh29 := eqF' zh28
 refine seq_ (reg_ ?_)
 refine pure_ (.pointer (some ⟨zb4, 1, none⟩)) ?_
 refine load1_ zS9 1 (.int .i64 t.epoch) zb4 1 ?_
 refine pure_ (.bool (decide (65535 ≤ t.epoch))) ?_
 refine assign_ ?_
 refine nil_ (then_n ?_)
 refine cond_S (decide (65535 ≤ t.epoch)) ?_ ?_
 · intro zh30
   have zh31 := leT' zh30
   refine seq_ (reg_ ?_)
   refine move_ ?_
   refine call_ 34 #[.int .i64 24, .pointer (some ⟨zb4, 0, none⟩)] ?_
   refine enter_ Try.func34 rfl ?_
   refine seq_ (reg_ ?_)
   refine new_ zS9 (fun b => .pointer (some ⟨b, 0, none⟩)) (.cells #[.int .i64 0, .int .i64 0, .int .i64 0, .int .i64 0, .int .i64 0, .int .i64 0, .int .i64 0, .bool false] 54) ?_
   intro zb32 zw33 zS34
   refine pure_ (.int .i64 0) ?_
   refine pure_ (.int .i64 0) ?_
   refine nil_ (then_n (seq_ (reg_ ?_)))
   refine loadN_ zS34 2 8 (tokC t) zb4 0 ?_
   refine pure_ (.int .i64 24) ?_
   refine store_ zS34 0 (.agg (tokC t)) zb32 0 ?_
   intro zw35 zS36
   refine pure_ (.int .i64 0) ?_
   refine pure_ (.int .i64 24) ?_
   refine nil_ (then_n (wp_ret ?_))
   refine ret_ rfl (res_ [.cell 3 54, .tmp 4, .tmp 5] [.agg (tokC t), .int .i64 0, .int .i64 24] (.tuple #[.agg (tokC t), .int .i64 0, .int .i64 24]) ⟨res_cellN zS36 0 8 zb32 0, res_tmp, res_tmp, trivial⟩) ?_
   refine pure_ (.agg (tokC t)) ?_
   refine pure_ (.int .i64 0) ?_
   refine pure_ (.int .i64 24) ?_
   refine store_ zS36 1 (.agg (tokC t)) zb7 0 ?_
   intro zw37 zS38
   refine pure_ (.int .i64 0) ?_
   refine pure_ (.int .i64 24) ?_
   refine nil_ (then_n (wp_ret (blk_r (then_r ?_))))
   refine ret_ rfl (res_ [.cell 10 54, .tmp 11, .tmp 12] [.agg (tokC t), .int .i64 0, .int .i64 24] (.tuple #[.agg (tokC t), .int .i64 0, .int .i64 24]) ⟨res_cellN zS38 1 8 zb7 0, res_tmp, res_tmp, trivial⟩) ?_
   have ze : Sd.askTok p t most L f nw = (t, 0, 24, L) := by first | rfl | (simp [Sd.askTok, Sd.Pol.ask, Sd.rank, zh18, zh28, zh30, zh29]; done) | (simp_all [Sd.askTok, Sd.Pol.ask, Sd.rank, zh18, zh28, zh30, zh29]; done) | (simp [Sd.askTok, Sd.Pol.ask, Sd.rank, zh18, zh28, zh30, zh29]; omega) | (simp_all [Sd.askTok, Sd.Pol.ask, Sd.rank, zh18, zh28, zh30, zh29]; omega)
   exact ⟨bl, by rw [ze] <;> rfl, by rw [ze]; exact hQ, (zS38.pickT (A := []) (T := (bl ++ bs)) [] 4 (by kernel_rfl) rfl (by decide) rfl : St ms w0 ([] ++ (bl ++ bs)) _)⟩
 intro zh39
 have zh40 := leF' zh39
 refine seq_ (reg_ ?_)
 refine pure_ (.pointer (some ⟨zb4, 0, none⟩)) ?_
 refine load1_ zS9 1 (.int .i64 t.holder) zb4 0 ?_
 refine pure_ (.bool (t.holder == 4)) ?_
 refine pure_ (.bool (t.holder == 4)) ?_
 refine slot_ 48 (t.holder == 4) ?_ ?_
 · intro zh41
   have zh42 := eqT' zh41
   refine skip_ ?_
   refine skip_ ?_
   refine skip_ ?_
   refine skip_ ?_
   refine skip_ ?_
   refine skip_ ?_
   refine skip_ ?_
   refine skip_ ?_
   refine pure_ (.bool true) ?_
   refine pure_ (.bool true) ?_
   refine nil_ (then_n (cond_T ?_))
   refine seq_ (reg_ ?_)
   refine loadN_ zS9 1 8 (tokC t) zb4 0 ?_
   refine pure_ (.int .i64 f) ?_
   refine call_ 36 #[.agg (tokC t), .int .i64 f] ?_
   refine (grant_ t f (by omega) _).mono ?_; intro v zw43 ⟨hv, zh44⟩; generalize ze47 : Sd.Tok.grant t f = zr46 at hv; subst hv
   have zS45 := zS9.quiet zh44
   refine move_ ?_
   refine pure_ (.agg (tokC zr46.1)) ?_
   refine pure_ (.int .i64 zr46.2) ?_
   refine new_ zS45 (fun b => .pointer (some ⟨b, 0, none⟩)) (.cells #[.int .i64 0, .int .i64 0, .int .i64 0, .int .i64 0, .int .i64 0, .int .i64 0, .int .i64 0, .bool false] 54) ?_
   intro zb48 zw49 zS50
   refine store_ zS50 0 (.agg (tokC zr46.1)) zb48 0 ?_
   intro zw51 zS52
   refine pure_ (.int .i64 zr46.2) ?_
   refine nil_ (then_n (seq_ (seq_ (reg_ ?_))))
   refine pure_ (.int .i64 zr46.2) ?_
   refine pure_ (.bool (zr46.2 != 0)) ?_
   refine nil_ (then_n ?_)
   refine cond_S (zr46.2 != 0) ?_ ?_
   · intro zh53
     have zh54 := neT' zh53
     refine seq_ (reg_ ?_)
     refine move_ ?_
     refine pure_ (.int .i64 zr46.2) ?_
     refine call_ 34 #[.int .i64 zr46.2, .pointer (some ⟨zb4, 0, none⟩)] ?_
     refine enter_ Try.func34 rfl ?_
     refine seq_ (reg_ ?_)
     refine new_ zS52 (fun b => .pointer (some ⟨b, 0, none⟩)) (.cells #[.int .i64 0, .int .i64 0, .int .i64 0, .int .i64 0, .int .i64 0, .int .i64 0, .int .i64 0, .bool false] 54) ?_
     intro zb55 zw56 zS57
     refine pure_ (.int .i64 0) ?_
     refine pure_ (.int .i64 0) ?_
     refine nil_ (then_n (seq_ (reg_ ?_)))
     refine loadN_ zS57 3 8 (tokC t) zb4 0 ?_
     refine pure_ (.int .i64 zr46.2) ?_
     refine store_ zS57 0 (.agg (tokC t)) zb55 0 ?_
     intro zw58 zS59
     refine pure_ (.int .i64 0) ?_
     refine pure_ (.int .i64 zr46.2) ?_
     refine nil_ (then_n (wp_ret ?_))
     refine ret_ rfl (res_ [.cell 3 54, .tmp 4, .tmp 5] [.agg (tokC t), .int .i64 0, .int .i64 zr46.2] (.tuple #[.agg (tokC t), .int .i64 0, .int .i64 zr46.2]) ⟨res_cellN zS59 0 8 zb55 0, res_tmp, res_tmp, trivial⟩) ?_
     refine pure_ (.agg (tokC t)) ?_
     refine pure_ (.int .i64 0) ?_
     refine pure_ (.int .i64 zr46.2) ?_
     refine store_ zS59 2 (.agg (tokC t)) zb7 0 ?_
     intro zw60 zS61
     refine pure_ (.int .i64 0) ?_
     refine pure_ (.int .i64 zr46.2) ?_
     refine nil_ (then_n (wp_ret (then_r (blk_r (then_r ?_)))))
     refine ret_ rfl (res_ [.cell 10 54, .tmp 11, .tmp 12] [.agg (tokC t), .int .i64 0, .int .i64 zr46.2] (.tuple #[.agg (tokC t), .int .i64 0, .int .i64 zr46.2]) ⟨res_cellN zS61 2 8 zb7 0, res_tmp, res_tmp, trivial⟩) ?_
     have ze : Sd.askTok p t most L f nw = (t, 0, zr46.2, L) := by first | rfl | (simp [Sd.askTok, Sd.Pol.ask, Sd.rank, zh18, zh28, zh39, zh41, zh53, zh29, zh42, zh54, ze47]; done) | (simp_all [Sd.askTok, Sd.Pol.ask, Sd.rank, zh18, zh28, zh39, zh41, zh53, zh29, zh42, zh54, ze47]; done) | (simp [Sd.askTok, Sd.Pol.ask, Sd.rank, zh18, zh28, zh39, zh41, zh53, zh29, zh42, zh54, ze47]; omega) | (simp_all [Sd.askTok, Sd.Pol.ask, Sd.rank, zh18, zh28, zh39, zh41, zh53, zh29, zh42, zh54, ze47]; omega)
     exact ⟨bl, by rw [ze] <;> rfl, by rw [ze]; exact hQ, (zS61.pickT (A := []) (T := (bl ++ bs)) [] 5 (by kernel_rfl) rfl (by decide) rfl : St ms w0 ([] ++ (bl ++ bs)) _)⟩
   intro zh62
   have zh63 := neF' zh62
   refine wp_skip (then_n (seq_ (reg_ ?_)))
   refine move_ ?_
   refine pure_ (.int .i64 f) ?_
   refine call_ 17 #[.pointer (some ⟨bq, 0, none⟩), .int .i64 f] ?_
   refine (q_drop f hQ (St.sink (A := []) (X := [⟨zb48, true, .cells (tokC zr46.1) 54 (0, 0)⟩, ⟨zb7, true, .cells #[.int .i64 0, .int .i64 0, .int .i64 0, .int .i64 0, .int .i64 0, .int .i64 0, .int .i64 0, .bool false] 54 (0, 0)⟩, ⟨zb4, true, .cells (tokC t) 54 (0, 0)⟩, ⟨zb1, true, .cells (polP p ka kn kc) 48 (0, 0)⟩]) (F := bl) (R := bs) zS52)).mono ?_; rintro _ zw64 ⟨zq67, rfl, zh68, zS66⟩
   have zS65 := St.float (A := []) (X := [⟨zb48, true, .cells (tokC zr46.1) 54 (0, 0)⟩, ⟨zb7, true, .cells #[.int .i64 0, .int .i64 0, .int .i64 0, .int .i64 0, .int .i64 0, .int .i64 0, .int .i64 0, .bool false] 54 (0, 0)⟩, ⟨zb4, true, .cells (tokC t) 54 (0, 0)⟩, ⟨zb1, true, .cells (polP p ka kn kc) 48 (0, 0)⟩]) (F := zq67) (R := bs) zS66
   refine nil_ (then_n (seq_ (reg_ ?_)))
   refine loadN_ zS65 0 8 (tokC zr46.1) zb48 0 ?_
   refine store_ zS65 1 (.agg (tokC zr46.1)) zb7 0 ?_
   intro zw69 zS70
   refine pure_ (.int .i64 3) ?_
   refine pure_ (.int .i64 0) ?_
   refine nil_ (then_n (wp_ret (blk_r (then_r ?_))))
   refine ret_ rfl (res_ [.cell 10 54, .tmp 11, .tmp 12] [.agg (tokC zr46.1), .int .i64 3, .int .i64 0] (.tuple #[.agg (tokC zr46.1), .int .i64 3, .int .i64 0]) ⟨res_cellN zS70 1 8 zb7 0, res_tmp, res_tmp, trivial⟩) ?_
   have ze : Sd.askTok p t most L f nw = (zr46.1, 3, 0, Sd.Q.drop L f) := by first | rfl | (simp [Sd.askTok, Sd.Pol.ask, Sd.rank, zh18, zh28, zh39, zh41, zh62, zh29, zh42, zh63, ze47]; done) | (simp_all [Sd.askTok, Sd.Pol.ask, Sd.rank, zh18, zh28, zh39, zh41, zh62, zh29, zh42, zh63, ze47]; done) | (simp [Sd.askTok, Sd.Pol.ask, Sd.rank, zh18, zh28, zh39, zh41, zh62, zh29, zh42, zh63, ze47]; omega) | (simp_all [Sd.askTok, Sd.Pol.ask, Sd.rank, zh18, zh28, zh39, zh41, zh62, zh29, zh42, zh63, ze47]; omega)
   exact ⟨zq67, by rw [ze] <;> rfl, by rw [ze]; exact zh68, (zS70.pickT (A := []) (T := (zq67 ++ bs)) [] 4 (by kernel_rfl) rfl (by decide) rfl : St ms w0 ([] ++ (zq67 ++ bs)) _)⟩
 intro zh71
 have zh72 := eqF' zh71
 refine pure_ (.bool nw) ?_
 refine pure_ (.bool nw) ?_
 refine slot_ 50 nw ?_ ?_
 · intro zh73
   refine loadN_ zS9 2 56 (polP p ka kn kc) zb1 0 ?_
   refine pure_ (.int .i64 f) ?_
   refine pure_ (.pointer (some ⟨zb4, 0, none⟩)) ?_
   refine load1_ zS9 1 (.int .i64 t.holder) zb4 0 ?_
   refine call_ 35 #[.agg (polP p ka kn kc), .int .i64 f, .int .i64 t.holder] ?_
   refine (higher_ p ka kn kc f t.holder _ ).mono ?_; rintro _ zw74 ⟨rfl, zh75⟩
   have zS76 := zS9.quiet zh75
   refine pure_ (.bool (Sd.higher p f t.holder)) ?_
   refine pure_ (.bool (Sd.higher p f t.holder)) ?_
   refine assign_ ?_
   refine nil_ (then_n ?_)
   refine cond_S (Sd.higher p f t.holder) ?_ ?_
   · intro zh77
     refine seq_ (reg_ ?_)
     refine loadN_ zS76 1 8 (tokC t) zb4 0 ?_
     refine pure_ (.int .i64 f) ?_
     refine call_ 36 #[.agg (tokC t), .int .i64 f] ?_
     refine (grant_ t f (by omega) _).mono ?_; intro v zw78 ⟨hv, zh79⟩; generalize ze82 : Sd.Tok.grant t f = zr81 at hv; subst hv
     have zS80 := zS76.quiet zh79
     refine move_ ?_
     refine pure_ (.agg (tokC zr81.1)) ?_
     refine pure_ (.int .i64 zr81.2) ?_
     refine new_ zS80 (fun b => .pointer (some ⟨b, 0, none⟩)) (.cells #[.int .i64 0, .int .i64 0, .int .i64 0, .int .i64 0, .int .i64 0, .int .i64 0, .int .i64 0, .bool false] 54) ?_
     intro zb83 zw84 zS85
     refine store_ zS85 0 (.agg (tokC zr81.1)) zb83 0 ?_
     intro zw86 zS87
     refine pure_ (.int .i64 zr81.2) ?_
     refine nil_ (then_n (seq_ (seq_ (reg_ ?_))))
     refine pure_ (.int .i64 zr81.2) ?_
     refine pure_ (.bool (zr81.2 != 0)) ?_
     refine nil_ (then_n ?_)
     refine cond_S (zr81.2 != 0) ?_ ?_
     · intro zh88
       have zh89 := neT' zh88
       refine seq_ (reg_ ?_)
       refine move_ ?_
       refine pure_ (.int .i64 zr81.2) ?_
       refine call_ 34 #[.int .i64 zr81.2, .pointer (some ⟨zb4, 0, none⟩)] ?_
       refine enter_ Try.func34 rfl ?_
       refine seq_ (reg_ ?_)
       refine new_ zS87 (fun b => .pointer (some ⟨b, 0, none⟩)) (.cells #[.int .i64 0, .int .i64 0, .int .i64 0, .int .i64 0, .int .i64 0, .int .i64 0, .int .i64 0, .bool false] 54) ?_
       intro zb90 zw91 zS92
       refine pure_ (.int .i64 0) ?_
       refine pure_ (.int .i64 0) ?_
       refine nil_ (then_n (seq_ (reg_ ?_)))
       refine loadN_ zS92 3 8 (tokC t) zb4 0 ?_
       refine pure_ (.int .i64 zr81.2) ?_
       refine store_ zS92 0 (.agg (tokC t)) zb90 0 ?_
       intro zw93 zS94
       refine pure_ (.int .i64 0) ?_
       refine pure_ (.int .i64 zr81.2) ?_
       refine nil_ (then_n (wp_ret ?_))
       refine ret_ rfl (res_ [.cell 3 54, .tmp 4, .tmp 5] [.agg (tokC t), .int .i64 0, .int .i64 zr81.2] (.tuple #[.agg (tokC t), .int .i64 0, .int .i64 zr81.2]) ⟨res_cellN zS94 0 8 zb90 0, res_tmp, res_tmp, trivial⟩) ?_
       refine pure_ (.agg (tokC t)) ?_
       refine pure_ (.int .i64 0) ?_
       refine pure_ (.int .i64 zr81.2) ?_
       refine store_ zS94 2 (.agg (tokC t)) zb7 0 ?_
       intro zw95 zS96
       refine pure_ (.int .i64 0) ?_
       refine pure_ (.int .i64 zr81.2) ?_
       refine nil_ (then_n (wp_ret (then_r (blk_r (then_r ?_)))))
       refine ret_ rfl (res_ [.cell 10 54, .tmp 11, .tmp 12] [.agg (tokC t), .int .i64 0, .int .i64 zr81.2] (.tuple #[.agg (tokC t), .int .i64 0, .int .i64 zr81.2]) ⟨res_cellN zS96 2 8 zb7 0, res_tmp, res_tmp, trivial⟩) ?_
       have ze : Sd.askTok p t most L f nw = (t, 0, zr81.2, L) := by first | rfl | (simp [Sd.askTok, Sd.Pol.ask, Sd.rank, zh18, zh28, zh39, zh71, zh73, zh77, zh88, zh29, zh72, zh89, ze82]; done) | (simp_all [Sd.askTok, Sd.Pol.ask, Sd.rank, zh18, zh28, zh39, zh71, zh73, zh77, zh88, zh29, zh72, zh89, ze82]; done) | (simp [Sd.askTok, Sd.Pol.ask, Sd.rank, zh18, zh28, zh39, zh71, zh73, zh77, zh88, zh29, zh72, zh89, ze82]; omega) | (simp_all [Sd.askTok, Sd.Pol.ask, Sd.rank, zh18, zh28, zh39, zh71, zh73, zh77, zh88, zh29, zh72, zh89, ze82]; omega)
       exact ⟨bl, by rw [ze] <;> rfl, by rw [ze]; exact hQ, (zS96.pickT (A := []) (T := (bl ++ bs)) [] 5 (by kernel_rfl) rfl (by decide) rfl : St ms w0 ([] ++ (bl ++ bs)) _)⟩
     intro zh97
     have zh98 := neF' zh97
     refine wp_skip (then_n (seq_ (reg_ ?_)))
     refine move_ ?_
     refine pure_ (.int .i64 f) ?_
     refine call_ 17 #[.pointer (some ⟨bq, 0, none⟩), .int .i64 f] ?_
     refine (q_drop f hQ (St.sink (A := []) (X := [⟨zb83, true, .cells (tokC zr81.1) 54 (0, 0)⟩, ⟨zb7, true, .cells #[.int .i64 0, .int .i64 0, .int .i64 0, .int .i64 0, .int .i64 0, .int .i64 0, .int .i64 0, .bool false] 54 (0, 0)⟩, ⟨zb4, true, .cells (tokC t) 54 (0, 0)⟩, ⟨zb1, true, .cells (polP p ka kn kc) 48 (0, 0)⟩]) (F := bl) (R := bs) zS87)).mono ?_; rintro _ zw99 ⟨zq102, rfl, zh103, zS101⟩
     have zS100 := St.float (A := []) (X := [⟨zb83, true, .cells (tokC zr81.1) 54 (0, 0)⟩, ⟨zb7, true, .cells #[.int .i64 0, .int .i64 0, .int .i64 0, .int .i64 0, .int .i64 0, .int .i64 0, .int .i64 0, .bool false] 54 (0, 0)⟩, ⟨zb4, true, .cells (tokC t) 54 (0, 0)⟩, ⟨zb1, true, .cells (polP p ka kn kc) 48 (0, 0)⟩]) (F := zq102) (R := bs) zS101
     refine nil_ (then_n (seq_ (reg_ ?_)))
     refine loadN_ zS100 0 8 (tokC zr81.1) zb83 0 ?_
     refine store_ zS100 1 (.agg (tokC zr81.1)) zb7 0 ?_
     intro zw104 zS105
     refine pure_ (.int .i64 3) ?_
     refine pure_ (.int .i64 0) ?_
     refine nil_ (then_n (wp_ret (blk_r (then_r ?_))))
     refine ret_ rfl (res_ [.cell 10 54, .tmp 11, .tmp 12] [.agg (tokC zr81.1), .int .i64 3, .int .i64 0] (.tuple #[.agg (tokC zr81.1), .int .i64 3, .int .i64 0]) ⟨res_cellN zS105 1 8 zb7 0, res_tmp, res_tmp, trivial⟩) ?_
     have ze : Sd.askTok p t most L f nw = (zr81.1, 3, 0, Sd.Q.drop L f) := by first | rfl | (simp [Sd.askTok, Sd.Pol.ask, Sd.rank, zh18, zh28, zh39, zh71, zh73, zh77, zh97, zh29, zh72, zh98, ze82]; done) | (simp_all [Sd.askTok, Sd.Pol.ask, Sd.rank, zh18, zh28, zh39, zh71, zh73, zh77, zh97, zh29, zh72, zh98, ze82]; done) | (simp [Sd.askTok, Sd.Pol.ask, Sd.rank, zh18, zh28, zh39, zh71, zh73, zh77, zh97, zh29, zh72, zh98, ze82]; omega) | (simp_all [Sd.askTok, Sd.Pol.ask, Sd.rank, zh18, zh28, zh39, zh71, zh73, zh77, zh97, zh29, zh72, zh98, ze82]; omega)
     exact ⟨zq102, by rw [ze] <;> rfl, by rw [ze]; exact zh103, (zS105.pickT (A := []) (T := (zq102 ++ bs)) [] 4 (by kernel_rfl) rfl (by decide) rfl : St ms w0 ([] ++ (zq102 ++ bs)) _)⟩
   intro zh106
   refine seq_ (reg_ ?_)
   refine pure_ (.bool nw) ?_
   refine pure_ (.bool nw) ?_
   refine nil_ (then_n ?_)
   refine cond_t nw (zh73) ?_
   refine seq_ (reg_ ?_)
   refine move_ ?_
   refine call_ 34 #[.int .i64 26, .pointer (some ⟨zb4, 0, none⟩)] ?_
   refine enter_ Try.func34 rfl ?_
   refine seq_ (reg_ ?_)
   refine new_ zS76 (fun b => .pointer (some ⟨b, 0, none⟩)) (.cells #[.int .i64 0, .int .i64 0, .int .i64 0, .int .i64 0, .int .i64 0, .int .i64 0, .int .i64 0, .bool false] 54) ?_
   intro zb107 zw108 zS109
   refine pure_ (.int .i64 0) ?_
   refine pure_ (.int .i64 0) ?_
   refine nil_ (then_n (seq_ (reg_ ?_)))
   refine loadN_ zS109 2 8 (tokC t) zb4 0 ?_
   refine pure_ (.int .i64 26) ?_
   refine store_ zS109 0 (.agg (tokC t)) zb107 0 ?_
   intro zw110 zS111
   refine pure_ (.int .i64 0) ?_
   refine pure_ (.int .i64 26) ?_
   refine nil_ (then_n (wp_ret ?_))
   refine ret_ rfl (res_ [.cell 3 54, .tmp 4, .tmp 5] [.agg (tokC t), .int .i64 0, .int .i64 26] (.tuple #[.agg (tokC t), .int .i64 0, .int .i64 26]) ⟨res_cellN zS111 0 8 zb107 0, res_tmp, res_tmp, trivial⟩) ?_
   refine pure_ (.agg (tokC t)) ?_
   refine pure_ (.int .i64 0) ?_
   refine pure_ (.int .i64 26) ?_
   refine store_ zS111 1 (.agg (tokC t)) zb7 0 ?_
   intro zw112 zS113
   refine pure_ (.int .i64 0) ?_
   refine pure_ (.int .i64 26) ?_
   refine nil_ (then_n (wp_ret (blk_r (then_r ?_))))
   refine ret_ rfl (res_ [.cell 10 54, .tmp 11, .tmp 12] [.agg (tokC t), .int .i64 0, .int .i64 26] (.tuple #[.agg (tokC t), .int .i64 0, .int .i64 26]) ⟨res_cellN zS113 1 8 zb7 0, res_tmp, res_tmp, trivial⟩) ?_
   have ze : Sd.askTok p t most L f nw = (t, 0, 26, L) := by first | rfl | (simp [Sd.askTok, Sd.Pol.ask, Sd.rank, zh18, zh28, zh39, zh71, zh73, zh106, zh29, zh72]; done) | (simp_all [Sd.askTok, Sd.Pol.ask, Sd.rank, zh18, zh28, zh39, zh71, zh73, zh106, zh29, zh72]; done) | (simp [Sd.askTok, Sd.Pol.ask, Sd.rank, zh18, zh28, zh39, zh71, zh73, zh106, zh29, zh72]; omega) | (simp_all [Sd.askTok, Sd.Pol.ask, Sd.rank, zh18, zh28, zh39, zh71, zh73, zh106, zh29, zh72]; omega)
   exact ⟨bl, by rw [ze] <;> rfl, by rw [ze]; exact hQ, (zS113.pickT (A := []) (T := (bl ++ bs)) [] 4 (by kernel_rfl) rfl (by decide) rfl : St ms w0 ([] ++ (bl ++ bs)) _)⟩
 intro zh114
 refine skip_ ?_
 refine skip_ ?_
 refine skip_ ?_
 refine skip_ ?_
 refine skip_ ?_
 refine pure_ (.bool false) ?_
 refine pure_ (.bool false) ?_
 refine pure_ (.bool false) ?_
 refine nil_ (then_n (cond_F ?_))
 refine seq_ (reg_ ?_)
 refine pure_ (.bool nw) ?_
 refine pure_ (.bool nw) ?_
 refine nil_ (then_n ?_)
 refine cond_f nw (zh114) ?_
 refine wp_skip (blk_n (then_n (seq_ ?_)))
 refine callE_ (A := [⟨zb7, true, .cells #[.int .i64 0, .int .i64 0, .int .i64 0, .int .i64 0, .int .i64 0, .int .i64 0, .int .i64 0, .bool false] 54 (0, 0)⟩, ⟨zb4, true, .cells (tokC t) 54 (0, 0)⟩, ⟨zb1, true, .cells (polP p ka kn kc) 48 (0, 0)⟩]) (bl := bl) (R := bs) zS9 (q_wr hQ) (fun zb => QS bq most (Sd.Q.push most L (⟨f, (Sd.placeOf p f), (Sd.Timer.start (p.i 45))⟩ : Sd.Ask)).1 zb) (fun zb zh => q_wr zh) (.int .i64 (Sd.Q.push most L (⟨f, (Sd.placeOf p f), (Sd.Timer.start (p.i 45))⟩ : Sd.Ask)).2) 15 10 [] [.func (.func 34) #[] #[.pointer (some ⟨zb4, 0, none⟩)], .pointer (some ⟨bq, 0, none⟩), .int .i64 f, .agg (polP p ka kn kc), .int .i64 f, .int .i64 (Sd.placeOf p f), .pointer (some ⟨zb1, 45, none⟩), .int .i64 (p.i 45), .agg (timC (Sd.Timer.start (p.i 45))), .agg #[.int .i64 f, .int .i64 (Sd.placeOf p f), .int .i64 (Sd.Timer.start (p.i 45)).n, .int .i64 (Sd.Timer.start (p.i 45)).most], .int .i64 (Sd.Q.push most L (⟨f, (Sd.placeOf p f), (Sd.Timer.start (p.i 45))⟩ : Sd.Ask)).2, .tuple #[.agg (tokC t), .int .i64 0, .int .i64 (Sd.Q.push most L (⟨f, (Sd.placeOf p f), (Sd.Timer.start (p.i 45))⟩ : Sd.Ask)).2], .agg (tokC t), .int .i64 0, .int .i64 (Sd.Q.push most L (⟨f, (Sd.placeOf p f), (Sd.Timer.start (p.i 45))⟩ : Sd.Ask)).2] [[15, 0], [15, 1], [15, 2], [15, 3], [15, 4], [15, 5], [15, 6], [15, 7], [15, 8], [15, 9], [15, 10], [15, 11], [15, 12], [15, 13], [15, 14], [16, 0], [16, 1], [16, 2], [16, 3], [16, 4], [16, 5], [16, 6], [16, 7], [16, 8], [16, 9], [16, 10], [16, 11], [16, 12], [16, 13], [16, 14], [16, 15], [17, 0], [17, 1], [17, 2], [17, 3], [17, 4], [17, 5], [17, 6], [17, 7], [17, 8], [17, 9], [17, 10], [17, 11], [17, 12], [17, 13], [17, 14], [17, 15], [17, 16]] (fun zk zD => estep_cons (gP_ zk) (estep_cons (gP_ zk) (estep_cons (gP_ zk) (estep_cons (gN_ zk zD 2 zb1 0 56 (polP p ka kn kc)) (estep_cons (gP_ zk) (estep_cons (gC_ zk 37 #[.agg (polP p ka kn kc), .int .i64 f] (fun zw zc => rank_ p ka kn kc f zw)) (estep_cons (gP_ zk) (estep_cons (gL_ zk zD 2 zb1 45) (estep_cons (gC_ zk 38 #[.int .i64 (p.i 45)] (fun zw zc => start_ (p.i 45) (by omega) zw)) (estep_cons (gP_ zk) (estep_cons (gK_ (A := [⟨zb7, true, .cells #[.int .i64 0, .int .i64 0, .int .i64 0, .int .i64 0, .int .i64 0, .int .i64 0, .int .i64 0, .bool false] 54 (0, 0)⟩, ⟨zb4, true, .cells (tokC t) 54 (0, 0)⟩, ⟨zb1, true, .cells (polP p ka kn kc) 48 (0, 0)⟩]) (bl := bl) (R := bs) zS9 11 #[.pointer (some ⟨bq, 0, none⟩), .agg #[.int .i64 f, .int .i64 (Sd.placeOf p f), .int .i64 (Sd.Timer.start (p.i 45)).n, .int .i64 (Sd.Timer.start (p.i 45)).most]] (q_pushE (⟨f, (Sd.placeOf p f), (Sd.Timer.start (p.i 45))⟩ : Sd.Ask) hQ hm hr)) (estep_cons (gC_ zk 34 #[.int .i64 (Sd.Q.push most L (⟨f, (Sd.placeOf p f), (Sd.Timer.start (p.i 45))⟩ : Sd.Ask)).2, .pointer (some ⟨zb4, 0, none⟩)] (fun zw zc => refuse_ zb4 t ((Sd.Q.push most L (⟨f, (Sd.placeOf p f), (Sd.Timer.start (p.i 45))⟩ : Sd.Ask)).2) zw ((zD zw zc).at_ 1 ⟨zb4, true, .cells (tokC t) 54 (0, 0)⟩ (by kernel_rfl)))) (estep_cons (gP_ zk) (estep_cons (gP_ zk) (estep_cons (gP_ zk) (estep_nil)))))))))))))))) ?_
 intro zq115 zw116 zh117 zS118
 refine store_ zS118 0 (.agg (tokC t)) zb7 0 ?_
 intro zw119 zS120
 refine pure_ (.int .i64 0) ?_
 refine assign_ ?_
 refine nil_ (then_n (wp_ret ?_))
 refine ret_ rfl (res_ [.cell 10 54, .tmp 11, .tmp 12] [.agg (tokC t), .int .i64 0, .int .i64 (Sd.Q.push most L (⟨f, (Sd.placeOf p f), (Sd.Timer.start (p.i 45))⟩ : Sd.Ask)).2] (.tuple #[.agg (tokC t), .int .i64 0, .int .i64 (Sd.Q.push most L (⟨f, (Sd.placeOf p f), (Sd.Timer.start (p.i 45))⟩ : Sd.Ask)).2]) ⟨res_cellN zS120 0 8 zb7 0, res_tmp, res_tmp, trivial⟩) ?_
 have ze : Sd.askTok p t most L f nw = (t, 0, (Sd.Q.push most L (⟨f, (Sd.placeOf p f), (Sd.Timer.start (p.i 45))⟩ : Sd.Ask)).2, (Sd.Q.push most L (⟨f, (Sd.placeOf p f), (Sd.Timer.start (p.i 45))⟩ : Sd.Ask)).1) := by first | rfl | (simp [Sd.askTok, Sd.Pol.ask, Sd.rank, zh18, zh28, zh39, zh71, zh114, zh29, zh72]; done) | (simp_all [Sd.askTok, Sd.Pol.ask, Sd.rank, zh18, zh28, zh39, zh71, zh114, zh29, zh72]; done) | (simp [Sd.askTok, Sd.Pol.ask, Sd.rank, zh18, zh28, zh39, zh71, zh114, zh29, zh72]; omega) | (simp_all [Sd.askTok, Sd.Pol.ask, Sd.rank, zh18, zh28, zh39, zh71, zh114, zh29, zh72]; omega)
 exact ⟨zq115, by rw [ze] <;> rfl, by rw [ze]; exact zh117, (zS120.pickT (A := []) (T := (zq115 ++ bs)) [] 3 (by kernel_rfl) rfl (by decide) rfl : St ms w0 ([] ++ (zq115 ++ bs)) _)⟩

end Go.Proofs.Ytmfhgekknjghoaa
