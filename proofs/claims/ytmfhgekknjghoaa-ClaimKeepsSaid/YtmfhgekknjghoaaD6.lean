/- ClaimKeeps: the walk. -/
import Derived.Test.YtmfhgekknjghoaaD5
namespace Go.Proofs.Ytmfhgekknjghoaa
open Go Go.RowKit Go.BigFrame Sx
set_option linter.unusedVariables false
set_option linter.unusedSimpArgs false

set_option maxRecDepth 100000 in
set_option maxHeartbeats 40000000 in
theorem claimKeeps_any (q : Nat → Int) (pa : Nat → Option Addr) (pn pc : Nat → Nat) (kb : Nat → Nat → Int) (t : Sd.Tok) (kd f : Int) (nw : Bool) (h0 : 0 ≤ kd ∧ kd ≤ 255) (he : -9223372036854775808 ≤ t.epoch ∧ t.epoch ≤ 9223372036854775807) (hf : -9223372036854775808 ≤ f ∧ f ≤ 9223372036854775807) (w : World) (hq : ∀ i, -9223372036854775808 ≤ q i ∧ q i ≤ 9223372036854775807) (hK : ∀ i, i < 4 → KeyIn [] w (pa i) (pn i) (pc i) (kb i)) :
    Gives Try.prog 8 #[.agg (polC q pa pn pc), .agg (tokC t), .agg #[.int .u8 kd, .int .i64 f, .bool nw]] w fun v w1 => v = .bool true ∧ Ch [] w w1 := by
 have S0 := St.nil [] w
 refine enter_ Try.func8 rfl ?_
 refine seq_ (reg_ ?_)
 refine new_ S0 (fun b => .pointer (some ⟨b, 0, none⟩)) (.cells (polC q pa pn pc) 48) ?_
 intro zb1 zw2 zS3
 refine new_ zS3 (fun b => .pointer (some ⟨b, 0, none⟩)) (.cells (tokC t) 54) ?_
 intro zb4 zw5 zS6
 refine new_ zS6 (fun b => .pointer (some ⟨b, 0, none⟩)) (.cells #[.int .u8 kd, .int .i64 f, .bool nw] 64) ?_
 intro zb7 zw8 zS9
 refine pure_ (.bool false) ?_
 refine nil_ (then_n (seq_ (reg_ ?_)))
 refine call_ 18 #[] ?_
 refine (shown20_ _).mono ?_; rintro _ zw10 ⟨rfl, zhc11⟩
 have zS12 := zS9.quiet zhc11
 refine pure_ (.bool true) ?_
 refine nil_ (then_n (seq_ (reg_ ?_)))
 refine loadN_ zS12 2 56 (polC q pa pn pc) zb1 0 ?_
 refine call_ 19 #[.agg (polC q pa pn pc)] ?_
 refine (fitP_ q pa pn pc kb w _ (zS12).ch hq hK).mono ?_; rintro _ zw13 ⟨p, ka, kn, kc, hp, rfl, zh14⟩
 have zS15 := zS12.quiet zh14
 refine new_ zS15 (fun b => .pointer (some ⟨b, 0, none⟩)) (.cells #[.int .i64 0, .int .i64 0, .int .i64 0, .int .i64 0, .int .i64 0, .slice none 0 0, .slice none 0 0, .slice none 0 0, .slice none 0 0, .int .i64 0, .int .i64 0, .int .i64 0, .int .i64 0, .int .i64 0, .int .i64 0, .int .i64 0, .int .i64 0, .int .i64 0, .int .i64 0, .int .i64 0, .int .i64 0, .int .i64 0, .int .i64 0, .int .i64 0, .int .i64 0, .int .i64 0, .int .i64 0, .int .i64 0, .int .i64 0, .int .i64 0, .int .i64 0, .int .i64 0, .int .i64 0, .int .i64 0, .int .i64 0, .int .i64 0, .int .i64 0, .int .i64 0, .int .i64 0, .int .i64 0, .int .i64 0, .int .i64 0, .int .i64 0, .int .i64 0, .int .i64 0, .int .i64 0, .int .i64 0, .int .i64 0, .int .i64 0, .int .i64 0, .int .i64 0, .int .i64 0, .int .i64 0, .int .i64 0, .int .i64 0, .int .i64 0] 48) ?_
 intro zb16 zw17 zS18
 refine store_ zS18 0 (.agg (polP p ka kn kc)) zb16 0 ?_
 intro zw19 zS20
 refine nil_ (then_n (seq_ (reg_ ?_)))
 refine loadN_ zS20 0 56 (polP p ka kn kc) zb16 0 ?_
 refine pure_ (.pointer (some ⟨zb7, 0, none⟩)) ?_
 refine load1_ zS20 1 (.int .u8 kd) zb7 0 ?_
 refine pure_ (.int .u8 (Int.fdiv kd (2 ^ 2))) ?_
 refine call_ 20 #[.agg (polP p ka kn kc), .int .u8 (Int.fdiv kd (2 ^ 2))] ?_
 have zS24 : St [] w ([⟨zb16, true, .cells (polP p ka kn kc) 48 (0, 0)⟩, ⟨zb7, true, .cells #[.int .u8 kd, .int .i64 f, .bool nw] 64 (0, 0)⟩, ⟨zb4, true, .cells (tokC t) 54 (0, 0)⟩, ⟨zb1, true, .cells (polC q pa pn pc) 48 (0, 0)⟩] ++ ([] : List Blk)) zw19 := zS20.re (R := ([] : List Blk)) [[⟨zb16, true, .cells (polP p ka kn kc) 48 (0, 0)⟩], [⟨zb7, true, .cells #[.int .u8 kd, .int .i64 f, .bool nw] 64 (0, 0)⟩], [⟨zb4, true, .cells (tokC t) 54 (0, 0)⟩], [⟨zb1, true, .cells (polC q pa pn pc) 48 (0, 0)⟩]] [0, 1, 2, 3]
 refine (waits_ p ka kn kc (Int.fdiv kd (2 ^ 2)) hp _ zS24).mono ?_; rintro _ zw25 ⟨zb21, zq22, rfl, zh23, zS26⟩
 have zS28 : St [] w ([⟨zb16, true, .cells (polP p ka kn kc) 48 (0, 0)⟩, ⟨zb7, true, .cells #[.int .u8 kd, .int .i64 f, .bool nw] 64 (0, 0)⟩, ⟨zb4, true, .cells (tokC t) 54 (0, 0)⟩, ⟨zb1, true, .cells (polC q pa pn pc) 48 (0, 0)⟩] ++ (zq22 ++ ([] : List Blk))) zw25 := zS26.re (R := ([] : List Blk)) [zq22, [⟨zb16, true, .cells (polP p ka kn kc) 48 (0, 0)⟩], [⟨zb7, true, .cells #[.int .u8 kd, .int .i64 f, .bool nw] 64 (0, 0)⟩], [⟨zb4, true, .cells (tokC t) 54 (0, 0)⟩], [⟨zb1, true, .cells (polC q pa pn pc) 48 (0, 0)⟩]] [1, 2, 3, 4, 0]
 refine assign_ ?_
 refine nil_ (then_n (seq_ (seq_ (reg_ ?_))))
 refine pure_ (.bool true) ?_
 refine pure_ (.bool false) ?_
 refine pure_ (.bool false) ?_
 refine move_ ?_
 refine pure_ (.bool false) ?_
 refine pure_ (.bool false) ?_
 refine nil_ (then_n (cond_F ?_))
 refine wp_skip (then_n (seq_ (reg_ ?_)))
 refine move_ ?_
 refine call_ 12 #[.pointer (some ⟨zb21, 0, none⟩)] ?_
 have zS34 : St [] w (zq22 ++ ([⟨zb16, true, .cells (polP p ka kn kc) 48 (0, 0)⟩, ⟨zb7, true, .cells #[.int .u8 kd, .int .i64 f, .bool nw] 64 (0, 0)⟩, ⟨zb4, true, .cells (tokC t) 54 (0, 0)⟩, ⟨zb1, true, .cells (polC q pa pn pc) 48 (0, 0)⟩] ++ ([] : List Blk))) zw25 := zS28.re (R := ([] : List Blk)) [[⟨zb16, true, .cells (polP p ka kn kc) 48 (0, 0)⟩], [⟨zb7, true, .cells #[.int .u8 kd, .int .i64 f, .bool nw] 64 (0, 0)⟩], [⟨zb4, true, .cells (tokC t) 54 (0, 0)⟩], [⟨zb1, true, .cells (polC q pa pn pc) 48 (0, 0)⟩], zq22] [4, 0, 1, 2, 3]
 refine (q_list zh23 zS34).mono ?_; rintro _ zw35 ⟨zx29, zc30, zq31, rfl, zh32, zS36⟩
 have zh33 : (waitsL p (Int.fdiv kd (2 ^ 2))).length ≤ 3 := q_len zh23
 have zS38 : St [] w ([⟨zb16, true, .cells (polP p ka kn kc) 48 (0, 0)⟩, ⟨zb7, true, .cells #[.int .u8 kd, .int .i64 f, .bool nw] 64 (0, 0)⟩, ⟨zb4, true, .cells (tokC t) 54 (0, 0)⟩, ⟨zb1, true, .cells (polC q pa pn pc) 48 (0, 0)⟩] ++ (zq31 ++ (zq22 ++ ([] : List Blk)))) zw35 := zS36.re (R := ([] : List Blk)) [zq31, zq22, [⟨zb16, true, .cells (polP p ka kn kc) 48 (0, 0)⟩], [⟨zb7, true, .cells #[.int .u8 kd, .int .i64 f, .bool nw] 64 (0, 0)⟩], [⟨zb4, true, .cells (tokC t) 54 (0, 0)⟩], [⟨zb1, true, .cells (polC q pa pn pc) 48 (0, 0)⟩]] [2, 3, 4, 5, 0, 1]
 refine assign_ ?_
 refine nil_ (then_n (seq_ (reg_ ?_)))
 refine loadN_ zS38 0 56 (polP p ka kn kc) zb16 0 ?_
 refine loadN_ zS38 2 8 (tokC t) zb4 0 ?_
 refine move_ ?_
 refine pure_ (.pointer (some ⟨zb7, 1, none⟩)) ?_
 refine load1_ zS38 1 (.int .i64 f) zb7 1 ?_
 refine pure_ (.pointer (some ⟨zb7, 2, none⟩)) ?_
 refine load1_ zS38 1 (.bool nw) zb7 2 ?_
 refine call_ 23 #[.agg (polP p ka kn kc), .agg (tokC t), .pointer (some ⟨zb21, 0, none⟩), .int .i64 f, .bool nw] ?_
 have zS43 : St [] w (zq22 ++ ([⟨zb16, true, .cells (polP p ka kn kc) 48 (0, 0)⟩, ⟨zb7, true, .cells #[.int .u8 kd, .int .i64 f, .bool nw] 64 (0, 0)⟩, ⟨zb4, true, .cells (tokC t) 54 (0, 0)⟩, ⟨zb1, true, .cells (polC q pa pn pc) 48 (0, 0)⟩] ++ (zq31 ++ ([] : List Blk)))) zw35 := zS38.re (R := ([] : List Blk)) [[⟨zb16, true, .cells (polP p ka kn kc) 48 (0, 0)⟩], [⟨zb7, true, .cells #[.int .u8 kd, .int .i64 f, .bool nw] 64 (0, 0)⟩], [⟨zb4, true, .cells (tokC t) 54 (0, 0)⟩], [⟨zb1, true, .cells (polC q pa pn pc) 48 (0, 0)⟩], zq31, zq22] [5, 0, 1, 2, 3, 4]
 refine (ask_ zb21 3 (waitsL p (Int.fdiv kd (2 ^ 2))) zq22 p ka kn kc t f nw zh23 (by omega) (by decide) (RK.hr (RK.waits _ _) hp f) (by have := hp.ask; exact this) _ zS43).mono ?_; rintro _ zw44 ⟨zq39, rfl, zh40, zS45⟩
 generalize ze47 : Sd.askTok p t 3 (waitsL p (Int.fdiv kd (2 ^ 2))) f nw = zr41 at zh40 ⊢
 have zS48 : St [] w ([⟨zb16, true, .cells (polP p ka kn kc) 48 (0, 0)⟩, ⟨zb7, true, .cells #[.int .u8 kd, .int .i64 f, .bool nw] 64 (0, 0)⟩, ⟨zb4, true, .cells (tokC t) 54 (0, 0)⟩, ⟨zb1, true, .cells (polC q pa pn pc) 48 (0, 0)⟩] ++ (zq39 ++ (zq31 ++ ([] : List Blk)))) zw44 := zS45.re (R := ([] : List Blk)) [zq39, [⟨zb16, true, .cells (polP p ka kn kc) 48 (0, 0)⟩], [⟨zb7, true, .cells #[.int .u8 kd, .int .i64 f, .bool nw] 64 (0, 0)⟩], [⟨zb4, true, .cells (tokC t) 54 (0, 0)⟩], [⟨zb1, true, .cells (polC q pa pn pc) 48 (0, 0)⟩], zq31] [1, 2, 3, 4, 0, 5]
 refine move_ ?_
 refine pure_ (.agg (tokC zr41.1)) ?_
 refine pure_ (.int .i64 zr41.2.1) ?_
 refine pure_ (.int .i64 zr41.2.2.1) ?_
 refine new_ zS48 (fun b => .pointer (some ⟨b, 0, none⟩)) (.cells #[.int .i64 0, .int .i64 0, .int .i64 0, .int .i64 0, .int .i64 0, .int .i64 0, .int .i64 0, .bool false] 54) ?_
 intro zb49 zw50 zS51
 refine store_ zS51 0 (.agg (tokC zr41.1)) zb49 0 ?_
 intro zw52 zS53
 refine pure_ (.int .i64 zr41.2.1) ?_
 refine pure_ (.int .i64 zr41.2.2.1) ?_
 refine nil_ (then_n (seq_ (reg_ ?_)))
 refine move_ ?_
 refine move_ ?_
 refine call_ 12 #[.pointer (some ⟨zb21, 0, none⟩)] ?_
 have zS59 : St [] w (zq39 ++ ([⟨zb49, true, .cells (tokC zr41.1) 54 (0, 0)⟩, ⟨zb16, true, .cells (polP p ka kn kc) 48 (0, 0)⟩, ⟨zb7, true, .cells #[.int .u8 kd, .int .i64 f, .bool nw] 64 (0, 0)⟩, ⟨zb4, true, .cells (tokC t) 54 (0, 0)⟩, ⟨zb1, true, .cells (polC q pa pn pc) 48 (0, 0)⟩] ++ (zq31 ++ ([] : List Blk)))) zw52 := zS53.re (R := ([] : List Blk)) [[⟨zb49, true, .cells (tokC zr41.1) 54 (0, 0)⟩], [⟨zb16, true, .cells (polP p ka kn kc) 48 (0, 0)⟩], [⟨zb7, true, .cells #[.int .u8 kd, .int .i64 f, .bool nw] 64 (0, 0)⟩], [⟨zb4, true, .cells (tokC t) 54 (0, 0)⟩], [⟨zb1, true, .cells (polC q pa pn pc) 48 (0, 0)⟩], zq39, zq31] [5, 0, 1, 2, 3, 4, 6]
 refine (q_list zh40 zS59).mono ?_; rintro _ zw60 ⟨zx54, zc55, zq56, rfl, zh57, zS61⟩
 have zh58 : zr41.2.2.2.length ≤ 3 := q_len zh40
 have zS63 : St [] w ([⟨zb49, true, .cells (tokC zr41.1) 54 (0, 0)⟩, ⟨zb16, true, .cells (polP p ka kn kc) 48 (0, 0)⟩, ⟨zb7, true, .cells #[.int .u8 kd, .int .i64 f, .bool nw] 64 (0, 0)⟩, ⟨zb4, true, .cells (tokC t) 54 (0, 0)⟩, ⟨zb1, true, .cells (polC q pa pn pc) 48 (0, 0)⟩] ++ (zq56 ++ (zq39 ++ (zq31 ++ ([] : List Blk))))) zw60 := zS61.re (R := ([] : List Blk)) [zq56, zq39, [⟨zb49, true, .cells (tokC zr41.1) 54 (0, 0)⟩], [⟨zb16, true, .cells (polP p ka kn kc) 48 (0, 0)⟩], [⟨zb7, true, .cells #[.int .u8 kd, .int .i64 f, .bool nw] 64 (0, 0)⟩], [⟨zb4, true, .cells (tokC t) 54 (0, 0)⟩], [⟨zb1, true, .cells (polC q pa pn pc) 48 (0, 0)⟩], zq31] [2, 3, 4, 5, 6, 0, 1, 7]
 refine call_ 16 #[.slice zx29 ((waitsL p (Int.fdiv kd (2 ^ 2))).length) zc30, .slice zx54 zr41.2.2.2.length zc55] ?_
 have zS64 : St [] w (zq31 ++ (zq56 ++ ([⟨zb49, true, .cells (tokC zr41.1) 54 (0, 0)⟩, ⟨zb16, true, .cells (polP p ka kn kc) 48 (0, 0)⟩, ⟨zb7, true, .cells #[.int .u8 kd, .int .i64 f, .bool nw] 64 (0, 0)⟩, ⟨zb4, true, .cells (tokC t) 54 (0, 0)⟩, ⟨zb1, true, .cells (polC q pa pn pc) 48 (0, 0)⟩] ++ (zq39 ++ ([] : List Blk))))) zw60 := zS63.re (R := ([] : List Blk)) [[⟨zb49, true, .cells (tokC zr41.1) 54 (0, 0)⟩], [⟨zb16, true, .cells (polP p ka kn kc) 48 (0, 0)⟩], [⟨zb7, true, .cells #[.int .u8 kd, .int .i64 f, .bool nw] 64 (0, 0)⟩], [⟨zb4, true, .cells (tokC t) 54 (0, 0)⟩], [⟨zb1, true, .cells (polC q pa pn pc) 48 (0, 0)⟩], zq56, zq39, zq31] [7, 5, 0, 1, 2, 3, 4, 6]
 refine (same_ (waitsL p (Int.fdiv kd (2 ^ 2))) zr41.2.2.2 zh32 zh57 (by omega) zS64).mono ?_; rintro _ zw65 ⟨rfl, zS66⟩
 have zS68 : St [] w ([⟨zb49, true, .cells (tokC zr41.1) 54 (0, 0)⟩, ⟨zb16, true, .cells (polP p ka kn kc) 48 (0, 0)⟩, ⟨zb7, true, .cells #[.int .u8 kd, .int .i64 f, .bool nw] 64 (0, 0)⟩, ⟨zb4, true, .cells (tokC t) 54 (0, 0)⟩, ⟨zb1, true, .cells (polC q pa pn pc) 48 (0, 0)⟩] ++ (zq31 ++ (zq56 ++ (zq39 ++ ([] : List Blk))))) zw65 := zS66.re (R := ([] : List Blk)) [zq31, zq56, [⟨zb49, true, .cells (tokC zr41.1) 54 (0, 0)⟩], [⟨zb16, true, .cells (polP p ka kn kc) 48 (0, 0)⟩], [⟨zb7, true, .cells #[.int .u8 kd, .int .i64 f, .bool nw] 64 (0, 0)⟩], [⟨zb4, true, .cells (tokC t) 54 (0, 0)⟩], [⟨zb1, true, .cells (polC q pa pn pc) 48 (0, 0)⟩], zq39] [2, 3, 4, 5, 6, 0, 1, 7]
 refine assign_ ?_
 refine nil_ (then_n (seq_ (seq_ (reg_ ?_))))
 refine pure_ (.int .i64 zr41.2.2.1) ?_
 refine pure_ (.bool (zr41.2.2.1 != 0)) ?_
 refine pure_ (.bool (zr41.2.2.1 != 0)) ?_
 refine slot_ 53 (zr41.2.2.1 != 0) ?_ ?_
 · intro zh69
   have zh70 := neT' zh69
   have zh74 := (ask_cases ze47).1 (by omega)
   obtain ⟨zh71, zh72, zh73⟩ := zh74
   have zh75 : zr41.1.holder = t.holder := by rw [zh71]
   have zh76 : zr41.1.epoch = t.epoch := by rw [zh71]
   have zh77 : zr41.1.offer = t.offer := by rw [zh71]
   have zh78 : zr41.1.oa.n = t.oa.n := by rw [zh71]
   have zh79 : zr41.1.oa.most = t.oa.most := by rw [zh71]
   have zh80 : zr41.1.la.n = t.la.n := by rw [zh71]
   have zh81 : zr41.1.la.most = t.la.most := by rw [zh71]
   have zh82 : zr41.2.2.2.length = (waitsL p (Int.fdiv kd (2 ^ 2))).length := by rw [zh73]
   refine loadN_ zS68 0 8 (tokC zr41.1) zb49 0 ?_
   refine loadN_ zS68 3 8 (tokC t) zb4 0 ?_
   refine eqAgg_ true ((zr41.1.holder == t.holder) && ((zr41.1.epoch == t.epoch) && ((zr41.1.offer == t.offer) && (((zr41.1.oa.n == t.oa.n) && ((zr41.1.oa.most == t.oa.most) && true)) && (((zr41.1.la.n == t.la.n) && ((zr41.1.la.most == t.la.most) && true)) && ((zr41.1.bad == t.bad) && true)))))) (tokC zr41.1) (tokC t) ?_
   refine move_ ?_
   refine slotK_ 57 (!((zr41.1.holder == t.holder) && ((zr41.1.epoch == t.epoch) && ((zr41.1.offer == t.offer) && (((zr41.1.oa.n == t.oa.n) && ((zr41.1.oa.most == t.oa.most) && true)) && (((zr41.1.la.n == t.la.n) && ((zr41.1.la.most == t.la.most) && true)) && ((zr41.1.bad == t.bad) && true))))))) false (notF (andT (eqT (by omega)) (andT (eqT (by omega)) (andT (eqT (by omega)) (andT (andT (eqT (by omega)) (andT (eqT (by omega)) (rfl))) (andT (andT (eqT (by omega)) (andT (eqT (by omega)) (rfl))) (andT (beq_iff_eq.2 (by rw [zh71])) (rfl)))))))) ?_
   refine pure_ (.int .i64 zr41.2.1) ?_
   refine pureE_ (.bool (zr41.2.1 != 0)) (.bool false) (congrArg Value.bool (neF (by omega))) ?_
   refine pure_ (.bool false) ?_
   refine pure_ (.bool false) ?_
   refine move_ ?_
   refine pure_ (.bool (!(decide (waitsL p (Int.fdiv kd (2 ^ 2)) = zr41.2.2.2)))) ?_
   refine pure_ (.bool (!(decide (waitsL p (Int.fdiv kd (2 ^ 2)) = zr41.2.2.2)))) ?_
   refine pure_ (.bool (!(decide (waitsL p (Int.fdiv kd (2 ^ 2)) = zr41.2.2.2)))) ?_
   refine nil_ (then_n ?_)
   refine cond_f (!(decide (waitsL p (Int.fdiv kd (2 ^ 2)) = zr41.2.2.2))) (notF (decide_eq_true zh73.symm)) ?_
   refine wp_skip (then_n (seq_ (seq_ (reg_ ?_))))
   refine pure_ (.int .i64 zr41.2.2.1) ?_
   refine pureE_ (.bool (zr41.2.2.1 == 0)) (.bool false) (congrArg Value.bool (eqF (by omega))) ?_
   refine pure_ (.bool false) ?_
   refine skip_ ?_
   refine skip_ ?_
   refine pure_ (.bool false) ?_
   refine pure_ (.bool false) ?_
   refine skip_ ?_
   refine skip_ ?_
   refine skip_ ?_
   refine skip_ ?_
   refine skip_ ?_
   refine skip_ ?_
   refine skip_ ?_
   refine skip_ ?_
   refine skip_ ?_
   refine skip_ ?_
   refine skip_ ?_
   refine skip_ ?_
   refine pure_ (.bool false) ?_
   refine pure_ (.bool false) ?_
   refine pure_ (.int .i64 zr41.2.1) ?_
   refine pureE_ (.bool (zr41.2.1 != 0)) (.bool false) (congrArg Value.bool (neF (by omega))) ?_
   refine pure_ (.bool false) ?_
   refine skip_ ?_
   refine skip_ ?_
   refine skip_ ?_
   refine skip_ ?_
   refine skip_ ?_
   refine skip_ ?_
   refine skip_ ?_
   refine skip_ ?_
   refine skip_ ?_
   refine skip_ ?_
   refine skip_ ?_
   refine skip_ ?_
   refine skip_ ?_
   refine skip_ ?_
   refine skip_ ?_
   refine skip_ ?_
   refine skip_ ?_
   refine pure_ (.bool false) ?_
   refine pure_ (.bool false) ?_
   refine nil_ (then_n (cond_F ?_))
   refine wp_skip (then_n (seq_ (reg_ ?_)))
   refine move_ ?_
   refine call_ 12 #[.pointer (some ⟨zb21, 0, none⟩)] ?_
   have zS88 : St [] w (zq39 ++ ([⟨zb49, true, .cells (tokC zr41.1) 54 (0, 0)⟩, ⟨zb16, true, .cells (polP p ka kn kc) 48 (0, 0)⟩, ⟨zb7, true, .cells #[.int .u8 kd, .int .i64 f, .bool nw] 64 (0, 0)⟩, ⟨zb4, true, .cells (tokC t) 54 (0, 0)⟩, ⟨zb1, true, .cells (polC q pa pn pc) 48 (0, 0)⟩] ++ (zq31 ++ (zq56 ++ ([] : List Blk))))) zw65 := zS68.re (R := ([] : List Blk)) [[⟨zb49, true, .cells (tokC zr41.1) 54 (0, 0)⟩], [⟨zb16, true, .cells (polP p ka kn kc) 48 (0, 0)⟩], [⟨zb7, true, .cells #[.int .u8 kd, .int .i64 f, .bool nw] 64 (0, 0)⟩], [⟨zb4, true, .cells (tokC t) 54 (0, 0)⟩], [⟨zb1, true, .cells (polC q pa pn pc) 48 (0, 0)⟩], zq31, zq56, zq39] [7, 0, 1, 2, 3, 4, 5, 6]
   refine (q_list zh40 zS88).mono ?_; rintro _ zw89 ⟨zx83, zc84, zq85, rfl, zh86, zS90⟩
   have zh87 : zr41.2.2.2.length ≤ 3 := q_len zh40
   have zS92 : St [] w ([⟨zb49, true, .cells (tokC zr41.1) 54 (0, 0)⟩, ⟨zb16, true, .cells (polP p ka kn kc) 48 (0, 0)⟩, ⟨zb7, true, .cells #[.int .u8 kd, .int .i64 f, .bool nw] 64 (0, 0)⟩, ⟨zb4, true, .cells (tokC t) 54 (0, 0)⟩, ⟨zb1, true, .cells (polC q pa pn pc) 48 (0, 0)⟩] ++ (zq85 ++ (zq39 ++ (zq31 ++ (zq56 ++ ([] : List Blk)))))) zw89 := zS90.re (R := ([] : List Blk)) [zq85, zq39, [⟨zb49, true, .cells (tokC zr41.1) 54 (0, 0)⟩], [⟨zb16, true, .cells (polP p ka kn kc) 48 (0, 0)⟩], [⟨zb7, true, .cells #[.int .u8 kd, .int .i64 f, .bool nw] 64 (0, 0)⟩], [⟨zb4, true, .cells (tokC t) 54 (0, 0)⟩], [⟨zb1, true, .cells (polC q pa pn pc) 48 (0, 0)⟩], zq31, zq56] [2, 3, 4, 5, 6, 0, 1, 7, 8]
   refine assign_ ?_
   refine nil_ (then_n (seq_ (reg_ ?_)))
   refine loadN_ zS92 0 8 (tokC zr41.1) zb49 0 ?_
   refine move_ ?_
   refine pure_ (.pointer (some ⟨zb7, 1, none⟩)) ?_
   refine load1_ zS92 2 (.int .i64 f) zb7 1 ?_
   refine call_ 21 #[.agg (tokC zr41.1), .pointer (some ⟨zb21, 0, none⟩), .int .i64 f] ?_
   have zS97 : St [] w (zq39 ++ ([⟨zb49, true, .cells (tokC zr41.1) 54 (0, 0)⟩, ⟨zb16, true, .cells (polP p ka kn kc) 48 (0, 0)⟩, ⟨zb7, true, .cells #[.int .u8 kd, .int .i64 f, .bool nw] 64 (0, 0)⟩, ⟨zb4, true, .cells (tokC t) 54 (0, 0)⟩, ⟨zb1, true, .cells (polC q pa pn pc) 48 (0, 0)⟩] ++ (zq85 ++ (zq31 ++ (zq56 ++ ([] : List Blk)))))) zw89 := zS92.re (R := ([] : List Blk)) [[⟨zb49, true, .cells (tokC zr41.1) 54 (0, 0)⟩], [⟨zb16, true, .cells (polP p ka kn kc) 48 (0, 0)⟩], [⟨zb7, true, .cells #[.int .u8 kd, .int .i64 f, .bool nw] 64 (0, 0)⟩], [⟨zb4, true, .cells (tokC t) 54 (0, 0)⟩], [⟨zb1, true, .cells (polC q pa pn pc) 48 (0, 0)⟩], zq85, zq39, zq31, zq56] [6, 0, 1, 2, 3, 4, 5, 7, 8]
   refine (release_ zb21 3 zr41.2.2.2 zq39 zr41.1 f zh40 (by omega) _ zS97).mono ?_; rintro _ zw98 ⟨zq93, rfl, zh94, zS99⟩
   generalize ze101 : Sd.releaseTok zr41.1 zr41.2.2.2 f = zr95 at zh94 ⊢
   have zS102 : St [] w ([⟨zb49, true, .cells (tokC zr41.1) 54 (0, 0)⟩, ⟨zb16, true, .cells (polP p ka kn kc) 48 (0, 0)⟩, ⟨zb7, true, .cells #[.int .u8 kd, .int .i64 f, .bool nw] 64 (0, 0)⟩, ⟨zb4, true, .cells (tokC t) 54 (0, 0)⟩, ⟨zb1, true, .cells (polC q pa pn pc) 48 (0, 0)⟩] ++ (zq93 ++ (zq85 ++ (zq31 ++ (zq56 ++ ([] : List Blk)))))) zw98 := zS99.re (R := ([] : List Blk)) [zq93, [⟨zb49, true, .cells (tokC zr41.1) 54 (0, 0)⟩], [⟨zb16, true, .cells (polP p ka kn kc) 48 (0, 0)⟩], [⟨zb7, true, .cells #[.int .u8 kd, .int .i64 f, .bool nw] 64 (0, 0)⟩], [⟨zb4, true, .cells (tokC t) 54 (0, 0)⟩], [⟨zb1, true, .cells (polC q pa pn pc) 48 (0, 0)⟩], zq85, zq31, zq56] [1, 2, 3, 4, 5, 0, 6, 7, 8]
   refine move_ ?_
   refine pure_ (.agg (tokC zr95.1)) ?_
   refine pure_ (.int .i64 zr95.2.1) ?_
   refine new_ zS102 (fun b => .pointer (some ⟨b, 0, none⟩)) (.cells #[.int .i64 0, .int .i64 0, .int .i64 0, .int .i64 0, .int .i64 0, .int .i64 0, .int .i64 0, .bool false] 54) ?_
   intro zb103 zw104 zS105
   refine store_ zS105 0 (.agg (tokC zr95.1)) zb103 0 ?_
   intro zw106 zS107
   refine pure_ (.int .i64 zr95.2.1) ?_
   refine nil_ (then_n (seq_ (reg_ ?_)))
   refine move_ ?_
   refine move_ ?_
   refine call_ 12 #[.pointer (some ⟨zb21, 0, none⟩)] ?_
   have zS113 : St [] w (zq93 ++ ([⟨zb103, true, .cells (tokC zr95.1) 54 (0, 0)⟩, ⟨zb49, true, .cells (tokC zr41.1) 54 (0, 0)⟩, ⟨zb16, true, .cells (polP p ka kn kc) 48 (0, 0)⟩, ⟨zb7, true, .cells #[.int .u8 kd, .int .i64 f, .bool nw] 64 (0, 0)⟩, ⟨zb4, true, .cells (tokC t) 54 (0, 0)⟩, ⟨zb1, true, .cells (polC q pa pn pc) 48 (0, 0)⟩] ++ (zq85 ++ (zq31 ++ (zq56 ++ ([] : List Blk)))))) zw106 := zS107.re (R := ([] : List Blk)) [[⟨zb103, true, .cells (tokC zr95.1) 54 (0, 0)⟩], [⟨zb49, true, .cells (tokC zr41.1) 54 (0, 0)⟩], [⟨zb16, true, .cells (polP p ka kn kc) 48 (0, 0)⟩], [⟨zb7, true, .cells #[.int .u8 kd, .int .i64 f, .bool nw] 64 (0, 0)⟩], [⟨zb4, true, .cells (tokC t) 54 (0, 0)⟩], [⟨zb1, true, .cells (polC q pa pn pc) 48 (0, 0)⟩], zq93, zq85, zq31, zq56] [6, 0, 1, 2, 3, 4, 5, 7, 8, 9]
   refine (q_list zh94 zS113).mono ?_; rintro _ zw114 ⟨zx108, zc109, zq110, rfl, zh111, zS115⟩
   have zh112 : zr95.2.2.length ≤ 3 := q_len zh94
   have zS117 : St [] w ([⟨zb103, true, .cells (tokC zr95.1) 54 (0, 0)⟩, ⟨zb49, true, .cells (tokC zr41.1) 54 (0, 0)⟩, ⟨zb16, true, .cells (polP p ka kn kc) 48 (0, 0)⟩, ⟨zb7, true, .cells #[.int .u8 kd, .int .i64 f, .bool nw] 64 (0, 0)⟩, ⟨zb4, true, .cells (tokC t) 54 (0, 0)⟩, ⟨zb1, true, .cells (polC q pa pn pc) 48 (0, 0)⟩] ++ (zq110 ++ (zq93 ++ (zq85 ++ (zq31 ++ (zq56 ++ ([] : List Blk))))))) zw114 := zS115.re (R := ([] : List Blk)) [zq110, zq93, [⟨zb103, true, .cells (tokC zr95.1) 54 (0, 0)⟩], [⟨zb49, true, .cells (tokC zr41.1) 54 (0, 0)⟩], [⟨zb16, true, .cells (polP p ka kn kc) 48 (0, 0)⟩], [⟨zb7, true, .cells #[.int .u8 kd, .int .i64 f, .bool nw] 64 (0, 0)⟩], [⟨zb4, true, .cells (tokC t) 54 (0, 0)⟩], [⟨zb1, true, .cells (polC q pa pn pc) 48 (0, 0)⟩], zq85, zq31, zq56] [2, 3, 4, 5, 6, 7, 0, 1, 8, 9, 10]
   refine call_ 16 #[.slice zx83 zr41.2.2.2.length zc84, .slice zx108 zr95.2.2.length zc109] ?_
   have zS118 : St [] w (zq85 ++ (zq110 ++ ([⟨zb103, true, .cells (tokC zr95.1) 54 (0, 0)⟩, ⟨zb49, true, .cells (tokC zr41.1) 54 (0, 0)⟩, ⟨zb16, true, .cells (polP p ka kn kc) 48 (0, 0)⟩, ⟨zb7, true, .cells #[.int .u8 kd, .int .i64 f, .bool nw] 64 (0, 0)⟩, ⟨zb4, true, .cells (tokC t) 54 (0, 0)⟩, ⟨zb1, true, .cells (polC q pa pn pc) 48 (0, 0)⟩] ++ (zq93 ++ (zq31 ++ (zq56 ++ ([] : List Blk))))))) zw114 := zS117.re (R := ([] : List Blk)) [[⟨zb103, true, .cells (tokC zr95.1) 54 (0, 0)⟩], [⟨zb49, true, .cells (tokC zr41.1) 54 (0, 0)⟩], [⟨zb16, true, .cells (polP p ka kn kc) 48 (0, 0)⟩], [⟨zb7, true, .cells #[.int .u8 kd, .int .i64 f, .bool nw] 64 (0, 0)⟩], [⟨zb4, true, .cells (tokC t) 54 (0, 0)⟩], [⟨zb1, true, .cells (polC q pa pn pc) 48 (0, 0)⟩], zq110, zq93, zq85, zq31, zq56] [8, 6, 0, 1, 2, 3, 4, 5, 7, 9, 10]
   refine (same_ zr41.2.2.2 zr95.2.2 zh86 zh111 (by omega) zS118).mono ?_; rintro _ zw119 ⟨rfl, zS120⟩
   have zS122 : St [] w ([⟨zb103, true, .cells (tokC zr95.1) 54 (0, 0)⟩, ⟨zb49, true, .cells (tokC zr41.1) 54 (0, 0)⟩, ⟨zb16, true, .cells (polP p ka kn kc) 48 (0, 0)⟩, ⟨zb7, true, .cells #[.int .u8 kd, .int .i64 f, .bool nw] 64 (0, 0)⟩, ⟨zb4, true, .cells (tokC t) 54 (0, 0)⟩, ⟨zb1, true, .cells (polC q pa pn pc) 48 (0, 0)⟩] ++ (zq85 ++ (zq110 ++ (zq93 ++ (zq31 ++ (zq56 ++ ([] : List Blk))))))) zw119 := zS120.re (R := ([] : List Blk)) [zq85, zq110, [⟨zb103, true, .cells (tokC zr95.1) 54 (0, 0)⟩], [⟨zb49, true, .cells (tokC zr41.1) 54 (0, 0)⟩], [⟨zb16, true, .cells (polP p ka kn kc) 48 (0, 0)⟩], [⟨zb7, true, .cells #[.int .u8 kd, .int .i64 f, .bool nw] 64 (0, 0)⟩], [⟨zb4, true, .cells (tokC t) 54 (0, 0)⟩], [⟨zb1, true, .cells (polC q pa pn pc) 48 (0, 0)⟩], zq93, zq31, zq56] [2, 3, 4, 5, 6, 7, 0, 1, 8, 9, 10]
   refine assign_ ?_
   refine nil_ (then_n (seq_ (seq_ (reg_ ?_))))
   refine pure_ (.int .i64 zr95.2.1) ?_
   refine pure_ (.bool (zr95.2.1 != 0)) ?_
   refine nil_ (then_n ?_)
   refine cond_S (zr95.2.1 != 0) ?_ ?_
   · intro zh123
     have zh124 := neT' zh123
     have zh127 := (rel_cases ze101 (qs_drop zh40)).1 (by omega)
     obtain ⟨zh125, zh126⟩ := zh127
     have zh128 : zr95.1.holder = zr41.1.holder := by rw [zh125]
     have zh129 : zr95.1.epoch = zr41.1.epoch := by rw [zh125]
     have zh130 : zr95.1.offer = zr41.1.offer := by rw [zh125]
     have zh131 : zr95.1.oa.n = zr41.1.oa.n := by rw [zh125]
     have zh132 : zr95.1.oa.most = zr41.1.oa.most := by rw [zh125]
     have zh133 : zr95.1.la.n = zr41.1.la.n := by rw [zh125]
     have zh134 : zr95.1.la.most = zr41.1.la.most := by rw [zh125]
     refine seq_ (reg_ ?_)
     refine loadN_ zS122 0 8 (tokC zr95.1) zb103 0 ?_
     refine loadN_ zS122 1 8 (tokC zr41.1) zb49 0 ?_
     refine eqAgg_ false ((zr95.1.holder == zr41.1.holder) && ((zr95.1.epoch == zr41.1.epoch) && ((zr95.1.offer == zr41.1.offer) && (((zr95.1.oa.n == zr41.1.oa.n) && ((zr95.1.oa.most == zr41.1.oa.most) && true)) && (((zr95.1.la.n == zr41.1.la.n) && ((zr95.1.la.most == zr41.1.la.most) && true)) && ((zr95.1.bad == zr41.1.bad) && true)))))) (tokC zr95.1) (tokC zr41.1) ?_
     refine move_ ?_
     refine slotK_ 128 ((zr95.1.holder == zr41.1.holder) && ((zr95.1.epoch == zr41.1.epoch) && ((zr95.1.offer == zr41.1.offer) && (((zr95.1.oa.n == zr41.1.oa.n) && ((zr95.1.oa.most == zr41.1.oa.most) && true)) && (((zr95.1.la.n == zr41.1.la.n) && ((zr95.1.la.most == zr41.1.la.most) && true)) && ((zr95.1.bad == zr41.1.bad) && true)))))) true (andT (eqT (by omega)) (andT (eqT (by omega)) (andT (eqT (by omega)) (andT (andT (eqT (by omega)) (andT (eqT (by omega)) (rfl))) (andT (andT (eqT (by omega)) (andT (eqT (by omega)) (rfl))) (andT (beq_iff_eq.2 (by rw [zh125])) (rfl))))))) ?_
     refine move_ ?_
     refine pure_ (.bool (decide (zr41.2.2.2 = zr95.2.2))) ?_
     refine assign_ ?_
     refine nil_ (then_n (wp_ret (then_r ?_)))
     refine ret_ rfl (res_ [.tmp 6] [.bool (decide (zr41.2.2.2 = zr95.2.2))] (.bool (decide (zr41.2.2.2 = zr95.2.2))) ⟨res_tmp, trivial⟩) ?_
     exact ⟨congrArg Value.bool (decide_eq_true zh126.symm), zS122.ch⟩
   intro zh135
   have zh136 := neF' zh135
   have zh144 := (rel_cases ze101 (qs_drop zh40)).2 (by omega)
   obtain ⟨zh137, zh138, zh139, zh140, zh141, zh142⟩ := zh144
   have zh143 := congrArg List.length zh140; simp only [List.length_cons] at zh143
   obtain ⟨zb145, zt146, zh147, zh148⟩ := row_open zh86 zh140; subst zh148
   have zS149 : St [] w ([⟨zb145, true, .cells (([.int .i64 zh138.source, .int .i64 zh138.rank, .int .i64 zh138.age.n, .int .i64 zh138.age.most] : List Value) ++ zt146).toArray 32 (0, 0)⟩, ⟨zb103, true, .cells (tokC zr95.1) 54 (0, 0)⟩, ⟨zb49, true, .cells (tokC zr41.1) 54 (0, 0)⟩, ⟨zb16, true, .cells (polP p ka kn kc) 48 (0, 0)⟩, ⟨zb7, true, .cells #[.int .u8 kd, .int .i64 f, .bool nw] 64 (0, 0)⟩, ⟨zb4, true, .cells (tokC t) 54 (0, 0)⟩, ⟨zb1, true, .cells (polC q pa pn pc) 48 (0, 0)⟩] ++ (zq110 ++ (zq93 ++ (zq31 ++ (zq56 ++ ([] : List Blk)))))) zw119 := (show St _ _ ([⟨zb103, true, .cells (tokC zr95.1) 54 (0, 0)⟩, ⟨zb49, true, .cells (tokC zr41.1) 54 (0, 0)⟩, ⟨zb16, true, .cells (polP p ka kn kc) 48 (0, 0)⟩, ⟨zb7, true, .cells #[.int .u8 kd, .int .i64 f, .bool nw] 64 (0, 0)⟩, ⟨zb4, true, .cells (tokC t) 54 (0, 0)⟩, ⟨zb1, true, .cells (polC q pa pn pc) 48 (0, 0)⟩] ++ ([⟨zb145, true, .cells (([.int .i64 zh138.source, .int .i64 zh138.rank, .int .i64 zh138.age.n, .int .i64 zh138.age.most] : List Value) ++ zt146).toArray 32 (0, 0)⟩] ++ (zq110 ++ (zq93 ++ (zq31 ++ (zq56 ++ ([] : List Blk))))))) _ by simpa only [List.append_assoc] using zS122).re (R := ([] : List Blk)) [[⟨zb103, true, .cells (tokC zr95.1) 54 (0, 0)⟩], [⟨zb49, true, .cells (tokC zr41.1) 54 (0, 0)⟩], [⟨zb16, true, .cells (polP p ka kn kc) 48 (0, 0)⟩], [⟨zb7, true, .cells #[.int .u8 kd, .int .i64 f, .bool nw] 64 (0, 0)⟩], [⟨zb4, true, .cells (tokC t) 54 (0, 0)⟩], [⟨zb1, true, .cells (polC q pa pn pc) 48 (0, 0)⟩], [⟨zb145, true, .cells (([.int .i64 zh138.source, .int .i64 zh138.rank, .int .i64 zh138.age.n, .int .i64 zh138.age.most] : List Value) ++ zt146).toArray 32 (0, 0)⟩], zq110, zq93, zq31, zq56] [6, 0, 1, 2, 3, 4, 5, 7, 8, 9, 10]
   refine wp_skip (then_n (seq_ ?_))
   refine drawnL_ 29 [⟨0, fun _ => .slice zx83 zr41.2.2.2.length zc84, fun _ => []⟩, ⟨0, fun _ => .int .i64 ((zr41.2.2.2.length : Nat) : Int), fun _ => []⟩, ⟨0, fun _ => .bool true, fun _ => []⟩, ⟨0, fun _ => .bool true, fun _ => []⟩, ⟨0, fun _ => .pointer (some ⟨zb103, 0, none⟩), fun _ => []⟩, ⟨0, fun _ => .int .i64 zr95.1.holder, fun _ => []⟩, ⟨0, fun _ => .slice zx83 zr41.2.2.2.length zc84, fun _ => []⟩, ⟨0, fun _ => .pointer (some ⟨zb145, 0, none⟩), fun _ => []⟩, ⟨0, fun _ => .pointer (some ⟨zb145, 0, none⟩), fun _ => []⟩, ⟨0, fun _ => .int .i64 zh138.source, fun _ => []⟩, ⟨0, fun _ => .bool true, fun _ => []⟩, ⟨0, fun _ => .bool true, fun _ => []⟩, ⟨0, fun _ => .bool true, fun _ => []⟩, ⟨0, fun _ => .pointer (some ⟨zb21, 0, none⟩), fun _ => []⟩, ⟨2, fun ids => .slice (optA (ids.getD 0 0)) zr95.2.2.length (ids.getD 1 0), fun ids => []⟩, ⟨0, fun _ => .int .i64 ((zr95.2.2.length : Nat) : Int), fun _ => []⟩, ⟨0, fun _ => .slice zx83 zr41.2.2.2.length zc84, fun _ => []⟩, ⟨0, fun _ => .int .i64 ((zr41.2.2.2.length : Nat) : Int), fun _ => []⟩, ⟨0, fun _ => .int .i64 (((zr41.2.2.2.length : Nat) : Int) - 1), fun _ => []⟩, ⟨0, fun _ => .bool true, fun _ => []⟩, ⟨0, fun _ => .bool true, fun _ => []⟩, ⟨0, fun _ => .bool true, fun _ => []⟩, ⟨0, fun _ => .pointer (some ⟨zb7, 1, none⟩), fun _ => []⟩, ⟨0, fun _ => .int .i64 f, fun _ => []⟩, ⟨0, fun _ => .pointer (some ⟨zb49, 0, none⟩), fun _ => []⟩, ⟨0, fun _ => .int .i64 zr41.1.holder, fun _ => []⟩, ⟨0, fun _ => .bool true, fun _ => []⟩, ⟨0, fun _ => .bool true, fun _ => []⟩, ⟨0, fun _ => .bool true, fun _ => []⟩] [] ?_ ?_
   · refine step_cons ?_ ?_
     · intro zy150 zw151 zhc152 zhf153 zhp154
       have zh155 : zy150 15 = .slice zx83 zr41.2.2.2.length zc84 := (zhf153 15 (by kernel_rfl)).trans (by kernel_rfl)
       have zS156 := zS149.quiet zhc152
       refine step1 ?_
       refine yenv [(15, .slice zx83 zr41.2.2.2.length zc84)] (ag_cons zh155 (ag_nil)) ?_
       have zS157 := zS156.loc
       refine Y.move_ ?_
       exact ⟨zS157.ch, Sp.mk_holds [] (all_nil)⟩
     refine step_cons ?_ ?_
     · intro zy158 zw159 zhc160 zhf161 zhp162
       have zh163 : zy158 131 = .slice zx83 zr41.2.2.2.length zc84 := (Sp.out0 (zhp162 0 131 (by kernel_rfl) (by kernel_rfl))).1
       have zS164 := zS149.quiet zhc160
       refine step1 ?_
       refine yenv [(131, .slice zx83 zr41.2.2.2.length zc84)] (ag_cons zh163 (ag_nil)) ?_
       have zS165 := zS164.loc
       refine Y.pure_ (.int .i64 ((zr41.2.2.2.length : Nat) : Int)) ?_
       exact ⟨zS165.ch, Sp.mk_holds [] (all_nil)⟩
     refine step_cons ?_ ?_
     · intro zy166 zw167 zhc168 zhf169 zhp170
       have zh171 : zy166 132 = .int .i64 ((zr41.2.2.2.length : Nat) : Int) := (Sp.out0 (zhp170 1 132 (by kernel_rfl) (by kernel_rfl))).1
       have zS172 := zS149.quiet zhc168
       refine step1 ?_
       refine yenv [(132, .int .i64 ((zr41.2.2.2.length : Nat) : Int))] (ag_cons zh171 (ag_nil)) ?_
       have zS173 := zS172.loc
       refine Y.pureE_ (.bool (decide (0 < ((zr41.2.2.2.length : Nat) : Int)))) (.bool true) (congrArg Value.bool (ltT (by omega))) ?_
       exact ⟨zS173.ch, Sp.mk_holds [] (all_nil)⟩
     refine step_cons ?_ ?_
     · intro zy174 zw175 zhc176 zhf177 zhp178
       have zh179 : zy174 133 = .bool true := (Sp.out0 (zhp178 2 133 (by kernel_rfl) (by kernel_rfl))).1
       have zS180 := zS149.quiet zhc176
       refine step1 ?_
       refine yenv [(133, .bool true)] (ag_cons zh179 (ag_nil)) ?_
       have zS181 := zS180.loc
       refine Y.pure_ (.bool true) ?_
       exact ⟨zS181.ch, Sp.mk_holds [] (all_nil)⟩
     refine step_cons ?_ ?_
     · intro zy182 zw183 zhc184 zhf185 zhp186
       have zh187 : zy182 16 = .pointer (some ⟨zb103, 0, none⟩) := (zhf185 16 (by kernel_rfl)).trans (by kernel_rfl)
       have zh188 : zy182 134 = .bool true := (Sp.out0 (zhp186 3 134 (by kernel_rfl) (by kernel_rfl))).1
       have zS189 := zS149.quiet zhc184
       refine step_yes (wY_t zh188) ?_
       refine yenv [(16, .pointer (some ⟨zb103, 0, none⟩))] (ag_cons zh187 (ag_nil)) ?_
       have zS190 := zS189.loc
       refine Y.pure_ (.pointer (some ⟨zb103, 0, none⟩)) ?_
       exact ⟨zS190.ch, Sp.mk_holds [] (all_nil)⟩
     refine step_cons ?_ ?_
     · intro zy191 zw192 zhc193 zhf194 zhp195
       have zh196 : zy191 135 = .pointer (some ⟨zb103, 0, none⟩) := (Sp.out0 (zhp195 4 135 (by kernel_rfl) (by kernel_rfl))).1
       have zh197 : zy191 134 = .bool true := (Sp.out0 (zhp195 3 134 (by kernel_rfl) (by kernel_rfl))).1
       have zS198 := zS149.quiet zhc193
       refine step_yes (wY_t zh197) ?_
       refine yenv [(135, .pointer (some ⟨zb103, 0, none⟩))] (ag_cons zh196 (ag_nil)) ?_
       have zS199 := zS198.loc
       refine Y.load1_ zS199 1 (.int .i64 zr95.1.holder) zb103 0 ?_
       exact ⟨zS199.ch, Sp.mk_holds [] (all_nil)⟩
     refine step_cons ?_ ?_
     · intro zy200 zw201 zhc202 zhf203 zhp204
       have zh205 : zy200 15 = .slice zx83 zr41.2.2.2.length zc84 := (zhf203 15 (by kernel_rfl)).trans (by kernel_rfl)
       have zh206 : zy200 134 = .bool true := (Sp.out0 (zhp204 3 134 (by kernel_rfl) (by kernel_rfl))).1
       have zS207 := zS149.quiet zhc202
       refine step_yes (wY_t zh206) ?_
       refine yenv [(15, .slice zx83 zr41.2.2.2.length zc84)] (ag_cons zh205 (ag_nil)) ?_
       have zS208 := zS207.loc
       refine Y.move_ ?_
       exact ⟨zS208.ch, Sp.mk_holds [] (all_nil)⟩
     refine step_cons ?_ ?_
     · intro zy209 zw210 zhc211 zhf212 zhp213
       have zh214 : zy209 137 = .slice zx83 zr41.2.2.2.length zc84 := (Sp.out0 (zhp213 6 137 (by kernel_rfl) (by kernel_rfl))).1
       have zh215 : zy209 134 = .bool true := (Sp.out0 (zhp213 3 134 (by kernel_rfl) (by kernel_rfl))).1
       have zS216 := zS149.quiet zhc211
       refine step_yes (wY_t zh215) ?_
       refine yenv [(137, .slice zx83 zr41.2.2.2.length zc84)] (ag_cons zh214 (ag_nil)) ?_
       have zS217 := zS216.loc
       refine Y.idxS_ (e := 32) zb145 0 0 zr41.2.2.2.length 4 zc84 .i64 0 (by omega) (by omega) rfl ?_ (hx := slice_at zh147 (by kernel_rfl))
       exact ⟨zS217.ch, Sp.mk_holds [] (all_nil)⟩
     refine step_cons ?_ ?_
     · intro zy218 zw219 zhc220 zhf221 zhp222
       have zh223 : zy218 138 = .pointer (some ⟨zb145, 0, none⟩) := (Sp.out0 (zhp222 7 138 (by kernel_rfl) (by kernel_rfl))).1
       have zh224 : zy218 134 = .bool true := (Sp.out0 (zhp222 3 134 (by kernel_rfl) (by kernel_rfl))).1
       have zS225 := zS149.quiet zhc220
       refine step_yes (wY_t zh224) ?_
       refine yenv [(138, .pointer (some ⟨zb145, 0, none⟩))] (ag_cons zh223 (ag_nil)) ?_
       have zS226 := zS225.loc
       refine Y.pure_ (.pointer (some ⟨zb145, 0, none⟩)) ?_
       exact ⟨zS226.ch, Sp.mk_holds [] (all_nil)⟩
     refine step_cons ?_ ?_
     · intro zy227 zw228 zhc229 zhf230 zhp231
       have zh232 : zy227 139 = .pointer (some ⟨zb145, 0, none⟩) := (Sp.out0 (zhp231 8 139 (by kernel_rfl) (by kernel_rfl))).1
       have zh233 : zy227 134 = .bool true := (Sp.out0 (zhp231 3 134 (by kernel_rfl) (by kernel_rfl))).1
       have zS234 := zS149.quiet zhc229
       refine step_yes (wY_t zh233) ?_
       refine yenv [(139, .pointer (some ⟨zb145, 0, none⟩))] (ag_cons zh232 (ag_nil)) ?_
       have zS235 := zS234.loc
       refine Y.load1_ zS235 0 (.int .i64 zh138.source) zb145 0 ?_
       exact ⟨zS235.ch, Sp.mk_holds [] (all_nil)⟩
     refine step_cons ?_ ?_
     · intro zy236 zw237 zhc238 zhf239 zhp240
       have zh241 : zy236 136 = .int .i64 zr95.1.holder := (Sp.out0 (zhp240 5 136 (by kernel_rfl) (by kernel_rfl))).1
       have zh242 : zy236 140 = .int .i64 zh138.source := (Sp.out0 (zhp240 9 140 (by kernel_rfl) (by kernel_rfl))).1
       have zh243 : zy236 134 = .bool true := (Sp.out0 (zhp240 3 134 (by kernel_rfl) (by kernel_rfl))).1
       have zS244 := zS149.quiet zhc238
       refine step_yes (wY_t zh243) ?_
       refine yenv [(136, .int .i64 zr95.1.holder), (140, .int .i64 zh138.source)] (ag_cons zh241 (ag_cons zh242 (ag_nil))) ?_
       have zS245 := zS244.loc
       refine Y.pureE_ (.bool (zr95.1.holder == zh138.source)) (.bool true) (congrArg Value.bool (eqT (by omega))) ?_
       exact ⟨zS245.ch, Sp.mk_holds [] (all_nil)⟩
     refine step_cons ?_ ?_
     · intro zy246 zw247 zhc248 zhf249 zhp250
       have zh251 : zy246 134 = .bool true := (Sp.out0 (zhp250 3 134 (by kernel_rfl) (by kernel_rfl))).1
       have zh252 : zy246 141 = .bool true := (Sp.out0 (zhp250 10 141 (by kernel_rfl) (by kernel_rfl))).1
       have zS253 := zS149.quiet zhc248
       refine step1 ?_
       refine yenv [(134, .bool true), (141, .bool true)] (ag_cons zh251 (ag_cons zh252 (ag_nil))) ?_
       have zS254 := zS253.loc
       refine Y.pure_ (.bool true) ?_
       exact ⟨zS254.ch, Sp.mk_holds [] (all_nil)⟩
     refine step_cons ?_ ?_
     · intro zy255 zw256 zhc257 zhf258 zhp259
       have zh260 : zy255 142 = .bool true := (Sp.out0 (zhp259 11 142 (by kernel_rfl) (by kernel_rfl))).1
       have zS261 := zS149.quiet zhc257
       refine step1 ?_
       refine yenv [(142, .bool true)] (ag_cons zh260 (ag_nil)) ?_
       have zS262 := zS261.loc
       refine Y.pure_ (.bool true) ?_
       exact ⟨zS262.ch, Sp.mk_holds [] (all_nil)⟩
     refine step_cons ?_ ?_
     · intro zy263 zw264 zhc265 zhf266 zhp267
       have zh268 : zy263 9 = .pointer (some ⟨zb21, 0, none⟩) := (zhf266 9 (by kernel_rfl)).trans (by kernel_rfl)
       have zh269 : zy263 143 = .bool true := (Sp.out0 (zhp267 12 143 (by kernel_rfl) (by kernel_rfl))).1
       have zS270 := zS149.quiet zhc265
       refine step_yes (wY_t zh269) ?_
       refine yenv [(9, .pointer (some ⟨zb21, 0, none⟩))] (ag_cons zh268 (ag_nil)) ?_
       have zS271 := zS270.loc
       refine Y.move_ ?_
       exact ⟨zS271.ch, Sp.mk_holds [] (all_nil)⟩
     refine step_cons ?_ ?_
     · intro zy272 zw273 zhc274 zhf275 zhp276
       have zh277 : zy272 144 = .pointer (some ⟨zb21, 0, none⟩) := (Sp.out0 (zhp276 13 144 (by kernel_rfl) (by kernel_rfl))).1
       have zh278 : zy272 143 = .bool true := (Sp.out0 (zhp276 12 143 (by kernel_rfl) (by kernel_rfl))).1
       have zS279 := zS149.quiet zhc274
       refine step_yes (wY_t zh278) ?_
       refine yenv [(144, .pointer (some ⟨zb21, 0, none⟩))] (ag_cons zh277 (ag_nil)) ?_
       have zS280 := zS279.loc
       refine Y.call_ 12 #[.pointer (some ⟨zb21, 0, none⟩)] ?_
       have zS286 : St [] w (zq93 ++ ([⟨zb145, true, .cells (([.int .i64 zh138.source, .int .i64 zh138.rank, .int .i64 zh138.age.n, .int .i64 zh138.age.most] : List Value) ++ zt146).toArray 32 (0, 0)⟩, ⟨zb103, true, .cells (tokC zr95.1) 54 (0, 0)⟩, ⟨zb49, true, .cells (tokC zr41.1) 54 (0, 0)⟩, ⟨zb16, true, .cells (polP p ka kn kc) 48 (0, 0)⟩, ⟨zb7, true, .cells #[.int .u8 kd, .int .i64 f, .bool nw] 64 (0, 0)⟩, ⟨zb4, true, .cells (tokC t) 54 (0, 0)⟩, ⟨zb1, true, .cells (polC q pa pn pc) 48 (0, 0)⟩] ++ (zq110 ++ (zq31 ++ (zq56 ++ ([] : List Blk)))))) _ := zS279.re (R := ([] : List Blk)) [[⟨zb145, true, .cells (([.int .i64 zh138.source, .int .i64 zh138.rank, .int .i64 zh138.age.n, .int .i64 zh138.age.most] : List Value) ++ zt146).toArray 32 (0, 0)⟩], [⟨zb103, true, .cells (tokC zr95.1) 54 (0, 0)⟩], [⟨zb49, true, .cells (tokC zr41.1) 54 (0, 0)⟩], [⟨zb16, true, .cells (polP p ka kn kc) 48 (0, 0)⟩], [⟨zb7, true, .cells #[.int .u8 kd, .int .i64 f, .bool nw] 64 (0, 0)⟩], [⟨zb4, true, .cells (tokC t) 54 (0, 0)⟩], [⟨zb1, true, .cells (polC q pa pn pc) 48 (0, 0)⟩], zq110, zq93, zq31, zq56] [8, 0, 1, 2, 3, 4, 5, 6, 7, 9, 10]
       refine (q_listQ zh94 zS286).mono ?_; rintro _ zw281 ⟨⟨zk284, zc285, rfl⟩, zh282⟩
       have zS283 := zS280.quiet zh282
       exact ⟨zS283.ch, Sp.mk_holds [zk284, zc285] (all_nil)⟩
     refine step_cons ?_ ?_
     · intro zy287 zw288 zhc289 zhf290 zhp291
       have zo296 := Sp.out2 (zhp291 14 145 (by kernel_rfl) (by kernel_rfl))
       obtain ⟨zb293, zb294, zh292', zg295'⟩ := zo296
       have zh292 : zy287 145 = .slice (optA zb293) zr95.2.2.length zb294 := zh292'
       have zg295 : ∀ p ∈ ([] : List (Nat × Obj)), zw119.heap.size ≤ p.1 ∧ zw288.heap[p.1]? = some p.2 := zg295'
       have zh297 : zy287 143 = .bool true := (Sp.out0 (zhp291 12 143 (by kernel_rfl) (by kernel_rfl))).1
       have zS298 := zS149.quiet zhc289
       refine step_yes (wY_t zh297) ?_
       refine yenv [(145, .slice (optA zb293) zr95.2.2.length zb294)] (ag_cons zh292 (ag_nil)) ?_
       have zS299 := zS298.loc
       refine Y.pure_ (.int .i64 ((zr95.2.2.length : Nat) : Int)) ?_
       exact ⟨zS299.ch, Sp.mk_holds [] (all_nil)⟩
     refine step_cons ?_ ?_
     · intro zy300 zw301 zhc302 zhf303 zhp304
       have zh305 : zy300 15 = .slice zx83 zr41.2.2.2.length zc84 := (zhf303 15 (by kernel_rfl)).trans (by kernel_rfl)
       have zh306 : zy300 143 = .bool true := (Sp.out0 (zhp304 12 143 (by kernel_rfl) (by kernel_rfl))).1
       have zS307 := zS149.quiet zhc302
       refine step_yes (wY_t zh306) ?_
       refine yenv [(15, .slice zx83 zr41.2.2.2.length zc84)] (ag_cons zh305 (ag_nil)) ?_
       have zS308 := zS307.loc
       refine Y.move_ ?_
       exact ⟨zS308.ch, Sp.mk_holds [] (all_nil)⟩
     refine step_cons ?_ ?_
     · intro zy309 zw310 zhc311 zhf312 zhp313
       have zh314 : zy309 147 = .slice zx83 zr41.2.2.2.length zc84 := (Sp.out0 (zhp313 16 147 (by kernel_rfl) (by kernel_rfl))).1
       have zh315 : zy309 143 = .bool true := (Sp.out0 (zhp313 12 143 (by kernel_rfl) (by kernel_rfl))).1
       have zS316 := zS149.quiet zhc311
       refine step_yes (wY_t zh315) ?_
       refine yenv [(147, .slice zx83 zr41.2.2.2.length zc84)] (ag_cons zh314 (ag_nil)) ?_
       have zS317 := zS316.loc
       refine Y.pure_ (.int .i64 ((zr41.2.2.2.length : Nat) : Int)) ?_
       exact ⟨zS317.ch, Sp.mk_holds [] (all_nil)⟩
     refine step_cons ?_ ?_
     · intro zy318 zw319 zhc320 zhf321 zhp322
       have zh323 : zy318 148 = .int .i64 ((zr41.2.2.2.length : Nat) : Int) := (Sp.out0 (zhp322 17 148 (by kernel_rfl) (by kernel_rfl))).1
       have zh324 : zy318 143 = .bool true := (Sp.out0 (zhp322 12 143 (by kernel_rfl) (by kernel_rfl))).1
       have zS325 := zS149.quiet zhc320
       refine step_yes (wY_t zh324) ?_
       refine yenv [(148, .int .i64 ((zr41.2.2.2.length : Nat) : Int))] (ag_cons zh323 (ag_nil)) ?_
       have zS326 := zS325.loc
       refine Y.sum_ .i64 (((zr41.2.2.2.length : Nat) : Int) - 1) (IntWalk.i64_in _ (by omega)) ?_
       exact ⟨zS326.ch, Sp.mk_holds [] (all_nil)⟩
     refine step_cons ?_ ?_
     · intro zy327 zw328 zhc329 zhf330 zhp331
       have zh332 : zy327 146 = .int .i64 ((zr95.2.2.length : Nat) : Int) := (Sp.out0 (zhp331 15 146 (by kernel_rfl) (by kernel_rfl))).1
       have zh333 : zy327 149 = .int .i64 (((zr41.2.2.2.length : Nat) : Int) - 1) := (Sp.out0 (zhp331 18 149 (by kernel_rfl) (by kernel_rfl))).1
       have zh334 : zy327 143 = .bool true := (Sp.out0 (zhp331 12 143 (by kernel_rfl) (by kernel_rfl))).1
       have zS335 := zS149.quiet zhc329
       refine step_yes (wY_t zh334) ?_
       refine yenv [(146, .int .i64 ((zr95.2.2.length : Nat) : Int)), (149, .int .i64 (((zr41.2.2.2.length : Nat) : Int) - 1))] (ag_cons zh332 (ag_cons zh333 (ag_nil))) ?_
       have zS336 := zS335.loc
       refine Y.pureE_ (.bool (((zr95.2.2.length : Nat) : Int) == (((zr41.2.2.2.length : Nat) : Int) - 1))) (.bool true) (congrArg Value.bool (eqT (by omega))) ?_
       exact ⟨zS336.ch, Sp.mk_holds [] (all_nil)⟩
     refine step_cons ?_ ?_
     · intro zy337 zw338 zhc339 zhf340 zhp341
       have zh342 : zy337 143 = .bool true := (Sp.out0 (zhp341 12 143 (by kernel_rfl) (by kernel_rfl))).1
       have zh343 : zy337 150 = .bool true := (Sp.out0 (zhp341 19 150 (by kernel_rfl) (by kernel_rfl))).1
       have zS344 := zS149.quiet zhc339
       refine step1 ?_
       refine yenv [(143, .bool true), (150, .bool true)] (ag_cons zh342 (ag_cons zh343 (ag_nil))) ?_
       have zS345 := zS344.loc
       refine Y.pure_ (.bool true) ?_
       exact ⟨zS345.ch, Sp.mk_holds [] (all_nil)⟩
     refine step_cons ?_ ?_
     · intro zy346 zw347 zhc348 zhf349 zhp350
       have zh351 : zy346 151 = .bool true := (Sp.out0 (zhp350 20 151 (by kernel_rfl) (by kernel_rfl))).1
       have zS352 := zS149.quiet zhc348
       refine step1 ?_
       refine yenv [(151, .bool true)] (ag_cons zh351 (ag_nil)) ?_
       have zS353 := zS352.loc
       refine Y.pure_ (.bool true) ?_
       exact ⟨zS353.ch, Sp.mk_holds [] (all_nil)⟩
     refine step_cons ?_ ?_
     · intro zy354 zw355 zhc356 zhf357 zhp358
       have zh359 : zy354 5 = .pointer (some ⟨zb7, 0, none⟩) := (zhf357 5 (by kernel_rfl)).trans (by kernel_rfl)
       have zh360 : zy354 152 = .bool true := (Sp.out0 (zhp358 21 152 (by kernel_rfl) (by kernel_rfl))).1
       have zS361 := zS149.quiet zhc356
       refine step_yes (wY_t zh360) ?_
       refine yenv [(5, .pointer (some ⟨zb7, 0, none⟩))] (ag_cons zh359 (ag_nil)) ?_
       have zS362 := zS361.loc
       refine Y.pure_ (.pointer (some ⟨zb7, 1, none⟩)) ?_
       exact ⟨zS362.ch, Sp.mk_holds [] (all_nil)⟩
     refine step_cons ?_ ?_
     · intro zy363 zw364 zhc365 zhf366 zhp367
       have zh368 : zy363 153 = .pointer (some ⟨zb7, 1, none⟩) := (Sp.out0 (zhp367 22 153 (by kernel_rfl) (by kernel_rfl))).1
       have zh369 : zy363 152 = .bool true := (Sp.out0 (zhp367 21 152 (by kernel_rfl) (by kernel_rfl))).1
       have zS370 := zS149.quiet zhc365
       refine step_yes (wY_t zh369) ?_
       refine yenv [(153, .pointer (some ⟨zb7, 1, none⟩))] (ag_cons zh368 (ag_nil)) ?_
       have zS371 := zS370.loc
       refine Y.load1_ zS371 4 (.int .i64 f) zb7 1 ?_
       exact ⟨zS371.ch, Sp.mk_holds [] (all_nil)⟩
     refine step_cons ?_ ?_
     · intro zy372 zw373 zhc374 zhf375 zhp376
       have zh377 : zy372 11 = .pointer (some ⟨zb49, 0, none⟩) := (zhf375 11 (by kernel_rfl)).trans (by kernel_rfl)
       have zh378 : zy372 152 = .bool true := (Sp.out0 (zhp376 21 152 (by kernel_rfl) (by kernel_rfl))).1
       have zS379 := zS149.quiet zhc374
       refine step_yes (wY_t zh378) ?_
       refine yenv [(11, .pointer (some ⟨zb49, 0, none⟩))] (ag_cons zh377 (ag_nil)) ?_
       have zS380 := zS379.loc
       refine Y.pure_ (.pointer (some ⟨zb49, 0, none⟩)) ?_
       exact ⟨zS380.ch, Sp.mk_holds [] (all_nil)⟩
     refine step_cons ?_ ?_
     · intro zy381 zw382 zhc383 zhf384 zhp385
       have zh386 : zy381 155 = .pointer (some ⟨zb49, 0, none⟩) := (Sp.out0 (zhp385 24 155 (by kernel_rfl) (by kernel_rfl))).1
       have zh387 : zy381 152 = .bool true := (Sp.out0 (zhp385 21 152 (by kernel_rfl) (by kernel_rfl))).1
       have zS388 := zS149.quiet zhc383
       refine step_yes (wY_t zh387) ?_
       refine yenv [(155, .pointer (some ⟨zb49, 0, none⟩))] (ag_cons zh386 (ag_nil)) ?_
       have zS389 := zS388.loc
       refine Y.load1_ zS389 2 (.int .i64 zr41.1.holder) zb49 0 ?_
       exact ⟨zS389.ch, Sp.mk_holds [] (all_nil)⟩
     refine step_cons ?_ ?_
     · intro zy390 zw391 zhc392 zhf393 zhp394
       have zh395 : zy390 154 = .int .i64 f := (Sp.out0 (zhp394 23 154 (by kernel_rfl) (by kernel_rfl))).1
       have zh396 : zy390 156 = .int .i64 zr41.1.holder := (Sp.out0 (zhp394 25 156 (by kernel_rfl) (by kernel_rfl))).1
       have zh397 : zy390 152 = .bool true := (Sp.out0 (zhp394 21 152 (by kernel_rfl) (by kernel_rfl))).1
       have zS398 := zS149.quiet zhc392
       refine step_yes (wY_t zh397) ?_
       refine yenv [(154, .int .i64 f), (156, .int .i64 zr41.1.holder)] (ag_cons zh395 (ag_cons zh396 (ag_nil))) ?_
       have zS399 := zS398.loc
       refine Y.pureE_ (.bool (f == zr41.1.holder)) (.bool true) (congrArg Value.bool (eqT (by omega))) ?_
       exact ⟨zS399.ch, Sp.mk_holds [] (all_nil)⟩
     refine step_cons ?_ ?_
     · intro zy400 zw401 zhc402 zhf403 zhp404
       have zh405 : zy400 152 = .bool true := (Sp.out0 (zhp404 21 152 (by kernel_rfl) (by kernel_rfl))).1
       have zh406 : zy400 157 = .bool true := (Sp.out0 (zhp404 26 157 (by kernel_rfl) (by kernel_rfl))).1
       have zS407 := zS149.quiet zhc402
       refine step1 ?_
       refine yenv [(152, .bool true), (157, .bool true)] (ag_cons zh405 (ag_cons zh406 (ag_nil))) ?_
       have zS408 := zS407.loc
       refine Y.pure_ (.bool true) ?_
       exact ⟨zS408.ch, Sp.mk_holds [] (all_nil)⟩
     refine step_cons ?_ ?_
     · intro zy409 zw410 zhc411 zhf412 zhp413
       have zh414 : zy409 158 = .bool true := (Sp.out0 (zhp413 27 158 (by kernel_rfl) (by kernel_rfl))).1
       have zS415 := zS149.quiet zhc411
       refine step1 ?_
       refine yenv [(158, .bool true)] (ag_cons zh414 (ag_nil)) ?_
       have zS416 := zS415.loc
       refine Y.pure_ (.bool true) ?_
       exact ⟨zS416.ch, Sp.mk_holds [] (all_nil)⟩
     exact step_nil
   intro zv417 zw418 zhc419 zha420
   have zh421 : zv417 0 = .slice zx83 zr41.2.2.2.length zc84 := (Sp.out0 (zha420 0 (by kernel_rfl))).1
   have zh422 : zv417 1 = .int .i64 ((zr41.2.2.2.length : Nat) : Int) := (Sp.out0 (zha420 1 (by kernel_rfl))).1
   have zh423 : zv417 2 = .bool true := (Sp.out0 (zha420 2 (by kernel_rfl))).1
   have zh424 : zv417 3 = .bool true := (Sp.out0 (zha420 3 (by kernel_rfl))).1
   have zh425 : zv417 4 = .pointer (some ⟨zb103, 0, none⟩) := (Sp.out0 (zha420 4 (by kernel_rfl))).1
   have zh426 : zv417 5 = .int .i64 zr95.1.holder := (Sp.out0 (zha420 5 (by kernel_rfl))).1
   have zh427 : zv417 6 = .slice zx83 zr41.2.2.2.length zc84 := (Sp.out0 (zha420 6 (by kernel_rfl))).1
   have zh428 : zv417 7 = .pointer (some ⟨zb145, 0, none⟩) := (Sp.out0 (zha420 7 (by kernel_rfl))).1
   have zh429 : zv417 8 = .pointer (some ⟨zb145, 0, none⟩) := (Sp.out0 (zha420 8 (by kernel_rfl))).1
   have zh430 : zv417 9 = .int .i64 zh138.source := (Sp.out0 (zha420 9 (by kernel_rfl))).1
   have zh431 : zv417 10 = .bool true := (Sp.out0 (zha420 10 (by kernel_rfl))).1
   have zh432 : zv417 11 = .bool true := (Sp.out0 (zha420 11 (by kernel_rfl))).1
   have zh433 : zv417 12 = .bool true := (Sp.out0 (zha420 12 (by kernel_rfl))).1
   have zh434 : zv417 13 = .pointer (some ⟨zb21, 0, none⟩) := (Sp.out0 (zha420 13 (by kernel_rfl))).1
   have zo439 := Sp.out2 (zha420 14 (by kernel_rfl))
   obtain ⟨zb436, zb437, zh435', zg438'⟩ := zo439
   have zh435 : zv417 14 = .slice (optA zb436) zr95.2.2.length zb437 := zh435'
   have zg438 : ∀ p ∈ ([] : List (Nat × Obj)), zw119.heap.size ≤ p.1 ∧ zw418.heap[p.1]? = some p.2 := zg438'
   have zh440 : zv417 15 = .int .i64 ((zr95.2.2.length : Nat) : Int) := (Sp.out0 (zha420 15 (by kernel_rfl))).1
   have zh441 : zv417 16 = .slice zx83 zr41.2.2.2.length zc84 := (Sp.out0 (zha420 16 (by kernel_rfl))).1
   have zh442 : zv417 17 = .int .i64 ((zr41.2.2.2.length : Nat) : Int) := (Sp.out0 (zha420 17 (by kernel_rfl))).1
   have zh443 : zv417 18 = .int .i64 (((zr41.2.2.2.length : Nat) : Int) - 1) := (Sp.out0 (zha420 18 (by kernel_rfl))).1
   have zh444 : zv417 19 = .bool true := (Sp.out0 (zha420 19 (by kernel_rfl))).1
   have zh445 : zv417 20 = .bool true := (Sp.out0 (zha420 20 (by kernel_rfl))).1
   have zh446 : zv417 21 = .bool true := (Sp.out0 (zha420 21 (by kernel_rfl))).1
   have zh447 : zv417 22 = .pointer (some ⟨zb7, 1, none⟩) := (Sp.out0 (zha420 22 (by kernel_rfl))).1
   have zh448 : zv417 23 = .int .i64 f := (Sp.out0 (zha420 23 (by kernel_rfl))).1
   have zh449 : zv417 24 = .pointer (some ⟨zb49, 0, none⟩) := (Sp.out0 (zha420 24 (by kernel_rfl))).1
   have zh450 : zv417 25 = .int .i64 zr41.1.holder := (Sp.out0 (zha420 25 (by kernel_rfl))).1
   have zh451 : zv417 26 = .bool true := (Sp.out0 (zha420 26 (by kernel_rfl))).1
   have zh452 : zv417 27 = .bool true := (Sp.out0 (zha420 27 (by kernel_rfl))).1
   have zh453 : zv417 28 = .bool true := (Sp.out0 (zha420 28 (by kernel_rfl))).1
   have zS454 := zS149.quiet zhc419
   refine ⟨[.slice zx83 zr41.2.2.2.length zc84, .int .i64 ((zr41.2.2.2.length : Nat) : Int), .bool true, .bool true, .pointer (some ⟨zb103, 0, none⟩), .int .i64 zr95.1.holder, .slice zx83 zr41.2.2.2.length zc84, .pointer (some ⟨zb145, 0, none⟩), .pointer (some ⟨zb145, 0, none⟩), .int .i64 zh138.source, .bool true, .bool true, .bool true, .pointer (some ⟨zb21, 0, none⟩), .slice (optA zb436) zr95.2.2.length zb437, .int .i64 ((zr95.2.2.length : Nat) : Int), .slice zx83 zr41.2.2.2.length zc84, .int .i64 ((zr41.2.2.2.length : Nat) : Int), .int .i64 (((zr41.2.2.2.length : Nat) : Int) - 1), .bool true, .bool true, .bool true, .pointer (some ⟨zb7, 1, none⟩), .int .i64 f, .pointer (some ⟨zb49, 0, none⟩), .int .i64 zr41.1.holder, .bool true, .bool true, .bool true], by kernel_rfl, va_cons zh421 (va_cons zh422 (va_cons zh423 (va_cons zh424 (va_cons zh425 (va_cons zh426 (va_cons zh427 (va_cons zh428 (va_cons zh429 (va_cons zh430 (va_cons zh431 (va_cons zh432 (va_cons zh433 (va_cons zh434 (va_cons zh435 (va_cons zh440 (va_cons zh441 (va_cons zh442 (va_cons zh443 (va_cons zh444 (va_cons zh445 (va_cons zh446 (va_cons zh447 (va_cons zh448 (va_cons zh449 (va_cons zh450 (va_cons zh451 (va_cons zh452 (va_cons zh453 (va_nil))))))))))))))))))))))))))))), ?_⟩
   refine nil_ (then_n (wp_ret ?_))
   refine ret_ rfl (res_ [.tmp 6] [.bool true] (.bool true) ⟨res_tmp, trivial⟩) ?_
   exact ⟨rfl, zS454.ch⟩
 intro zh455
 have zh456 := neF' zh455
 refine skip_ ?_
 refine skip_ ?_
 refine skip_ ?_
 refine skip_ ?_
 refine skip_ ?_
 refine skip_ ?_
 refine skip_ ?_
 refine skip_ ?_
 refine skip_ ?_
 refine skip_ ?_
 refine skip_ ?_
 refine pure_ (.bool false) ?_
 refine nil_ (then_n (cond_F ?_))
 refine wp_skip (then_n (seq_ (seq_ (reg_ ?_))))
 refine pure_ (.int .i64 zr41.2.2.1) ?_
 refine pureE_ (.bool (zr41.2.2.1 == 0)) (.bool true) (congrArg Value.bool (eqT (by omega))) ?_
 refine pure_ (.bool true) ?_
 refine pure_ (.int .i64 zr41.2.1) ?_
 refine pure_ (.bool (zr41.2.1 == 0)) ?_
 refine pure_ (.bool (zr41.2.1 == 0)) ?_
 refine pure_ (.bool (zr41.2.1 == 0)) ?_
 refine slot_ 72 (zr41.2.1 == 0) ?_ ?_
 · intro zh457
   have zh458 := eqT' zh457
   have zh461 := (ask_cases ze47).2.1 (by omega) (by omega)
   obtain ⟨zh459, zh460⟩ := zh461
   have zh462 : zr41.1.holder = t.holder := by rw [zh459]
   have zh463 : zr41.1.epoch = t.epoch := by rw [zh459]
   have zh464 : zr41.1.offer = t.offer := by rw [zh459]
   have zh465 : zr41.1.oa.n = t.oa.n := by rw [zh459]
   have zh466 : zr41.1.oa.most = t.oa.most := by rw [zh459]
   have zh467 : zr41.1.la.n = t.la.n := by rw [zh459]
   have zh468 : zr41.1.la.most = t.la.most := by rw [zh459]
   refine loadN_ zS68 0 8 (tokC zr41.1) zb49 0 ?_
   refine loadN_ zS68 3 8 (tokC t) zb4 0 ?_
   refine eqAgg_ true ((zr41.1.holder == t.holder) && ((zr41.1.epoch == t.epoch) && ((zr41.1.offer == t.offer) && (((zr41.1.oa.n == t.oa.n) && ((zr41.1.oa.most == t.oa.most) && true)) && (((zr41.1.la.n == t.la.n) && ((zr41.1.la.most == t.la.most) && true)) && ((zr41.1.bad == t.bad) && true)))))) (tokC zr41.1) (tokC t) ?_
   refine move_ ?_
   refine slotK_ 76 (!((zr41.1.holder == t.holder) && ((zr41.1.epoch == t.epoch) && ((zr41.1.offer == t.offer) && (((zr41.1.oa.n == t.oa.n) && ((zr41.1.oa.most == t.oa.most) && true)) && (((zr41.1.la.n == t.la.n) && ((zr41.1.la.most == t.la.most) && true)) && ((zr41.1.bad == t.bad) && true))))))) false (notF (andT (eqT (by omega)) (andT (eqT (by omega)) (andT (eqT (by omega)) (andT (andT (eqT (by omega)) (andT (eqT (by omega)) (rfl))) (andT (andT (eqT (by omega)) (andT (eqT (by omega)) (rfl))) (andT (beq_iff_eq.2 (by rw [zh459])) (rfl)))))))) ?_
   refine move_ ?_
   refine call_ 12 #[.pointer (some ⟨zb21, 0, none⟩)] ?_
   have zS474 : St [] w (zq39 ++ ([⟨zb49, true, .cells (tokC zr41.1) 54 (0, 0)⟩, ⟨zb16, true, .cells (polP p ka kn kc) 48 (0, 0)⟩, ⟨zb7, true, .cells #[.int .u8 kd, .int .i64 f, .bool nw] 64 (0, 0)⟩, ⟨zb4, true, .cells (tokC t) 54 (0, 0)⟩, ⟨zb1, true, .cells (polC q pa pn pc) 48 (0, 0)⟩] ++ (zq31 ++ (zq56 ++ ([] : List Blk))))) zw65 := zS68.re (R := ([] : List Blk)) [[⟨zb49, true, .cells (tokC zr41.1) 54 (0, 0)⟩], [⟨zb16, true, .cells (polP p ka kn kc) 48 (0, 0)⟩], [⟨zb7, true, .cells #[.int .u8 kd, .int .i64 f, .bool nw] 64 (0, 0)⟩], [⟨zb4, true, .cells (tokC t) 54 (0, 0)⟩], [⟨zb1, true, .cells (polC q pa pn pc) 48 (0, 0)⟩], zq31, zq56, zq39] [7, 0, 1, 2, 3, 4, 5, 6]
   refine (q_list zh40 zS474).mono ?_; rintro _ zw475 ⟨zx469, zc470, zq471, rfl, zh472, zS476⟩
   have zh473 : zr41.2.2.2.length ≤ 3 := q_len zh40
   have zS478 : St [] w ([⟨zb49, true, .cells (tokC zr41.1) 54 (0, 0)⟩, ⟨zb16, true, .cells (polP p ka kn kc) 48 (0, 0)⟩, ⟨zb7, true, .cells #[.int .u8 kd, .int .i64 f, .bool nw] 64 (0, 0)⟩, ⟨zb4, true, .cells (tokC t) 54 (0, 0)⟩, ⟨zb1, true, .cells (polC q pa pn pc) 48 (0, 0)⟩] ++ (zq471 ++ (zq39 ++ (zq31 ++ (zq56 ++ ([] : List Blk)))))) zw475 := zS476.re (R := ([] : List Blk)) [zq471, zq39, [⟨zb49, true, .cells (tokC zr41.1) 54 (0, 0)⟩], [⟨zb16, true, .cells (polP p ka kn kc) 48 (0, 0)⟩], [⟨zb7, true, .cells #[.int .u8 kd, .int .i64 f, .bool nw] 64 (0, 0)⟩], [⟨zb4, true, .cells (tokC t) 54 (0, 0)⟩], [⟨zb1, true, .cells (polC q pa pn pc) 48 (0, 0)⟩], zq31, zq56] [2, 3, 4, 5, 6, 0, 1, 7, 8]
   refine pure_ (.int .i64 ((zr41.2.2.2.length : Nat) : Int)) ?_
   refine move_ ?_
   refine pure_ (.int .i64 ((((waitsL p (Int.fdiv kd (2 ^ 2))).length) : Nat) : Int)) ?_
   refine sum_ .i64 (((((waitsL p (Int.fdiv kd (2 ^ 2))).length) : Nat) : Int) + 1) (IntWalk.i64_in _ (by omega)) ?_
   refine pureE_ (.bool (((zr41.2.2.2.length : Nat) : Int) != (((((waitsL p (Int.fdiv kd (2 ^ 2))).length) : Nat) : Int) + 1))) (.bool false) (congrArg Value.bool (neF (by omega))) ?_
   refine pure_ (.bool false) ?_
   refine pure_ (.bool false) ?_
   refine pure_ (.bool false) ?_
   refine pure_ (.int .i64 zr41.2.1) ?_
   refine pureE_ (.bool (zr41.2.1 != 0)) (.bool false) (congrArg Value.bool (neF (by omega))) ?_
   refine pure_ (.bool false) ?_
   refine skip_ ?_
   refine skip_ ?_
   refine skip_ ?_
   refine skip_ ?_
   refine skip_ ?_
   refine skip_ ?_
   refine skip_ ?_
   refine skip_ ?_
   refine skip_ ?_
   refine skip_ ?_
   refine skip_ ?_
   refine skip_ ?_
   refine skip_ ?_
   refine skip_ ?_
   refine skip_ ?_
   refine skip_ ?_
   refine skip_ ?_
   refine pure_ (.bool false) ?_
   refine pure_ (.bool false) ?_
   refine nil_ (then_n (cond_F ?_))
   refine wp_skip (then_n (seq_ (reg_ ?_)))
   refine move_ ?_
   refine call_ 12 #[.pointer (some ⟨zb21, 0, none⟩)] ?_
   have zS484 : St [] w (zq39 ++ ([⟨zb49, true, .cells (tokC zr41.1) 54 (0, 0)⟩, ⟨zb16, true, .cells (polP p ka kn kc) 48 (0, 0)⟩, ⟨zb7, true, .cells #[.int .u8 kd, .int .i64 f, .bool nw] 64 (0, 0)⟩, ⟨zb4, true, .cells (tokC t) 54 (0, 0)⟩, ⟨zb1, true, .cells (polC q pa pn pc) 48 (0, 0)⟩] ++ (zq471 ++ (zq31 ++ (zq56 ++ ([] : List Blk)))))) zw475 := zS478.re (R := ([] : List Blk)) [[⟨zb49, true, .cells (tokC zr41.1) 54 (0, 0)⟩], [⟨zb16, true, .cells (polP p ka kn kc) 48 (0, 0)⟩], [⟨zb7, true, .cells #[.int .u8 kd, .int .i64 f, .bool nw] 64 (0, 0)⟩], [⟨zb4, true, .cells (tokC t) 54 (0, 0)⟩], [⟨zb1, true, .cells (polC q pa pn pc) 48 (0, 0)⟩], zq471, zq39, zq31, zq56] [6, 0, 1, 2, 3, 4, 5, 7, 8]
   refine (q_list zh40 zS484).mono ?_; rintro _ zw485 ⟨zx479, zc480, zq481, rfl, zh482, zS486⟩
   have zh483 : zr41.2.2.2.length ≤ 3 := q_len zh40
   have zS488 : St [] w ([⟨zb49, true, .cells (tokC zr41.1) 54 (0, 0)⟩, ⟨zb16, true, .cells (polP p ka kn kc) 48 (0, 0)⟩, ⟨zb7, true, .cells #[.int .u8 kd, .int .i64 f, .bool nw] 64 (0, 0)⟩, ⟨zb4, true, .cells (tokC t) 54 (0, 0)⟩, ⟨zb1, true, .cells (polC q pa pn pc) 48 (0, 0)⟩] ++ (zq481 ++ (zq39 ++ (zq471 ++ (zq31 ++ (zq56 ++ ([] : List Blk))))))) zw485 := zS486.re (R := ([] : List Blk)) [zq481, zq39, [⟨zb49, true, .cells (tokC zr41.1) 54 (0, 0)⟩], [⟨zb16, true, .cells (polP p ka kn kc) 48 (0, 0)⟩], [⟨zb7, true, .cells #[.int .u8 kd, .int .i64 f, .bool nw] 64 (0, 0)⟩], [⟨zb4, true, .cells (tokC t) 54 (0, 0)⟩], [⟨zb1, true, .cells (polC q pa pn pc) 48 (0, 0)⟩], zq471, zq31, zq56] [2, 3, 4, 5, 6, 0, 1, 7, 8, 9]
   refine assign_ ?_
   refine nil_ (then_n (seq_ (reg_ ?_)))
   refine loadN_ zS488 0 8 (tokC zr41.1) zb49 0 ?_
   refine move_ ?_
   refine pure_ (.pointer (some ⟨zb7, 1, none⟩)) ?_
   refine load1_ zS488 2 (.int .i64 f) zb7 1 ?_
   refine call_ 21 #[.agg (tokC zr41.1), .pointer (some ⟨zb21, 0, none⟩), .int .i64 f] ?_
   have zS493 : St [] w (zq39 ++ ([⟨zb49, true, .cells (tokC zr41.1) 54 (0, 0)⟩, ⟨zb16, true, .cells (polP p ka kn kc) 48 (0, 0)⟩, ⟨zb7, true, .cells #[.int .u8 kd, .int .i64 f, .bool nw] 64 (0, 0)⟩, ⟨zb4, true, .cells (tokC t) 54 (0, 0)⟩, ⟨zb1, true, .cells (polC q pa pn pc) 48 (0, 0)⟩] ++ (zq481 ++ (zq471 ++ (zq31 ++ (zq56 ++ ([] : List Blk))))))) zw485 := zS488.re (R := ([] : List Blk)) [[⟨zb49, true, .cells (tokC zr41.1) 54 (0, 0)⟩], [⟨zb16, true, .cells (polP p ka kn kc) 48 (0, 0)⟩], [⟨zb7, true, .cells #[.int .u8 kd, .int .i64 f, .bool nw] 64 (0, 0)⟩], [⟨zb4, true, .cells (tokC t) 54 (0, 0)⟩], [⟨zb1, true, .cells (polC q pa pn pc) 48 (0, 0)⟩], zq481, zq39, zq471, zq31, zq56] [6, 0, 1, 2, 3, 4, 5, 7, 8, 9]
   refine (release_ zb21 3 zr41.2.2.2 zq39 zr41.1 f zh40 (by omega) _ zS493).mono ?_; rintro _ zw494 ⟨zq489, rfl, zh490, zS495⟩
   generalize ze497 : Sd.releaseTok zr41.1 zr41.2.2.2 f = zr491 at zh490 ⊢
   have zS498 : St [] w ([⟨zb49, true, .cells (tokC zr41.1) 54 (0, 0)⟩, ⟨zb16, true, .cells (polP p ka kn kc) 48 (0, 0)⟩, ⟨zb7, true, .cells #[.int .u8 kd, .int .i64 f, .bool nw] 64 (0, 0)⟩, ⟨zb4, true, .cells (tokC t) 54 (0, 0)⟩, ⟨zb1, true, .cells (polC q pa pn pc) 48 (0, 0)⟩] ++ (zq489 ++ (zq481 ++ (zq471 ++ (zq31 ++ (zq56 ++ ([] : List Blk))))))) zw494 := zS495.re (R := ([] : List Blk)) [zq489, [⟨zb49, true, .cells (tokC zr41.1) 54 (0, 0)⟩], [⟨zb16, true, .cells (polP p ka kn kc) 48 (0, 0)⟩], [⟨zb7, true, .cells #[.int .u8 kd, .int .i64 f, .bool nw] 64 (0, 0)⟩], [⟨zb4, true, .cells (tokC t) 54 (0, 0)⟩], [⟨zb1, true, .cells (polC q pa pn pc) 48 (0, 0)⟩], zq481, zq471, zq31, zq56] [1, 2, 3, 4, 5, 0, 6, 7, 8, 9]
   refine move_ ?_
   refine pure_ (.agg (tokC zr491.1)) ?_
   refine pure_ (.int .i64 zr491.2.1) ?_
   refine new_ zS498 (fun b => .pointer (some ⟨b, 0, none⟩)) (.cells #[.int .i64 0, .int .i64 0, .int .i64 0, .int .i64 0, .int .i64 0, .int .i64 0, .int .i64 0, .bool false] 54) ?_
   intro zb499 zw500 zS501
   refine store_ zS501 0 (.agg (tokC zr491.1)) zb499 0 ?_
   intro zw502 zS503
   refine pure_ (.int .i64 zr491.2.1) ?_
   refine nil_ (then_n (seq_ (reg_ ?_)))
   refine move_ ?_
   refine move_ ?_
   refine call_ 12 #[.pointer (some ⟨zb21, 0, none⟩)] ?_
   have zS509 : St [] w (zq489 ++ ([⟨zb499, true, .cells (tokC zr491.1) 54 (0, 0)⟩, ⟨zb49, true, .cells (tokC zr41.1) 54 (0, 0)⟩, ⟨zb16, true, .cells (polP p ka kn kc) 48 (0, 0)⟩, ⟨zb7, true, .cells #[.int .u8 kd, .int .i64 f, .bool nw] 64 (0, 0)⟩, ⟨zb4, true, .cells (tokC t) 54 (0, 0)⟩, ⟨zb1, true, .cells (polC q pa pn pc) 48 (0, 0)⟩] ++ (zq481 ++ (zq471 ++ (zq31 ++ (zq56 ++ ([] : List Blk))))))) zw502 := zS503.re (R := ([] : List Blk)) [[⟨zb499, true, .cells (tokC zr491.1) 54 (0, 0)⟩], [⟨zb49, true, .cells (tokC zr41.1) 54 (0, 0)⟩], [⟨zb16, true, .cells (polP p ka kn kc) 48 (0, 0)⟩], [⟨zb7, true, .cells #[.int .u8 kd, .int .i64 f, .bool nw] 64 (0, 0)⟩], [⟨zb4, true, .cells (tokC t) 54 (0, 0)⟩], [⟨zb1, true, .cells (polC q pa pn pc) 48 (0, 0)⟩], zq489, zq481, zq471, zq31, zq56] [6, 0, 1, 2, 3, 4, 5, 7, 8, 9, 10]
   refine (q_list zh490 zS509).mono ?_; rintro _ zw510 ⟨zx504, zc505, zq506, rfl, zh507, zS511⟩
   have zh508 : zr491.2.2.length ≤ 3 := q_len zh490
   have zS513 : St [] w ([⟨zb499, true, .cells (tokC zr491.1) 54 (0, 0)⟩, ⟨zb49, true, .cells (tokC zr41.1) 54 (0, 0)⟩, ⟨zb16, true, .cells (polP p ka kn kc) 48 (0, 0)⟩, ⟨zb7, true, .cells #[.int .u8 kd, .int .i64 f, .bool nw] 64 (0, 0)⟩, ⟨zb4, true, .cells (tokC t) 54 (0, 0)⟩, ⟨zb1, true, .cells (polC q pa pn pc) 48 (0, 0)⟩] ++ (zq506 ++ (zq489 ++ (zq481 ++ (zq471 ++ (zq31 ++ (zq56 ++ ([] : List Blk)))))))) zw510 := zS511.re (R := ([] : List Blk)) [zq506, zq489, [⟨zb499, true, .cells (tokC zr491.1) 54 (0, 0)⟩], [⟨zb49, true, .cells (tokC zr41.1) 54 (0, 0)⟩], [⟨zb16, true, .cells (polP p ka kn kc) 48 (0, 0)⟩], [⟨zb7, true, .cells #[.int .u8 kd, .int .i64 f, .bool nw] 64 (0, 0)⟩], [⟨zb4, true, .cells (tokC t) 54 (0, 0)⟩], [⟨zb1, true, .cells (polC q pa pn pc) 48 (0, 0)⟩], zq481, zq471, zq31, zq56] [2, 3, 4, 5, 6, 7, 0, 1, 8, 9, 10, 11]
   refine call_ 16 #[.slice zx479 zr41.2.2.2.length zc480, .slice zx504 zr491.2.2.length zc505] ?_
   have zS514 : St [] w (zq481 ++ (zq506 ++ ([⟨zb499, true, .cells (tokC zr491.1) 54 (0, 0)⟩, ⟨zb49, true, .cells (tokC zr41.1) 54 (0, 0)⟩, ⟨zb16, true, .cells (polP p ka kn kc) 48 (0, 0)⟩, ⟨zb7, true, .cells #[.int .u8 kd, .int .i64 f, .bool nw] 64 (0, 0)⟩, ⟨zb4, true, .cells (tokC t) 54 (0, 0)⟩, ⟨zb1, true, .cells (polC q pa pn pc) 48 (0, 0)⟩] ++ (zq489 ++ (zq471 ++ (zq31 ++ (zq56 ++ ([] : List Blk)))))))) zw510 := zS513.re (R := ([] : List Blk)) [[⟨zb499, true, .cells (tokC zr491.1) 54 (0, 0)⟩], [⟨zb49, true, .cells (tokC zr41.1) 54 (0, 0)⟩], [⟨zb16, true, .cells (polP p ka kn kc) 48 (0, 0)⟩], [⟨zb7, true, .cells #[.int .u8 kd, .int .i64 f, .bool nw] 64 (0, 0)⟩], [⟨zb4, true, .cells (tokC t) 54 (0, 0)⟩], [⟨zb1, true, .cells (polC q pa pn pc) 48 (0, 0)⟩], zq506, zq489, zq481, zq471, zq31, zq56] [8, 6, 0, 1, 2, 3, 4, 5, 7, 9, 10, 11]
   refine (same_ zr41.2.2.2 zr491.2.2 zh482 zh507 (by omega) zS514).mono ?_; rintro _ zw515 ⟨rfl, zS516⟩
   have zS518 : St [] w ([⟨zb499, true, .cells (tokC zr491.1) 54 (0, 0)⟩, ⟨zb49, true, .cells (tokC zr41.1) 54 (0, 0)⟩, ⟨zb16, true, .cells (polP p ka kn kc) 48 (0, 0)⟩, ⟨zb7, true, .cells #[.int .u8 kd, .int .i64 f, .bool nw] 64 (0, 0)⟩, ⟨zb4, true, .cells (tokC t) 54 (0, 0)⟩, ⟨zb1, true, .cells (polC q pa pn pc) 48 (0, 0)⟩] ++ (zq481 ++ (zq506 ++ (zq489 ++ (zq471 ++ (zq31 ++ (zq56 ++ ([] : List Blk)))))))) zw515 := zS516.re (R := ([] : List Blk)) [zq481, zq506, [⟨zb499, true, .cells (tokC zr491.1) 54 (0, 0)⟩], [⟨zb49, true, .cells (tokC zr41.1) 54 (0, 0)⟩], [⟨zb16, true, .cells (polP p ka kn kc) 48 (0, 0)⟩], [⟨zb7, true, .cells #[.int .u8 kd, .int .i64 f, .bool nw] 64 (0, 0)⟩], [⟨zb4, true, .cells (tokC t) 54 (0, 0)⟩], [⟨zb1, true, .cells (polC q pa pn pc) 48 (0, 0)⟩], zq489, zq471, zq31, zq56] [2, 3, 4, 5, 6, 7, 0, 1, 8, 9, 10, 11]
   refine assign_ ?_
   refine nil_ (then_n (seq_ (seq_ (reg_ ?_))))
   refine pure_ (.int .i64 zr491.2.1) ?_
   refine pure_ (.bool (zr491.2.1 != 0)) ?_
   refine nil_ (then_n ?_)
   refine cond_S (zr491.2.1 != 0) ?_ ?_
   · intro zh519
     have zh520 := neT' zh519
     have zh523 := (rel_cases ze497 (qs_drop zh40)).1 (by omega)
     obtain ⟨zh521, zh522⟩ := zh523
     have zh524 : zr491.1.holder = zr41.1.holder := by rw [zh521]
     have zh525 : zr491.1.epoch = zr41.1.epoch := by rw [zh521]
     have zh526 : zr491.1.offer = zr41.1.offer := by rw [zh521]
     have zh527 : zr491.1.oa.n = zr41.1.oa.n := by rw [zh521]
     have zh528 : zr491.1.oa.most = zr41.1.oa.most := by rw [zh521]
     have zh529 : zr491.1.la.n = zr41.1.la.n := by rw [zh521]
     have zh530 : zr491.1.la.most = zr41.1.la.most := by rw [zh521]
     refine seq_ (reg_ ?_)
     refine loadN_ zS518 0 8 (tokC zr491.1) zb499 0 ?_
     refine loadN_ zS518 1 8 (tokC zr41.1) zb49 0 ?_
     refine eqAgg_ false ((zr491.1.holder == zr41.1.holder) && ((zr491.1.epoch == zr41.1.epoch) && ((zr491.1.offer == zr41.1.offer) && (((zr491.1.oa.n == zr41.1.oa.n) && ((zr491.1.oa.most == zr41.1.oa.most) && true)) && (((zr491.1.la.n == zr41.1.la.n) && ((zr491.1.la.most == zr41.1.la.most) && true)) && ((zr491.1.bad == zr41.1.bad) && true)))))) (tokC zr491.1) (tokC zr41.1) ?_
     refine move_ ?_
     refine slotK_ 128 ((zr491.1.holder == zr41.1.holder) && ((zr491.1.epoch == zr41.1.epoch) && ((zr491.1.offer == zr41.1.offer) && (((zr491.1.oa.n == zr41.1.oa.n) && ((zr491.1.oa.most == zr41.1.oa.most) && true)) && (((zr491.1.la.n == zr41.1.la.n) && ((zr491.1.la.most == zr41.1.la.most) && true)) && ((zr491.1.bad == zr41.1.bad) && true)))))) true (andT (eqT (by omega)) (andT (eqT (by omega)) (andT (eqT (by omega)) (andT (andT (eqT (by omega)) (andT (eqT (by omega)) (rfl))) (andT (andT (eqT (by omega)) (andT (eqT (by omega)) (rfl))) (andT (beq_iff_eq.2 (by rw [zh521])) (rfl))))))) ?_
     refine move_ ?_
     refine pure_ (.bool (decide (zr41.2.2.2 = zr491.2.2))) ?_
     refine assign_ ?_
     refine nil_ (then_n (wp_ret (then_r ?_)))
     refine ret_ rfl (res_ [.tmp 6] [.bool (decide (zr41.2.2.2 = zr491.2.2))] (.bool (decide (zr41.2.2.2 = zr491.2.2))) ⟨res_tmp, trivial⟩) ?_
     exact ⟨congrArg Value.bool (decide_eq_true zh522.symm), zS518.ch⟩
   intro zh531
   have zh532 := neF' zh531
   have zh540 := (rel_cases ze497 (qs_drop zh40)).2 (by omega)
   obtain ⟨zh533, zh534, zh535, zh536, zh537, zh538⟩ := zh540
   have zh539 := congrArg List.length zh536; simp only [List.length_cons] at zh539
   obtain ⟨zb541, zt542, zh543, zh544⟩ := row_open zh482 zh536; subst zh544
   have zS545 : St [] w ([⟨zb541, true, .cells (([.int .i64 zh534.source, .int .i64 zh534.rank, .int .i64 zh534.age.n, .int .i64 zh534.age.most] : List Value) ++ zt542).toArray 32 (0, 0)⟩, ⟨zb499, true, .cells (tokC zr491.1) 54 (0, 0)⟩, ⟨zb49, true, .cells (tokC zr41.1) 54 (0, 0)⟩, ⟨zb16, true, .cells (polP p ka kn kc) 48 (0, 0)⟩, ⟨zb7, true, .cells #[.int .u8 kd, .int .i64 f, .bool nw] 64 (0, 0)⟩, ⟨zb4, true, .cells (tokC t) 54 (0, 0)⟩, ⟨zb1, true, .cells (polC q pa pn pc) 48 (0, 0)⟩] ++ (zq506 ++ (zq489 ++ (zq471 ++ (zq31 ++ (zq56 ++ ([] : List Blk))))))) zw515 := (show St _ _ ([⟨zb499, true, .cells (tokC zr491.1) 54 (0, 0)⟩, ⟨zb49, true, .cells (tokC zr41.1) 54 (0, 0)⟩, ⟨zb16, true, .cells (polP p ka kn kc) 48 (0, 0)⟩, ⟨zb7, true, .cells #[.int .u8 kd, .int .i64 f, .bool nw] 64 (0, 0)⟩, ⟨zb4, true, .cells (tokC t) 54 (0, 0)⟩, ⟨zb1, true, .cells (polC q pa pn pc) 48 (0, 0)⟩] ++ ([⟨zb541, true, .cells (([.int .i64 zh534.source, .int .i64 zh534.rank, .int .i64 zh534.age.n, .int .i64 zh534.age.most] : List Value) ++ zt542).toArray 32 (0, 0)⟩] ++ (zq506 ++ (zq489 ++ (zq471 ++ (zq31 ++ (zq56 ++ ([] : List Blk)))))))) _ by simpa only [List.append_assoc] using zS518).re (R := ([] : List Blk)) [[⟨zb499, true, .cells (tokC zr491.1) 54 (0, 0)⟩], [⟨zb49, true, .cells (tokC zr41.1) 54 (0, 0)⟩], [⟨zb16, true, .cells (polP p ka kn kc) 48 (0, 0)⟩], [⟨zb7, true, .cells #[.int .u8 kd, .int .i64 f, .bool nw] 64 (0, 0)⟩], [⟨zb4, true, .cells (tokC t) 54 (0, 0)⟩], [⟨zb1, true, .cells (polC q pa pn pc) 48 (0, 0)⟩], [⟨zb541, true, .cells (([.int .i64 zh534.source, .int .i64 zh534.rank, .int .i64 zh534.age.n, .int .i64 zh534.age.most] : List Value) ++ zt542).toArray 32 (0, 0)⟩], zq506, zq489, zq471, zq31, zq56] [6, 0, 1, 2, 3, 4, 5, 7, 8, 9, 10, 11]
   refine wp_skip (then_n (seq_ ?_))
   refine drawnL_ 29 [⟨0, fun _ => .slice zx479 zr41.2.2.2.length zc480, fun _ => []⟩, ⟨0, fun _ => .int .i64 ((zr41.2.2.2.length : Nat) : Int), fun _ => []⟩, ⟨0, fun _ => .bool true, fun _ => []⟩, ⟨0, fun _ => .bool true, fun _ => []⟩, ⟨0, fun _ => .pointer (some ⟨zb499, 0, none⟩), fun _ => []⟩, ⟨0, fun _ => .int .i64 zr491.1.holder, fun _ => []⟩, ⟨0, fun _ => .slice zx479 zr41.2.2.2.length zc480, fun _ => []⟩, ⟨0, fun _ => .pointer (some ⟨zb541, 0, none⟩), fun _ => []⟩, ⟨0, fun _ => .pointer (some ⟨zb541, 0, none⟩), fun _ => []⟩, ⟨0, fun _ => .int .i64 zh534.source, fun _ => []⟩, ⟨0, fun _ => .bool true, fun _ => []⟩, ⟨0, fun _ => .bool true, fun _ => []⟩, ⟨0, fun _ => .bool true, fun _ => []⟩, ⟨0, fun _ => .pointer (some ⟨zb21, 0, none⟩), fun _ => []⟩, ⟨2, fun ids => .slice (optA (ids.getD 0 0)) zr491.2.2.length (ids.getD 1 0), fun ids => []⟩, ⟨0, fun _ => .int .i64 ((zr491.2.2.length : Nat) : Int), fun _ => []⟩, ⟨0, fun _ => .slice zx479 zr41.2.2.2.length zc480, fun _ => []⟩, ⟨0, fun _ => .int .i64 ((zr41.2.2.2.length : Nat) : Int), fun _ => []⟩, ⟨0, fun _ => .int .i64 (((zr41.2.2.2.length : Nat) : Int) - 1), fun _ => []⟩, ⟨0, fun _ => .bool true, fun _ => []⟩, ⟨0, fun _ => .bool true, fun _ => []⟩, ⟨0, fun _ => .bool true, fun _ => []⟩, ⟨0, fun _ => .pointer (some ⟨zb7, 1, none⟩), fun _ => []⟩, ⟨0, fun _ => .int .i64 f, fun _ => []⟩, ⟨0, fun _ => .pointer (some ⟨zb49, 0, none⟩), fun _ => []⟩, ⟨0, fun _ => .int .i64 zr41.1.holder, fun _ => []⟩, ⟨0, fun _ => .bool true, fun _ => []⟩, ⟨0, fun _ => .bool true, fun _ => []⟩, ⟨0, fun _ => .bool true, fun _ => []⟩] [] ?_ ?_
   · refine step_cons ?_ ?_
     · intro zy546 zw547 zhc548 zhf549 zhp550
       have zh551 : zy546 15 = .slice zx479 zr41.2.2.2.length zc480 := (zhf549 15 (by kernel_rfl)).trans (by kernel_rfl)
       have zS552 := zS545.quiet zhc548
       refine step1 ?_
       refine yenv [(15, .slice zx479 zr41.2.2.2.length zc480)] (ag_cons zh551 (ag_nil)) ?_
       have zS553 := zS552.loc
       refine Y.move_ ?_
       exact ⟨zS553.ch, Sp.mk_holds [] (all_nil)⟩
     refine step_cons ?_ ?_
     · intro zy554 zw555 zhc556 zhf557 zhp558
       have zh559 : zy554 131 = .slice zx479 zr41.2.2.2.length zc480 := (Sp.out0 (zhp558 0 131 (by kernel_rfl) (by kernel_rfl))).1
       have zS560 := zS545.quiet zhc556
       refine step1 ?_
       refine yenv [(131, .slice zx479 zr41.2.2.2.length zc480)] (ag_cons zh559 (ag_nil)) ?_
       have zS561 := zS560.loc
       refine Y.pure_ (.int .i64 ((zr41.2.2.2.length : Nat) : Int)) ?_
       exact ⟨zS561.ch, Sp.mk_holds [] (all_nil)⟩
     refine step_cons ?_ ?_
     · intro zy562 zw563 zhc564 zhf565 zhp566
       have zh567 : zy562 132 = .int .i64 ((zr41.2.2.2.length : Nat) : Int) := (Sp.out0 (zhp566 1 132 (by kernel_rfl) (by kernel_rfl))).1
       have zS568 := zS545.quiet zhc564
       refine step1 ?_
       refine yenv [(132, .int .i64 ((zr41.2.2.2.length : Nat) : Int))] (ag_cons zh567 (ag_nil)) ?_
       have zS569 := zS568.loc
       refine Y.pureE_ (.bool (decide (0 < ((zr41.2.2.2.length : Nat) : Int)))) (.bool true) (congrArg Value.bool (ltT (by omega))) ?_
       exact ⟨zS569.ch, Sp.mk_holds [] (all_nil)⟩
     refine step_cons ?_ ?_
     · intro zy570 zw571 zhc572 zhf573 zhp574
       have zh575 : zy570 133 = .bool true := (Sp.out0 (zhp574 2 133 (by kernel_rfl) (by kernel_rfl))).1
       have zS576 := zS545.quiet zhc572
       refine step1 ?_
       refine yenv [(133, .bool true)] (ag_cons zh575 (ag_nil)) ?_
       have zS577 := zS576.loc
       refine Y.pure_ (.bool true) ?_
       exact ⟨zS577.ch, Sp.mk_holds [] (all_nil)⟩
     refine step_cons ?_ ?_
     · intro zy578 zw579 zhc580 zhf581 zhp582
       have zh583 : zy578 16 = .pointer (some ⟨zb499, 0, none⟩) := (zhf581 16 (by kernel_rfl)).trans (by kernel_rfl)
       have zh584 : zy578 134 = .bool true := (Sp.out0 (zhp582 3 134 (by kernel_rfl) (by kernel_rfl))).1
       have zS585 := zS545.quiet zhc580
       refine step_yes (wY_t zh584) ?_
       refine yenv [(16, .pointer (some ⟨zb499, 0, none⟩))] (ag_cons zh583 (ag_nil)) ?_
       have zS586 := zS585.loc
       refine Y.pure_ (.pointer (some ⟨zb499, 0, none⟩)) ?_
       exact ⟨zS586.ch, Sp.mk_holds [] (all_nil)⟩
     refine step_cons ?_ ?_
     · intro zy587 zw588 zhc589 zhf590 zhp591
       have zh592 : zy587 135 = .pointer (some ⟨zb499, 0, none⟩) := (Sp.out0 (zhp591 4 135 (by kernel_rfl) (by kernel_rfl))).1
       have zh593 : zy587 134 = .bool true := (Sp.out0 (zhp591 3 134 (by kernel_rfl) (by kernel_rfl))).1
       have zS594 := zS545.quiet zhc589
       refine step_yes (wY_t zh593) ?_
       refine yenv [(135, .pointer (some ⟨zb499, 0, none⟩))] (ag_cons zh592 (ag_nil)) ?_
       have zS595 := zS594.loc
       refine Y.load1_ zS595 1 (.int .i64 zr491.1.holder) zb499 0 ?_
       exact ⟨zS595.ch, Sp.mk_holds [] (all_nil)⟩
     refine step_cons ?_ ?_
     · intro zy596 zw597 zhc598 zhf599 zhp600
       have zh601 : zy596 15 = .slice zx479 zr41.2.2.2.length zc480 := (zhf599 15 (by kernel_rfl)).trans (by kernel_rfl)
       have zh602 : zy596 134 = .bool true := (Sp.out0 (zhp600 3 134 (by kernel_rfl) (by kernel_rfl))).1
       have zS603 := zS545.quiet zhc598
       refine step_yes (wY_t zh602) ?_
       refine yenv [(15, .slice zx479 zr41.2.2.2.length zc480)] (ag_cons zh601 (ag_nil)) ?_
       have zS604 := zS603.loc
       refine Y.move_ ?_
       exact ⟨zS604.ch, Sp.mk_holds [] (all_nil)⟩
     refine step_cons ?_ ?_
     · intro zy605 zw606 zhc607 zhf608 zhp609
       have zh610 : zy605 137 = .slice zx479 zr41.2.2.2.length zc480 := (Sp.out0 (zhp609 6 137 (by kernel_rfl) (by kernel_rfl))).1
       have zh611 : zy605 134 = .bool true := (Sp.out0 (zhp609 3 134 (by kernel_rfl) (by kernel_rfl))).1
       have zS612 := zS545.quiet zhc607
       refine step_yes (wY_t zh611) ?_
       refine yenv [(137, .slice zx479 zr41.2.2.2.length zc480)] (ag_cons zh610 (ag_nil)) ?_
       have zS613 := zS612.loc
       refine Y.idxS_ (e := 32) zb541 0 0 zr41.2.2.2.length 4 zc480 .i64 0 (by omega) (by omega) rfl ?_ (hx := slice_at zh543 (by kernel_rfl))
       exact ⟨zS613.ch, Sp.mk_holds [] (all_nil)⟩
     refine step_cons ?_ ?_
     · intro zy614 zw615 zhc616 zhf617 zhp618
       have zh619 : zy614 138 = .pointer (some ⟨zb541, 0, none⟩) := (Sp.out0 (zhp618 7 138 (by kernel_rfl) (by kernel_rfl))).1
       have zh620 : zy614 134 = .bool true := (Sp.out0 (zhp618 3 134 (by kernel_rfl) (by kernel_rfl))).1
       have zS621 := zS545.quiet zhc616
       refine step_yes (wY_t zh620) ?_
       refine yenv [(138, .pointer (some ⟨zb541, 0, none⟩))] (ag_cons zh619 (ag_nil)) ?_
       have zS622 := zS621.loc
       refine Y.pure_ (.pointer (some ⟨zb541, 0, none⟩)) ?_
       exact ⟨zS622.ch, Sp.mk_holds [] (all_nil)⟩
     refine step_cons ?_ ?_
     · intro zy623 zw624 zhc625 zhf626 zhp627
       have zh628 : zy623 139 = .pointer (some ⟨zb541, 0, none⟩) := (Sp.out0 (zhp627 8 139 (by kernel_rfl) (by kernel_rfl))).1
       have zh629 : zy623 134 = .bool true := (Sp.out0 (zhp627 3 134 (by kernel_rfl) (by kernel_rfl))).1
       have zS630 := zS545.quiet zhc625
       refine step_yes (wY_t zh629) ?_
       refine yenv [(139, .pointer (some ⟨zb541, 0, none⟩))] (ag_cons zh628 (ag_nil)) ?_
       have zS631 := zS630.loc
       refine Y.load1_ zS631 0 (.int .i64 zh534.source) zb541 0 ?_
       exact ⟨zS631.ch, Sp.mk_holds [] (all_nil)⟩
     refine step_cons ?_ ?_
     · intro zy632 zw633 zhc634 zhf635 zhp636
       have zh637 : zy632 136 = .int .i64 zr491.1.holder := (Sp.out0 (zhp636 5 136 (by kernel_rfl) (by kernel_rfl))).1
       have zh638 : zy632 140 = .int .i64 zh534.source := (Sp.out0 (zhp636 9 140 (by kernel_rfl) (by kernel_rfl))).1
       have zh639 : zy632 134 = .bool true := (Sp.out0 (zhp636 3 134 (by kernel_rfl) (by kernel_rfl))).1
       have zS640 := zS545.quiet zhc634
       refine step_yes (wY_t zh639) ?_
       refine yenv [(136, .int .i64 zr491.1.holder), (140, .int .i64 zh534.source)] (ag_cons zh637 (ag_cons zh638 (ag_nil))) ?_
       have zS641 := zS640.loc
       refine Y.pureE_ (.bool (zr491.1.holder == zh534.source)) (.bool true) (congrArg Value.bool (eqT (by omega))) ?_
       exact ⟨zS641.ch, Sp.mk_holds [] (all_nil)⟩
     refine step_cons ?_ ?_
     · intro zy642 zw643 zhc644 zhf645 zhp646
       have zh647 : zy642 134 = .bool true := (Sp.out0 (zhp646 3 134 (by kernel_rfl) (by kernel_rfl))).1
       have zh648 : zy642 141 = .bool true := (Sp.out0 (zhp646 10 141 (by kernel_rfl) (by kernel_rfl))).1
       have zS649 := zS545.quiet zhc644
       refine step1 ?_
       refine yenv [(134, .bool true), (141, .bool true)] (ag_cons zh647 (ag_cons zh648 (ag_nil))) ?_
       have zS650 := zS649.loc
       refine Y.pure_ (.bool true) ?_
       exact ⟨zS650.ch, Sp.mk_holds [] (all_nil)⟩
     refine step_cons ?_ ?_
     · intro zy651 zw652 zhc653 zhf654 zhp655
       have zh656 : zy651 142 = .bool true := (Sp.out0 (zhp655 11 142 (by kernel_rfl) (by kernel_rfl))).1
       have zS657 := zS545.quiet zhc653
       refine step1 ?_
       refine yenv [(142, .bool true)] (ag_cons zh656 (ag_nil)) ?_
       have zS658 := zS657.loc
       refine Y.pure_ (.bool true) ?_
       exact ⟨zS658.ch, Sp.mk_holds [] (all_nil)⟩
     refine step_cons ?_ ?_
     · intro zy659 zw660 zhc661 zhf662 zhp663
       have zh664 : zy659 9 = .pointer (some ⟨zb21, 0, none⟩) := (zhf662 9 (by kernel_rfl)).trans (by kernel_rfl)
       have zh665 : zy659 143 = .bool true := (Sp.out0 (zhp663 12 143 (by kernel_rfl) (by kernel_rfl))).1
       have zS666 := zS545.quiet zhc661
       refine step_yes (wY_t zh665) ?_
       refine yenv [(9, .pointer (some ⟨zb21, 0, none⟩))] (ag_cons zh664 (ag_nil)) ?_
       have zS667 := zS666.loc
       refine Y.move_ ?_
       exact ⟨zS667.ch, Sp.mk_holds [] (all_nil)⟩
     refine step_cons ?_ ?_
     · intro zy668 zw669 zhc670 zhf671 zhp672
       have zh673 : zy668 144 = .pointer (some ⟨zb21, 0, none⟩) := (Sp.out0 (zhp672 13 144 (by kernel_rfl) (by kernel_rfl))).1
       have zh674 : zy668 143 = .bool true := (Sp.out0 (zhp672 12 143 (by kernel_rfl) (by kernel_rfl))).1
       have zS675 := zS545.quiet zhc670
       refine step_yes (wY_t zh674) ?_
       refine yenv [(144, .pointer (some ⟨zb21, 0, none⟩))] (ag_cons zh673 (ag_nil)) ?_
       have zS676 := zS675.loc
       refine Y.call_ 12 #[.pointer (some ⟨zb21, 0, none⟩)] ?_
       have zS682 : St [] w (zq489 ++ ([⟨zb541, true, .cells (([.int .i64 zh534.source, .int .i64 zh534.rank, .int .i64 zh534.age.n, .int .i64 zh534.age.most] : List Value) ++ zt542).toArray 32 (0, 0)⟩, ⟨zb499, true, .cells (tokC zr491.1) 54 (0, 0)⟩, ⟨zb49, true, .cells (tokC zr41.1) 54 (0, 0)⟩, ⟨zb16, true, .cells (polP p ka kn kc) 48 (0, 0)⟩, ⟨zb7, true, .cells #[.int .u8 kd, .int .i64 f, .bool nw] 64 (0, 0)⟩, ⟨zb4, true, .cells (tokC t) 54 (0, 0)⟩, ⟨zb1, true, .cells (polC q pa pn pc) 48 (0, 0)⟩] ++ (zq506 ++ (zq471 ++ (zq31 ++ (zq56 ++ ([] : List Blk))))))) _ := zS675.re (R := ([] : List Blk)) [[⟨zb541, true, .cells (([.int .i64 zh534.source, .int .i64 zh534.rank, .int .i64 zh534.age.n, .int .i64 zh534.age.most] : List Value) ++ zt542).toArray 32 (0, 0)⟩], [⟨zb499, true, .cells (tokC zr491.1) 54 (0, 0)⟩], [⟨zb49, true, .cells (tokC zr41.1) 54 (0, 0)⟩], [⟨zb16, true, .cells (polP p ka kn kc) 48 (0, 0)⟩], [⟨zb7, true, .cells #[.int .u8 kd, .int .i64 f, .bool nw] 64 (0, 0)⟩], [⟨zb4, true, .cells (tokC t) 54 (0, 0)⟩], [⟨zb1, true, .cells (polC q pa pn pc) 48 (0, 0)⟩], zq506, zq489, zq471, zq31, zq56] [8, 0, 1, 2, 3, 4, 5, 6, 7, 9, 10, 11]
       refine (q_listQ zh490 zS682).mono ?_; rintro _ zw677 ⟨⟨zk680, zc681, rfl⟩, zh678⟩
       have zS679 := zS676.quiet zh678
       exact ⟨zS679.ch, Sp.mk_holds [zk680, zc681] (all_nil)⟩
     refine step_cons ?_ ?_
     · intro zy683 zw684 zhc685 zhf686 zhp687
       have zo692 := Sp.out2 (zhp687 14 145 (by kernel_rfl) (by kernel_rfl))
       obtain ⟨zb689, zb690, zh688', zg691'⟩ := zo692
       have zh688 : zy683 145 = .slice (optA zb689) zr491.2.2.length zb690 := zh688'
       have zg691 : ∀ p ∈ ([] : List (Nat × Obj)), zw515.heap.size ≤ p.1 ∧ zw684.heap[p.1]? = some p.2 := zg691'
       have zh693 : zy683 143 = .bool true := (Sp.out0 (zhp687 12 143 (by kernel_rfl) (by kernel_rfl))).1
       have zS694 := zS545.quiet zhc685
       refine step_yes (wY_t zh693) ?_
       refine yenv [(145, .slice (optA zb689) zr491.2.2.length zb690)] (ag_cons zh688 (ag_nil)) ?_
       have zS695 := zS694.loc
       refine Y.pure_ (.int .i64 ((zr491.2.2.length : Nat) : Int)) ?_
       exact ⟨zS695.ch, Sp.mk_holds [] (all_nil)⟩
     refine step_cons ?_ ?_
     · intro zy696 zw697 zhc698 zhf699 zhp700
       have zh701 : zy696 15 = .slice zx479 zr41.2.2.2.length zc480 := (zhf699 15 (by kernel_rfl)).trans (by kernel_rfl)
       have zh702 : zy696 143 = .bool true := (Sp.out0 (zhp700 12 143 (by kernel_rfl) (by kernel_rfl))).1
       have zS703 := zS545.quiet zhc698
       refine step_yes (wY_t zh702) ?_
       refine yenv [(15, .slice zx479 zr41.2.2.2.length zc480)] (ag_cons zh701 (ag_nil)) ?_
       have zS704 := zS703.loc
       refine Y.move_ ?_
       exact ⟨zS704.ch, Sp.mk_holds [] (all_nil)⟩
     refine step_cons ?_ ?_
     · intro zy705 zw706 zhc707 zhf708 zhp709
       have zh710 : zy705 147 = .slice zx479 zr41.2.2.2.length zc480 := (Sp.out0 (zhp709 16 147 (by kernel_rfl) (by kernel_rfl))).1
       have zh711 : zy705 143 = .bool true := (Sp.out0 (zhp709 12 143 (by kernel_rfl) (by kernel_rfl))).1
       have zS712 := zS545.quiet zhc707
       refine step_yes (wY_t zh711) ?_
       refine yenv [(147, .slice zx479 zr41.2.2.2.length zc480)] (ag_cons zh710 (ag_nil)) ?_
       have zS713 := zS712.loc
       refine Y.pure_ (.int .i64 ((zr41.2.2.2.length : Nat) : Int)) ?_
       exact ⟨zS713.ch, Sp.mk_holds [] (all_nil)⟩
     refine step_cons ?_ ?_
     · intro zy714 zw715 zhc716 zhf717 zhp718
       have zh719 : zy714 148 = .int .i64 ((zr41.2.2.2.length : Nat) : Int) := (Sp.out0 (zhp718 17 148 (by kernel_rfl) (by kernel_rfl))).1
       have zh720 : zy714 143 = .bool true := (Sp.out0 (zhp718 12 143 (by kernel_rfl) (by kernel_rfl))).1
       have zS721 := zS545.quiet zhc716
       refine step_yes (wY_t zh720) ?_
       refine yenv [(148, .int .i64 ((zr41.2.2.2.length : Nat) : Int))] (ag_cons zh719 (ag_nil)) ?_
       have zS722 := zS721.loc
       refine Y.sum_ .i64 (((zr41.2.2.2.length : Nat) : Int) - 1) (IntWalk.i64_in _ (by omega)) ?_
       exact ⟨zS722.ch, Sp.mk_holds [] (all_nil)⟩
     refine step_cons ?_ ?_
     · intro zy723 zw724 zhc725 zhf726 zhp727
       have zh728 : zy723 146 = .int .i64 ((zr491.2.2.length : Nat) : Int) := (Sp.out0 (zhp727 15 146 (by kernel_rfl) (by kernel_rfl))).1
       have zh729 : zy723 149 = .int .i64 (((zr41.2.2.2.length : Nat) : Int) - 1) := (Sp.out0 (zhp727 18 149 (by kernel_rfl) (by kernel_rfl))).1
       have zh730 : zy723 143 = .bool true := (Sp.out0 (zhp727 12 143 (by kernel_rfl) (by kernel_rfl))).1
       have zS731 := zS545.quiet zhc725
       refine step_yes (wY_t zh730) ?_
       refine yenv [(146, .int .i64 ((zr491.2.2.length : Nat) : Int)), (149, .int .i64 (((zr41.2.2.2.length : Nat) : Int) - 1))] (ag_cons zh728 (ag_cons zh729 (ag_nil))) ?_
       have zS732 := zS731.loc
       refine Y.pureE_ (.bool (((zr491.2.2.length : Nat) : Int) == (((zr41.2.2.2.length : Nat) : Int) - 1))) (.bool true) (congrArg Value.bool (eqT (by omega))) ?_
       exact ⟨zS732.ch, Sp.mk_holds [] (all_nil)⟩
     refine step_cons ?_ ?_
     · intro zy733 zw734 zhc735 zhf736 zhp737
       have zh738 : zy733 143 = .bool true := (Sp.out0 (zhp737 12 143 (by kernel_rfl) (by kernel_rfl))).1
       have zh739 : zy733 150 = .bool true := (Sp.out0 (zhp737 19 150 (by kernel_rfl) (by kernel_rfl))).1
       have zS740 := zS545.quiet zhc735
       refine step1 ?_
       refine yenv [(143, .bool true), (150, .bool true)] (ag_cons zh738 (ag_cons zh739 (ag_nil))) ?_
       have zS741 := zS740.loc
       refine Y.pure_ (.bool true) ?_
       exact ⟨zS741.ch, Sp.mk_holds [] (all_nil)⟩
     refine step_cons ?_ ?_
     · intro zy742 zw743 zhc744 zhf745 zhp746
       have zh747 : zy742 151 = .bool true := (Sp.out0 (zhp746 20 151 (by kernel_rfl) (by kernel_rfl))).1
       have zS748 := zS545.quiet zhc744
       refine step1 ?_
       refine yenv [(151, .bool true)] (ag_cons zh747 (ag_nil)) ?_
       have zS749 := zS748.loc
       refine Y.pure_ (.bool true) ?_
       exact ⟨zS749.ch, Sp.mk_holds [] (all_nil)⟩
     refine step_cons ?_ ?_
     · intro zy750 zw751 zhc752 zhf753 zhp754
       have zh755 : zy750 5 = .pointer (some ⟨zb7, 0, none⟩) := (zhf753 5 (by kernel_rfl)).trans (by kernel_rfl)
       have zh756 : zy750 152 = .bool true := (Sp.out0 (zhp754 21 152 (by kernel_rfl) (by kernel_rfl))).1
       have zS757 := zS545.quiet zhc752
       refine step_yes (wY_t zh756) ?_
       refine yenv [(5, .pointer (some ⟨zb7, 0, none⟩))] (ag_cons zh755 (ag_nil)) ?_
       have zS758 := zS757.loc
       refine Y.pure_ (.pointer (some ⟨zb7, 1, none⟩)) ?_
       exact ⟨zS758.ch, Sp.mk_holds [] (all_nil)⟩
     refine step_cons ?_ ?_
     · intro zy759 zw760 zhc761 zhf762 zhp763
       have zh764 : zy759 153 = .pointer (some ⟨zb7, 1, none⟩) := (Sp.out0 (zhp763 22 153 (by kernel_rfl) (by kernel_rfl))).1
       have zh765 : zy759 152 = .bool true := (Sp.out0 (zhp763 21 152 (by kernel_rfl) (by kernel_rfl))).1
       have zS766 := zS545.quiet zhc761
       refine step_yes (wY_t zh765) ?_
       refine yenv [(153, .pointer (some ⟨zb7, 1, none⟩))] (ag_cons zh764 (ag_nil)) ?_
       have zS767 := zS766.loc
       refine Y.load1_ zS767 4 (.int .i64 f) zb7 1 ?_
       exact ⟨zS767.ch, Sp.mk_holds [] (all_nil)⟩
     refine step_cons ?_ ?_
     · intro zy768 zw769 zhc770 zhf771 zhp772
       have zh773 : zy768 11 = .pointer (some ⟨zb49, 0, none⟩) := (zhf771 11 (by kernel_rfl)).trans (by kernel_rfl)
       have zh774 : zy768 152 = .bool true := (Sp.out0 (zhp772 21 152 (by kernel_rfl) (by kernel_rfl))).1
       have zS775 := zS545.quiet zhc770
       refine step_yes (wY_t zh774) ?_
       refine yenv [(11, .pointer (some ⟨zb49, 0, none⟩))] (ag_cons zh773 (ag_nil)) ?_
       have zS776 := zS775.loc
       refine Y.pure_ (.pointer (some ⟨zb49, 0, none⟩)) ?_
       exact ⟨zS776.ch, Sp.mk_holds [] (all_nil)⟩
     refine step_cons ?_ ?_
     · intro zy777 zw778 zhc779 zhf780 zhp781
       have zh782 : zy777 155 = .pointer (some ⟨zb49, 0, none⟩) := (Sp.out0 (zhp781 24 155 (by kernel_rfl) (by kernel_rfl))).1
       have zh783 : zy777 152 = .bool true := (Sp.out0 (zhp781 21 152 (by kernel_rfl) (by kernel_rfl))).1
       have zS784 := zS545.quiet zhc779
       refine step_yes (wY_t zh783) ?_
       refine yenv [(155, .pointer (some ⟨zb49, 0, none⟩))] (ag_cons zh782 (ag_nil)) ?_
       have zS785 := zS784.loc
       refine Y.load1_ zS785 2 (.int .i64 zr41.1.holder) zb49 0 ?_
       exact ⟨zS785.ch, Sp.mk_holds [] (all_nil)⟩
     refine step_cons ?_ ?_
     · intro zy786 zw787 zhc788 zhf789 zhp790
       have zh791 : zy786 154 = .int .i64 f := (Sp.out0 (zhp790 23 154 (by kernel_rfl) (by kernel_rfl))).1
       have zh792 : zy786 156 = .int .i64 zr41.1.holder := (Sp.out0 (zhp790 25 156 (by kernel_rfl) (by kernel_rfl))).1
       have zh793 : zy786 152 = .bool true := (Sp.out0 (zhp790 21 152 (by kernel_rfl) (by kernel_rfl))).1
       have zS794 := zS545.quiet zhc788
       refine step_yes (wY_t zh793) ?_
       refine yenv [(154, .int .i64 f), (156, .int .i64 zr41.1.holder)] (ag_cons zh791 (ag_cons zh792 (ag_nil))) ?_
       have zS795 := zS794.loc
       refine Y.pureE_ (.bool (f == zr41.1.holder)) (.bool true) (congrArg Value.bool (eqT (by omega))) ?_
       exact ⟨zS795.ch, Sp.mk_holds [] (all_nil)⟩
     refine step_cons ?_ ?_
     · intro zy796 zw797 zhc798 zhf799 zhp800
       have zh801 : zy796 152 = .bool true := (Sp.out0 (zhp800 21 152 (by kernel_rfl) (by kernel_rfl))).1
       have zh802 : zy796 157 = .bool true := (Sp.out0 (zhp800 26 157 (by kernel_rfl) (by kernel_rfl))).1
       have zS803 := zS545.quiet zhc798
       refine step1 ?_
       refine yenv [(152, .bool true), (157, .bool true)] (ag_cons zh801 (ag_cons zh802 (ag_nil))) ?_
       have zS804 := zS803.loc
       refine Y.pure_ (.bool true) ?_
       exact ⟨zS804.ch, Sp.mk_holds [] (all_nil)⟩
     refine step_cons ?_ ?_
     · intro zy805 zw806 zhc807 zhf808 zhp809
       have zh810 : zy805 158 = .bool true := (Sp.out0 (zhp809 27 158 (by kernel_rfl) (by kernel_rfl))).1
       have zS811 := zS545.quiet zhc807
       refine step1 ?_
       refine yenv [(158, .bool true)] (ag_cons zh810 (ag_nil)) ?_
       have zS812 := zS811.loc
       refine Y.pure_ (.bool true) ?_
       exact ⟨zS812.ch, Sp.mk_holds [] (all_nil)⟩
     exact step_nil
   intro zv813 zw814 zhc815 zha816
   have zh817 : zv813 0 = .slice zx479 zr41.2.2.2.length zc480 := (Sp.out0 (zha816 0 (by kernel_rfl))).1
   have zh818 : zv813 1 = .int .i64 ((zr41.2.2.2.length : Nat) : Int) := (Sp.out0 (zha816 1 (by kernel_rfl))).1
   have zh819 : zv813 2 = .bool true := (Sp.out0 (zha816 2 (by kernel_rfl))).1
   have zh820 : zv813 3 = .bool true := (Sp.out0 (zha816 3 (by kernel_rfl))).1
   have zh821 : zv813 4 = .pointer (some ⟨zb499, 0, none⟩) := (Sp.out0 (zha816 4 (by kernel_rfl))).1
   have zh822 : zv813 5 = .int .i64 zr491.1.holder := (Sp.out0 (zha816 5 (by kernel_rfl))).1
   have zh823 : zv813 6 = .slice zx479 zr41.2.2.2.length zc480 := (Sp.out0 (zha816 6 (by kernel_rfl))).1
   have zh824 : zv813 7 = .pointer (some ⟨zb541, 0, none⟩) := (Sp.out0 (zha816 7 (by kernel_rfl))).1
   have zh825 : zv813 8 = .pointer (some ⟨zb541, 0, none⟩) := (Sp.out0 (zha816 8 (by kernel_rfl))).1
   have zh826 : zv813 9 = .int .i64 zh534.source := (Sp.out0 (zha816 9 (by kernel_rfl))).1
   have zh827 : zv813 10 = .bool true := (Sp.out0 (zha816 10 (by kernel_rfl))).1
   have zh828 : zv813 11 = .bool true := (Sp.out0 (zha816 11 (by kernel_rfl))).1
   have zh829 : zv813 12 = .bool true := (Sp.out0 (zha816 12 (by kernel_rfl))).1
   have zh830 : zv813 13 = .pointer (some ⟨zb21, 0, none⟩) := (Sp.out0 (zha816 13 (by kernel_rfl))).1
   have zo835 := Sp.out2 (zha816 14 (by kernel_rfl))
   obtain ⟨zb832, zb833, zh831', zg834'⟩ := zo835
   have zh831 : zv813 14 = .slice (optA zb832) zr491.2.2.length zb833 := zh831'
   have zg834 : ∀ p ∈ ([] : List (Nat × Obj)), zw515.heap.size ≤ p.1 ∧ zw814.heap[p.1]? = some p.2 := zg834'
   have zh836 : zv813 15 = .int .i64 ((zr491.2.2.length : Nat) : Int) := (Sp.out0 (zha816 15 (by kernel_rfl))).1
   have zh837 : zv813 16 = .slice zx479 zr41.2.2.2.length zc480 := (Sp.out0 (zha816 16 (by kernel_rfl))).1
   have zh838 : zv813 17 = .int .i64 ((zr41.2.2.2.length : Nat) : Int) := (Sp.out0 (zha816 17 (by kernel_rfl))).1
   have zh839 : zv813 18 = .int .i64 (((zr41.2.2.2.length : Nat) : Int) - 1) := (Sp.out0 (zha816 18 (by kernel_rfl))).1
   have zh840 : zv813 19 = .bool true := (Sp.out0 (zha816 19 (by kernel_rfl))).1
   have zh841 : zv813 20 = .bool true := (Sp.out0 (zha816 20 (by kernel_rfl))).1
   have zh842 : zv813 21 = .bool true := (Sp.out0 (zha816 21 (by kernel_rfl))).1
   have zh843 : zv813 22 = .pointer (some ⟨zb7, 1, none⟩) := (Sp.out0 (zha816 22 (by kernel_rfl))).1
   have zh844 : zv813 23 = .int .i64 f := (Sp.out0 (zha816 23 (by kernel_rfl))).1
   have zh845 : zv813 24 = .pointer (some ⟨zb49, 0, none⟩) := (Sp.out0 (zha816 24 (by kernel_rfl))).1
   have zh846 : zv813 25 = .int .i64 zr41.1.holder := (Sp.out0 (zha816 25 (by kernel_rfl))).1
   have zh847 : zv813 26 = .bool true := (Sp.out0 (zha816 26 (by kernel_rfl))).1
   have zh848 : zv813 27 = .bool true := (Sp.out0 (zha816 27 (by kernel_rfl))).1
   have zh849 : zv813 28 = .bool true := (Sp.out0 (zha816 28 (by kernel_rfl))).1
   have zS850 := zS545.quiet zhc815
   refine ⟨[.slice zx479 zr41.2.2.2.length zc480, .int .i64 ((zr41.2.2.2.length : Nat) : Int), .bool true, .bool true, .pointer (some ⟨zb499, 0, none⟩), .int .i64 zr491.1.holder, .slice zx479 zr41.2.2.2.length zc480, .pointer (some ⟨zb541, 0, none⟩), .pointer (some ⟨zb541, 0, none⟩), .int .i64 zh534.source, .bool true, .bool true, .bool true, .pointer (some ⟨zb21, 0, none⟩), .slice (optA zb832) zr491.2.2.length zb833, .int .i64 ((zr491.2.2.length : Nat) : Int), .slice zx479 zr41.2.2.2.length zc480, .int .i64 ((zr41.2.2.2.length : Nat) : Int), .int .i64 (((zr41.2.2.2.length : Nat) : Int) - 1), .bool true, .bool true, .bool true, .pointer (some ⟨zb7, 1, none⟩), .int .i64 f, .pointer (some ⟨zb49, 0, none⟩), .int .i64 zr41.1.holder, .bool true, .bool true, .bool true], by kernel_rfl, va_cons zh817 (va_cons zh818 (va_cons zh819 (va_cons zh820 (va_cons zh821 (va_cons zh822 (va_cons zh823 (va_cons zh824 (va_cons zh825 (va_cons zh826 (va_cons zh827 (va_cons zh828 (va_cons zh829 (va_cons zh830 (va_cons zh831 (va_cons zh836 (va_cons zh837 (va_cons zh838 (va_cons zh839 (va_cons zh840 (va_cons zh841 (va_cons zh842 (va_cons zh843 (va_cons zh844 (va_cons zh845 (va_cons zh846 (va_cons zh847 (va_cons zh848 (va_cons zh849 (va_nil))))))))))))))))))))))))))))), ?_⟩
   refine nil_ (then_n (wp_ret ?_))
   refine ret_ rfl (res_ [.tmp 6] [.bool true] (.bool true) ⟨res_tmp, trivial⟩) ?_
   exact ⟨rfl, zS850.ch⟩
 intro zh851
 have zh852 := eqF' zh851
 have zh857 := (ask_cases ze47).2.2 (by omega)
 obtain ⟨zh853, zh854, zh855, zh856⟩ := zh857
 refine skip_ ?_
 refine skip_ ?_
 refine skip_ ?_
 refine skip_ ?_
 refine skip_ ?_
 refine skip_ ?_
 refine skip_ ?_
 refine skip_ ?_
 refine skip_ ?_
 refine skip_ ?_
 refine skip_ ?_
 refine skip_ ?_
 refine pure_ (.bool false) ?_
 refine pure_ (.bool false) ?_
 refine pure_ (.int .i64 zr41.2.1) ?_
 refine pureE_ (.bool (zr41.2.1 != 0)) (.bool true) (congrArg Value.bool (neT (by omega))) ?_
 refine pure_ (.bool true) ?_
 refine pure_ (.pointer (some ⟨zb49, 0, none⟩)) ?_
 refine load1_ zS68 0 (.int .i64 zr41.1.holder) zb49 0 ?_
 refine pure_ (.pointer (some ⟨zb7, 1, none⟩)) ?_
 refine load1_ zS68 2 (.int .i64 f) zb7 1 ?_
 refine pureE_ (.bool (zr41.1.holder != f)) (.bool false) (congrArg Value.bool (neF (by omega))) ?_
 refine pure_ (.bool false) ?_
 refine pure_ (.pointer (some ⟨zb49, 1, none⟩)) ?_
 refine load1_ zS68 0 (.int .i64 zr41.1.epoch) zb49 1 ?_
 refine sum_ .i64 (zr41.1.epoch - 1) (IntWalk.i64_in _ (by omega)) ?_
 refine pure_ (.pointer (some ⟨zb4, 1, none⟩)) ?_
 refine load1_ zS68 3 (.int .i64 t.epoch) zb4 1 ?_
 refine pureE_ (.bool ((zr41.1.epoch - 1) != t.epoch)) (.bool false) (congrArg Value.bool (neF (by omega))) ?_
 refine pure_ (.bool false) ?_
 refine pure_ (.bool false) ?_
 refine pure_ (.int .i64 zr41.2.1) ?_
 refine pureE_ (.bool (zr41.2.1 != 3)) (.bool false) (congrArg Value.bool (neF (by omega))) ?_
 refine pure_ (.bool false) ?_
 refine pure_ (.bool false) ?_
 refine pure_ (.bool false) ?_
 refine nil_ (then_n (cond_F ?_))
 refine wp_skip (then_n (seq_ (reg_ ?_)))
 refine move_ ?_
 refine call_ 12 #[.pointer (some ⟨zb21, 0, none⟩)] ?_
 have zS863 : St [] w (zq39 ++ ([⟨zb49, true, .cells (tokC zr41.1) 54 (0, 0)⟩, ⟨zb16, true, .cells (polP p ka kn kc) 48 (0, 0)⟩, ⟨zb7, true, .cells #[.int .u8 kd, .int .i64 f, .bool nw] 64 (0, 0)⟩, ⟨zb4, true, .cells (tokC t) 54 (0, 0)⟩, ⟨zb1, true, .cells (polC q pa pn pc) 48 (0, 0)⟩] ++ (zq31 ++ (zq56 ++ ([] : List Blk))))) zw65 := zS68.re (R := ([] : List Blk)) [[⟨zb49, true, .cells (tokC zr41.1) 54 (0, 0)⟩], [⟨zb16, true, .cells (polP p ka kn kc) 48 (0, 0)⟩], [⟨zb7, true, .cells #[.int .u8 kd, .int .i64 f, .bool nw] 64 (0, 0)⟩], [⟨zb4, true, .cells (tokC t) 54 (0, 0)⟩], [⟨zb1, true, .cells (polC q pa pn pc) 48 (0, 0)⟩], zq31, zq56, zq39] [7, 0, 1, 2, 3, 4, 5, 6]
 refine (q_list zh40 zS863).mono ?_; rintro _ zw864 ⟨zx858, zc859, zq860, rfl, zh861, zS865⟩
 have zh862 : zr41.2.2.2.length ≤ 3 := q_len zh40
 have zS867 : St [] w ([⟨zb49, true, .cells (tokC zr41.1) 54 (0, 0)⟩, ⟨zb16, true, .cells (polP p ka kn kc) 48 (0, 0)⟩, ⟨zb7, true, .cells #[.int .u8 kd, .int .i64 f, .bool nw] 64 (0, 0)⟩, ⟨zb4, true, .cells (tokC t) 54 (0, 0)⟩, ⟨zb1, true, .cells (polC q pa pn pc) 48 (0, 0)⟩] ++ (zq860 ++ (zq39 ++ (zq31 ++ (zq56 ++ ([] : List Blk)))))) zw864 := zS865.re (R := ([] : List Blk)) [zq860, zq39, [⟨zb49, true, .cells (tokC zr41.1) 54 (0, 0)⟩], [⟨zb16, true, .cells (polP p ka kn kc) 48 (0, 0)⟩], [⟨zb7, true, .cells #[.int .u8 kd, .int .i64 f, .bool nw] 64 (0, 0)⟩], [⟨zb4, true, .cells (tokC t) 54 (0, 0)⟩], [⟨zb1, true, .cells (polC q pa pn pc) 48 (0, 0)⟩], zq31, zq56] [2, 3, 4, 5, 6, 0, 1, 7, 8]
 refine assign_ ?_
 refine nil_ (then_n (seq_ (reg_ ?_)))
 refine loadN_ zS867 0 8 (tokC zr41.1) zb49 0 ?_
 refine move_ ?_
 refine pure_ (.pointer (some ⟨zb7, 1, none⟩)) ?_
 refine load1_ zS867 2 (.int .i64 f) zb7 1 ?_
 refine call_ 21 #[.agg (tokC zr41.1), .pointer (some ⟨zb21, 0, none⟩), .int .i64 f] ?_
 have zS872 : St [] w (zq39 ++ ([⟨zb49, true, .cells (tokC zr41.1) 54 (0, 0)⟩, ⟨zb16, true, .cells (polP p ka kn kc) 48 (0, 0)⟩, ⟨zb7, true, .cells #[.int .u8 kd, .int .i64 f, .bool nw] 64 (0, 0)⟩, ⟨zb4, true, .cells (tokC t) 54 (0, 0)⟩, ⟨zb1, true, .cells (polC q pa pn pc) 48 (0, 0)⟩] ++ (zq860 ++ (zq31 ++ (zq56 ++ ([] : List Blk)))))) zw864 := zS867.re (R := ([] : List Blk)) [[⟨zb49, true, .cells (tokC zr41.1) 54 (0, 0)⟩], [⟨zb16, true, .cells (polP p ka kn kc) 48 (0, 0)⟩], [⟨zb7, true, .cells #[.int .u8 kd, .int .i64 f, .bool nw] 64 (0, 0)⟩], [⟨zb4, true, .cells (tokC t) 54 (0, 0)⟩], [⟨zb1, true, .cells (polC q pa pn pc) 48 (0, 0)⟩], zq860, zq39, zq31, zq56] [6, 0, 1, 2, 3, 4, 5, 7, 8]
 refine (release_ zb21 3 zr41.2.2.2 zq39 zr41.1 f zh40 (by omega) _ zS872).mono ?_; rintro _ zw873 ⟨zq868, rfl, zh869, zS874⟩
 generalize ze876 : Sd.releaseTok zr41.1 zr41.2.2.2 f = zr870 at zh869 ⊢
 have zS877 : St [] w ([⟨zb49, true, .cells (tokC zr41.1) 54 (0, 0)⟩, ⟨zb16, true, .cells (polP p ka kn kc) 48 (0, 0)⟩, ⟨zb7, true, .cells #[.int .u8 kd, .int .i64 f, .bool nw] 64 (0, 0)⟩, ⟨zb4, true, .cells (tokC t) 54 (0, 0)⟩, ⟨zb1, true, .cells (polC q pa pn pc) 48 (0, 0)⟩] ++ (zq868 ++ (zq860 ++ (zq31 ++ (zq56 ++ ([] : List Blk)))))) zw873 := zS874.re (R := ([] : List Blk)) [zq868, [⟨zb49, true, .cells (tokC zr41.1) 54 (0, 0)⟩], [⟨zb16, true, .cells (polP p ka kn kc) 48 (0, 0)⟩], [⟨zb7, true, .cells #[.int .u8 kd, .int .i64 f, .bool nw] 64 (0, 0)⟩], [⟨zb4, true, .cells (tokC t) 54 (0, 0)⟩], [⟨zb1, true, .cells (polC q pa pn pc) 48 (0, 0)⟩], zq860, zq31, zq56] [1, 2, 3, 4, 5, 0, 6, 7, 8]
 refine move_ ?_
 refine pure_ (.agg (tokC zr870.1)) ?_
 refine pure_ (.int .i64 zr870.2.1) ?_
 refine new_ zS877 (fun b => .pointer (some ⟨b, 0, none⟩)) (.cells #[.int .i64 0, .int .i64 0, .int .i64 0, .int .i64 0, .int .i64 0, .int .i64 0, .int .i64 0, .bool false] 54) ?_
 intro zb878 zw879 zS880
 refine store_ zS880 0 (.agg (tokC zr870.1)) zb878 0 ?_
 intro zw881 zS882
 refine pure_ (.int .i64 zr870.2.1) ?_
 refine nil_ (then_n (seq_ (reg_ ?_)))
 refine move_ ?_
 refine move_ ?_
 refine call_ 12 #[.pointer (some ⟨zb21, 0, none⟩)] ?_
 have zS888 : St [] w (zq868 ++ ([⟨zb878, true, .cells (tokC zr870.1) 54 (0, 0)⟩, ⟨zb49, true, .cells (tokC zr41.1) 54 (0, 0)⟩, ⟨zb16, true, .cells (polP p ka kn kc) 48 (0, 0)⟩, ⟨zb7, true, .cells #[.int .u8 kd, .int .i64 f, .bool nw] 64 (0, 0)⟩, ⟨zb4, true, .cells (tokC t) 54 (0, 0)⟩, ⟨zb1, true, .cells (polC q pa pn pc) 48 (0, 0)⟩] ++ (zq860 ++ (zq31 ++ (zq56 ++ ([] : List Blk)))))) zw881 := zS882.re (R := ([] : List Blk)) [[⟨zb878, true, .cells (tokC zr870.1) 54 (0, 0)⟩], [⟨zb49, true, .cells (tokC zr41.1) 54 (0, 0)⟩], [⟨zb16, true, .cells (polP p ka kn kc) 48 (0, 0)⟩], [⟨zb7, true, .cells #[.int .u8 kd, .int .i64 f, .bool nw] 64 (0, 0)⟩], [⟨zb4, true, .cells (tokC t) 54 (0, 0)⟩], [⟨zb1, true, .cells (polC q pa pn pc) 48 (0, 0)⟩], zq868, zq860, zq31, zq56] [6, 0, 1, 2, 3, 4, 5, 7, 8, 9]
 refine (q_list zh869 zS888).mono ?_; rintro _ zw889 ⟨zx883, zc884, zq885, rfl, zh886, zS890⟩
 have zh887 : zr870.2.2.length ≤ 3 := q_len zh869
 have zS892 : St [] w ([⟨zb878, true, .cells (tokC zr870.1) 54 (0, 0)⟩, ⟨zb49, true, .cells (tokC zr41.1) 54 (0, 0)⟩, ⟨zb16, true, .cells (polP p ka kn kc) 48 (0, 0)⟩, ⟨zb7, true, .cells #[.int .u8 kd, .int .i64 f, .bool nw] 64 (0, 0)⟩, ⟨zb4, true, .cells (tokC t) 54 (0, 0)⟩, ⟨zb1, true, .cells (polC q pa pn pc) 48 (0, 0)⟩] ++ (zq885 ++ (zq868 ++ (zq860 ++ (zq31 ++ (zq56 ++ ([] : List Blk))))))) zw889 := zS890.re (R := ([] : List Blk)) [zq885, zq868, [⟨zb878, true, .cells (tokC zr870.1) 54 (0, 0)⟩], [⟨zb49, true, .cells (tokC zr41.1) 54 (0, 0)⟩], [⟨zb16, true, .cells (polP p ka kn kc) 48 (0, 0)⟩], [⟨zb7, true, .cells #[.int .u8 kd, .int .i64 f, .bool nw] 64 (0, 0)⟩], [⟨zb4, true, .cells (tokC t) 54 (0, 0)⟩], [⟨zb1, true, .cells (polC q pa pn pc) 48 (0, 0)⟩], zq860, zq31, zq56] [2, 3, 4, 5, 6, 7, 0, 1, 8, 9, 10]
 refine call_ 16 #[.slice zx858 zr41.2.2.2.length zc859, .slice zx883 zr870.2.2.length zc884] ?_
 have zS893 : St [] w (zq860 ++ (zq885 ++ ([⟨zb878, true, .cells (tokC zr870.1) 54 (0, 0)⟩, ⟨zb49, true, .cells (tokC zr41.1) 54 (0, 0)⟩, ⟨zb16, true, .cells (polP p ka kn kc) 48 (0, 0)⟩, ⟨zb7, true, .cells #[.int .u8 kd, .int .i64 f, .bool nw] 64 (0, 0)⟩, ⟨zb4, true, .cells (tokC t) 54 (0, 0)⟩, ⟨zb1, true, .cells (polC q pa pn pc) 48 (0, 0)⟩] ++ (zq868 ++ (zq31 ++ (zq56 ++ ([] : List Blk))))))) zw889 := zS892.re (R := ([] : List Blk)) [[⟨zb878, true, .cells (tokC zr870.1) 54 (0, 0)⟩], [⟨zb49, true, .cells (tokC zr41.1) 54 (0, 0)⟩], [⟨zb16, true, .cells (polP p ka kn kc) 48 (0, 0)⟩], [⟨zb7, true, .cells #[.int .u8 kd, .int .i64 f, .bool nw] 64 (0, 0)⟩], [⟨zb4, true, .cells (tokC t) 54 (0, 0)⟩], [⟨zb1, true, .cells (polC q pa pn pc) 48 (0, 0)⟩], zq885, zq868, zq860, zq31, zq56] [8, 6, 0, 1, 2, 3, 4, 5, 7, 9, 10]
 refine (same_ zr41.2.2.2 zr870.2.2 zh861 zh886 (by omega) zS893).mono ?_; rintro _ zw894 ⟨rfl, zS895⟩
 have zS897 : St [] w ([⟨zb878, true, .cells (tokC zr870.1) 54 (0, 0)⟩, ⟨zb49, true, .cells (tokC zr41.1) 54 (0, 0)⟩, ⟨zb16, true, .cells (polP p ka kn kc) 48 (0, 0)⟩, ⟨zb7, true, .cells #[.int .u8 kd, .int .i64 f, .bool nw] 64 (0, 0)⟩, ⟨zb4, true, .cells (tokC t) 54 (0, 0)⟩, ⟨zb1, true, .cells (polC q pa pn pc) 48 (0, 0)⟩] ++ (zq860 ++ (zq885 ++ (zq868 ++ (zq31 ++ (zq56 ++ ([] : List Blk))))))) zw894 := zS895.re (R := ([] : List Blk)) [zq860, zq885, [⟨zb878, true, .cells (tokC zr870.1) 54 (0, 0)⟩], [⟨zb49, true, .cells (tokC zr41.1) 54 (0, 0)⟩], [⟨zb16, true, .cells (polP p ka kn kc) 48 (0, 0)⟩], [⟨zb7, true, .cells #[.int .u8 kd, .int .i64 f, .bool nw] 64 (0, 0)⟩], [⟨zb4, true, .cells (tokC t) 54 (0, 0)⟩], [⟨zb1, true, .cells (polC q pa pn pc) 48 (0, 0)⟩], zq868, zq31, zq56] [2, 3, 4, 5, 6, 7, 0, 1, 8, 9, 10]
 refine assign_ ?_
 refine nil_ (then_n (seq_ (seq_ (reg_ ?_))))
 refine pure_ (.int .i64 zr870.2.1) ?_
 refine pure_ (.bool (zr870.2.1 != 0)) ?_
 refine nil_ (then_n ?_)
 refine cond_S (zr870.2.1 != 0) ?_ ?_
 · intro zh898
   have zh899 := neT' zh898
   have zh902 := (rel_cases ze876 (qs_drop zh40)).1 (by omega)
   obtain ⟨zh900, zh901⟩ := zh902
   have zh903 : zr870.1.holder = zr41.1.holder := by rw [zh900]
   have zh904 : zr870.1.epoch = zr41.1.epoch := by rw [zh900]
   have zh905 : zr870.1.offer = zr41.1.offer := by rw [zh900]
   have zh906 : zr870.1.oa.n = zr41.1.oa.n := by rw [zh900]
   have zh907 : zr870.1.oa.most = zr41.1.oa.most := by rw [zh900]
   have zh908 : zr870.1.la.n = zr41.1.la.n := by rw [zh900]
   have zh909 : zr870.1.la.most = zr41.1.la.most := by rw [zh900]
   refine seq_ (reg_ ?_)
   refine loadN_ zS897 0 8 (tokC zr870.1) zb878 0 ?_
   refine loadN_ zS897 1 8 (tokC zr41.1) zb49 0 ?_
   refine eqAgg_ false ((zr870.1.holder == zr41.1.holder) && ((zr870.1.epoch == zr41.1.epoch) && ((zr870.1.offer == zr41.1.offer) && (((zr870.1.oa.n == zr41.1.oa.n) && ((zr870.1.oa.most == zr41.1.oa.most) && true)) && (((zr870.1.la.n == zr41.1.la.n) && ((zr870.1.la.most == zr41.1.la.most) && true)) && ((zr870.1.bad == zr41.1.bad) && true)))))) (tokC zr870.1) (tokC zr41.1) ?_
   refine move_ ?_
   refine slotK_ 128 ((zr870.1.holder == zr41.1.holder) && ((zr870.1.epoch == zr41.1.epoch) && ((zr870.1.offer == zr41.1.offer) && (((zr870.1.oa.n == zr41.1.oa.n) && ((zr870.1.oa.most == zr41.1.oa.most) && true)) && (((zr870.1.la.n == zr41.1.la.n) && ((zr870.1.la.most == zr41.1.la.most) && true)) && ((zr870.1.bad == zr41.1.bad) && true)))))) true (andT (eqT (by omega)) (andT (eqT (by omega)) (andT (eqT (by omega)) (andT (andT (eqT (by omega)) (andT (eqT (by omega)) (rfl))) (andT (andT (eqT (by omega)) (andT (eqT (by omega)) (rfl))) (andT (beq_iff_eq.2 (by rw [zh900])) (rfl))))))) ?_
   refine move_ ?_
   refine pure_ (.bool (decide (zr41.2.2.2 = zr870.2.2))) ?_
   refine assign_ ?_
   refine nil_ (then_n (wp_ret (then_r ?_)))
   refine ret_ rfl (res_ [.tmp 6] [.bool (decide (zr41.2.2.2 = zr870.2.2))] (.bool (decide (zr41.2.2.2 = zr870.2.2))) ⟨res_tmp, trivial⟩) ?_
   exact ⟨congrArg Value.bool (decide_eq_true zh901.symm), zS897.ch⟩
 intro zh910
 have zh911 := neF' zh910
 have zh919 := (rel_cases ze876 (qs_drop zh40)).2 (by omega)
 obtain ⟨zh912, zh913, zh914, zh915, zh916, zh917⟩ := zh919
 have zh918 := congrArg List.length zh915; simp only [List.length_cons] at zh918
 obtain ⟨zb920, zt921, zh922, zh923⟩ := row_open zh861 zh915; subst zh923
 have zS924 : St [] w ([⟨zb920, true, .cells (([.int .i64 zh913.source, .int .i64 zh913.rank, .int .i64 zh913.age.n, .int .i64 zh913.age.most] : List Value) ++ zt921).toArray 32 (0, 0)⟩, ⟨zb878, true, .cells (tokC zr870.1) 54 (0, 0)⟩, ⟨zb49, true, .cells (tokC zr41.1) 54 (0, 0)⟩, ⟨zb16, true, .cells (polP p ka kn kc) 48 (0, 0)⟩, ⟨zb7, true, .cells #[.int .u8 kd, .int .i64 f, .bool nw] 64 (0, 0)⟩, ⟨zb4, true, .cells (tokC t) 54 (0, 0)⟩, ⟨zb1, true, .cells (polC q pa pn pc) 48 (0, 0)⟩] ++ (zq885 ++ (zq868 ++ (zq31 ++ (zq56 ++ ([] : List Blk)))))) zw894 := (show St _ _ ([⟨zb878, true, .cells (tokC zr870.1) 54 (0, 0)⟩, ⟨zb49, true, .cells (tokC zr41.1) 54 (0, 0)⟩, ⟨zb16, true, .cells (polP p ka kn kc) 48 (0, 0)⟩, ⟨zb7, true, .cells #[.int .u8 kd, .int .i64 f, .bool nw] 64 (0, 0)⟩, ⟨zb4, true, .cells (tokC t) 54 (0, 0)⟩, ⟨zb1, true, .cells (polC q pa pn pc) 48 (0, 0)⟩] ++ ([⟨zb920, true, .cells (([.int .i64 zh913.source, .int .i64 zh913.rank, .int .i64 zh913.age.n, .int .i64 zh913.age.most] : List Value) ++ zt921).toArray 32 (0, 0)⟩] ++ (zq885 ++ (zq868 ++ (zq31 ++ (zq56 ++ ([] : List Blk))))))) _ by simpa only [List.append_assoc] using zS897).re (R := ([] : List Blk)) [[⟨zb878, true, .cells (tokC zr870.1) 54 (0, 0)⟩], [⟨zb49, true, .cells (tokC zr41.1) 54 (0, 0)⟩], [⟨zb16, true, .cells (polP p ka kn kc) 48 (0, 0)⟩], [⟨zb7, true, .cells #[.int .u8 kd, .int .i64 f, .bool nw] 64 (0, 0)⟩], [⟨zb4, true, .cells (tokC t) 54 (0, 0)⟩], [⟨zb1, true, .cells (polC q pa pn pc) 48 (0, 0)⟩], [⟨zb920, true, .cells (([.int .i64 zh913.source, .int .i64 zh913.rank, .int .i64 zh913.age.n, .int .i64 zh913.age.most] : List Value) ++ zt921).toArray 32 (0, 0)⟩], zq885, zq868, zq31, zq56] [6, 0, 1, 2, 3, 4, 5, 7, 8, 9, 10]
 refine wp_skip (then_n (seq_ ?_))
 refine drawnL_ 29 [⟨0, fun _ => .slice zx858 zr41.2.2.2.length zc859, fun _ => []⟩, ⟨0, fun _ => .int .i64 ((zr41.2.2.2.length : Nat) : Int), fun _ => []⟩, ⟨0, fun _ => .bool true, fun _ => []⟩, ⟨0, fun _ => .bool true, fun _ => []⟩, ⟨0, fun _ => .pointer (some ⟨zb878, 0, none⟩), fun _ => []⟩, ⟨0, fun _ => .int .i64 zr870.1.holder, fun _ => []⟩, ⟨0, fun _ => .slice zx858 zr41.2.2.2.length zc859, fun _ => []⟩, ⟨0, fun _ => .pointer (some ⟨zb920, 0, none⟩), fun _ => []⟩, ⟨0, fun _ => .pointer (some ⟨zb920, 0, none⟩), fun _ => []⟩, ⟨0, fun _ => .int .i64 zh913.source, fun _ => []⟩, ⟨0, fun _ => .bool true, fun _ => []⟩, ⟨0, fun _ => .bool true, fun _ => []⟩, ⟨0, fun _ => .bool true, fun _ => []⟩, ⟨0, fun _ => .pointer (some ⟨zb21, 0, none⟩), fun _ => []⟩, ⟨2, fun ids => .slice (optA (ids.getD 0 0)) zr870.2.2.length (ids.getD 1 0), fun ids => []⟩, ⟨0, fun _ => .int .i64 ((zr870.2.2.length : Nat) : Int), fun _ => []⟩, ⟨0, fun _ => .slice zx858 zr41.2.2.2.length zc859, fun _ => []⟩, ⟨0, fun _ => .int .i64 ((zr41.2.2.2.length : Nat) : Int), fun _ => []⟩, ⟨0, fun _ => .int .i64 (((zr41.2.2.2.length : Nat) : Int) - 1), fun _ => []⟩, ⟨0, fun _ => .bool true, fun _ => []⟩, ⟨0, fun _ => .bool true, fun _ => []⟩, ⟨0, fun _ => .bool true, fun _ => []⟩, ⟨0, fun _ => .pointer (some ⟨zb7, 1, none⟩), fun _ => []⟩, ⟨0, fun _ => .int .i64 f, fun _ => []⟩, ⟨0, fun _ => .pointer (some ⟨zb49, 0, none⟩), fun _ => []⟩, ⟨0, fun _ => .int .i64 zr41.1.holder, fun _ => []⟩, ⟨0, fun _ => .bool true, fun _ => []⟩, ⟨0, fun _ => .bool true, fun _ => []⟩, ⟨0, fun _ => .bool true, fun _ => []⟩] [] ?_ ?_
 · refine step_cons ?_ ?_
   · intro zy925 zw926 zhc927 zhf928 zhp929
     have zh930 : zy925 15 = .slice zx858 zr41.2.2.2.length zc859 := (zhf928 15 (by kernel_rfl)).trans (by kernel_rfl)
     have zS931 := zS924.quiet zhc927
     refine step1 ?_
     refine yenv [(15, .slice zx858 zr41.2.2.2.length zc859)] (ag_cons zh930 (ag_nil)) ?_
     have zS932 := zS931.loc
     refine Y.move_ ?_
     exact ⟨zS932.ch, Sp.mk_holds [] (all_nil)⟩
   refine step_cons ?_ ?_
   · intro zy933 zw934 zhc935 zhf936 zhp937
     have zh938 : zy933 131 = .slice zx858 zr41.2.2.2.length zc859 := (Sp.out0 (zhp937 0 131 (by kernel_rfl) (by kernel_rfl))).1
     have zS939 := zS924.quiet zhc935
     refine step1 ?_
     refine yenv [(131, .slice zx858 zr41.2.2.2.length zc859)] (ag_cons zh938 (ag_nil)) ?_
     have zS940 := zS939.loc
     refine Y.pure_ (.int .i64 ((zr41.2.2.2.length : Nat) : Int)) ?_
     exact ⟨zS940.ch, Sp.mk_holds [] (all_nil)⟩
   refine step_cons ?_ ?_
   · intro zy941 zw942 zhc943 zhf944 zhp945
     have zh946 : zy941 132 = .int .i64 ((zr41.2.2.2.length : Nat) : Int) := (Sp.out0 (zhp945 1 132 (by kernel_rfl) (by kernel_rfl))).1
     have zS947 := zS924.quiet zhc943
     refine step1 ?_
     refine yenv [(132, .int .i64 ((zr41.2.2.2.length : Nat) : Int))] (ag_cons zh946 (ag_nil)) ?_
     have zS948 := zS947.loc
     refine Y.pureE_ (.bool (decide (0 < ((zr41.2.2.2.length : Nat) : Int)))) (.bool true) (congrArg Value.bool (ltT (by omega))) ?_
     exact ⟨zS948.ch, Sp.mk_holds [] (all_nil)⟩
   refine step_cons ?_ ?_
   · intro zy949 zw950 zhc951 zhf952 zhp953
     have zh954 : zy949 133 = .bool true := (Sp.out0 (zhp953 2 133 (by kernel_rfl) (by kernel_rfl))).1
     have zS955 := zS924.quiet zhc951
     refine step1 ?_
     refine yenv [(133, .bool true)] (ag_cons zh954 (ag_nil)) ?_
     have zS956 := zS955.loc
     refine Y.pure_ (.bool true) ?_
     exact ⟨zS956.ch, Sp.mk_holds [] (all_nil)⟩
   refine step_cons ?_ ?_
   · intro zy957 zw958 zhc959 zhf960 zhp961
     have zh962 : zy957 16 = .pointer (some ⟨zb878, 0, none⟩) := (zhf960 16 (by kernel_rfl)).trans (by kernel_rfl)
     have zh963 : zy957 134 = .bool true := (Sp.out0 (zhp961 3 134 (by kernel_rfl) (by kernel_rfl))).1
     have zS964 := zS924.quiet zhc959
     refine step_yes (wY_t zh963) ?_
     refine yenv [(16, .pointer (some ⟨zb878, 0, none⟩))] (ag_cons zh962 (ag_nil)) ?_
     have zS965 := zS964.loc
     refine Y.pure_ (.pointer (some ⟨zb878, 0, none⟩)) ?_
     exact ⟨zS965.ch, Sp.mk_holds [] (all_nil)⟩
   refine step_cons ?_ ?_
   · intro zy966 zw967 zhc968 zhf969 zhp970
     have zh971 : zy966 135 = .pointer (some ⟨zb878, 0, none⟩) := (Sp.out0 (zhp970 4 135 (by kernel_rfl) (by kernel_rfl))).1
     have zh972 : zy966 134 = .bool true := (Sp.out0 (zhp970 3 134 (by kernel_rfl) (by kernel_rfl))).1
     have zS973 := zS924.quiet zhc968
     refine step_yes (wY_t zh972) ?_
     refine yenv [(135, .pointer (some ⟨zb878, 0, none⟩))] (ag_cons zh971 (ag_nil)) ?_
     have zS974 := zS973.loc
     refine Y.load1_ zS974 1 (.int .i64 zr870.1.holder) zb878 0 ?_
     exact ⟨zS974.ch, Sp.mk_holds [] (all_nil)⟩
   refine step_cons ?_ ?_
   · intro zy975 zw976 zhc977 zhf978 zhp979
     have zh980 : zy975 15 = .slice zx858 zr41.2.2.2.length zc859 := (zhf978 15 (by kernel_rfl)).trans (by kernel_rfl)
     have zh981 : zy975 134 = .bool true := (Sp.out0 (zhp979 3 134 (by kernel_rfl) (by kernel_rfl))).1
     have zS982 := zS924.quiet zhc977
     refine step_yes (wY_t zh981) ?_
     refine yenv [(15, .slice zx858 zr41.2.2.2.length zc859)] (ag_cons zh980 (ag_nil)) ?_
     have zS983 := zS982.loc
     refine Y.move_ ?_
     exact ⟨zS983.ch, Sp.mk_holds [] (all_nil)⟩
   refine step_cons ?_ ?_
   · intro zy984 zw985 zhc986 zhf987 zhp988
     have zh989 : zy984 137 = .slice zx858 zr41.2.2.2.length zc859 := (Sp.out0 (zhp988 6 137 (by kernel_rfl) (by kernel_rfl))).1
     have zh990 : zy984 134 = .bool true := (Sp.out0 (zhp988 3 134 (by kernel_rfl) (by kernel_rfl))).1
     have zS991 := zS924.quiet zhc986
     refine step_yes (wY_t zh990) ?_
     refine yenv [(137, .slice zx858 zr41.2.2.2.length zc859)] (ag_cons zh989 (ag_nil)) ?_
     have zS992 := zS991.loc
     refine Y.idxS_ (e := 32) zb920 0 0 zr41.2.2.2.length 4 zc859 .i64 0 (by omega) (by omega) rfl ?_ (hx := slice_at zh922 (by kernel_rfl))
     exact ⟨zS992.ch, Sp.mk_holds [] (all_nil)⟩
   refine step_cons ?_ ?_
   · intro zy993 zw994 zhc995 zhf996 zhp997
     have zh998 : zy993 138 = .pointer (some ⟨zb920, 0, none⟩) := (Sp.out0 (zhp997 7 138 (by kernel_rfl) (by kernel_rfl))).1
     have zh999 : zy993 134 = .bool true := (Sp.out0 (zhp997 3 134 (by kernel_rfl) (by kernel_rfl))).1
     have zS1000 := zS924.quiet zhc995
     refine step_yes (wY_t zh999) ?_
     refine yenv [(138, .pointer (some ⟨zb920, 0, none⟩))] (ag_cons zh998 (ag_nil)) ?_
     have zS1001 := zS1000.loc
     refine Y.pure_ (.pointer (some ⟨zb920, 0, none⟩)) ?_
     exact ⟨zS1001.ch, Sp.mk_holds [] (all_nil)⟩
   refine step_cons ?_ ?_
   · intro zy1002 zw1003 zhc1004 zhf1005 zhp1006
     have zh1007 : zy1002 139 = .pointer (some ⟨zb920, 0, none⟩) := (Sp.out0 (zhp1006 8 139 (by kernel_rfl) (by kernel_rfl))).1
     have zh1008 : zy1002 134 = .bool true := (Sp.out0 (zhp1006 3 134 (by kernel_rfl) (by kernel_rfl))).1
     have zS1009 := zS924.quiet zhc1004
     refine step_yes (wY_t zh1008) ?_
     refine yenv [(139, .pointer (some ⟨zb920, 0, none⟩))] (ag_cons zh1007 (ag_nil)) ?_
     have zS1010 := zS1009.loc
     refine Y.load1_ zS1010 0 (.int .i64 zh913.source) zb920 0 ?_
     exact ⟨zS1010.ch, Sp.mk_holds [] (all_nil)⟩
   refine step_cons ?_ ?_
   · intro zy1011 zw1012 zhc1013 zhf1014 zhp1015
     have zh1016 : zy1011 136 = .int .i64 zr870.1.holder := (Sp.out0 (zhp1015 5 136 (by kernel_rfl) (by kernel_rfl))).1
     have zh1017 : zy1011 140 = .int .i64 zh913.source := (Sp.out0 (zhp1015 9 140 (by kernel_rfl) (by kernel_rfl))).1
     have zh1018 : zy1011 134 = .bool true := (Sp.out0 (zhp1015 3 134 (by kernel_rfl) (by kernel_rfl))).1
     have zS1019 := zS924.quiet zhc1013
     refine step_yes (wY_t zh1018) ?_
     refine yenv [(136, .int .i64 zr870.1.holder), (140, .int .i64 zh913.source)] (ag_cons zh1016 (ag_cons zh1017 (ag_nil))) ?_
     have zS1020 := zS1019.loc
     refine Y.pureE_ (.bool (zr870.1.holder == zh913.source)) (.bool true) (congrArg Value.bool (eqT (by omega))) ?_
     exact ⟨zS1020.ch, Sp.mk_holds [] (all_nil)⟩
   refine step_cons ?_ ?_
   · intro zy1021 zw1022 zhc1023 zhf1024 zhp1025
     have zh1026 : zy1021 134 = .bool true := (Sp.out0 (zhp1025 3 134 (by kernel_rfl) (by kernel_rfl))).1
     have zh1027 : zy1021 141 = .bool true := (Sp.out0 (zhp1025 10 141 (by kernel_rfl) (by kernel_rfl))).1
     have zS1028 := zS924.quiet zhc1023
     refine step1 ?_
     refine yenv [(134, .bool true), (141, .bool true)] (ag_cons zh1026 (ag_cons zh1027 (ag_nil))) ?_
     have zS1029 := zS1028.loc
     refine Y.pure_ (.bool true) ?_
     exact ⟨zS1029.ch, Sp.mk_holds [] (all_nil)⟩
   refine step_cons ?_ ?_
   · intro zy1030 zw1031 zhc1032 zhf1033 zhp1034
     have zh1035 : zy1030 142 = .bool true := (Sp.out0 (zhp1034 11 142 (by kernel_rfl) (by kernel_rfl))).1
     have zS1036 := zS924.quiet zhc1032
     refine step1 ?_
     refine yenv [(142, .bool true)] (ag_cons zh1035 (ag_nil)) ?_
     have zS1037 := zS1036.loc
     refine Y.pure_ (.bool true) ?_
     exact ⟨zS1037.ch, Sp.mk_holds [] (all_nil)⟩
   refine step_cons ?_ ?_
   · intro zy1038 zw1039 zhc1040 zhf1041 zhp1042
     have zh1043 : zy1038 9 = .pointer (some ⟨zb21, 0, none⟩) := (zhf1041 9 (by kernel_rfl)).trans (by kernel_rfl)
     have zh1044 : zy1038 143 = .bool true := (Sp.out0 (zhp1042 12 143 (by kernel_rfl) (by kernel_rfl))).1
     have zS1045 := zS924.quiet zhc1040
     refine step_yes (wY_t zh1044) ?_
     refine yenv [(9, .pointer (some ⟨zb21, 0, none⟩))] (ag_cons zh1043 (ag_nil)) ?_
     have zS1046 := zS1045.loc
     refine Y.move_ ?_
     exact ⟨zS1046.ch, Sp.mk_holds [] (all_nil)⟩
   refine step_cons ?_ ?_
   · intro zy1047 zw1048 zhc1049 zhf1050 zhp1051
     have zh1052 : zy1047 144 = .pointer (some ⟨zb21, 0, none⟩) := (Sp.out0 (zhp1051 13 144 (by kernel_rfl) (by kernel_rfl))).1
     have zh1053 : zy1047 143 = .bool true := (Sp.out0 (zhp1051 12 143 (by kernel_rfl) (by kernel_rfl))).1
     have zS1054 := zS924.quiet zhc1049
     refine step_yes (wY_t zh1053) ?_
     refine yenv [(144, .pointer (some ⟨zb21, 0, none⟩))] (ag_cons zh1052 (ag_nil)) ?_
     have zS1055 := zS1054.loc
     refine Y.call_ 12 #[.pointer (some ⟨zb21, 0, none⟩)] ?_
     have zS1061 : St [] w (zq868 ++ ([⟨zb920, true, .cells (([.int .i64 zh913.source, .int .i64 zh913.rank, .int .i64 zh913.age.n, .int .i64 zh913.age.most] : List Value) ++ zt921).toArray 32 (0, 0)⟩, ⟨zb878, true, .cells (tokC zr870.1) 54 (0, 0)⟩, ⟨zb49, true, .cells (tokC zr41.1) 54 (0, 0)⟩, ⟨zb16, true, .cells (polP p ka kn kc) 48 (0, 0)⟩, ⟨zb7, true, .cells #[.int .u8 kd, .int .i64 f, .bool nw] 64 (0, 0)⟩, ⟨zb4, true, .cells (tokC t) 54 (0, 0)⟩, ⟨zb1, true, .cells (polC q pa pn pc) 48 (0, 0)⟩] ++ (zq885 ++ (zq31 ++ (zq56 ++ ([] : List Blk)))))) _ := zS1054.re (R := ([] : List Blk)) [[⟨zb920, true, .cells (([.int .i64 zh913.source, .int .i64 zh913.rank, .int .i64 zh913.age.n, .int .i64 zh913.age.most] : List Value) ++ zt921).toArray 32 (0, 0)⟩], [⟨zb878, true, .cells (tokC zr870.1) 54 (0, 0)⟩], [⟨zb49, true, .cells (tokC zr41.1) 54 (0, 0)⟩], [⟨zb16, true, .cells (polP p ka kn kc) 48 (0, 0)⟩], [⟨zb7, true, .cells #[.int .u8 kd, .int .i64 f, .bool nw] 64 (0, 0)⟩], [⟨zb4, true, .cells (tokC t) 54 (0, 0)⟩], [⟨zb1, true, .cells (polC q pa pn pc) 48 (0, 0)⟩], zq885, zq868, zq31, zq56] [8, 0, 1, 2, 3, 4, 5, 6, 7, 9, 10]
     refine (q_listQ zh869 zS1061).mono ?_; rintro _ zw1056 ⟨⟨zk1059, zc1060, rfl⟩, zh1057⟩
     have zS1058 := zS1055.quiet zh1057
     exact ⟨zS1058.ch, Sp.mk_holds [zk1059, zc1060] (all_nil)⟩
   refine step_cons ?_ ?_
   · intro zy1062 zw1063 zhc1064 zhf1065 zhp1066
     have zo1071 := Sp.out2 (zhp1066 14 145 (by kernel_rfl) (by kernel_rfl))
     obtain ⟨zb1068, zb1069, zh1067', zg1070'⟩ := zo1071
     have zh1067 : zy1062 145 = .slice (optA zb1068) zr870.2.2.length zb1069 := zh1067'
     have zg1070 : ∀ p ∈ ([] : List (Nat × Obj)), zw894.heap.size ≤ p.1 ∧ zw1063.heap[p.1]? = some p.2 := zg1070'
     have zh1072 : zy1062 143 = .bool true := (Sp.out0 (zhp1066 12 143 (by kernel_rfl) (by kernel_rfl))).1
     have zS1073 := zS924.quiet zhc1064
     refine step_yes (wY_t zh1072) ?_
     refine yenv [(145, .slice (optA zb1068) zr870.2.2.length zb1069)] (ag_cons zh1067 (ag_nil)) ?_
     have zS1074 := zS1073.loc
     refine Y.pure_ (.int .i64 ((zr870.2.2.length : Nat) : Int)) ?_
     exact ⟨zS1074.ch, Sp.mk_holds [] (all_nil)⟩
   refine step_cons ?_ ?_
   · intro zy1075 zw1076 zhc1077 zhf1078 zhp1079
     have zh1080 : zy1075 15 = .slice zx858 zr41.2.2.2.length zc859 := (zhf1078 15 (by kernel_rfl)).trans (by kernel_rfl)
     have zh1081 : zy1075 143 = .bool true := (Sp.out0 (zhp1079 12 143 (by kernel_rfl) (by kernel_rfl))).1
     have zS1082 := zS924.quiet zhc1077
     refine step_yes (wY_t zh1081) ?_
     refine yenv [(15, .slice zx858 zr41.2.2.2.length zc859)] (ag_cons zh1080 (ag_nil)) ?_
     have zS1083 := zS1082.loc
     refine Y.move_ ?_
     exact ⟨zS1083.ch, Sp.mk_holds [] (all_nil)⟩
   refine step_cons ?_ ?_
   · intro zy1084 zw1085 zhc1086 zhf1087 zhp1088
     have zh1089 : zy1084 147 = .slice zx858 zr41.2.2.2.length zc859 := (Sp.out0 (zhp1088 16 147 (by kernel_rfl) (by kernel_rfl))).1
     have zh1090 : zy1084 143 = .bool true := (Sp.out0 (zhp1088 12 143 (by kernel_rfl) (by kernel_rfl))).1
     have zS1091 := zS924.quiet zhc1086
     refine step_yes (wY_t zh1090) ?_
     refine yenv [(147, .slice zx858 zr41.2.2.2.length zc859)] (ag_cons zh1089 (ag_nil)) ?_
     have zS1092 := zS1091.loc
     refine Y.pure_ (.int .i64 ((zr41.2.2.2.length : Nat) : Int)) ?_
     exact ⟨zS1092.ch, Sp.mk_holds [] (all_nil)⟩
   refine step_cons ?_ ?_
   · intro zy1093 zw1094 zhc1095 zhf1096 zhp1097
     have zh1098 : zy1093 148 = .int .i64 ((zr41.2.2.2.length : Nat) : Int) := (Sp.out0 (zhp1097 17 148 (by kernel_rfl) (by kernel_rfl))).1
     have zh1099 : zy1093 143 = .bool true := (Sp.out0 (zhp1097 12 143 (by kernel_rfl) (by kernel_rfl))).1
     have zS1100 := zS924.quiet zhc1095
     refine step_yes (wY_t zh1099) ?_
     refine yenv [(148, .int .i64 ((zr41.2.2.2.length : Nat) : Int))] (ag_cons zh1098 (ag_nil)) ?_
     have zS1101 := zS1100.loc
     refine Y.sum_ .i64 (((zr41.2.2.2.length : Nat) : Int) - 1) (IntWalk.i64_in _ (by omega)) ?_
     exact ⟨zS1101.ch, Sp.mk_holds [] (all_nil)⟩
   refine step_cons ?_ ?_
   · intro zy1102 zw1103 zhc1104 zhf1105 zhp1106
     have zh1107 : zy1102 146 = .int .i64 ((zr870.2.2.length : Nat) : Int) := (Sp.out0 (zhp1106 15 146 (by kernel_rfl) (by kernel_rfl))).1
     have zh1108 : zy1102 149 = .int .i64 (((zr41.2.2.2.length : Nat) : Int) - 1) := (Sp.out0 (zhp1106 18 149 (by kernel_rfl) (by kernel_rfl))).1
     have zh1109 : zy1102 143 = .bool true := (Sp.out0 (zhp1106 12 143 (by kernel_rfl) (by kernel_rfl))).1
     have zS1110 := zS924.quiet zhc1104
     refine step_yes (wY_t zh1109) ?_
     refine yenv [(146, .int .i64 ((zr870.2.2.length : Nat) : Int)), (149, .int .i64 (((zr41.2.2.2.length : Nat) : Int) - 1))] (ag_cons zh1107 (ag_cons zh1108 (ag_nil))) ?_
     have zS1111 := zS1110.loc
     refine Y.pureE_ (.bool (((zr870.2.2.length : Nat) : Int) == (((zr41.2.2.2.length : Nat) : Int) - 1))) (.bool true) (congrArg Value.bool (eqT (by omega))) ?_
     exact ⟨zS1111.ch, Sp.mk_holds [] (all_nil)⟩
   refine step_cons ?_ ?_
   · intro zy1112 zw1113 zhc1114 zhf1115 zhp1116
     have zh1117 : zy1112 143 = .bool true := (Sp.out0 (zhp1116 12 143 (by kernel_rfl) (by kernel_rfl))).1
     have zh1118 : zy1112 150 = .bool true := (Sp.out0 (zhp1116 19 150 (by kernel_rfl) (by kernel_rfl))).1
     have zS1119 := zS924.quiet zhc1114
     refine step1 ?_
     refine yenv [(143, .bool true), (150, .bool true)] (ag_cons zh1117 (ag_cons zh1118 (ag_nil))) ?_
     have zS1120 := zS1119.loc
     refine Y.pure_ (.bool true) ?_
     exact ⟨zS1120.ch, Sp.mk_holds [] (all_nil)⟩
   refine step_cons ?_ ?_
   · intro zy1121 zw1122 zhc1123 zhf1124 zhp1125
     have zh1126 : zy1121 151 = .bool true := (Sp.out0 (zhp1125 20 151 (by kernel_rfl) (by kernel_rfl))).1
     have zS1127 := zS924.quiet zhc1123
     refine step1 ?_
     refine yenv [(151, .bool true)] (ag_cons zh1126 (ag_nil)) ?_
     have zS1128 := zS1127.loc
     refine Y.pure_ (.bool true) ?_
     exact ⟨zS1128.ch, Sp.mk_holds [] (all_nil)⟩
   refine step_cons ?_ ?_
   · intro zy1129 zw1130 zhc1131 zhf1132 zhp1133
     have zh1134 : zy1129 5 = .pointer (some ⟨zb7, 0, none⟩) := (zhf1132 5 (by kernel_rfl)).trans (by kernel_rfl)
     have zh1135 : zy1129 152 = .bool true := (Sp.out0 (zhp1133 21 152 (by kernel_rfl) (by kernel_rfl))).1
     have zS1136 := zS924.quiet zhc1131
     refine step_yes (wY_t zh1135) ?_
     refine yenv [(5, .pointer (some ⟨zb7, 0, none⟩))] (ag_cons zh1134 (ag_nil)) ?_
     have zS1137 := zS1136.loc
     refine Y.pure_ (.pointer (some ⟨zb7, 1, none⟩)) ?_
     exact ⟨zS1137.ch, Sp.mk_holds [] (all_nil)⟩
   refine step_cons ?_ ?_
   · intro zy1138 zw1139 zhc1140 zhf1141 zhp1142
     have zh1143 : zy1138 153 = .pointer (some ⟨zb7, 1, none⟩) := (Sp.out0 (zhp1142 22 153 (by kernel_rfl) (by kernel_rfl))).1
     have zh1144 : zy1138 152 = .bool true := (Sp.out0 (zhp1142 21 152 (by kernel_rfl) (by kernel_rfl))).1
     have zS1145 := zS924.quiet zhc1140
     refine step_yes (wY_t zh1144) ?_
     refine yenv [(153, .pointer (some ⟨zb7, 1, none⟩))] (ag_cons zh1143 (ag_nil)) ?_
     have zS1146 := zS1145.loc
     refine Y.load1_ zS1146 4 (.int .i64 f) zb7 1 ?_
     exact ⟨zS1146.ch, Sp.mk_holds [] (all_nil)⟩
   refine step_cons ?_ ?_
   · intro zy1147 zw1148 zhc1149 zhf1150 zhp1151
     have zh1152 : zy1147 11 = .pointer (some ⟨zb49, 0, none⟩) := (zhf1150 11 (by kernel_rfl)).trans (by kernel_rfl)
     have zh1153 : zy1147 152 = .bool true := (Sp.out0 (zhp1151 21 152 (by kernel_rfl) (by kernel_rfl))).1
     have zS1154 := zS924.quiet zhc1149
     refine step_yes (wY_t zh1153) ?_
     refine yenv [(11, .pointer (some ⟨zb49, 0, none⟩))] (ag_cons zh1152 (ag_nil)) ?_
     have zS1155 := zS1154.loc
     refine Y.pure_ (.pointer (some ⟨zb49, 0, none⟩)) ?_
     exact ⟨zS1155.ch, Sp.mk_holds [] (all_nil)⟩
   refine step_cons ?_ ?_
   · intro zy1156 zw1157 zhc1158 zhf1159 zhp1160
     have zh1161 : zy1156 155 = .pointer (some ⟨zb49, 0, none⟩) := (Sp.out0 (zhp1160 24 155 (by kernel_rfl) (by kernel_rfl))).1
     have zh1162 : zy1156 152 = .bool true := (Sp.out0 (zhp1160 21 152 (by kernel_rfl) (by kernel_rfl))).1
     have zS1163 := zS924.quiet zhc1158
     refine step_yes (wY_t zh1162) ?_
     refine yenv [(155, .pointer (some ⟨zb49, 0, none⟩))] (ag_cons zh1161 (ag_nil)) ?_
     have zS1164 := zS1163.loc
     refine Y.load1_ zS1164 2 (.int .i64 zr41.1.holder) zb49 0 ?_
     exact ⟨zS1164.ch, Sp.mk_holds [] (all_nil)⟩
   refine step_cons ?_ ?_
   · intro zy1165 zw1166 zhc1167 zhf1168 zhp1169
     have zh1170 : zy1165 154 = .int .i64 f := (Sp.out0 (zhp1169 23 154 (by kernel_rfl) (by kernel_rfl))).1
     have zh1171 : zy1165 156 = .int .i64 zr41.1.holder := (Sp.out0 (zhp1169 25 156 (by kernel_rfl) (by kernel_rfl))).1
     have zh1172 : zy1165 152 = .bool true := (Sp.out0 (zhp1169 21 152 (by kernel_rfl) (by kernel_rfl))).1
     have zS1173 := zS924.quiet zhc1167
     refine step_yes (wY_t zh1172) ?_
     refine yenv [(154, .int .i64 f), (156, .int .i64 zr41.1.holder)] (ag_cons zh1170 (ag_cons zh1171 (ag_nil))) ?_
     have zS1174 := zS1173.loc
     refine Y.pureE_ (.bool (f == zr41.1.holder)) (.bool true) (congrArg Value.bool (eqT (by omega))) ?_
     exact ⟨zS1174.ch, Sp.mk_holds [] (all_nil)⟩
   refine step_cons ?_ ?_
   · intro zy1175 zw1176 zhc1177 zhf1178 zhp1179
     have zh1180 : zy1175 152 = .bool true := (Sp.out0 (zhp1179 21 152 (by kernel_rfl) (by kernel_rfl))).1
     have zh1181 : zy1175 157 = .bool true := (Sp.out0 (zhp1179 26 157 (by kernel_rfl) (by kernel_rfl))).1
     have zS1182 := zS924.quiet zhc1177
     refine step1 ?_
     refine yenv [(152, .bool true), (157, .bool true)] (ag_cons zh1180 (ag_cons zh1181 (ag_nil))) ?_
     have zS1183 := zS1182.loc
     refine Y.pure_ (.bool true) ?_
     exact ⟨zS1183.ch, Sp.mk_holds [] (all_nil)⟩
   refine step_cons ?_ ?_
   · intro zy1184 zw1185 zhc1186 zhf1187 zhp1188
     have zh1189 : zy1184 158 = .bool true := (Sp.out0 (zhp1188 27 158 (by kernel_rfl) (by kernel_rfl))).1
     have zS1190 := zS924.quiet zhc1186
     refine step1 ?_
     refine yenv [(158, .bool true)] (ag_cons zh1189 (ag_nil)) ?_
     have zS1191 := zS1190.loc
     refine Y.pure_ (.bool true) ?_
     exact ⟨zS1191.ch, Sp.mk_holds [] (all_nil)⟩
   exact step_nil
 intro zv1192 zw1193 zhc1194 zha1195
 have zh1196 : zv1192 0 = .slice zx858 zr41.2.2.2.length zc859 := (Sp.out0 (zha1195 0 (by kernel_rfl))).1
 have zh1197 : zv1192 1 = .int .i64 ((zr41.2.2.2.length : Nat) : Int) := (Sp.out0 (zha1195 1 (by kernel_rfl))).1
 have zh1198 : zv1192 2 = .bool true := (Sp.out0 (zha1195 2 (by kernel_rfl))).1
 have zh1199 : zv1192 3 = .bool true := (Sp.out0 (zha1195 3 (by kernel_rfl))).1
 have zh1200 : zv1192 4 = .pointer (some ⟨zb878, 0, none⟩) := (Sp.out0 (zha1195 4 (by kernel_rfl))).1
 have zh1201 : zv1192 5 = .int .i64 zr870.1.holder := (Sp.out0 (zha1195 5 (by kernel_rfl))).1
 have zh1202 : zv1192 6 = .slice zx858 zr41.2.2.2.length zc859 := (Sp.out0 (zha1195 6 (by kernel_rfl))).1
 have zh1203 : zv1192 7 = .pointer (some ⟨zb920, 0, none⟩) := (Sp.out0 (zha1195 7 (by kernel_rfl))).1
 have zh1204 : zv1192 8 = .pointer (some ⟨zb920, 0, none⟩) := (Sp.out0 (zha1195 8 (by kernel_rfl))).1
 have zh1205 : zv1192 9 = .int .i64 zh913.source := (Sp.out0 (zha1195 9 (by kernel_rfl))).1
 have zh1206 : zv1192 10 = .bool true := (Sp.out0 (zha1195 10 (by kernel_rfl))).1
 have zh1207 : zv1192 11 = .bool true := (Sp.out0 (zha1195 11 (by kernel_rfl))).1
 have zh1208 : zv1192 12 = .bool true := (Sp.out0 (zha1195 12 (by kernel_rfl))).1
 have zh1209 : zv1192 13 = .pointer (some ⟨zb21, 0, none⟩) := (Sp.out0 (zha1195 13 (by kernel_rfl))).1
 have zo1214 := Sp.out2 (zha1195 14 (by kernel_rfl))
 obtain ⟨zb1211, zb1212, zh1210', zg1213'⟩ := zo1214
 have zh1210 : zv1192 14 = .slice (optA zb1211) zr870.2.2.length zb1212 := zh1210'
 have zg1213 : ∀ p ∈ ([] : List (Nat × Obj)), zw894.heap.size ≤ p.1 ∧ zw1193.heap[p.1]? = some p.2 := zg1213'
 have zh1215 : zv1192 15 = .int .i64 ((zr870.2.2.length : Nat) : Int) := (Sp.out0 (zha1195 15 (by kernel_rfl))).1
 have zh1216 : zv1192 16 = .slice zx858 zr41.2.2.2.length zc859 := (Sp.out0 (zha1195 16 (by kernel_rfl))).1
 have zh1217 : zv1192 17 = .int .i64 ((zr41.2.2.2.length : Nat) : Int) := (Sp.out0 (zha1195 17 (by kernel_rfl))).1
 have zh1218 : zv1192 18 = .int .i64 (((zr41.2.2.2.length : Nat) : Int) - 1) := (Sp.out0 (zha1195 18 (by kernel_rfl))).1
 have zh1219 : zv1192 19 = .bool true := (Sp.out0 (zha1195 19 (by kernel_rfl))).1
 have zh1220 : zv1192 20 = .bool true := (Sp.out0 (zha1195 20 (by kernel_rfl))).1
 have zh1221 : zv1192 21 = .bool true := (Sp.out0 (zha1195 21 (by kernel_rfl))).1
 have zh1222 : zv1192 22 = .pointer (some ⟨zb7, 1, none⟩) := (Sp.out0 (zha1195 22 (by kernel_rfl))).1
 have zh1223 : zv1192 23 = .int .i64 f := (Sp.out0 (zha1195 23 (by kernel_rfl))).1
 have zh1224 : zv1192 24 = .pointer (some ⟨zb49, 0, none⟩) := (Sp.out0 (zha1195 24 (by kernel_rfl))).1
 have zh1225 : zv1192 25 = .int .i64 zr41.1.holder := (Sp.out0 (zha1195 25 (by kernel_rfl))).1
 have zh1226 : zv1192 26 = .bool true := (Sp.out0 (zha1195 26 (by kernel_rfl))).1
 have zh1227 : zv1192 27 = .bool true := (Sp.out0 (zha1195 27 (by kernel_rfl))).1
 have zh1228 : zv1192 28 = .bool true := (Sp.out0 (zha1195 28 (by kernel_rfl))).1
 have zS1229 := zS924.quiet zhc1194
 refine ⟨[.slice zx858 zr41.2.2.2.length zc859, .int .i64 ((zr41.2.2.2.length : Nat) : Int), .bool true, .bool true, .pointer (some ⟨zb878, 0, none⟩), .int .i64 zr870.1.holder, .slice zx858 zr41.2.2.2.length zc859, .pointer (some ⟨zb920, 0, none⟩), .pointer (some ⟨zb920, 0, none⟩), .int .i64 zh913.source, .bool true, .bool true, .bool true, .pointer (some ⟨zb21, 0, none⟩), .slice (optA zb1211) zr870.2.2.length zb1212, .int .i64 ((zr870.2.2.length : Nat) : Int), .slice zx858 zr41.2.2.2.length zc859, .int .i64 ((zr41.2.2.2.length : Nat) : Int), .int .i64 (((zr41.2.2.2.length : Nat) : Int) - 1), .bool true, .bool true, .bool true, .pointer (some ⟨zb7, 1, none⟩), .int .i64 f, .pointer (some ⟨zb49, 0, none⟩), .int .i64 zr41.1.holder, .bool true, .bool true, .bool true], by kernel_rfl, va_cons zh1196 (va_cons zh1197 (va_cons zh1198 (va_cons zh1199 (va_cons zh1200 (va_cons zh1201 (va_cons zh1202 (va_cons zh1203 (va_cons zh1204 (va_cons zh1205 (va_cons zh1206 (va_cons zh1207 (va_cons zh1208 (va_cons zh1209 (va_cons zh1210 (va_cons zh1215 (va_cons zh1216 (va_cons zh1217 (va_cons zh1218 (va_cons zh1219 (va_cons zh1220 (va_cons zh1221 (va_cons zh1222 (va_cons zh1223 (va_cons zh1224 (va_cons zh1225 (va_cons zh1226 (va_cons zh1227 (va_cons zh1228 (va_nil))))))))))))))))))))))))))))), ?_⟩
 refine nil_ (then_n (wp_ret ?_))
 refine ret_ rfl (res_ [.tmp 6] [.bool true] (.bool true) ⟨res_tmp, trivial⟩) ?_
 exact ⟨rfl, zS1229.ch⟩

end Go.Proofs.Ytmfhgekknjghoaa
