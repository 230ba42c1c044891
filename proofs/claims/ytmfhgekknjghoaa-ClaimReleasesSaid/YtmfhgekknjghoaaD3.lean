/- ClaimReleases: the walk. -/
import Derived.Test.YtmfhgekknjghoaaD2
namespace Go.Proofs.Ytmfhgekknjghoaa
open Go Go.RowKit Go.BigFrame Sx
set_option linter.unusedVariables false
set_option linter.unusedSimpArgs false

set_option maxRecDepth 100000 in
set_option maxHeartbeats 4000000 in
theorem claimReleases_any (q : Nat → Int) (pa : Nat → Option Addr) (pn pc : Nat → Nat) (kb : Nat → Nat → Int) (x0 x1 ep : Int) (h0 : 0 ≤ x0 ∧ x0 ≤ 255) (h1 : 0 ≤ x1 ∧ x1 ≤ 255) (he : 0 ≤ ep ∧ ep ≤ 65535) (w : World) (hq : ∀ i, -9223372036854775808 ≤ q i ∧ q i ≤ 9223372036854775807) (hK : ∀ i, i < 4 → KeyIn [] w (pa i) (pn i) (pc i) (kb i)) :
    Gives Try.prog 6 #[.agg (polC q pa pn pc), .agg #[.int .u8 x0, .int .u8 x1], .int .u16 ep] w fun v w1 => v = .bool true ∧ Ch [] w w1 := by
 have S0 := St.nil [] w
 refine enter_ Try.func6 rfl ?_
 refine seq_ (reg_ ?_)
 refine new_ S0 (fun b => .pointer (some ⟨b, 0, none⟩)) (.cells (polC q pa pn pc) 48) ?_
 intro zb1 zw2 zS3
 refine new_ zS3 (fun b => .pointer (some ⟨b, 0, none⟩)) (.cells #[.int .u8 x0, .int .u8 x1] 49) ?_
 intro zb4 zw5 zS6
 refine pure_ (.bool false) ?_
 refine nil_ (then_n (seq_ (reg_ ?_)))
 refine call_ 18 #[] ?_
 refine (shown20_ _).mono ?_; rintro _ zw7 ⟨rfl, zhc8⟩
 have zS9 := zS6.quiet zhc8
 refine pure_ (.bool true) ?_
 refine nil_ (then_n (seq_ (reg_ ?_)))
 refine loadN_ zS9 1 56 (polC q pa pn pc) zb1 0 ?_
 refine call_ 19 #[.agg (polC q pa pn pc)] ?_
 refine (fitP_ q pa pn pc kb w _ (zS9).ch hq hK).mono ?_; rintro _ zw10 ⟨p, ka, kn, kc, hp, rfl, zh11⟩
 have zS12 := zS9.quiet zh11
 refine new_ zS12 (fun b => .pointer (some ⟨b, 0, none⟩)) (.cells #[.int .i64 0, .int .i64 0, .int .i64 0, .int .i64 0, .int .i64 0, .slice none 0 0, .slice none 0 0, .slice none 0 0, .slice none 0 0, .int .i64 0, .int .i64 0, .int .i64 0, .int .i64 0, .int .i64 0, .int .i64 0, .int .i64 0, .int .i64 0, .int .i64 0, .int .i64 0, .int .i64 0, .int .i64 0, .int .i64 0, .int .i64 0, .int .i64 0, .int .i64 0, .int .i64 0, .int .i64 0, .int .i64 0, .int .i64 0, .int .i64 0, .int .i64 0, .int .i64 0, .int .i64 0, .int .i64 0, .int .i64 0, .int .i64 0, .int .i64 0, .int .i64 0, .int .i64 0, .int .i64 0, .int .i64 0, .int .i64 0, .int .i64 0, .int .i64 0, .int .i64 0, .int .i64 0, .int .i64 0, .int .i64 0, .int .i64 0, .int .i64 0, .int .i64 0, .int .i64 0, .int .i64 0, .int .i64 0, .int .i64 0, .int .i64 0] 48) ?_
 intro zb13 zw14 zS15
 refine store_ zS15 0 (.agg (polP p ka kn kc)) zb13 0 ?_
 intro zw16 zS17
 refine nil_ (then_n (seq_ (reg_ ?_)))
 refine pure_ (.pointer (some ⟨zb4, 0, none⟩)) ?_
 refine load1_ zS17 1 (.int .u8 x0) zb4 0 ?_
 refine sum_ .i64 x0 (IntWalk.i64_in _ (by omega)) ?_
 refine pureE_ (.int .i64 (Int.tmod x0 4)) (.int .i64 (x0 % 4)) (congrArg _ (IntWalk.rem_in _ _ (by omega))) ?_
 refine split_b ((x0 % 4) == 0) ?_ ?_
 · intro zh18
   have zh19 := eqT' zh18
   refine slotI_ 25 .i64 (x0 % 4) 0 (by omega) ?_
   refine pure_ (.int .i64 0) ?_
   refine nil_ (then_n (seq_ ?_))
   refine quietL_ 4 [.pointer (some ⟨zb4, 1, none⟩), .int .u8 x1, .int .i64 0, .int .u8 1] [[4, 1, 0], [4, 1], [4, 3, 2], [4, 3], [5, 0], [5, 1], [5, 2], [5, 3], [5, 4]] (step_cons qP_ (step_cons (qL_ zS17 1 zb4 1) (step_cons qP_ (step_cons qP_ (step_nil))))) ?_
   intro zw20 zh22
   have zS21 := zS17.quiet zh22
   refine pure_ (.int .u8 (bits .andNot .u8 x1 1)) ?_
   refine assign_ ?_
   refine nil_ (then_n (seq_ (reg_ ?_)))
   refine loadN_ zS21 0 56 (polP p ka kn kc) zb13 0 ?_
   refine move_ ?_
   refine call_ 20 #[.agg (polP p ka kn kc), .int .u8 (bits .andNot .u8 x1 1)] ?_
   have zS26 : St [] w ([⟨zb13, true, .cells (polP p ka kn kc) 48 (0, 0)⟩, ⟨zb4, true, .cells #[.int .u8 x0, .int .u8 x1] 49 (0, 0)⟩, ⟨zb1, true, .cells (polC q pa pn pc) 48 (0, 0)⟩] ++ ([] : List Blk)) zw20 := zS21.re (R := ([] : List Blk)) [[⟨zb13, true, .cells (polP p ka kn kc) 48 (0, 0)⟩], [⟨zb4, true, .cells #[.int .u8 x0, .int .u8 x1] 49 (0, 0)⟩], [⟨zb1, true, .cells (polC q pa pn pc) 48 (0, 0)⟩]] [0, 1, 2]
   refine (waits_ p ka kn kc (bits .andNot .u8 x1 1) hp _ zS26).mono ?_; rintro _ zw27 ⟨zb23, zq24, rfl, zh25, zS28⟩
   have zS30 : St [] w ([⟨zb13, true, .cells (polP p ka kn kc) 48 (0, 0)⟩, ⟨zb4, true, .cells #[.int .u8 x0, .int .u8 x1] 49 (0, 0)⟩, ⟨zb1, true, .cells (polC q pa pn pc) 48 (0, 0)⟩] ++ (zq24 ++ ([] : List Blk))) zw27 := zS28.re (R := ([] : List Blk)) [zq24, [⟨zb13, true, .cells (polP p ka kn kc) 48 (0, 0)⟩], [⟨zb4, true, .cells #[.int .u8 x0, .int .u8 x1] 49 (0, 0)⟩], [⟨zb1, true, .cells (polC q pa pn pc) 48 (0, 0)⟩]] [1, 2, 3, 0]
   refine assign_ ?_
   refine nil_ (then_n (seq_ (seq_ (reg_ ?_))))
   refine pure_ (.bool true) ?_
   refine pure_ (.bool false) ?_
   refine pure_ (.bool false) ?_
   refine move_ ?_
   refine pure_ (.bool false) ?_
   refine pure_ (.bool false) ?_
   refine nil_ (then_n (cond_F ?_))
   refine wp_skip (then_n (seq_ (reg_ ?_)))
   refine move_ ?_
   refine call_ 12 #[.pointer (some ⟨zb23, 0, none⟩)] ?_
   have zS36 : St [] w (zq24 ++ ([⟨zb13, true, .cells (polP p ka kn kc) 48 (0, 0)⟩, ⟨zb4, true, .cells #[.int .u8 x0, .int .u8 x1] 49 (0, 0)⟩, ⟨zb1, true, .cells (polC q pa pn pc) 48 (0, 0)⟩] ++ ([] : List Blk))) zw27 := zS30.re (R := ([] : List Blk)) [[⟨zb13, true, .cells (polP p ka kn kc) 48 (0, 0)⟩], [⟨zb4, true, .cells #[.int .u8 x0, .int .u8 x1] 49 (0, 0)⟩], [⟨zb1, true, .cells (polC q pa pn pc) 48 (0, 0)⟩], zq24] [3, 0, 1, 2]
   refine (q_list zh25 zS36).mono ?_; rintro _ zw37 ⟨zx31, zc32, zq33, rfl, zh34, zS38⟩
   have zh35 : (waitsL p (bits .andNot .u8 x1 1)).length ≤ 3 := q_len zh25
   have zS40 : St [] w ([⟨zb13, true, .cells (polP p ka kn kc) 48 (0, 0)⟩, ⟨zb4, true, .cells #[.int .u8 x0, .int .u8 x1] 49 (0, 0)⟩, ⟨zb1, true, .cells (polC q pa pn pc) 48 (0, 0)⟩] ++ (zq33 ++ (zq24 ++ ([] : List Blk)))) zw37 := zS38.re (R := ([] : List Blk)) [zq33, zq24, [⟨zb13, true, .cells (polP p ka kn kc) 48 (0, 0)⟩], [⟨zb4, true, .cells #[.int .u8 x0, .int .u8 x1] 49 (0, 0)⟩], [⟨zb1, true, .cells (polC q pa pn pc) 48 (0, 0)⟩]] [2, 3, 4, 0, 1]
   refine pure_ (.int .i64 ((((waitsL p (bits .andNot .u8 x1 1)).length) : Nat) : Int)) ?_
   refine assign_ ?_
   refine nil_ (then_n (seq_ (reg_ ?_)))
   refine pure_ (.int .i64 0) ?_
   refine pure_ (.int .u16 ep) ?_
   refine sum_ .i64 ep (IntWalk.i64_in _ (by omega)) ?_
   refine pure_ (.agg #[.int .i64 0, .int .i64 ep, .int .i64 (-1), .int .i64 0, .int .i64 0, .int .i64 0, .int .i64 0, .bool false]) ?_
   refine new_ zS40 (fun b => .pointer (some ⟨b, 0, none⟩)) (.cells #[.int .i64 0, .int .i64 0, .int .i64 0, .int .i64 0, .int .i64 0, .int .i64 0, .int .i64 0, .bool false] 54) ?_
   intro zb41 zw42 zS43
   refine store_ zS43 0 (.agg #[.int .i64 0, .int .i64 ep, .int .i64 (-1), .int .i64 0, .int .i64 0, .int .i64 0, .int .i64 0, .bool false]) zb41 0 ?_
   intro zw44 zS45
   refine nil_ (then_n (seq_ (reg_ ?_)))
   refine loadN_ zS45 0 8 #[.int .i64 0, .int .i64 ep, .int .i64 (-1), .int .i64 0, .int .i64 0, .int .i64 0, .int .i64 0, .bool false] zb41 0 ?_
   refine move_ ?_
   refine pure_ (.int .i64 0) ?_
   refine pure_ (.int .i64 1) ?_
   refine call_ 21 #[.agg #[.int .i64 0, .int .i64 ep, .int .i64 (-1), .int .i64 0, .int .i64 0, .int .i64 0, .int .i64 0, .bool false], .pointer (some ⟨zb23, 0, none⟩), .int .i64 1] ?_
   have zS50 : St [] w (zq24 ++ ([⟨zb41, true, .cells #[.int .i64 0, .int .i64 ep, .int .i64 (-1), .int .i64 0, .int .i64 0, .int .i64 0, .int .i64 0, .bool false] 54 (0, 0)⟩, ⟨zb13, true, .cells (polP p ka kn kc) 48 (0, 0)⟩, ⟨zb4, true, .cells #[.int .u8 x0, .int .u8 x1] 49 (0, 0)⟩, ⟨zb1, true, .cells (polC q pa pn pc) 48 (0, 0)⟩] ++ (zq33 ++ ([] : List Blk)))) zw44 := zS45.re (R := ([] : List Blk)) [[⟨zb41, true, .cells #[.int .i64 0, .int .i64 ep, .int .i64 (-1), .int .i64 0, .int .i64 0, .int .i64 0, .int .i64 0, .bool false] 54 (0, 0)⟩], [⟨zb13, true, .cells (polP p ka kn kc) 48 (0, 0)⟩], [⟨zb4, true, .cells #[.int .u8 x0, .int .u8 x1] 49 (0, 0)⟩], [⟨zb1, true, .cells (polC q pa pn pc) 48 (0, 0)⟩], zq33, zq24] [5, 0, 1, 2, 3, 4]
   refine (release_ zb23 3 (waitsL p (bits .andNot .u8 x1 1)) zq24 (⟨0, ep, (-1), (⟨0, 0⟩ : Sd.Timer), (⟨0, 0⟩ : Sd.Timer), false⟩ : Sd.Tok) 1 zh25 (by dsimp only; omega) _ zS50).mono ?_; rintro _ zw51 ⟨zq46, rfl, zh47, zS52⟩
   have zS54 : St [] w ([⟨zb41, true, .cells #[.int .i64 0, .int .i64 ep, .int .i64 (-1), .int .i64 0, .int .i64 0, .int .i64 0, .int .i64 0, .bool false] 54 (0, 0)⟩, ⟨zb13, true, .cells (polP p ka kn kc) 48 (0, 0)⟩, ⟨zb4, true, .cells #[.int .u8 x0, .int .u8 x1] 49 (0, 0)⟩, ⟨zb1, true, .cells (polC q pa pn pc) 48 (0, 0)⟩] ++ (zq46 ++ (zq33 ++ ([] : List Blk)))) zw51 := zS52.re (R := ([] : List Blk)) [zq46, [⟨zb41, true, .cells #[.int .i64 0, .int .i64 ep, .int .i64 (-1), .int .i64 0, .int .i64 0, .int .i64 0, .int .i64 0, .bool false] 54 (0, 0)⟩], [⟨zb13, true, .cells (polP p ka kn kc) 48 (0, 0)⟩], [⟨zb4, true, .cells #[.int .u8 x0, .int .u8 x1] 49 (0, 0)⟩], [⟨zb1, true, .cells (polC q pa pn pc) 48 (0, 0)⟩], zq33] [1, 2, 3, 4, 0, 5]
   refine move_ ?_
   refine pure_ (.agg #[.int .i64 0, .int .i64 ep, .int .i64 (-1), .int .i64 0, .int .i64 0, .int .i64 0, .int .i64 0, .bool false]) ?_
   refine pure_ (.int .i64 20) ?_
   refine new_ zS54 (fun b => .pointer (some ⟨b, 0, none⟩)) (.cells #[.int .i64 0, .int .i64 0, .int .i64 0, .int .i64 0, .int .i64 0, .int .i64 0, .int .i64 0, .bool false] 54) ?_
   intro zb55 zw56 zS57
   refine store_ zS57 0 (.agg #[.int .i64 0, .int .i64 ep, .int .i64 (-1), .int .i64 0, .int .i64 0, .int .i64 0, .int .i64 0, .bool false]) zb55 0 ?_
   intro zw58 zS59
   refine pure_ (.int .i64 20) ?_
   refine nil_ (then_n (seq_ (reg_ ?_)))
   refine loadN_ zS59 1 8 #[.int .i64 0, .int .i64 ep, .int .i64 (-1), .int .i64 0, .int .i64 0, .int .i64 0, .int .i64 0, .bool false] zb41 0 ?_
   refine move_ ?_
   refine pure_ (.int .i64 0) ?_
   refine call_ 21 #[.agg #[.int .i64 0, .int .i64 ep, .int .i64 (-1), .int .i64 0, .int .i64 0, .int .i64 0, .int .i64 0, .bool false], .pointer (some ⟨zb23, 0, none⟩), .int .i64 0] ?_
   have zS64 : St [] w (zq46 ++ ([⟨zb55, true, .cells #[.int .i64 0, .int .i64 ep, .int .i64 (-1), .int .i64 0, .int .i64 0, .int .i64 0, .int .i64 0, .bool false] 54 (0, 0)⟩, ⟨zb41, true, .cells #[.int .i64 0, .int .i64 ep, .int .i64 (-1), .int .i64 0, .int .i64 0, .int .i64 0, .int .i64 0, .bool false] 54 (0, 0)⟩, ⟨zb13, true, .cells (polP p ka kn kc) 48 (0, 0)⟩, ⟨zb4, true, .cells #[.int .u8 x0, .int .u8 x1] 49 (0, 0)⟩, ⟨zb1, true, .cells (polC q pa pn pc) 48 (0, 0)⟩] ++ (zq33 ++ ([] : List Blk)))) zw58 := zS59.re (R := ([] : List Blk)) [[⟨zb55, true, .cells #[.int .i64 0, .int .i64 ep, .int .i64 (-1), .int .i64 0, .int .i64 0, .int .i64 0, .int .i64 0, .bool false] 54 (0, 0)⟩], [⟨zb41, true, .cells #[.int .i64 0, .int .i64 ep, .int .i64 (-1), .int .i64 0, .int .i64 0, .int .i64 0, .int .i64 0, .bool false] 54 (0, 0)⟩], [⟨zb13, true, .cells (polP p ka kn kc) 48 (0, 0)⟩], [⟨zb4, true, .cells #[.int .u8 x0, .int .u8 x1] 49 (0, 0)⟩], [⟨zb1, true, .cells (polC q pa pn pc) 48 (0, 0)⟩], zq46, zq33] [5, 0, 1, 2, 3, 4, 6]
   refine (release_ zb23 3 (waitsL p (bits .andNot .u8 x1 1)) zq46 (⟨0, ep, (-1), (⟨0, 0⟩ : Sd.Timer), (⟨0, 0⟩ : Sd.Timer), false⟩ : Sd.Tok) 0 zh47 (by dsimp only; omega) _ zS64).mono ?_; rintro _ zw65 ⟨zq60, rfl, zh61, zS66⟩
   generalize ze68 : Sd.releaseTok (⟨0, ep, (-1), (⟨0, 0⟩ : Sd.Timer), (⟨0, 0⟩ : Sd.Timer), false⟩ : Sd.Tok) (waitsL p (bits .andNot .u8 x1 1)) 0 = zr62 at zh61 ⊢
   have zh63 : RK p zr62.2.2 := (by rw [← ze68]; exact RK.release (RK.waits _ _))
   have zS69 : St [] w ([⟨zb55, true, .cells #[.int .i64 0, .int .i64 ep, .int .i64 (-1), .int .i64 0, .int .i64 0, .int .i64 0, .int .i64 0, .bool false] 54 (0, 0)⟩, ⟨zb41, true, .cells #[.int .i64 0, .int .i64 ep, .int .i64 (-1), .int .i64 0, .int .i64 0, .int .i64 0, .int .i64 0, .bool false] 54 (0, 0)⟩, ⟨zb13, true, .cells (polP p ka kn kc) 48 (0, 0)⟩, ⟨zb4, true, .cells #[.int .u8 x0, .int .u8 x1] 49 (0, 0)⟩, ⟨zb1, true, .cells (polC q pa pn pc) 48 (0, 0)⟩] ++ (zq60 ++ (zq33 ++ ([] : List Blk)))) zw65 := zS66.re (R := ([] : List Blk)) [zq60, [⟨zb55, true, .cells #[.int .i64 0, .int .i64 ep, .int .i64 (-1), .int .i64 0, .int .i64 0, .int .i64 0, .int .i64 0, .bool false] 54 (0, 0)⟩], [⟨zb41, true, .cells #[.int .i64 0, .int .i64 ep, .int .i64 (-1), .int .i64 0, .int .i64 0, .int .i64 0, .int .i64 0, .bool false] 54 (0, 0)⟩], [⟨zb13, true, .cells (polP p ka kn kc) 48 (0, 0)⟩], [⟨zb4, true, .cells #[.int .u8 x0, .int .u8 x1] 49 (0, 0)⟩], [⟨zb1, true, .cells (polC q pa pn pc) 48 (0, 0)⟩], zq33] [1, 2, 3, 4, 5, 0, 6]
   refine move_ ?_
   refine pure_ (.agg (tokC zr62.1)) ?_
   refine pure_ (.int .i64 zr62.2.1) ?_
   refine new_ zS69 (fun b => .pointer (some ⟨b, 0, none⟩)) (.cells #[.int .i64 0, .int .i64 0, .int .i64 0, .int .i64 0, .int .i64 0, .int .i64 0, .int .i64 0, .bool false] 54) ?_
   intro zb70 zw71 zS72
   refine store_ zS72 0 (.agg (tokC zr62.1)) zb70 0 ?_
   intro zw73 zS74
   refine pure_ (.int .i64 zr62.2.1) ?_
   refine nil_ (then_n (seq_ (reg_ ?_)))
   refine loadN_ zS74 3 56 (polP p ka kn kc) zb13 0 ?_
   refine move_ ?_
   refine pure_ (.int .i64 0) ?_
   refine call_ 22 #[.agg (polP p ka kn kc), .int .u8 (bits .andNot .u8 x1 1), .int .i64 0] ?_
   refine (best_ p ka kn kc (bits .andNot .u8 x1 1) 0 _).mono ?_; rintro _ zw75 ⟨rfl, zhc76⟩
   have zS77 := zS74.quiet zhc76
   refine assign_ ?_
   refine nil_ (then_n (seq_ (seq_ (reg_ ?_))))
   refine pure_ (.int .i64 20) ?_
   refine pure_ (.bool false) ?_
   refine nil_ (then_n (cond_F ?_))
   refine wp_skip (then_n (seq_ (seq_ (reg_ ?_))))
   refine pure_ (.int .u16 ep) ?_
   refine pure_ (.bool (ep == 65535)) ?_
   refine nil_ (then_n ?_)
   refine cond_S (ep == 65535) ?_ ?_
   · intro zh78
     have zh79 := eqT' zh78
     obtain ⟨zh80, zh81, zh82, zh83, zh84, zh85, zh86, zh87, zh88, zh89⟩ := (rel_all hp (bits .andNot .u8 x1 1) 0 ep (by decide) (by omega) (fun e => absurd e (by decide)) (fun e => absurd e (by decide)) (fun e => absurd e (by decide)) ze68).1 (by omega)
     refine seq_ (reg_ ?_)
     refine loadN_ zS77 0 8 (tokC zr62.1) zb70 0 ?_
     refine loadN_ zS77 2 8 #[.int .i64 0, .int .i64 ep, .int .i64 (-1), .int .i64 0, .int .i64 0, .int .i64 0, .int .i64 0, .bool false] zb41 0 ?_
     refine eqAgg_ false ((zr62.1.holder == 0) && ((zr62.1.epoch == ep) && ((zr62.1.offer == (-1)) && (((zr62.1.oa.n == 0) && ((zr62.1.oa.most == 0) && true)) && (((zr62.1.la.n == 0) && ((zr62.1.la.most == 0) && true)) && ((zr62.1.bad == false) && true)))))) (tokC zr62.1) #[.int .i64 0, .int .i64 ep, .int .i64 (-1), .int .i64 0, .int .i64 0, .int .i64 0, .int .i64 0, .bool false] ?_
     refine move_ ?_
     refine slotK_ 73 ((zr62.1.holder == 0) && ((zr62.1.epoch == ep) && ((zr62.1.offer == (-1)) && (((zr62.1.oa.n == 0) && ((zr62.1.oa.most == 0) && true)) && (((zr62.1.la.n == 0) && ((zr62.1.la.most == 0) && true)) && ((zr62.1.bad == false) && true)))))) true (andT (eqT (by omega)) (andT (eqT (by omega)) (andT (eqT (by omega)) (andT (andT (eqT (by omega)) (andT (eqT (by omega)) (rfl))) (andT (andT (eqT (by omega)) (andT (eqT (by omega)) (rfl))) (andT ((congr (congrArg BEq.beq (zh87)) (rfl))) (rfl))))))) ?_
     refine pure_ (.int .i64 zr62.2.1) ?_
     refine pureE_ (.bool (zr62.2.1 == 24)) (.bool true) (congrArg Value.bool (eqT (by omega))) ?_
     refine pure_ (.bool true) ?_
     refine pure_ (.bool true) ?_
     refine move_ ?_
     refine call_ 12 #[.pointer (some ⟨zb23, 0, none⟩)] ?_
     have zS95 : St [] w (zq60 ++ ([⟨zb70, true, .cells (tokC zr62.1) 54 (0, 0)⟩, ⟨zb55, true, .cells #[.int .i64 0, .int .i64 ep, .int .i64 (-1), .int .i64 0, .int .i64 0, .int .i64 0, .int .i64 0, .bool false] 54 (0, 0)⟩, ⟨zb41, true, .cells #[.int .i64 0, .int .i64 ep, .int .i64 (-1), .int .i64 0, .int .i64 0, .int .i64 0, .int .i64 0, .bool false] 54 (0, 0)⟩, ⟨zb13, true, .cells (polP p ka kn kc) 48 (0, 0)⟩, ⟨zb4, true, .cells #[.int .u8 x0, .int .u8 x1] 49 (0, 0)⟩, ⟨zb1, true, .cells (polC q pa pn pc) 48 (0, 0)⟩] ++ (zq33 ++ ([] : List Blk)))) zw75 := zS77.re (R := ([] : List Blk)) [[⟨zb70, true, .cells (tokC zr62.1) 54 (0, 0)⟩], [⟨zb55, true, .cells #[.int .i64 0, .int .i64 ep, .int .i64 (-1), .int .i64 0, .int .i64 0, .int .i64 0, .int .i64 0, .bool false] 54 (0, 0)⟩], [⟨zb41, true, .cells #[.int .i64 0, .int .i64 ep, .int .i64 (-1), .int .i64 0, .int .i64 0, .int .i64 0, .int .i64 0, .bool false] 54 (0, 0)⟩], [⟨zb13, true, .cells (polP p ka kn kc) 48 (0, 0)⟩], [⟨zb4, true, .cells #[.int .u8 x0, .int .u8 x1] 49 (0, 0)⟩], [⟨zb1, true, .cells (polC q pa pn pc) 48 (0, 0)⟩], zq60, zq33] [6, 0, 1, 2, 3, 4, 5, 7]
     refine (q_list zh61 zS95).mono ?_; rintro _ zw96 ⟨zx90, zc91, zq92, rfl, zh93, zS97⟩
     have zh94 : zr62.2.2.length ≤ 3 := q_len zh61
     have zS99 : St [] w ([⟨zb70, true, .cells (tokC zr62.1) 54 (0, 0)⟩, ⟨zb55, true, .cells #[.int .i64 0, .int .i64 ep, .int .i64 (-1), .int .i64 0, .int .i64 0, .int .i64 0, .int .i64 0, .bool false] 54 (0, 0)⟩, ⟨zb41, true, .cells #[.int .i64 0, .int .i64 ep, .int .i64 (-1), .int .i64 0, .int .i64 0, .int .i64 0, .int .i64 0, .bool false] 54 (0, 0)⟩, ⟨zb13, true, .cells (polP p ka kn kc) 48 (0, 0)⟩, ⟨zb4, true, .cells #[.int .u8 x0, .int .u8 x1] 49 (0, 0)⟩, ⟨zb1, true, .cells (polC q pa pn pc) 48 (0, 0)⟩] ++ (zq92 ++ (zq60 ++ (zq33 ++ ([] : List Blk))))) zw96 := zS97.re (R := ([] : List Blk)) [zq92, zq60, [⟨zb70, true, .cells (tokC zr62.1) 54 (0, 0)⟩], [⟨zb55, true, .cells #[.int .i64 0, .int .i64 ep, .int .i64 (-1), .int .i64 0, .int .i64 0, .int .i64 0, .int .i64 0, .bool false] 54 (0, 0)⟩], [⟨zb41, true, .cells #[.int .i64 0, .int .i64 ep, .int .i64 (-1), .int .i64 0, .int .i64 0, .int .i64 0, .int .i64 0, .bool false] 54 (0, 0)⟩], [⟨zb13, true, .cells (polP p ka kn kc) 48 (0, 0)⟩], [⟨zb4, true, .cells #[.int .u8 x0, .int .u8 x1] 49 (0, 0)⟩], [⟨zb1, true, .cells (polC q pa pn pc) 48 (0, 0)⟩], zq33] [2, 3, 4, 5, 6, 7, 0, 1, 8]
     refine pure_ (.int .i64 ((zr62.2.2.length : Nat) : Int)) ?_
     refine move_ ?_
     refine pureE_ (.bool (((zr62.2.2.length : Nat) : Int) == ((((waitsL p (bits .andNot .u8 x1 1)).length) : Nat) : Int))) (.bool true) (congrArg Value.bool (eqT (by omega))) ?_
     refine pure_ (.bool true) ?_
     refine pure_ (.bool true) ?_
     refine nil_ (then_n (wp_ret (then_r ?_)))
     refine ret_ rfl (res_ [.tmp 6] [.bool true] (.bool true) ⟨res_tmp, trivial⟩) ?_
     exact ⟨rfl, zS99.ch⟩
   intro zh100
   have zh101 := eqF' zh100
   refine wp_skip (then_n (seq_ (seq_ (reg_ ?_))))
   refine move_ ?_
   refine pure_ (.bool ((bestP p (bits .andNot .u8 x1 1) 0) == 0)) ?_
   refine nil_ (then_n ?_)
   refine cond_S ((bestP p (bits .andNot .u8 x1 1) 0) == 0) ?_ ?_
   · intro zh102
     have zh103 := eqT' zh102
     obtain ⟨zh104, zh105, zh106, zh107, zh108, zh109, zh110, zh111, zh112, zh113⟩ := (rel_all hp (bits .andNot .u8 x1 1) 0 ep (by decide) (by omega) (fun e => absurd e (by decide)) (fun e => absurd e (by decide)) (fun e => absurd e (by decide)) ze68).2.1 (by omega) (by omega)
     refine seq_ (reg_ ?_)
     refine loadN_ zS77 0 8 (tokC zr62.1) zb70 0 ?_
     refine loadN_ zS77 2 8 #[.int .i64 0, .int .i64 ep, .int .i64 (-1), .int .i64 0, .int .i64 0, .int .i64 0, .int .i64 0, .bool false] zb41 0 ?_
     refine eqAgg_ false ((zr62.1.holder == 0) && ((zr62.1.epoch == ep) && ((zr62.1.offer == (-1)) && (((zr62.1.oa.n == 0) && ((zr62.1.oa.most == 0) && true)) && (((zr62.1.la.n == 0) && ((zr62.1.la.most == 0) && true)) && ((zr62.1.bad == false) && true)))))) (tokC zr62.1) #[.int .i64 0, .int .i64 ep, .int .i64 (-1), .int .i64 0, .int .i64 0, .int .i64 0, .int .i64 0, .bool false] ?_
     refine move_ ?_
     refine slotK_ 89 ((zr62.1.holder == 0) && ((zr62.1.epoch == ep) && ((zr62.1.offer == (-1)) && (((zr62.1.oa.n == 0) && ((zr62.1.oa.most == 0) && true)) && (((zr62.1.la.n == 0) && ((zr62.1.la.most == 0) && true)) && ((zr62.1.bad == false) && true)))))) true (andT (eqT (by omega)) (andT (eqT (by omega)) (andT (eqT (by omega)) (andT (andT (eqT (by omega)) (andT (eqT (by omega)) (rfl))) (andT (andT (eqT (by omega)) (andT (eqT (by omega)) (rfl))) (andT ((congr (congrArg BEq.beq (zh111)) (rfl))) (rfl))))))) ?_
     refine pure_ (.int .i64 zr62.2.1) ?_
     refine pureE_ (.bool (zr62.2.1 == 2)) (.bool true) (congrArg Value.bool (eqT (by omega))) ?_
     refine pure_ (.bool true) ?_
     refine pure_ (.bool true) ?_
     refine nil_ (then_n (wp_ret (then_r ?_)))
     refine ret_ rfl (res_ [.tmp 6] [.bool true] (.bool true) ⟨res_tmp, trivial⟩) ?_
     exact ⟨rfl, zS77.ch⟩
   intro zh114
   have zh115 := eqF' zh114
   obtain ⟨zh116, zh117, zh118, zh119, zh120, zh121, zh122, zh123, zh124, zh125⟩ := (rel_all hp (bits .andNot .u8 x1 1) 0 ep (by decide) (by omega) (fun e => absurd e (by decide)) (fun e => absurd e (by decide)) (fun e => absurd e (by decide)) ze68).2.2 (by omega) (by omega)
   refine wp_skip (then_n (seq_ (reg_ ?_)))
   refine loadN_ zS77 0 8 (tokC zr62.1) zb70 0 ?_
   refine move_ ?_
   refine pure_ (.int .u16 ep) ?_
   refine sum_ .i64 ep (IntWalk.i64_in _ (by omega)) ?_
   refine sum_ .i64 (ep + 1) (IntWalk.i64_in _ (by omega)) ?_
   refine pure_ (.agg #[.int .i64 (bestP p (bits .andNot .u8 x1 1) 0), .int .i64 (ep + 1), .int .i64 (-1), .int .i64 0, .int .i64 0, .int .i64 0, .int .i64 0, .bool false]) ?_
   refine eqAgg_ false ((zr62.1.holder == (bestP p (bits .andNot .u8 x1 1) 0)) && ((zr62.1.epoch == (ep + 1)) && ((zr62.1.offer == (-1)) && (((zr62.1.oa.n == 0) && ((zr62.1.oa.most == 0) && true)) && (((zr62.1.la.n == 0) && ((zr62.1.la.most == 0) && true)) && ((zr62.1.bad == false) && true)))))) (tokC zr62.1) #[.int .i64 (bestP p (bits .andNot .u8 x1 1) 0), .int .i64 (ep + 1), .int .i64 (-1), .int .i64 0, .int .i64 0, .int .i64 0, .int .i64 0, .bool false] ?_
   refine move_ ?_
   refine slotK_ 100 ((zr62.1.holder == (bestP p (bits .andNot .u8 x1 1) 0)) && ((zr62.1.epoch == (ep + 1)) && ((zr62.1.offer == (-1)) && (((zr62.1.oa.n == 0) && ((zr62.1.oa.most == 0) && true)) && (((zr62.1.la.n == 0) && ((zr62.1.la.most == 0) && true)) && ((zr62.1.bad == false) && true)))))) true (andT (eqT (by omega)) (andT (eqT (by omega)) (andT (eqT (by omega)) (andT (andT (eqT (by omega)) (andT (eqT (by omega)) (rfl))) (andT (andT (eqT (by omega)) (andT (eqT (by omega)) (rfl))) (andT ((congr (congrArg BEq.beq (zh123)) (rfl))) (rfl))))))) ?_
   refine pure_ (.int .i64 zr62.2.1) ?_
   refine pureE_ (.bool (zr62.2.1 == 0)) (.bool true) (congrArg Value.bool (eqT (by omega))) ?_
   refine pure_ (.bool true) ?_
   refine pure_ (.bool true) ?_
   refine move_ ?_
   refine call_ 12 #[.pointer (some ⟨zb23, 0, none⟩)] ?_
   have zS131 : St [] w (zq60 ++ ([⟨zb70, true, .cells (tokC zr62.1) 54 (0, 0)⟩, ⟨zb55, true, .cells #[.int .i64 0, .int .i64 ep, .int .i64 (-1), .int .i64 0, .int .i64 0, .int .i64 0, .int .i64 0, .bool false] 54 (0, 0)⟩, ⟨zb41, true, .cells #[.int .i64 0, .int .i64 ep, .int .i64 (-1), .int .i64 0, .int .i64 0, .int .i64 0, .int .i64 0, .bool false] 54 (0, 0)⟩, ⟨zb13, true, .cells (polP p ka kn kc) 48 (0, 0)⟩, ⟨zb4, true, .cells #[.int .u8 x0, .int .u8 x1] 49 (0, 0)⟩, ⟨zb1, true, .cells (polC q pa pn pc) 48 (0, 0)⟩] ++ (zq33 ++ ([] : List Blk)))) zw75 := zS77.re (R := ([] : List Blk)) [[⟨zb70, true, .cells (tokC zr62.1) 54 (0, 0)⟩], [⟨zb55, true, .cells #[.int .i64 0, .int .i64 ep, .int .i64 (-1), .int .i64 0, .int .i64 0, .int .i64 0, .int .i64 0, .bool false] 54 (0, 0)⟩], [⟨zb41, true, .cells #[.int .i64 0, .int .i64 ep, .int .i64 (-1), .int .i64 0, .int .i64 0, .int .i64 0, .int .i64 0, .bool false] 54 (0, 0)⟩], [⟨zb13, true, .cells (polP p ka kn kc) 48 (0, 0)⟩], [⟨zb4, true, .cells #[.int .u8 x0, .int .u8 x1] 49 (0, 0)⟩], [⟨zb1, true, .cells (polC q pa pn pc) 48 (0, 0)⟩], zq60, zq33] [6, 0, 1, 2, 3, 4, 5, 7]
   refine (q_list zh61 zS131).mono ?_; rintro _ zw132 ⟨zx126, zc127, zq128, rfl, zh129, zS133⟩
   have zh130 : zr62.2.2.length ≤ 3 := q_len zh61
   have zS135 : St [] w ([⟨zb70, true, .cells (tokC zr62.1) 54 (0, 0)⟩, ⟨zb55, true, .cells #[.int .i64 0, .int .i64 ep, .int .i64 (-1), .int .i64 0, .int .i64 0, .int .i64 0, .int .i64 0, .bool false] 54 (0, 0)⟩, ⟨zb41, true, .cells #[.int .i64 0, .int .i64 ep, .int .i64 (-1), .int .i64 0, .int .i64 0, .int .i64 0, .int .i64 0, .bool false] 54 (0, 0)⟩, ⟨zb13, true, .cells (polP p ka kn kc) 48 (0, 0)⟩, ⟨zb4, true, .cells #[.int .u8 x0, .int .u8 x1] 49 (0, 0)⟩, ⟨zb1, true, .cells (polC q pa pn pc) 48 (0, 0)⟩] ++ (zq128 ++ (zq60 ++ (zq33 ++ ([] : List Blk))))) zw132 := zS133.re (R := ([] : List Blk)) [zq128, zq60, [⟨zb70, true, .cells (tokC zr62.1) 54 (0, 0)⟩], [⟨zb55, true, .cells #[.int .i64 0, .int .i64 ep, .int .i64 (-1), .int .i64 0, .int .i64 0, .int .i64 0, .int .i64 0, .bool false] 54 (0, 0)⟩], [⟨zb41, true, .cells #[.int .i64 0, .int .i64 ep, .int .i64 (-1), .int .i64 0, .int .i64 0, .int .i64 0, .int .i64 0, .bool false] 54 (0, 0)⟩], [⟨zb13, true, .cells (polP p ka kn kc) 48 (0, 0)⟩], [⟨zb4, true, .cells #[.int .u8 x0, .int .u8 x1] 49 (0, 0)⟩], [⟨zb1, true, .cells (polC q pa pn pc) 48 (0, 0)⟩], zq33] [2, 3, 4, 5, 6, 7, 0, 1, 8]
   refine pure_ (.int .i64 ((zr62.2.2.length : Nat) : Int)) ?_
   refine move_ ?_
   refine sum_ .i64 (((((waitsL p (bits .andNot .u8 x1 1)).length) : Nat) : Int) - 1) (IntWalk.i64_in _ (by omega)) ?_
   refine pureE_ (.bool (((zr62.2.2.length : Nat) : Int) == (((((waitsL p (bits .andNot .u8 x1 1)).length) : Nat) : Int) - 1))) (.bool true) (congrArg Value.bool (eqT (by omega))) ?_
   refine pure_ (.bool true) ?_
   refine pure_ (.bool true) ?_
   refine nil_ (then_n (wp_ret ?_))
   refine ret_ rfl (res_ [.tmp 6] [.bool true] (.bool true) ⟨res_tmp, trivial⟩) ?_
   exact ⟨rfl, zS135.ch⟩
 intro zh136
 have zh137 := eqF' zh136
 refine split_b ((x0 % 4) == 1) ?_ ?_
 · intro zh138
   have zh139 := eqT' zh138
   refine slotI_ 25 .i64 (x0 % 4) 1 (by omega) ?_
   refine pure_ (.int .i64 1) ?_
   refine nil_ (then_n (seq_ ?_))
   refine quietL_ 4 [.pointer (some ⟨zb4, 1, none⟩), .int .u8 x1, .int .i64 1, .int .u8 2] [[4, 1, 0], [4, 1], [4, 3, 2], [4, 3], [5, 0], [5, 1], [5, 2], [5, 3], [5, 4]] (step_cons qP_ (step_cons (qL_ zS17 1 zb4 1) (step_cons qP_ (step_cons qP_ (step_nil))))) ?_
   intro zw140 zh142
   have zS141 := zS17.quiet zh142
   refine pure_ (.int .u8 (bits .andNot .u8 x1 2)) ?_
   refine assign_ ?_
   refine nil_ (then_n (seq_ (reg_ ?_)))
   refine loadN_ zS141 0 56 (polP p ka kn kc) zb13 0 ?_
   refine move_ ?_
   refine call_ 20 #[.agg (polP p ka kn kc), .int .u8 (bits .andNot .u8 x1 2)] ?_
   have zS146 : St [] w ([⟨zb13, true, .cells (polP p ka kn kc) 48 (0, 0)⟩, ⟨zb4, true, .cells #[.int .u8 x0, .int .u8 x1] 49 (0, 0)⟩, ⟨zb1, true, .cells (polC q pa pn pc) 48 (0, 0)⟩] ++ ([] : List Blk)) zw140 := zS141.re (R := ([] : List Blk)) [[⟨zb13, true, .cells (polP p ka kn kc) 48 (0, 0)⟩], [⟨zb4, true, .cells #[.int .u8 x0, .int .u8 x1] 49 (0, 0)⟩], [⟨zb1, true, .cells (polC q pa pn pc) 48 (0, 0)⟩]] [0, 1, 2]
   refine (waits_ p ka kn kc (bits .andNot .u8 x1 2) hp _ zS146).mono ?_; rintro _ zw147 ⟨zb143, zq144, rfl, zh145, zS148⟩
   have zS150 : St [] w ([⟨zb13, true, .cells (polP p ka kn kc) 48 (0, 0)⟩, ⟨zb4, true, .cells #[.int .u8 x0, .int .u8 x1] 49 (0, 0)⟩, ⟨zb1, true, .cells (polC q pa pn pc) 48 (0, 0)⟩] ++ (zq144 ++ ([] : List Blk))) zw147 := zS148.re (R := ([] : List Blk)) [zq144, [⟨zb13, true, .cells (polP p ka kn kc) 48 (0, 0)⟩], [⟨zb4, true, .cells #[.int .u8 x0, .int .u8 x1] 49 (0, 0)⟩], [⟨zb1, true, .cells (polC q pa pn pc) 48 (0, 0)⟩]] [1, 2, 3, 0]
   refine assign_ ?_
   refine nil_ (then_n (seq_ (seq_ (reg_ ?_))))
   refine pure_ (.bool true) ?_
   refine pure_ (.bool false) ?_
   refine pure_ (.bool false) ?_
   refine move_ ?_
   refine pure_ (.bool false) ?_
   refine pure_ (.bool false) ?_
   refine nil_ (then_n (cond_F ?_))
   refine wp_skip (then_n (seq_ (reg_ ?_)))
   refine move_ ?_
   refine call_ 12 #[.pointer (some ⟨zb143, 0, none⟩)] ?_
   have zS156 : St [] w (zq144 ++ ([⟨zb13, true, .cells (polP p ka kn kc) 48 (0, 0)⟩, ⟨zb4, true, .cells #[.int .u8 x0, .int .u8 x1] 49 (0, 0)⟩, ⟨zb1, true, .cells (polC q pa pn pc) 48 (0, 0)⟩] ++ ([] : List Blk))) zw147 := zS150.re (R := ([] : List Blk)) [[⟨zb13, true, .cells (polP p ka kn kc) 48 (0, 0)⟩], [⟨zb4, true, .cells #[.int .u8 x0, .int .u8 x1] 49 (0, 0)⟩], [⟨zb1, true, .cells (polC q pa pn pc) 48 (0, 0)⟩], zq144] [3, 0, 1, 2]
   refine (q_list zh145 zS156).mono ?_; rintro _ zw157 ⟨zx151, zc152, zq153, rfl, zh154, zS158⟩
   have zh155 : (waitsL p (bits .andNot .u8 x1 2)).length ≤ 3 := q_len zh145
   have zS160 : St [] w ([⟨zb13, true, .cells (polP p ka kn kc) 48 (0, 0)⟩, ⟨zb4, true, .cells #[.int .u8 x0, .int .u8 x1] 49 (0, 0)⟩, ⟨zb1, true, .cells (polC q pa pn pc) 48 (0, 0)⟩] ++ (zq153 ++ (zq144 ++ ([] : List Blk)))) zw157 := zS158.re (R := ([] : List Blk)) [zq153, zq144, [⟨zb13, true, .cells (polP p ka kn kc) 48 (0, 0)⟩], [⟨zb4, true, .cells #[.int .u8 x0, .int .u8 x1] 49 (0, 0)⟩], [⟨zb1, true, .cells (polC q pa pn pc) 48 (0, 0)⟩]] [2, 3, 4, 0, 1]
   refine pure_ (.int .i64 ((((waitsL p (bits .andNot .u8 x1 2)).length) : Nat) : Int)) ?_
   refine assign_ ?_
   refine nil_ (then_n (seq_ (reg_ ?_)))
   refine pure_ (.int .i64 1) ?_
   refine pure_ (.int .u16 ep) ?_
   refine sum_ .i64 ep (IntWalk.i64_in _ (by omega)) ?_
   refine pure_ (.agg #[.int .i64 1, .int .i64 ep, .int .i64 (-1), .int .i64 0, .int .i64 0, .int .i64 0, .int .i64 0, .bool false]) ?_
   refine new_ zS160 (fun b => .pointer (some ⟨b, 0, none⟩)) (.cells #[.int .i64 0, .int .i64 0, .int .i64 0, .int .i64 0, .int .i64 0, .int .i64 0, .int .i64 0, .bool false] 54) ?_
   intro zb161 zw162 zS163
   refine store_ zS163 0 (.agg #[.int .i64 1, .int .i64 ep, .int .i64 (-1), .int .i64 0, .int .i64 0, .int .i64 0, .int .i64 0, .bool false]) zb161 0 ?_
   intro zw164 zS165
   refine nil_ (then_n (seq_ (reg_ ?_)))
   refine loadN_ zS165 0 8 #[.int .i64 1, .int .i64 ep, .int .i64 (-1), .int .i64 0, .int .i64 0, .int .i64 0, .int .i64 0, .bool false] zb161 0 ?_
   refine move_ ?_
   refine pure_ (.int .i64 1) ?_
   refine pure_ (.int .i64 2) ?_
   refine call_ 21 #[.agg #[.int .i64 1, .int .i64 ep, .int .i64 (-1), .int .i64 0, .int .i64 0, .int .i64 0, .int .i64 0, .bool false], .pointer (some ⟨zb143, 0, none⟩), .int .i64 2] ?_
   have zS170 : St [] w (zq144 ++ ([⟨zb161, true, .cells #[.int .i64 1, .int .i64 ep, .int .i64 (-1), .int .i64 0, .int .i64 0, .int .i64 0, .int .i64 0, .bool false] 54 (0, 0)⟩, ⟨zb13, true, .cells (polP p ka kn kc) 48 (0, 0)⟩, ⟨zb4, true, .cells #[.int .u8 x0, .int .u8 x1] 49 (0, 0)⟩, ⟨zb1, true, .cells (polC q pa pn pc) 48 (0, 0)⟩] ++ (zq153 ++ ([] : List Blk)))) zw164 := zS165.re (R := ([] : List Blk)) [[⟨zb161, true, .cells #[.int .i64 1, .int .i64 ep, .int .i64 (-1), .int .i64 0, .int .i64 0, .int .i64 0, .int .i64 0, .bool false] 54 (0, 0)⟩], [⟨zb13, true, .cells (polP p ka kn kc) 48 (0, 0)⟩], [⟨zb4, true, .cells #[.int .u8 x0, .int .u8 x1] 49 (0, 0)⟩], [⟨zb1, true, .cells (polC q pa pn pc) 48 (0, 0)⟩], zq153, zq144] [5, 0, 1, 2, 3, 4]
   refine (release_ zb143 3 (waitsL p (bits .andNot .u8 x1 2)) zq144 (⟨1, ep, (-1), (⟨0, 0⟩ : Sd.Timer), (⟨0, 0⟩ : Sd.Timer), false⟩ : Sd.Tok) 2 zh145 (by dsimp only; omega) _ zS170).mono ?_; rintro _ zw171 ⟨zq166, rfl, zh167, zS172⟩
   have zS174 : St [] w ([⟨zb161, true, .cells #[.int .i64 1, .int .i64 ep, .int .i64 (-1), .int .i64 0, .int .i64 0, .int .i64 0, .int .i64 0, .bool false] 54 (0, 0)⟩, ⟨zb13, true, .cells (polP p ka kn kc) 48 (0, 0)⟩, ⟨zb4, true, .cells #[.int .u8 x0, .int .u8 x1] 49 (0, 0)⟩, ⟨zb1, true, .cells (polC q pa pn pc) 48 (0, 0)⟩] ++ (zq166 ++ (zq153 ++ ([] : List Blk)))) zw171 := zS172.re (R := ([] : List Blk)) [zq166, [⟨zb161, true, .cells #[.int .i64 1, .int .i64 ep, .int .i64 (-1), .int .i64 0, .int .i64 0, .int .i64 0, .int .i64 0, .bool false] 54 (0, 0)⟩], [⟨zb13, true, .cells (polP p ka kn kc) 48 (0, 0)⟩], [⟨zb4, true, .cells #[.int .u8 x0, .int .u8 x1] 49 (0, 0)⟩], [⟨zb1, true, .cells (polC q pa pn pc) 48 (0, 0)⟩], zq153] [1, 2, 3, 4, 0, 5]
   refine move_ ?_
   refine pure_ (.agg #[.int .i64 1, .int .i64 ep, .int .i64 (-1), .int .i64 0, .int .i64 0, .int .i64 0, .int .i64 0, .bool false]) ?_
   refine pure_ (.int .i64 20) ?_
   refine new_ zS174 (fun b => .pointer (some ⟨b, 0, none⟩)) (.cells #[.int .i64 0, .int .i64 0, .int .i64 0, .int .i64 0, .int .i64 0, .int .i64 0, .int .i64 0, .bool false] 54) ?_
   intro zb175 zw176 zS177
   refine store_ zS177 0 (.agg #[.int .i64 1, .int .i64 ep, .int .i64 (-1), .int .i64 0, .int .i64 0, .int .i64 0, .int .i64 0, .bool false]) zb175 0 ?_
   intro zw178 zS179
   refine pure_ (.int .i64 20) ?_
   refine nil_ (then_n (seq_ (reg_ ?_)))
   refine loadN_ zS179 1 8 #[.int .i64 1, .int .i64 ep, .int .i64 (-1), .int .i64 0, .int .i64 0, .int .i64 0, .int .i64 0, .bool false] zb161 0 ?_
   refine move_ ?_
   refine pure_ (.int .i64 1) ?_
   refine call_ 21 #[.agg #[.int .i64 1, .int .i64 ep, .int .i64 (-1), .int .i64 0, .int .i64 0, .int .i64 0, .int .i64 0, .bool false], .pointer (some ⟨zb143, 0, none⟩), .int .i64 1] ?_
   have zS184 : St [] w (zq166 ++ ([⟨zb175, true, .cells #[.int .i64 1, .int .i64 ep, .int .i64 (-1), .int .i64 0, .int .i64 0, .int .i64 0, .int .i64 0, .bool false] 54 (0, 0)⟩, ⟨zb161, true, .cells #[.int .i64 1, .int .i64 ep, .int .i64 (-1), .int .i64 0, .int .i64 0, .int .i64 0, .int .i64 0, .bool false] 54 (0, 0)⟩, ⟨zb13, true, .cells (polP p ka kn kc) 48 (0, 0)⟩, ⟨zb4, true, .cells #[.int .u8 x0, .int .u8 x1] 49 (0, 0)⟩, ⟨zb1, true, .cells (polC q pa pn pc) 48 (0, 0)⟩] ++ (zq153 ++ ([] : List Blk)))) zw178 := zS179.re (R := ([] : List Blk)) [[⟨zb175, true, .cells #[.int .i64 1, .int .i64 ep, .int .i64 (-1), .int .i64 0, .int .i64 0, .int .i64 0, .int .i64 0, .bool false] 54 (0, 0)⟩], [⟨zb161, true, .cells #[.int .i64 1, .int .i64 ep, .int .i64 (-1), .int .i64 0, .int .i64 0, .int .i64 0, .int .i64 0, .bool false] 54 (0, 0)⟩], [⟨zb13, true, .cells (polP p ka kn kc) 48 (0, 0)⟩], [⟨zb4, true, .cells #[.int .u8 x0, .int .u8 x1] 49 (0, 0)⟩], [⟨zb1, true, .cells (polC q pa pn pc) 48 (0, 0)⟩], zq166, zq153] [5, 0, 1, 2, 3, 4, 6]
   refine (release_ zb143 3 (waitsL p (bits .andNot .u8 x1 2)) zq166 (⟨1, ep, (-1), (⟨0, 0⟩ : Sd.Timer), (⟨0, 0⟩ : Sd.Timer), false⟩ : Sd.Tok) 1 zh167 (by dsimp only; omega) _ zS184).mono ?_; rintro _ zw185 ⟨zq180, rfl, zh181, zS186⟩
   generalize ze188 : Sd.releaseTok (⟨1, ep, (-1), (⟨0, 0⟩ : Sd.Timer), (⟨0, 0⟩ : Sd.Timer), false⟩ : Sd.Tok) (waitsL p (bits .andNot .u8 x1 2)) 1 = zr182 at zh181 ⊢
   have zh183 : RK p zr182.2.2 := (by rw [← ze188]; exact RK.release (RK.waits _ _))
   have zS189 : St [] w ([⟨zb175, true, .cells #[.int .i64 1, .int .i64 ep, .int .i64 (-1), .int .i64 0, .int .i64 0, .int .i64 0, .int .i64 0, .bool false] 54 (0, 0)⟩, ⟨zb161, true, .cells #[.int .i64 1, .int .i64 ep, .int .i64 (-1), .int .i64 0, .int .i64 0, .int .i64 0, .int .i64 0, .bool false] 54 (0, 0)⟩, ⟨zb13, true, .cells (polP p ka kn kc) 48 (0, 0)⟩, ⟨zb4, true, .cells #[.int .u8 x0, .int .u8 x1] 49 (0, 0)⟩, ⟨zb1, true, .cells (polC q pa pn pc) 48 (0, 0)⟩] ++ (zq180 ++ (zq153 ++ ([] : List Blk)))) zw185 := zS186.re (R := ([] : List Blk)) [zq180, [⟨zb175, true, .cells #[.int .i64 1, .int .i64 ep, .int .i64 (-1), .int .i64 0, .int .i64 0, .int .i64 0, .int .i64 0, .bool false] 54 (0, 0)⟩], [⟨zb161, true, .cells #[.int .i64 1, .int .i64 ep, .int .i64 (-1), .int .i64 0, .int .i64 0, .int .i64 0, .int .i64 0, .bool false] 54 (0, 0)⟩], [⟨zb13, true, .cells (polP p ka kn kc) 48 (0, 0)⟩], [⟨zb4, true, .cells #[.int .u8 x0, .int .u8 x1] 49 (0, 0)⟩], [⟨zb1, true, .cells (polC q pa pn pc) 48 (0, 0)⟩], zq153] [1, 2, 3, 4, 5, 0, 6]
   refine move_ ?_
   refine pure_ (.agg (tokC zr182.1)) ?_
   refine pure_ (.int .i64 zr182.2.1) ?_
   refine new_ zS189 (fun b => .pointer (some ⟨b, 0, none⟩)) (.cells #[.int .i64 0, .int .i64 0, .int .i64 0, .int .i64 0, .int .i64 0, .int .i64 0, .int .i64 0, .bool false] 54) ?_
   intro zb190 zw191 zS192
   refine store_ zS192 0 (.agg (tokC zr182.1)) zb190 0 ?_
   intro zw193 zS194
   refine pure_ (.int .i64 zr182.2.1) ?_
   refine nil_ (then_n (seq_ (reg_ ?_)))
   refine loadN_ zS194 3 56 (polP p ka kn kc) zb13 0 ?_
   refine move_ ?_
   refine pure_ (.int .i64 1) ?_
   refine call_ 22 #[.agg (polP p ka kn kc), .int .u8 (bits .andNot .u8 x1 2), .int .i64 1] ?_
   refine (best_ p ka kn kc (bits .andNot .u8 x1 2) 1 _).mono ?_; rintro _ zw195 ⟨rfl, zhc196⟩
   have zS197 := zS194.quiet zhc196
   refine assign_ ?_
   refine nil_ (then_n (seq_ (seq_ (reg_ ?_))))
   refine pure_ (.int .i64 20) ?_
   refine pure_ (.bool false) ?_
   refine nil_ (then_n (cond_F ?_))
   refine wp_skip (then_n (seq_ (seq_ (reg_ ?_))))
   refine pure_ (.int .u16 ep) ?_
   refine pure_ (.bool (ep == 65535)) ?_
   refine nil_ (then_n ?_)
   refine cond_S (ep == 65535) ?_ ?_
   · intro zh198
     have zh199 := eqT' zh198
     obtain ⟨zh200, zh201, zh202, zh203, zh204, zh205, zh206, zh207, zh208, zh209⟩ := (rel_all hp (bits .andNot .u8 x1 2) 1 ep (by decide) (by omega) (fun _ => (andNot_bit x1 (by omega) (by omega)).1) (fun e => absurd e (by decide)) (fun e => absurd e (by decide)) ze188).1 (by omega)
     refine seq_ (reg_ ?_)
     refine loadN_ zS197 0 8 (tokC zr182.1) zb190 0 ?_
     refine loadN_ zS197 2 8 #[.int .i64 1, .int .i64 ep, .int .i64 (-1), .int .i64 0, .int .i64 0, .int .i64 0, .int .i64 0, .bool false] zb161 0 ?_
     refine eqAgg_ false ((zr182.1.holder == 1) && ((zr182.1.epoch == ep) && ((zr182.1.offer == (-1)) && (((zr182.1.oa.n == 0) && ((zr182.1.oa.most == 0) && true)) && (((zr182.1.la.n == 0) && ((zr182.1.la.most == 0) && true)) && ((zr182.1.bad == false) && true)))))) (tokC zr182.1) #[.int .i64 1, .int .i64 ep, .int .i64 (-1), .int .i64 0, .int .i64 0, .int .i64 0, .int .i64 0, .bool false] ?_
     refine move_ ?_
     refine slotK_ 73 ((zr182.1.holder == 1) && ((zr182.1.epoch == ep) && ((zr182.1.offer == (-1)) && (((zr182.1.oa.n == 0) && ((zr182.1.oa.most == 0) && true)) && (((zr182.1.la.n == 0) && ((zr182.1.la.most == 0) && true)) && ((zr182.1.bad == false) && true)))))) true (andT (eqT (by omega)) (andT (eqT (by omega)) (andT (eqT (by omega)) (andT (andT (eqT (by omega)) (andT (eqT (by omega)) (rfl))) (andT (andT (eqT (by omega)) (andT (eqT (by omega)) (rfl))) (andT ((congr (congrArg BEq.beq (zh207)) (rfl))) (rfl))))))) ?_
     refine pure_ (.int .i64 zr182.2.1) ?_
     refine pureE_ (.bool (zr182.2.1 == 24)) (.bool true) (congrArg Value.bool (eqT (by omega))) ?_
     refine pure_ (.bool true) ?_
     refine pure_ (.bool true) ?_
     refine move_ ?_
     refine call_ 12 #[.pointer (some ⟨zb143, 0, none⟩)] ?_
     have zS215 : St [] w (zq180 ++ ([⟨zb190, true, .cells (tokC zr182.1) 54 (0, 0)⟩, ⟨zb175, true, .cells #[.int .i64 1, .int .i64 ep, .int .i64 (-1), .int .i64 0, .int .i64 0, .int .i64 0, .int .i64 0, .bool false] 54 (0, 0)⟩, ⟨zb161, true, .cells #[.int .i64 1, .int .i64 ep, .int .i64 (-1), .int .i64 0, .int .i64 0, .int .i64 0, .int .i64 0, .bool false] 54 (0, 0)⟩, ⟨zb13, true, .cells (polP p ka kn kc) 48 (0, 0)⟩, ⟨zb4, true, .cells #[.int .u8 x0, .int .u8 x1] 49 (0, 0)⟩, ⟨zb1, true, .cells (polC q pa pn pc) 48 (0, 0)⟩] ++ (zq153 ++ ([] : List Blk)))) zw195 := zS197.re (R := ([] : List Blk)) [[⟨zb190, true, .cells (tokC zr182.1) 54 (0, 0)⟩], [⟨zb175, true, .cells #[.int .i64 1, .int .i64 ep, .int .i64 (-1), .int .i64 0, .int .i64 0, .int .i64 0, .int .i64 0, .bool false] 54 (0, 0)⟩], [⟨zb161, true, .cells #[.int .i64 1, .int .i64 ep, .int .i64 (-1), .int .i64 0, .int .i64 0, .int .i64 0, .int .i64 0, .bool false] 54 (0, 0)⟩], [⟨zb13, true, .cells (polP p ka kn kc) 48 (0, 0)⟩], [⟨zb4, true, .cells #[.int .u8 x0, .int .u8 x1] 49 (0, 0)⟩], [⟨zb1, true, .cells (polC q pa pn pc) 48 (0, 0)⟩], zq180, zq153] [6, 0, 1, 2, 3, 4, 5, 7]
     refine (q_list zh181 zS215).mono ?_; rintro _ zw216 ⟨zx210, zc211, zq212, rfl, zh213, zS217⟩
     have zh214 : zr182.2.2.length ≤ 3 := q_len zh181
     have zS219 : St [] w ([⟨zb190, true, .cells (tokC zr182.1) 54 (0, 0)⟩, ⟨zb175, true, .cells #[.int .i64 1, .int .i64 ep, .int .i64 (-1), .int .i64 0, .int .i64 0, .int .i64 0, .int .i64 0, .bool false] 54 (0, 0)⟩, ⟨zb161, true, .cells #[.int .i64 1, .int .i64 ep, .int .i64 (-1), .int .i64 0, .int .i64 0, .int .i64 0, .int .i64 0, .bool false] 54 (0, 0)⟩, ⟨zb13, true, .cells (polP p ka kn kc) 48 (0, 0)⟩, ⟨zb4, true, .cells #[.int .u8 x0, .int .u8 x1] 49 (0, 0)⟩, ⟨zb1, true, .cells (polC q pa pn pc) 48 (0, 0)⟩] ++ (zq212 ++ (zq180 ++ (zq153 ++ ([] : List Blk))))) zw216 := zS217.re (R := ([] : List Blk)) [zq212, zq180, [⟨zb190, true, .cells (tokC zr182.1) 54 (0, 0)⟩], [⟨zb175, true, .cells #[.int .i64 1, .int .i64 ep, .int .i64 (-1), .int .i64 0, .int .i64 0, .int .i64 0, .int .i64 0, .bool false] 54 (0, 0)⟩], [⟨zb161, true, .cells #[.int .i64 1, .int .i64 ep, .int .i64 (-1), .int .i64 0, .int .i64 0, .int .i64 0, .int .i64 0, .bool false] 54 (0, 0)⟩], [⟨zb13, true, .cells (polP p ka kn kc) 48 (0, 0)⟩], [⟨zb4, true, .cells #[.int .u8 x0, .int .u8 x1] 49 (0, 0)⟩], [⟨zb1, true, .cells (polC q pa pn pc) 48 (0, 0)⟩], zq153] [2, 3, 4, 5, 6, 7, 0, 1, 8]
     refine pure_ (.int .i64 ((zr182.2.2.length : Nat) : Int)) ?_
     refine move_ ?_
     refine pureE_ (.bool (((zr182.2.2.length : Nat) : Int) == ((((waitsL p (bits .andNot .u8 x1 2)).length) : Nat) : Int))) (.bool true) (congrArg Value.bool (eqT (by omega))) ?_
     refine pure_ (.bool true) ?_
     refine pure_ (.bool true) ?_
     refine nil_ (then_n (wp_ret (then_r ?_)))
     refine ret_ rfl (res_ [.tmp 6] [.bool true] (.bool true) ⟨res_tmp, trivial⟩) ?_
     exact ⟨rfl, zS219.ch⟩
   intro zh220
   have zh221 := eqF' zh220
   refine wp_skip (then_n (seq_ (seq_ (reg_ ?_))))
   refine move_ ?_
   refine pure_ (.bool ((bestP p (bits .andNot .u8 x1 2) 1) == 0)) ?_
   refine nil_ (then_n ?_)
   refine cond_S ((bestP p (bits .andNot .u8 x1 2) 1) == 0) ?_ ?_
   · intro zh222
     have zh223 := eqT' zh222
     obtain ⟨zh224, zh225, zh226, zh227, zh228, zh229, zh230, zh231, zh232, zh233⟩ := (rel_all hp (bits .andNot .u8 x1 2) 1 ep (by decide) (by omega) (fun _ => (andNot_bit x1 (by omega) (by omega)).1) (fun e => absurd e (by decide)) (fun e => absurd e (by decide)) ze188).2.1 (by omega) (by omega)
     refine seq_ (reg_ ?_)
     refine loadN_ zS197 0 8 (tokC zr182.1) zb190 0 ?_
     refine loadN_ zS197 2 8 #[.int .i64 1, .int .i64 ep, .int .i64 (-1), .int .i64 0, .int .i64 0, .int .i64 0, .int .i64 0, .bool false] zb161 0 ?_
     refine eqAgg_ false ((zr182.1.holder == 1) && ((zr182.1.epoch == ep) && ((zr182.1.offer == (-1)) && (((zr182.1.oa.n == 0) && ((zr182.1.oa.most == 0) && true)) && (((zr182.1.la.n == 0) && ((zr182.1.la.most == 0) && true)) && ((zr182.1.bad == false) && true)))))) (tokC zr182.1) #[.int .i64 1, .int .i64 ep, .int .i64 (-1), .int .i64 0, .int .i64 0, .int .i64 0, .int .i64 0, .bool false] ?_
     refine move_ ?_
     refine slotK_ 89 ((zr182.1.holder == 1) && ((zr182.1.epoch == ep) && ((zr182.1.offer == (-1)) && (((zr182.1.oa.n == 0) && ((zr182.1.oa.most == 0) && true)) && (((zr182.1.la.n == 0) && ((zr182.1.la.most == 0) && true)) && ((zr182.1.bad == false) && true)))))) true (andT (eqT (by omega)) (andT (eqT (by omega)) (andT (eqT (by omega)) (andT (andT (eqT (by omega)) (andT (eqT (by omega)) (rfl))) (andT (andT (eqT (by omega)) (andT (eqT (by omega)) (rfl))) (andT ((congr (congrArg BEq.beq (zh231)) (rfl))) (rfl))))))) ?_
     refine pure_ (.int .i64 zr182.2.1) ?_
     refine pureE_ (.bool (zr182.2.1 == 2)) (.bool true) (congrArg Value.bool (eqT (by omega))) ?_
     refine pure_ (.bool true) ?_
     refine pure_ (.bool true) ?_
     refine nil_ (then_n (wp_ret (then_r ?_)))
     refine ret_ rfl (res_ [.tmp 6] [.bool true] (.bool true) ⟨res_tmp, trivial⟩) ?_
     exact ⟨rfl, zS197.ch⟩
   intro zh234
   have zh235 := eqF' zh234
   obtain ⟨zh236, zh237, zh238, zh239, zh240, zh241, zh242, zh243, zh244, zh245⟩ := (rel_all hp (bits .andNot .u8 x1 2) 1 ep (by decide) (by omega) (fun _ => (andNot_bit x1 (by omega) (by omega)).1) (fun e => absurd e (by decide)) (fun e => absurd e (by decide)) ze188).2.2 (by omega) (by omega)
   refine wp_skip (then_n (seq_ (reg_ ?_)))
   refine loadN_ zS197 0 8 (tokC zr182.1) zb190 0 ?_
   refine move_ ?_
   refine pure_ (.int .u16 ep) ?_
   refine sum_ .i64 ep (IntWalk.i64_in _ (by omega)) ?_
   refine sum_ .i64 (ep + 1) (IntWalk.i64_in _ (by omega)) ?_
   refine pure_ (.agg #[.int .i64 (bestP p (bits .andNot .u8 x1 2) 1), .int .i64 (ep + 1), .int .i64 (-1), .int .i64 0, .int .i64 0, .int .i64 0, .int .i64 0, .bool false]) ?_
   refine eqAgg_ false ((zr182.1.holder == (bestP p (bits .andNot .u8 x1 2) 1)) && ((zr182.1.epoch == (ep + 1)) && ((zr182.1.offer == (-1)) && (((zr182.1.oa.n == 0) && ((zr182.1.oa.most == 0) && true)) && (((zr182.1.la.n == 0) && ((zr182.1.la.most == 0) && true)) && ((zr182.1.bad == false) && true)))))) (tokC zr182.1) #[.int .i64 (bestP p (bits .andNot .u8 x1 2) 1), .int .i64 (ep + 1), .int .i64 (-1), .int .i64 0, .int .i64 0, .int .i64 0, .int .i64 0, .bool false] ?_
   refine move_ ?_
   refine slotK_ 100 ((zr182.1.holder == (bestP p (bits .andNot .u8 x1 2) 1)) && ((zr182.1.epoch == (ep + 1)) && ((zr182.1.offer == (-1)) && (((zr182.1.oa.n == 0) && ((zr182.1.oa.most == 0) && true)) && (((zr182.1.la.n == 0) && ((zr182.1.la.most == 0) && true)) && ((zr182.1.bad == false) && true)))))) true (andT (eqT (by omega)) (andT (eqT (by omega)) (andT (eqT (by omega)) (andT (andT (eqT (by omega)) (andT (eqT (by omega)) (rfl))) (andT (andT (eqT (by omega)) (andT (eqT (by omega)) (rfl))) (andT ((congr (congrArg BEq.beq (zh243)) (rfl))) (rfl))))))) ?_
   refine pure_ (.int .i64 zr182.2.1) ?_
   refine pureE_ (.bool (zr182.2.1 == 0)) (.bool true) (congrArg Value.bool (eqT (by omega))) ?_
   refine pure_ (.bool true) ?_
   refine pure_ (.bool true) ?_
   refine move_ ?_
   refine call_ 12 #[.pointer (some ⟨zb143, 0, none⟩)] ?_
   have zS251 : St [] w (zq180 ++ ([⟨zb190, true, .cells (tokC zr182.1) 54 (0, 0)⟩, ⟨zb175, true, .cells #[.int .i64 1, .int .i64 ep, .int .i64 (-1), .int .i64 0, .int .i64 0, .int .i64 0, .int .i64 0, .bool false] 54 (0, 0)⟩, ⟨zb161, true, .cells #[.int .i64 1, .int .i64 ep, .int .i64 (-1), .int .i64 0, .int .i64 0, .int .i64 0, .int .i64 0, .bool false] 54 (0, 0)⟩, ⟨zb13, true, .cells (polP p ka kn kc) 48 (0, 0)⟩, ⟨zb4, true, .cells #[.int .u8 x0, .int .u8 x1] 49 (0, 0)⟩, ⟨zb1, true, .cells (polC q pa pn pc) 48 (0, 0)⟩] ++ (zq153 ++ ([] : List Blk)))) zw195 := zS197.re (R := ([] : List Blk)) [[⟨zb190, true, .cells (tokC zr182.1) 54 (0, 0)⟩], [⟨zb175, true, .cells #[.int .i64 1, .int .i64 ep, .int .i64 (-1), .int .i64 0, .int .i64 0, .int .i64 0, .int .i64 0, .bool false] 54 (0, 0)⟩], [⟨zb161, true, .cells #[.int .i64 1, .int .i64 ep, .int .i64 (-1), .int .i64 0, .int .i64 0, .int .i64 0, .int .i64 0, .bool false] 54 (0, 0)⟩], [⟨zb13, true, .cells (polP p ka kn kc) 48 (0, 0)⟩], [⟨zb4, true, .cells #[.int .u8 x0, .int .u8 x1] 49 (0, 0)⟩], [⟨zb1, true, .cells (polC q pa pn pc) 48 (0, 0)⟩], zq180, zq153] [6, 0, 1, 2, 3, 4, 5, 7]
   refine (q_list zh181 zS251).mono ?_; rintro _ zw252 ⟨zx246, zc247, zq248, rfl, zh249, zS253⟩
   have zh250 : zr182.2.2.length ≤ 3 := q_len zh181
   have zS255 : St [] w ([⟨zb190, true, .cells (tokC zr182.1) 54 (0, 0)⟩, ⟨zb175, true, .cells #[.int .i64 1, .int .i64 ep, .int .i64 (-1), .int .i64 0, .int .i64 0, .int .i64 0, .int .i64 0, .bool false] 54 (0, 0)⟩, ⟨zb161, true, .cells #[.int .i64 1, .int .i64 ep, .int .i64 (-1), .int .i64 0, .int .i64 0, .int .i64 0, .int .i64 0, .bool false] 54 (0, 0)⟩, ⟨zb13, true, .cells (polP p ka kn kc) 48 (0, 0)⟩, ⟨zb4, true, .cells #[.int .u8 x0, .int .u8 x1] 49 (0, 0)⟩, ⟨zb1, true, .cells (polC q pa pn pc) 48 (0, 0)⟩] ++ (zq248 ++ (zq180 ++ (zq153 ++ ([] : List Blk))))) zw252 := zS253.re (R := ([] : List Blk)) [zq248, zq180, [⟨zb190, true, .cells (tokC zr182.1) 54 (0, 0)⟩], [⟨zb175, true, .cells #[.int .i64 1, .int .i64 ep, .int .i64 (-1), .int .i64 0, .int .i64 0, .int .i64 0, .int .i64 0, .bool false] 54 (0, 0)⟩], [⟨zb161, true, .cells #[.int .i64 1, .int .i64 ep, .int .i64 (-1), .int .i64 0, .int .i64 0, .int .i64 0, .int .i64 0, .bool false] 54 (0, 0)⟩], [⟨zb13, true, .cells (polP p ka kn kc) 48 (0, 0)⟩], [⟨zb4, true, .cells #[.int .u8 x0, .int .u8 x1] 49 (0, 0)⟩], [⟨zb1, true, .cells (polC q pa pn pc) 48 (0, 0)⟩], zq153] [2, 3, 4, 5, 6, 7, 0, 1, 8]
   refine pure_ (.int .i64 ((zr182.2.2.length : Nat) : Int)) ?_
   refine move_ ?_
   refine sum_ .i64 (((((waitsL p (bits .andNot .u8 x1 2)).length) : Nat) : Int) - 1) (IntWalk.i64_in _ (by omega)) ?_
   refine pureE_ (.bool (((zr182.2.2.length : Nat) : Int) == (((((waitsL p (bits .andNot .u8 x1 2)).length) : Nat) : Int) - 1))) (.bool true) (congrArg Value.bool (eqT (by omega))) ?_
   refine pure_ (.bool true) ?_
   refine pure_ (.bool true) ?_
   refine nil_ (then_n (wp_ret ?_))
   refine ret_ rfl (res_ [.tmp 6] [.bool true] (.bool true) ⟨res_tmp, trivial⟩) ?_
   exact ⟨rfl, zS255.ch⟩
 intro zh256
 have zh257 := eqF' zh256
 refine split_b ((x0 % 4) == 2) ?_ ?_
 · intro zh258
   have zh259 := eqT' zh258
   refine slotI_ 25 .i64 (x0 % 4) 2 (by omega) ?_
   refine pure_ (.int .i64 2) ?_
   refine nil_ (then_n (seq_ ?_))
   refine quietL_ 4 [.pointer (some ⟨zb4, 1, none⟩), .int .u8 x1, .int .i64 2, .int .u8 4] [[4, 1, 0], [4, 1], [4, 3, 2], [4, 3], [5, 0], [5, 1], [5, 2], [5, 3], [5, 4]] (step_cons qP_ (step_cons (qL_ zS17 1 zb4 1) (step_cons qP_ (step_cons qP_ (step_nil))))) ?_
   intro zw260 zh262
   have zS261 := zS17.quiet zh262
   refine pure_ (.int .u8 (bits .andNot .u8 x1 4)) ?_
   refine assign_ ?_
   refine nil_ (then_n (seq_ (reg_ ?_)))
   refine loadN_ zS261 0 56 (polP p ka kn kc) zb13 0 ?_
   refine move_ ?_
   refine call_ 20 #[.agg (polP p ka kn kc), .int .u8 (bits .andNot .u8 x1 4)] ?_
   have zS266 : St [] w ([⟨zb13, true, .cells (polP p ka kn kc) 48 (0, 0)⟩, ⟨zb4, true, .cells #[.int .u8 x0, .int .u8 x1] 49 (0, 0)⟩, ⟨zb1, true, .cells (polC q pa pn pc) 48 (0, 0)⟩] ++ ([] : List Blk)) zw260 := zS261.re (R := ([] : List Blk)) [[⟨zb13, true, .cells (polP p ka kn kc) 48 (0, 0)⟩], [⟨zb4, true, .cells #[.int .u8 x0, .int .u8 x1] 49 (0, 0)⟩], [⟨zb1, true, .cells (polC q pa pn pc) 48 (0, 0)⟩]] [0, 1, 2]
   refine (waits_ p ka kn kc (bits .andNot .u8 x1 4) hp _ zS266).mono ?_; rintro _ zw267 ⟨zb263, zq264, rfl, zh265, zS268⟩
   have zS270 : St [] w ([⟨zb13, true, .cells (polP p ka kn kc) 48 (0, 0)⟩, ⟨zb4, true, .cells #[.int .u8 x0, .int .u8 x1] 49 (0, 0)⟩, ⟨zb1, true, .cells (polC q pa pn pc) 48 (0, 0)⟩] ++ (zq264 ++ ([] : List Blk))) zw267 := zS268.re (R := ([] : List Blk)) [zq264, [⟨zb13, true, .cells (polP p ka kn kc) 48 (0, 0)⟩], [⟨zb4, true, .cells #[.int .u8 x0, .int .u8 x1] 49 (0, 0)⟩], [⟨zb1, true, .cells (polC q pa pn pc) 48 (0, 0)⟩]] [1, 2, 3, 0]
   refine assign_ ?_
   refine nil_ (then_n (seq_ (seq_ (reg_ ?_))))
   refine pure_ (.bool true) ?_
   refine pure_ (.bool false) ?_
   refine pure_ (.bool false) ?_
   refine move_ ?_
   refine pure_ (.bool false) ?_
   refine pure_ (.bool false) ?_
   refine nil_ (then_n (cond_F ?_))
   refine wp_skip (then_n (seq_ (reg_ ?_)))
   refine move_ ?_
   refine call_ 12 #[.pointer (some ⟨zb263, 0, none⟩)] ?_
   have zS276 : St [] w (zq264 ++ ([⟨zb13, true, .cells (polP p ka kn kc) 48 (0, 0)⟩, ⟨zb4, true, .cells #[.int .u8 x0, .int .u8 x1] 49 (0, 0)⟩, ⟨zb1, true, .cells (polC q pa pn pc) 48 (0, 0)⟩] ++ ([] : List Blk))) zw267 := zS270.re (R := ([] : List Blk)) [[⟨zb13, true, .cells (polP p ka kn kc) 48 (0, 0)⟩], [⟨zb4, true, .cells #[.int .u8 x0, .int .u8 x1] 49 (0, 0)⟩], [⟨zb1, true, .cells (polC q pa pn pc) 48 (0, 0)⟩], zq264] [3, 0, 1, 2]
   refine (q_list zh265 zS276).mono ?_; rintro _ zw277 ⟨zx271, zc272, zq273, rfl, zh274, zS278⟩
   have zh275 : (waitsL p (bits .andNot .u8 x1 4)).length ≤ 3 := q_len zh265
   have zS280 : St [] w ([⟨zb13, true, .cells (polP p ka kn kc) 48 (0, 0)⟩, ⟨zb4, true, .cells #[.int .u8 x0, .int .u8 x1] 49 (0, 0)⟩, ⟨zb1, true, .cells (polC q pa pn pc) 48 (0, 0)⟩] ++ (zq273 ++ (zq264 ++ ([] : List Blk)))) zw277 := zS278.re (R := ([] : List Blk)) [zq273, zq264, [⟨zb13, true, .cells (polP p ka kn kc) 48 (0, 0)⟩], [⟨zb4, true, .cells #[.int .u8 x0, .int .u8 x1] 49 (0, 0)⟩], [⟨zb1, true, .cells (polC q pa pn pc) 48 (0, 0)⟩]] [2, 3, 4, 0, 1]
   refine pure_ (.int .i64 ((((waitsL p (bits .andNot .u8 x1 4)).length) : Nat) : Int)) ?_
   refine assign_ ?_
   refine nil_ (then_n (seq_ (reg_ ?_)))
   refine pure_ (.int .i64 2) ?_
   refine pure_ (.int .u16 ep) ?_
   refine sum_ .i64 ep (IntWalk.i64_in _ (by omega)) ?_
   refine pure_ (.agg #[.int .i64 2, .int .i64 ep, .int .i64 (-1), .int .i64 0, .int .i64 0, .int .i64 0, .int .i64 0, .bool false]) ?_
   refine new_ zS280 (fun b => .pointer (some ⟨b, 0, none⟩)) (.cells #[.int .i64 0, .int .i64 0, .int .i64 0, .int .i64 0, .int .i64 0, .int .i64 0, .int .i64 0, .bool false] 54) ?_
   intro zb281 zw282 zS283
   refine store_ zS283 0 (.agg #[.int .i64 2, .int .i64 ep, .int .i64 (-1), .int .i64 0, .int .i64 0, .int .i64 0, .int .i64 0, .bool false]) zb281 0 ?_
   intro zw284 zS285
   refine nil_ (then_n (seq_ (reg_ ?_)))
   refine loadN_ zS285 0 8 #[.int .i64 2, .int .i64 ep, .int .i64 (-1), .int .i64 0, .int .i64 0, .int .i64 0, .int .i64 0, .bool false] zb281 0 ?_
   refine move_ ?_
   refine pure_ (.int .i64 2) ?_
   refine pure_ (.int .i64 3) ?_
   refine call_ 21 #[.agg #[.int .i64 2, .int .i64 ep, .int .i64 (-1), .int .i64 0, .int .i64 0, .int .i64 0, .int .i64 0, .bool false], .pointer (some ⟨zb263, 0, none⟩), .int .i64 3] ?_
   have zS290 : St [] w (zq264 ++ ([⟨zb281, true, .cells #[.int .i64 2, .int .i64 ep, .int .i64 (-1), .int .i64 0, .int .i64 0, .int .i64 0, .int .i64 0, .bool false] 54 (0, 0)⟩, ⟨zb13, true, .cells (polP p ka kn kc) 48 (0, 0)⟩, ⟨zb4, true, .cells #[.int .u8 x0, .int .u8 x1] 49 (0, 0)⟩, ⟨zb1, true, .cells (polC q pa pn pc) 48 (0, 0)⟩] ++ (zq273 ++ ([] : List Blk)))) zw284 := zS285.re (R := ([] : List Blk)) [[⟨zb281, true, .cells #[.int .i64 2, .int .i64 ep, .int .i64 (-1), .int .i64 0, .int .i64 0, .int .i64 0, .int .i64 0, .bool false] 54 (0, 0)⟩], [⟨zb13, true, .cells (polP p ka kn kc) 48 (0, 0)⟩], [⟨zb4, true, .cells #[.int .u8 x0, .int .u8 x1] 49 (0, 0)⟩], [⟨zb1, true, .cells (polC q pa pn pc) 48 (0, 0)⟩], zq273, zq264] [5, 0, 1, 2, 3, 4]
   refine (release_ zb263 3 (waitsL p (bits .andNot .u8 x1 4)) zq264 (⟨2, ep, (-1), (⟨0, 0⟩ : Sd.Timer), (⟨0, 0⟩ : Sd.Timer), false⟩ : Sd.Tok) 3 zh265 (by dsimp only; omega) _ zS290).mono ?_; rintro _ zw291 ⟨zq286, rfl, zh287, zS292⟩
   have zS294 : St [] w ([⟨zb281, true, .cells #[.int .i64 2, .int .i64 ep, .int .i64 (-1), .int .i64 0, .int .i64 0, .int .i64 0, .int .i64 0, .bool false] 54 (0, 0)⟩, ⟨zb13, true, .cells (polP p ka kn kc) 48 (0, 0)⟩, ⟨zb4, true, .cells #[.int .u8 x0, .int .u8 x1] 49 (0, 0)⟩, ⟨zb1, true, .cells (polC q pa pn pc) 48 (0, 0)⟩] ++ (zq286 ++ (zq273 ++ ([] : List Blk)))) zw291 := zS292.re (R := ([] : List Blk)) [zq286, [⟨zb281, true, .cells #[.int .i64 2, .int .i64 ep, .int .i64 (-1), .int .i64 0, .int .i64 0, .int .i64 0, .int .i64 0, .bool false] 54 (0, 0)⟩], [⟨zb13, true, .cells (polP p ka kn kc) 48 (0, 0)⟩], [⟨zb4, true, .cells #[.int .u8 x0, .int .u8 x1] 49 (0, 0)⟩], [⟨zb1, true, .cells (polC q pa pn pc) 48 (0, 0)⟩], zq273] [1, 2, 3, 4, 0, 5]
   refine move_ ?_
   refine pure_ (.agg #[.int .i64 2, .int .i64 ep, .int .i64 (-1), .int .i64 0, .int .i64 0, .int .i64 0, .int .i64 0, .bool false]) ?_
   refine pure_ (.int .i64 20) ?_
   refine new_ zS294 (fun b => .pointer (some ⟨b, 0, none⟩)) (.cells #[.int .i64 0, .int .i64 0, .int .i64 0, .int .i64 0, .int .i64 0, .int .i64 0, .int .i64 0, .bool false] 54) ?_
   intro zb295 zw296 zS297
   refine store_ zS297 0 (.agg #[.int .i64 2, .int .i64 ep, .int .i64 (-1), .int .i64 0, .int .i64 0, .int .i64 0, .int .i64 0, .bool false]) zb295 0 ?_
   intro zw298 zS299
   refine pure_ (.int .i64 20) ?_
   refine nil_ (then_n (seq_ (reg_ ?_)))
   refine loadN_ zS299 1 8 #[.int .i64 2, .int .i64 ep, .int .i64 (-1), .int .i64 0, .int .i64 0, .int .i64 0, .int .i64 0, .bool false] zb281 0 ?_
   refine move_ ?_
   refine pure_ (.int .i64 2) ?_
   refine call_ 21 #[.agg #[.int .i64 2, .int .i64 ep, .int .i64 (-1), .int .i64 0, .int .i64 0, .int .i64 0, .int .i64 0, .bool false], .pointer (some ⟨zb263, 0, none⟩), .int .i64 2] ?_
   have zS304 : St [] w (zq286 ++ ([⟨zb295, true, .cells #[.int .i64 2, .int .i64 ep, .int .i64 (-1), .int .i64 0, .int .i64 0, .int .i64 0, .int .i64 0, .bool false] 54 (0, 0)⟩, ⟨zb281, true, .cells #[.int .i64 2, .int .i64 ep, .int .i64 (-1), .int .i64 0, .int .i64 0, .int .i64 0, .int .i64 0, .bool false] 54 (0, 0)⟩, ⟨zb13, true, .cells (polP p ka kn kc) 48 (0, 0)⟩, ⟨zb4, true, .cells #[.int .u8 x0, .int .u8 x1] 49 (0, 0)⟩, ⟨zb1, true, .cells (polC q pa pn pc) 48 (0, 0)⟩] ++ (zq273 ++ ([] : List Blk)))) zw298 := zS299.re (R := ([] : List Blk)) [[⟨zb295, true, .cells #[.int .i64 2, .int .i64 ep, .int .i64 (-1), .int .i64 0, .int .i64 0, .int .i64 0, .int .i64 0, .bool false] 54 (0, 0)⟩], [⟨zb281, true, .cells #[.int .i64 2, .int .i64 ep, .int .i64 (-1), .int .i64 0, .int .i64 0, .int .i64 0, .int .i64 0, .bool false] 54 (0, 0)⟩], [⟨zb13, true, .cells (polP p ka kn kc) 48 (0, 0)⟩], [⟨zb4, true, .cells #[.int .u8 x0, .int .u8 x1] 49 (0, 0)⟩], [⟨zb1, true, .cells (polC q pa pn pc) 48 (0, 0)⟩], zq286, zq273] [5, 0, 1, 2, 3, 4, 6]
   refine (release_ zb263 3 (waitsL p (bits .andNot .u8 x1 4)) zq286 (⟨2, ep, (-1), (⟨0, 0⟩ : Sd.Timer), (⟨0, 0⟩ : Sd.Timer), false⟩ : Sd.Tok) 2 zh287 (by dsimp only; omega) _ zS304).mono ?_; rintro _ zw305 ⟨zq300, rfl, zh301, zS306⟩
   generalize ze308 : Sd.releaseTok (⟨2, ep, (-1), (⟨0, 0⟩ : Sd.Timer), (⟨0, 0⟩ : Sd.Timer), false⟩ : Sd.Tok) (waitsL p (bits .andNot .u8 x1 4)) 2 = zr302 at zh301 ⊢
   have zh303 : RK p zr302.2.2 := (by rw [← ze308]; exact RK.release (RK.waits _ _))
   have zS309 : St [] w ([⟨zb295, true, .cells #[.int .i64 2, .int .i64 ep, .int .i64 (-1), .int .i64 0, .int .i64 0, .int .i64 0, .int .i64 0, .bool false] 54 (0, 0)⟩, ⟨zb281, true, .cells #[.int .i64 2, .int .i64 ep, .int .i64 (-1), .int .i64 0, .int .i64 0, .int .i64 0, .int .i64 0, .bool false] 54 (0, 0)⟩, ⟨zb13, true, .cells (polP p ka kn kc) 48 (0, 0)⟩, ⟨zb4, true, .cells #[.int .u8 x0, .int .u8 x1] 49 (0, 0)⟩, ⟨zb1, true, .cells (polC q pa pn pc) 48 (0, 0)⟩] ++ (zq300 ++ (zq273 ++ ([] : List Blk)))) zw305 := zS306.re (R := ([] : List Blk)) [zq300, [⟨zb295, true, .cells #[.int .i64 2, .int .i64 ep, .int .i64 (-1), .int .i64 0, .int .i64 0, .int .i64 0, .int .i64 0, .bool false] 54 (0, 0)⟩], [⟨zb281, true, .cells #[.int .i64 2, .int .i64 ep, .int .i64 (-1), .int .i64 0, .int .i64 0, .int .i64 0, .int .i64 0, .bool false] 54 (0, 0)⟩], [⟨zb13, true, .cells (polP p ka kn kc) 48 (0, 0)⟩], [⟨zb4, true, .cells #[.int .u8 x0, .int .u8 x1] 49 (0, 0)⟩], [⟨zb1, true, .cells (polC q pa pn pc) 48 (0, 0)⟩], zq273] [1, 2, 3, 4, 5, 0, 6]
   refine move_ ?_
   refine pure_ (.agg (tokC zr302.1)) ?_
   refine pure_ (.int .i64 zr302.2.1) ?_
   refine new_ zS309 (fun b => .pointer (some ⟨b, 0, none⟩)) (.cells #[.int .i64 0, .int .i64 0, .int .i64 0, .int .i64 0, .int .i64 0, .int .i64 0, .int .i64 0, .bool false] 54) ?_
   intro zb310 zw311 zS312
   refine store_ zS312 0 (.agg (tokC zr302.1)) zb310 0 ?_
   intro zw313 zS314
   refine pure_ (.int .i64 zr302.2.1) ?_
   refine nil_ (then_n (seq_ (reg_ ?_)))
   refine loadN_ zS314 3 56 (polP p ka kn kc) zb13 0 ?_
   refine move_ ?_
   refine pure_ (.int .i64 2) ?_
   refine call_ 22 #[.agg (polP p ka kn kc), .int .u8 (bits .andNot .u8 x1 4), .int .i64 2] ?_
   refine (best_ p ka kn kc (bits .andNot .u8 x1 4) 2 _).mono ?_; rintro _ zw315 ⟨rfl, zhc316⟩
   have zS317 := zS314.quiet zhc316
   refine assign_ ?_
   refine nil_ (then_n (seq_ (seq_ (reg_ ?_))))
   refine pure_ (.int .i64 20) ?_
   refine pure_ (.bool false) ?_
   refine nil_ (then_n (cond_F ?_))
   refine wp_skip (then_n (seq_ (seq_ (reg_ ?_))))
   refine pure_ (.int .u16 ep) ?_
   refine pure_ (.bool (ep == 65535)) ?_
   refine nil_ (then_n ?_)
   refine cond_S (ep == 65535) ?_ ?_
   · intro zh318
     have zh319 := eqT' zh318
     obtain ⟨zh320, zh321, zh322, zh323, zh324, zh325, zh326, zh327, zh328, zh329⟩ := (rel_all hp (bits .andNot .u8 x1 4) 2 ep (by decide) (by omega) (fun e => absurd e (by decide)) (fun _ => (andNot_bit x1 (by omega) (by omega)).2.1) (fun e => absurd e (by decide)) ze308).1 (by omega)
     refine seq_ (reg_ ?_)
     refine loadN_ zS317 0 8 (tokC zr302.1) zb310 0 ?_
     refine loadN_ zS317 2 8 #[.int .i64 2, .int .i64 ep, .int .i64 (-1), .int .i64 0, .int .i64 0, .int .i64 0, .int .i64 0, .bool false] zb281 0 ?_
     refine eqAgg_ false ((zr302.1.holder == 2) && ((zr302.1.epoch == ep) && ((zr302.1.offer == (-1)) && (((zr302.1.oa.n == 0) && ((zr302.1.oa.most == 0) && true)) && (((zr302.1.la.n == 0) && ((zr302.1.la.most == 0) && true)) && ((zr302.1.bad == false) && true)))))) (tokC zr302.1) #[.int .i64 2, .int .i64 ep, .int .i64 (-1), .int .i64 0, .int .i64 0, .int .i64 0, .int .i64 0, .bool false] ?_
     refine move_ ?_
     refine slotK_ 73 ((zr302.1.holder == 2) && ((zr302.1.epoch == ep) && ((zr302.1.offer == (-1)) && (((zr302.1.oa.n == 0) && ((zr302.1.oa.most == 0) && true)) && (((zr302.1.la.n == 0) && ((zr302.1.la.most == 0) && true)) && ((zr302.1.bad == false) && true)))))) true (andT (eqT (by omega)) (andT (eqT (by omega)) (andT (eqT (by omega)) (andT (andT (eqT (by omega)) (andT (eqT (by omega)) (rfl))) (andT (andT (eqT (by omega)) (andT (eqT (by omega)) (rfl))) (andT ((congr (congrArg BEq.beq (zh327)) (rfl))) (rfl))))))) ?_
     refine pure_ (.int .i64 zr302.2.1) ?_
     refine pureE_ (.bool (zr302.2.1 == 24)) (.bool true) (congrArg Value.bool (eqT (by omega))) ?_
     refine pure_ (.bool true) ?_
     refine pure_ (.bool true) ?_
     refine move_ ?_
     refine call_ 12 #[.pointer (some ⟨zb263, 0, none⟩)] ?_
     have zS335 : St [] w (zq300 ++ ([⟨zb310, true, .cells (tokC zr302.1) 54 (0, 0)⟩, ⟨zb295, true, .cells #[.int .i64 2, .int .i64 ep, .int .i64 (-1), .int .i64 0, .int .i64 0, .int .i64 0, .int .i64 0, .bool false] 54 (0, 0)⟩, ⟨zb281, true, .cells #[.int .i64 2, .int .i64 ep, .int .i64 (-1), .int .i64 0, .int .i64 0, .int .i64 0, .int .i64 0, .bool false] 54 (0, 0)⟩, ⟨zb13, true, .cells (polP p ka kn kc) 48 (0, 0)⟩, ⟨zb4, true, .cells #[.int .u8 x0, .int .u8 x1] 49 (0, 0)⟩, ⟨zb1, true, .cells (polC q pa pn pc) 48 (0, 0)⟩] ++ (zq273 ++ ([] : List Blk)))) zw315 := zS317.re (R := ([] : List Blk)) [[⟨zb310, true, .cells (tokC zr302.1) 54 (0, 0)⟩], [⟨zb295, true, .cells #[.int .i64 2, .int .i64 ep, .int .i64 (-1), .int .i64 0, .int .i64 0, .int .i64 0, .int .i64 0, .bool false] 54 (0, 0)⟩], [⟨zb281, true, .cells #[.int .i64 2, .int .i64 ep, .int .i64 (-1), .int .i64 0, .int .i64 0, .int .i64 0, .int .i64 0, .bool false] 54 (0, 0)⟩], [⟨zb13, true, .cells (polP p ka kn kc) 48 (0, 0)⟩], [⟨zb4, true, .cells #[.int .u8 x0, .int .u8 x1] 49 (0, 0)⟩], [⟨zb1, true, .cells (polC q pa pn pc) 48 (0, 0)⟩], zq300, zq273] [6, 0, 1, 2, 3, 4, 5, 7]
     refine (q_list zh301 zS335).mono ?_; rintro _ zw336 ⟨zx330, zc331, zq332, rfl, zh333, zS337⟩
     have zh334 : zr302.2.2.length ≤ 3 := q_len zh301
     have zS339 : St [] w ([⟨zb310, true, .cells (tokC zr302.1) 54 (0, 0)⟩, ⟨zb295, true, .cells #[.int .i64 2, .int .i64 ep, .int .i64 (-1), .int .i64 0, .int .i64 0, .int .i64 0, .int .i64 0, .bool false] 54 (0, 0)⟩, ⟨zb281, true, .cells #[.int .i64 2, .int .i64 ep, .int .i64 (-1), .int .i64 0, .int .i64 0, .int .i64 0, .int .i64 0, .bool false] 54 (0, 0)⟩, ⟨zb13, true, .cells (polP p ka kn kc) 48 (0, 0)⟩, ⟨zb4, true, .cells #[.int .u8 x0, .int .u8 x1] 49 (0, 0)⟩, ⟨zb1, true, .cells (polC q pa pn pc) 48 (0, 0)⟩] ++ (zq332 ++ (zq300 ++ (zq273 ++ ([] : List Blk))))) zw336 := zS337.re (R := ([] : List Blk)) [zq332, zq300, [⟨zb310, true, .cells (tokC zr302.1) 54 (0, 0)⟩], [⟨zb295, true, .cells #[.int .i64 2, .int .i64 ep, .int .i64 (-1), .int .i64 0, .int .i64 0, .int .i64 0, .int .i64 0, .bool false] 54 (0, 0)⟩], [⟨zb281, true, .cells #[.int .i64 2, .int .i64 ep, .int .i64 (-1), .int .i64 0, .int .i64 0, .int .i64 0, .int .i64 0, .bool false] 54 (0, 0)⟩], [⟨zb13, true, .cells (polP p ka kn kc) 48 (0, 0)⟩], [⟨zb4, true, .cells #[.int .u8 x0, .int .u8 x1] 49 (0, 0)⟩], [⟨zb1, true, .cells (polC q pa pn pc) 48 (0, 0)⟩], zq273] [2, 3, 4, 5, 6, 7, 0, 1, 8]
     refine pure_ (.int .i64 ((zr302.2.2.length : Nat) : Int)) ?_
     refine move_ ?_
     refine pureE_ (.bool (((zr302.2.2.length : Nat) : Int) == ((((waitsL p (bits .andNot .u8 x1 4)).length) : Nat) : Int))) (.bool true) (congrArg Value.bool (eqT (by omega))) ?_
     refine pure_ (.bool true) ?_
     refine pure_ (.bool true) ?_
     refine nil_ (then_n (wp_ret (then_r ?_)))
     refine ret_ rfl (res_ [.tmp 6] [.bool true] (.bool true) ⟨res_tmp, trivial⟩) ?_
     exact ⟨rfl, zS339.ch⟩
   intro zh340
   have zh341 := eqF' zh340
   refine wp_skip (then_n (seq_ (seq_ (reg_ ?_))))
   refine move_ ?_
   refine pure_ (.bool ((bestP p (bits .andNot .u8 x1 4) 2) == 0)) ?_
   refine nil_ (then_n ?_)
   refine cond_S ((bestP p (bits .andNot .u8 x1 4) 2) == 0) ?_ ?_
   · intro zh342
     have zh343 := eqT' zh342
     obtain ⟨zh344, zh345, zh346, zh347, zh348, zh349, zh350, zh351, zh352, zh353⟩ := (rel_all hp (bits .andNot .u8 x1 4) 2 ep (by decide) (by omega) (fun e => absurd e (by decide)) (fun _ => (andNot_bit x1 (by omega) (by omega)).2.1) (fun e => absurd e (by decide)) ze308).2.1 (by omega) (by omega)
     refine seq_ (reg_ ?_)
     refine loadN_ zS317 0 8 (tokC zr302.1) zb310 0 ?_
     refine loadN_ zS317 2 8 #[.int .i64 2, .int .i64 ep, .int .i64 (-1), .int .i64 0, .int .i64 0, .int .i64 0, .int .i64 0, .bool false] zb281 0 ?_
     refine eqAgg_ false ((zr302.1.holder == 2) && ((zr302.1.epoch == ep) && ((zr302.1.offer == (-1)) && (((zr302.1.oa.n == 0) && ((zr302.1.oa.most == 0) && true)) && (((zr302.1.la.n == 0) && ((zr302.1.la.most == 0) && true)) && ((zr302.1.bad == false) && true)))))) (tokC zr302.1) #[.int .i64 2, .int .i64 ep, .int .i64 (-1), .int .i64 0, .int .i64 0, .int .i64 0, .int .i64 0, .bool false] ?_
     refine move_ ?_
     refine slotK_ 89 ((zr302.1.holder == 2) && ((zr302.1.epoch == ep) && ((zr302.1.offer == (-1)) && (((zr302.1.oa.n == 0) && ((zr302.1.oa.most == 0) && true)) && (((zr302.1.la.n == 0) && ((zr302.1.la.most == 0) && true)) && ((zr302.1.bad == false) && true)))))) true (andT (eqT (by omega)) (andT (eqT (by omega)) (andT (eqT (by omega)) (andT (andT (eqT (by omega)) (andT (eqT (by omega)) (rfl))) (andT (andT (eqT (by omega)) (andT (eqT (by omega)) (rfl))) (andT ((congr (congrArg BEq.beq (zh351)) (rfl))) (rfl))))))) ?_
     refine pure_ (.int .i64 zr302.2.1) ?_
     refine pureE_ (.bool (zr302.2.1 == 2)) (.bool true) (congrArg Value.bool (eqT (by omega))) ?_
     refine pure_ (.bool true) ?_
     refine pure_ (.bool true) ?_
     refine nil_ (then_n (wp_ret (then_r ?_)))
     refine ret_ rfl (res_ [.tmp 6] [.bool true] (.bool true) ⟨res_tmp, trivial⟩) ?_
     exact ⟨rfl, zS317.ch⟩
   intro zh354
   have zh355 := eqF' zh354
   obtain ⟨zh356, zh357, zh358, zh359, zh360, zh361, zh362, zh363, zh364, zh365⟩ := (rel_all hp (bits .andNot .u8 x1 4) 2 ep (by decide) (by omega) (fun e => absurd e (by decide)) (fun _ => (andNot_bit x1 (by omega) (by omega)).2.1) (fun e => absurd e (by decide)) ze308).2.2 (by omega) (by omega)
   refine wp_skip (then_n (seq_ (reg_ ?_)))
   refine loadN_ zS317 0 8 (tokC zr302.1) zb310 0 ?_
   refine move_ ?_
   refine pure_ (.int .u16 ep) ?_
   refine sum_ .i64 ep (IntWalk.i64_in _ (by omega)) ?_
   refine sum_ .i64 (ep + 1) (IntWalk.i64_in _ (by omega)) ?_
   refine pure_ (.agg #[.int .i64 (bestP p (bits .andNot .u8 x1 4) 2), .int .i64 (ep + 1), .int .i64 (-1), .int .i64 0, .int .i64 0, .int .i64 0, .int .i64 0, .bool false]) ?_
   refine eqAgg_ false ((zr302.1.holder == (bestP p (bits .andNot .u8 x1 4) 2)) && ((zr302.1.epoch == (ep + 1)) && ((zr302.1.offer == (-1)) && (((zr302.1.oa.n == 0) && ((zr302.1.oa.most == 0) && true)) && (((zr302.1.la.n == 0) && ((zr302.1.la.most == 0) && true)) && ((zr302.1.bad == false) && true)))))) (tokC zr302.1) #[.int .i64 (bestP p (bits .andNot .u8 x1 4) 2), .int .i64 (ep + 1), .int .i64 (-1), .int .i64 0, .int .i64 0, .int .i64 0, .int .i64 0, .bool false] ?_
   refine move_ ?_
   refine slotK_ 100 ((zr302.1.holder == (bestP p (bits .andNot .u8 x1 4) 2)) && ((zr302.1.epoch == (ep + 1)) && ((zr302.1.offer == (-1)) && (((zr302.1.oa.n == 0) && ((zr302.1.oa.most == 0) && true)) && (((zr302.1.la.n == 0) && ((zr302.1.la.most == 0) && true)) && ((zr302.1.bad == false) && true)))))) true (andT (eqT (by omega)) (andT (eqT (by omega)) (andT (eqT (by omega)) (andT (andT (eqT (by omega)) (andT (eqT (by omega)) (rfl))) (andT (andT (eqT (by omega)) (andT (eqT (by omega)) (rfl))) (andT ((congr (congrArg BEq.beq (zh363)) (rfl))) (rfl))))))) ?_
   refine pure_ (.int .i64 zr302.2.1) ?_
   refine pureE_ (.bool (zr302.2.1 == 0)) (.bool true) (congrArg Value.bool (eqT (by omega))) ?_
   refine pure_ (.bool true) ?_
   refine pure_ (.bool true) ?_
   refine move_ ?_
   refine call_ 12 #[.pointer (some ⟨zb263, 0, none⟩)] ?_
   have zS371 : St [] w (zq300 ++ ([⟨zb310, true, .cells (tokC zr302.1) 54 (0, 0)⟩, ⟨zb295, true, .cells #[.int .i64 2, .int .i64 ep, .int .i64 (-1), .int .i64 0, .int .i64 0, .int .i64 0, .int .i64 0, .bool false] 54 (0, 0)⟩, ⟨zb281, true, .cells #[.int .i64 2, .int .i64 ep, .int .i64 (-1), .int .i64 0, .int .i64 0, .int .i64 0, .int .i64 0, .bool false] 54 (0, 0)⟩, ⟨zb13, true, .cells (polP p ka kn kc) 48 (0, 0)⟩, ⟨zb4, true, .cells #[.int .u8 x0, .int .u8 x1] 49 (0, 0)⟩, ⟨zb1, true, .cells (polC q pa pn pc) 48 (0, 0)⟩] ++ (zq273 ++ ([] : List Blk)))) zw315 := zS317.re (R := ([] : List Blk)) [[⟨zb310, true, .cells (tokC zr302.1) 54 (0, 0)⟩], [⟨zb295, true, .cells #[.int .i64 2, .int .i64 ep, .int .i64 (-1), .int .i64 0, .int .i64 0, .int .i64 0, .int .i64 0, .bool false] 54 (0, 0)⟩], [⟨zb281, true, .cells #[.int .i64 2, .int .i64 ep, .int .i64 (-1), .int .i64 0, .int .i64 0, .int .i64 0, .int .i64 0, .bool false] 54 (0, 0)⟩], [⟨zb13, true, .cells (polP p ka kn kc) 48 (0, 0)⟩], [⟨zb4, true, .cells #[.int .u8 x0, .int .u8 x1] 49 (0, 0)⟩], [⟨zb1, true, .cells (polC q pa pn pc) 48 (0, 0)⟩], zq300, zq273] [6, 0, 1, 2, 3, 4, 5, 7]
   refine (q_list zh301 zS371).mono ?_; rintro _ zw372 ⟨zx366, zc367, zq368, rfl, zh369, zS373⟩
   have zh370 : zr302.2.2.length ≤ 3 := q_len zh301
   have zS375 : St [] w ([⟨zb310, true, .cells (tokC zr302.1) 54 (0, 0)⟩, ⟨zb295, true, .cells #[.int .i64 2, .int .i64 ep, .int .i64 (-1), .int .i64 0, .int .i64 0, .int .i64 0, .int .i64 0, .bool false] 54 (0, 0)⟩, ⟨zb281, true, .cells #[.int .i64 2, .int .i64 ep, .int .i64 (-1), .int .i64 0, .int .i64 0, .int .i64 0, .int .i64 0, .bool false] 54 (0, 0)⟩, ⟨zb13, true, .cells (polP p ka kn kc) 48 (0, 0)⟩, ⟨zb4, true, .cells #[.int .u8 x0, .int .u8 x1] 49 (0, 0)⟩, ⟨zb1, true, .cells (polC q pa pn pc) 48 (0, 0)⟩] ++ (zq368 ++ (zq300 ++ (zq273 ++ ([] : List Blk))))) zw372 := zS373.re (R := ([] : List Blk)) [zq368, zq300, [⟨zb310, true, .cells (tokC zr302.1) 54 (0, 0)⟩], [⟨zb295, true, .cells #[.int .i64 2, .int .i64 ep, .int .i64 (-1), .int .i64 0, .int .i64 0, .int .i64 0, .int .i64 0, .bool false] 54 (0, 0)⟩], [⟨zb281, true, .cells #[.int .i64 2, .int .i64 ep, .int .i64 (-1), .int .i64 0, .int .i64 0, .int .i64 0, .int .i64 0, .bool false] 54 (0, 0)⟩], [⟨zb13, true, .cells (polP p ka kn kc) 48 (0, 0)⟩], [⟨zb4, true, .cells #[.int .u8 x0, .int .u8 x1] 49 (0, 0)⟩], [⟨zb1, true, .cells (polC q pa pn pc) 48 (0, 0)⟩], zq273] [2, 3, 4, 5, 6, 7, 0, 1, 8]
   refine pure_ (.int .i64 ((zr302.2.2.length : Nat) : Int)) ?_
   refine move_ ?_
   refine sum_ .i64 (((((waitsL p (bits .andNot .u8 x1 4)).length) : Nat) : Int) - 1) (IntWalk.i64_in _ (by omega)) ?_
   refine pureE_ (.bool (((zr302.2.2.length : Nat) : Int) == (((((waitsL p (bits .andNot .u8 x1 4)).length) : Nat) : Int) - 1))) (.bool true) (congrArg Value.bool (eqT (by omega))) ?_
   refine pure_ (.bool true) ?_
   refine pure_ (.bool true) ?_
   refine nil_ (then_n (wp_ret ?_))
   refine ret_ rfl (res_ [.tmp 6] [.bool true] (.bool true) ⟨res_tmp, trivial⟩) ?_
   exact ⟨rfl, zS375.ch⟩
 intro zh376
 have zh377 := eqF' zh376
 refine slotI_ 25 .i64 (x0 % 4) 3 (by omega) ?_
 have zh378 : (x0 % 4) = 3 := by omega
 refine pure_ (.int .i64 3) ?_
 refine nil_ (then_n (seq_ ?_))
 refine quietL_ 4 [.pointer (some ⟨zb4, 1, none⟩), .int .u8 x1, .int .i64 3, .int .u8 8] [[4, 1, 0], [4, 1], [4, 3, 2], [4, 3], [5, 0], [5, 1], [5, 2], [5, 3], [5, 4]] (step_cons qP_ (step_cons (qL_ zS17 1 zb4 1) (step_cons qP_ (step_cons qP_ (step_nil))))) ?_
 intro zw379 zh381
 have zS380 := zS17.quiet zh381
 refine pure_ (.int .u8 (bits .andNot .u8 x1 8)) ?_
 refine assign_ ?_
 refine nil_ (then_n (seq_ (reg_ ?_)))
 refine loadN_ zS380 0 56 (polP p ka kn kc) zb13 0 ?_
 refine move_ ?_
 refine call_ 20 #[.agg (polP p ka kn kc), .int .u8 (bits .andNot .u8 x1 8)] ?_
 have zS385 : St [] w ([⟨zb13, true, .cells (polP p ka kn kc) 48 (0, 0)⟩, ⟨zb4, true, .cells #[.int .u8 x0, .int .u8 x1] 49 (0, 0)⟩, ⟨zb1, true, .cells (polC q pa pn pc) 48 (0, 0)⟩] ++ ([] : List Blk)) zw379 := zS380.re (R := ([] : List Blk)) [[⟨zb13, true, .cells (polP p ka kn kc) 48 (0, 0)⟩], [⟨zb4, true, .cells #[.int .u8 x0, .int .u8 x1] 49 (0, 0)⟩], [⟨zb1, true, .cells (polC q pa pn pc) 48 (0, 0)⟩]] [0, 1, 2]
 refine (waits_ p ka kn kc (bits .andNot .u8 x1 8) hp _ zS385).mono ?_; rintro _ zw386 ⟨zb382, zq383, rfl, zh384, zS387⟩
 have zS389 : St [] w ([⟨zb13, true, .cells (polP p ka kn kc) 48 (0, 0)⟩, ⟨zb4, true, .cells #[.int .u8 x0, .int .u8 x1] 49 (0, 0)⟩, ⟨zb1, true, .cells (polC q pa pn pc) 48 (0, 0)⟩] ++ (zq383 ++ ([] : List Blk))) zw386 := zS387.re (R := ([] : List Blk)) [zq383, [⟨zb13, true, .cells (polP p ka kn kc) 48 (0, 0)⟩], [⟨zb4, true, .cells #[.int .u8 x0, .int .u8 x1] 49 (0, 0)⟩], [⟨zb1, true, .cells (polC q pa pn pc) 48 (0, 0)⟩]] [1, 2, 3, 0]
 refine assign_ ?_
 refine nil_ (then_n (seq_ (seq_ (reg_ ?_))))
 refine pure_ (.bool true) ?_
 refine pure_ (.bool false) ?_
 refine pure_ (.bool false) ?_
 refine move_ ?_
 refine pure_ (.bool false) ?_
 refine pure_ (.bool false) ?_
 refine nil_ (then_n (cond_F ?_))
 refine wp_skip (then_n (seq_ (reg_ ?_)))
 refine move_ ?_
 refine call_ 12 #[.pointer (some ⟨zb382, 0, none⟩)] ?_
 have zS395 : St [] w (zq383 ++ ([⟨zb13, true, .cells (polP p ka kn kc) 48 (0, 0)⟩, ⟨zb4, true, .cells #[.int .u8 x0, .int .u8 x1] 49 (0, 0)⟩, ⟨zb1, true, .cells (polC q pa pn pc) 48 (0, 0)⟩] ++ ([] : List Blk))) zw386 := zS389.re (R := ([] : List Blk)) [[⟨zb13, true, .cells (polP p ka kn kc) 48 (0, 0)⟩], [⟨zb4, true, .cells #[.int .u8 x0, .int .u8 x1] 49 (0, 0)⟩], [⟨zb1, true, .cells (polC q pa pn pc) 48 (0, 0)⟩], zq383] [3, 0, 1, 2]
 refine (q_list zh384 zS395).mono ?_; rintro _ zw396 ⟨zx390, zc391, zq392, rfl, zh393, zS397⟩
 have zh394 : (waitsL p (bits .andNot .u8 x1 8)).length ≤ 3 := q_len zh384
 have zS399 : St [] w ([⟨zb13, true, .cells (polP p ka kn kc) 48 (0, 0)⟩, ⟨zb4, true, .cells #[.int .u8 x0, .int .u8 x1] 49 (0, 0)⟩, ⟨zb1, true, .cells (polC q pa pn pc) 48 (0, 0)⟩] ++ (zq392 ++ (zq383 ++ ([] : List Blk)))) zw396 := zS397.re (R := ([] : List Blk)) [zq392, zq383, [⟨zb13, true, .cells (polP p ka kn kc) 48 (0, 0)⟩], [⟨zb4, true, .cells #[.int .u8 x0, .int .u8 x1] 49 (0, 0)⟩], [⟨zb1, true, .cells (polC q pa pn pc) 48 (0, 0)⟩]] [2, 3, 4, 0, 1]
 refine pure_ (.int .i64 ((((waitsL p (bits .andNot .u8 x1 8)).length) : Nat) : Int)) ?_
 refine assign_ ?_
 refine nil_ (then_n (seq_ (reg_ ?_)))
 refine pure_ (.int .i64 3) ?_
 refine pure_ (.int .u16 ep) ?_
 refine sum_ .i64 ep (IntWalk.i64_in _ (by omega)) ?_
 refine pure_ (.agg #[.int .i64 3, .int .i64 ep, .int .i64 (-1), .int .i64 0, .int .i64 0, .int .i64 0, .int .i64 0, .bool false]) ?_
 refine new_ zS399 (fun b => .pointer (some ⟨b, 0, none⟩)) (.cells #[.int .i64 0, .int .i64 0, .int .i64 0, .int .i64 0, .int .i64 0, .int .i64 0, .int .i64 0, .bool false] 54) ?_
 intro zb400 zw401 zS402
 refine store_ zS402 0 (.agg #[.int .i64 3, .int .i64 ep, .int .i64 (-1), .int .i64 0, .int .i64 0, .int .i64 0, .int .i64 0, .bool false]) zb400 0 ?_
 intro zw403 zS404
 refine nil_ (then_n (seq_ (reg_ ?_)))
 refine loadN_ zS404 0 8 #[.int .i64 3, .int .i64 ep, .int .i64 (-1), .int .i64 0, .int .i64 0, .int .i64 0, .int .i64 0, .bool false] zb400 0 ?_
 refine move_ ?_
 refine pure_ (.int .i64 3) ?_
 refine pure_ (.int .i64 4) ?_
 refine call_ 21 #[.agg #[.int .i64 3, .int .i64 ep, .int .i64 (-1), .int .i64 0, .int .i64 0, .int .i64 0, .int .i64 0, .bool false], .pointer (some ⟨zb382, 0, none⟩), .int .i64 4] ?_
 have zS409 : St [] w (zq383 ++ ([⟨zb400, true, .cells #[.int .i64 3, .int .i64 ep, .int .i64 (-1), .int .i64 0, .int .i64 0, .int .i64 0, .int .i64 0, .bool false] 54 (0, 0)⟩, ⟨zb13, true, .cells (polP p ka kn kc) 48 (0, 0)⟩, ⟨zb4, true, .cells #[.int .u8 x0, .int .u8 x1] 49 (0, 0)⟩, ⟨zb1, true, .cells (polC q pa pn pc) 48 (0, 0)⟩] ++ (zq392 ++ ([] : List Blk)))) zw403 := zS404.re (R := ([] : List Blk)) [[⟨zb400, true, .cells #[.int .i64 3, .int .i64 ep, .int .i64 (-1), .int .i64 0, .int .i64 0, .int .i64 0, .int .i64 0, .bool false] 54 (0, 0)⟩], [⟨zb13, true, .cells (polP p ka kn kc) 48 (0, 0)⟩], [⟨zb4, true, .cells #[.int .u8 x0, .int .u8 x1] 49 (0, 0)⟩], [⟨zb1, true, .cells (polC q pa pn pc) 48 (0, 0)⟩], zq392, zq383] [5, 0, 1, 2, 3, 4]
 refine (release_ zb382 3 (waitsL p (bits .andNot .u8 x1 8)) zq383 (⟨3, ep, (-1), (⟨0, 0⟩ : Sd.Timer), (⟨0, 0⟩ : Sd.Timer), false⟩ : Sd.Tok) 4 zh384 (by dsimp only; omega) _ zS409).mono ?_; rintro _ zw410 ⟨zq405, rfl, zh406, zS411⟩
 have zS413 : St [] w ([⟨zb400, true, .cells #[.int .i64 3, .int .i64 ep, .int .i64 (-1), .int .i64 0, .int .i64 0, .int .i64 0, .int .i64 0, .bool false] 54 (0, 0)⟩, ⟨zb13, true, .cells (polP p ka kn kc) 48 (0, 0)⟩, ⟨zb4, true, .cells #[.int .u8 x0, .int .u8 x1] 49 (0, 0)⟩, ⟨zb1, true, .cells (polC q pa pn pc) 48 (0, 0)⟩] ++ (zq405 ++ (zq392 ++ ([] : List Blk)))) zw410 := zS411.re (R := ([] : List Blk)) [zq405, [⟨zb400, true, .cells #[.int .i64 3, .int .i64 ep, .int .i64 (-1), .int .i64 0, .int .i64 0, .int .i64 0, .int .i64 0, .bool false] 54 (0, 0)⟩], [⟨zb13, true, .cells (polP p ka kn kc) 48 (0, 0)⟩], [⟨zb4, true, .cells #[.int .u8 x0, .int .u8 x1] 49 (0, 0)⟩], [⟨zb1, true, .cells (polC q pa pn pc) 48 (0, 0)⟩], zq392] [1, 2, 3, 4, 0, 5]
 refine move_ ?_
 refine pure_ (.agg #[.int .i64 3, .int .i64 ep, .int .i64 (-1), .int .i64 0, .int .i64 0, .int .i64 0, .int .i64 0, .bool false]) ?_
 refine pure_ (.int .i64 20) ?_
 refine new_ zS413 (fun b => .pointer (some ⟨b, 0, none⟩)) (.cells #[.int .i64 0, .int .i64 0, .int .i64 0, .int .i64 0, .int .i64 0, .int .i64 0, .int .i64 0, .bool false] 54) ?_
 intro zb414 zw415 zS416
 refine store_ zS416 0 (.agg #[.int .i64 3, .int .i64 ep, .int .i64 (-1), .int .i64 0, .int .i64 0, .int .i64 0, .int .i64 0, .bool false]) zb414 0 ?_
 intro zw417 zS418
 refine pure_ (.int .i64 20) ?_
 refine nil_ (then_n (seq_ (reg_ ?_)))
 refine loadN_ zS418 1 8 #[.int .i64 3, .int .i64 ep, .int .i64 (-1), .int .i64 0, .int .i64 0, .int .i64 0, .int .i64 0, .bool false] zb400 0 ?_
 refine move_ ?_
 refine pure_ (.int .i64 3) ?_
 refine call_ 21 #[.agg #[.int .i64 3, .int .i64 ep, .int .i64 (-1), .int .i64 0, .int .i64 0, .int .i64 0, .int .i64 0, .bool false], .pointer (some ⟨zb382, 0, none⟩), .int .i64 3] ?_
 have zS423 : St [] w (zq405 ++ ([⟨zb414, true, .cells #[.int .i64 3, .int .i64 ep, .int .i64 (-1), .int .i64 0, .int .i64 0, .int .i64 0, .int .i64 0, .bool false] 54 (0, 0)⟩, ⟨zb400, true, .cells #[.int .i64 3, .int .i64 ep, .int .i64 (-1), .int .i64 0, .int .i64 0, .int .i64 0, .int .i64 0, .bool false] 54 (0, 0)⟩, ⟨zb13, true, .cells (polP p ka kn kc) 48 (0, 0)⟩, ⟨zb4, true, .cells #[.int .u8 x0, .int .u8 x1] 49 (0, 0)⟩, ⟨zb1, true, .cells (polC q pa pn pc) 48 (0, 0)⟩] ++ (zq392 ++ ([] : List Blk)))) zw417 := zS418.re (R := ([] : List Blk)) [[⟨zb414, true, .cells #[.int .i64 3, .int .i64 ep, .int .i64 (-1), .int .i64 0, .int .i64 0, .int .i64 0, .int .i64 0, .bool false] 54 (0, 0)⟩], [⟨zb400, true, .cells #[.int .i64 3, .int .i64 ep, .int .i64 (-1), .int .i64 0, .int .i64 0, .int .i64 0, .int .i64 0, .bool false] 54 (0, 0)⟩], [⟨zb13, true, .cells (polP p ka kn kc) 48 (0, 0)⟩], [⟨zb4, true, .cells #[.int .u8 x0, .int .u8 x1] 49 (0, 0)⟩], [⟨zb1, true, .cells (polC q pa pn pc) 48 (0, 0)⟩], zq405, zq392] [5, 0, 1, 2, 3, 4, 6]
 refine (release_ zb382 3 (waitsL p (bits .andNot .u8 x1 8)) zq405 (⟨3, ep, (-1), (⟨0, 0⟩ : Sd.Timer), (⟨0, 0⟩ : Sd.Timer), false⟩ : Sd.Tok) 3 zh406 (by dsimp only; omega) _ zS423).mono ?_; rintro _ zw424 ⟨zq419, rfl, zh420, zS425⟩
 generalize ze427 : Sd.releaseTok (⟨3, ep, (-1), (⟨0, 0⟩ : Sd.Timer), (⟨0, 0⟩ : Sd.Timer), false⟩ : Sd.Tok) (waitsL p (bits .andNot .u8 x1 8)) 3 = zr421 at zh420 ⊢
 have zh422 : RK p zr421.2.2 := (by rw [← ze427]; exact RK.release (RK.waits _ _))
 have zS428 : St [] w ([⟨zb414, true, .cells #[.int .i64 3, .int .i64 ep, .int .i64 (-1), .int .i64 0, .int .i64 0, .int .i64 0, .int .i64 0, .bool false] 54 (0, 0)⟩, ⟨zb400, true, .cells #[.int .i64 3, .int .i64 ep, .int .i64 (-1), .int .i64 0, .int .i64 0, .int .i64 0, .int .i64 0, .bool false] 54 (0, 0)⟩, ⟨zb13, true, .cells (polP p ka kn kc) 48 (0, 0)⟩, ⟨zb4, true, .cells #[.int .u8 x0, .int .u8 x1] 49 (0, 0)⟩, ⟨zb1, true, .cells (polC q pa pn pc) 48 (0, 0)⟩] ++ (zq419 ++ (zq392 ++ ([] : List Blk)))) zw424 := zS425.re (R := ([] : List Blk)) [zq419, [⟨zb414, true, .cells #[.int .i64 3, .int .i64 ep, .int .i64 (-1), .int .i64 0, .int .i64 0, .int .i64 0, .int .i64 0, .bool false] 54 (0, 0)⟩], [⟨zb400, true, .cells #[.int .i64 3, .int .i64 ep, .int .i64 (-1), .int .i64 0, .int .i64 0, .int .i64 0, .int .i64 0, .bool false] 54 (0, 0)⟩], [⟨zb13, true, .cells (polP p ka kn kc) 48 (0, 0)⟩], [⟨zb4, true, .cells #[.int .u8 x0, .int .u8 x1] 49 (0, 0)⟩], [⟨zb1, true, .cells (polC q pa pn pc) 48 (0, 0)⟩], zq392] [1, 2, 3, 4, 5, 0, 6]
 refine move_ ?_
 refine pure_ (.agg (tokC zr421.1)) ?_
 refine pure_ (.int .i64 zr421.2.1) ?_
 refine new_ zS428 (fun b => .pointer (some ⟨b, 0, none⟩)) (.cells #[.int .i64 0, .int .i64 0, .int .i64 0, .int .i64 0, .int .i64 0, .int .i64 0, .int .i64 0, .bool false] 54) ?_
 intro zb429 zw430 zS431
 refine store_ zS431 0 (.agg (tokC zr421.1)) zb429 0 ?_
 intro zw432 zS433
 refine pure_ (.int .i64 zr421.2.1) ?_
 refine nil_ (then_n (seq_ (reg_ ?_)))
 refine loadN_ zS433 3 56 (polP p ka kn kc) zb13 0 ?_
 refine move_ ?_
 refine pure_ (.int .i64 3) ?_
 refine call_ 22 #[.agg (polP p ka kn kc), .int .u8 (bits .andNot .u8 x1 8), .int .i64 3] ?_
 refine (best_ p ka kn kc (bits .andNot .u8 x1 8) 3 _).mono ?_; rintro _ zw434 ⟨rfl, zhc435⟩
 have zS436 := zS433.quiet zhc435
 refine assign_ ?_
 refine nil_ (then_n (seq_ (seq_ (reg_ ?_))))
 refine pure_ (.int .i64 20) ?_
 refine pure_ (.bool false) ?_
 refine nil_ (then_n (cond_F ?_))
 refine wp_skip (then_n (seq_ (seq_ (reg_ ?_))))
 refine pure_ (.int .u16 ep) ?_
 refine pure_ (.bool (ep == 65535)) ?_
 refine nil_ (then_n ?_)
 refine cond_S (ep == 65535) ?_ ?_
 · intro zh437
   have zh438 := eqT' zh437
   obtain ⟨zh439, zh440, zh441, zh442, zh443, zh444, zh445, zh446, zh447, zh448⟩ := (rel_all hp (bits .andNot .u8 x1 8) 3 ep (by decide) (by omega) (fun e => absurd e (by decide)) (fun e => absurd e (by decide)) (fun _ => (andNot_bit x1 (by omega) (by omega)).2.2) ze427).1 (by omega)
   refine seq_ (reg_ ?_)
   refine loadN_ zS436 0 8 (tokC zr421.1) zb429 0 ?_
   refine loadN_ zS436 2 8 #[.int .i64 3, .int .i64 ep, .int .i64 (-1), .int .i64 0, .int .i64 0, .int .i64 0, .int .i64 0, .bool false] zb400 0 ?_
   refine eqAgg_ false ((zr421.1.holder == 3) && ((zr421.1.epoch == ep) && ((zr421.1.offer == (-1)) && (((zr421.1.oa.n == 0) && ((zr421.1.oa.most == 0) && true)) && (((zr421.1.la.n == 0) && ((zr421.1.la.most == 0) && true)) && ((zr421.1.bad == false) && true)))))) (tokC zr421.1) #[.int .i64 3, .int .i64 ep, .int .i64 (-1), .int .i64 0, .int .i64 0, .int .i64 0, .int .i64 0, .bool false] ?_
   refine move_ ?_
   refine slotK_ 73 ((zr421.1.holder == 3) && ((zr421.1.epoch == ep) && ((zr421.1.offer == (-1)) && (((zr421.1.oa.n == 0) && ((zr421.1.oa.most == 0) && true)) && (((zr421.1.la.n == 0) && ((zr421.1.la.most == 0) && true)) && ((zr421.1.bad == false) && true)))))) true (andT (eqT (by omega)) (andT (eqT (by omega)) (andT (eqT (by omega)) (andT (andT (eqT (by omega)) (andT (eqT (by omega)) (rfl))) (andT (andT (eqT (by omega)) (andT (eqT (by omega)) (rfl))) (andT ((congr (congrArg BEq.beq (zh446)) (rfl))) (rfl))))))) ?_
   refine pure_ (.int .i64 zr421.2.1) ?_
   refine pureE_ (.bool (zr421.2.1 == 24)) (.bool true) (congrArg Value.bool (eqT (by omega))) ?_
   refine pure_ (.bool true) ?_
   refine pure_ (.bool true) ?_
   refine move_ ?_
   refine call_ 12 #[.pointer (some ⟨zb382, 0, none⟩)] ?_
   have zS454 : St [] w (zq419 ++ ([⟨zb429, true, .cells (tokC zr421.1) 54 (0, 0)⟩, ⟨zb414, true, .cells #[.int .i64 3, .int .i64 ep, .int .i64 (-1), .int .i64 0, .int .i64 0, .int .i64 0, .int .i64 0, .bool false] 54 (0, 0)⟩, ⟨zb400, true, .cells #[.int .i64 3, .int .i64 ep, .int .i64 (-1), .int .i64 0, .int .i64 0, .int .i64 0, .int .i64 0, .bool false] 54 (0, 0)⟩, ⟨zb13, true, .cells (polP p ka kn kc) 48 (0, 0)⟩, ⟨zb4, true, .cells #[.int .u8 x0, .int .u8 x1] 49 (0, 0)⟩, ⟨zb1, true, .cells (polC q pa pn pc) 48 (0, 0)⟩] ++ (zq392 ++ ([] : List Blk)))) zw434 := zS436.re (R := ([] : List Blk)) [[⟨zb429, true, .cells (tokC zr421.1) 54 (0, 0)⟩], [⟨zb414, true, .cells #[.int .i64 3, .int .i64 ep, .int .i64 (-1), .int .i64 0, .int .i64 0, .int .i64 0, .int .i64 0, .bool false] 54 (0, 0)⟩], [⟨zb400, true, .cells #[.int .i64 3, .int .i64 ep, .int .i64 (-1), .int .i64 0, .int .i64 0, .int .i64 0, .int .i64 0, .bool false] 54 (0, 0)⟩], [⟨zb13, true, .cells (polP p ka kn kc) 48 (0, 0)⟩], [⟨zb4, true, .cells #[.int .u8 x0, .int .u8 x1] 49 (0, 0)⟩], [⟨zb1, true, .cells (polC q pa pn pc) 48 (0, 0)⟩], zq419, zq392] [6, 0, 1, 2, 3, 4, 5, 7]
   refine (q_list zh420 zS454).mono ?_; rintro _ zw455 ⟨zx449, zc450, zq451, rfl, zh452, zS456⟩
   have zh453 : zr421.2.2.length ≤ 3 := q_len zh420
   have zS458 : St [] w ([⟨zb429, true, .cells (tokC zr421.1) 54 (0, 0)⟩, ⟨zb414, true, .cells #[.int .i64 3, .int .i64 ep, .int .i64 (-1), .int .i64 0, .int .i64 0, .int .i64 0, .int .i64 0, .bool false] 54 (0, 0)⟩, ⟨zb400, true, .cells #[.int .i64 3, .int .i64 ep, .int .i64 (-1), .int .i64 0, .int .i64 0, .int .i64 0, .int .i64 0, .bool false] 54 (0, 0)⟩, ⟨zb13, true, .cells (polP p ka kn kc) 48 (0, 0)⟩, ⟨zb4, true, .cells #[.int .u8 x0, .int .u8 x1] 49 (0, 0)⟩, ⟨zb1, true, .cells (polC q pa pn pc) 48 (0, 0)⟩] ++ (zq451 ++ (zq419 ++ (zq392 ++ ([] : List Blk))))) zw455 := zS456.re (R := ([] : List Blk)) [zq451, zq419, [⟨zb429, true, .cells (tokC zr421.1) 54 (0, 0)⟩], [⟨zb414, true, .cells #[.int .i64 3, .int .i64 ep, .int .i64 (-1), .int .i64 0, .int .i64 0, .int .i64 0, .int .i64 0, .bool false] 54 (0, 0)⟩], [⟨zb400, true, .cells #[.int .i64 3, .int .i64 ep, .int .i64 (-1), .int .i64 0, .int .i64 0, .int .i64 0, .int .i64 0, .bool false] 54 (0, 0)⟩], [⟨zb13, true, .cells (polP p ka kn kc) 48 (0, 0)⟩], [⟨zb4, true, .cells #[.int .u8 x0, .int .u8 x1] 49 (0, 0)⟩], [⟨zb1, true, .cells (polC q pa pn pc) 48 (0, 0)⟩], zq392] [2, 3, 4, 5, 6, 7, 0, 1, 8]
   refine pure_ (.int .i64 ((zr421.2.2.length : Nat) : Int)) ?_
   refine move_ ?_
   refine pureE_ (.bool (((zr421.2.2.length : Nat) : Int) == ((((waitsL p (bits .andNot .u8 x1 8)).length) : Nat) : Int))) (.bool true) (congrArg Value.bool (eqT (by omega))) ?_
   refine pure_ (.bool true) ?_
   refine pure_ (.bool true) ?_
   refine nil_ (then_n (wp_ret (then_r ?_)))
   refine ret_ rfl (res_ [.tmp 6] [.bool true] (.bool true) ⟨res_tmp, trivial⟩) ?_
   exact ⟨rfl, zS458.ch⟩
 intro zh459
 have zh460 := eqF' zh459
 refine wp_skip (then_n (seq_ (seq_ (reg_ ?_))))
 refine move_ ?_
 refine pure_ (.bool ((bestP p (bits .andNot .u8 x1 8) 3) == 0)) ?_
 refine nil_ (then_n ?_)
 refine cond_S ((bestP p (bits .andNot .u8 x1 8) 3) == 0) ?_ ?_
 · intro zh461
   have zh462 := eqT' zh461
   obtain ⟨zh463, zh464, zh465, zh466, zh467, zh468, zh469, zh470, zh471, zh472⟩ := (rel_all hp (bits .andNot .u8 x1 8) 3 ep (by decide) (by omega) (fun e => absurd e (by decide)) (fun e => absurd e (by decide)) (fun _ => (andNot_bit x1 (by omega) (by omega)).2.2) ze427).2.1 (by omega) (by omega)
   refine seq_ (reg_ ?_)
   refine loadN_ zS436 0 8 (tokC zr421.1) zb429 0 ?_
   refine loadN_ zS436 2 8 #[.int .i64 3, .int .i64 ep, .int .i64 (-1), .int .i64 0, .int .i64 0, .int .i64 0, .int .i64 0, .bool false] zb400 0 ?_
   refine eqAgg_ false ((zr421.1.holder == 3) && ((zr421.1.epoch == ep) && ((zr421.1.offer == (-1)) && (((zr421.1.oa.n == 0) && ((zr421.1.oa.most == 0) && true)) && (((zr421.1.la.n == 0) && ((zr421.1.la.most == 0) && true)) && ((zr421.1.bad == false) && true)))))) (tokC zr421.1) #[.int .i64 3, .int .i64 ep, .int .i64 (-1), .int .i64 0, .int .i64 0, .int .i64 0, .int .i64 0, .bool false] ?_
   refine move_ ?_
   refine slotK_ 89 ((zr421.1.holder == 3) && ((zr421.1.epoch == ep) && ((zr421.1.offer == (-1)) && (((zr421.1.oa.n == 0) && ((zr421.1.oa.most == 0) && true)) && (((zr421.1.la.n == 0) && ((zr421.1.la.most == 0) && true)) && ((zr421.1.bad == false) && true)))))) true (andT (eqT (by omega)) (andT (eqT (by omega)) (andT (eqT (by omega)) (andT (andT (eqT (by omega)) (andT (eqT (by omega)) (rfl))) (andT (andT (eqT (by omega)) (andT (eqT (by omega)) (rfl))) (andT ((congr (congrArg BEq.beq (zh470)) (rfl))) (rfl))))))) ?_
   refine pure_ (.int .i64 zr421.2.1) ?_
   refine pureE_ (.bool (zr421.2.1 == 2)) (.bool true) (congrArg Value.bool (eqT (by omega))) ?_
   refine pure_ (.bool true) ?_
   refine pure_ (.bool true) ?_
   refine nil_ (then_n (wp_ret (then_r ?_)))
   refine ret_ rfl (res_ [.tmp 6] [.bool true] (.bool true) ⟨res_tmp, trivial⟩) ?_
   exact ⟨rfl, zS436.ch⟩
 intro zh473
 have zh474 := eqF' zh473
 obtain ⟨zh475, zh476, zh477, zh478, zh479, zh480, zh481, zh482, zh483, zh484⟩ := (rel_all hp (bits .andNot .u8 x1 8) 3 ep (by decide) (by omega) (fun e => absurd e (by decide)) (fun e => absurd e (by decide)) (fun _ => (andNot_bit x1 (by omega) (by omega)).2.2) ze427).2.2 (by omega) (by omega)
 refine wp_skip (then_n (seq_ (reg_ ?_)))
 refine loadN_ zS436 0 8 (tokC zr421.1) zb429 0 ?_
 refine move_ ?_
 refine pure_ (.int .u16 ep) ?_
 refine sum_ .i64 ep (IntWalk.i64_in _ (by omega)) ?_
 refine sum_ .i64 (ep + 1) (IntWalk.i64_in _ (by omega)) ?_
 refine pure_ (.agg #[.int .i64 (bestP p (bits .andNot .u8 x1 8) 3), .int .i64 (ep + 1), .int .i64 (-1), .int .i64 0, .int .i64 0, .int .i64 0, .int .i64 0, .bool false]) ?_
 refine eqAgg_ false ((zr421.1.holder == (bestP p (bits .andNot .u8 x1 8) 3)) && ((zr421.1.epoch == (ep + 1)) && ((zr421.1.offer == (-1)) && (((zr421.1.oa.n == 0) && ((zr421.1.oa.most == 0) && true)) && (((zr421.1.la.n == 0) && ((zr421.1.la.most == 0) && true)) && ((zr421.1.bad == false) && true)))))) (tokC zr421.1) #[.int .i64 (bestP p (bits .andNot .u8 x1 8) 3), .int .i64 (ep + 1), .int .i64 (-1), .int .i64 0, .int .i64 0, .int .i64 0, .int .i64 0, .bool false] ?_
 refine move_ ?_
 refine slotK_ 100 ((zr421.1.holder == (bestP p (bits .andNot .u8 x1 8) 3)) && ((zr421.1.epoch == (ep + 1)) && ((zr421.1.offer == (-1)) && (((zr421.1.oa.n == 0) && ((zr421.1.oa.most == 0) && true)) && (((zr421.1.la.n == 0) && ((zr421.1.la.most == 0) && true)) && ((zr421.1.bad == false) && true)))))) true (andT (eqT (by omega)) (andT (eqT (by omega)) (andT (eqT (by omega)) (andT (andT (eqT (by omega)) (andT (eqT (by omega)) (rfl))) (andT (andT (eqT (by omega)) (andT (eqT (by omega)) (rfl))) (andT ((congr (congrArg BEq.beq (zh482)) (rfl))) (rfl))))))) ?_
 refine pure_ (.int .i64 zr421.2.1) ?_
 refine pureE_ (.bool (zr421.2.1 == 0)) (.bool true) (congrArg Value.bool (eqT (by omega))) ?_
 refine pure_ (.bool true) ?_
 refine pure_ (.bool true) ?_
 refine move_ ?_
 refine call_ 12 #[.pointer (some ⟨zb382, 0, none⟩)] ?_
 have zS490 : St [] w (zq419 ++ ([⟨zb429, true, .cells (tokC zr421.1) 54 (0, 0)⟩, ⟨zb414, true, .cells #[.int .i64 3, .int .i64 ep, .int .i64 (-1), .int .i64 0, .int .i64 0, .int .i64 0, .int .i64 0, .bool false] 54 (0, 0)⟩, ⟨zb400, true, .cells #[.int .i64 3, .int .i64 ep, .int .i64 (-1), .int .i64 0, .int .i64 0, .int .i64 0, .int .i64 0, .bool false] 54 (0, 0)⟩, ⟨zb13, true, .cells (polP p ka kn kc) 48 (0, 0)⟩, ⟨zb4, true, .cells #[.int .u8 x0, .int .u8 x1] 49 (0, 0)⟩, ⟨zb1, true, .cells (polC q pa pn pc) 48 (0, 0)⟩] ++ (zq392 ++ ([] : List Blk)))) zw434 := zS436.re (R := ([] : List Blk)) [[⟨zb429, true, .cells (tokC zr421.1) 54 (0, 0)⟩], [⟨zb414, true, .cells #[.int .i64 3, .int .i64 ep, .int .i64 (-1), .int .i64 0, .int .i64 0, .int .i64 0, .int .i64 0, .bool false] 54 (0, 0)⟩], [⟨zb400, true, .cells #[.int .i64 3, .int .i64 ep, .int .i64 (-1), .int .i64 0, .int .i64 0, .int .i64 0, .int .i64 0, .bool false] 54 (0, 0)⟩], [⟨zb13, true, .cells (polP p ka kn kc) 48 (0, 0)⟩], [⟨zb4, true, .cells #[.int .u8 x0, .int .u8 x1] 49 (0, 0)⟩], [⟨zb1, true, .cells (polC q pa pn pc) 48 (0, 0)⟩], zq419, zq392] [6, 0, 1, 2, 3, 4, 5, 7]
 refine (q_list zh420 zS490).mono ?_; rintro _ zw491 ⟨zx485, zc486, zq487, rfl, zh488, zS492⟩
 have zh489 : zr421.2.2.length ≤ 3 := q_len zh420
 have zS494 : St [] w ([⟨zb429, true, .cells (tokC zr421.1) 54 (0, 0)⟩, ⟨zb414, true, .cells #[.int .i64 3, .int .i64 ep, .int .i64 (-1), .int .i64 0, .int .i64 0, .int .i64 0, .int .i64 0, .bool false] 54 (0, 0)⟩, ⟨zb400, true, .cells #[.int .i64 3, .int .i64 ep, .int .i64 (-1), .int .i64 0, .int .i64 0, .int .i64 0, .int .i64 0, .bool false] 54 (0, 0)⟩, ⟨zb13, true, .cells (polP p ka kn kc) 48 (0, 0)⟩, ⟨zb4, true, .cells #[.int .u8 x0, .int .u8 x1] 49 (0, 0)⟩, ⟨zb1, true, .cells (polC q pa pn pc) 48 (0, 0)⟩] ++ (zq487 ++ (zq419 ++ (zq392 ++ ([] : List Blk))))) zw491 := zS492.re (R := ([] : List Blk)) [zq487, zq419, [⟨zb429, true, .cells (tokC zr421.1) 54 (0, 0)⟩], [⟨zb414, true, .cells #[.int .i64 3, .int .i64 ep, .int .i64 (-1), .int .i64 0, .int .i64 0, .int .i64 0, .int .i64 0, .bool false] 54 (0, 0)⟩], [⟨zb400, true, .cells #[.int .i64 3, .int .i64 ep, .int .i64 (-1), .int .i64 0, .int .i64 0, .int .i64 0, .int .i64 0, .bool false] 54 (0, 0)⟩], [⟨zb13, true, .cells (polP p ka kn kc) 48 (0, 0)⟩], [⟨zb4, true, .cells #[.int .u8 x0, .int .u8 x1] 49 (0, 0)⟩], [⟨zb1, true, .cells (polC q pa pn pc) 48 (0, 0)⟩], zq392] [2, 3, 4, 5, 6, 7, 0, 1, 8]
 refine pure_ (.int .i64 ((zr421.2.2.length : Nat) : Int)) ?_
 refine move_ ?_
 refine sum_ .i64 (((((waitsL p (bits .andNot .u8 x1 8)).length) : Nat) : Int) - 1) (IntWalk.i64_in _ (by omega)) ?_
 refine pureE_ (.bool (((zr421.2.2.length : Nat) : Int) == (((((waitsL p (bits .andNot .u8 x1 8)).length) : Nat) : Int) - 1))) (.bool true) (congrArg Value.bool (eqT (by omega))) ?_
 refine pure_ (.bool true) ?_
 refine pure_ (.bool true) ?_
 refine nil_ (then_n (wp_ret ?_))
 refine ret_ rfl (res_ [.tmp 6] [.bool true] (.bool true) ⟨res_tmp, trivial⟩) ?_
 exact ⟨rfl, zS494.ch⟩

end Go.Proofs.Ytmfhgekknjghoaa
