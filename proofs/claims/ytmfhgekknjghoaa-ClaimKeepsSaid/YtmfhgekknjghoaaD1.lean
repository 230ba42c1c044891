/- The laws of package claim: shown. -/
import Derived.Test.YtmfhgekknjghoaaD0
namespace Go.Proofs.Ytmfhgekknjghoaa
open Go Go.RowKit Go.BigFrame Sx
set_option linter.unusedVariables false
set_option linter.unusedSimpArgs false

def polL : Sd.Pol := ⟨fun i => ([0, 1, 2, 3, 4, 0, 0, 0, 0, 0, 0, 0, 0, 0, 0, 0, 0, 0, 0, 0, 0, 0, 0, 0, 0, 0, 0, 0, 0, 0, 0, 0, 0, 0, 0, 0, 0, 0, 0, 0, 0, 0, 0, 0, 0, 9, 0, 0, 0, 0, 0, 0, 0, 0, 0, 0] : List Int).getD i 0, fun _ => []⟩

set_option maxRecDepth 100000 in
set_option maxHeartbeats 4000000 in
theorem shown20_  (w : World) :
    Gives Try.prog 18 #[] w fun v w1 => v = .bool true ∧ Ch [] w w1 := by
 have S0 := St.nil [] w
 refine enter_ Try.func18 rfl ?_
 refine seq_ (reg_ ?_)
 refine pure_ (.bool false) ?_
 refine nil_ (then_n (seq_ (reg_ ?_)))
 refine pure_ (.agg #[.int .i64 0, .int .i64 1, .int .i64 2, .int .i64 3, .int .i64 4]) ?_
 refine pure_ (.agg (polP polL (fun _ => none) (fun _ => 0) (fun _ => 0))) ?_
 refine new_ S0 (fun b => .pointer (some ⟨b, 0, none⟩)) (.cells #[.int .i64 0, .int .i64 0, .int .i64 0, .int .i64 0, .int .i64 0, .slice none 0 0, .slice none 0 0, .slice none 0 0, .slice none 0 0, .int .i64 0, .int .i64 0, .int .i64 0, .int .i64 0, .int .i64 0, .int .i64 0, .int .i64 0, .int .i64 0, .int .i64 0, .int .i64 0, .int .i64 0, .int .i64 0, .int .i64 0, .int .i64 0, .int .i64 0, .int .i64 0, .int .i64 0, .int .i64 0, .int .i64 0, .int .i64 0, .int .i64 0, .int .i64 0, .int .i64 0, .int .i64 0, .int .i64 0, .int .i64 0, .int .i64 0, .int .i64 0, .int .i64 0, .int .i64 0, .int .i64 0, .int .i64 0, .int .i64 0, .int .i64 0, .int .i64 0, .int .i64 0, .int .i64 0, .int .i64 0, .int .i64 0, .int .i64 0, .int .i64 0, .int .i64 0, .int .i64 0, .int .i64 0, .int .i64 0, .int .i64 0, .int .i64 0] 48) ?_
 intro zb1 zw2 zS3
 refine store_ zS3 0 (.agg (polP polL (fun _ => none) (fun _ => 0) (fun _ => 0))) zb1 0 ?_
 intro zw4 zS5
 refine nil_ (then_n (seq_ (reg_ ?_)))
 refine call_ 10 #[.int .i64 3] ?_
 have zS9 : St [] w ([⟨zb1, true, .cells (polP polL (fun _ => none) (fun _ => 0) (fun _ => 0)) 48 (0, 0)⟩] ++ ([] : List Blk)) zw4 := zS5.re (R := ([] : List Blk)) [[⟨zb1, true, .cells (polP polL (fun _ => none) (fun _ => 0) (fun _ => 0)) 48 (0, 0)⟩]] [0]
 refine (newq_ 3 (by omega) _ zS9).mono ?_; rintro _ zw10 ⟨zb6, zq7, rfl, zh8, zS11⟩
 have zS13 : St [] w ([⟨zb1, true, .cells (polP polL (fun _ => none) (fun _ => 0) (fun _ => 0)) 48 (0, 0)⟩] ++ (zq7 ++ ([] : List Blk))) zw10 := zS11.re (R := ([] : List Blk)) [zq7, [⟨zb1, true, .cells (polP polL (fun _ => none) (fun _ => 0) (fun _ => 0)) 48 (0, 0)⟩]] [1, 0]
 refine move_ ?_
 refine pure_ (.pointer (some ⟨zb6, 0, none⟩)) ?_
 refine pure_ (.int .i64 0) ?_
 refine assign_ ?_
 refine pure_ (.int .i64 0) ?_
 refine nil_ (then_n (seq_ (seq_ (reg_ ?_))))
 refine move_ ?_
 refine pure_ (.bool false) ?_
 refine pure_ (.bool false) ?_
 refine pure_ (.int .i64 0) ?_
 refine pure_ (.bool false) ?_
 refine pure_ (.bool false) ?_
 refine nil_ (then_n (cond_F ?_))
 refine wp_skip (then_n (seq_ (reg_ ?_)))
 refine pure_ (.agg #[.int .i64 1, .int .i64 5, .int .i64 (-1), .int .i64 0, .int .i64 0, .int .i64 0, .int .i64 0, .bool false]) ?_
 refine new_ zS13 (fun b => .pointer (some ⟨b, 0, none⟩)) (.cells #[.int .i64 0, .int .i64 0, .int .i64 0, .int .i64 0, .int .i64 0, .int .i64 0, .int .i64 0, .bool false] 54) ?_
 intro zb14 zw15 zS16
 refine store_ zS16 0 (.agg #[.int .i64 1, .int .i64 5, .int .i64 (-1), .int .i64 0, .int .i64 0, .int .i64 0, .int .i64 0, .bool false]) zb14 0 ?_
 intro zw17 zS18
 refine nil_ (then_n (seq_ (reg_ ?_)))
 refine loadN_ zS18 1 56 (polP polL (fun _ => none) (fun _ => 0) (fun _ => 0)) zb1 0 ?_
 refine loadN_ zS18 0 8 #[.int .i64 1, .int .i64 5, .int .i64 (-1), .int .i64 0, .int .i64 0, .int .i64 0, .int .i64 0, .bool false] zb14 0 ?_
 refine move_ ?_
 refine call_ 23 #[.agg (polP polL (fun _ => none) (fun _ => 0) (fun _ => 0)), .agg #[.int .i64 1, .int .i64 5, .int .i64 (-1), .int .i64 0, .int .i64 0, .int .i64 0, .int .i64 0, .bool false], .pointer (some ⟨zb6, 0, none⟩), .int .i64 2, .bool false] ?_
 have zS23 : St [] w (zq7 ++ ([⟨zb14, true, .cells #[.int .i64 1, .int .i64 5, .int .i64 (-1), .int .i64 0, .int .i64 0, .int .i64 0, .int .i64 0, .bool false] 54 (0, 0)⟩, ⟨zb1, true, .cells (polP polL (fun _ => none) (fun _ => 0) (fun _ => 0)) 48 (0, 0)⟩] ++ ([] : List Blk))) zw17 := zS18.re (R := ([] : List Blk)) [[⟨zb14, true, .cells #[.int .i64 1, .int .i64 5, .int .i64 (-1), .int .i64 0, .int .i64 0, .int .i64 0, .int .i64 0, .bool false] 54 (0, 0)⟩], [⟨zb1, true, .cells (polP polL (fun _ => none) (fun _ => 0) (fun _ => 0)) 48 (0, 0)⟩], zq7] [2, 0, 1]
 refine (ask_ zb6 3 ([]) zq7 polL (fun _ => none) (fun _ => 0) (fun _ => 0) (⟨1, 5, (-1), (⟨0, 0⟩ : Sd.Timer), (⟨0, 0⟩ : Sd.Timer), false⟩ : Sd.Tok) 2 false zh8 (by dsimp only; omega) (by omega) (fun e he => nomatch he) (by decide) _ zS23).mono ?_; rintro _ zw24 ⟨zq19, rfl, zh20, zS25⟩
 have zS27 : St [] w ([⟨zb14, true, .cells #[.int .i64 1, .int .i64 5, .int .i64 (-1), .int .i64 0, .int .i64 0, .int .i64 0, .int .i64 0, .bool false] 54 (0, 0)⟩, ⟨zb1, true, .cells (polP polL (fun _ => none) (fun _ => 0) (fun _ => 0)) 48 (0, 0)⟩] ++ (zq19 ++ ([] : List Blk))) zw24 := zS25.re (R := ([] : List Blk)) [zq19, [⟨zb14, true, .cells #[.int .i64 1, .int .i64 5, .int .i64 (-1), .int .i64 0, .int .i64 0, .int .i64 0, .int .i64 0, .bool false] 54 (0, 0)⟩], [⟨zb1, true, .cells (polP polL (fun _ => none) (fun _ => 0) (fun _ => 0)) 48 (0, 0)⟩]] [1, 2, 0]
 refine move_ ?_
 refine pure_ (.agg #[.int .i64 1, .int .i64 5, .int .i64 (-1), .int .i64 0, .int .i64 0, .int .i64 0, .int .i64 0, .bool false]) ?_
 refine pure_ (.int .i64 0) ?_
 refine pure_ (.int .i64 0) ?_
 refine new_ zS27 (fun b => .pointer (some ⟨b, 0, none⟩)) (.cells #[.int .i64 0, .int .i64 0, .int .i64 0, .int .i64 0, .int .i64 0, .int .i64 0, .int .i64 0, .bool false] 54) ?_
 intro zb28 zw29 zS30
 refine store_ zS30 0 (.agg #[.int .i64 1, .int .i64 5, .int .i64 (-1), .int .i64 0, .int .i64 0, .int .i64 0, .int .i64 0, .bool false]) zb28 0 ?_
 intro zw31 zS32
 refine pure_ (.int .i64 0) ?_
 refine pure_ (.int .i64 0) ?_
 refine nil_ (then_n (seq_ (reg_ ?_)))
 refine loadN_ zS32 0 8 #[.int .i64 1, .int .i64 5, .int .i64 (-1), .int .i64 0, .int .i64 0, .int .i64 0, .int .i64 0, .bool false] zb28 0 ?_
 refine move_ ?_
 refine call_ 21 #[.agg #[.int .i64 1, .int .i64 5, .int .i64 (-1), .int .i64 0, .int .i64 0, .int .i64 0, .int .i64 0, .bool false], .pointer (some ⟨zb6, 0, none⟩), .int .i64 1] ?_
 have zS37 : St [] w (zq19 ++ ([⟨zb28, true, .cells #[.int .i64 1, .int .i64 5, .int .i64 (-1), .int .i64 0, .int .i64 0, .int .i64 0, .int .i64 0, .bool false] 54 (0, 0)⟩, ⟨zb14, true, .cells #[.int .i64 1, .int .i64 5, .int .i64 (-1), .int .i64 0, .int .i64 0, .int .i64 0, .int .i64 0, .bool false] 54 (0, 0)⟩, ⟨zb1, true, .cells (polP polL (fun _ => none) (fun _ => 0) (fun _ => 0)) 48 (0, 0)⟩] ++ ([] : List Blk))) zw31 := zS32.re (R := ([] : List Blk)) [[⟨zb28, true, .cells #[.int .i64 1, .int .i64 5, .int .i64 (-1), .int .i64 0, .int .i64 0, .int .i64 0, .int .i64 0, .bool false] 54 (0, 0)⟩], [⟨zb14, true, .cells #[.int .i64 1, .int .i64 5, .int .i64 (-1), .int .i64 0, .int .i64 0, .int .i64 0, .int .i64 0, .bool false] 54 (0, 0)⟩], [⟨zb1, true, .cells (polP polL (fun _ => none) (fun _ => 0) (fun _ => 0)) 48 (0, 0)⟩], zq19] [3, 0, 1, 2]
 refine (release_ zb6 3 ([⟨2, 2, ⟨0, 9⟩⟩]) zq19 (⟨1, 5, (-1), (⟨0, 0⟩ : Sd.Timer), (⟨0, 0⟩ : Sd.Timer), false⟩ : Sd.Tok) 1 zh20 (by dsimp only; omega) _ zS37).mono ?_; rintro _ zw38 ⟨zq33, rfl, zh34, zS39⟩
 have zS41 : St [] w ([⟨zb28, true, .cells #[.int .i64 1, .int .i64 5, .int .i64 (-1), .int .i64 0, .int .i64 0, .int .i64 0, .int .i64 0, .bool false] 54 (0, 0)⟩, ⟨zb14, true, .cells #[.int .i64 1, .int .i64 5, .int .i64 (-1), .int .i64 0, .int .i64 0, .int .i64 0, .int .i64 0, .bool false] 54 (0, 0)⟩, ⟨zb1, true, .cells (polP polL (fun _ => none) (fun _ => 0) (fun _ => 0)) 48 (0, 0)⟩] ++ (zq33 ++ ([] : List Blk))) zw38 := zS39.re (R := ([] : List Blk)) [zq33, [⟨zb28, true, .cells #[.int .i64 1, .int .i64 5, .int .i64 (-1), .int .i64 0, .int .i64 0, .int .i64 0, .int .i64 0, .bool false] 54 (0, 0)⟩], [⟨zb14, true, .cells #[.int .i64 1, .int .i64 5, .int .i64 (-1), .int .i64 0, .int .i64 0, .int .i64 0, .int .i64 0, .bool false] 54 (0, 0)⟩], [⟨zb1, true, .cells (polP polL (fun _ => none) (fun _ => 0) (fun _ => 0)) 48 (0, 0)⟩]] [1, 2, 3, 0]
 refine move_ ?_
 refine pure_ (.agg #[.int .i64 2, .int .i64 6, .int .i64 (-1), .int .i64 0, .int .i64 0, .int .i64 0, .int .i64 0, .bool false]) ?_
 refine pure_ (.int .i64 0) ?_
 refine new_ zS41 (fun b => .pointer (some ⟨b, 0, none⟩)) (.cells #[.int .i64 0, .int .i64 0, .int .i64 0, .int .i64 0, .int .i64 0, .int .i64 0, .int .i64 0, .bool false] 54) ?_
 intro zb42 zw43 zS44
 refine store_ zS44 0 (.agg #[.int .i64 2, .int .i64 6, .int .i64 (-1), .int .i64 0, .int .i64 0, .int .i64 0, .int .i64 0, .bool false]) zb42 0 ?_
 intro zw45 zS46
 refine pure_ (.int .i64 0) ?_
 refine nil_ (then_n (seq_ (reg_ ?_)))
 refine loadN_ zS46 1 8 #[.int .i64 1, .int .i64 5, .int .i64 (-1), .int .i64 0, .int .i64 0, .int .i64 0, .int .i64 0, .bool false] zb28 0 ?_
 refine loadN_ zS46 2 8 #[.int .i64 1, .int .i64 5, .int .i64 (-1), .int .i64 0, .int .i64 0, .int .i64 0, .int .i64 0, .bool false] zb14 0 ?_
 refine eqAgg_ false true #[.int .i64 1, .int .i64 5, .int .i64 (-1), .int .i64 0, .int .i64 0, .int .i64 0, .int .i64 0, .bool false] #[.int .i64 1, .int .i64 5, .int .i64 (-1), .int .i64 0, .int .i64 0, .int .i64 0, .int .i64 0, .bool false] ?_
 refine pure_ (.bool true) ?_
 refine pure_ (.int .i64 0) ?_
 refine pure_ (.bool true) ?_
 refine pure_ (.bool true) ?_
 refine pure_ (.bool true) ?_
 refine pure_ (.int .i64 0) ?_
 refine pure_ (.bool true) ?_
 refine pure_ (.bool true) ?_
 refine pure_ (.bool true) ?_
 refine pure_ (.pointer (some ⟨zb42, 0, none⟩)) ?_
 refine load1_ zS46 0 (.int .i64 2) zb42 0 ?_
 refine pure_ (.bool true) ?_
 refine pure_ (.bool true) ?_
 refine pure_ (.bool true) ?_
 refine pure_ (.pointer (some ⟨zb42, 1, none⟩)) ?_
 refine load1_ zS46 0 (.int .i64 6) zb42 1 ?_
 refine pure_ (.bool true) ?_
 refine pure_ (.bool true) ?_
 refine pure_ (.bool true) ?_
 refine pure_ (.int .i64 0) ?_
 refine pure_ (.bool true) ?_
 refine pure_ (.bool true) ?_
 refine pure_ (.bool true) ?_
 refine move_ ?_
 refine call_ 12 #[.pointer (some ⟨zb6, 0, none⟩)] ?_
 have zS52 : St [] w (zq33 ++ ([⟨zb42, true, .cells #[.int .i64 2, .int .i64 6, .int .i64 (-1), .int .i64 0, .int .i64 0, .int .i64 0, .int .i64 0, .bool false] 54 (0, 0)⟩, ⟨zb28, true, .cells #[.int .i64 1, .int .i64 5, .int .i64 (-1), .int .i64 0, .int .i64 0, .int .i64 0, .int .i64 0, .bool false] 54 (0, 0)⟩, ⟨zb14, true, .cells #[.int .i64 1, .int .i64 5, .int .i64 (-1), .int .i64 0, .int .i64 0, .int .i64 0, .int .i64 0, .bool false] 54 (0, 0)⟩, ⟨zb1, true, .cells (polP polL (fun _ => none) (fun _ => 0) (fun _ => 0)) 48 (0, 0)⟩] ++ ([] : List Blk))) zw45 := zS46.re (R := ([] : List Blk)) [[⟨zb42, true, .cells #[.int .i64 2, .int .i64 6, .int .i64 (-1), .int .i64 0, .int .i64 0, .int .i64 0, .int .i64 0, .bool false] 54 (0, 0)⟩], [⟨zb28, true, .cells #[.int .i64 1, .int .i64 5, .int .i64 (-1), .int .i64 0, .int .i64 0, .int .i64 0, .int .i64 0, .bool false] 54 (0, 0)⟩], [⟨zb14, true, .cells #[.int .i64 1, .int .i64 5, .int .i64 (-1), .int .i64 0, .int .i64 0, .int .i64 0, .int .i64 0, .bool false] 54 (0, 0)⟩], [⟨zb1, true, .cells (polP polL (fun _ => none) (fun _ => 0) (fun _ => 0)) 48 (0, 0)⟩], zq33] [4, 0, 1, 2, 3]
 refine (q_list zh34 zS52).mono ?_; rintro _ zw53 ⟨zx47, zc48, zq49, rfl, zh50, zS54⟩
 have zh51 : ([]).length ≤ 3 := q_len zh34
 have zS56 : St [] w ([⟨zb42, true, .cells #[.int .i64 2, .int .i64 6, .int .i64 (-1), .int .i64 0, .int .i64 0, .int .i64 0, .int .i64 0, .bool false] 54 (0, 0)⟩, ⟨zb28, true, .cells #[.int .i64 1, .int .i64 5, .int .i64 (-1), .int .i64 0, .int .i64 0, .int .i64 0, .int .i64 0, .bool false] 54 (0, 0)⟩, ⟨zb14, true, .cells #[.int .i64 1, .int .i64 5, .int .i64 (-1), .int .i64 0, .int .i64 0, .int .i64 0, .int .i64 0, .bool false] 54 (0, 0)⟩, ⟨zb1, true, .cells (polP polL (fun _ => none) (fun _ => 0) (fun _ => 0)) 48 (0, 0)⟩] ++ (zq49 ++ (zq33 ++ ([] : List Blk)))) zw53 := zS54.re (R := ([] : List Blk)) [zq49, zq33, [⟨zb42, true, .cells #[.int .i64 2, .int .i64 6, .int .i64 (-1), .int .i64 0, .int .i64 0, .int .i64 0, .int .i64 0, .bool false] 54 (0, 0)⟩], [⟨zb28, true, .cells #[.int .i64 1, .int .i64 5, .int .i64 (-1), .int .i64 0, .int .i64 0, .int .i64 0, .int .i64 0, .bool false] 54 (0, 0)⟩], [⟨zb14, true, .cells #[.int .i64 1, .int .i64 5, .int .i64 (-1), .int .i64 0, .int .i64 0, .int .i64 0, .int .i64 0, .bool false] 54 (0, 0)⟩], [⟨zb1, true, .cells (polP polL (fun _ => none) (fun _ => 0) (fun _ => 0)) 48 (0, 0)⟩]] [2, 3, 4, 5, 0, 1]
 refine pure_ (.int .i64 0) ?_
 refine pure_ (.bool true) ?_
 refine pure_ (.bool true) ?_
 refine pure_ (.bool true) ?_
 refine nil_ (then_n (wp_ret ?_))
 refine ret_ rfl (res_ [.tmp 0] [.bool true] (.bool true) ⟨res_tmp, trivial⟩) ?_
 exact ⟨rfl, zS56.ch⟩

end Go.Proofs.Ytmfhgekknjghoaa
