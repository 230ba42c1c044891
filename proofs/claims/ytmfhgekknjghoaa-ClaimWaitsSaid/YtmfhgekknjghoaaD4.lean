/- ClaimWaits: the walk. -/
import Derived.Test.YtmfhgekknjghoaaD2
namespace Go.Proofs.Ytmfhgekknjghoaa
open Go Go.RowKit Go.BigFrame Sx
set_option linter.unusedVariables false
set_option linter.unusedSimpArgs false

set_option maxRecDepth 100000 in
set_option maxHeartbeats 4000000 in
theorem claimWaits_row (q : Nat → Int) (pa : Nat → Option Addr) (pn pc : Nat → Nat) (kb : Nat → Nat → Int) (b o n c : Nat) (kb8 : Nat → Int) (hx : ∀ k : Nat, 0 ≤ kb8 k ∧ kb8 k ≤ 255) (mo : Int) (hm : 0 ≤ mo ∧ mo ≤ 255) (w : World) (hq : ∀ i, -9223372036854775808 ≤ q i ∧ q i ≤ 9223372036854775807) (hK : ∀ i, i < 4 → KeyIn [] w (pa i) (pn i) (pc i) (kb i)) (hl : ∀ k, k < n → ∀ j v, (#[.int .u8 (kb8 k)] : Array Value)[j]? = some v → w.cell? ⟨b, o + k * 1 + j, none⟩ = some v) :
    Gives Try.prog 7 #[.agg (polC q pa pn pc), .slice (some ⟨b, o, none⟩) n c, .int .u8 mo] w fun v w1 => v = .bool true ∧ Ch [] w w1 := by
 have S0 := St.nil [] w
 refine enter_ Try.func7 rfl ?_
 refine seq_ (reg_ ?_)
 refine new_ S0 (fun b => .pointer (some ⟨b, 0, none⟩)) (.cells (polC q pa pn pc) 48) ?_
 intro zb1 zw2 zS3
 refine pure_ (.bool false) ?_
 refine nil_ (then_n (seq_ (reg_ ?_)))
 refine call_ 18 #[] ?_
 refine (shown20_ _).mono ?_; rintro _ zw4 ⟨rfl, zhc5⟩
 have zS6 := zS3.quiet zhc5
 refine pure_ (.bool true) ?_
 refine nil_ (then_n (seq_ (reg_ ?_)))
 refine loadN_ zS6 0 56 (polC q pa pn pc) zb1 0 ?_
 refine call_ 19 #[.agg (polC q pa pn pc)] ?_
 refine (fitP_ q pa pn pc kb w _ (zS6).ch hq hK).mono ?_; rintro _ zw7 ⟨p, ka, kn, kc, hp, rfl, zh8⟩
 have zS9 := zS6.quiet zh8
 refine new_ zS9 (fun b => .pointer (some ⟨b, 0, none⟩)) (.cells #[.int .i64 0, .int .i64 0, .int .i64 0, .int .i64 0, .int .i64 0, .slice none 0 0, .slice none 0 0, .slice none 0 0, .slice none 0 0, .int .i64 0, .int .i64 0, .int .i64 0, .int .i64 0, .int .i64 0, .int .i64 0, .int .i64 0, .int .i64 0, .int .i64 0, .int .i64 0, .int .i64 0, .int .i64 0, .int .i64 0, .int .i64 0, .int .i64 0, .int .i64 0, .int .i64 0, .int .i64 0, .int .i64 0, .int .i64 0, .int .i64 0, .int .i64 0, .int .i64 0, .int .i64 0, .int .i64 0, .int .i64 0, .int .i64 0, .int .i64 0, .int .i64 0, .int .i64 0, .int .i64 0, .int .i64 0, .int .i64 0, .int .i64 0, .int .i64 0, .int .i64 0, .int .i64 0, .int .i64 0, .int .i64 0, .int .i64 0, .int .i64 0, .int .i64 0, .int .i64 0, .int .i64 0, .int .i64 0, .int .i64 0, .int .i64 0] 48) ?_
 intro zb10 zw11 zS12
 refine store_ zS12 0 (.agg (polP p ka kn kc)) zb10 0 ?_
 intro zw13 zS14
 refine nil_ (then_n (seq_ (reg_ ?_)))
 refine pure_ (.int .u8 mo) ?_
 refine sum_ .i64 mo (IntWalk.i64_in _ (by omega)) ?_
 refine pureE_ (.int .i64 (Int.tmod mo 3)) (.int .i64 (mo % 3)) (congrArg _ (IntWalk.rem_in _ _ (by omega))) ?_
 refine sum_ .i64 (1 + (mo % 3)) (IntWalk.i64_in _ (by omega)) ?_
 refine pure_ (.int .i64 (1 + (mo % 3))) ?_
 refine nil_ (then_n (seq_ (reg_ ?_)))
 refine pure_ (.int .i64 (1 + (mo % 3))) ?_
 refine call_ 10 #[.int .i64 (1 + (mo % 3))] ?_
 have zS18 : St [] w ([⟨zb10, true, .cells (polP p ka kn kc) 48 (0, 0)⟩, ⟨zb1, true, .cells (polC q pa pn pc) 48 (0, 0)⟩] ++ ([] : List Blk)) zw13 := zS14.re (R := ([] : List Blk)) [[⟨zb10, true, .cells (polP p ka kn kc) 48 (0, 0)⟩], [⟨zb1, true, .cells (polC q pa pn pc) 48 (0, 0)⟩]] [0, 1]
 refine (newq_ (1 + (mo % 3)) (by omega) _ zS18).mono ?_; rintro _ zw19 ⟨zb15, zq16, rfl, zh17, zS20⟩
 have zS22 : St [] w ([⟨zb10, true, .cells (polP p ka kn kc) 48 (0, 0)⟩, ⟨zb1, true, .cells (polC q pa pn pc) 48 (0, 0)⟩] ++ (zq16 ++ ([] : List Blk))) zw19 := zS20.re (R := ([] : List Blk)) [zq16, [⟨zb10, true, .cells (polP p ka kn kc) 48 (0, 0)⟩], [⟨zb1, true, .cells (polC q pa pn pc) 48 (0, 0)⟩]] [1, 2, 0]
 refine move_ ?_
 refine pure_ (.pointer (some ⟨zb15, 0, none⟩)) ?_
 refine pure_ (.int .i64 0) ?_
 refine assign_ ?_
 refine pure_ (.int .i64 0) ?_
 refine nil_ (then_n (seq_ (seq_ (reg_ ?_))))
 refine pure_ (.bool true) ?_
 refine pure_ (.bool false) ?_
 refine pure_ (.bool false) ?_
 refine move_ ?_
 refine pure_ (.bool false) ?_
 refine pure_ (.bool false) ?_
 refine pure_ (.bool false) ?_
 refine pure_ (.int .i64 0) ?_
 refine pure_ (.bool false) ?_
 refine pure_ (.bool false) ?_
 refine nil_ (then_n (cond_F ?_))
 refine wp_skip (then_n (seq_ (reg_ ?_)))
 refine pure_ (.agg #[.int .i64 0, .int .i64 3, .int .i64 (-1), .int .i64 0, .int .i64 0, .int .i64 0, .int .i64 0, .bool false]) ?_
 refine new_ zS22 (fun b => .pointer (some ⟨b, 0, none⟩)) (.cells #[.int .i64 0, .int .i64 0, .int .i64 0, .int .i64 0, .int .i64 0, .int .i64 0, .int .i64 0, .bool false] 54) ?_
 intro zb23 zw24 zS25
 refine store_ zS25 0 (.agg #[.int .i64 0, .int .i64 3, .int .i64 (-1), .int .i64 0, .int .i64 0, .int .i64 0, .int .i64 0, .bool false]) zb23 0 ?_
 intro zw26 zS27
 refine nil_ (then_n (seq_ (reg_ ?_)))
 refine loadN_ zS27 0 8 #[.int .i64 0, .int .i64 3, .int .i64 (-1), .int .i64 0, .int .i64 0, .int .i64 0, .int .i64 0, .bool false] zb23 0 ?_
 refine new_ zS27 (fun b => .pointer (some ⟨b, 0, none⟩)) (.cells #[.int .i64 0, .int .i64 0, .int .i64 0, .int .i64 0, .int .i64 0, .int .i64 0, .int .i64 0, .bool false] 54) ?_
 intro zb28 zw29 zS30
 refine store_ zS30 0 (.agg #[.int .i64 0, .int .i64 3, .int .i64 (-1), .int .i64 0, .int .i64 0, .int .i64 0, .int .i64 0, .bool false]) zb28 0 ?_
 intro zw31 zS32
 refine nil_ (then_n (seq_ (reg_ ?_)))
 refine pure_ (.pointer (some ⟨zb28, 7, none⟩)) ?_
 refine store_ zS32 0 (.bool true) zb28 7 ?_
 intro zw33 zS34
 refine nil_ (then_n (seq_ (reg_ ?_)))
 refine loadN_ zS34 1 8 #[.int .i64 0, .int .i64 3, .int .i64 (-1), .int .i64 0, .int .i64 0, .int .i64 0, .int .i64 0, .bool false] zb23 0 ?_
 refine new_ zS34 (fun b => .pointer (some ⟨b, 0, none⟩)) (.cells #[.int .i64 0, .int .i64 0, .int .i64 0, .int .i64 0, .int .i64 0, .int .i64 0, .int .i64 0, .bool false] 54) ?_
 intro zb35 zw36 zS37
 refine store_ zS37 0 (.agg #[.int .i64 0, .int .i64 3, .int .i64 (-1), .int .i64 0, .int .i64 0, .int .i64 0, .int .i64 0, .bool false]) zb35 0 ?_
 intro zw38 zS39
 refine nil_ (then_n (seq_ (reg_ ?_)))
 refine pure_ (.pointer (some ⟨zb35, 1, none⟩)) ?_
 refine store_ zS39 0 (.int .i64 65535) zb35 1 ?_
 intro zw40 zS41
 refine nil_ (then_n (seq_ (reg_ ?_)))
 refine pure_ (.agg #[.bool false, .bool false, .bool false, .bool false]) ?_
 refine new_ zS41 (fun b => .pointer (some ⟨b, 0, none⟩)) (.cells #[.bool false, .bool false, .bool false, .bool false] 59) ?_
 intro zb42 zw43 zS44
 refine store_ zS44 0 (.agg #[.bool false, .bool false, .bool false, .bool false]) zb42 0 ?_
 intro zw45 zS46
 refine nil_ (then_n (seq_ (reg_ ?_)))
 refine pure_ (.int .i64 0) ?_
 refine nil_ (then_n (seq_ (seq_ (reg_ ?_))))
 refine pure_ (.int .i64 0) ?_
 refine nil_ (then_n (wp_block ?_))
 refine loopJ_ (fun zn za zw => ∃ (i : Int) (many : Int) (n1 : Bool) (n2 : Bool) (n3 : Bool) (L : List Sd.Ask) (ql : List Blk) (zj47 : Nat → Value), (zn = (30 - i).toNat ∧ 0 ≤ i ∧ i ≤ 30 ∧ many = ((L.length : Nat) : Int) ∧ many ≤ (1 + (mo % 3)) ∧ QS zb15 (1 + (mo % 3)) L ql ∧ RK p L ∧ Sd.Q.waits L 1 = n1 ∧ Sd.Q.waits L 2 = n2 ∧ Sd.Q.waits L 3 = n3) ∧ za = ⟨#[.agg (polC q pa pn pc), .slice (some ⟨b, o, none⟩) n c, .int .u8 mo, .pointer (some ⟨zb1, 0, none⟩), undef, undef, (zj47 6), .bool true, .pointer (some ⟨zb10, 0, none⟩), .int .i64 (1 + (mo % 3)), .pointer (some ⟨zb15, 0, none⟩), .int .i64 0, .pointer (some ⟨zb23, 0, none⟩), .pointer (some ⟨zb28, 0, none⟩), .pointer (some ⟨zb35, 0, none⟩), .pointer (some ⟨zb42, 0, none⟩), .int .i64 many, .int .i64 i, (zj47 18), (zj47 19), (zj47 20), (zj47 21), (zj47 22), (zj47 23), (zj47 24), (zj47 25), (zj47 26), (zj47 27), (zj47 28), (zj47 29), (zj47 30), (zj47 31), .bool true, .agg (polC q pa pn pc), .agg (polP p ka kn kc), .int .u8 mo, .int .i64 mo, .int .i64 (mo % 3), .int .i64 (1 + (mo % 3)), .tuple #[.pointer (some ⟨zb15, 0, none⟩), .int .i64 0], .int .i64 (1 + (mo % 3)), .tuple #[.pointer (some ⟨zb15, 0, none⟩), .int .i64 0], .pointer (some ⟨zb15, 0, none⟩), .int .i64 0, .bool true, .bool false, .bool false, .pointer (some ⟨zb15, 0, none⟩), .bool false, .bool false, .bool false, .int .i64 0, .bool false, .bool false, .agg #[.int .i64 0, .int .i64 3, .int .i64 (-1), .int .i64 0, .int .i64 0, .int .i64 0, .int .i64 0, .bool false], .agg #[.int .i64 0, .int .i64 3, .int .i64 (-1), .int .i64 0, .int .i64 0, .int .i64 0, .int .i64 0, .bool false], .pointer (some ⟨zb28, 7, none⟩), .agg #[.int .i64 0, .int .i64 3, .int .i64 (-1), .int .i64 0, .int .i64 0, .int .i64 0, .int .i64 0, .bool false], .pointer (some ⟨zb35, 1, none⟩), .agg #[.bool false, .bool false, .bool false, .bool false], (zj47 60), (zj47 61), (zj47 62), (zj47 63), (zj47 64), (zj47 65), (zj47 66), (zj47 67), (zj47 68), (zj47 69), (zj47 70), (zj47 71), (zj47 72), (zj47 73), (zj47 74), (zj47 75), (zj47 76), (zj47 77), (zj47 78), (zj47 79), (zj47 80), (zj47 81), (zj47 82), (zj47 83), (zj47 84), (zj47 85), (zj47 86), (zj47 87), (zj47 88), (zj47 89), (zj47 90), (zj47 91), (zj47 92), (zj47 93), (zj47 94), (zj47 95), (zj47 96), (zj47 97), (zj47 98), (zj47 99), (zj47 100), (zj47 101), (zj47 102), (zj47 103), (zj47 104), (zj47 105), (zj47 106), (zj47 107), (zj47 108), (zj47 109), (zj47 110), (zj47 111), (zj47 112), (zj47 113), (zj47 114), (zj47 115), (zj47 116), (zj47 117), (zj47 118), (zj47 119), (zj47 120), (zj47 121), (zj47 122), (zj47 123), (zj47 124), (zj47 125), (zj47 126), (zj47 127), (zj47 128), (zj47 129), (zj47 130), (zj47 131), (zj47 132), (zj47 133), (zj47 134), (zj47 135), (zj47 136), (zj47 137), (zj47 138), (zj47 139), (zj47 140), (zj47 141), (zj47 142), (zj47 143), (zj47 144), (zj47 145), (zj47 146), (zj47 147), undef, undef, undef, undef, undef], []⟩ ∧ St [] w ([⟨zb42, true, .cells #[.bool false, .bool n1, .bool n2, .bool n3] 59 (0, 0)⟩, ⟨zb35, true, .cells #[.int .i64 0, .int .i64 65535, .int .i64 (-1), .int .i64 0, .int .i64 0, .int .i64 0, .int .i64 0, .bool false] 54 (0, 0)⟩, ⟨zb28, true, .cells #[.int .i64 0, .int .i64 3, .int .i64 (-1), .int .i64 0, .int .i64 0, .int .i64 0, .int .i64 0, .bool true] 54 (0, 0)⟩, ⟨zb23, true, .cells #[.int .i64 0, .int .i64 3, .int .i64 (-1), .int .i64 0, .int .i64 0, .int .i64 0, .int .i64 0, .bool false] 54 (0, 0)⟩, ⟨zb10, true, .cells (polP p ka kn kc) 48 (0, 0)⟩, ⟨zb1, true, .cells (polC q pa pn pc) 48 (0, 0)⟩] ++ (ql ++ ([] : List Blk))) zw) _ (fun zy zye => ⟨(0 : Int), (0 : Int), false, false, false, [], zq16, (fun d => zy.tmps.getD d undef), ⟨rfl, by omega, by omega, rfl, by omega, zh17, (RK.nil _), rfl, rfl, rfl⟩, by subst zye; kernel_rfl, zS46.re (R := ([] : List Blk)) [[⟨zb42, true, .cells #[.bool false, .bool false, .bool false, .bool false] 59 (0, 0)⟩], [⟨zb35, true, .cells #[.int .i64 0, .int .i64 65535, .int .i64 (-1), .int .i64 0, .int .i64 0, .int .i64 0, .int .i64 0, .bool false] 54 (0, 0)⟩], [⟨zb28, true, .cells #[.int .i64 0, .int .i64 3, .int .i64 (-1), .int .i64 0, .int .i64 0, .int .i64 0, .int .i64 0, .bool true] 54 (0, 0)⟩], [⟨zb23, true, .cells #[.int .i64 0, .int .i64 3, .int .i64 (-1), .int .i64 0, .int .i64 0, .int .i64 0, .int .i64 0, .bool false] 54 (0, 0)⟩], [⟨zb10, true, .cells (polP p ka kn kc) 48 (0, 0)⟩], [⟨zb1, true, .cells (polC q pa pn pc) 48 (0, 0)⟩], zq16] [0, 1, 2, 3, 4, 5, 6]⟩) ?_
 rintro _ _ zw57 ⟨i, many, n1, n2, n3, L, ql, zj47, ⟨rfl, zf48, zf49, zf50, zf51, zf52, zf53, zf54, zf55, zf56⟩, rfl, zS58⟩
 have zh1 := zf54
 have zh2 := zf55
 have zh3 := zf56
 refine seq_ (seq_ (reg_ ?_))
 refine pure_ (.int .i64 i) ?_
 refine move_ ?_
 refine pure_ (.int .i64 ((n : Nat) : Int)) ?_
 refine pure_ (.bool (decide (i < ((n : Nat) : Int)))) ?_
 refine move_ ?_
 refine slot_ 64 (decide (i < ((n : Nat) : Int))) ?_ ?_
 · intro zh59
   have zh60 := ltT' zh59
   refine pure_ (.int .i64 i) ?_
   refine pure_ (.bool (decide (i < 30))) ?_
   refine pure_ (.bool (decide (i < 30))) ?_
   refine nil_ (then_n ?_)
   refine cond_S (decide (i < 30)) ?_ ?_
   · intro zh61
     have zh62 := ltT' zh61
     refine wp_skip (then_n (seq_ (wp_block (seq_ (reg_ ?_)))))
     refine move_ ?_
     refine pure_ (.int .i64 i) ?_
     refine idxS_ (e := 5) b o (i).toNat n 1 c .i64 i (by omega) (by omega) rfl ?_
     have zh63 := hx ((i).toNat)
     refine loadO1_ zS58 (.int .u8 (kb8 (i).toNat)) b (o + (i).toNat * 1) ((hl (i).toNat (by omega)) 0 _ rfl) (by simp) ?_
     refine sum_ .i64 (kb8 (i).toNat) (IntWalk.i64_in _ (by omega)) ?_
     refine pureE_ (.int .i64 (Int.tmod (kb8 (i).toNat) 3)) (.int .i64 ((kb8 (i).toNat) % 3)) (congrArg _ (IntWalk.rem_in _ _ (by omega))) ?_
     refine split_b (((kb8 (i).toNat) % 3) == 0) ?_ ?_
     · intro zh64
       have zh65 := eqT' zh64
       refine slotI_ 75 .i64 ((kb8 (i).toNat) % 3) 0 (by omega) ?_
       refine pure_ (.int .i64 1) ?_
       refine pure_ (.int .i64 1) ?_
       refine nil_ (then_n (seq_ (reg_ ?_)))
       refine loadN_ zS58 4 56 (polP p ka kn kc) zb10 0 ?_
       refine loadN_ zS58 2 8 #[.int .i64 0, .int .i64 3, .int .i64 (-1), .int .i64 0, .int .i64 0, .int .i64 0, .int .i64 0, .bool true] zb28 0 ?_
       refine move_ ?_
       refine pure_ (.int .i64 1) ?_
       refine call_ 23 #[.agg (polP p ka kn kc), .agg #[.int .i64 0, .int .i64 3, .int .i64 (-1), .int .i64 0, .int .i64 0, .int .i64 0, .int .i64 0, .bool true], .pointer (some ⟨zb15, 0, none⟩), .int .i64 1, .bool false] ?_
       have zS70 : St [] w (ql ++ ([⟨zb42, true, .cells #[.bool false, .bool n1, .bool n2, .bool n3] 59 (0, 0)⟩, ⟨zb35, true, .cells #[.int .i64 0, .int .i64 65535, .int .i64 (-1), .int .i64 0, .int .i64 0, .int .i64 0, .int .i64 0, .bool false] 54 (0, 0)⟩, ⟨zb28, true, .cells #[.int .i64 0, .int .i64 3, .int .i64 (-1), .int .i64 0, .int .i64 0, .int .i64 0, .int .i64 0, .bool true] 54 (0, 0)⟩, ⟨zb23, true, .cells #[.int .i64 0, .int .i64 3, .int .i64 (-1), .int .i64 0, .int .i64 0, .int .i64 0, .int .i64 0, .bool false] 54 (0, 0)⟩, ⟨zb10, true, .cells (polP p ka kn kc) 48 (0, 0)⟩, ⟨zb1, true, .cells (polC q pa pn pc) 48 (0, 0)⟩] ++ ([] : List Blk))) zw57 := zS58.re (R := ([] : List Blk)) [[⟨zb42, true, .cells #[.bool false, .bool n1, .bool n2, .bool n3] 59 (0, 0)⟩], [⟨zb35, true, .cells #[.int .i64 0, .int .i64 65535, .int .i64 (-1), .int .i64 0, .int .i64 0, .int .i64 0, .int .i64 0, .bool false] 54 (0, 0)⟩], [⟨zb28, true, .cells #[.int .i64 0, .int .i64 3, .int .i64 (-1), .int .i64 0, .int .i64 0, .int .i64 0, .int .i64 0, .bool true] 54 (0, 0)⟩], [⟨zb23, true, .cells #[.int .i64 0, .int .i64 3, .int .i64 (-1), .int .i64 0, .int .i64 0, .int .i64 0, .int .i64 0, .bool false] 54 (0, 0)⟩], [⟨zb10, true, .cells (polP p ka kn kc) 48 (0, 0)⟩], [⟨zb1, true, .cells (polC q pa pn pc) 48 (0, 0)⟩], ql] [6, 0, 1, 2, 3, 4, 5]
       refine (ask_ zb15 (1 + (mo % 3)) L ql p ka kn kc (⟨0, 3, (-1), (⟨0, 0⟩ : Sd.Timer), (⟨0, 0⟩ : Sd.Timer), true⟩ : Sd.Tok) 1 false zf52 (by dsimp only; omega) (by omega) (RK.hr zf53 hp 1) (by have := hp.ask; exact this) _ zS70).mono ?_; rintro _ zw71 ⟨zq66, rfl, zh67, zS72⟩
       have zS74 : St [] w ([⟨zb42, true, .cells #[.bool false, .bool n1, .bool n2, .bool n3] 59 (0, 0)⟩, ⟨zb35, true, .cells #[.int .i64 0, .int .i64 65535, .int .i64 (-1), .int .i64 0, .int .i64 0, .int .i64 0, .int .i64 0, .bool false] 54 (0, 0)⟩, ⟨zb28, true, .cells #[.int .i64 0, .int .i64 3, .int .i64 (-1), .int .i64 0, .int .i64 0, .int .i64 0, .int .i64 0, .bool true] 54 (0, 0)⟩, ⟨zb23, true, .cells #[.int .i64 0, .int .i64 3, .int .i64 (-1), .int .i64 0, .int .i64 0, .int .i64 0, .int .i64 0, .bool false] 54 (0, 0)⟩, ⟨zb10, true, .cells (polP p ka kn kc) 48 (0, 0)⟩, ⟨zb1, true, .cells (polC q pa pn pc) 48 (0, 0)⟩] ++ (zq66 ++ ([] : List Blk))) zw71 := zS72.re (R := ([] : List Blk)) [zq66, [⟨zb42, true, .cells #[.bool false, .bool n1, .bool n2, .bool n3] 59 (0, 0)⟩], [⟨zb35, true, .cells #[.int .i64 0, .int .i64 65535, .int .i64 (-1), .int .i64 0, .int .i64 0, .int .i64 0, .int .i64 0, .bool false] 54 (0, 0)⟩], [⟨zb28, true, .cells #[.int .i64 0, .int .i64 3, .int .i64 (-1), .int .i64 0, .int .i64 0, .int .i64 0, .int .i64 0, .bool true] 54 (0, 0)⟩], [⟨zb23, true, .cells #[.int .i64 0, .int .i64 3, .int .i64 (-1), .int .i64 0, .int .i64 0, .int .i64 0, .int .i64 0, .bool false] 54 (0, 0)⟩], [⟨zb10, true, .cells (polP p ka kn kc) 48 (0, 0)⟩], [⟨zb1, true, .cells (polC q pa pn pc) 48 (0, 0)⟩]] [1, 2, 3, 4, 5, 6, 0]
       refine move_ ?_
       refine pure_ (.agg #[.int .i64 0, .int .i64 3, .int .i64 (-1), .int .i64 0, .int .i64 0, .int .i64 0, .int .i64 0, .bool true]) ?_
       refine pure_ (.int .i64 0) ?_
       refine pure_ (.int .i64 29) ?_
       refine new_ zS74 (fun b => .pointer (some ⟨b, 0, none⟩)) (.cells #[.int .i64 0, .int .i64 0, .int .i64 0, .int .i64 0, .int .i64 0, .int .i64 0, .int .i64 0, .bool false] 54) ?_
       intro zb75 zw76 zS77
       refine store_ zS77 0 (.agg #[.int .i64 0, .int .i64 3, .int .i64 (-1), .int .i64 0, .int .i64 0, .int .i64 0, .int .i64 0, .bool true]) zb75 0 ?_
       intro zw78 zS79
       refine pure_ (.int .i64 0) ?_
       refine pure_ (.int .i64 29) ?_
       refine nil_ (then_n (seq_ (reg_ ?_)))
       refine loadN_ zS79 5 56 (polP p ka kn kc) zb10 0 ?_
       refine loadN_ zS79 2 8 #[.int .i64 0, .int .i64 65535, .int .i64 (-1), .int .i64 0, .int .i64 0, .int .i64 0, .int .i64 0, .bool false] zb35 0 ?_
       refine move_ ?_
       refine pure_ (.int .i64 1) ?_
       refine call_ 23 #[.agg (polP p ka kn kc), .agg #[.int .i64 0, .int .i64 65535, .int .i64 (-1), .int .i64 0, .int .i64 0, .int .i64 0, .int .i64 0, .bool false], .pointer (some ⟨zb15, 0, none⟩), .int .i64 1, .bool false] ?_
       have zS84 : St [] w (zq66 ++ ([⟨zb75, true, .cells #[.int .i64 0, .int .i64 3, .int .i64 (-1), .int .i64 0, .int .i64 0, .int .i64 0, .int .i64 0, .bool true] 54 (0, 0)⟩, ⟨zb42, true, .cells #[.bool false, .bool n1, .bool n2, .bool n3] 59 (0, 0)⟩, ⟨zb35, true, .cells #[.int .i64 0, .int .i64 65535, .int .i64 (-1), .int .i64 0, .int .i64 0, .int .i64 0, .int .i64 0, .bool false] 54 (0, 0)⟩, ⟨zb28, true, .cells #[.int .i64 0, .int .i64 3, .int .i64 (-1), .int .i64 0, .int .i64 0, .int .i64 0, .int .i64 0, .bool true] 54 (0, 0)⟩, ⟨zb23, true, .cells #[.int .i64 0, .int .i64 3, .int .i64 (-1), .int .i64 0, .int .i64 0, .int .i64 0, .int .i64 0, .bool false] 54 (0, 0)⟩, ⟨zb10, true, .cells (polP p ka kn kc) 48 (0, 0)⟩, ⟨zb1, true, .cells (polC q pa pn pc) 48 (0, 0)⟩] ++ ([] : List Blk))) zw78 := zS79.re (R := ([] : List Blk)) [[⟨zb75, true, .cells #[.int .i64 0, .int .i64 3, .int .i64 (-1), .int .i64 0, .int .i64 0, .int .i64 0, .int .i64 0, .bool true] 54 (0, 0)⟩], [⟨zb42, true, .cells #[.bool false, .bool n1, .bool n2, .bool n3] 59 (0, 0)⟩], [⟨zb35, true, .cells #[.int .i64 0, .int .i64 65535, .int .i64 (-1), .int .i64 0, .int .i64 0, .int .i64 0, .int .i64 0, .bool false] 54 (0, 0)⟩], [⟨zb28, true, .cells #[.int .i64 0, .int .i64 3, .int .i64 (-1), .int .i64 0, .int .i64 0, .int .i64 0, .int .i64 0, .bool true] 54 (0, 0)⟩], [⟨zb23, true, .cells #[.int .i64 0, .int .i64 3, .int .i64 (-1), .int .i64 0, .int .i64 0, .int .i64 0, .int .i64 0, .bool false] 54 (0, 0)⟩], [⟨zb10, true, .cells (polP p ka kn kc) 48 (0, 0)⟩], [⟨zb1, true, .cells (polC q pa pn pc) 48 (0, 0)⟩], zq66] [7, 0, 1, 2, 3, 4, 5, 6]
       refine (ask_ zb15 (1 + (mo % 3)) L zq66 p ka kn kc (⟨0, 65535, (-1), (⟨0, 0⟩ : Sd.Timer), (⟨0, 0⟩ : Sd.Timer), false⟩ : Sd.Tok) 1 false zh67 (by dsimp only; omega) (by omega) (RK.hr zf53 hp 1) (by have := hp.ask; exact this) _ zS84).mono ?_; rintro _ zw85 ⟨zq80, rfl, zh81, zS86⟩
       have zS88 : St [] w ([⟨zb75, true, .cells #[.int .i64 0, .int .i64 3, .int .i64 (-1), .int .i64 0, .int .i64 0, .int .i64 0, .int .i64 0, .bool true] 54 (0, 0)⟩, ⟨zb42, true, .cells #[.bool false, .bool n1, .bool n2, .bool n3] 59 (0, 0)⟩, ⟨zb35, true, .cells #[.int .i64 0, .int .i64 65535, .int .i64 (-1), .int .i64 0, .int .i64 0, .int .i64 0, .int .i64 0, .bool false] 54 (0, 0)⟩, ⟨zb28, true, .cells #[.int .i64 0, .int .i64 3, .int .i64 (-1), .int .i64 0, .int .i64 0, .int .i64 0, .int .i64 0, .bool true] 54 (0, 0)⟩, ⟨zb23, true, .cells #[.int .i64 0, .int .i64 3, .int .i64 (-1), .int .i64 0, .int .i64 0, .int .i64 0, .int .i64 0, .bool false] 54 (0, 0)⟩, ⟨zb10, true, .cells (polP p ka kn kc) 48 (0, 0)⟩, ⟨zb1, true, .cells (polC q pa pn pc) 48 (0, 0)⟩] ++ (zq80 ++ ([] : List Blk))) zw85 := zS86.re (R := ([] : List Blk)) [zq80, [⟨zb75, true, .cells #[.int .i64 0, .int .i64 3, .int .i64 (-1), .int .i64 0, .int .i64 0, .int .i64 0, .int .i64 0, .bool true] 54 (0, 0)⟩], [⟨zb42, true, .cells #[.bool false, .bool n1, .bool n2, .bool n3] 59 (0, 0)⟩], [⟨zb35, true, .cells #[.int .i64 0, .int .i64 65535, .int .i64 (-1), .int .i64 0, .int .i64 0, .int .i64 0, .int .i64 0, .bool false] 54 (0, 0)⟩], [⟨zb28, true, .cells #[.int .i64 0, .int .i64 3, .int .i64 (-1), .int .i64 0, .int .i64 0, .int .i64 0, .int .i64 0, .bool true] 54 (0, 0)⟩], [⟨zb23, true, .cells #[.int .i64 0, .int .i64 3, .int .i64 (-1), .int .i64 0, .int .i64 0, .int .i64 0, .int .i64 0, .bool false] 54 (0, 0)⟩], [⟨zb10, true, .cells (polP p ka kn kc) 48 (0, 0)⟩], [⟨zb1, true, .cells (polC q pa pn pc) 48 (0, 0)⟩]] [1, 2, 3, 4, 5, 6, 7, 0]
       refine move_ ?_
       refine pure_ (.agg #[.int .i64 0, .int .i64 65535, .int .i64 (-1), .int .i64 0, .int .i64 0, .int .i64 0, .int .i64 0, .bool false]) ?_
       refine pure_ (.int .i64 0) ?_
       refine pure_ (.int .i64 24) ?_
       refine new_ zS88 (fun b => .pointer (some ⟨b, 0, none⟩)) (.cells #[.int .i64 0, .int .i64 0, .int .i64 0, .int .i64 0, .int .i64 0, .int .i64 0, .int .i64 0, .bool false] 54) ?_
       intro zb89 zw90 zS91
       refine store_ zS91 0 (.agg #[.int .i64 0, .int .i64 65535, .int .i64 (-1), .int .i64 0, .int .i64 0, .int .i64 0, .int .i64 0, .bool false]) zb89 0 ?_
       intro zw92 zS93
       refine pure_ (.int .i64 0) ?_
       refine pure_ (.int .i64 24) ?_
       refine nil_ (then_n (seq_ (reg_ ?_)))
       refine loadN_ zS93 6 56 (polP p ka kn kc) zb10 0 ?_
       refine loadN_ zS93 5 8 #[.int .i64 0, .int .i64 3, .int .i64 (-1), .int .i64 0, .int .i64 0, .int .i64 0, .int .i64 0, .bool false] zb23 0 ?_
       refine move_ ?_
       refine call_ 23 #[.agg (polP p ka kn kc), .agg #[.int .i64 0, .int .i64 3, .int .i64 (-1), .int .i64 0, .int .i64 0, .int .i64 0, .int .i64 0, .bool false], .pointer (some ⟨zb15, 0, none⟩), .int .i64 0, .bool false] ?_
       have zS98 : St [] w (zq80 ++ ([⟨zb89, true, .cells #[.int .i64 0, .int .i64 65535, .int .i64 (-1), .int .i64 0, .int .i64 0, .int .i64 0, .int .i64 0, .bool false] 54 (0, 0)⟩, ⟨zb75, true, .cells #[.int .i64 0, .int .i64 3, .int .i64 (-1), .int .i64 0, .int .i64 0, .int .i64 0, .int .i64 0, .bool true] 54 (0, 0)⟩, ⟨zb42, true, .cells #[.bool false, .bool n1, .bool n2, .bool n3] 59 (0, 0)⟩, ⟨zb35, true, .cells #[.int .i64 0, .int .i64 65535, .int .i64 (-1), .int .i64 0, .int .i64 0, .int .i64 0, .int .i64 0, .bool false] 54 (0, 0)⟩, ⟨zb28, true, .cells #[.int .i64 0, .int .i64 3, .int .i64 (-1), .int .i64 0, .int .i64 0, .int .i64 0, .int .i64 0, .bool true] 54 (0, 0)⟩, ⟨zb23, true, .cells #[.int .i64 0, .int .i64 3, .int .i64 (-1), .int .i64 0, .int .i64 0, .int .i64 0, .int .i64 0, .bool false] 54 (0, 0)⟩, ⟨zb10, true, .cells (polP p ka kn kc) 48 (0, 0)⟩, ⟨zb1, true, .cells (polC q pa pn pc) 48 (0, 0)⟩] ++ ([] : List Blk))) zw92 := zS93.re (R := ([] : List Blk)) [[⟨zb89, true, .cells #[.int .i64 0, .int .i64 65535, .int .i64 (-1), .int .i64 0, .int .i64 0, .int .i64 0, .int .i64 0, .bool false] 54 (0, 0)⟩], [⟨zb75, true, .cells #[.int .i64 0, .int .i64 3, .int .i64 (-1), .int .i64 0, .int .i64 0, .int .i64 0, .int .i64 0, .bool true] 54 (0, 0)⟩], [⟨zb42, true, .cells #[.bool false, .bool n1, .bool n2, .bool n3] 59 (0, 0)⟩], [⟨zb35, true, .cells #[.int .i64 0, .int .i64 65535, .int .i64 (-1), .int .i64 0, .int .i64 0, .int .i64 0, .int .i64 0, .bool false] 54 (0, 0)⟩], [⟨zb28, true, .cells #[.int .i64 0, .int .i64 3, .int .i64 (-1), .int .i64 0, .int .i64 0, .int .i64 0, .int .i64 0, .bool true] 54 (0, 0)⟩], [⟨zb23, true, .cells #[.int .i64 0, .int .i64 3, .int .i64 (-1), .int .i64 0, .int .i64 0, .int .i64 0, .int .i64 0, .bool false] 54 (0, 0)⟩], [⟨zb10, true, .cells (polP p ka kn kc) 48 (0, 0)⟩], [⟨zb1, true, .cells (polC q pa pn pc) 48 (0, 0)⟩], zq80] [8, 0, 1, 2, 3, 4, 5, 6, 7]
       refine (ask_ zb15 (1 + (mo % 3)) L zq80 p ka kn kc (⟨0, 3, (-1), (⟨0, 0⟩ : Sd.Timer), (⟨0, 0⟩ : Sd.Timer), false⟩ : Sd.Tok) 0 false zh81 (by dsimp only; omega) (by omega) (RK.hr zf53 hp 0) (by have := hp.ask; exact this) _ zS98).mono ?_; rintro _ zw99 ⟨zq94, rfl, zh95, zS100⟩
       have zS102 : St [] w ([⟨zb89, true, .cells #[.int .i64 0, .int .i64 65535, .int .i64 (-1), .int .i64 0, .int .i64 0, .int .i64 0, .int .i64 0, .bool false] 54 (0, 0)⟩, ⟨zb75, true, .cells #[.int .i64 0, .int .i64 3, .int .i64 (-1), .int .i64 0, .int .i64 0, .int .i64 0, .int .i64 0, .bool true] 54 (0, 0)⟩, ⟨zb42, true, .cells #[.bool false, .bool n1, .bool n2, .bool n3] 59 (0, 0)⟩, ⟨zb35, true, .cells #[.int .i64 0, .int .i64 65535, .int .i64 (-1), .int .i64 0, .int .i64 0, .int .i64 0, .int .i64 0, .bool false] 54 (0, 0)⟩, ⟨zb28, true, .cells #[.int .i64 0, .int .i64 3, .int .i64 (-1), .int .i64 0, .int .i64 0, .int .i64 0, .int .i64 0, .bool true] 54 (0, 0)⟩, ⟨zb23, true, .cells #[.int .i64 0, .int .i64 3, .int .i64 (-1), .int .i64 0, .int .i64 0, .int .i64 0, .int .i64 0, .bool false] 54 (0, 0)⟩, ⟨zb10, true, .cells (polP p ka kn kc) 48 (0, 0)⟩, ⟨zb1, true, .cells (polC q pa pn pc) 48 (0, 0)⟩] ++ (zq94 ++ ([] : List Blk))) zw99 := zS100.re (R := ([] : List Blk)) [zq94, [⟨zb89, true, .cells #[.int .i64 0, .int .i64 65535, .int .i64 (-1), .int .i64 0, .int .i64 0, .int .i64 0, .int .i64 0, .bool false] 54 (0, 0)⟩], [⟨zb75, true, .cells #[.int .i64 0, .int .i64 3, .int .i64 (-1), .int .i64 0, .int .i64 0, .int .i64 0, .int .i64 0, .bool true] 54 (0, 0)⟩], [⟨zb42, true, .cells #[.bool false, .bool n1, .bool n2, .bool n3] 59 (0, 0)⟩], [⟨zb35, true, .cells #[.int .i64 0, .int .i64 65535, .int .i64 (-1), .int .i64 0, .int .i64 0, .int .i64 0, .int .i64 0, .bool false] 54 (0, 0)⟩], [⟨zb28, true, .cells #[.int .i64 0, .int .i64 3, .int .i64 (-1), .int .i64 0, .int .i64 0, .int .i64 0, .int .i64 0, .bool true] 54 (0, 0)⟩], [⟨zb23, true, .cells #[.int .i64 0, .int .i64 3, .int .i64 (-1), .int .i64 0, .int .i64 0, .int .i64 0, .int .i64 0, .bool false] 54 (0, 0)⟩], [⟨zb10, true, .cells (polP p ka kn kc) 48 (0, 0)⟩], [⟨zb1, true, .cells (polC q pa pn pc) 48 (0, 0)⟩]] [1, 2, 3, 4, 5, 6, 7, 8, 0]
       refine move_ ?_
       refine pure_ (.agg #[.int .i64 0, .int .i64 3, .int .i64 (-1), .int .i64 0, .int .i64 0, .int .i64 0, .int .i64 0, .bool false]) ?_
       refine pure_ (.int .i64 0) ?_
       refine pure_ (.int .i64 25) ?_
       refine new_ zS102 (fun b => .pointer (some ⟨b, 0, none⟩)) (.cells #[.int .i64 0, .int .i64 0, .int .i64 0, .int .i64 0, .int .i64 0, .int .i64 0, .int .i64 0, .bool false] 54) ?_
       intro zb103 zw104 zS105
       refine store_ zS105 0 (.agg #[.int .i64 0, .int .i64 3, .int .i64 (-1), .int .i64 0, .int .i64 0, .int .i64 0, .int .i64 0, .bool false]) zb103 0 ?_
       intro zw106 zS107
       refine pure_ (.int .i64 0) ?_
       refine pure_ (.int .i64 25) ?_
       refine nil_ (then_n (seq_ (reg_ ?_)))
       refine loadN_ zS107 7 56 (polP p ka kn kc) zb10 0 ?_
       refine loadN_ zS107 6 8 #[.int .i64 0, .int .i64 3, .int .i64 (-1), .int .i64 0, .int .i64 0, .int .i64 0, .int .i64 0, .bool false] zb23 0 ?_
       refine move_ ?_
       refine pure_ (.int .i64 1) ?_
       refine call_ 23 #[.agg (polP p ka kn kc), .agg #[.int .i64 0, .int .i64 3, .int .i64 (-1), .int .i64 0, .int .i64 0, .int .i64 0, .int .i64 0, .bool false], .pointer (some ⟨zb15, 0, none⟩), .int .i64 1, .bool false] ?_
       have zS114 : St [] w (zq94 ++ ([⟨zb103, true, .cells #[.int .i64 0, .int .i64 3, .int .i64 (-1), .int .i64 0, .int .i64 0, .int .i64 0, .int .i64 0, .bool false] 54 (0, 0)⟩, ⟨zb89, true, .cells #[.int .i64 0, .int .i64 65535, .int .i64 (-1), .int .i64 0, .int .i64 0, .int .i64 0, .int .i64 0, .bool false] 54 (0, 0)⟩, ⟨zb75, true, .cells #[.int .i64 0, .int .i64 3, .int .i64 (-1), .int .i64 0, .int .i64 0, .int .i64 0, .int .i64 0, .bool true] 54 (0, 0)⟩, ⟨zb42, true, .cells #[.bool false, .bool n1, .bool n2, .bool n3] 59 (0, 0)⟩, ⟨zb35, true, .cells #[.int .i64 0, .int .i64 65535, .int .i64 (-1), .int .i64 0, .int .i64 0, .int .i64 0, .int .i64 0, .bool false] 54 (0, 0)⟩, ⟨zb28, true, .cells #[.int .i64 0, .int .i64 3, .int .i64 (-1), .int .i64 0, .int .i64 0, .int .i64 0, .int .i64 0, .bool true] 54 (0, 0)⟩, ⟨zb23, true, .cells #[.int .i64 0, .int .i64 3, .int .i64 (-1), .int .i64 0, .int .i64 0, .int .i64 0, .int .i64 0, .bool false] 54 (0, 0)⟩, ⟨zb10, true, .cells (polP p ka kn kc) 48 (0, 0)⟩, ⟨zb1, true, .cells (polC q pa pn pc) 48 (0, 0)⟩] ++ ([] : List Blk))) zw106 := zS107.re (R := ([] : List Blk)) [[⟨zb103, true, .cells #[.int .i64 0, .int .i64 3, .int .i64 (-1), .int .i64 0, .int .i64 0, .int .i64 0, .int .i64 0, .bool false] 54 (0, 0)⟩], [⟨zb89, true, .cells #[.int .i64 0, .int .i64 65535, .int .i64 (-1), .int .i64 0, .int .i64 0, .int .i64 0, .int .i64 0, .bool false] 54 (0, 0)⟩], [⟨zb75, true, .cells #[.int .i64 0, .int .i64 3, .int .i64 (-1), .int .i64 0, .int .i64 0, .int .i64 0, .int .i64 0, .bool true] 54 (0, 0)⟩], [⟨zb42, true, .cells #[.bool false, .bool n1, .bool n2, .bool n3] 59 (0, 0)⟩], [⟨zb35, true, .cells #[.int .i64 0, .int .i64 65535, .int .i64 (-1), .int .i64 0, .int .i64 0, .int .i64 0, .int .i64 0, .bool false] 54 (0, 0)⟩], [⟨zb28, true, .cells #[.int .i64 0, .int .i64 3, .int .i64 (-1), .int .i64 0, .int .i64 0, .int .i64 0, .int .i64 0, .bool true] 54 (0, 0)⟩], [⟨zb23, true, .cells #[.int .i64 0, .int .i64 3, .int .i64 (-1), .int .i64 0, .int .i64 0, .int .i64 0, .int .i64 0, .bool false] 54 (0, 0)⟩], [⟨zb10, true, .cells (polP p ka kn kc) 48 (0, 0)⟩], [⟨zb1, true, .cells (polC q pa pn pc) 48 (0, 0)⟩], zq94] [9, 0, 1, 2, 3, 4, 5, 6, 7, 8]
       refine ((show Gives Try.prog 23 #[.agg (polP p ka kn kc), .agg #[.int .i64 0, .int .i64 3, .int .i64 (-1), .int .i64 0, .int .i64 0, .int .i64 0, .int .i64 0, .bool false], .pointer (some ⟨zb15, 0, none⟩), .int .i64 1, .bool false] _ (fun v w1 => ∃ bl1, v = .tuple #[.agg #[.int .i64 0, .int .i64 3, .int .i64 (-1), .int .i64 0, .int .i64 0, .int .i64 0, .int .i64 0, .bool false], .int .i64 0, .int .i64 (Sd.Q.push (1 + (mo % 3)) L (⟨1, Sd.placeOf p 1, Sd.Timer.start (p.i 45)⟩ : Sd.Ask)).2] ∧ QS zb15 (1 + (mo % 3)) (Sd.Q.push (1 + (mo % 3)) L (⟨1, Sd.placeOf p 1, Sd.Timer.start (p.i 45)⟩ : Sd.Ask)).1 bl1 ∧ _) from ask_ zb15 (1 + (mo % 3)) L zq94 p ka kn kc (⟨0, 3, (-1), (⟨0, 0⟩ : Sd.Timer), (⟨0, 0⟩ : Sd.Timer), false⟩ : Sd.Tok) 1 false zh95 (by dsimp only; omega) (by omega) (RK.hr zf53 hp 1) (by have := hp.ask; exact this) _ zS114)).mono ?_; rintro _ zw115 ⟨zq108, rfl, zh109, zS116⟩
       generalize ze118 : Sd.Q.push (1 + (mo % 3)) L (⟨1, Sd.placeOf p 1, Sd.Timer.start (p.i 45)⟩ : Sd.Ask) = zr112 at zh109 ⊢
       have zh113 : RK p zr112.1 := by rw [← ze118]; exact RK.push zf53 _ _ rfl (by dsimp only; omega)
       have zS119 : St [] w ([⟨zb103, true, .cells #[.int .i64 0, .int .i64 3, .int .i64 (-1), .int .i64 0, .int .i64 0, .int .i64 0, .int .i64 0, .bool false] 54 (0, 0)⟩, ⟨zb89, true, .cells #[.int .i64 0, .int .i64 65535, .int .i64 (-1), .int .i64 0, .int .i64 0, .int .i64 0, .int .i64 0, .bool false] 54 (0, 0)⟩, ⟨zb75, true, .cells #[.int .i64 0, .int .i64 3, .int .i64 (-1), .int .i64 0, .int .i64 0, .int .i64 0, .int .i64 0, .bool true] 54 (0, 0)⟩, ⟨zb42, true, .cells #[.bool false, .bool n1, .bool n2, .bool n3] 59 (0, 0)⟩, ⟨zb35, true, .cells #[.int .i64 0, .int .i64 65535, .int .i64 (-1), .int .i64 0, .int .i64 0, .int .i64 0, .int .i64 0, .bool false] 54 (0, 0)⟩, ⟨zb28, true, .cells #[.int .i64 0, .int .i64 3, .int .i64 (-1), .int .i64 0, .int .i64 0, .int .i64 0, .int .i64 0, .bool true] 54 (0, 0)⟩, ⟨zb23, true, .cells #[.int .i64 0, .int .i64 3, .int .i64 (-1), .int .i64 0, .int .i64 0, .int .i64 0, .int .i64 0, .bool false] 54 (0, 0)⟩, ⟨zb10, true, .cells (polP p ka kn kc) 48 (0, 0)⟩, ⟨zb1, true, .cells (polC q pa pn pc) 48 (0, 0)⟩] ++ (zq108 ++ ([] : List Blk))) zw115 := zS116.re (R := ([] : List Blk)) [zq108, [⟨zb103, true, .cells #[.int .i64 0, .int .i64 3, .int .i64 (-1), .int .i64 0, .int .i64 0, .int .i64 0, .int .i64 0, .bool false] 54 (0, 0)⟩], [⟨zb89, true, .cells #[.int .i64 0, .int .i64 65535, .int .i64 (-1), .int .i64 0, .int .i64 0, .int .i64 0, .int .i64 0, .bool false] 54 (0, 0)⟩], [⟨zb75, true, .cells #[.int .i64 0, .int .i64 3, .int .i64 (-1), .int .i64 0, .int .i64 0, .int .i64 0, .int .i64 0, .bool true] 54 (0, 0)⟩], [⟨zb42, true, .cells #[.bool false, .bool n1, .bool n2, .bool n3] 59 (0, 0)⟩], [⟨zb35, true, .cells #[.int .i64 0, .int .i64 65535, .int .i64 (-1), .int .i64 0, .int .i64 0, .int .i64 0, .int .i64 0, .bool false] 54 (0, 0)⟩], [⟨zb28, true, .cells #[.int .i64 0, .int .i64 3, .int .i64 (-1), .int .i64 0, .int .i64 0, .int .i64 0, .int .i64 0, .bool true] 54 (0, 0)⟩], [⟨zb23, true, .cells #[.int .i64 0, .int .i64 3, .int .i64 (-1), .int .i64 0, .int .i64 0, .int .i64 0, .int .i64 0, .bool false] 54 (0, 0)⟩], [⟨zb10, true, .cells (polP p ka kn kc) 48 (0, 0)⟩], [⟨zb1, true, .cells (polC q pa pn pc) 48 (0, 0)⟩]] [1, 2, 3, 4, 5, 6, 7, 8, 9, 0]
       refine move_ ?_
       refine pure_ (.agg #[.int .i64 0, .int .i64 3, .int .i64 (-1), .int .i64 0, .int .i64 0, .int .i64 0, .int .i64 0, .bool false]) ?_
       refine pure_ (.int .i64 0) ?_
       refine pure_ (.int .i64 zr112.2) ?_
       refine new_ zS119 (fun b => .pointer (some ⟨b, 0, none⟩)) (.cells #[.int .i64 0, .int .i64 0, .int .i64 0, .int .i64 0, .int .i64 0, .int .i64 0, .int .i64 0, .bool false] 54) ?_
       intro zb120 zw121 zS122
       refine store_ zS122 0 (.agg #[.int .i64 0, .int .i64 3, .int .i64 (-1), .int .i64 0, .int .i64 0, .int .i64 0, .int .i64 0, .bool false]) zb120 0 ?_
       intro zw123 zS124
       refine pure_ (.int .i64 0) ?_
       refine pure_ (.int .i64 zr112.2) ?_
       refine nil_ (then_n (seq_ (reg_ ?_)))
       refine pure_ (.int .i64 0) ?_
       refine nil_ (then_n (seq_ (seq_ (reg_ ?_))))
       refine pure_ (.int .i64 1) ?_
       refine pure_ (.pointer (some ⟨zb42, 1, none⟩)) ?_
       refine load1_ zS124 4 (.bool n1) zb42 1 ?_
       refine nil_ (then_n ?_)
       refine cond_S n1 ?_ ?_
       · intro zh125
         obtain ⟨zh126, zh127⟩ := push_again ze118 (zh1.trans zh125)
         refine reg_ ?_
         refine pure_ (.int .i64 27) ?_
         refine nil_ (then_n (seq_ (seq_ (reg_ ?_))))
         refine pure_ (.int .i64 29) ?_
         refine pure_ (.bool false) ?_
         refine pure_ (.bool false) ?_
         refine pure_ (.int .i64 24) ?_
         refine pure_ (.bool false) ?_
         refine pure_ (.bool false) ?_
         refine pure_ (.bool false) ?_
         refine pure_ (.int .i64 25) ?_
         refine pure_ (.bool false) ?_
         refine pure_ (.bool false) ?_
         refine pure_ (.bool false) ?_
         refine loadN_ zS124 0 8 #[.int .i64 0, .int .i64 3, .int .i64 (-1), .int .i64 0, .int .i64 0, .int .i64 0, .int .i64 0, .bool false] zb120 0 ?_
         refine loadN_ zS124 7 8 #[.int .i64 0, .int .i64 3, .int .i64 (-1), .int .i64 0, .int .i64 0, .int .i64 0, .int .i64 0, .bool false] zb23 0 ?_
         refine eqAgg_ true true #[.int .i64 0, .int .i64 3, .int .i64 (-1), .int .i64 0, .int .i64 0, .int .i64 0, .int .i64 0, .bool false] #[.int .i64 0, .int .i64 3, .int .i64 (-1), .int .i64 0, .int .i64 0, .int .i64 0, .int .i64 0, .bool false] ?_
         refine pure_ (.bool false) ?_
         refine pure_ (.bool false) ?_
         refine pure_ (.int .i64 0) ?_
         refine pure_ (.bool false) ?_
         refine pure_ (.bool false) ?_
         refine pure_ (.bool false) ?_
         refine pure_ (.int .i64 zr112.2) ?_
         refine pure_ (.int .i64 27) ?_
         refine pureE_ (.bool (zr112.2 != 27)) (.bool false) (congrArg Value.bool (neF (by omega))) ?_
         refine pure_ (.bool false) ?_
         refine nil_ (then_n (cond_F ?_))
         refine wp_skip (then_n (seq_ (reg_ ?_)))
         refine pure_ (.int .i64 zr112.2) ?_
         refine pureE_ (.bool (zr112.2 == 0)) (.bool false) (congrArg Value.bool (eqF (by omega))) ?_
         refine nil_ (then_n (cond_F ?_))
         refine wp_skip (blk_n (then_n (reg_ ?_)))
         refine pure_ (.int .i64 i) ?_
         refine sum_ .i64 (i + 1) (IntWalk.i64_in _ (by omega)) ?_
         refine pure_ (.int .i64 (i + 1)) ?_
         refine nil_ ?_
         refine then_j fun zy zye => ?_
         exact ⟨_, by omega, (i + 1), many, n1, n2, n3, zr112.1, zq108, (fun d => zy.tmps.getD d undef), ⟨rfl, by omega, by omega, by have := congrArg List.length zh127; omega, by have := congrArg List.length zh127; omega, zh109, zh113, by rw [zh127]; exact zh1, by rw [zh127]; exact zh2, by rw [zh127]; exact zh3⟩, by subst zye; kernel_rfl, zS124.re (R := ([] : List Blk)) [[⟨zb120, true, .cells #[.int .i64 0, .int .i64 3, .int .i64 (-1), .int .i64 0, .int .i64 0, .int .i64 0, .int .i64 0, .bool false] 54 (0, 0)⟩], [⟨zb103, true, .cells #[.int .i64 0, .int .i64 3, .int .i64 (-1), .int .i64 0, .int .i64 0, .int .i64 0, .int .i64 0, .bool false] 54 (0, 0)⟩], [⟨zb89, true, .cells #[.int .i64 0, .int .i64 65535, .int .i64 (-1), .int .i64 0, .int .i64 0, .int .i64 0, .int .i64 0, .bool false] 54 (0, 0)⟩], [⟨zb75, true, .cells #[.int .i64 0, .int .i64 3, .int .i64 (-1), .int .i64 0, .int .i64 0, .int .i64 0, .int .i64 0, .bool true] 54 (0, 0)⟩], [⟨zb42, true, .cells #[.bool false, .bool n1, .bool n2, .bool n3] 59 (0, 0)⟩], [⟨zb35, true, .cells #[.int .i64 0, .int .i64 65535, .int .i64 (-1), .int .i64 0, .int .i64 0, .int .i64 0, .int .i64 0, .bool false] 54 (0, 0)⟩], [⟨zb28, true, .cells #[.int .i64 0, .int .i64 3, .int .i64 (-1), .int .i64 0, .int .i64 0, .int .i64 0, .int .i64 0, .bool true] 54 (0, 0)⟩], [⟨zb23, true, .cells #[.int .i64 0, .int .i64 3, .int .i64 (-1), .int .i64 0, .int .i64 0, .int .i64 0, .int .i64 0, .bool false] 54 (0, 0)⟩], [⟨zb10, true, .cells (polP p ka kn kc) 48 (0, 0)⟩], [⟨zb1, true, .cells (polC q pa pn pc) 48 (0, 0)⟩], zq108] [4, 5, 6, 7, 8, 9, 10]⟩
       intro zh128
       refine seq_ (reg_ ?_)
       refine pure_ (.int .i64 many) ?_
       refine pure_ (.int .i64 (1 + (mo % 3))) ?_
       refine pure_ (.bool (many == (1 + (mo % 3)))) ?_
       refine nil_ (then_n ?_)
       refine cond_S (many == (1 + (mo % 3))) ?_ ?_
       · intro zh129
         have zh130 := eqT' zh129
         obtain ⟨zh131, zh132⟩ := push_full ze118 (zh1.trans zh128) (by omega)
         refine reg_ ?_
         refine pure_ (.int .i64 3) ?_
         refine nil_ (then_n (seq_ (seq_ (reg_ ?_))))
         refine pure_ (.int .i64 29) ?_
         refine pure_ (.bool false) ?_
         refine pure_ (.bool false) ?_
         refine pure_ (.int .i64 24) ?_
         refine pure_ (.bool false) ?_
         refine pure_ (.bool false) ?_
         refine pure_ (.bool false) ?_
         refine pure_ (.int .i64 25) ?_
         refine pure_ (.bool false) ?_
         refine pure_ (.bool false) ?_
         refine pure_ (.bool false) ?_
         refine loadN_ zS124 0 8 #[.int .i64 0, .int .i64 3, .int .i64 (-1), .int .i64 0, .int .i64 0, .int .i64 0, .int .i64 0, .bool false] zb120 0 ?_
         refine loadN_ zS124 7 8 #[.int .i64 0, .int .i64 3, .int .i64 (-1), .int .i64 0, .int .i64 0, .int .i64 0, .int .i64 0, .bool false] zb23 0 ?_
         refine eqAgg_ true true #[.int .i64 0, .int .i64 3, .int .i64 (-1), .int .i64 0, .int .i64 0, .int .i64 0, .int .i64 0, .bool false] #[.int .i64 0, .int .i64 3, .int .i64 (-1), .int .i64 0, .int .i64 0, .int .i64 0, .int .i64 0, .bool false] ?_
         refine pure_ (.bool false) ?_
         refine pure_ (.bool false) ?_
         refine pure_ (.int .i64 0) ?_
         refine pure_ (.bool false) ?_
         refine pure_ (.bool false) ?_
         refine pure_ (.bool false) ?_
         refine pure_ (.int .i64 zr112.2) ?_
         refine pure_ (.int .i64 3) ?_
         refine pureE_ (.bool (zr112.2 != 3)) (.bool false) (congrArg Value.bool (neF (by omega))) ?_
         refine pure_ (.bool false) ?_
         refine nil_ (then_n (cond_F ?_))
         refine wp_skip (then_n (seq_ (reg_ ?_)))
         refine pure_ (.int .i64 zr112.2) ?_
         refine pureE_ (.bool (zr112.2 == 0)) (.bool false) (congrArg Value.bool (eqF (by omega))) ?_
         refine nil_ (then_n (cond_F ?_))
         refine wp_skip (blk_n (then_n (reg_ ?_)))
         refine pure_ (.int .i64 i) ?_
         refine sum_ .i64 (i + 1) (IntWalk.i64_in _ (by omega)) ?_
         refine pure_ (.int .i64 (i + 1)) ?_
         refine nil_ ?_
         refine then_j fun zy zye => ?_
         exact ⟨_, by omega, (i + 1), many, n1, n2, n3, zr112.1, zq108, (fun d => zy.tmps.getD d undef), ⟨rfl, by omega, by omega, by have := congrArg List.length zh132; omega, by have := congrArg List.length zh132; omega, zh109, zh113, by rw [zh132]; exact zh1, by rw [zh132]; exact zh2, by rw [zh132]; exact zh3⟩, by subst zye; kernel_rfl, zS124.re (R := ([] : List Blk)) [[⟨zb120, true, .cells #[.int .i64 0, .int .i64 3, .int .i64 (-1), .int .i64 0, .int .i64 0, .int .i64 0, .int .i64 0, .bool false] 54 (0, 0)⟩], [⟨zb103, true, .cells #[.int .i64 0, .int .i64 3, .int .i64 (-1), .int .i64 0, .int .i64 0, .int .i64 0, .int .i64 0, .bool false] 54 (0, 0)⟩], [⟨zb89, true, .cells #[.int .i64 0, .int .i64 65535, .int .i64 (-1), .int .i64 0, .int .i64 0, .int .i64 0, .int .i64 0, .bool false] 54 (0, 0)⟩], [⟨zb75, true, .cells #[.int .i64 0, .int .i64 3, .int .i64 (-1), .int .i64 0, .int .i64 0, .int .i64 0, .int .i64 0, .bool true] 54 (0, 0)⟩], [⟨zb42, true, .cells #[.bool false, .bool n1, .bool n2, .bool n3] 59 (0, 0)⟩], [⟨zb35, true, .cells #[.int .i64 0, .int .i64 65535, .int .i64 (-1), .int .i64 0, .int .i64 0, .int .i64 0, .int .i64 0, .bool false] 54 (0, 0)⟩], [⟨zb28, true, .cells #[.int .i64 0, .int .i64 3, .int .i64 (-1), .int .i64 0, .int .i64 0, .int .i64 0, .int .i64 0, .bool true] 54 (0, 0)⟩], [⟨zb23, true, .cells #[.int .i64 0, .int .i64 3, .int .i64 (-1), .int .i64 0, .int .i64 0, .int .i64 0, .int .i64 0, .bool false] 54 (0, 0)⟩], [⟨zb10, true, .cells (polP p ka kn kc) 48 (0, 0)⟩], [⟨zb1, true, .cells (polC q pa pn pc) 48 (0, 0)⟩], zq108] [4, 5, 6, 7, 8, 9, 10]⟩
       intro zh134
       have zh135 := eqF' zh134
       obtain ⟨zh136, zh138, zh137⟩ := push_ok ze118 (zh1.trans zh128) (by omega)
       refine wp_skip (then_n (seq_ (seq_ (reg_ ?_))))
       refine pure_ (.int .i64 29) ?_
       refine pure_ (.bool false) ?_
       refine pure_ (.bool false) ?_
       refine pure_ (.int .i64 24) ?_
       refine pure_ (.bool false) ?_
       refine pure_ (.bool false) ?_
       refine pure_ (.bool false) ?_
       refine pure_ (.int .i64 25) ?_
       refine pure_ (.bool false) ?_
       refine pure_ (.bool false) ?_
       refine pure_ (.bool false) ?_
       refine loadN_ zS124 0 8 #[.int .i64 0, .int .i64 3, .int .i64 (-1), .int .i64 0, .int .i64 0, .int .i64 0, .int .i64 0, .bool false] zb120 0 ?_
       refine loadN_ zS124 7 8 #[.int .i64 0, .int .i64 3, .int .i64 (-1), .int .i64 0, .int .i64 0, .int .i64 0, .int .i64 0, .bool false] zb23 0 ?_
       refine eqAgg_ true true #[.int .i64 0, .int .i64 3, .int .i64 (-1), .int .i64 0, .int .i64 0, .int .i64 0, .int .i64 0, .bool false] #[.int .i64 0, .int .i64 3, .int .i64 (-1), .int .i64 0, .int .i64 0, .int .i64 0, .int .i64 0, .bool false] ?_
       refine pure_ (.bool false) ?_
       refine pure_ (.bool false) ?_
       refine pure_ (.int .i64 0) ?_
       refine pure_ (.bool false) ?_
       refine pure_ (.bool false) ?_
       refine pure_ (.bool false) ?_
       refine pure_ (.int .i64 zr112.2) ?_
       refine pure_ (.int .i64 0) ?_
       refine pureE_ (.bool (zr112.2 != 0)) (.bool false) (congrArg Value.bool (neF (by omega))) ?_
       refine pure_ (.bool false) ?_
       refine nil_ (then_n (cond_F ?_))
       refine wp_skip (then_n (seq_ (reg_ ?_)))
       refine pure_ (.int .i64 zr112.2) ?_
       refine pureE_ (.bool (zr112.2 == 0)) (.bool true) (congrArg Value.bool (eqT (by omega))) ?_
       refine nil_ (then_n (cond_T ?_))
       refine seq_ (reg_ ?_)
       refine pure_ (.int .i64 1) ?_
       refine pure_ (.pointer (some ⟨zb42, 1, none⟩)) ?_
       refine store_ zS124 4 (.bool true) zb42 1 ?_
       intro zw139 zS140
       refine nil_ (then_n (reg_ ?_))
       refine pure_ (.int .i64 many) ?_
       refine sum_ .i64 (many + 1) (IntWalk.i64_in _ (by omega)) ?_
       refine pure_ (.int .i64 (many + 1)) ?_
       refine nil_ (blk_n (then_n (reg_ ?_)))
       refine pure_ (.int .i64 i) ?_
       refine sum_ .i64 (i + 1) (IntWalk.i64_in _ (by omega)) ?_
       refine pure_ (.int .i64 (i + 1)) ?_
       refine nil_ ?_
       refine then_j fun zy zye => ?_
       exact ⟨_, by omega, (i + 1), (many + 1), true, n2, n3, zr112.1, zq108, (fun d => zy.tmps.getD d undef), ⟨rfl, by omega, by omega, by omega, by omega, zh109, zh113, by rw [zh137]; simp, by rw [zh137, zh2]; simp, by rw [zh137, zh3]; simp⟩, by subst zye; kernel_rfl, zS140.re (R := ([] : List Blk)) [[⟨zb120, true, .cells #[.int .i64 0, .int .i64 3, .int .i64 (-1), .int .i64 0, .int .i64 0, .int .i64 0, .int .i64 0, .bool false] 54 (0, 0)⟩], [⟨zb103, true, .cells #[.int .i64 0, .int .i64 3, .int .i64 (-1), .int .i64 0, .int .i64 0, .int .i64 0, .int .i64 0, .bool false] 54 (0, 0)⟩], [⟨zb89, true, .cells #[.int .i64 0, .int .i64 65535, .int .i64 (-1), .int .i64 0, .int .i64 0, .int .i64 0, .int .i64 0, .bool false] 54 (0, 0)⟩], [⟨zb75, true, .cells #[.int .i64 0, .int .i64 3, .int .i64 (-1), .int .i64 0, .int .i64 0, .int .i64 0, .int .i64 0, .bool true] 54 (0, 0)⟩], [⟨zb42, true, .cells #[.bool false, .bool true, .bool n2, .bool n3] 59 (0, 0)⟩], [⟨zb35, true, .cells #[.int .i64 0, .int .i64 65535, .int .i64 (-1), .int .i64 0, .int .i64 0, .int .i64 0, .int .i64 0, .bool false] 54 (0, 0)⟩], [⟨zb28, true, .cells #[.int .i64 0, .int .i64 3, .int .i64 (-1), .int .i64 0, .int .i64 0, .int .i64 0, .int .i64 0, .bool true] 54 (0, 0)⟩], [⟨zb23, true, .cells #[.int .i64 0, .int .i64 3, .int .i64 (-1), .int .i64 0, .int .i64 0, .int .i64 0, .int .i64 0, .bool false] 54 (0, 0)⟩], [⟨zb10, true, .cells (polP p ka kn kc) 48 (0, 0)⟩], [⟨zb1, true, .cells (polC q pa pn pc) 48 (0, 0)⟩], zq108] [4, 5, 6, 7, 8, 9, 10]⟩
     intro zh141
     have zh142 := eqF' zh141
     refine split_b (((kb8 (i).toNat) % 3) == 1) ?_ ?_
     · intro zh143
       have zh144 := eqT' zh143
       refine slotI_ 75 .i64 ((kb8 (i).toNat) % 3) 1 (by omega) ?_
       refine pure_ (.int .i64 2) ?_
       refine pure_ (.int .i64 2) ?_
       refine nil_ (then_n (seq_ (reg_ ?_)))
       refine loadN_ zS58 4 56 (polP p ka kn kc) zb10 0 ?_
       refine loadN_ zS58 2 8 #[.int .i64 0, .int .i64 3, .int .i64 (-1), .int .i64 0, .int .i64 0, .int .i64 0, .int .i64 0, .bool true] zb28 0 ?_
       refine move_ ?_
       refine pure_ (.int .i64 2) ?_
       refine call_ 23 #[.agg (polP p ka kn kc), .agg #[.int .i64 0, .int .i64 3, .int .i64 (-1), .int .i64 0, .int .i64 0, .int .i64 0, .int .i64 0, .bool true], .pointer (some ⟨zb15, 0, none⟩), .int .i64 2, .bool false] ?_
       have zS149 : St [] w (ql ++ ([⟨zb42, true, .cells #[.bool false, .bool n1, .bool n2, .bool n3] 59 (0, 0)⟩, ⟨zb35, true, .cells #[.int .i64 0, .int .i64 65535, .int .i64 (-1), .int .i64 0, .int .i64 0, .int .i64 0, .int .i64 0, .bool false] 54 (0, 0)⟩, ⟨zb28, true, .cells #[.int .i64 0, .int .i64 3, .int .i64 (-1), .int .i64 0, .int .i64 0, .int .i64 0, .int .i64 0, .bool true] 54 (0, 0)⟩, ⟨zb23, true, .cells #[.int .i64 0, .int .i64 3, .int .i64 (-1), .int .i64 0, .int .i64 0, .int .i64 0, .int .i64 0, .bool false] 54 (0, 0)⟩, ⟨zb10, true, .cells (polP p ka kn kc) 48 (0, 0)⟩, ⟨zb1, true, .cells (polC q pa pn pc) 48 (0, 0)⟩] ++ ([] : List Blk))) zw57 := zS58.re (R := ([] : List Blk)) [[⟨zb42, true, .cells #[.bool false, .bool n1, .bool n2, .bool n3] 59 (0, 0)⟩], [⟨zb35, true, .cells #[.int .i64 0, .int .i64 65535, .int .i64 (-1), .int .i64 0, .int .i64 0, .int .i64 0, .int .i64 0, .bool false] 54 (0, 0)⟩], [⟨zb28, true, .cells #[.int .i64 0, .int .i64 3, .int .i64 (-1), .int .i64 0, .int .i64 0, .int .i64 0, .int .i64 0, .bool true] 54 (0, 0)⟩], [⟨zb23, true, .cells #[.int .i64 0, .int .i64 3, .int .i64 (-1), .int .i64 0, .int .i64 0, .int .i64 0, .int .i64 0, .bool false] 54 (0, 0)⟩], [⟨zb10, true, .cells (polP p ka kn kc) 48 (0, 0)⟩], [⟨zb1, true, .cells (polC q pa pn pc) 48 (0, 0)⟩], ql] [6, 0, 1, 2, 3, 4, 5]
       refine (ask_ zb15 (1 + (mo % 3)) L ql p ka kn kc (⟨0, 3, (-1), (⟨0, 0⟩ : Sd.Timer), (⟨0, 0⟩ : Sd.Timer), true⟩ : Sd.Tok) 2 false zf52 (by dsimp only; omega) (by omega) (RK.hr zf53 hp 2) (by have := hp.ask; exact this) _ zS149).mono ?_; rintro _ zw150 ⟨zq145, rfl, zh146, zS151⟩
       have zS153 : St [] w ([⟨zb42, true, .cells #[.bool false, .bool n1, .bool n2, .bool n3] 59 (0, 0)⟩, ⟨zb35, true, .cells #[.int .i64 0, .int .i64 65535, .int .i64 (-1), .int .i64 0, .int .i64 0, .int .i64 0, .int .i64 0, .bool false] 54 (0, 0)⟩, ⟨zb28, true, .cells #[.int .i64 0, .int .i64 3, .int .i64 (-1), .int .i64 0, .int .i64 0, .int .i64 0, .int .i64 0, .bool true] 54 (0, 0)⟩, ⟨zb23, true, .cells #[.int .i64 0, .int .i64 3, .int .i64 (-1), .int .i64 0, .int .i64 0, .int .i64 0, .int .i64 0, .bool false] 54 (0, 0)⟩, ⟨zb10, true, .cells (polP p ka kn kc) 48 (0, 0)⟩, ⟨zb1, true, .cells (polC q pa pn pc) 48 (0, 0)⟩] ++ (zq145 ++ ([] : List Blk))) zw150 := zS151.re (R := ([] : List Blk)) [zq145, [⟨zb42, true, .cells #[.bool false, .bool n1, .bool n2, .bool n3] 59 (0, 0)⟩], [⟨zb35, true, .cells #[.int .i64 0, .int .i64 65535, .int .i64 (-1), .int .i64 0, .int .i64 0, .int .i64 0, .int .i64 0, .bool false] 54 (0, 0)⟩], [⟨zb28, true, .cells #[.int .i64 0, .int .i64 3, .int .i64 (-1), .int .i64 0, .int .i64 0, .int .i64 0, .int .i64 0, .bool true] 54 (0, 0)⟩], [⟨zb23, true, .cells #[.int .i64 0, .int .i64 3, .int .i64 (-1), .int .i64 0, .int .i64 0, .int .i64 0, .int .i64 0, .bool false] 54 (0, 0)⟩], [⟨zb10, true, .cells (polP p ka kn kc) 48 (0, 0)⟩], [⟨zb1, true, .cells (polC q pa pn pc) 48 (0, 0)⟩]] [1, 2, 3, 4, 5, 6, 0]
       refine move_ ?_
       refine pure_ (.agg #[.int .i64 0, .int .i64 3, .int .i64 (-1), .int .i64 0, .int .i64 0, .int .i64 0, .int .i64 0, .bool true]) ?_
       refine pure_ (.int .i64 0) ?_
       refine pure_ (.int .i64 29) ?_
       refine new_ zS153 (fun b => .pointer (some ⟨b, 0, none⟩)) (.cells #[.int .i64 0, .int .i64 0, .int .i64 0, .int .i64 0, .int .i64 0, .int .i64 0, .int .i64 0, .bool false] 54) ?_
       intro zb154 zw155 zS156
       refine store_ zS156 0 (.agg #[.int .i64 0, .int .i64 3, .int .i64 (-1), .int .i64 0, .int .i64 0, .int .i64 0, .int .i64 0, .bool true]) zb154 0 ?_
       intro zw157 zS158
       refine pure_ (.int .i64 0) ?_
       refine pure_ (.int .i64 29) ?_
       refine nil_ (then_n (seq_ (reg_ ?_)))
       refine loadN_ zS158 5 56 (polP p ka kn kc) zb10 0 ?_
       refine loadN_ zS158 2 8 #[.int .i64 0, .int .i64 65535, .int .i64 (-1), .int .i64 0, .int .i64 0, .int .i64 0, .int .i64 0, .bool false] zb35 0 ?_
       refine move_ ?_
       refine pure_ (.int .i64 2) ?_
       refine call_ 23 #[.agg (polP p ka kn kc), .agg #[.int .i64 0, .int .i64 65535, .int .i64 (-1), .int .i64 0, .int .i64 0, .int .i64 0, .int .i64 0, .bool false], .pointer (some ⟨zb15, 0, none⟩), .int .i64 2, .bool false] ?_
       have zS163 : St [] w (zq145 ++ ([⟨zb154, true, .cells #[.int .i64 0, .int .i64 3, .int .i64 (-1), .int .i64 0, .int .i64 0, .int .i64 0, .int .i64 0, .bool true] 54 (0, 0)⟩, ⟨zb42, true, .cells #[.bool false, .bool n1, .bool n2, .bool n3] 59 (0, 0)⟩, ⟨zb35, true, .cells #[.int .i64 0, .int .i64 65535, .int .i64 (-1), .int .i64 0, .int .i64 0, .int .i64 0, .int .i64 0, .bool false] 54 (0, 0)⟩, ⟨zb28, true, .cells #[.int .i64 0, .int .i64 3, .int .i64 (-1), .int .i64 0, .int .i64 0, .int .i64 0, .int .i64 0, .bool true] 54 (0, 0)⟩, ⟨zb23, true, .cells #[.int .i64 0, .int .i64 3, .int .i64 (-1), .int .i64 0, .int .i64 0, .int .i64 0, .int .i64 0, .bool false] 54 (0, 0)⟩, ⟨zb10, true, .cells (polP p ka kn kc) 48 (0, 0)⟩, ⟨zb1, true, .cells (polC q pa pn pc) 48 (0, 0)⟩] ++ ([] : List Blk))) zw157 := zS158.re (R := ([] : List Blk)) [[⟨zb154, true, .cells #[.int .i64 0, .int .i64 3, .int .i64 (-1), .int .i64 0, .int .i64 0, .int .i64 0, .int .i64 0, .bool true] 54 (0, 0)⟩], [⟨zb42, true, .cells #[.bool false, .bool n1, .bool n2, .bool n3] 59 (0, 0)⟩], [⟨zb35, true, .cells #[.int .i64 0, .int .i64 65535, .int .i64 (-1), .int .i64 0, .int .i64 0, .int .i64 0, .int .i64 0, .bool false] 54 (0, 0)⟩], [⟨zb28, true, .cells #[.int .i64 0, .int .i64 3, .int .i64 (-1), .int .i64 0, .int .i64 0, .int .i64 0, .int .i64 0, .bool true] 54 (0, 0)⟩], [⟨zb23, true, .cells #[.int .i64 0, .int .i64 3, .int .i64 (-1), .int .i64 0, .int .i64 0, .int .i64 0, .int .i64 0, .bool false] 54 (0, 0)⟩], [⟨zb10, true, .cells (polP p ka kn kc) 48 (0, 0)⟩], [⟨zb1, true, .cells (polC q pa pn pc) 48 (0, 0)⟩], zq145] [7, 0, 1, 2, 3, 4, 5, 6]
       refine (ask_ zb15 (1 + (mo % 3)) L zq145 p ka kn kc (⟨0, 65535, (-1), (⟨0, 0⟩ : Sd.Timer), (⟨0, 0⟩ : Sd.Timer), false⟩ : Sd.Tok) 2 false zh146 (by dsimp only; omega) (by omega) (RK.hr zf53 hp 2) (by have := hp.ask; exact this) _ zS163).mono ?_; rintro _ zw164 ⟨zq159, rfl, zh160, zS165⟩
       have zS167 : St [] w ([⟨zb154, true, .cells #[.int .i64 0, .int .i64 3, .int .i64 (-1), .int .i64 0, .int .i64 0, .int .i64 0, .int .i64 0, .bool true] 54 (0, 0)⟩, ⟨zb42, true, .cells #[.bool false, .bool n1, .bool n2, .bool n3] 59 (0, 0)⟩, ⟨zb35, true, .cells #[.int .i64 0, .int .i64 65535, .int .i64 (-1), .int .i64 0, .int .i64 0, .int .i64 0, .int .i64 0, .bool false] 54 (0, 0)⟩, ⟨zb28, true, .cells #[.int .i64 0, .int .i64 3, .int .i64 (-1), .int .i64 0, .int .i64 0, .int .i64 0, .int .i64 0, .bool true] 54 (0, 0)⟩, ⟨zb23, true, .cells #[.int .i64 0, .int .i64 3, .int .i64 (-1), .int .i64 0, .int .i64 0, .int .i64 0, .int .i64 0, .bool false] 54 (0, 0)⟩, ⟨zb10, true, .cells (polP p ka kn kc) 48 (0, 0)⟩, ⟨zb1, true, .cells (polC q pa pn pc) 48 (0, 0)⟩] ++ (zq159 ++ ([] : List Blk))) zw164 := zS165.re (R := ([] : List Blk)) [zq159, [⟨zb154, true, .cells #[.int .i64 0, .int .i64 3, .int .i64 (-1), .int .i64 0, .int .i64 0, .int .i64 0, .int .i64 0, .bool true] 54 (0, 0)⟩], [⟨zb42, true, .cells #[.bool false, .bool n1, .bool n2, .bool n3] 59 (0, 0)⟩], [⟨zb35, true, .cells #[.int .i64 0, .int .i64 65535, .int .i64 (-1), .int .i64 0, .int .i64 0, .int .i64 0, .int .i64 0, .bool false] 54 (0, 0)⟩], [⟨zb28, true, .cells #[.int .i64 0, .int .i64 3, .int .i64 (-1), .int .i64 0, .int .i64 0, .int .i64 0, .int .i64 0, .bool true] 54 (0, 0)⟩], [⟨zb23, true, .cells #[.int .i64 0, .int .i64 3, .int .i64 (-1), .int .i64 0, .int .i64 0, .int .i64 0, .int .i64 0, .bool false] 54 (0, 0)⟩], [⟨zb10, true, .cells (polP p ka kn kc) 48 (0, 0)⟩], [⟨zb1, true, .cells (polC q pa pn pc) 48 (0, 0)⟩]] [1, 2, 3, 4, 5, 6, 7, 0]
       refine move_ ?_
       refine pure_ (.agg #[.int .i64 0, .int .i64 65535, .int .i64 (-1), .int .i64 0, .int .i64 0, .int .i64 0, .int .i64 0, .bool false]) ?_
       refine pure_ (.int .i64 0) ?_
       refine pure_ (.int .i64 24) ?_
       refine new_ zS167 (fun b => .pointer (some ⟨b, 0, none⟩)) (.cells #[.int .i64 0, .int .i64 0, .int .i64 0, .int .i64 0, .int .i64 0, .int .i64 0, .int .i64 0, .bool false] 54) ?_
       intro zb168 zw169 zS170
       refine store_ zS170 0 (.agg #[.int .i64 0, .int .i64 65535, .int .i64 (-1), .int .i64 0, .int .i64 0, .int .i64 0, .int .i64 0, .bool false]) zb168 0 ?_
       intro zw171 zS172
       refine pure_ (.int .i64 0) ?_
       refine pure_ (.int .i64 24) ?_
       refine nil_ (then_n (seq_ (reg_ ?_)))
       refine loadN_ zS172 6 56 (polP p ka kn kc) zb10 0 ?_
       refine loadN_ zS172 5 8 #[.int .i64 0, .int .i64 3, .int .i64 (-1), .int .i64 0, .int .i64 0, .int .i64 0, .int .i64 0, .bool false] zb23 0 ?_
       refine move_ ?_
       refine call_ 23 #[.agg (polP p ka kn kc), .agg #[.int .i64 0, .int .i64 3, .int .i64 (-1), .int .i64 0, .int .i64 0, .int .i64 0, .int .i64 0, .bool false], .pointer (some ⟨zb15, 0, none⟩), .int .i64 0, .bool false] ?_
       have zS177 : St [] w (zq159 ++ ([⟨zb168, true, .cells #[.int .i64 0, .int .i64 65535, .int .i64 (-1), .int .i64 0, .int .i64 0, .int .i64 0, .int .i64 0, .bool false] 54 (0, 0)⟩, ⟨zb154, true, .cells #[.int .i64 0, .int .i64 3, .int .i64 (-1), .int .i64 0, .int .i64 0, .int .i64 0, .int .i64 0, .bool true] 54 (0, 0)⟩, ⟨zb42, true, .cells #[.bool false, .bool n1, .bool n2, .bool n3] 59 (0, 0)⟩, ⟨zb35, true, .cells #[.int .i64 0, .int .i64 65535, .int .i64 (-1), .int .i64 0, .int .i64 0, .int .i64 0, .int .i64 0, .bool false] 54 (0, 0)⟩, ⟨zb28, true, .cells #[.int .i64 0, .int .i64 3, .int .i64 (-1), .int .i64 0, .int .i64 0, .int .i64 0, .int .i64 0, .bool true] 54 (0, 0)⟩, ⟨zb23, true, .cells #[.int .i64 0, .int .i64 3, .int .i64 (-1), .int .i64 0, .int .i64 0, .int .i64 0, .int .i64 0, .bool false] 54 (0, 0)⟩, ⟨zb10, true, .cells (polP p ka kn kc) 48 (0, 0)⟩, ⟨zb1, true, .cells (polC q pa pn pc) 48 (0, 0)⟩] ++ ([] : List Blk))) zw171 := zS172.re (R := ([] : List Blk)) [[⟨zb168, true, .cells #[.int .i64 0, .int .i64 65535, .int .i64 (-1), .int .i64 0, .int .i64 0, .int .i64 0, .int .i64 0, .bool false] 54 (0, 0)⟩], [⟨zb154, true, .cells #[.int .i64 0, .int .i64 3, .int .i64 (-1), .int .i64 0, .int .i64 0, .int .i64 0, .int .i64 0, .bool true] 54 (0, 0)⟩], [⟨zb42, true, .cells #[.bool false, .bool n1, .bool n2, .bool n3] 59 (0, 0)⟩], [⟨zb35, true, .cells #[.int .i64 0, .int .i64 65535, .int .i64 (-1), .int .i64 0, .int .i64 0, .int .i64 0, .int .i64 0, .bool false] 54 (0, 0)⟩], [⟨zb28, true, .cells #[.int .i64 0, .int .i64 3, .int .i64 (-1), .int .i64 0, .int .i64 0, .int .i64 0, .int .i64 0, .bool true] 54 (0, 0)⟩], [⟨zb23, true, .cells #[.int .i64 0, .int .i64 3, .int .i64 (-1), .int .i64 0, .int .i64 0, .int .i64 0, .int .i64 0, .bool false] 54 (0, 0)⟩], [⟨zb10, true, .cells (polP p ka kn kc) 48 (0, 0)⟩], [⟨zb1, true, .cells (polC q pa pn pc) 48 (0, 0)⟩], zq159] [8, 0, 1, 2, 3, 4, 5, 6, 7]
       refine (ask_ zb15 (1 + (mo % 3)) L zq159 p ka kn kc (⟨0, 3, (-1), (⟨0, 0⟩ : Sd.Timer), (⟨0, 0⟩ : Sd.Timer), false⟩ : Sd.Tok) 0 false zh160 (by dsimp only; omega) (by omega) (RK.hr zf53 hp 0) (by have := hp.ask; exact this) _ zS177).mono ?_; rintro _ zw178 ⟨zq173, rfl, zh174, zS179⟩
       have zS181 : St [] w ([⟨zb168, true, .cells #[.int .i64 0, .int .i64 65535, .int .i64 (-1), .int .i64 0, .int .i64 0, .int .i64 0, .int .i64 0, .bool false] 54 (0, 0)⟩, ⟨zb154, true, .cells #[.int .i64 0, .int .i64 3, .int .i64 (-1), .int .i64 0, .int .i64 0, .int .i64 0, .int .i64 0, .bool true] 54 (0, 0)⟩, ⟨zb42, true, .cells #[.bool false, .bool n1, .bool n2, .bool n3] 59 (0, 0)⟩, ⟨zb35, true, .cells #[.int .i64 0, .int .i64 65535, .int .i64 (-1), .int .i64 0, .int .i64 0, .int .i64 0, .int .i64 0, .bool false] 54 (0, 0)⟩, ⟨zb28, true, .cells #[.int .i64 0, .int .i64 3, .int .i64 (-1), .int .i64 0, .int .i64 0, .int .i64 0, .int .i64 0, .bool true] 54 (0, 0)⟩, ⟨zb23, true, .cells #[.int .i64 0, .int .i64 3, .int .i64 (-1), .int .i64 0, .int .i64 0, .int .i64 0, .int .i64 0, .bool false] 54 (0, 0)⟩, ⟨zb10, true, .cells (polP p ka kn kc) 48 (0, 0)⟩, ⟨zb1, true, .cells (polC q pa pn pc) 48 (0, 0)⟩] ++ (zq173 ++ ([] : List Blk))) zw178 := zS179.re (R := ([] : List Blk)) [zq173, [⟨zb168, true, .cells #[.int .i64 0, .int .i64 65535, .int .i64 (-1), .int .i64 0, .int .i64 0, .int .i64 0, .int .i64 0, .bool false] 54 (0, 0)⟩], [⟨zb154, true, .cells #[.int .i64 0, .int .i64 3, .int .i64 (-1), .int .i64 0, .int .i64 0, .int .i64 0, .int .i64 0, .bool true] 54 (0, 0)⟩], [⟨zb42, true, .cells #[.bool false, .bool n1, .bool n2, .bool n3] 59 (0, 0)⟩], [⟨zb35, true, .cells #[.int .i64 0, .int .i64 65535, .int .i64 (-1), .int .i64 0, .int .i64 0, .int .i64 0, .int .i64 0, .bool false] 54 (0, 0)⟩], [⟨zb28, true, .cells #[.int .i64 0, .int .i64 3, .int .i64 (-1), .int .i64 0, .int .i64 0, .int .i64 0, .int .i64 0, .bool true] 54 (0, 0)⟩], [⟨zb23, true, .cells #[.int .i64 0, .int .i64 3, .int .i64 (-1), .int .i64 0, .int .i64 0, .int .i64 0, .int .i64 0, .bool false] 54 (0, 0)⟩], [⟨zb10, true, .cells (polP p ka kn kc) 48 (0, 0)⟩], [⟨zb1, true, .cells (polC q pa pn pc) 48 (0, 0)⟩]] [1, 2, 3, 4, 5, 6, 7, 8, 0]
       refine move_ ?_
       refine pure_ (.agg #[.int .i64 0, .int .i64 3, .int .i64 (-1), .int .i64 0, .int .i64 0, .int .i64 0, .int .i64 0, .bool false]) ?_
       refine pure_ (.int .i64 0) ?_
       refine pure_ (.int .i64 25) ?_
       refine new_ zS181 (fun b => .pointer (some ⟨b, 0, none⟩)) (.cells #[.int .i64 0, .int .i64 0, .int .i64 0, .int .i64 0, .int .i64 0, .int .i64 0, .int .i64 0, .bool false] 54) ?_
       intro zb182 zw183 zS184
       refine store_ zS184 0 (.agg #[.int .i64 0, .int .i64 3, .int .i64 (-1), .int .i64 0, .int .i64 0, .int .i64 0, .int .i64 0, .bool false]) zb182 0 ?_
       intro zw185 zS186
       refine pure_ (.int .i64 0) ?_
       refine pure_ (.int .i64 25) ?_
       refine nil_ (then_n (seq_ (reg_ ?_)))
       refine loadN_ zS186 7 56 (polP p ka kn kc) zb10 0 ?_
       refine loadN_ zS186 6 8 #[.int .i64 0, .int .i64 3, .int .i64 (-1), .int .i64 0, .int .i64 0, .int .i64 0, .int .i64 0, .bool false] zb23 0 ?_
       refine move_ ?_
       refine pure_ (.int .i64 2) ?_
       refine call_ 23 #[.agg (polP p ka kn kc), .agg #[.int .i64 0, .int .i64 3, .int .i64 (-1), .int .i64 0, .int .i64 0, .int .i64 0, .int .i64 0, .bool false], .pointer (some ⟨zb15, 0, none⟩), .int .i64 2, .bool false] ?_
       have zS193 : St [] w (zq173 ++ ([⟨zb182, true, .cells #[.int .i64 0, .int .i64 3, .int .i64 (-1), .int .i64 0, .int .i64 0, .int .i64 0, .int .i64 0, .bool false] 54 (0, 0)⟩, ⟨zb168, true, .cells #[.int .i64 0, .int .i64 65535, .int .i64 (-1), .int .i64 0, .int .i64 0, .int .i64 0, .int .i64 0, .bool false] 54 (0, 0)⟩, ⟨zb154, true, .cells #[.int .i64 0, .int .i64 3, .int .i64 (-1), .int .i64 0, .int .i64 0, .int .i64 0, .int .i64 0, .bool true] 54 (0, 0)⟩, ⟨zb42, true, .cells #[.bool false, .bool n1, .bool n2, .bool n3] 59 (0, 0)⟩, ⟨zb35, true, .cells #[.int .i64 0, .int .i64 65535, .int .i64 (-1), .int .i64 0, .int .i64 0, .int .i64 0, .int .i64 0, .bool false] 54 (0, 0)⟩, ⟨zb28, true, .cells #[.int .i64 0, .int .i64 3, .int .i64 (-1), .int .i64 0, .int .i64 0, .int .i64 0, .int .i64 0, .bool true] 54 (0, 0)⟩, ⟨zb23, true, .cells #[.int .i64 0, .int .i64 3, .int .i64 (-1), .int .i64 0, .int .i64 0, .int .i64 0, .int .i64 0, .bool false] 54 (0, 0)⟩, ⟨zb10, true, .cells (polP p ka kn kc) 48 (0, 0)⟩, ⟨zb1, true, .cells (polC q pa pn pc) 48 (0, 0)⟩] ++ ([] : List Blk))) zw185 := zS186.re (R := ([] : List Blk)) [[⟨zb182, true, .cells #[.int .i64 0, .int .i64 3, .int .i64 (-1), .int .i64 0, .int .i64 0, .int .i64 0, .int .i64 0, .bool false] 54 (0, 0)⟩], [⟨zb168, true, .cells #[.int .i64 0, .int .i64 65535, .int .i64 (-1), .int .i64 0, .int .i64 0, .int .i64 0, .int .i64 0, .bool false] 54 (0, 0)⟩], [⟨zb154, true, .cells #[.int .i64 0, .int .i64 3, .int .i64 (-1), .int .i64 0, .int .i64 0, .int .i64 0, .int .i64 0, .bool true] 54 (0, 0)⟩], [⟨zb42, true, .cells #[.bool false, .bool n1, .bool n2, .bool n3] 59 (0, 0)⟩], [⟨zb35, true, .cells #[.int .i64 0, .int .i64 65535, .int .i64 (-1), .int .i64 0, .int .i64 0, .int .i64 0, .int .i64 0, .bool false] 54 (0, 0)⟩], [⟨zb28, true, .cells #[.int .i64 0, .int .i64 3, .int .i64 (-1), .int .i64 0, .int .i64 0, .int .i64 0, .int .i64 0, .bool true] 54 (0, 0)⟩], [⟨zb23, true, .cells #[.int .i64 0, .int .i64 3, .int .i64 (-1), .int .i64 0, .int .i64 0, .int .i64 0, .int .i64 0, .bool false] 54 (0, 0)⟩], [⟨zb10, true, .cells (polP p ka kn kc) 48 (0, 0)⟩], [⟨zb1, true, .cells (polC q pa pn pc) 48 (0, 0)⟩], zq173] [9, 0, 1, 2, 3, 4, 5, 6, 7, 8]
       refine ((show Gives Try.prog 23 #[.agg (polP p ka kn kc), .agg #[.int .i64 0, .int .i64 3, .int .i64 (-1), .int .i64 0, .int .i64 0, .int .i64 0, .int .i64 0, .bool false], .pointer (some ⟨zb15, 0, none⟩), .int .i64 2, .bool false] _ (fun v w1 => ∃ bl1, v = .tuple #[.agg #[.int .i64 0, .int .i64 3, .int .i64 (-1), .int .i64 0, .int .i64 0, .int .i64 0, .int .i64 0, .bool false], .int .i64 0, .int .i64 (Sd.Q.push (1 + (mo % 3)) L (⟨2, Sd.placeOf p 2, Sd.Timer.start (p.i 45)⟩ : Sd.Ask)).2] ∧ QS zb15 (1 + (mo % 3)) (Sd.Q.push (1 + (mo % 3)) L (⟨2, Sd.placeOf p 2, Sd.Timer.start (p.i 45)⟩ : Sd.Ask)).1 bl1 ∧ _) from ask_ zb15 (1 + (mo % 3)) L zq173 p ka kn kc (⟨0, 3, (-1), (⟨0, 0⟩ : Sd.Timer), (⟨0, 0⟩ : Sd.Timer), false⟩ : Sd.Tok) 2 false zh174 (by dsimp only; omega) (by omega) (RK.hr zf53 hp 2) (by have := hp.ask; exact this) _ zS193)).mono ?_; rintro _ zw194 ⟨zq187, rfl, zh188, zS195⟩
       generalize ze197 : Sd.Q.push (1 + (mo % 3)) L (⟨2, Sd.placeOf p 2, Sd.Timer.start (p.i 45)⟩ : Sd.Ask) = zr191 at zh188 ⊢
       have zh192 : RK p zr191.1 := by rw [← ze197]; exact RK.push zf53 _ _ rfl (by dsimp only; omega)
       have zS198 : St [] w ([⟨zb182, true, .cells #[.int .i64 0, .int .i64 3, .int .i64 (-1), .int .i64 0, .int .i64 0, .int .i64 0, .int .i64 0, .bool false] 54 (0, 0)⟩, ⟨zb168, true, .cells #[.int .i64 0, .int .i64 65535, .int .i64 (-1), .int .i64 0, .int .i64 0, .int .i64 0, .int .i64 0, .bool false] 54 (0, 0)⟩, ⟨zb154, true, .cells #[.int .i64 0, .int .i64 3, .int .i64 (-1), .int .i64 0, .int .i64 0, .int .i64 0, .int .i64 0, .bool true] 54 (0, 0)⟩, ⟨zb42, true, .cells #[.bool false, .bool n1, .bool n2, .bool n3] 59 (0, 0)⟩, ⟨zb35, true, .cells #[.int .i64 0, .int .i64 65535, .int .i64 (-1), .int .i64 0, .int .i64 0, .int .i64 0, .int .i64 0, .bool false] 54 (0, 0)⟩, ⟨zb28, true, .cells #[.int .i64 0, .int .i64 3, .int .i64 (-1), .int .i64 0, .int .i64 0, .int .i64 0, .int .i64 0, .bool true] 54 (0, 0)⟩, ⟨zb23, true, .cells #[.int .i64 0, .int .i64 3, .int .i64 (-1), .int .i64 0, .int .i64 0, .int .i64 0, .int .i64 0, .bool false] 54 (0, 0)⟩, ⟨zb10, true, .cells (polP p ka kn kc) 48 (0, 0)⟩, ⟨zb1, true, .cells (polC q pa pn pc) 48 (0, 0)⟩] ++ (zq187 ++ ([] : List Blk))) zw194 := zS195.re (R := ([] : List Blk)) [zq187, [⟨zb182, true, .cells #[.int .i64 0, .int .i64 3, .int .i64 (-1), .int .i64 0, .int .i64 0, .int .i64 0, .int .i64 0, .bool false] 54 (0, 0)⟩], [⟨zb168, true, .cells #[.int .i64 0, .int .i64 65535, .int .i64 (-1), .int .i64 0, .int .i64 0, .int .i64 0, .int .i64 0, .bool false] 54 (0, 0)⟩], [⟨zb154, true, .cells #[.int .i64 0, .int .i64 3, .int .i64 (-1), .int .i64 0, .int .i64 0, .int .i64 0, .int .i64 0, .bool true] 54 (0, 0)⟩], [⟨zb42, true, .cells #[.bool false, .bool n1, .bool n2, .bool n3] 59 (0, 0)⟩], [⟨zb35, true, .cells #[.int .i64 0, .int .i64 65535, .int .i64 (-1), .int .i64 0, .int .i64 0, .int .i64 0, .int .i64 0, .bool false] 54 (0, 0)⟩], [⟨zb28, true, .cells #[.int .i64 0, .int .i64 3, .int .i64 (-1), .int .i64 0, .int .i64 0, .int .i64 0, .int .i64 0, .bool true] 54 (0, 0)⟩], [⟨zb23, true, .cells #[.int .i64 0, .int .i64 3, .int .i64 (-1), .int .i64 0, .int .i64 0, .int .i64 0, .int .i64 0, .bool false] 54 (0, 0)⟩], [⟨zb10, true, .cells (polP p ka kn kc) 48 (0, 0)⟩], [⟨zb1, true, .cells (polC q pa pn pc) 48 (0, 0)⟩]] [1, 2, 3, 4, 5, 6, 7, 8, 9, 0]
       refine move_ ?_
       refine pure_ (.agg #[.int .i64 0, .int .i64 3, .int .i64 (-1), .int .i64 0, .int .i64 0, .int .i64 0, .int .i64 0, .bool false]) ?_
       refine pure_ (.int .i64 0) ?_
       refine pure_ (.int .i64 zr191.2) ?_
       refine new_ zS198 (fun b => .pointer (some ⟨b, 0, none⟩)) (.cells #[.int .i64 0, .int .i64 0, .int .i64 0, .int .i64 0, .int .i64 0, .int .i64 0, .int .i64 0, .bool false] 54) ?_
       intro zb199 zw200 zS201
       refine store_ zS201 0 (.agg #[.int .i64 0, .int .i64 3, .int .i64 (-1), .int .i64 0, .int .i64 0, .int .i64 0, .int .i64 0, .bool false]) zb199 0 ?_
       intro zw202 zS203
       refine pure_ (.int .i64 0) ?_
       refine pure_ (.int .i64 zr191.2) ?_
       refine nil_ (then_n (seq_ (reg_ ?_)))
       refine pure_ (.int .i64 0) ?_
       refine nil_ (then_n (seq_ (seq_ (reg_ ?_))))
       refine pure_ (.int .i64 2) ?_
       refine pure_ (.pointer (some ⟨zb42, 2, none⟩)) ?_
       refine load1_ zS203 4 (.bool n2) zb42 2 ?_
       refine nil_ (then_n ?_)
       refine cond_S n2 ?_ ?_
       · intro zh204
         obtain ⟨zh205, zh206⟩ := push_again ze197 (zh2.trans zh204)
         refine reg_ ?_
         refine pure_ (.int .i64 27) ?_
         refine nil_ (then_n (seq_ (seq_ (reg_ ?_))))
         refine pure_ (.int .i64 29) ?_
         refine pure_ (.bool false) ?_
         refine pure_ (.bool false) ?_
         refine pure_ (.int .i64 24) ?_
         refine pure_ (.bool false) ?_
         refine pure_ (.bool false) ?_
         refine pure_ (.bool false) ?_
         refine pure_ (.int .i64 25) ?_
         refine pure_ (.bool false) ?_
         refine pure_ (.bool false) ?_
         refine pure_ (.bool false) ?_
         refine loadN_ zS203 0 8 #[.int .i64 0, .int .i64 3, .int .i64 (-1), .int .i64 0, .int .i64 0, .int .i64 0, .int .i64 0, .bool false] zb199 0 ?_
         refine loadN_ zS203 7 8 #[.int .i64 0, .int .i64 3, .int .i64 (-1), .int .i64 0, .int .i64 0, .int .i64 0, .int .i64 0, .bool false] zb23 0 ?_
         refine eqAgg_ true true #[.int .i64 0, .int .i64 3, .int .i64 (-1), .int .i64 0, .int .i64 0, .int .i64 0, .int .i64 0, .bool false] #[.int .i64 0, .int .i64 3, .int .i64 (-1), .int .i64 0, .int .i64 0, .int .i64 0, .int .i64 0, .bool false] ?_
         refine pure_ (.bool false) ?_
         refine pure_ (.bool false) ?_
         refine pure_ (.int .i64 0) ?_
         refine pure_ (.bool false) ?_
         refine pure_ (.bool false) ?_
         refine pure_ (.bool false) ?_
         refine pure_ (.int .i64 zr191.2) ?_
         refine pure_ (.int .i64 27) ?_
         refine pureE_ (.bool (zr191.2 != 27)) (.bool false) (congrArg Value.bool (neF (by omega))) ?_
         refine pure_ (.bool false) ?_
         refine nil_ (then_n (cond_F ?_))
         refine wp_skip (then_n (seq_ (reg_ ?_)))
         refine pure_ (.int .i64 zr191.2) ?_
         refine pureE_ (.bool (zr191.2 == 0)) (.bool false) (congrArg Value.bool (eqF (by omega))) ?_
         refine nil_ (then_n (cond_F ?_))
         refine wp_skip (blk_n (then_n (reg_ ?_)))
         refine pure_ (.int .i64 i) ?_
         refine sum_ .i64 (i + 1) (IntWalk.i64_in _ (by omega)) ?_
         refine pure_ (.int .i64 (i + 1)) ?_
         refine nil_ ?_
         refine then_j fun zy zye => ?_
         exact ⟨_, by omega, (i + 1), many, n1, n2, n3, zr191.1, zq187, (fun d => zy.tmps.getD d undef), ⟨rfl, by omega, by omega, by have := congrArg List.length zh206; omega, by have := congrArg List.length zh206; omega, zh188, zh192, by rw [zh206]; exact zh1, by rw [zh206]; exact zh2, by rw [zh206]; exact zh3⟩, by subst zye; kernel_rfl, zS203.re (R := ([] : List Blk)) [[⟨zb199, true, .cells #[.int .i64 0, .int .i64 3, .int .i64 (-1), .int .i64 0, .int .i64 0, .int .i64 0, .int .i64 0, .bool false] 54 (0, 0)⟩], [⟨zb182, true, .cells #[.int .i64 0, .int .i64 3, .int .i64 (-1), .int .i64 0, .int .i64 0, .int .i64 0, .int .i64 0, .bool false] 54 (0, 0)⟩], [⟨zb168, true, .cells #[.int .i64 0, .int .i64 65535, .int .i64 (-1), .int .i64 0, .int .i64 0, .int .i64 0, .int .i64 0, .bool false] 54 (0, 0)⟩], [⟨zb154, true, .cells #[.int .i64 0, .int .i64 3, .int .i64 (-1), .int .i64 0, .int .i64 0, .int .i64 0, .int .i64 0, .bool true] 54 (0, 0)⟩], [⟨zb42, true, .cells #[.bool false, .bool n1, .bool n2, .bool n3] 59 (0, 0)⟩], [⟨zb35, true, .cells #[.int .i64 0, .int .i64 65535, .int .i64 (-1), .int .i64 0, .int .i64 0, .int .i64 0, .int .i64 0, .bool false] 54 (0, 0)⟩], [⟨zb28, true, .cells #[.int .i64 0, .int .i64 3, .int .i64 (-1), .int .i64 0, .int .i64 0, .int .i64 0, .int .i64 0, .bool true] 54 (0, 0)⟩], [⟨zb23, true, .cells #[.int .i64 0, .int .i64 3, .int .i64 (-1), .int .i64 0, .int .i64 0, .int .i64 0, .int .i64 0, .bool false] 54 (0, 0)⟩], [⟨zb10, true, .cells (polP p ka kn kc) 48 (0, 0)⟩], [⟨zb1, true, .cells (polC q pa pn pc) 48 (0, 0)⟩], zq187] [4, 5, 6, 7, 8, 9, 10]⟩
       intro zh207
       refine seq_ (reg_ ?_)
       refine pure_ (.int .i64 many) ?_
       refine pure_ (.int .i64 (1 + (mo % 3))) ?_
       refine pure_ (.bool (many == (1 + (mo % 3)))) ?_
       refine nil_ (then_n ?_)
       refine cond_S (many == (1 + (mo % 3))) ?_ ?_
       · intro zh208
         have zh209 := eqT' zh208
         obtain ⟨zh210, zh211⟩ := push_full ze197 (zh2.trans zh207) (by omega)
         refine reg_ ?_
         refine pure_ (.int .i64 3) ?_
         refine nil_ (then_n (seq_ (seq_ (reg_ ?_))))
         refine pure_ (.int .i64 29) ?_
         refine pure_ (.bool false) ?_
         refine pure_ (.bool false) ?_
         refine pure_ (.int .i64 24) ?_
         refine pure_ (.bool false) ?_
         refine pure_ (.bool false) ?_
         refine pure_ (.bool false) ?_
         refine pure_ (.int .i64 25) ?_
         refine pure_ (.bool false) ?_
         refine pure_ (.bool false) ?_
         refine pure_ (.bool false) ?_
         refine loadN_ zS203 0 8 #[.int .i64 0, .int .i64 3, .int .i64 (-1), .int .i64 0, .int .i64 0, .int .i64 0, .int .i64 0, .bool false] zb199 0 ?_
         refine loadN_ zS203 7 8 #[.int .i64 0, .int .i64 3, .int .i64 (-1), .int .i64 0, .int .i64 0, .int .i64 0, .int .i64 0, .bool false] zb23 0 ?_
         refine eqAgg_ true true #[.int .i64 0, .int .i64 3, .int .i64 (-1), .int .i64 0, .int .i64 0, .int .i64 0, .int .i64 0, .bool false] #[.int .i64 0, .int .i64 3, .int .i64 (-1), .int .i64 0, .int .i64 0, .int .i64 0, .int .i64 0, .bool false] ?_
         refine pure_ (.bool false) ?_
         refine pure_ (.bool false) ?_
         refine pure_ (.int .i64 0) ?_
         refine pure_ (.bool false) ?_
         refine pure_ (.bool false) ?_
         refine pure_ (.bool false) ?_
         refine pure_ (.int .i64 zr191.2) ?_
         refine pure_ (.int .i64 3) ?_
         refine pureE_ (.bool (zr191.2 != 3)) (.bool false) (congrArg Value.bool (neF (by omega))) ?_
         refine pure_ (.bool false) ?_
         refine nil_ (then_n (cond_F ?_))
         refine wp_skip (then_n (seq_ (reg_ ?_)))
         refine pure_ (.int .i64 zr191.2) ?_
         refine pureE_ (.bool (zr191.2 == 0)) (.bool false) (congrArg Value.bool (eqF (by omega))) ?_
         refine nil_ (then_n (cond_F ?_))
         refine wp_skip (blk_n (then_n (reg_ ?_)))
         refine pure_ (.int .i64 i) ?_
         refine sum_ .i64 (i + 1) (IntWalk.i64_in _ (by omega)) ?_
         refine pure_ (.int .i64 (i + 1)) ?_
         refine nil_ ?_
         refine then_j fun zy zye => ?_
         exact ⟨_, by omega, (i + 1), many, n1, n2, n3, zr191.1, zq187, (fun d => zy.tmps.getD d undef), ⟨rfl, by omega, by omega, by have := congrArg List.length zh211; omega, by have := congrArg List.length zh211; omega, zh188, zh192, by rw [zh211]; exact zh1, by rw [zh211]; exact zh2, by rw [zh211]; exact zh3⟩, by subst zye; kernel_rfl, zS203.re (R := ([] : List Blk)) [[⟨zb199, true, .cells #[.int .i64 0, .int .i64 3, .int .i64 (-1), .int .i64 0, .int .i64 0, .int .i64 0, .int .i64 0, .bool false] 54 (0, 0)⟩], [⟨zb182, true, .cells #[.int .i64 0, .int .i64 3, .int .i64 (-1), .int .i64 0, .int .i64 0, .int .i64 0, .int .i64 0, .bool false] 54 (0, 0)⟩], [⟨zb168, true, .cells #[.int .i64 0, .int .i64 65535, .int .i64 (-1), .int .i64 0, .int .i64 0, .int .i64 0, .int .i64 0, .bool false] 54 (0, 0)⟩], [⟨zb154, true, .cells #[.int .i64 0, .int .i64 3, .int .i64 (-1), .int .i64 0, .int .i64 0, .int .i64 0, .int .i64 0, .bool true] 54 (0, 0)⟩], [⟨zb42, true, .cells #[.bool false, .bool n1, .bool n2, .bool n3] 59 (0, 0)⟩], [⟨zb35, true, .cells #[.int .i64 0, .int .i64 65535, .int .i64 (-1), .int .i64 0, .int .i64 0, .int .i64 0, .int .i64 0, .bool false] 54 (0, 0)⟩], [⟨zb28, true, .cells #[.int .i64 0, .int .i64 3, .int .i64 (-1), .int .i64 0, .int .i64 0, .int .i64 0, .int .i64 0, .bool true] 54 (0, 0)⟩], [⟨zb23, true, .cells #[.int .i64 0, .int .i64 3, .int .i64 (-1), .int .i64 0, .int .i64 0, .int .i64 0, .int .i64 0, .bool false] 54 (0, 0)⟩], [⟨zb10, true, .cells (polP p ka kn kc) 48 (0, 0)⟩], [⟨zb1, true, .cells (polC q pa pn pc) 48 (0, 0)⟩], zq187] [4, 5, 6, 7, 8, 9, 10]⟩
       intro zh213
       have zh214 := eqF' zh213
       obtain ⟨zh215, zh217, zh216⟩ := push_ok ze197 (zh2.trans zh207) (by omega)
       refine wp_skip (then_n (seq_ (seq_ (reg_ ?_))))
       refine pure_ (.int .i64 29) ?_
       refine pure_ (.bool false) ?_
       refine pure_ (.bool false) ?_
       refine pure_ (.int .i64 24) ?_
       refine pure_ (.bool false) ?_
       refine pure_ (.bool false) ?_
       refine pure_ (.bool false) ?_
       refine pure_ (.int .i64 25) ?_
       refine pure_ (.bool false) ?_
       refine pure_ (.bool false) ?_
       refine pure_ (.bool false) ?_
       refine loadN_ zS203 0 8 #[.int .i64 0, .int .i64 3, .int .i64 (-1), .int .i64 0, .int .i64 0, .int .i64 0, .int .i64 0, .bool false] zb199 0 ?_
       refine loadN_ zS203 7 8 #[.int .i64 0, .int .i64 3, .int .i64 (-1), .int .i64 0, .int .i64 0, .int .i64 0, .int .i64 0, .bool false] zb23 0 ?_
       refine eqAgg_ true true #[.int .i64 0, .int .i64 3, .int .i64 (-1), .int .i64 0, .int .i64 0, .int .i64 0, .int .i64 0, .bool false] #[.int .i64 0, .int .i64 3, .int .i64 (-1), .int .i64 0, .int .i64 0, .int .i64 0, .int .i64 0, .bool false] ?_
       refine pure_ (.bool false) ?_
       refine pure_ (.bool false) ?_
       refine pure_ (.int .i64 0) ?_
       refine pure_ (.bool false) ?_
       refine pure_ (.bool false) ?_
       refine pure_ (.bool false) ?_
       refine pure_ (.int .i64 zr191.2) ?_
       refine pure_ (.int .i64 0) ?_
       refine pureE_ (.bool (zr191.2 != 0)) (.bool false) (congrArg Value.bool (neF (by omega))) ?_
       refine pure_ (.bool false) ?_
       refine nil_ (then_n (cond_F ?_))
       refine wp_skip (then_n (seq_ (reg_ ?_)))
       refine pure_ (.int .i64 zr191.2) ?_
       refine pureE_ (.bool (zr191.2 == 0)) (.bool true) (congrArg Value.bool (eqT (by omega))) ?_
       refine nil_ (then_n (cond_T ?_))
       refine seq_ (reg_ ?_)
       refine pure_ (.int .i64 2) ?_
       refine pure_ (.pointer (some ⟨zb42, 2, none⟩)) ?_
       refine store_ zS203 4 (.bool true) zb42 2 ?_
       intro zw218 zS219
       refine nil_ (then_n (reg_ ?_))
       refine pure_ (.int .i64 many) ?_
       refine sum_ .i64 (many + 1) (IntWalk.i64_in _ (by omega)) ?_
       refine pure_ (.int .i64 (many + 1)) ?_
       refine nil_ (blk_n (then_n (reg_ ?_)))
       refine pure_ (.int .i64 i) ?_
       refine sum_ .i64 (i + 1) (IntWalk.i64_in _ (by omega)) ?_
       refine pure_ (.int .i64 (i + 1)) ?_
       refine nil_ ?_
       refine then_j fun zy zye => ?_
       exact ⟨_, by omega, (i + 1), (many + 1), n1, true, n3, zr191.1, zq187, (fun d => zy.tmps.getD d undef), ⟨rfl, by omega, by omega, by omega, by omega, zh188, zh192, by rw [zh216, zh1]; simp, by rw [zh216]; simp, by rw [zh216, zh3]; simp⟩, by subst zye; kernel_rfl, zS219.re (R := ([] : List Blk)) [[⟨zb199, true, .cells #[.int .i64 0, .int .i64 3, .int .i64 (-1), .int .i64 0, .int .i64 0, .int .i64 0, .int .i64 0, .bool false] 54 (0, 0)⟩], [⟨zb182, true, .cells #[.int .i64 0, .int .i64 3, .int .i64 (-1), .int .i64 0, .int .i64 0, .int .i64 0, .int .i64 0, .bool false] 54 (0, 0)⟩], [⟨zb168, true, .cells #[.int .i64 0, .int .i64 65535, .int .i64 (-1), .int .i64 0, .int .i64 0, .int .i64 0, .int .i64 0, .bool false] 54 (0, 0)⟩], [⟨zb154, true, .cells #[.int .i64 0, .int .i64 3, .int .i64 (-1), .int .i64 0, .int .i64 0, .int .i64 0, .int .i64 0, .bool true] 54 (0, 0)⟩], [⟨zb42, true, .cells #[.bool false, .bool n1, .bool true, .bool n3] 59 (0, 0)⟩], [⟨zb35, true, .cells #[.int .i64 0, .int .i64 65535, .int .i64 (-1), .int .i64 0, .int .i64 0, .int .i64 0, .int .i64 0, .bool false] 54 (0, 0)⟩], [⟨zb28, true, .cells #[.int .i64 0, .int .i64 3, .int .i64 (-1), .int .i64 0, .int .i64 0, .int .i64 0, .int .i64 0, .bool true] 54 (0, 0)⟩], [⟨zb23, true, .cells #[.int .i64 0, .int .i64 3, .int .i64 (-1), .int .i64 0, .int .i64 0, .int .i64 0, .int .i64 0, .bool false] 54 (0, 0)⟩], [⟨zb10, true, .cells (polP p ka kn kc) 48 (0, 0)⟩], [⟨zb1, true, .cells (polC q pa pn pc) 48 (0, 0)⟩], zq187] [4, 5, 6, 7, 8, 9, 10]⟩
     intro zh220
     have zh221 := eqF' zh220
     refine slotI_ 75 .i64 ((kb8 (i).toNat) % 3) 2 (by omega) ?_
     have zh222 : ((kb8 (i).toNat) % 3) = 2 := by omega
     refine pure_ (.int .i64 3) ?_
     refine pure_ (.int .i64 3) ?_
     refine nil_ (then_n (seq_ (reg_ ?_)))
     refine loadN_ zS58 4 56 (polP p ka kn kc) zb10 0 ?_
     refine loadN_ zS58 2 8 #[.int .i64 0, .int .i64 3, .int .i64 (-1), .int .i64 0, .int .i64 0, .int .i64 0, .int .i64 0, .bool true] zb28 0 ?_
     refine move_ ?_
     refine pure_ (.int .i64 3) ?_
     refine call_ 23 #[.agg (polP p ka kn kc), .agg #[.int .i64 0, .int .i64 3, .int .i64 (-1), .int .i64 0, .int .i64 0, .int .i64 0, .int .i64 0, .bool true], .pointer (some ⟨zb15, 0, none⟩), .int .i64 3, .bool false] ?_
     have zS227 : St [] w (ql ++ ([⟨zb42, true, .cells #[.bool false, .bool n1, .bool n2, .bool n3] 59 (0, 0)⟩, ⟨zb35, true, .cells #[.int .i64 0, .int .i64 65535, .int .i64 (-1), .int .i64 0, .int .i64 0, .int .i64 0, .int .i64 0, .bool false] 54 (0, 0)⟩, ⟨zb28, true, .cells #[.int .i64 0, .int .i64 3, .int .i64 (-1), .int .i64 0, .int .i64 0, .int .i64 0, .int .i64 0, .bool true] 54 (0, 0)⟩, ⟨zb23, true, .cells #[.int .i64 0, .int .i64 3, .int .i64 (-1), .int .i64 0, .int .i64 0, .int .i64 0, .int .i64 0, .bool false] 54 (0, 0)⟩, ⟨zb10, true, .cells (polP p ka kn kc) 48 (0, 0)⟩, ⟨zb1, true, .cells (polC q pa pn pc) 48 (0, 0)⟩] ++ ([] : List Blk))) zw57 := zS58.re (R := ([] : List Blk)) [[⟨zb42, true, .cells #[.bool false, .bool n1, .bool n2, .bool n3] 59 (0, 0)⟩], [⟨zb35, true, .cells #[.int .i64 0, .int .i64 65535, .int .i64 (-1), .int .i64 0, .int .i64 0, .int .i64 0, .int .i64 0, .bool false] 54 (0, 0)⟩], [⟨zb28, true, .cells #[.int .i64 0, .int .i64 3, .int .i64 (-1), .int .i64 0, .int .i64 0, .int .i64 0, .int .i64 0, .bool true] 54 (0, 0)⟩], [⟨zb23, true, .cells #[.int .i64 0, .int .i64 3, .int .i64 (-1), .int .i64 0, .int .i64 0, .int .i64 0, .int .i64 0, .bool false] 54 (0, 0)⟩], [⟨zb10, true, .cells (polP p ka kn kc) 48 (0, 0)⟩], [⟨zb1, true, .cells (polC q pa pn pc) 48 (0, 0)⟩], ql] [6, 0, 1, 2, 3, 4, 5]
     refine (ask_ zb15 (1 + (mo % 3)) L ql p ka kn kc (⟨0, 3, (-1), (⟨0, 0⟩ : Sd.Timer), (⟨0, 0⟩ : Sd.Timer), true⟩ : Sd.Tok) 3 false zf52 (by dsimp only; omega) (by omega) (RK.hr zf53 hp 3) (by have := hp.ask; exact this) _ zS227).mono ?_; rintro _ zw228 ⟨zq223, rfl, zh224, zS229⟩
     have zS231 : St [] w ([⟨zb42, true, .cells #[.bool false, .bool n1, .bool n2, .bool n3] 59 (0, 0)⟩, ⟨zb35, true, .cells #[.int .i64 0, .int .i64 65535, .int .i64 (-1), .int .i64 0, .int .i64 0, .int .i64 0, .int .i64 0, .bool false] 54 (0, 0)⟩, ⟨zb28, true, .cells #[.int .i64 0, .int .i64 3, .int .i64 (-1), .int .i64 0, .int .i64 0, .int .i64 0, .int .i64 0, .bool true] 54 (0, 0)⟩, ⟨zb23, true, .cells #[.int .i64 0, .int .i64 3, .int .i64 (-1), .int .i64 0, .int .i64 0, .int .i64 0, .int .i64 0, .bool false] 54 (0, 0)⟩, ⟨zb10, true, .cells (polP p ka kn kc) 48 (0, 0)⟩, ⟨zb1, true, .cells (polC q pa pn pc) 48 (0, 0)⟩] ++ (zq223 ++ ([] : List Blk))) zw228 := zS229.re (R := ([] : List Blk)) [zq223, [⟨zb42, true, .cells #[.bool false, .bool n1, .bool n2, .bool n3] 59 (0, 0)⟩], [⟨zb35, true, .cells #[.int .i64 0, .int .i64 65535, .int .i64 (-1), .int .i64 0, .int .i64 0, .int .i64 0, .int .i64 0, .bool false] 54 (0, 0)⟩], [⟨zb28, true, .cells #[.int .i64 0, .int .i64 3, .int .i64 (-1), .int .i64 0, .int .i64 0, .int .i64 0, .int .i64 0, .bool true] 54 (0, 0)⟩], [⟨zb23, true, .cells #[.int .i64 0, .int .i64 3, .int .i64 (-1), .int .i64 0, .int .i64 0, .int .i64 0, .int .i64 0, .bool false] 54 (0, 0)⟩], [⟨zb10, true, .cells (polP p ka kn kc) 48 (0, 0)⟩], [⟨zb1, true, .cells (polC q pa pn pc) 48 (0, 0)⟩]] [1, 2, 3, 4, 5, 6, 0]
     refine move_ ?_
     refine pure_ (.agg #[.int .i64 0, .int .i64 3, .int .i64 (-1), .int .i64 0, .int .i64 0, .int .i64 0, .int .i64 0, .bool true]) ?_
     refine pure_ (.int .i64 0) ?_
     refine pure_ (.int .i64 29) ?_
     refine new_ zS231 (fun b => .pointer (some ⟨b, 0, none⟩)) (.cells #[.int .i64 0, .int .i64 0, .int .i64 0, .int .i64 0, .int .i64 0, .int .i64 0, .int .i64 0, .bool false] 54) ?_
     intro zb232 zw233 zS234
     refine store_ zS234 0 (.agg #[.int .i64 0, .int .i64 3, .int .i64 (-1), .int .i64 0, .int .i64 0, .int .i64 0, .int .i64 0, .bool true]) zb232 0 ?_
     intro zw235 zS236
     refine pure_ (.int .i64 0) ?_
     refine pure_ (.int .i64 29) ?_
     refine nil_ (then_n (seq_ (reg_ ?_)))
     refine loadN_ zS236 5 56 (polP p ka kn kc) zb10 0 ?_
     refine loadN_ zS236 2 8 #[.int .i64 0, .int .i64 65535, .int .i64 (-1), .int .i64 0, .int .i64 0, .int .i64 0, .int .i64 0, .bool false] zb35 0 ?_
     refine move_ ?_
     refine pure_ (.int .i64 3) ?_
     refine call_ 23 #[.agg (polP p ka kn kc), .agg #[.int .i64 0, .int .i64 65535, .int .i64 (-1), .int .i64 0, .int .i64 0, .int .i64 0, .int .i64 0, .bool false], .pointer (some ⟨zb15, 0, none⟩), .int .i64 3, .bool false] ?_
     have zS241 : St [] w (zq223 ++ ([⟨zb232, true, .cells #[.int .i64 0, .int .i64 3, .int .i64 (-1), .int .i64 0, .int .i64 0, .int .i64 0, .int .i64 0, .bool true] 54 (0, 0)⟩, ⟨zb42, true, .cells #[.bool false, .bool n1, .bool n2, .bool n3] 59 (0, 0)⟩, ⟨zb35, true, .cells #[.int .i64 0, .int .i64 65535, .int .i64 (-1), .int .i64 0, .int .i64 0, .int .i64 0, .int .i64 0, .bool false] 54 (0, 0)⟩, ⟨zb28, true, .cells #[.int .i64 0, .int .i64 3, .int .i64 (-1), .int .i64 0, .int .i64 0, .int .i64 0, .int .i64 0, .bool true] 54 (0, 0)⟩, ⟨zb23, true, .cells #[.int .i64 0, .int .i64 3, .int .i64 (-1), .int .i64 0, .int .i64 0, .int .i64 0, .int .i64 0, .bool false] 54 (0, 0)⟩, ⟨zb10, true, .cells (polP p ka kn kc) 48 (0, 0)⟩, ⟨zb1, true, .cells (polC q pa pn pc) 48 (0, 0)⟩] ++ ([] : List Blk))) zw235 := zS236.re (R := ([] : List Blk)) [[⟨zb232, true, .cells #[.int .i64 0, .int .i64 3, .int .i64 (-1), .int .i64 0, .int .i64 0, .int .i64 0, .int .i64 0, .bool true] 54 (0, 0)⟩], [⟨zb42, true, .cells #[.bool false, .bool n1, .bool n2, .bool n3] 59 (0, 0)⟩], [⟨zb35, true, .cells #[.int .i64 0, .int .i64 65535, .int .i64 (-1), .int .i64 0, .int .i64 0, .int .i64 0, .int .i64 0, .bool false] 54 (0, 0)⟩], [⟨zb28, true, .cells #[.int .i64 0, .int .i64 3, .int .i64 (-1), .int .i64 0, .int .i64 0, .int .i64 0, .int .i64 0, .bool true] 54 (0, 0)⟩], [⟨zb23, true, .cells #[.int .i64 0, .int .i64 3, .int .i64 (-1), .int .i64 0, .int .i64 0, .int .i64 0, .int .i64 0, .bool false] 54 (0, 0)⟩], [⟨zb10, true, .cells (polP p ka kn kc) 48 (0, 0)⟩], [⟨zb1, true, .cells (polC q pa pn pc) 48 (0, 0)⟩], zq223] [7, 0, 1, 2, 3, 4, 5, 6]
     refine (ask_ zb15 (1 + (mo % 3)) L zq223 p ka kn kc (⟨0, 65535, (-1), (⟨0, 0⟩ : Sd.Timer), (⟨0, 0⟩ : Sd.Timer), false⟩ : Sd.Tok) 3 false zh224 (by dsimp only; omega) (by omega) (RK.hr zf53 hp 3) (by have := hp.ask; exact this) _ zS241).mono ?_; rintro _ zw242 ⟨zq237, rfl, zh238, zS243⟩
     have zS245 : St [] w ([⟨zb232, true, .cells #[.int .i64 0, .int .i64 3, .int .i64 (-1), .int .i64 0, .int .i64 0, .int .i64 0, .int .i64 0, .bool true] 54 (0, 0)⟩, ⟨zb42, true, .cells #[.bool false, .bool n1, .bool n2, .bool n3] 59 (0, 0)⟩, ⟨zb35, true, .cells #[.int .i64 0, .int .i64 65535, .int .i64 (-1), .int .i64 0, .int .i64 0, .int .i64 0, .int .i64 0, .bool false] 54 (0, 0)⟩, ⟨zb28, true, .cells #[.int .i64 0, .int .i64 3, .int .i64 (-1), .int .i64 0, .int .i64 0, .int .i64 0, .int .i64 0, .bool true] 54 (0, 0)⟩, ⟨zb23, true, .cells #[.int .i64 0, .int .i64 3, .int .i64 (-1), .int .i64 0, .int .i64 0, .int .i64 0, .int .i64 0, .bool false] 54 (0, 0)⟩, ⟨zb10, true, .cells (polP p ka kn kc) 48 (0, 0)⟩, ⟨zb1, true, .cells (polC q pa pn pc) 48 (0, 0)⟩] ++ (zq237 ++ ([] : List Blk))) zw242 := zS243.re (R := ([] : List Blk)) [zq237, [⟨zb232, true, .cells #[.int .i64 0, .int .i64 3, .int .i64 (-1), .int .i64 0, .int .i64 0, .int .i64 0, .int .i64 0, .bool true] 54 (0, 0)⟩], [⟨zb42, true, .cells #[.bool false, .bool n1, .bool n2, .bool n3] 59 (0, 0)⟩], [⟨zb35, true, .cells #[.int .i64 0, .int .i64 65535, .int .i64 (-1), .int .i64 0, .int .i64 0, .int .i64 0, .int .i64 0, .bool false] 54 (0, 0)⟩], [⟨zb28, true, .cells #[.int .i64 0, .int .i64 3, .int .i64 (-1), .int .i64 0, .int .i64 0, .int .i64 0, .int .i64 0, .bool true] 54 (0, 0)⟩], [⟨zb23, true, .cells #[.int .i64 0, .int .i64 3, .int .i64 (-1), .int .i64 0, .int .i64 0, .int .i64 0, .int .i64 0, .bool false] 54 (0, 0)⟩], [⟨zb10, true, .cells (polP p ka kn kc) 48 (0, 0)⟩], [⟨zb1, true, .cells (polC q pa pn pc) 48 (0, 0)⟩]] [1, 2, 3, 4, 5, 6, 7, 0]
     refine move_ ?_
     refine pure_ (.agg #[.int .i64 0, .int .i64 65535, .int .i64 (-1), .int .i64 0, .int .i64 0, .int .i64 0, .int .i64 0, .bool false]) ?_
     refine pure_ (.int .i64 0) ?_
     refine pure_ (.int .i64 24) ?_
     refine new_ zS245 (fun b => .pointer (some ⟨b, 0, none⟩)) (.cells #[.int .i64 0, .int .i64 0, .int .i64 0, .int .i64 0, .int .i64 0, .int .i64 0, .int .i64 0, .bool false] 54) ?_
     intro zb246 zw247 zS248
     refine store_ zS248 0 (.agg #[.int .i64 0, .int .i64 65535, .int .i64 (-1), .int .i64 0, .int .i64 0, .int .i64 0, .int .i64 0, .bool false]) zb246 0 ?_
     intro zw249 zS250
     refine pure_ (.int .i64 0) ?_
     refine pure_ (.int .i64 24) ?_
     refine nil_ (then_n (seq_ (reg_ ?_)))
     refine loadN_ zS250 6 56 (polP p ka kn kc) zb10 0 ?_
     refine loadN_ zS250 5 8 #[.int .i64 0, .int .i64 3, .int .i64 (-1), .int .i64 0, .int .i64 0, .int .i64 0, .int .i64 0, .bool false] zb23 0 ?_
     refine move_ ?_
     refine call_ 23 #[.agg (polP p ka kn kc), .agg #[.int .i64 0, .int .i64 3, .int .i64 (-1), .int .i64 0, .int .i64 0, .int .i64 0, .int .i64 0, .bool false], .pointer (some ⟨zb15, 0, none⟩), .int .i64 0, .bool false] ?_
     have zS255 : St [] w (zq237 ++ ([⟨zb246, true, .cells #[.int .i64 0, .int .i64 65535, .int .i64 (-1), .int .i64 0, .int .i64 0, .int .i64 0, .int .i64 0, .bool false] 54 (0, 0)⟩, ⟨zb232, true, .cells #[.int .i64 0, .int .i64 3, .int .i64 (-1), .int .i64 0, .int .i64 0, .int .i64 0, .int .i64 0, .bool true] 54 (0, 0)⟩, ⟨zb42, true, .cells #[.bool false, .bool n1, .bool n2, .bool n3] 59 (0, 0)⟩, ⟨zb35, true, .cells #[.int .i64 0, .int .i64 65535, .int .i64 (-1), .int .i64 0, .int .i64 0, .int .i64 0, .int .i64 0, .bool false] 54 (0, 0)⟩, ⟨zb28, true, .cells #[.int .i64 0, .int .i64 3, .int .i64 (-1), .int .i64 0, .int .i64 0, .int .i64 0, .int .i64 0, .bool true] 54 (0, 0)⟩, ⟨zb23, true, .cells #[.int .i64 0, .int .i64 3, .int .i64 (-1), .int .i64 0, .int .i64 0, .int .i64 0, .int .i64 0, .bool false] 54 (0, 0)⟩, ⟨zb10, true, .cells (polP p ka kn kc) 48 (0, 0)⟩, ⟨zb1, true, .cells (polC q pa pn pc) 48 (0, 0)⟩] ++ ([] : List Blk))) zw249 := zS250.re (R := ([] : List Blk)) [[⟨zb246, true, .cells #[.int .i64 0, .int .i64 65535, .int .i64 (-1), .int .i64 0, .int .i64 0, .int .i64 0, .int .i64 0, .bool false] 54 (0, 0)⟩], [⟨zb232, true, .cells #[.int .i64 0, .int .i64 3, .int .i64 (-1), .int .i64 0, .int .i64 0, .int .i64 0, .int .i64 0, .bool true] 54 (0, 0)⟩], [⟨zb42, true, .cells #[.bool false, .bool n1, .bool n2, .bool n3] 59 (0, 0)⟩], [⟨zb35, true, .cells #[.int .i64 0, .int .i64 65535, .int .i64 (-1), .int .i64 0, .int .i64 0, .int .i64 0, .int .i64 0, .bool false] 54 (0, 0)⟩], [⟨zb28, true, .cells #[.int .i64 0, .int .i64 3, .int .i64 (-1), .int .i64 0, .int .i64 0, .int .i64 0, .int .i64 0, .bool true] 54 (0, 0)⟩], [⟨zb23, true, .cells #[.int .i64 0, .int .i64 3, .int .i64 (-1), .int .i64 0, .int .i64 0, .int .i64 0, .int .i64 0, .bool false] 54 (0, 0)⟩], [⟨zb10, true, .cells (polP p ka kn kc) 48 (0, 0)⟩], [⟨zb1, true, .cells (polC q pa pn pc) 48 (0, 0)⟩], zq237] [8, 0, 1, 2, 3, 4, 5, 6, 7]
     refine (ask_ zb15 (1 + (mo % 3)) L zq237 p ka kn kc (⟨0, 3, (-1), (⟨0, 0⟩ : Sd.Timer), (⟨0, 0⟩ : Sd.Timer), false⟩ : Sd.Tok) 0 false zh238 (by dsimp only; omega) (by omega) (RK.hr zf53 hp 0) (by have := hp.ask; exact this) _ zS255).mono ?_; rintro _ zw256 ⟨zq251, rfl, zh252, zS257⟩
     have zS259 : St [] w ([⟨zb246, true, .cells #[.int .i64 0, .int .i64 65535, .int .i64 (-1), .int .i64 0, .int .i64 0, .int .i64 0, .int .i64 0, .bool false] 54 (0, 0)⟩, ⟨zb232, true, .cells #[.int .i64 0, .int .i64 3, .int .i64 (-1), .int .i64 0, .int .i64 0, .int .i64 0, .int .i64 0, .bool true] 54 (0, 0)⟩, ⟨zb42, true, .cells #[.bool false, .bool n1, .bool n2, .bool n3] 59 (0, 0)⟩, ⟨zb35, true, .cells #[.int .i64 0, .int .i64 65535, .int .i64 (-1), .int .i64 0, .int .i64 0, .int .i64 0, .int .i64 0, .bool false] 54 (0, 0)⟩, ⟨zb28, true, .cells #[.int .i64 0, .int .i64 3, .int .i64 (-1), .int .i64 0, .int .i64 0, .int .i64 0, .int .i64 0, .bool true] 54 (0, 0)⟩, ⟨zb23, true, .cells #[.int .i64 0, .int .i64 3, .int .i64 (-1), .int .i64 0, .int .i64 0, .int .i64 0, .int .i64 0, .bool false] 54 (0, 0)⟩, ⟨zb10, true, .cells (polP p ka kn kc) 48 (0, 0)⟩, ⟨zb1, true, .cells (polC q pa pn pc) 48 (0, 0)⟩] ++ (zq251 ++ ([] : List Blk))) zw256 := zS257.re (R := ([] : List Blk)) [zq251, [⟨zb246, true, .cells #[.int .i64 0, .int .i64 65535, .int .i64 (-1), .int .i64 0, .int .i64 0, .int .i64 0, .int .i64 0, .bool false] 54 (0, 0)⟩], [⟨zb232, true, .cells #[.int .i64 0, .int .i64 3, .int .i64 (-1), .int .i64 0, .int .i64 0, .int .i64 0, .int .i64 0, .bool true] 54 (0, 0)⟩], [⟨zb42, true, .cells #[.bool false, .bool n1, .bool n2, .bool n3] 59 (0, 0)⟩], [⟨zb35, true, .cells #[.int .i64 0, .int .i64 65535, .int .i64 (-1), .int .i64 0, .int .i64 0, .int .i64 0, .int .i64 0, .bool false] 54 (0, 0)⟩], [⟨zb28, true, .cells #[.int .i64 0, .int .i64 3, .int .i64 (-1), .int .i64 0, .int .i64 0, .int .i64 0, .int .i64 0, .bool true] 54 (0, 0)⟩], [⟨zb23, true, .cells #[.int .i64 0, .int .i64 3, .int .i64 (-1), .int .i64 0, .int .i64 0, .int .i64 0, .int .i64 0, .bool false] 54 (0, 0)⟩], [⟨zb10, true, .cells (polP p ka kn kc) 48 (0, 0)⟩], [⟨zb1, true, .cells (polC q pa pn pc) 48 (0, 0)⟩]] [1, 2, 3, 4, 5, 6, 7, 8, 0]
     refine move_ ?_
     refine pure_ (.agg #[.int .i64 0, .int .i64 3, .int .i64 (-1), .int .i64 0, .int .i64 0, .int .i64 0, .int .i64 0, .bool false]) ?_
     refine pure_ (.int .i64 0) ?_
     refine pure_ (.int .i64 25) ?_
     refine new_ zS259 (fun b => .pointer (some ⟨b, 0, none⟩)) (.cells #[.int .i64 0, .int .i64 0, .int .i64 0, .int .i64 0, .int .i64 0, .int .i64 0, .int .i64 0, .bool false] 54) ?_
     intro zb260 zw261 zS262
     refine store_ zS262 0 (.agg #[.int .i64 0, .int .i64 3, .int .i64 (-1), .int .i64 0, .int .i64 0, .int .i64 0, .int .i64 0, .bool false]) zb260 0 ?_
     intro zw263 zS264
     refine pure_ (.int .i64 0) ?_
     refine pure_ (.int .i64 25) ?_
     refine nil_ (then_n (seq_ (reg_ ?_)))
     refine loadN_ zS264 7 56 (polP p ka kn kc) zb10 0 ?_
     refine loadN_ zS264 6 8 #[.int .i64 0, .int .i64 3, .int .i64 (-1), .int .i64 0, .int .i64 0, .int .i64 0, .int .i64 0, .bool false] zb23 0 ?_
     refine move_ ?_
     refine pure_ (.int .i64 3) ?_
     refine call_ 23 #[.agg (polP p ka kn kc), .agg #[.int .i64 0, .int .i64 3, .int .i64 (-1), .int .i64 0, .int .i64 0, .int .i64 0, .int .i64 0, .bool false], .pointer (some ⟨zb15, 0, none⟩), .int .i64 3, .bool false] ?_
     have zS271 : St [] w (zq251 ++ ([⟨zb260, true, .cells #[.int .i64 0, .int .i64 3, .int .i64 (-1), .int .i64 0, .int .i64 0, .int .i64 0, .int .i64 0, .bool false] 54 (0, 0)⟩, ⟨zb246, true, .cells #[.int .i64 0, .int .i64 65535, .int .i64 (-1), .int .i64 0, .int .i64 0, .int .i64 0, .int .i64 0, .bool false] 54 (0, 0)⟩, ⟨zb232, true, .cells #[.int .i64 0, .int .i64 3, .int .i64 (-1), .int .i64 0, .int .i64 0, .int .i64 0, .int .i64 0, .bool true] 54 (0, 0)⟩, ⟨zb42, true, .cells #[.bool false, .bool n1, .bool n2, .bool n3] 59 (0, 0)⟩, ⟨zb35, true, .cells #[.int .i64 0, .int .i64 65535, .int .i64 (-1), .int .i64 0, .int .i64 0, .int .i64 0, .int .i64 0, .bool false] 54 (0, 0)⟩, ⟨zb28, true, .cells #[.int .i64 0, .int .i64 3, .int .i64 (-1), .int .i64 0, .int .i64 0, .int .i64 0, .int .i64 0, .bool true] 54 (0, 0)⟩, ⟨zb23, true, .cells #[.int .i64 0, .int .i64 3, .int .i64 (-1), .int .i64 0, .int .i64 0, .int .i64 0, .int .i64 0, .bool false] 54 (0, 0)⟩, ⟨zb10, true, .cells (polP p ka kn kc) 48 (0, 0)⟩, ⟨zb1, true, .cells (polC q pa pn pc) 48 (0, 0)⟩] ++ ([] : List Blk))) zw263 := zS264.re (R := ([] : List Blk)) [[⟨zb260, true, .cells #[.int .i64 0, .int .i64 3, .int .i64 (-1), .int .i64 0, .int .i64 0, .int .i64 0, .int .i64 0, .bool false] 54 (0, 0)⟩], [⟨zb246, true, .cells #[.int .i64 0, .int .i64 65535, .int .i64 (-1), .int .i64 0, .int .i64 0, .int .i64 0, .int .i64 0, .bool false] 54 (0, 0)⟩], [⟨zb232, true, .cells #[.int .i64 0, .int .i64 3, .int .i64 (-1), .int .i64 0, .int .i64 0, .int .i64 0, .int .i64 0, .bool true] 54 (0, 0)⟩], [⟨zb42, true, .cells #[.bool false, .bool n1, .bool n2, .bool n3] 59 (0, 0)⟩], [⟨zb35, true, .cells #[.int .i64 0, .int .i64 65535, .int .i64 (-1), .int .i64 0, .int .i64 0, .int .i64 0, .int .i64 0, .bool false] 54 (0, 0)⟩], [⟨zb28, true, .cells #[.int .i64 0, .int .i64 3, .int .i64 (-1), .int .i64 0, .int .i64 0, .int .i64 0, .int .i64 0, .bool true] 54 (0, 0)⟩], [⟨zb23, true, .cells #[.int .i64 0, .int .i64 3, .int .i64 (-1), .int .i64 0, .int .i64 0, .int .i64 0, .int .i64 0, .bool false] 54 (0, 0)⟩], [⟨zb10, true, .cells (polP p ka kn kc) 48 (0, 0)⟩], [⟨zb1, true, .cells (polC q pa pn pc) 48 (0, 0)⟩], zq251] [9, 0, 1, 2, 3, 4, 5, 6, 7, 8]
     refine ((show Gives Try.prog 23 #[.agg (polP p ka kn kc), .agg #[.int .i64 0, .int .i64 3, .int .i64 (-1), .int .i64 0, .int .i64 0, .int .i64 0, .int .i64 0, .bool false], .pointer (some ⟨zb15, 0, none⟩), .int .i64 3, .bool false] _ (fun v w1 => ∃ bl1, v = .tuple #[.agg #[.int .i64 0, .int .i64 3, .int .i64 (-1), .int .i64 0, .int .i64 0, .int .i64 0, .int .i64 0, .bool false], .int .i64 0, .int .i64 (Sd.Q.push (1 + (mo % 3)) L (⟨3, Sd.placeOf p 3, Sd.Timer.start (p.i 45)⟩ : Sd.Ask)).2] ∧ QS zb15 (1 + (mo % 3)) (Sd.Q.push (1 + (mo % 3)) L (⟨3, Sd.placeOf p 3, Sd.Timer.start (p.i 45)⟩ : Sd.Ask)).1 bl1 ∧ _) from ask_ zb15 (1 + (mo % 3)) L zq251 p ka kn kc (⟨0, 3, (-1), (⟨0, 0⟩ : Sd.Timer), (⟨0, 0⟩ : Sd.Timer), false⟩ : Sd.Tok) 3 false zh252 (by dsimp only; omega) (by omega) (RK.hr zf53 hp 3) (by have := hp.ask; exact this) _ zS271)).mono ?_; rintro _ zw272 ⟨zq265, rfl, zh266, zS273⟩
     generalize ze275 : Sd.Q.push (1 + (mo % 3)) L (⟨3, Sd.placeOf p 3, Sd.Timer.start (p.i 45)⟩ : Sd.Ask) = zr269 at zh266 ⊢
     have zh270 : RK p zr269.1 := by rw [← ze275]; exact RK.push zf53 _ _ rfl (by dsimp only; omega)
     have zS276 : St [] w ([⟨zb260, true, .cells #[.int .i64 0, .int .i64 3, .int .i64 (-1), .int .i64 0, .int .i64 0, .int .i64 0, .int .i64 0, .bool false] 54 (0, 0)⟩, ⟨zb246, true, .cells #[.int .i64 0, .int .i64 65535, .int .i64 (-1), .int .i64 0, .int .i64 0, .int .i64 0, .int .i64 0, .bool false] 54 (0, 0)⟩, ⟨zb232, true, .cells #[.int .i64 0, .int .i64 3, .int .i64 (-1), .int .i64 0, .int .i64 0, .int .i64 0, .int .i64 0, .bool true] 54 (0, 0)⟩, ⟨zb42, true, .cells #[.bool false, .bool n1, .bool n2, .bool n3] 59 (0, 0)⟩, ⟨zb35, true, .cells #[.int .i64 0, .int .i64 65535, .int .i64 (-1), .int .i64 0, .int .i64 0, .int .i64 0, .int .i64 0, .bool false] 54 (0, 0)⟩, ⟨zb28, true, .cells #[.int .i64 0, .int .i64 3, .int .i64 (-1), .int .i64 0, .int .i64 0, .int .i64 0, .int .i64 0, .bool true] 54 (0, 0)⟩, ⟨zb23, true, .cells #[.int .i64 0, .int .i64 3, .int .i64 (-1), .int .i64 0, .int .i64 0, .int .i64 0, .int .i64 0, .bool false] 54 (0, 0)⟩, ⟨zb10, true, .cells (polP p ka kn kc) 48 (0, 0)⟩, ⟨zb1, true, .cells (polC q pa pn pc) 48 (0, 0)⟩] ++ (zq265 ++ ([] : List Blk))) zw272 := zS273.re (R := ([] : List Blk)) [zq265, [⟨zb260, true, .cells #[.int .i64 0, .int .i64 3, .int .i64 (-1), .int .i64 0, .int .i64 0, .int .i64 0, .int .i64 0, .bool false] 54 (0, 0)⟩], [⟨zb246, true, .cells #[.int .i64 0, .int .i64 65535, .int .i64 (-1), .int .i64 0, .int .i64 0, .int .i64 0, .int .i64 0, .bool false] 54 (0, 0)⟩], [⟨zb232, true, .cells #[.int .i64 0, .int .i64 3, .int .i64 (-1), .int .i64 0, .int .i64 0, .int .i64 0, .int .i64 0, .bool true] 54 (0, 0)⟩], [⟨zb42, true, .cells #[.bool false, .bool n1, .bool n2, .bool n3] 59 (0, 0)⟩], [⟨zb35, true, .cells #[.int .i64 0, .int .i64 65535, .int .i64 (-1), .int .i64 0, .int .i64 0, .int .i64 0, .int .i64 0, .bool false] 54 (0, 0)⟩], [⟨zb28, true, .cells #[.int .i64 0, .int .i64 3, .int .i64 (-1), .int .i64 0, .int .i64 0, .int .i64 0, .int .i64 0, .bool true] 54 (0, 0)⟩], [⟨zb23, true, .cells #[.int .i64 0, .int .i64 3, .int .i64 (-1), .int .i64 0, .int .i64 0, .int .i64 0, .int .i64 0, .bool false] 54 (0, 0)⟩], [⟨zb10, true, .cells (polP p ka kn kc) 48 (0, 0)⟩], [⟨zb1, true, .cells (polC q pa pn pc) 48 (0, 0)⟩]] [1, 2, 3, 4, 5, 6, 7, 8, 9, 0]
     refine move_ ?_
     refine pure_ (.agg #[.int .i64 0, .int .i64 3, .int .i64 (-1), .int .i64 0, .int .i64 0, .int .i64 0, .int .i64 0, .bool false]) ?_
     refine pure_ (.int .i64 0) ?_
     refine pure_ (.int .i64 zr269.2) ?_
     refine new_ zS276 (fun b => .pointer (some ⟨b, 0, none⟩)) (.cells #[.int .i64 0, .int .i64 0, .int .i64 0, .int .i64 0, .int .i64 0, .int .i64 0, .int .i64 0, .bool false] 54) ?_
     intro zb277 zw278 zS279
     refine store_ zS279 0 (.agg #[.int .i64 0, .int .i64 3, .int .i64 (-1), .int .i64 0, .int .i64 0, .int .i64 0, .int .i64 0, .bool false]) zb277 0 ?_
     intro zw280 zS281
     refine pure_ (.int .i64 0) ?_
     refine pure_ (.int .i64 zr269.2) ?_
     refine nil_ (then_n (seq_ (reg_ ?_)))
     refine pure_ (.int .i64 0) ?_
     refine nil_ (then_n (seq_ (seq_ (reg_ ?_))))
     refine pure_ (.int .i64 3) ?_
     refine pure_ (.pointer (some ⟨zb42, 3, none⟩)) ?_
     refine load1_ zS281 4 (.bool n3) zb42 3 ?_
     refine nil_ (then_n ?_)
     refine cond_S n3 ?_ ?_
     · intro zh282
       obtain ⟨zh283, zh284⟩ := push_again ze275 (zh3.trans zh282)
       refine reg_ ?_
       refine pure_ (.int .i64 27) ?_
       refine nil_ (then_n (seq_ (seq_ (reg_ ?_))))
       refine pure_ (.int .i64 29) ?_
       refine pure_ (.bool false) ?_
       refine pure_ (.bool false) ?_
       refine pure_ (.int .i64 24) ?_
       refine pure_ (.bool false) ?_
       refine pure_ (.bool false) ?_
       refine pure_ (.bool false) ?_
       refine pure_ (.int .i64 25) ?_
       refine pure_ (.bool false) ?_
       refine pure_ (.bool false) ?_
       refine pure_ (.bool false) ?_
       refine loadN_ zS281 0 8 #[.int .i64 0, .int .i64 3, .int .i64 (-1), .int .i64 0, .int .i64 0, .int .i64 0, .int .i64 0, .bool false] zb277 0 ?_
       refine loadN_ zS281 7 8 #[.int .i64 0, .int .i64 3, .int .i64 (-1), .int .i64 0, .int .i64 0, .int .i64 0, .int .i64 0, .bool false] zb23 0 ?_
       refine eqAgg_ true true #[.int .i64 0, .int .i64 3, .int .i64 (-1), .int .i64 0, .int .i64 0, .int .i64 0, .int .i64 0, .bool false] #[.int .i64 0, .int .i64 3, .int .i64 (-1), .int .i64 0, .int .i64 0, .int .i64 0, .int .i64 0, .bool false] ?_
       refine pure_ (.bool false) ?_
       refine pure_ (.bool false) ?_
       refine pure_ (.int .i64 0) ?_
       refine pure_ (.bool false) ?_
       refine pure_ (.bool false) ?_
       refine pure_ (.bool false) ?_
       refine pure_ (.int .i64 zr269.2) ?_
       refine pure_ (.int .i64 27) ?_
       refine pureE_ (.bool (zr269.2 != 27)) (.bool false) (congrArg Value.bool (neF (by omega))) ?_
       refine pure_ (.bool false) ?_
       refine nil_ (then_n (cond_F ?_))
       refine wp_skip (then_n (seq_ (reg_ ?_)))
       refine pure_ (.int .i64 zr269.2) ?_
       refine pureE_ (.bool (zr269.2 == 0)) (.bool false) (congrArg Value.bool (eqF (by omega))) ?_
       refine nil_ (then_n (cond_F ?_))
       refine wp_skip (blk_n (then_n (reg_ ?_)))
       refine pure_ (.int .i64 i) ?_
       refine sum_ .i64 (i + 1) (IntWalk.i64_in _ (by omega)) ?_
       refine pure_ (.int .i64 (i + 1)) ?_
       refine nil_ ?_
       refine then_j fun zy zye => ?_
       exact ⟨_, by omega, (i + 1), many, n1, n2, n3, zr269.1, zq265, (fun d => zy.tmps.getD d undef), ⟨rfl, by omega, by omega, by have := congrArg List.length zh284; omega, by have := congrArg List.length zh284; omega, zh266, zh270, by rw [zh284]; exact zh1, by rw [zh284]; exact zh2, by rw [zh284]; exact zh3⟩, by subst zye; kernel_rfl, zS281.re (R := ([] : List Blk)) [[⟨zb277, true, .cells #[.int .i64 0, .int .i64 3, .int .i64 (-1), .int .i64 0, .int .i64 0, .int .i64 0, .int .i64 0, .bool false] 54 (0, 0)⟩], [⟨zb260, true, .cells #[.int .i64 0, .int .i64 3, .int .i64 (-1), .int .i64 0, .int .i64 0, .int .i64 0, .int .i64 0, .bool false] 54 (0, 0)⟩], [⟨zb246, true, .cells #[.int .i64 0, .int .i64 65535, .int .i64 (-1), .int .i64 0, .int .i64 0, .int .i64 0, .int .i64 0, .bool false] 54 (0, 0)⟩], [⟨zb232, true, .cells #[.int .i64 0, .int .i64 3, .int .i64 (-1), .int .i64 0, .int .i64 0, .int .i64 0, .int .i64 0, .bool true] 54 (0, 0)⟩], [⟨zb42, true, .cells #[.bool false, .bool n1, .bool n2, .bool n3] 59 (0, 0)⟩], [⟨zb35, true, .cells #[.int .i64 0, .int .i64 65535, .int .i64 (-1), .int .i64 0, .int .i64 0, .int .i64 0, .int .i64 0, .bool false] 54 (0, 0)⟩], [⟨zb28, true, .cells #[.int .i64 0, .int .i64 3, .int .i64 (-1), .int .i64 0, .int .i64 0, .int .i64 0, .int .i64 0, .bool true] 54 (0, 0)⟩], [⟨zb23, true, .cells #[.int .i64 0, .int .i64 3, .int .i64 (-1), .int .i64 0, .int .i64 0, .int .i64 0, .int .i64 0, .bool false] 54 (0, 0)⟩], [⟨zb10, true, .cells (polP p ka kn kc) 48 (0, 0)⟩], [⟨zb1, true, .cells (polC q pa pn pc) 48 (0, 0)⟩], zq265] [4, 5, 6, 7, 8, 9, 10]⟩
     intro zh285
     refine seq_ (reg_ ?_)
     refine pure_ (.int .i64 many) ?_
     refine pure_ (.int .i64 (1 + (mo % 3))) ?_
     refine pure_ (.bool (many == (1 + (mo % 3)))) ?_
     refine nil_ (then_n ?_)
     refine cond_S (many == (1 + (mo % 3))) ?_ ?_
     · intro zh286
       have zh287 := eqT' zh286
       obtain ⟨zh288, zh289⟩ := push_full ze275 (zh3.trans zh285) (by omega)
       refine reg_ ?_
       refine pure_ (.int .i64 3) ?_
       refine nil_ (then_n (seq_ (seq_ (reg_ ?_))))
       refine pure_ (.int .i64 29) ?_
       refine pure_ (.bool false) ?_
       refine pure_ (.bool false) ?_
       refine pure_ (.int .i64 24) ?_
       refine pure_ (.bool false) ?_
       refine pure_ (.bool false) ?_
       refine pure_ (.bool false) ?_
       refine pure_ (.int .i64 25) ?_
       refine pure_ (.bool false) ?_
       refine pure_ (.bool false) ?_
       refine pure_ (.bool false) ?_
       refine loadN_ zS281 0 8 #[.int .i64 0, .int .i64 3, .int .i64 (-1), .int .i64 0, .int .i64 0, .int .i64 0, .int .i64 0, .bool false] zb277 0 ?_
       refine loadN_ zS281 7 8 #[.int .i64 0, .int .i64 3, .int .i64 (-1), .int .i64 0, .int .i64 0, .int .i64 0, .int .i64 0, .bool false] zb23 0 ?_
       refine eqAgg_ true true #[.int .i64 0, .int .i64 3, .int .i64 (-1), .int .i64 0, .int .i64 0, .int .i64 0, .int .i64 0, .bool false] #[.int .i64 0, .int .i64 3, .int .i64 (-1), .int .i64 0, .int .i64 0, .int .i64 0, .int .i64 0, .bool false] ?_
       refine pure_ (.bool false) ?_
       refine pure_ (.bool false) ?_
       refine pure_ (.int .i64 0) ?_
       refine pure_ (.bool false) ?_
       refine pure_ (.bool false) ?_
       refine pure_ (.bool false) ?_
       refine pure_ (.int .i64 zr269.2) ?_
       refine pure_ (.int .i64 3) ?_
       refine pureE_ (.bool (zr269.2 != 3)) (.bool false) (congrArg Value.bool (neF (by omega))) ?_
       refine pure_ (.bool false) ?_
       refine nil_ (then_n (cond_F ?_))
       refine wp_skip (then_n (seq_ (reg_ ?_)))
       refine pure_ (.int .i64 zr269.2) ?_
       refine pureE_ (.bool (zr269.2 == 0)) (.bool false) (congrArg Value.bool (eqF (by omega))) ?_
       refine nil_ (then_n (cond_F ?_))
       refine wp_skip (blk_n (then_n (reg_ ?_)))
       refine pure_ (.int .i64 i) ?_
       refine sum_ .i64 (i + 1) (IntWalk.i64_in _ (by omega)) ?_
       refine pure_ (.int .i64 (i + 1)) ?_
       refine nil_ ?_
       refine then_j fun zy zye => ?_
       exact ⟨_, by omega, (i + 1), many, n1, n2, n3, zr269.1, zq265, (fun d => zy.tmps.getD d undef), ⟨rfl, by omega, by omega, by have := congrArg List.length zh289; omega, by have := congrArg List.length zh289; omega, zh266, zh270, by rw [zh289]; exact zh1, by rw [zh289]; exact zh2, by rw [zh289]; exact zh3⟩, by subst zye; kernel_rfl, zS281.re (R := ([] : List Blk)) [[⟨zb277, true, .cells #[.int .i64 0, .int .i64 3, .int .i64 (-1), .int .i64 0, .int .i64 0, .int .i64 0, .int .i64 0, .bool false] 54 (0, 0)⟩], [⟨zb260, true, .cells #[.int .i64 0, .int .i64 3, .int .i64 (-1), .int .i64 0, .int .i64 0, .int .i64 0, .int .i64 0, .bool false] 54 (0, 0)⟩], [⟨zb246, true, .cells #[.int .i64 0, .int .i64 65535, .int .i64 (-1), .int .i64 0, .int .i64 0, .int .i64 0, .int .i64 0, .bool false] 54 (0, 0)⟩], [⟨zb232, true, .cells #[.int .i64 0, .int .i64 3, .int .i64 (-1), .int .i64 0, .int .i64 0, .int .i64 0, .int .i64 0, .bool true] 54 (0, 0)⟩], [⟨zb42, true, .cells #[.bool false, .bool n1, .bool n2, .bool n3] 59 (0, 0)⟩], [⟨zb35, true, .cells #[.int .i64 0, .int .i64 65535, .int .i64 (-1), .int .i64 0, .int .i64 0, .int .i64 0, .int .i64 0, .bool false] 54 (0, 0)⟩], [⟨zb28, true, .cells #[.int .i64 0, .int .i64 3, .int .i64 (-1), .int .i64 0, .int .i64 0, .int .i64 0, .int .i64 0, .bool true] 54 (0, 0)⟩], [⟨zb23, true, .cells #[.int .i64 0, .int .i64 3, .int .i64 (-1), .int .i64 0, .int .i64 0, .int .i64 0, .int .i64 0, .bool false] 54 (0, 0)⟩], [⟨zb10, true, .cells (polP p ka kn kc) 48 (0, 0)⟩], [⟨zb1, true, .cells (polC q pa pn pc) 48 (0, 0)⟩], zq265] [4, 5, 6, 7, 8, 9, 10]⟩
     intro zh291
     have zh292 := eqF' zh291
     obtain ⟨zh293, zh295, zh294⟩ := push_ok ze275 (zh3.trans zh285) (by omega)
     refine wp_skip (then_n (seq_ (seq_ (reg_ ?_))))
     refine pure_ (.int .i64 29) ?_
     refine pure_ (.bool false) ?_
     refine pure_ (.bool false) ?_
     refine pure_ (.int .i64 24) ?_
     refine pure_ (.bool false) ?_
     refine pure_ (.bool false) ?_
     refine pure_ (.bool false) ?_
     refine pure_ (.int .i64 25) ?_
     refine pure_ (.bool false) ?_
     refine pure_ (.bool false) ?_
     refine pure_ (.bool false) ?_
     refine loadN_ zS281 0 8 #[.int .i64 0, .int .i64 3, .int .i64 (-1), .int .i64 0, .int .i64 0, .int .i64 0, .int .i64 0, .bool false] zb277 0 ?_
     refine loadN_ zS281 7 8 #[.int .i64 0, .int .i64 3, .int .i64 (-1), .int .i64 0, .int .i64 0, .int .i64 0, .int .i64 0, .bool false] zb23 0 ?_
     refine eqAgg_ true true #[.int .i64 0, .int .i64 3, .int .i64 (-1), .int .i64 0, .int .i64 0, .int .i64 0, .int .i64 0, .bool false] #[.int .i64 0, .int .i64 3, .int .i64 (-1), .int .i64 0, .int .i64 0, .int .i64 0, .int .i64 0, .bool false] ?_
     refine pure_ (.bool false) ?_
     refine pure_ (.bool false) ?_
     refine pure_ (.int .i64 0) ?_
     refine pure_ (.bool false) ?_
     refine pure_ (.bool false) ?_
     refine pure_ (.bool false) ?_
     refine pure_ (.int .i64 zr269.2) ?_
     refine pure_ (.int .i64 0) ?_
     refine pureE_ (.bool (zr269.2 != 0)) (.bool false) (congrArg Value.bool (neF (by omega))) ?_
     refine pure_ (.bool false) ?_
     refine nil_ (then_n (cond_F ?_))
     refine wp_skip (then_n (seq_ (reg_ ?_)))
     refine pure_ (.int .i64 zr269.2) ?_
     refine pureE_ (.bool (zr269.2 == 0)) (.bool true) (congrArg Value.bool (eqT (by omega))) ?_
     refine nil_ (then_n (cond_T ?_))
     refine seq_ (reg_ ?_)
     refine pure_ (.int .i64 3) ?_
     refine pure_ (.pointer (some ⟨zb42, 3, none⟩)) ?_
     refine store_ zS281 4 (.bool true) zb42 3 ?_
     intro zw296 zS297
     refine nil_ (then_n (reg_ ?_))
     refine pure_ (.int .i64 many) ?_
     refine sum_ .i64 (many + 1) (IntWalk.i64_in _ (by omega)) ?_
     refine pure_ (.int .i64 (many + 1)) ?_
     refine nil_ (blk_n (then_n (reg_ ?_)))
     refine pure_ (.int .i64 i) ?_
     refine sum_ .i64 (i + 1) (IntWalk.i64_in _ (by omega)) ?_
     refine pure_ (.int .i64 (i + 1)) ?_
     refine nil_ ?_
     refine then_j fun zy zye => ?_
     exact ⟨_, by omega, (i + 1), (many + 1), n1, n2, true, zr269.1, zq265, (fun d => zy.tmps.getD d undef), ⟨rfl, by omega, by omega, by omega, by omega, zh266, zh270, by rw [zh294, zh1]; simp, by rw [zh294, zh2]; simp, by rw [zh294]; simp⟩, by subst zye; kernel_rfl, zS297.re (R := ([] : List Blk)) [[⟨zb277, true, .cells #[.int .i64 0, .int .i64 3, .int .i64 (-1), .int .i64 0, .int .i64 0, .int .i64 0, .int .i64 0, .bool false] 54 (0, 0)⟩], [⟨zb260, true, .cells #[.int .i64 0, .int .i64 3, .int .i64 (-1), .int .i64 0, .int .i64 0, .int .i64 0, .int .i64 0, .bool false] 54 (0, 0)⟩], [⟨zb246, true, .cells #[.int .i64 0, .int .i64 65535, .int .i64 (-1), .int .i64 0, .int .i64 0, .int .i64 0, .int .i64 0, .bool false] 54 (0, 0)⟩], [⟨zb232, true, .cells #[.int .i64 0, .int .i64 3, .int .i64 (-1), .int .i64 0, .int .i64 0, .int .i64 0, .int .i64 0, .bool true] 54 (0, 0)⟩], [⟨zb42, true, .cells #[.bool false, .bool n1, .bool n2, .bool true] 59 (0, 0)⟩], [⟨zb35, true, .cells #[.int .i64 0, .int .i64 65535, .int .i64 (-1), .int .i64 0, .int .i64 0, .int .i64 0, .int .i64 0, .bool false] 54 (0, 0)⟩], [⟨zb28, true, .cells #[.int .i64 0, .int .i64 3, .int .i64 (-1), .int .i64 0, .int .i64 0, .int .i64 0, .int .i64 0, .bool true] 54 (0, 0)⟩], [⟨zb23, true, .cells #[.int .i64 0, .int .i64 3, .int .i64 (-1), .int .i64 0, .int .i64 0, .int .i64 0, .int .i64 0, .bool false] 54 (0, 0)⟩], [⟨zb10, true, .cells (polP p ka kn kc) 48 (0, 0)⟩], [⟨zb1, true, .cells (polC q pa pn pc) 48 (0, 0)⟩], zq265] [4, 5, 6, 7, 8, 9, 10]⟩
   intro zh298
   have zh299 := ltF' zh298
   refine wp_exit (then_e (then_e (blk_e (then_n (seq_ (reg_ ?_))))))
   refine move_ ?_
   refine call_ 12 #[.pointer (some ⟨zb15, 0, none⟩)] ?_
   have zS305 : St [] w (ql ++ ([⟨zb42, true, .cells #[.bool false, .bool n1, .bool n2, .bool n3] 59 (0, 0)⟩, ⟨zb35, true, .cells #[.int .i64 0, .int .i64 65535, .int .i64 (-1), .int .i64 0, .int .i64 0, .int .i64 0, .int .i64 0, .bool false] 54 (0, 0)⟩, ⟨zb28, true, .cells #[.int .i64 0, .int .i64 3, .int .i64 (-1), .int .i64 0, .int .i64 0, .int .i64 0, .int .i64 0, .bool true] 54 (0, 0)⟩, ⟨zb23, true, .cells #[.int .i64 0, .int .i64 3, .int .i64 (-1), .int .i64 0, .int .i64 0, .int .i64 0, .int .i64 0, .bool false] 54 (0, 0)⟩, ⟨zb10, true, .cells (polP p ka kn kc) 48 (0, 0)⟩, ⟨zb1, true, .cells (polC q pa pn pc) 48 (0, 0)⟩] ++ ([] : List Blk))) zw57 := zS58.re (R := ([] : List Blk)) [[⟨zb42, true, .cells #[.bool false, .bool n1, .bool n2, .bool n3] 59 (0, 0)⟩], [⟨zb35, true, .cells #[.int .i64 0, .int .i64 65535, .int .i64 (-1), .int .i64 0, .int .i64 0, .int .i64 0, .int .i64 0, .bool false] 54 (0, 0)⟩], [⟨zb28, true, .cells #[.int .i64 0, .int .i64 3, .int .i64 (-1), .int .i64 0, .int .i64 0, .int .i64 0, .int .i64 0, .bool true] 54 (0, 0)⟩], [⟨zb23, true, .cells #[.int .i64 0, .int .i64 3, .int .i64 (-1), .int .i64 0, .int .i64 0, .int .i64 0, .int .i64 0, .bool false] 54 (0, 0)⟩], [⟨zb10, true, .cells (polP p ka kn kc) 48 (0, 0)⟩], [⟨zb1, true, .cells (polC q pa pn pc) 48 (0, 0)⟩], ql] [6, 0, 1, 2, 3, 4, 5]
   refine (q_list zf52 zS305).mono ?_; rintro _ zw306 ⟨zx300, zc301, zq302, rfl, zh303, zS307⟩
   have zh304 : L.length ≤ 3 := q_len zf52
   have zS309 : St [] w ([⟨zb42, true, .cells #[.bool false, .bool n1, .bool n2, .bool n3] 59 (0, 0)⟩, ⟨zb35, true, .cells #[.int .i64 0, .int .i64 65535, .int .i64 (-1), .int .i64 0, .int .i64 0, .int .i64 0, .int .i64 0, .bool false] 54 (0, 0)⟩, ⟨zb28, true, .cells #[.int .i64 0, .int .i64 3, .int .i64 (-1), .int .i64 0, .int .i64 0, .int .i64 0, .int .i64 0, .bool true] 54 (0, 0)⟩, ⟨zb23, true, .cells #[.int .i64 0, .int .i64 3, .int .i64 (-1), .int .i64 0, .int .i64 0, .int .i64 0, .int .i64 0, .bool false] 54 (0, 0)⟩, ⟨zb10, true, .cells (polP p ka kn kc) 48 (0, 0)⟩, ⟨zb1, true, .cells (polC q pa pn pc) 48 (0, 0)⟩] ++ (zq302 ++ (ql ++ ([] : List Blk)))) zw306 := zS307.re (R := ([] : List Blk)) [zq302, ql, [⟨zb42, true, .cells #[.bool false, .bool n1, .bool n2, .bool n3] 59 (0, 0)⟩], [⟨zb35, true, .cells #[.int .i64 0, .int .i64 65535, .int .i64 (-1), .int .i64 0, .int .i64 0, .int .i64 0, .int .i64 0, .bool false] 54 (0, 0)⟩], [⟨zb28, true, .cells #[.int .i64 0, .int .i64 3, .int .i64 (-1), .int .i64 0, .int .i64 0, .int .i64 0, .int .i64 0, .bool true] 54 (0, 0)⟩], [⟨zb23, true, .cells #[.int .i64 0, .int .i64 3, .int .i64 (-1), .int .i64 0, .int .i64 0, .int .i64 0, .int .i64 0, .bool false] 54 (0, 0)⟩], [⟨zb10, true, .cells (polP p ka kn kc) 48 (0, 0)⟩], [⟨zb1, true, .cells (polC q pa pn pc) 48 (0, 0)⟩]] [2, 3, 4, 5, 6, 7, 0, 1]
   refine pure_ (.int .i64 ((L.length : Nat) : Int)) ?_
   refine pure_ (.int .i64 many) ?_
   refine pureE_ (.bool (((L.length : Nat) : Int) == many)) (.bool true) (congrArg Value.bool (eqT (by omega))) ?_
   refine pure_ (.bool true) ?_
   refine nil_ (then_n (wp_ret ?_))
   refine ret_ rfl (res_ [.tmp 6] [.bool true] (.bool true) ⟨res_tmp, trivial⟩) ?_
   exact ⟨rfl, zS309.ch⟩
 intro zh310
 have zh311 := ltF' zh310
 refine skip_ ?_
 refine skip_ ?_
 refine pure_ (.bool false) ?_
 refine nil_ (then_n (cond_F ?_))
 refine wp_exit (then_e (then_e (blk_e (then_n (seq_ (reg_ ?_))))))
 refine move_ ?_
 refine call_ 12 #[.pointer (some ⟨zb15, 0, none⟩)] ?_
 have zS317 : St [] w (ql ++ ([⟨zb42, true, .cells #[.bool false, .bool n1, .bool n2, .bool n3] 59 (0, 0)⟩, ⟨zb35, true, .cells #[.int .i64 0, .int .i64 65535, .int .i64 (-1), .int .i64 0, .int .i64 0, .int .i64 0, .int .i64 0, .bool false] 54 (0, 0)⟩, ⟨zb28, true, .cells #[.int .i64 0, .int .i64 3, .int .i64 (-1), .int .i64 0, .int .i64 0, .int .i64 0, .int .i64 0, .bool true] 54 (0, 0)⟩, ⟨zb23, true, .cells #[.int .i64 0, .int .i64 3, .int .i64 (-1), .int .i64 0, .int .i64 0, .int .i64 0, .int .i64 0, .bool false] 54 (0, 0)⟩, ⟨zb10, true, .cells (polP p ka kn kc) 48 (0, 0)⟩, ⟨zb1, true, .cells (polC q pa pn pc) 48 (0, 0)⟩] ++ ([] : List Blk))) zw57 := zS58.re (R := ([] : List Blk)) [[⟨zb42, true, .cells #[.bool false, .bool n1, .bool n2, .bool n3] 59 (0, 0)⟩], [⟨zb35, true, .cells #[.int .i64 0, .int .i64 65535, .int .i64 (-1), .int .i64 0, .int .i64 0, .int .i64 0, .int .i64 0, .bool false] 54 (0, 0)⟩], [⟨zb28, true, .cells #[.int .i64 0, .int .i64 3, .int .i64 (-1), .int .i64 0, .int .i64 0, .int .i64 0, .int .i64 0, .bool true] 54 (0, 0)⟩], [⟨zb23, true, .cells #[.int .i64 0, .int .i64 3, .int .i64 (-1), .int .i64 0, .int .i64 0, .int .i64 0, .int .i64 0, .bool false] 54 (0, 0)⟩], [⟨zb10, true, .cells (polP p ka kn kc) 48 (0, 0)⟩], [⟨zb1, true, .cells (polC q pa pn pc) 48 (0, 0)⟩], ql] [6, 0, 1, 2, 3, 4, 5]
 refine (q_list zf52 zS317).mono ?_; rintro _ zw318 ⟨zx312, zc313, zq314, rfl, zh315, zS319⟩
 have zh316 : L.length ≤ 3 := q_len zf52
 have zS321 : St [] w ([⟨zb42, true, .cells #[.bool false, .bool n1, .bool n2, .bool n3] 59 (0, 0)⟩, ⟨zb35, true, .cells #[.int .i64 0, .int .i64 65535, .int .i64 (-1), .int .i64 0, .int .i64 0, .int .i64 0, .int .i64 0, .bool false] 54 (0, 0)⟩, ⟨zb28, true, .cells #[.int .i64 0, .int .i64 3, .int .i64 (-1), .int .i64 0, .int .i64 0, .int .i64 0, .int .i64 0, .bool true] 54 (0, 0)⟩, ⟨zb23, true, .cells #[.int .i64 0, .int .i64 3, .int .i64 (-1), .int .i64 0, .int .i64 0, .int .i64 0, .int .i64 0, .bool false] 54 (0, 0)⟩, ⟨zb10, true, .cells (polP p ka kn kc) 48 (0, 0)⟩, ⟨zb1, true, .cells (polC q pa pn pc) 48 (0, 0)⟩] ++ (zq314 ++ (ql ++ ([] : List Blk)))) zw318 := zS319.re (R := ([] : List Blk)) [zq314, ql, [⟨zb42, true, .cells #[.bool false, .bool n1, .bool n2, .bool n3] 59 (0, 0)⟩], [⟨zb35, true, .cells #[.int .i64 0, .int .i64 65535, .int .i64 (-1), .int .i64 0, .int .i64 0, .int .i64 0, .int .i64 0, .bool false] 54 (0, 0)⟩], [⟨zb28, true, .cells #[.int .i64 0, .int .i64 3, .int .i64 (-1), .int .i64 0, .int .i64 0, .int .i64 0, .int .i64 0, .bool true] 54 (0, 0)⟩], [⟨zb23, true, .cells #[.int .i64 0, .int .i64 3, .int .i64 (-1), .int .i64 0, .int .i64 0, .int .i64 0, .int .i64 0, .bool false] 54 (0, 0)⟩], [⟨zb10, true, .cells (polP p ka kn kc) 48 (0, 0)⟩], [⟨zb1, true, .cells (polC q pa pn pc) 48 (0, 0)⟩]] [2, 3, 4, 5, 6, 7, 0, 1]
 refine pure_ (.int .i64 ((L.length : Nat) : Int)) ?_
 refine pure_ (.int .i64 many) ?_
 refine pureE_ (.bool (((L.length : Nat) : Int) == many)) (.bool true) (congrArg Value.bool (eqT (by omega))) ?_
 refine pure_ (.bool true) ?_
 refine nil_ (then_n (wp_ret ?_))
 refine ret_ rfl (res_ [.tmp 6] [.bool true] (.bool true) ⟨res_tmp, trivial⟩) ?_
 exact ⟨rfl, zS321.ch⟩

set_option maxRecDepth 100000 in
set_option maxHeartbeats 4000000 in
theorem claimWaits_nil (q : Nat → Int) (pa : Nat → Option Addr) (pn pc : Nat → Nat) (kb : Nat → Nat → Int) (mo : Int) (hm : 0 ≤ mo ∧ mo ≤ 255) (w : World) (hq : ∀ i, -9223372036854775808 ≤ q i ∧ q i ≤ 9223372036854775807) (hK : ∀ i, i < 4 → KeyIn [] w (pa i) (pn i) (pc i) (kb i)) :
    Gives Try.prog 7 #[.agg (polC q pa pn pc), .slice none 0 0, .int .u8 mo] w fun v w1 => v = .bool true ∧ Ch [] w w1 := by
 have S0 := St.nil [] w
 refine enter_ Try.func7 rfl ?_
 refine seq_ (reg_ ?_)
 refine new_ S0 (fun b => .pointer (some ⟨b, 0, none⟩)) (.cells (polC q pa pn pc) 48) ?_
 intro zb1 zw2 zS3
 refine pure_ (.bool false) ?_
 refine nil_ (then_n (seq_ (reg_ ?_)))
 refine call_ 18 #[] ?_
 refine (shown20_ _).mono ?_; rintro _ zw4 ⟨rfl, zhc5⟩
 have zS6 := zS3.quiet zhc5
 refine pure_ (.bool true) ?_
 refine nil_ (then_n (seq_ (reg_ ?_)))
 refine loadN_ zS6 0 56 (polC q pa pn pc) zb1 0 ?_
 refine call_ 19 #[.agg (polC q pa pn pc)] ?_
 refine (fitP_ q pa pn pc kb w _ (zS6).ch hq hK).mono ?_; rintro _ zw7 ⟨p, ka, kn, kc, hp, rfl, zh8⟩
 have zS9 := zS6.quiet zh8
 refine new_ zS9 (fun b => .pointer (some ⟨b, 0, none⟩)) (.cells #[.int .i64 0, .int .i64 0, .int .i64 0, .int .i64 0, .int .i64 0, .slice none 0 0, .slice none 0 0, .slice none 0 0, .slice none 0 0, .int .i64 0, .int .i64 0, .int .i64 0, .int .i64 0, .int .i64 0, .int .i64 0, .int .i64 0, .int .i64 0, .int .i64 0, .int .i64 0, .int .i64 0, .int .i64 0, .int .i64 0, .int .i64 0, .int .i64 0, .int .i64 0, .int .i64 0, .int .i64 0, .int .i64 0, .int .i64 0, .int .i64 0, .int .i64 0, .int .i64 0, .int .i64 0, .int .i64 0, .int .i64 0, .int .i64 0, .int .i64 0, .int .i64 0, .int .i64 0, .int .i64 0, .int .i64 0, .int .i64 0, .int .i64 0, .int .i64 0, .int .i64 0, .int .i64 0, .int .i64 0, .int .i64 0, .int .i64 0, .int .i64 0, .int .i64 0, .int .i64 0, .int .i64 0, .int .i64 0, .int .i64 0, .int .i64 0] 48) ?_
 intro zb10 zw11 zS12
 refine store_ zS12 0 (.agg (polP p ka kn kc)) zb10 0 ?_
 intro zw13 zS14
 refine nil_ (then_n (seq_ (reg_ ?_)))
 refine pure_ (.int .u8 mo) ?_
 refine sum_ .i64 mo (IntWalk.i64_in _ (by omega)) ?_
 refine pureE_ (.int .i64 (Int.tmod mo 3)) (.int .i64 (mo % 3)) (congrArg _ (IntWalk.rem_in _ _ (by omega))) ?_
 refine sum_ .i64 (1 + (mo % 3)) (IntWalk.i64_in _ (by omega)) ?_
 refine pure_ (.int .i64 (1 + (mo % 3))) ?_
 refine nil_ (then_n (seq_ (reg_ ?_)))
 refine pure_ (.int .i64 (1 + (mo % 3))) ?_
 refine call_ 10 #[.int .i64 (1 + (mo % 3))] ?_
 have zS18 : St [] w ([⟨zb10, true, .cells (polP p ka kn kc) 48 (0, 0)⟩, ⟨zb1, true, .cells (polC q pa pn pc) 48 (0, 0)⟩] ++ ([] : List Blk)) zw13 := zS14.re (R := ([] : List Blk)) [[⟨zb10, true, .cells (polP p ka kn kc) 48 (0, 0)⟩], [⟨zb1, true, .cells (polC q pa pn pc) 48 (0, 0)⟩]] [0, 1]
 refine (newq_ (1 + (mo % 3)) (by omega) _ zS18).mono ?_; rintro _ zw19 ⟨zb15, zq16, rfl, zh17, zS20⟩
 have zS22 : St [] w ([⟨zb10, true, .cells (polP p ka kn kc) 48 (0, 0)⟩, ⟨zb1, true, .cells (polC q pa pn pc) 48 (0, 0)⟩] ++ (zq16 ++ ([] : List Blk))) zw19 := zS20.re (R := ([] : List Blk)) [zq16, [⟨zb10, true, .cells (polP p ka kn kc) 48 (0, 0)⟩], [⟨zb1, true, .cells (polC q pa pn pc) 48 (0, 0)⟩]] [1, 2, 0]
 refine move_ ?_
 refine pure_ (.pointer (some ⟨zb15, 0, none⟩)) ?_
 refine pure_ (.int .i64 0) ?_
 refine assign_ ?_
 refine pure_ (.int .i64 0) ?_
 refine nil_ (then_n (seq_ (seq_ (reg_ ?_))))
 refine pure_ (.bool true) ?_
 refine pure_ (.bool false) ?_
 refine pure_ (.bool false) ?_
 refine move_ ?_
 refine pure_ (.bool false) ?_
 refine pure_ (.bool false) ?_
 refine pure_ (.bool false) ?_
 refine pure_ (.int .i64 0) ?_
 refine pure_ (.bool false) ?_
 refine pure_ (.bool false) ?_
 refine nil_ (then_n (cond_F ?_))
 refine wp_skip (then_n (seq_ (reg_ ?_)))
 refine pure_ (.agg #[.int .i64 0, .int .i64 3, .int .i64 (-1), .int .i64 0, .int .i64 0, .int .i64 0, .int .i64 0, .bool false]) ?_
 refine new_ zS22 (fun b => .pointer (some ⟨b, 0, none⟩)) (.cells #[.int .i64 0, .int .i64 0, .int .i64 0, .int .i64 0, .int .i64 0, .int .i64 0, .int .i64 0, .bool false] 54) ?_
 intro zb23 zw24 zS25
 refine store_ zS25 0 (.agg #[.int .i64 0, .int .i64 3, .int .i64 (-1), .int .i64 0, .int .i64 0, .int .i64 0, .int .i64 0, .bool false]) zb23 0 ?_
 intro zw26 zS27
 refine nil_ (then_n (seq_ (reg_ ?_)))
 refine loadN_ zS27 0 8 #[.int .i64 0, .int .i64 3, .int .i64 (-1), .int .i64 0, .int .i64 0, .int .i64 0, .int .i64 0, .bool false] zb23 0 ?_
 refine new_ zS27 (fun b => .pointer (some ⟨b, 0, none⟩)) (.cells #[.int .i64 0, .int .i64 0, .int .i64 0, .int .i64 0, .int .i64 0, .int .i64 0, .int .i64 0, .bool false] 54) ?_
 intro zb28 zw29 zS30
 refine store_ zS30 0 (.agg #[.int .i64 0, .int .i64 3, .int .i64 (-1), .int .i64 0, .int .i64 0, .int .i64 0, .int .i64 0, .bool false]) zb28 0 ?_
 intro zw31 zS32
 refine nil_ (then_n (seq_ (reg_ ?_)))
 refine pure_ (.pointer (some ⟨zb28, 7, none⟩)) ?_
 refine store_ zS32 0 (.bool true) zb28 7 ?_
 intro zw33 zS34
 refine nil_ (then_n (seq_ (reg_ ?_)))
 refine loadN_ zS34 1 8 #[.int .i64 0, .int .i64 3, .int .i64 (-1), .int .i64 0, .int .i64 0, .int .i64 0, .int .i64 0, .bool false] zb23 0 ?_
 refine new_ zS34 (fun b => .pointer (some ⟨b, 0, none⟩)) (.cells #[.int .i64 0, .int .i64 0, .int .i64 0, .int .i64 0, .int .i64 0, .int .i64 0, .int .i64 0, .bool false] 54) ?_
 intro zb35 zw36 zS37
 refine store_ zS37 0 (.agg #[.int .i64 0, .int .i64 3, .int .i64 (-1), .int .i64 0, .int .i64 0, .int .i64 0, .int .i64 0, .bool false]) zb35 0 ?_
 intro zw38 zS39
 refine nil_ (then_n (seq_ (reg_ ?_)))
 refine pure_ (.pointer (some ⟨zb35, 1, none⟩)) ?_
 refine store_ zS39 0 (.int .i64 65535) zb35 1 ?_
 intro zw40 zS41
 refine nil_ (then_n (seq_ (reg_ ?_)))
 refine pure_ (.agg #[.bool false, .bool false, .bool false, .bool false]) ?_
 refine new_ zS41 (fun b => .pointer (some ⟨b, 0, none⟩)) (.cells #[.bool false, .bool false, .bool false, .bool false] 59) ?_
 intro zb42 zw43 zS44
 refine store_ zS44 0 (.agg #[.bool false, .bool false, .bool false, .bool false]) zb42 0 ?_
 intro zw45 zS46
 refine nil_ (then_n (seq_ (reg_ ?_)))
 refine pure_ (.int .i64 0) ?_
 refine nil_ (then_n (seq_ (seq_ (reg_ ?_))))
 refine pure_ (.int .i64 0) ?_
 refine nil_ (then_n (wp_block (loop_ 24 (seq_ (seq_ (reg_ ?_))))))
 refine pure_ (.int .i64 0) ?_
 refine pure_ (.slice none 0 0) ?_
 refine pure_ (.int .i64 0) ?_
 refine pure_ (.bool false) ?_
 refine pure_ (.bool false) ?_
 refine skip_ ?_
 refine skip_ ?_
 refine pure_ (.bool false) ?_
 refine nil_ (then_n (cond_F ?_))
 refine wp_exit (then_e (then_e (blk_e (then_n (seq_ (reg_ ?_))))))
 refine move_ ?_
 refine call_ 12 #[.pointer (some ⟨zb15, 0, none⟩)] ?_
 have zS52 : St [] w (zq16 ++ ([⟨zb42, true, .cells #[.bool false, .bool false, .bool false, .bool false] 59 (0, 0)⟩, ⟨zb35, true, .cells #[.int .i64 0, .int .i64 65535, .int .i64 (-1), .int .i64 0, .int .i64 0, .int .i64 0, .int .i64 0, .bool false] 54 (0, 0)⟩, ⟨zb28, true, .cells #[.int .i64 0, .int .i64 3, .int .i64 (-1), .int .i64 0, .int .i64 0, .int .i64 0, .int .i64 0, .bool true] 54 (0, 0)⟩, ⟨zb23, true, .cells #[.int .i64 0, .int .i64 3, .int .i64 (-1), .int .i64 0, .int .i64 0, .int .i64 0, .int .i64 0, .bool false] 54 (0, 0)⟩, ⟨zb10, true, .cells (polP p ka kn kc) 48 (0, 0)⟩, ⟨zb1, true, .cells (polC q pa pn pc) 48 (0, 0)⟩] ++ ([] : List Blk))) zw45 := zS46.re (R := ([] : List Blk)) [[⟨zb42, true, .cells #[.bool false, .bool false, .bool false, .bool false] 59 (0, 0)⟩], [⟨zb35, true, .cells #[.int .i64 0, .int .i64 65535, .int .i64 (-1), .int .i64 0, .int .i64 0, .int .i64 0, .int .i64 0, .bool false] 54 (0, 0)⟩], [⟨zb28, true, .cells #[.int .i64 0, .int .i64 3, .int .i64 (-1), .int .i64 0, .int .i64 0, .int .i64 0, .int .i64 0, .bool true] 54 (0, 0)⟩], [⟨zb23, true, .cells #[.int .i64 0, .int .i64 3, .int .i64 (-1), .int .i64 0, .int .i64 0, .int .i64 0, .int .i64 0, .bool false] 54 (0, 0)⟩], [⟨zb10, true, .cells (polP p ka kn kc) 48 (0, 0)⟩], [⟨zb1, true, .cells (polC q pa pn pc) 48 (0, 0)⟩], zq16] [6, 0, 1, 2, 3, 4, 5]
 refine (q_list zh17 zS52).mono ?_; rintro _ zw53 ⟨zx47, zc48, zq49, rfl, zh50, zS54⟩
 have zh51 : ([]).length ≤ 3 := q_len zh17
 have zS56 : St [] w ([⟨zb42, true, .cells #[.bool false, .bool false, .bool false, .bool false] 59 (0, 0)⟩, ⟨zb35, true, .cells #[.int .i64 0, .int .i64 65535, .int .i64 (-1), .int .i64 0, .int .i64 0, .int .i64 0, .int .i64 0, .bool false] 54 (0, 0)⟩, ⟨zb28, true, .cells #[.int .i64 0, .int .i64 3, .int .i64 (-1), .int .i64 0, .int .i64 0, .int .i64 0, .int .i64 0, .bool true] 54 (0, 0)⟩, ⟨zb23, true, .cells #[.int .i64 0, .int .i64 3, .int .i64 (-1), .int .i64 0, .int .i64 0, .int .i64 0, .int .i64 0, .bool false] 54 (0, 0)⟩, ⟨zb10, true, .cells (polP p ka kn kc) 48 (0, 0)⟩, ⟨zb1, true, .cells (polC q pa pn pc) 48 (0, 0)⟩] ++ (zq49 ++ (zq16 ++ ([] : List Blk)))) zw53 := zS54.re (R := ([] : List Blk)) [zq49, zq16, [⟨zb42, true, .cells #[.bool false, .bool false, .bool false, .bool false] 59 (0, 0)⟩], [⟨zb35, true, .cells #[.int .i64 0, .int .i64 65535, .int .i64 (-1), .int .i64 0, .int .i64 0, .int .i64 0, .int .i64 0, .bool false] 54 (0, 0)⟩], [⟨zb28, true, .cells #[.int .i64 0, .int .i64 3, .int .i64 (-1), .int .i64 0, .int .i64 0, .int .i64 0, .int .i64 0, .bool true] 54 (0, 0)⟩], [⟨zb23, true, .cells #[.int .i64 0, .int .i64 3, .int .i64 (-1), .int .i64 0, .int .i64 0, .int .i64 0, .int .i64 0, .bool false] 54 (0, 0)⟩], [⟨zb10, true, .cells (polP p ka kn kc) 48 (0, 0)⟩], [⟨zb1, true, .cells (polC q pa pn pc) 48 (0, 0)⟩]] [2, 3, 4, 5, 6, 7, 0, 1]
 refine pure_ (.int .i64 0) ?_
 refine pure_ (.int .i64 0) ?_
 refine pure_ (.bool true) ?_
 refine pure_ (.bool true) ?_
 refine nil_ (then_n (wp_ret ?_))
 refine ret_ rfl (res_ [.tmp 6] [.bool true] (.bool true) ⟨res_tmp, trivial⟩) ?_
 exact ⟨rfl, zS56.ch⟩

end Go.Proofs.Ytmfhgekknjghoaa
