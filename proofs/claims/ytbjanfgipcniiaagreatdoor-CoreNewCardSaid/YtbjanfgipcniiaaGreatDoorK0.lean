/- Package sha: words, Block. -/
import Derived.Test.YtbjanfgipcniiaaGreatDoorSK
import Derived.Test.YtbjanfgipcniiaaGreatDoorProg
namespace Go.Proofs.YtbjanfgipcniiaaGreatDoor
open Go Go.RowKit Go.BigFrame Sx
set_option linter.unusedVariables false
set_option linter.unusedSimpArgs false

def rootF (k : Nat) : Int := ([1116352408, 1899447441, 3049323471, 3921009573, 961987163, 1508970993, 2453635748, 2870763221, 3624381080, 310598401, 607225278, 1426881987, 1925078388, 2162078206, 2614888103, 3248222580, 3835390401, 4022224774, 264347078, 604807628, 770255983, 1249150122, 1555081692, 1996064986, 2554220882, 2821834349, 2952996808, 3210313671, 3336571891, 3584528711, 113926993, 338241895, 666307205, 773529912, 1294757372, 1396182291, 1695183700, 1986661051, 2177026350, 2456956037, 2730485921, 2820302411, 3259730800, 3345764771, 3516065817, 3600352804, 4094571909, 275423344, 430227734, 506948616, 659060556, 883997877, 958139571, 1322822218, 1537002063, 1747873779, 1955562222, 2024104815, 2227730452, 2361852424, 2428436474, 2756734187, 3204031479, 3329325298] : List Int).getD k 0
def startF (k : Nat) : Int := ([1779033703, 3144134277, 1013904242, 2773480762, 1359893119, 2600822924, 528734635, 1541459225] : List Int).getD k 0
def rotF (n : Nat) (x : Int) : Int := bits .or .u32 (IntKind.u32.wrap (x * 2 ^ (32 - n))) (Int.fdiv x (2 ^ n))

set_option maxRecDepth 100000 in
set_option maxHeartbeats 4000000 in
theorem right_2 (a : Int) (w : World) :
    Gives Tryz.prog 178 #[.int .u32 a, ι 2] w fun v w1 => v = .int .u32 (rotF 2 a) ∧ Ch [] w w1 := by
 have S0 := St.nil [] w
 refine enter_ Tryz.func178 rfl (seq_ (reg_ (pure_ (.int .u32 0) (nsr_ (pure_ (.int .u32 a) (pure_ (ι 2) (pure_ (ι (-2)) (call_ 218 #[.int .u32 a, ι (-2)] (enter_ Tryz.func218 rfl (seq_ (reg_ (pure_ (.int .u32 0) (nsr_ (pure_ (ι (-2)) (pure_ (.int .u64 18446744073709551614) (pure_ (.int .u64 30) (pure_ (.int .u64 30) (nsr_ (pure_ (.int .u32 a) (pure_ (.int .u64 30) (pure_ (.int .u32 (IntKind.u32.wrap (a * 2 ^ 30))) (pure_ (.int .u32 a) (pure_ (.int .u64 30) (pure_ (.int .u64 2) (pure_ (.int .u32 (Int.fdiv a (2 ^ 2))) (pure_ (.int .u32 (bits .or .u32 (IntKind.u32.wrap (a * 2 ^ 30)) (Int.fdiv a (2 ^ 2)))) (assign_ (nil_ (then_n (wp_ret (ret_ rfl (res_ [.tmp 4] [.int .u32 (bits .or .u32 (IntKind.u32.wrap (a * 2 ^ 30)) (Int.fdiv a (2 ^ 2)))] (.int .u32 (bits .or .u32 (IntKind.u32.wrap (a * 2 ^ 30)) (Int.fdiv a (2 ^ 2)))) ⟨res_tmp, trivial⟩) ?_)))))))))))))))))))))))))))))))
 refine assign_ (nil_ (then_n (wp_ret (ret_ rfl (res_ [.tmp 4] [.int .u32 (bits .or .u32 (IntKind.u32.wrap (a * 2 ^ 30)) (Int.fdiv a (2 ^ 2)))] (.int .u32 (bits .or .u32 (IntKind.u32.wrap (a * 2 ^ 30)) (Int.fdiv a (2 ^ 2)))) ⟨res_tmp, trivial⟩) ?_))))
 exact ⟨rfl, S0.ch⟩

set_option maxRecDepth 100000 in
set_option maxHeartbeats 4000000 in
theorem right_6 (a : Int) (w : World) :
    Gives Tryz.prog 178 #[.int .u32 a, ι 6] w fun v w1 => v = .int .u32 (rotF 6 a) ∧ Ch [] w w1 := by
 have S0 := St.nil [] w
 refine enter_ Tryz.func178 rfl (seq_ (reg_ (pure_ (.int .u32 0) (nsr_ (pure_ (.int .u32 a) (pure_ (ι 6) (pure_ (ι (-6)) (call_ 218 #[.int .u32 a, ι (-6)] (enter_ Tryz.func218 rfl (seq_ (reg_ (pure_ (.int .u32 0) (nsr_ (pure_ (ι (-6)) (pure_ (.int .u64 18446744073709551610) (pure_ (.int .u64 26) (pure_ (.int .u64 26) (nsr_ (pure_ (.int .u32 a) (pure_ (.int .u64 26) (pure_ (.int .u32 (IntKind.u32.wrap (a * 2 ^ 26))) (pure_ (.int .u32 a) (pure_ (.int .u64 26) (pure_ (.int .u64 6) (pure_ (.int .u32 (Int.fdiv a (2 ^ 6))) (pure_ (.int .u32 (bits .or .u32 (IntKind.u32.wrap (a * 2 ^ 26)) (Int.fdiv a (2 ^ 6)))) (assign_ (nil_ (then_n (wp_ret (ret_ rfl (res_ [.tmp 4] [.int .u32 (bits .or .u32 (IntKind.u32.wrap (a * 2 ^ 26)) (Int.fdiv a (2 ^ 6)))] (.int .u32 (bits .or .u32 (IntKind.u32.wrap (a * 2 ^ 26)) (Int.fdiv a (2 ^ 6)))) ⟨res_tmp, trivial⟩) ?_)))))))))))))))))))))))))))))))
 refine assign_ (nil_ (then_n (wp_ret (ret_ rfl (res_ [.tmp 4] [.int .u32 (bits .or .u32 (IntKind.u32.wrap (a * 2 ^ 26)) (Int.fdiv a (2 ^ 6)))] (.int .u32 (bits .or .u32 (IntKind.u32.wrap (a * 2 ^ 26)) (Int.fdiv a (2 ^ 6)))) ⟨res_tmp, trivial⟩) ?_))))
 exact ⟨rfl, S0.ch⟩

set_option maxRecDepth 100000 in
set_option maxHeartbeats 4000000 in
theorem right_7 (a : Int) (w : World) :
    Gives Tryz.prog 178 #[.int .u32 a, ι 7] w fun v w1 => v = .int .u32 (rotF 7 a) ∧ Ch [] w w1 := by
 have S0 := St.nil [] w
 refine enter_ Tryz.func178 rfl (seq_ (reg_ (pure_ (.int .u32 0) (nsr_ (pure_ (.int .u32 a) (pure_ (ι 7) (pure_ (ι (-7)) (call_ 218 #[.int .u32 a, ι (-7)] (enter_ Tryz.func218 rfl (seq_ (reg_ (pure_ (.int .u32 0) (nsr_ (pure_ (ι (-7)) (pure_ (.int .u64 18446744073709551609) (pure_ (.int .u64 25) (pure_ (.int .u64 25) (nsr_ (pure_ (.int .u32 a) (pure_ (.int .u64 25) (pure_ (.int .u32 (IntKind.u32.wrap (a * 2 ^ 25))) (pure_ (.int .u32 a) (pure_ (.int .u64 25) (pure_ (.int .u64 7) (pure_ (.int .u32 (Int.fdiv a (2 ^ 7))) (pure_ (.int .u32 (bits .or .u32 (IntKind.u32.wrap (a * 2 ^ 25)) (Int.fdiv a (2 ^ 7)))) (assign_ (nil_ (then_n (wp_ret (ret_ rfl (res_ [.tmp 4] [.int .u32 (bits .or .u32 (IntKind.u32.wrap (a * 2 ^ 25)) (Int.fdiv a (2 ^ 7)))] (.int .u32 (bits .or .u32 (IntKind.u32.wrap (a * 2 ^ 25)) (Int.fdiv a (2 ^ 7)))) ⟨res_tmp, trivial⟩) ?_)))))))))))))))))))))))))))))))
 refine assign_ (nil_ (then_n (wp_ret (ret_ rfl (res_ [.tmp 4] [.int .u32 (bits .or .u32 (IntKind.u32.wrap (a * 2 ^ 25)) (Int.fdiv a (2 ^ 7)))] (.int .u32 (bits .or .u32 (IntKind.u32.wrap (a * 2 ^ 25)) (Int.fdiv a (2 ^ 7)))) ⟨res_tmp, trivial⟩) ?_))))
 exact ⟨rfl, S0.ch⟩

set_option maxRecDepth 100000 in
set_option maxHeartbeats 4000000 in
theorem right_11 (a : Int) (w : World) :
    Gives Tryz.prog 178 #[.int .u32 a, ι 11] w fun v w1 => v = .int .u32 (rotF 11 a) ∧ Ch [] w w1 := by
 have S0 := St.nil [] w
 refine enter_ Tryz.func178 rfl (seq_ (reg_ (pure_ (.int .u32 0) (nsr_ (pure_ (.int .u32 a) (pure_ (ι 11) (pure_ (ι (-11)) (call_ 218 #[.int .u32 a, ι (-11)] (enter_ Tryz.func218 rfl (seq_ (reg_ (pure_ (.int .u32 0) (nsr_ (pure_ (ι (-11)) (pure_ (.int .u64 18446744073709551605) (pure_ (.int .u64 21) (pure_ (.int .u64 21) (nsr_ (pure_ (.int .u32 a) (pure_ (.int .u64 21) (pure_ (.int .u32 (IntKind.u32.wrap (a * 2 ^ 21))) (pure_ (.int .u32 a) (pure_ (.int .u64 21) (pure_ (.int .u64 11) (pure_ (.int .u32 (Int.fdiv a (2 ^ 11))) (pure_ (.int .u32 (bits .or .u32 (IntKind.u32.wrap (a * 2 ^ 21)) (Int.fdiv a (2 ^ 11)))) (assign_ (nil_ (then_n (wp_ret (ret_ rfl (res_ [.tmp 4] [.int .u32 (bits .or .u32 (IntKind.u32.wrap (a * 2 ^ 21)) (Int.fdiv a (2 ^ 11)))] (.int .u32 (bits .or .u32 (IntKind.u32.wrap (a * 2 ^ 21)) (Int.fdiv a (2 ^ 11)))) ⟨res_tmp, trivial⟩) ?_)))))))))))))))))))))))))))))))
 refine assign_ (nil_ (then_n (wp_ret (ret_ rfl (res_ [.tmp 4] [.int .u32 (bits .or .u32 (IntKind.u32.wrap (a * 2 ^ 21)) (Int.fdiv a (2 ^ 11)))] (.int .u32 (bits .or .u32 (IntKind.u32.wrap (a * 2 ^ 21)) (Int.fdiv a (2 ^ 11)))) ⟨res_tmp, trivial⟩) ?_))))
 exact ⟨rfl, S0.ch⟩

set_option maxRecDepth 100000 in
set_option maxHeartbeats 4000000 in
theorem right_13 (a : Int) (w : World) :
    Gives Tryz.prog 178 #[.int .u32 a, ι 13] w fun v w1 => v = .int .u32 (rotF 13 a) ∧ Ch [] w w1 := by
 have S0 := St.nil [] w
 refine enter_ Tryz.func178 rfl (seq_ (reg_ (pure_ (.int .u32 0) (nsr_ (pure_ (.int .u32 a) (pure_ (ι 13) (pure_ (ι (-13)) (call_ 218 #[.int .u32 a, ι (-13)] (enter_ Tryz.func218 rfl (seq_ (reg_ (pure_ (.int .u32 0) (nsr_ (pure_ (ι (-13)) (pure_ (.int .u64 18446744073709551603) (pure_ (.int .u64 19) (pure_ (.int .u64 19) (nsr_ (pure_ (.int .u32 a) (pure_ (.int .u64 19) (pure_ (.int .u32 (IntKind.u32.wrap (a * 2 ^ 19))) (pure_ (.int .u32 a) (pure_ (.int .u64 19) (pure_ (.int .u64 13) (pure_ (.int .u32 (Int.fdiv a (2 ^ 13))) (pure_ (.int .u32 (bits .or .u32 (IntKind.u32.wrap (a * 2 ^ 19)) (Int.fdiv a (2 ^ 13)))) (assign_ (nil_ (then_n (wp_ret (ret_ rfl (res_ [.tmp 4] [.int .u32 (bits .or .u32 (IntKind.u32.wrap (a * 2 ^ 19)) (Int.fdiv a (2 ^ 13)))] (.int .u32 (bits .or .u32 (IntKind.u32.wrap (a * 2 ^ 19)) (Int.fdiv a (2 ^ 13)))) ⟨res_tmp, trivial⟩) ?_)))))))))))))))))))))))))))))))
 refine assign_ (nil_ (then_n (wp_ret (ret_ rfl (res_ [.tmp 4] [.int .u32 (bits .or .u32 (IntKind.u32.wrap (a * 2 ^ 19)) (Int.fdiv a (2 ^ 13)))] (.int .u32 (bits .or .u32 (IntKind.u32.wrap (a * 2 ^ 19)) (Int.fdiv a (2 ^ 13)))) ⟨res_tmp, trivial⟩) ?_))))
 exact ⟨rfl, S0.ch⟩

set_option maxRecDepth 100000 in
set_option maxHeartbeats 4000000 in
theorem right_17 (a : Int) (w : World) :
    Gives Tryz.prog 178 #[.int .u32 a, ι 17] w fun v w1 => v = .int .u32 (rotF 17 a) ∧ Ch [] w w1 := by
 have S0 := St.nil [] w
 refine enter_ Tryz.func178 rfl (seq_ (reg_ (pure_ (.int .u32 0) (nsr_ (pure_ (.int .u32 a) (pure_ (ι 17) (pure_ (ι (-17)) (call_ 218 #[.int .u32 a, ι (-17)] (enter_ Tryz.func218 rfl (seq_ (reg_ (pure_ (.int .u32 0) (nsr_ (pure_ (ι (-17)) (pure_ (.int .u64 18446744073709551599) (pure_ (.int .u64 15) (pure_ (.int .u64 15) (nsr_ (pure_ (.int .u32 a) (pure_ (.int .u64 15) (pure_ (.int .u32 (IntKind.u32.wrap (a * 2 ^ 15))) (pure_ (.int .u32 a) (pure_ (.int .u64 15) (pure_ (.int .u64 17) (pure_ (.int .u32 (Int.fdiv a (2 ^ 17))) (pure_ (.int .u32 (bits .or .u32 (IntKind.u32.wrap (a * 2 ^ 15)) (Int.fdiv a (2 ^ 17)))) (assign_ (nil_ (then_n (wp_ret (ret_ rfl (res_ [.tmp 4] [.int .u32 (bits .or .u32 (IntKind.u32.wrap (a * 2 ^ 15)) (Int.fdiv a (2 ^ 17)))] (.int .u32 (bits .or .u32 (IntKind.u32.wrap (a * 2 ^ 15)) (Int.fdiv a (2 ^ 17)))) ⟨res_tmp, trivial⟩) ?_)))))))))))))))))))))))))))))))
 refine assign_ (nil_ (then_n (wp_ret (ret_ rfl (res_ [.tmp 4] [.int .u32 (bits .or .u32 (IntKind.u32.wrap (a * 2 ^ 15)) (Int.fdiv a (2 ^ 17)))] (.int .u32 (bits .or .u32 (IntKind.u32.wrap (a * 2 ^ 15)) (Int.fdiv a (2 ^ 17)))) ⟨res_tmp, trivial⟩) ?_))))
 exact ⟨rfl, S0.ch⟩

set_option maxRecDepth 100000 in
set_option maxHeartbeats 4000000 in
theorem right_18 (a : Int) (w : World) :
    Gives Tryz.prog 178 #[.int .u32 a, ι 18] w fun v w1 => v = .int .u32 (rotF 18 a) ∧ Ch [] w w1 := by
 have S0 := St.nil [] w
 refine enter_ Tryz.func178 rfl (seq_ (reg_ (pure_ (.int .u32 0) (nsr_ (pure_ (.int .u32 a) (pure_ (ι 18) (pure_ (ι (-18)) (call_ 218 #[.int .u32 a, ι (-18)] (enter_ Tryz.func218 rfl (seq_ (reg_ (pure_ (.int .u32 0) (nsr_ (pure_ (ι (-18)) (pure_ (.int .u64 18446744073709551598) (pure_ (.int .u64 14) (pure_ (.int .u64 14) (nsr_ (pure_ (.int .u32 a) (pure_ (.int .u64 14) (pure_ (.int .u32 (IntKind.u32.wrap (a * 2 ^ 14))) (pure_ (.int .u32 a) (pure_ (.int .u64 14) (pure_ (.int .u64 18) (pure_ (.int .u32 (Int.fdiv a (2 ^ 18))) (pure_ (.int .u32 (bits .or .u32 (IntKind.u32.wrap (a * 2 ^ 14)) (Int.fdiv a (2 ^ 18)))) (assign_ (nil_ (then_n (wp_ret (ret_ rfl (res_ [.tmp 4] [.int .u32 (bits .or .u32 (IntKind.u32.wrap (a * 2 ^ 14)) (Int.fdiv a (2 ^ 18)))] (.int .u32 (bits .or .u32 (IntKind.u32.wrap (a * 2 ^ 14)) (Int.fdiv a (2 ^ 18)))) ⟨res_tmp, trivial⟩) ?_)))))))))))))))))))))))))))))))
 refine assign_ (nil_ (then_n (wp_ret (ret_ rfl (res_ [.tmp 4] [.int .u32 (bits .or .u32 (IntKind.u32.wrap (a * 2 ^ 14)) (Int.fdiv a (2 ^ 18)))] (.int .u32 (bits .or .u32 (IntKind.u32.wrap (a * 2 ^ 14)) (Int.fdiv a (2 ^ 18)))) ⟨res_tmp, trivial⟩) ?_))))
 exact ⟨rfl, S0.ch⟩

set_option maxRecDepth 100000 in
set_option maxHeartbeats 4000000 in
theorem right_19 (a : Int) (w : World) :
    Gives Tryz.prog 178 #[.int .u32 a, ι 19] w fun v w1 => v = .int .u32 (rotF 19 a) ∧ Ch [] w w1 := by
 have S0 := St.nil [] w
 refine enter_ Tryz.func178 rfl (seq_ (reg_ (pure_ (.int .u32 0) (nsr_ (pure_ (.int .u32 a) (pure_ (ι 19) (pure_ (ι (-19)) (call_ 218 #[.int .u32 a, ι (-19)] (enter_ Tryz.func218 rfl (seq_ (reg_ (pure_ (.int .u32 0) (nsr_ (pure_ (ι (-19)) (pure_ (.int .u64 18446744073709551597) (pure_ (.int .u64 13) (pure_ (.int .u64 13) (nsr_ (pure_ (.int .u32 a) (pure_ (.int .u64 13) (pure_ (.int .u32 (IntKind.u32.wrap (a * 2 ^ 13))) (pure_ (.int .u32 a) (pure_ (.int .u64 13) (pure_ (.int .u64 19) (pure_ (.int .u32 (Int.fdiv a (2 ^ 19))) (pure_ (.int .u32 (bits .or .u32 (IntKind.u32.wrap (a * 2 ^ 13)) (Int.fdiv a (2 ^ 19)))) (assign_ (nil_ (then_n (wp_ret (ret_ rfl (res_ [.tmp 4] [.int .u32 (bits .or .u32 (IntKind.u32.wrap (a * 2 ^ 13)) (Int.fdiv a (2 ^ 19)))] (.int .u32 (bits .or .u32 (IntKind.u32.wrap (a * 2 ^ 13)) (Int.fdiv a (2 ^ 19)))) ⟨res_tmp, trivial⟩) ?_)))))))))))))))))))))))))))))))
 refine assign_ (nil_ (then_n (wp_ret (ret_ rfl (res_ [.tmp 4] [.int .u32 (bits .or .u32 (IntKind.u32.wrap (a * 2 ^ 13)) (Int.fdiv a (2 ^ 19)))] (.int .u32 (bits .or .u32 (IntKind.u32.wrap (a * 2 ^ 13)) (Int.fdiv a (2 ^ 19)))) ⟨res_tmp, trivial⟩) ?_))))
 exact ⟨rfl, S0.ch⟩

set_option maxRecDepth 100000 in
set_option maxHeartbeats 4000000 in
theorem right_22 (a : Int) (w : World) :
    Gives Tryz.prog 178 #[.int .u32 a, ι 22] w fun v w1 => v = .int .u32 (rotF 22 a) ∧ Ch [] w w1 := by
 have S0 := St.nil [] w
 refine enter_ Tryz.func178 rfl (seq_ (reg_ (pure_ (.int .u32 0) (nsr_ (pure_ (.int .u32 a) (pure_ (ι 22) (pure_ (ι (-22)) (call_ 218 #[.int .u32 a, ι (-22)] (enter_ Tryz.func218 rfl (seq_ (reg_ (pure_ (.int .u32 0) (nsr_ (pure_ (ι (-22)) (pure_ (.int .u64 18446744073709551594) (pure_ (.int .u64 10) (pure_ (.int .u64 10) (nsr_ (pure_ (.int .u32 a) (pure_ (.int .u64 10) (pure_ (.int .u32 (IntKind.u32.wrap (a * 2 ^ 10))) (pure_ (.int .u32 a) (pure_ (.int .u64 10) (pure_ (.int .u64 22) (pure_ (.int .u32 (Int.fdiv a (2 ^ 22))) (pure_ (.int .u32 (bits .or .u32 (IntKind.u32.wrap (a * 2 ^ 10)) (Int.fdiv a (2 ^ 22)))) (assign_ (nil_ (then_n (wp_ret (ret_ rfl (res_ [.tmp 4] [.int .u32 (bits .or .u32 (IntKind.u32.wrap (a * 2 ^ 10)) (Int.fdiv a (2 ^ 22)))] (.int .u32 (bits .or .u32 (IntKind.u32.wrap (a * 2 ^ 10)) (Int.fdiv a (2 ^ 22)))) ⟨res_tmp, trivial⟩) ?_)))))))))))))))))))))))))))))))
 refine assign_ (nil_ (then_n (wp_ret (ret_ rfl (res_ [.tmp 4] [.int .u32 (bits .or .u32 (IntKind.u32.wrap (a * 2 ^ 10)) (Int.fdiv a (2 ^ 22)))] (.int .u32 (bits .or .u32 (IntKind.u32.wrap (a * 2 ^ 10)) (Int.fdiv a (2 ^ 22)))) ⟨res_tmp, trivial⟩) ?_))))
 exact ⟨rfl, S0.ch⟩

set_option maxRecDepth 100000 in
set_option maxHeartbeats 4000000 in
theorem right_25 (a : Int) (w : World) :
    Gives Tryz.prog 178 #[.int .u32 a, ι 25] w fun v w1 => v = .int .u32 (rotF 25 a) ∧ Ch [] w w1 := by
 have S0 := St.nil [] w
 refine enter_ Tryz.func178 rfl (seq_ (reg_ (pure_ (.int .u32 0) (nsr_ (pure_ (.int .u32 a) (pure_ (ι 25) (pure_ (ι (-25)) (call_ 218 #[.int .u32 a, ι (-25)] (enter_ Tryz.func218 rfl (seq_ (reg_ (pure_ (.int .u32 0) (nsr_ (pure_ (ι (-25)) (pure_ (.int .u64 18446744073709551591) (pure_ (.int .u64 7) (pure_ (.int .u64 7) (nsr_ (pure_ (.int .u32 a) (pure_ (.int .u64 7) (pure_ (.int .u32 (IntKind.u32.wrap (a * 2 ^ 7))) (pure_ (.int .u32 a) (pure_ (.int .u64 7) (pure_ (.int .u64 25) (pure_ (.int .u32 (Int.fdiv a (2 ^ 25))) (pure_ (.int .u32 (bits .or .u32 (IntKind.u32.wrap (a * 2 ^ 7)) (Int.fdiv a (2 ^ 25)))) (assign_ (nil_ (then_n (wp_ret (ret_ rfl (res_ [.tmp 4] [.int .u32 (bits .or .u32 (IntKind.u32.wrap (a * 2 ^ 7)) (Int.fdiv a (2 ^ 25)))] (.int .u32 (bits .or .u32 (IntKind.u32.wrap (a * 2 ^ 7)) (Int.fdiv a (2 ^ 25)))) ⟨res_tmp, trivial⟩) ?_)))))))))))))))))))))))))))))))
 refine assign_ (nil_ (then_n (wp_ret (ret_ rfl (res_ [.tmp 4] [.int .u32 (bits .or .u32 (IntKind.u32.wrap (a * 2 ^ 7)) (Int.fdiv a (2 ^ 25)))] (.int .u32 (bits .or .u32 (IntKind.u32.wrap (a * 2 ^ 7)) (Int.fdiv a (2 ^ 25)))) ⟨res_tmp, trivial⟩) ?_))))
 exact ⟨rfl, S0.ch⟩

def w1E (f : Nat → Int) (i : Int) : Int := (bits .or .u32 (bits .or .u32 (bits .or .u32 (IntKind.u32.wrap ((IntKind.u32.wrap (f (0 + ((4 * i)).toNat))) * 2 ^ 24)) (IntKind.u32.wrap ((IntKind.u32.wrap (f (0 + (((4 * i) + 1)).toNat))) * 2 ^ 16))) (IntKind.u32.wrap ((IntKind.u32.wrap (f (0 + (((4 * i) + 2)).toNat))) * 2 ^ 8))) (IntKind.u32.wrap (f (0 + (((4 * i) + 3)).toNat))))
def w1F (f : Nat → Int) : Nat → Nat → Int
  | 0 => fun _ => 0
  | k + 1 => updF (w1F f k) k (w1E f k)
def w2E (V : Nat → Int) (k : Int) : Int := (IntKind.u32.wrap ((IntKind.u32.wrap ((IntKind.u32.wrap ((V (0 + ((k - 16)).toNat)) + (V (0 + ((k - 7)).toNat)))) + (bits .xor .u32 (bits .xor .u32 (rotF 7 (V (0 + ((k - 15)).toNat))) (rotF 18 (V (0 + ((k - 15)).toNat)))) (Int.fdiv (V (0 + ((k - 15)).toNat)) (2 ^ 3))))) + (bits .xor .u32 (bits .xor .u32 (rotF 17 (V (0 + ((k - 2)).toNat))) (rotF 19 (V (0 + ((k - 2)).toNat)))) (Int.fdiv (V (0 + ((k - 2)).toNat)) (2 ^ 10)))))
def w2F (f : Nat → Int) : Nat → Nat → Int
  | 0 => w1F f 16
  | k + 1 => updF (w2F f k) (16 + k) (w2E (w2F f k) ((16 + k : Nat) : Int))
theorem w1_step {f : Nat → Int} (i : Int) (W : Nat → Int) (h : 0 ≤ i) (e : W = w1F f i.toNat) : updF W (0 + i.toNat) (w1E f i) = w1F f (i + 1).toNat := by
  have h1 : (i + 1).toNat = i.toNat + 1 := by omega
  have h2 : ((i.toNat : Nat) : Int) = i := by omega
  rw [h1, e, Nat.zero_add]
  show _ = updF (w1F f i.toNat) i.toNat (w1E f i.toNat)
  rw [h2]
theorem w2_step {f : Nat → Int} (i : Int) (V : Nat → Int) (h : 16 ≤ i) (h64 : i < 64) (e : V = w2F f (i.toNat - 16)) : updF V (0 + i.toNat) (w2E V i) = w2F f ((i + 1).toNat - 16) := by
  have h1 : (i + 1).toNat - 16 = (i.toNat - 16) + 1 := by omega
  have h2 : ((16 + (i.toNat - 16) : Nat) : Int) = i := by omega
  have h3 : 16 + (i.toNat - 16) = i.toNat := by omega
  rw [h1, Nat.zero_add]
  show _ = updF (w2F f (i.toNat - 16)) (16 + (i.toNat - 16)) (w2E (w2F f (i.toNat - 16)) ((16 + (i.toNat - 16) : Nat) : Int))
  rw [h2, h3, ← e]

set_option maxRecDepth 100000 in
set_option maxHeartbeats 4000000 in
theorem words_ (f : Nat → Int) (w : World) :
    Gives Tryz.prog 177 #[.agg (rowF .u8 64 f)] w fun v w1 => v = .agg (rowF .u32 64 (w2F f 48)) ∧ Ch [] w w1 := by
 have S0 := St.nil [] w
 refine enter_ Tryz.func177 rfl (seq_ (reg_ ?_))
 refine new_ S0 (fun b => π b 0) (.cells (rowF .u8 64 f) 233) ?_
 intro zb1 zw2 zS3
 refine new_ zS3 (fun b => π b 0) (.cells (rowF .u32 64 (fun _ => 0)) 266) ?_
 intro zb4 zw5 zS6
 refine nsr_ ?_
 refine new_ zS6 (fun b => π b 0) (.cells (rowF .u32 64 (fun _ => 0)) 266) ?_
 intro zb7 zw8 zS9
 refine nil_ (then_n (seq_ (seq_ (reg_ (pure_ (ι 0) (nil_ (then_n (wp_block ?_))))))))
 refine loopJ_ (fun zn za zw => ∃ (i : Int) (W : Nat → Int) (zj10 : Nat → Value), (zn = (16 - i).toNat ∧ 0 ≤ i ∧ i ≤ 16 ∧ W = w1F f i.toNat) ∧ za = ⟨#[.agg (rowF .u8 64 f), π zb1 0, π zb4 0, π zb7 0, (zj10 4), undef, undef, undef, undef, undef, ι i, (zj10 11), (zj10 12), (zj10 13), (zj10 14), (zj10 15), (zj10 16), (zj10 17), (zj10 18), (zj10 19), (zj10 20), (zj10 21), (zj10 22), (zj10 23), (zj10 24), (zj10 25), (zj10 26), (zj10 27), (zj10 28), (zj10 29), (zj10 30), (zj10 31), (zj10 32), (zj10 33), (zj10 34), (zj10 35), (zj10 36), (zj10 37), (zj10 38), (zj10 39), (zj10 40), (zj10 41), (zj10 42), (zj10 43), (zj10 44), undef, undef, undef, undef, undef, undef, undef, undef, undef, undef, undef, undef, undef, undef, undef, undef, undef, undef, undef, undef, undef, undef, undef, undef, undef, undef, undef, undef, undef, undef, undef, undef, undef, undef, undef, undef, undef, undef, undef, undef, undef, undef, undef, undef], []⟩ ∧ St [] w [(β zb7 (rowF .u32 64 W) 266), (β zb4 (rowF .u32 64 (fun _ => 0)) 266), (β zb1 (rowF .u8 64 f) 233)] zw) _ (fun zy zye => ⟨(0 : Int), (fun _ => 0), (fun d => zy.tmps.getD d undef), ⟨rfl, by omega, by omega, rfl⟩, by subst zye; kernel_rfl, zS9.re (R := ([] : List Blk)) [[(β zb7 (rowF .u32 64 (fun _ => 0)) 266)], [(β zb4 (rowF .u32 64 (fun _ => 0)) 266)], [(β zb1 (rowF .u8 64 f) 233)]] [0, 1, 2]⟩) ?_
 rintro _ _ zw14 ⟨i, W, zj10, ⟨rfl, zf11, zf12, zf13⟩, rfl, zS15⟩
 refine seq_ (reg_ (pure_ (.bool (decide (i < 16))) (nil_ (then_n (seq_ ?_)))))
 refine cond_S (decide (i < 16)) ?_ ?_
 · intro zh16
   have zh17 := ltT' zh16
   refine wp_skip (then_n (seq_ (wp_block (seq_ (reg_ (pure_ (ι i) (pure_ (ι i) (nil_ (then_n ?_)))))))))
   refine quietL_ 30 [ι i, ι i, ι (4 * i), π zb1 (0 + ((4 * i)).toNat), υ (f (0 + ((4 * i)).toNat)), .int .u32 (IntKind.u32.wrap (f (0 + ((4 * i)).toNat))), .int .u32 (IntKind.u32.wrap ((IntKind.u32.wrap (f (0 + ((4 * i)).toNat))) * 2 ^ 24)), ι i, ι (4 * i), ι ((4 * i) + 1), π zb1 (0 + (((4 * i) + 1)).toNat), υ (f (0 + (((4 * i) + 1)).toNat)), .int .u32 (IntKind.u32.wrap (f (0 + (((4 * i) + 1)).toNat))), .int .u32 (IntKind.u32.wrap ((IntKind.u32.wrap (f (0 + (((4 * i) + 1)).toNat))) * 2 ^ 16)), .int .u32 (bits .or .u32 (IntKind.u32.wrap ((IntKind.u32.wrap (f (0 + ((4 * i)).toNat))) * 2 ^ 24)) (IntKind.u32.wrap ((IntKind.u32.wrap (f (0 + (((4 * i) + 1)).toNat))) * 2 ^ 16))), ι i, ι (4 * i), ι ((4 * i) + 2), π zb1 (0 + (((4 * i) + 2)).toNat), υ (f (0 + (((4 * i) + 2)).toNat)), .int .u32 (IntKind.u32.wrap (f (0 + (((4 * i) + 2)).toNat))), .int .u32 (IntKind.u32.wrap ((IntKind.u32.wrap (f (0 + (((4 * i) + 2)).toNat))) * 2 ^ 8)), .int .u32 (bits .or .u32 (bits .or .u32 (IntKind.u32.wrap ((IntKind.u32.wrap (f (0 + ((4 * i)).toNat))) * 2 ^ 24)) (IntKind.u32.wrap ((IntKind.u32.wrap (f (0 + (((4 * i) + 1)).toNat))) * 2 ^ 16))) (IntKind.u32.wrap ((IntKind.u32.wrap (f (0 + (((4 * i) + 2)).toNat))) * 2 ^ 8))), ι i, ι (4 * i), ι ((4 * i) + 3), π zb1 (0 + (((4 * i) + 3)).toNat), υ (f (0 + (((4 * i) + 3)).toNat)), .int .u32 (IntKind.u32.wrap (f (0 + (((4 * i) + 3)).toNat))), .int .u32 (bits .or .u32 (bits .or .u32 (bits .or .u32 (IntKind.u32.wrap ((IntKind.u32.wrap (f (0 + ((4 * i)).toNat))) * 2 ^ 24)) (IntKind.u32.wrap ((IntKind.u32.wrap (f (0 + (((4 * i) + 1)).toNat))) * 2 ^ 16))) (IntKind.u32.wrap ((IntKind.u32.wrap (f (0 + (((4 * i) + 2)).toNat))) * 2 ^ 8))) (IntKind.u32.wrap (f (0 + (((4 * i) + 3)).toNat))))] [[30, 0], [30, 1], [30, 2], [30, 3], [30, 4], [30, 5], [30, 6], [30, 7], [30, 8], [30, 9], [30, 10], [30, 11], [30, 12], [30, 13], [30, 14], [30, 15], [30, 16], [30, 17], [30, 18], [30, 19], [30, 20], [30, 21], [30, 22], [30, 23], [30, 24], [30, 25], [30, 26], [30, 27], [30, 28], [30, 29], [31, 0], [31, 1], [31, 2], [31, 3], [31, 4], [31, 5], [31, 6], [31, 7], [31, 8], [31, 9], [31, 10], [31, 11], [31, 12], [31, 13], [31, 14], [31, 15], [31, 16], [31, 17], [31, 18], [31, 19], [31, 20], [31, 21], [31, 22], [31, 23], [31, 24], [31, 25], [31, 26], [31, 27], [31, 28], [31, 29], [31, 30]] (step_cons qP_ (step_cons qP_ (step_cons (qS_ .i64 (4 * i) (IntWalk.i64_in _ (by omega))) (step_cons (qI_ zb1 0 (0 + ((4 * i)).toNat) 64 1 .i64 (4 * i) (by omega) (by omega) (by omega) (e := 5)) (step_cons (qLh_ zS15 2 zb1 (0 + ((4 * i)).toNat) (lk_of (wr := true) (t := 233) (fr := (0, 0)) (by kernel_rfl) (rowF_at .u8 (n := 64) f (by omega)))) (step_cons qP_ (step_cons qP_ (step_cons qP_ (step_cons (qS_ .i64 (4 * i) (IntWalk.i64_in _ (by omega))) (step_cons (qS_ .i64 ((4 * i) + 1) (IntWalk.i64_in _ (by omega))) (step_cons (qI_ zb1 0 (0 + (((4 * i) + 1)).toNat) 64 1 .i64 ((4 * i) + 1) (by omega) (by omega) (by omega) (e := 5)) (step_cons (qLh_ zS15 2 zb1 (0 + (((4 * i) + 1)).toNat) (lk_of (wr := true) (t := 233) (fr := (0, 0)) (by kernel_rfl) (rowF_at .u8 (n := 64) f (by omega)))) (step_cons qP_ (step_cons qP_ (step_cons qP_ (step_cons qP_ (step_cons (qS_ .i64 (4 * i) (IntWalk.i64_in _ (by omega))) (step_cons (qS_ .i64 ((4 * i) + 2) (IntWalk.i64_in _ (by omega))) (step_cons (qI_ zb1 0 (0 + (((4 * i) + 2)).toNat) 64 1 .i64 ((4 * i) + 2) (by omega) (by omega) (by omega) (e := 5)) (step_cons (qLh_ zS15 2 zb1 (0 + (((4 * i) + 2)).toNat) (lk_of (wr := true) (t := 233) (fr := (0, 0)) (by kernel_rfl) (rowF_at .u8 (n := 64) f (by omega)))) (step_cons qP_ (step_cons qP_ (step_cons qP_ (step_cons qP_ (step_cons (qS_ .i64 (4 * i) (IntWalk.i64_in _ (by omega))) (step_cons (qS_ .i64 ((4 * i) + 3) (IntWalk.i64_in _ (by omega))) (step_cons (qI_ zb1 0 (0 + (((4 * i) + 3)).toNat) 64 1 .i64 ((4 * i) + 3) (by omega) (by omega) (by omega) (e := 5)) (step_cons (qLh_ zS15 2 zb1 (0 + (((4 * i) + 3)).toNat) (lk_of (wr := true) (t := 233) (fr := (0, 0)) (by kernel_rfl) (rowF_at .u8 (n := 64) f (by omega)))) (step_cons qP_ (step_cons qP_ (step_nil))))))))))))))))))))))))))))))) ?_
   intro zw18 zh20
   have zS19 := zS15.quiet zh20
   refine idxA_ zb7 0 (0 + (i).toNat) 64 1 .i64 i (by omega) (by omega) (by omega) ?_ (e := 229)
   refine store_ zS19 0 (.int .u32 (bits .or .u32 (bits .or .u32 (bits .or .u32 (IntKind.u32.wrap ((IntKind.u32.wrap (f (0 + ((4 * i)).toNat))) * 2 ^ 24)) (IntKind.u32.wrap ((IntKind.u32.wrap (f (0 + (((4 * i) + 1)).toNat))) * 2 ^ 16))) (IntKind.u32.wrap ((IntKind.u32.wrap (f (0 + (((4 * i) + 2)).toNat))) * 2 ^ 8))) (IntKind.u32.wrap (f (0 + (((4 * i) + 3)).toNat))))) zb7 (0 + (i).toNat) ?_ (hb := ckF (t := 266) (kd := .u32) (n := 64) (f := W) (by omega))
   intro zw21 zS22
   have zS23 : St [] w [(β zb7 (rowF .u32 64 (updF W (0 + (i).toNat) (bits .or .u32 (bits .or .u32 (bits .or .u32 (IntKind.u32.wrap ((IntKind.u32.wrap (f (0 + ((4 * i)).toNat))) * 2 ^ 24)) (IntKind.u32.wrap ((IntKind.u32.wrap (f (0 + (((4 * i) + 1)).toNat))) * 2 ^ 16))) (IntKind.u32.wrap ((IntKind.u32.wrap (f (0 + (((4 * i) + 2)).toNat))) * 2 ^ 8))) (IntKind.u32.wrap (f (0 + (((4 * i) + 3)).toNat)))))) 266), (β zb4 (rowF .u32 64 (fun _ => 0)) 266), (β zb1 (rowF .u8 64 f) 233)] zw21 := St.stF (t := 266) (kd := .u32) (n := 64) (f := W) (i := 0) (off := (0 + (i).toNat)) (b := zb7) zS22 (by omega)
   refine nil_ (blk_n (then_n (reg_ (sum_ .i64 (i + 1) (IntWalk.i64_in _ (by omega)) (pure_ (ι (i + 1)) (nil_ ?_))))))
   refine then_j fun zy zye => ?_
   exact ⟨_, by omega, (i + 1), (updF W (0 + (i).toNat) (bits .or .u32 (bits .or .u32 (bits .or .u32 (IntKind.u32.wrap ((IntKind.u32.wrap (f (0 + ((4 * i)).toNat))) * 2 ^ 24)) (IntKind.u32.wrap ((IntKind.u32.wrap (f (0 + (((4 * i) + 1)).toNat))) * 2 ^ 16))) (IntKind.u32.wrap ((IntKind.u32.wrap (f (0 + (((4 * i) + 2)).toNat))) * 2 ^ 8))) (IntKind.u32.wrap (f (0 + (((4 * i) + 3)).toNat))))), (fun d => zy.tmps.getD d undef), ⟨rfl, by omega, by omega, w1_step i W (by omega) zf13⟩, by subst zye; kernel_rfl, zS23.re (R := ([] : List Blk)) [[(β zb7 (rowF .u32 64 (updF W (0 + (i).toNat) (bits .or .u32 (bits .or .u32 (bits .or .u32 (IntKind.u32.wrap ((IntKind.u32.wrap (f (0 + ((4 * i)).toNat))) * 2 ^ 24)) (IntKind.u32.wrap ((IntKind.u32.wrap (f (0 + (((4 * i) + 1)).toNat))) * 2 ^ 16))) (IntKind.u32.wrap ((IntKind.u32.wrap (f (0 + (((4 * i) + 2)).toNat))) * 2 ^ 8))) (IntKind.u32.wrap (f (0 + (((4 * i) + 3)).toNat)))))) 266)], [(β zb4 (rowF .u32 64 (fun _ => 0)) 266)], [(β zb1 (rowF .u8 64 f) 233)]] [0, 1, 2]⟩
 intro zh24
 have zh25 := ltF' zh24
 refine wp_exit (then_e (then_e (blk_e (then_n (seq_ (seq_ (reg_ (pure_ (ι 16) (nil_ (then_n (wp_block ?_)))))))))))
 refine loopJ_ (fun zn za zw => ∃ (k : Int) (V : Nat → Int) (zj26 : Nat → Value), (zn = (64 - k).toNat ∧ 16 ≤ k ∧ k ≤ 64 ∧ V = w2F f (k.toNat - 16)) ∧ za = ⟨#[.agg (rowF .u8 64 f), π zb1 0, π zb4 0, π zb7 0, (zj10 4), ι k, (zj26 6), (zj26 7), (zj26 8), (zj26 9), ι i, .bool (decide (i < 16)), (zj10 12), (zj10 13), (zj10 14), (zj10 15), (zj10 16), (zj10 17), (zj10 18), (zj10 19), (zj10 20), (zj10 21), (zj10 22), (zj10 23), (zj10 24), (zj10 25), (zj10 26), (zj10 27), (zj10 28), (zj10 29), (zj10 30), (zj10 31), (zj10 32), (zj10 33), (zj10 34), (zj10 35), (zj10 36), (zj10 37), (zj10 38), (zj10 39), (zj10 40), (zj10 41), (zj10 42), (zj10 43), (zj10 44), (zj26 45), (zj26 46), (zj26 47), (zj26 48), (zj26 49), (zj26 50), (zj26 51), (zj26 52), (zj26 53), (zj26 54), (zj26 55), (zj26 56), (zj26 57), (zj26 58), (zj26 59), (zj26 60), (zj26 61), (zj26 62), (zj26 63), (zj26 64), (zj26 65), (zj26 66), (zj26 67), (zj26 68), (zj26 69), (zj26 70), (zj26 71), (zj26 72), (zj26 73), (zj26 74), (zj26 75), (zj26 76), (zj26 77), (zj26 78), (zj26 79), (zj26 80), (zj26 81), (zj26 82), (zj26 83), (zj26 84), (zj26 85), (zj26 86), (zj26 87), undef], []⟩ ∧ St [] w [(β zb7 (rowF .u32 64 V) 266), (β zb4 (rowF .u32 64 (fun _ => 0)) 266), (β zb1 (rowF .u8 64 f) 233)] zw) _ (fun zy zye => ⟨(16 : Int), W, (fun d => zy.tmps.getD d undef), ⟨rfl, by omega, by omega, (by rw [zf13, show i.toNat = 16 by omega]; rfl)⟩, by subst zye; kernel_rfl, zS15.re (R := ([] : List Blk)) [[(β zb7 (rowF .u32 64 W) 266)], [(β zb4 (rowF .u32 64 (fun _ => 0)) 266)], [(β zb1 (rowF .u8 64 f) 233)]] [0, 1, 2]⟩) ?_
 rintro _ _ zw30 ⟨k, V, zj26, ⟨rfl, zf27, zf28, zf29⟩, rfl, zS31⟩
 refine seq_ (seq_ (reg_ (pure_ (ι k) (pure_ (.bool (decide (k < 64))) (nil_ (then_n ?_))))))
 refine cond_S (decide (k < 64)) ?_ ?_
 · intro zh32
   have zh33 := ltT' zh32
   refine wp_skip (then_n (seq_ (wp_block (seq_ ?_))))
   refine quietL_ 9 [ι k, ι (k - 15), π zb7 (0 + ((k - 15)).toNat), .int .u32 (V (0 + ((k - 15)).toNat)), ι k, ι (k - 2), π zb7 (0 + ((k - 2)).toNat), .int .u32 (V (0 + ((k - 2)).toNat)), .int .u32 (V (0 + ((k - 15)).toNat))] [[9, 0], [9, 1], [9, 2], [9, 3], [9, 4], [9, 5], [9, 6], [9, 7], [9, 8]] (step_cons qP_ (step_cons (qS_ .i64 (k - 15) (IntWalk.i64_in _ (by omega))) (step_cons (qI_ zb7 0 (0 + ((k - 15)).toNat) 64 1 .i64 (k - 15) (by omega) (by omega) (by omega) (e := 229)) (step_cons (qLh_ zS31 0 zb7 (0 + ((k - 15)).toNat) (lk_of (wr := true) (t := 266) (fr := (0, 0)) (by kernel_rfl) (rowF_at .u32 (n := 64) V (by omega)))) (step_cons qP_ (step_cons (qS_ .i64 (k - 2) (IntWalk.i64_in _ (by omega))) (step_cons (qI_ zb7 0 (0 + ((k - 2)).toNat) 64 1 .i64 (k - 2) (by omega) (by omega) (by omega) (e := 229)) (step_cons (qLh_ zS31 0 zb7 (0 + ((k - 2)).toNat) (lk_of (wr := true) (t := 266) (fr := (0, 0)) (by kernel_rfl) (rowF_at .u32 (n := 64) V (by omega)))) (step_cons qP_ (step_nil)))))))))) ?_
   intro zw34 zh36
   have zS35 := zS31.quiet zh36
   refine assign_ (nsr_ (move_ (call_ 178 #[.int .u32 (V (0 + ((k - 15)).toNat)), ι 7] ?_)))
   refine (right_7 (V (0 + ((k - 15)).toNat)) _).mono ?_; rintro _ zw37 ⟨rfl, zh38⟩
   have zS39 := zS35.quiet zh38
   refine move_ (call_ 178 #[.int .u32 (V (0 + ((k - 15)).toNat)), ι 18] ?_)
   refine (right_18 (V (0 + ((k - 15)).toNat)) _).mono ?_; rintro _ zw40 ⟨rfl, zh41⟩
   have zS42 := zS39.quiet zh41
   refine pure_ (.int .u32 (bits .xor .u32 (rotF 7 (V (0 + ((k - 15)).toNat))) (rotF 18 (V (0 + ((k - 15)).toNat))))) (move_ (pure_ (.int .u32 (Int.fdiv (V (0 + ((k - 15)).toNat)) (2 ^ 3))) (pure_ (.int .u32 (bits .xor .u32 (bits .xor .u32 (rotF 7 (V (0 + ((k - 15)).toNat))) (rotF 18 (V (0 + ((k - 15)).toNat)))) (Int.fdiv (V (0 + ((k - 15)).toNat)) (2 ^ 3)))) (assign_ (nsr_ (move_ (call_ 178 #[.int .u32 (V (0 + ((k - 2)).toNat)), ι 17] ?_)))))))
   refine (right_17 (V (0 + ((k - 2)).toNat)) _).mono ?_; rintro _ zw43 ⟨rfl, zh44⟩
   have zS45 := zS42.quiet zh44
   refine move_ (call_ 178 #[.int .u32 (V (0 + ((k - 2)).toNat)), ι 19] ?_)
   refine (right_19 (V (0 + ((k - 2)).toNat)) _).mono ?_; rintro _ zw46 ⟨rfl, zh47⟩
   have zS48 := zS45.quiet zh47
   refine pure_ (.int .u32 (bits .xor .u32 (rotF 17 (V (0 + ((k - 2)).toNat))) (rotF 19 (V (0 + ((k - 2)).toNat))))) (move_ (pure_ (.int .u32 (Int.fdiv (V (0 + ((k - 2)).toNat)) (2 ^ 10))) (pure_ (.int .u32 (bits .xor .u32 (bits .xor .u32 (rotF 17 (V (0 + ((k - 2)).toNat))) (rotF 19 (V (0 + ((k - 2)).toNat)))) (Int.fdiv (V (0 + ((k - 2)).toNat)) (2 ^ 10)))) (assign_ (nil_ (then_n ?_))))))
   refine quietL_ 14 [ι k, ι k, ι (k - 16), π zb7 (0 + ((k - 16)).toNat), .int .u32 (V (0 + ((k - 16)).toNat)), ι k, ι (k - 7), π zb7 (0 + ((k - 7)).toNat), .int .u32 (V (0 + ((k - 7)).toNat)), .int .u32 (IntKind.u32.wrap ((V (0 + ((k - 16)).toNat)) + (V (0 + ((k - 7)).toNat)))), .int .u32 (bits .xor .u32 (bits .xor .u32 (rotF 7 (V (0 + ((k - 15)).toNat))) (rotF 18 (V (0 + ((k - 15)).toNat)))) (Int.fdiv (V (0 + ((k - 15)).toNat)) (2 ^ 3))), .int .u32 (IntKind.u32.wrap ((IntKind.u32.wrap ((V (0 + ((k - 16)).toNat)) + (V (0 + ((k - 7)).toNat)))) + (bits .xor .u32 (bits .xor .u32 (rotF 7 (V (0 + ((k - 15)).toNat))) (rotF 18 (V (0 + ((k - 15)).toNat)))) (Int.fdiv (V (0 + ((k - 15)).toNat)) (2 ^ 3))))), .int .u32 (bits .xor .u32 (bits .xor .u32 (rotF 17 (V (0 + ((k - 2)).toNat))) (rotF 19 (V (0 + ((k - 2)).toNat)))) (Int.fdiv (V (0 + ((k - 2)).toNat)) (2 ^ 10))), .int .u32 (IntKind.u32.wrap ((IntKind.u32.wrap ((IntKind.u32.wrap ((V (0 + ((k - 16)).toNat)) + (V (0 + ((k - 7)).toNat)))) + (bits .xor .u32 (bits .xor .u32 (rotF 7 (V (0 + ((k - 15)).toNat))) (rotF 18 (V (0 + ((k - 15)).toNat)))) (Int.fdiv (V (0 + ((k - 15)).toNat)) (2 ^ 3))))) + (bits .xor .u32 (bits .xor .u32 (rotF 17 (V (0 + ((k - 2)).toNat))) (rotF 19 (V (0 + ((k - 2)).toNat)))) (Int.fdiv (V (0 + ((k - 2)).toNat)) (2 ^ 10)))))] [[14, 0], [14, 1], [14, 2], [14, 3], [14, 4], [14, 5], [14, 6], [14, 7], [14, 8], [14, 9], [14, 10], [14, 11], [14, 12], [14, 13], [15, 0], [15, 1], [15, 2], [15, 3], [15, 4], [15, 5], [15, 6], [15, 7], [15, 8], [15, 9], [15, 10], [15, 11], [15, 12], [15, 13], [15, 14]] (step_cons qP_ (step_cons qP_ (step_cons (qS_ .i64 (k - 16) (IntWalk.i64_in _ (by omega))) (step_cons (qI_ zb7 0 (0 + ((k - 16)).toNat) 64 1 .i64 (k - 16) (by omega) (by omega) (by omega) (e := 229)) (step_cons (qLh_ zS48 0 zb7 (0 + ((k - 16)).toNat) (lk_of (wr := true) (t := 266) (fr := (0, 0)) (by kernel_rfl) (rowF_at .u32 (n := 64) V (by omega)))) (step_cons qP_ (step_cons (qS_ .i64 (k - 7) (IntWalk.i64_in _ (by omega))) (step_cons (qI_ zb7 0 (0 + ((k - 7)).toNat) 64 1 .i64 (k - 7) (by omega) (by omega) (by omega) (e := 229)) (step_cons (qLh_ zS48 0 zb7 (0 + ((k - 7)).toNat) (lk_of (wr := true) (t := 266) (fr := (0, 0)) (by kernel_rfl) (rowF_at .u32 (n := 64) V (by omega)))) (step_cons qP_ (step_cons qP_ (step_cons qP_ (step_cons qP_ (step_cons qP_ (step_nil))))))))))))))) ?_
   intro zw49 zh51
   have zS50 := zS48.quiet zh51
   refine idxA_ zb7 0 (0 + (k).toNat) 64 1 .i64 k (by omega) (by omega) (by omega) ?_ (e := 229)
   refine store_ zS50 0 (.int .u32 (IntKind.u32.wrap ((IntKind.u32.wrap ((IntKind.u32.wrap ((V (0 + ((k - 16)).toNat)) + (V (0 + ((k - 7)).toNat)))) + (bits .xor .u32 (bits .xor .u32 (rotF 7 (V (0 + ((k - 15)).toNat))) (rotF 18 (V (0 + ((k - 15)).toNat)))) (Int.fdiv (V (0 + ((k - 15)).toNat)) (2 ^ 3))))) + (bits .xor .u32 (bits .xor .u32 (rotF 17 (V (0 + ((k - 2)).toNat))) (rotF 19 (V (0 + ((k - 2)).toNat)))) (Int.fdiv (V (0 + ((k - 2)).toNat)) (2 ^ 10)))))) zb7 (0 + (k).toNat) ?_ (hb := ckF (t := 266) (kd := .u32) (n := 64) (f := V) (by omega))
   intro zw52 zS53
   have zS54 : St [] w [(β zb7 (rowF .u32 64 (updF V (0 + (k).toNat) (IntKind.u32.wrap ((IntKind.u32.wrap ((IntKind.u32.wrap ((V (0 + ((k - 16)).toNat)) + (V (0 + ((k - 7)).toNat)))) + (bits .xor .u32 (bits .xor .u32 (rotF 7 (V (0 + ((k - 15)).toNat))) (rotF 18 (V (0 + ((k - 15)).toNat)))) (Int.fdiv (V (0 + ((k - 15)).toNat)) (2 ^ 3))))) + (bits .xor .u32 (bits .xor .u32 (rotF 17 (V (0 + ((k - 2)).toNat))) (rotF 19 (V (0 + ((k - 2)).toNat)))) (Int.fdiv (V (0 + ((k - 2)).toNat)) (2 ^ 10))))))) 266), (β zb4 (rowF .u32 64 (fun _ => 0)) 266), (β zb1 (rowF .u8 64 f) 233)] zw52 := St.stF (t := 266) (kd := .u32) (n := 64) (f := V) (i := 0) (off := (0 + (k).toNat)) (b := zb7) zS53 (by omega)
   refine nil_ (blk_n (then_n (reg_ (pure_ (ι k) (sum_ .i64 (k + 1) (IntWalk.i64_in _ (by omega)) (pure_ (ι (k + 1)) (nil_ ?_)))))))
   refine then_j fun zy zye => ?_
   exact ⟨_, by omega, (k + 1), (updF V (0 + (k).toNat) (IntKind.u32.wrap ((IntKind.u32.wrap ((IntKind.u32.wrap ((V (0 + ((k - 16)).toNat)) + (V (0 + ((k - 7)).toNat)))) + (bits .xor .u32 (bits .xor .u32 (rotF 7 (V (0 + ((k - 15)).toNat))) (rotF 18 (V (0 + ((k - 15)).toNat)))) (Int.fdiv (V (0 + ((k - 15)).toNat)) (2 ^ 3))))) + (bits .xor .u32 (bits .xor .u32 (rotF 17 (V (0 + ((k - 2)).toNat))) (rotF 19 (V (0 + ((k - 2)).toNat)))) (Int.fdiv (V (0 + ((k - 2)).toNat)) (2 ^ 10)))))), (fun d => zy.tmps.getD d undef), ⟨rfl, by omega, by omega, w2_step k V (by omega) (by omega) zf29⟩, by subst zye; kernel_rfl, zS54.re (R := ([] : List Blk)) [[(β zb7 (rowF .u32 64 (updF V (0 + (k).toNat) (IntKind.u32.wrap ((IntKind.u32.wrap ((IntKind.u32.wrap ((V (0 + ((k - 16)).toNat)) + (V (0 + ((k - 7)).toNat)))) + (bits .xor .u32 (bits .xor .u32 (rotF 7 (V (0 + ((k - 15)).toNat))) (rotF 18 (V (0 + ((k - 15)).toNat)))) (Int.fdiv (V (0 + ((k - 15)).toNat)) (2 ^ 3))))) + (bits .xor .u32 (bits .xor .u32 (rotF 17 (V (0 + ((k - 2)).toNat))) (rotF 19 (V (0 + ((k - 2)).toNat)))) (Int.fdiv (V (0 + ((k - 2)).toNat)) (2 ^ 10))))))) 266)], [(β zb4 (rowF .u32 64 (fun _ => 0)) 266)], [(β zb1 (rowF .u8 64 f) 233)]] [0, 1, 2]⟩
 intro zh55
 have zh56 := ltF' zh55
 refine wp_exit (then_e (then_e (blk_e (then_n (seq_ (reg_ (loadN_ zS31 0 64 (rowF .u32 64 V) zb7 0 ?_)))))))
 refine store_ zS31 1 (.agg (rowF .u32 64 V)) zb4 0 ?_
 intro zw57 zS58
 refine nil_ (then_n (wp_ret (ret_ rfl (res_ [.cell 2 266] [.agg (rowF .u32 64 V)] (.agg (rowF .u32 64 V)) ⟨res_cellN zS58 1 64 zb4 0, trivial⟩) ?_)))
 have ze : V = w2F f 48 := by rw [zf29, show k.toNat - 16 = 48 by omega]
 exact ⟨by (rw [← ze]) <;> kernel_rfl, zS58.ch⟩

def l8 (a b c d e f g h : Int) : Nat → Int := fun j => ([a, b, c, d, e, f, g, h] : List Int).getD j 0
def rE (N W : Nat → Int) (k : Int) : Nat → Int := (l8 (IntKind.u32.wrap ((IntKind.u32.wrap ((IntKind.u32.wrap ((IntKind.u32.wrap ((IntKind.u32.wrap ((N 7) + (bits .xor .u32 (bits .xor .u32 (rotF 6 (N 4)) (rotF 11 (N 4))) (rotF 25 (N 4))))) + (bits .or .u32 (bits .and .u32 (N 4) (N 5)) (bits .and .u32 (bits .xor .u32 4294967295 (N 4)) (N 6))))) + (rootF (0 + (k).toNat)))) + (W (0 + (k).toNat)))) + (IntKind.u32.wrap ((bits .xor .u32 (bits .xor .u32 (rotF 2 (N 0)) (rotF 13 (N 0))) (rotF 22 (N 0))) + (bits .or .u32 (bits .or .u32 (bits .and .u32 (N 0) (N 1)) (bits .and .u32 (N 0) (N 2))) (bits .and .u32 (N 1) (N 2))))))) (N 0) (N 1) (N 2) (IntKind.u32.wrap ((N 3) + (IntKind.u32.wrap ((IntKind.u32.wrap ((IntKind.u32.wrap ((IntKind.u32.wrap ((N 7) + (bits .xor .u32 (bits .xor .u32 (rotF 6 (N 4)) (rotF 11 (N 4))) (rotF 25 (N 4))))) + (bits .or .u32 (bits .and .u32 (N 4) (N 5)) (bits .and .u32 (bits .xor .u32 4294967295 (N 4)) (N 6))))) + (rootF (0 + (k).toNat)))) + (W (0 + (k).toNat)))))) (N 4) (N 5) (N 6))
def rndF (h W : Nat → Int) : Nat → Nat → Int
  | 0 => h
  | n + 1 => rE (rndF h W n) W (n : Int)
def blockF (h f : Nat → Int) : Nat → Int := fun j => IntKind.u32.wrap (rndF h (w2F f 48) 64 j + h j)
theorem rnd_step {h W : Nat → Int} (k : Int) (N : Nat → Int) (h0 : 0 ≤ k) (e : N = rndF h W k.toNat) : rE N W k = rndF h W (k + 1).toNat := by
  have h1 : (k + 1).toNat = k.toNat + 1 := by omega
  have h2 : ((k.toNat : Nat) : Int) = k := by omega
  rw [h1]
  show _ = rE (rndF h W k.toNat) W (k.toNat : Int)
  rw [h2, ← e]

set_option maxRecDepth 100000 in
set_option maxHeartbeats 4000000 in
theorem block_ (h f : Nat → Int) {tG : TypeId} (w : World) (hG : w.heap[(0)]? = some (.cells (rowF .u32 64 rootF) tG (0, 0))) :
    Gives Tryz.prog 136 #[.agg (rowF .u32 8 h), .agg (rowF .u8 64 f)] w fun v w1 => v = .agg (rowF .u32 8 (blockF h f)) ∧ Ch [] w w1 := by
 have S0 := St.given (w := w) [((0), .cells (rowF .u32 64 rootF) tG (0, 0))] (all_cons hG (all_nil))
 refine enter_ Tryz.func136 rfl (seq_ (reg_ ?_))
 refine new_ S0 (fun b => π b 0) (.cells (rowF .u32 8 h) 230) ?_
 intro zb1 zw2 zS3
 refine new_ zS3 (fun b => π b 0) (.cells (rowF .u8 64 f) 233) ?_
 intro zb4 zw5 zS6
 refine new_ zS6 (fun b => π b 0) (.cells (rowF .u32 8 (fun _ => 0)) 230) ?_
 intro zb7 zw8 zS9
 refine nsr_ (loadN_ zS9 1 64 (rowF .u8 64 f) zb4 0 (call_ 177 #[.agg (rowF .u8 64 f)] ?_))
 refine (words_ f _).mono ?_; rintro _ zw10 ⟨rfl, zh11⟩
 have zS12 := zS9.quiet zh11
 refine new_ zS12 (fun b => π b 0) (.cells (rowF .u32 64 (fun _ => 0)) 266) ?_
 intro zb13 zw14 zS15
 refine store_ zS15 0 (.agg (rowF .u32 64 (w2F f 48))) zb13 0 ?_
 intro zw16 zS17
 refine nsr_ (loadN_ zS17 3 8 (rowF .u32 8 h) zb1 0 ?_)
 refine new_ zS17 (fun b => π b 0) (.cells (rowF .u32 8 (fun _ => 0)) 230) ?_
 intro zb18 zw19 zS20
 refine store_ zS20 0 (.agg (rowF .u32 8 h)) zb18 0 ?_
 intro zw21 zS22
 refine nil_ (then_n (seq_ (seq_ (reg_ (pure_ (ι 0) (nil_ (then_n (wp_block ?_))))))))
 refine loopJ_ (fun zn za zw => ∃ (k : Int) (N : Nat → Int) (zj23 : Nat → Value), (zn = (64 - k).toNat ∧ 0 ≤ k ∧ k ≤ 64 ∧ N = rndF h (w2F f 48) k.toNat) ∧ za = ⟨#[.agg (rowF .u32 8 h), .agg (rowF .u8 64 f), π zb1 0, π zb4 0, π zb7 0, π zb13 0, π zb18 0, (zj23 7), (zj23 8), (zj23 9), (zj23 10), (zj23 11), (zj23 12), undef, .agg (rowF .u8 64 f), .agg (rowF .u32 64 (w2F f 48)), .agg (rowF .u32 8 h), ι k, (zj23 18), (zj23 19), (zj23 20), (zj23 21), (zj23 22), (zj23 23), (zj23 24), (zj23 25), (zj23 26), (zj23 27), (zj23 28), (zj23 29), (zj23 30), (zj23 31), (zj23 32), (zj23 33), (zj23 34), (zj23 35), (zj23 36), (zj23 37), (zj23 38), (zj23 39), (zj23 40), (zj23 41), (zj23 42), (zj23 43), (zj23 44), (zj23 45), (zj23 46), (zj23 47), (zj23 48), (zj23 49), (zj23 50), (zj23 51), (zj23 52), (zj23 53), (zj23 54), (zj23 55), (zj23 56), (zj23 57), (zj23 58), (zj23 59), (zj23 60), (zj23 61), (zj23 62), (zj23 63), (zj23 64), (zj23 65), (zj23 66), (zj23 67), (zj23 68), (zj23 69), (zj23 70), (zj23 71), (zj23 72), (zj23 73), (zj23 74), (zj23 75), (zj23 76), (zj23 77), (zj23 78), (zj23 79), (zj23 80), (zj23 81), (zj23 82), (zj23 83), (zj23 84), (zj23 85), (zj23 86), (zj23 87), (zj23 88), (zj23 89), (zj23 90), (zj23 91), (zj23 92), (zj23 93), (zj23 94), (zj23 95), (zj23 96), (zj23 97), (zj23 98), (zj23 99), undef, undef, undef, undef, undef, undef, undef, undef, undef, undef, undef, undef, undef], []⟩ ∧ St [] w [(β zb18 (rowF .u32 8 N) 230), (β zb13 (rowF .u32 64 (w2F f 48)) 266), (β zb7 (rowF .u32 8 (fun _ => 0)) 230), (β zb4 (rowF .u8 64 f) 233), (β zb1 (rowF .u32 8 h) 230), ⟨(0), false, .cells (rowF .u32 64 rootF) tG (0, 0)⟩] zw) _ (fun zy zye => ⟨(0 : Int), h, (fun d => zy.tmps.getD d undef), ⟨rfl, by omega, by omega, rfl⟩, by subst zye; kernel_rfl, zS22.re (R := ([] : List Blk)) [[(β zb18 (rowF .u32 8 h) 230)], [(β zb13 (rowF .u32 64 (w2F f 48)) 266)], [(β zb7 (rowF .u32 8 (fun _ => 0)) 230)], [(β zb4 (rowF .u8 64 f) 233)], [(β zb1 (rowF .u32 8 h) 230)], [⟨(0), false, .cells (rowF .u32 64 rootF) tG (0, 0)⟩]] [0, 1, 2, 3, 4, 5]⟩) ?_
 rintro _ _ zw27 ⟨k, N, zj23, ⟨rfl, zf24, zf25, zf26⟩, rfl, zS28⟩
 refine seq_ (reg_ (pure_ (.bool (decide (k < 64))) (nil_ (then_n (seq_ ?_)))))
 refine cond_S (decide (k < 64)) ?_ ?_
 · intro zh29
   have zh30 := ltT' zh29
   refine wp_skip (then_n (seq_ (wp_block (seq_ (reg_ (pure_ (ι k) (pure_ (ι k) (nil_ (then_n (seq_ ?_))))))))))
   refine quietL_ 8 [π zb18 0, .int .u32 (N 0), π zb18 4, .int .u32 (N 4), π zb18 7, .int .u32 (N 7), .int .u32 (N 0), .int .u32 (N 4)] [[8, 0], [8, 1], [8, 2], [8, 3], [8, 4], [8, 5], [8, 6], [8, 7]] (step_cons qP_ (step_cons (qL_ zS28 0 zb18 0) (step_cons qP_ (step_cons (qL_ zS28 0 zb18 4) (step_cons qP_ (step_cons (qL_ zS28 0 zb18 7) (step_cons qP_ (step_cons qP_ (step_nil))))))))) ?_
   intro zw31 zh33
   have zS32 := zS28.quiet zh33
   refine pure_ (.int .u32 (N 7)) (nil_ (then_n (seq_ ?_)))
   refine quietL_ 28 [.int .u32 (N 7), .int .u32 (N 4), .int .u32 (rotF 6 (N 4)), .int .u32 (N 4), .int .u32 (rotF 11 (N 4)), .int .u32 (bits .xor .u32 (rotF 6 (N 4)) (rotF 11 (N 4))), .int .u32 (N 4), .int .u32 (rotF 25 (N 4)), .int .u32 (bits .xor .u32 (bits .xor .u32 (rotF 6 (N 4)) (rotF 11 (N 4))) (rotF 25 (N 4))), .int .u32 (IntKind.u32.wrap ((N 7) + (bits .xor .u32 (bits .xor .u32 (rotF 6 (N 4)) (rotF 11 (N 4))) (rotF 25 (N 4))))), .int .u32 (N 4), π zb18 5, .int .u32 (N 5), .int .u32 (bits .and .u32 (N 4) (N 5)), .int .u32 (N 4), .int .u32 (bits .xor .u32 4294967295 (N 4)), π zb18 6, .int .u32 (N 6), .int .u32 (bits .and .u32 (bits .xor .u32 4294967295 (N 4)) (N 6)), .int .u32 (bits .or .u32 (bits .and .u32 (N 4) (N 5)) (bits .and .u32 (bits .xor .u32 4294967295 (N 4)) (N 6))), .int .u32 (IntKind.u32.wrap ((IntKind.u32.wrap ((N 7) + (bits .xor .u32 (bits .xor .u32 (rotF 6 (N 4)) (rotF 11 (N 4))) (rotF 25 (N 4))))) + (bits .or .u32 (bits .and .u32 (N 4) (N 5)) (bits .and .u32 (bits .xor .u32 4294967295 (N 4)) (N 6))))), ι k, π (0) (0 + (k).toNat), .int .u32 (rootF (0 + (k).toNat)), .int .u32 (IntKind.u32.wrap ((IntKind.u32.wrap ((IntKind.u32.wrap ((N 7) + (bits .xor .u32 (bits .xor .u32 (rotF 6 (N 4)) (rotF 11 (N 4))) (rotF 25 (N 4))))) + (bits .or .u32 (bits .and .u32 (N 4) (N 5)) (bits .and .u32 (bits .xor .u32 4294967295 (N 4)) (N 6))))) + (rootF (0 + (k).toNat)))), ι k, π zb13 (0 + (k).toNat), .int .u32 ((w2F f 48) (0 + (k).toNat))] [[28, 24, 20, 9, 0], [28, 24, 20, 9, 8, 5, 2, 1], [28, 24, 20, 9, 8, 5, 2], [28, 24, 20, 9, 8, 5, 4, 3], [28, 24, 20, 9, 8, 5, 4], [28, 24, 20, 9, 8, 5], [28, 24, 20, 9, 8, 7, 6], [28, 24, 20, 9, 8, 7], [28, 24, 20, 9, 8], [28, 24, 20, 9], [28, 24, 20, 19, 13, 10], [28, 24, 20, 19, 13, 12, 11], [28, 24, 20, 19, 13, 12], [28, 24, 20, 19, 13], [28, 24, 20, 19, 18, 15, 14], [28, 24, 20, 19, 18, 15], [28, 24, 20, 19, 18, 17, 16], [28, 24, 20, 19, 18, 17], [28, 24, 20, 19, 18], [28, 24, 20, 19], [28, 24, 20], [28, 24, 23, 22, 21], [28, 24, 23, 22], [28, 24, 23], [28, 24], [28, 27, 26, 25], [28, 27, 26], [28, 27], [29, 0], [29, 1], [29, 2], [29, 3], [29, 4], [29, 5], [29, 6], [29, 7], [29, 8], [29, 9], [29, 10], [29, 11], [29, 12], [29, 13], [29, 14], [29, 15], [29, 16], [29, 17], [29, 18], [29, 19], [29, 20], [29, 21], [29, 22], [29, 23], [29, 24], [29, 25], [29, 26], [29, 27], [29, 28]] (step_cons qP_ (step_cons qP_ (step_cons (qC_ 178 #[.int .u32 (N 4), ι 6] (right_6 (N 4))) (step_cons qP_ (step_cons (qC_ 178 #[.int .u32 (N 4), ι 11] (right_11 (N 4))) (step_cons qP_ (step_cons qP_ (step_cons (qC_ 178 #[.int .u32 (N 4), ι 25] (right_25 (N 4))) (step_cons qP_ (step_cons qP_ (step_cons qP_ (step_cons qP_ (step_cons (qL_ zS32 0 zb18 5) (step_cons qP_ (step_cons qP_ (step_cons qP_ (step_cons qP_ (step_cons (qL_ zS32 0 zb18 6) (step_cons qP_ (step_cons qP_ (step_cons qP_ (step_cons qP_ (step_cons (qI_ (0) 0 (0 + (k).toNat) 64 1 .i64 k (by omega) (by omega) (by omega) (e := 229)) (step_cons (qLh_ zS32 5 (0) (0 + (k).toNat) (lk_of (wr := false) (t := tG) (fr := (0, 0)) (by kernel_rfl) (rowF_at .u32 (n := 64) rootF (by omega)))) (step_cons qP_ (step_cons qP_ (step_cons (qI_ zb13 0 (0 + (k).toNat) 64 1 .i64 k (by omega) (by omega) (by omega) (e := 229)) (step_cons (qLh_ zS32 1 zb13 (0 + (k).toNat) (lk_of (wr := true) (t := 266) (fr := (0, 0)) (by kernel_rfl) (rowF_at .u32 (n := 64) (w2F f 48) (by omega)))) (step_nil))))))))))))))))))))))))))))) ?_
   intro zw34 zh36
   have zS35 := zS32.quiet zh36
   refine pure_ (.int .u32 (IntKind.u32.wrap ((IntKind.u32.wrap ((IntKind.u32.wrap ((IntKind.u32.wrap ((N 7) + (bits .xor .u32 (bits .xor .u32 (rotF 6 (N 4)) (rotF 11 (N 4))) (rotF 25 (N 4))))) + (bits .or .u32 (bits .and .u32 (N 4) (N 5)) (bits .and .u32 (bits .xor .u32 4294967295 (N 4)) (N 6))))) + (rootF (0 + (k).toNat)))) + ((w2F f 48) (0 + (k).toNat))))) (assign_ (nil_ (then_n (seq_ ?_))))
   refine quietL_ 23 [.int .u32 (N 0), .int .u32 (rotF 2 (N 0)), .int .u32 (N 0), .int .u32 (rotF 13 (N 0)), .int .u32 (bits .xor .u32 (rotF 2 (N 0)) (rotF 13 (N 0))), .int .u32 (N 0), .int .u32 (rotF 22 (N 0)), .int .u32 (bits .xor .u32 (bits .xor .u32 (rotF 2 (N 0)) (rotF 13 (N 0))) (rotF 22 (N 0))), .int .u32 (N 0), π zb18 1, .int .u32 (N 1), .int .u32 (bits .and .u32 (N 0) (N 1)), .int .u32 (N 0), π zb18 2, .int .u32 (N 2), .int .u32 (bits .and .u32 (N 0) (N 2)), .int .u32 (bits .or .u32 (bits .and .u32 (N 0) (N 1)) (bits .and .u32 (N 0) (N 2))), π zb18 1, .int .u32 (N 1), π zb18 2, .int .u32 (N 2), .int .u32 (bits .and .u32 (N 1) (N 2)), .int .u32 (bits .or .u32 (bits .or .u32 (bits .and .u32 (N 0) (N 1)) (bits .and .u32 (N 0) (N 2))) (bits .and .u32 (N 1) (N 2)))] [[23, 7, 4, 1, 0], [23, 7, 4, 1], [23, 7, 4, 3, 2], [23, 7, 4, 3], [23, 7, 4], [23, 7, 6, 5], [23, 7, 6], [23, 7], [23, 22, 16, 11, 8], [23, 22, 16, 11, 10, 9], [23, 22, 16, 11, 10], [23, 22, 16, 11], [23, 22, 16, 15, 12], [23, 22, 16, 15, 14, 13], [23, 22, 16, 15, 14], [23, 22, 16, 15], [23, 22, 16], [23, 22, 21, 18, 17], [23, 22, 21, 18], [23, 22, 21, 20, 19], [23, 22, 21, 20], [23, 22, 21], [23, 22], [24, 0], [24, 1], [24, 2], [24, 3], [24, 4], [24, 5], [24, 6], [24, 7], [24, 8], [24, 9], [24, 10], [24, 11], [24, 12], [24, 13], [24, 14], [24, 15], [24, 16], [24, 17], [24, 18], [24, 19], [24, 20], [24, 21], [24, 22], [24, 23]] (step_cons qP_ (step_cons (qC_ 178 #[.int .u32 (N 0), ι 2] (right_2 (N 0))) (step_cons qP_ (step_cons (qC_ 178 #[.int .u32 (N 0), ι 13] (right_13 (N 0))) (step_cons qP_ (step_cons qP_ (step_cons (qC_ 178 #[.int .u32 (N 0), ι 22] (right_22 (N 0))) (step_cons qP_ (step_cons qP_ (step_cons qP_ (step_cons (qL_ zS35 0 zb18 1) (step_cons qP_ (step_cons qP_ (step_cons qP_ (step_cons (qL_ zS35 0 zb18 2) (step_cons qP_ (step_cons qP_ (step_cons qP_ (step_cons (qL_ zS35 0 zb18 1) (step_cons qP_ (step_cons (qL_ zS35 0 zb18 2) (step_cons qP_ (step_cons qP_ (step_nil)))))))))))))))))))))))) ?_
   intro zw37 zh39
   have zS38 := zS35.quiet zh39
   refine pure_ (.int .u32 (IntKind.u32.wrap ((bits .xor .u32 (bits .xor .u32 (rotF 2 (N 0)) (rotF 13 (N 0))) (rotF 22 (N 0))) + (bits .or .u32 (bits .or .u32 (bits .and .u32 (N 0) (N 1)) (bits .and .u32 (N 0) (N 2))) (bits .and .u32 (N 1) (N 2)))))) (assign_ (ns_ (move_ (move_ (pure_ (.int .u32 (IntKind.u32.wrap ((IntKind.u32.wrap ((IntKind.u32.wrap ((IntKind.u32.wrap ((IntKind.u32.wrap ((N 7) + (bits .xor .u32 (bits .xor .u32 (rotF 6 (N 4)) (rotF 11 (N 4))) (rotF 25 (N 4))))) + (bits .or .u32 (bits .and .u32 (N 4) (N 5)) (bits .and .u32 (bits .xor .u32 4294967295 (N 4)) (N 6))))) + (rootF (0 + (k).toNat)))) + ((w2F f 48) (0 + (k).toNat)))) + (IntKind.u32.wrap ((bits .xor .u32 (bits .xor .u32 (rotF 2 (N 0)) (rotF 13 (N 0))) (rotF 22 (N 0))) + (bits .or .u32 (bits .or .u32 (bits .and .u32 (N 0) (N 1)) (bits .and .u32 (N 0) (N 2))) (bits .and .u32 (N 1) (N 2)))))))) ?_)))))
   refine pure_ (π zb18 0) (load1_ zS38 0 (.int .u32 (N 0)) zb18 0 (pure_ (π zb18 1) (load1_ zS38 0 (.int .u32 (N 1)) zb18 1 (pure_ (π zb18 2) (load1_ zS38 0 (.int .u32 (N 2)) zb18 2 (pure_ (π zb18 3) (load1_ zS38 0 (.int .u32 (N 3)) zb18 3 (move_ (pure_ (.int .u32 (IntKind.u32.wrap ((N 3) + (IntKind.u32.wrap ((IntKind.u32.wrap ((IntKind.u32.wrap ((IntKind.u32.wrap ((N 7) + (bits .xor .u32 (bits .xor .u32 (rotF 6 (N 4)) (rotF 11 (N 4))) (rotF 25 (N 4))))) + (bits .or .u32 (bits .and .u32 (N 4) (N 5)) (bits .and .u32 (bits .xor .u32 4294967295 (N 4)) (N 6))))) + (rootF (0 + (k).toNat)))) + ((w2F f 48) (0 + (k).toNat))))))) (pure_ (π zb18 4) (load1_ zS38 0 (.int .u32 (N 4)) zb18 4 (pure_ (π zb18 5) (load1_ zS38 0 (.int .u32 (N 5)) zb18 5 (pure_ (π zb18 6) (load1_ zS38 0 (.int .u32 (N 6)) zb18 6 ?_)))))))))))))))
   refine pure_ (.agg #[.int .u32 (IntKind.u32.wrap ((IntKind.u32.wrap ((IntKind.u32.wrap ((IntKind.u32.wrap ((IntKind.u32.wrap ((N 7) + (bits .xor .u32 (bits .xor .u32 (rotF 6 (N 4)) (rotF 11 (N 4))) (rotF 25 (N 4))))) + (bits .or .u32 (bits .and .u32 (N 4) (N 5)) (bits .and .u32 (bits .xor .u32 4294967295 (N 4)) (N 6))))) + (rootF (0 + (k).toNat)))) + ((w2F f 48) (0 + (k).toNat)))) + (IntKind.u32.wrap ((bits .xor .u32 (bits .xor .u32 (rotF 2 (N 0)) (rotF 13 (N 0))) (rotF 22 (N 0))) + (bits .or .u32 (bits .or .u32 (bits .and .u32 (N 0) (N 1)) (bits .and .u32 (N 0) (N 2))) (bits .and .u32 (N 1) (N 2))))))), .int .u32 (N 0), .int .u32 (N 1), .int .u32 (N 2), .int .u32 (IntKind.u32.wrap ((N 3) + (IntKind.u32.wrap ((IntKind.u32.wrap ((IntKind.u32.wrap ((IntKind.u32.wrap ((N 7) + (bits .xor .u32 (bits .xor .u32 (rotF 6 (N 4)) (rotF 11 (N 4))) (rotF 25 (N 4))))) + (bits .or .u32 (bits .and .u32 (N 4) (N 5)) (bits .and .u32 (bits .xor .u32 4294967295 (N 4)) (N 6))))) + (rootF (0 + (k).toNat)))) + ((w2F f 48) (0 + (k).toNat)))))), .int .u32 (N 4), .int .u32 (N 5), .int .u32 (N 6)]) ?_
   refine store_ zS38 0 (.agg #[.int .u32 (IntKind.u32.wrap ((IntKind.u32.wrap ((IntKind.u32.wrap ((IntKind.u32.wrap ((IntKind.u32.wrap ((N 7) + (bits .xor .u32 (bits .xor .u32 (rotF 6 (N 4)) (rotF 11 (N 4))) (rotF 25 (N 4))))) + (bits .or .u32 (bits .and .u32 (N 4) (N 5)) (bits .and .u32 (bits .xor .u32 4294967295 (N 4)) (N 6))))) + (rootF (0 + (k).toNat)))) + ((w2F f 48) (0 + (k).toNat)))) + (IntKind.u32.wrap ((bits .xor .u32 (bits .xor .u32 (rotF 2 (N 0)) (rotF 13 (N 0))) (rotF 22 (N 0))) + (bits .or .u32 (bits .or .u32 (bits .and .u32 (N 0) (N 1)) (bits .and .u32 (N 0) (N 2))) (bits .and .u32 (N 1) (N 2))))))), .int .u32 (N 0), .int .u32 (N 1), .int .u32 (N 2), .int .u32 (IntKind.u32.wrap ((N 3) + (IntKind.u32.wrap ((IntKind.u32.wrap ((IntKind.u32.wrap ((IntKind.u32.wrap ((N 7) + (bits .xor .u32 (bits .xor .u32 (rotF 6 (N 4)) (rotF 11 (N 4))) (rotF 25 (N 4))))) + (bits .or .u32 (bits .and .u32 (N 4) (N 5)) (bits .and .u32 (bits .xor .u32 4294967295 (N 4)) (N 6))))) + (rootF (0 + (k).toNat)))) + ((w2F f 48) (0 + (k).toNat)))))), .int .u32 (N 4), .int .u32 (N 5), .int .u32 (N 6)]) zb18 0 ?_
   intro zw40 zS41
   refine nil_ (blk_n (then_n (reg_ (sum_ .i64 (k + 1) (IntWalk.i64_in _ (by omega)) (pure_ (ι (k + 1)) (nil_ ?_))))))
   refine then_j fun zy zye => ?_
   exact ⟨_, by omega, (k + 1), (l8 (IntKind.u32.wrap ((IntKind.u32.wrap ((IntKind.u32.wrap ((IntKind.u32.wrap ((IntKind.u32.wrap ((N 7) + (bits .xor .u32 (bits .xor .u32 (rotF 6 (N 4)) (rotF 11 (N 4))) (rotF 25 (N 4))))) + (bits .or .u32 (bits .and .u32 (N 4) (N 5)) (bits .and .u32 (bits .xor .u32 4294967295 (N 4)) (N 6))))) + (rootF (0 + (k).toNat)))) + ((w2F f 48) (0 + (k).toNat)))) + (IntKind.u32.wrap ((bits .xor .u32 (bits .xor .u32 (rotF 2 (N 0)) (rotF 13 (N 0))) (rotF 22 (N 0))) + (bits .or .u32 (bits .or .u32 (bits .and .u32 (N 0) (N 1)) (bits .and .u32 (N 0) (N 2))) (bits .and .u32 (N 1) (N 2))))))) (N 0) (N 1) (N 2) (IntKind.u32.wrap ((N 3) + (IntKind.u32.wrap ((IntKind.u32.wrap ((IntKind.u32.wrap ((IntKind.u32.wrap ((N 7) + (bits .xor .u32 (bits .xor .u32 (rotF 6 (N 4)) (rotF 11 (N 4))) (rotF 25 (N 4))))) + (bits .or .u32 (bits .and .u32 (N 4) (N 5)) (bits .and .u32 (bits .xor .u32 4294967295 (N 4)) (N 6))))) + (rootF (0 + (k).toNat)))) + ((w2F f 48) (0 + (k).toNat)))))) (N 4) (N 5) (N 6)), (fun d => zy.tmps.getD d undef), ⟨rfl, by omega, by omega, rnd_step k N (by omega) zf26⟩, by subst zye; kernel_rfl, zS41.re (R := ([] : List Blk)) [[(β zb18 #[.int .u32 (IntKind.u32.wrap ((IntKind.u32.wrap ((IntKind.u32.wrap ((IntKind.u32.wrap ((IntKind.u32.wrap ((N 7) + (bits .xor .u32 (bits .xor .u32 (rotF 6 (N 4)) (rotF 11 (N 4))) (rotF 25 (N 4))))) + (bits .or .u32 (bits .and .u32 (N 4) (N 5)) (bits .and .u32 (bits .xor .u32 4294967295 (N 4)) (N 6))))) + (rootF (0 + (k).toNat)))) + ((w2F f 48) (0 + (k).toNat)))) + (IntKind.u32.wrap ((bits .xor .u32 (bits .xor .u32 (rotF 2 (N 0)) (rotF 13 (N 0))) (rotF 22 (N 0))) + (bits .or .u32 (bits .or .u32 (bits .and .u32 (N 0) (N 1)) (bits .and .u32 (N 0) (N 2))) (bits .and .u32 (N 1) (N 2))))))), .int .u32 (N 0), .int .u32 (N 1), .int .u32 (N 2), .int .u32 (IntKind.u32.wrap ((N 3) + (IntKind.u32.wrap ((IntKind.u32.wrap ((IntKind.u32.wrap ((IntKind.u32.wrap ((N 7) + (bits .xor .u32 (bits .xor .u32 (rotF 6 (N 4)) (rotF 11 (N 4))) (rotF 25 (N 4))))) + (bits .or .u32 (bits .and .u32 (N 4) (N 5)) (bits .and .u32 (bits .xor .u32 4294967295 (N 4)) (N 6))))) + (rootF (0 + (k).toNat)))) + ((w2F f 48) (0 + (k).toNat)))))), .int .u32 (N 4), .int .u32 (N 5), .int .u32 (N 6)] 230)], [(β zb13 (rowF .u32 64 (w2F f 48)) 266)], [(β zb7 (rowF .u32 8 (fun _ => 0)) 230)], [(β zb4 (rowF .u8 64 f) 233)], [(β zb1 (rowF .u32 8 h) 230)], [⟨(0), false, .cells (rowF .u32 64 rootF) tG (0, 0)⟩]] [0, 1, 2, 3, 4, 5]⟩
 intro zh42
 have zh43 := ltF' zh42
 refine wp_exit (then_e (then_e (blk_e (then_n (seq_ (seq_ (reg_ (pure_ (ι 0) (nil_ (then_n (wp_block (loop_ 24 (seq_ (reg_ (pure_ (τ) (nil_ (then_n (seq_ (cond_T (wp_skip (then_n (seq_ (wp_block (seq_ (reg_ (pure_ (ι 0) (pure_ (ι 0) (nil_ (then_n ?_)))))))))))))))))))))))))))))
 refine quietL_ 6 [ι 0, π zb18 0, .int .u32 (N 0), ι 0, π zb1 0, .int .u32 (h 0)] [[6, 2, 1, 0], [6, 2, 1], [6, 2], [6, 5, 4, 3], [6, 5, 4], [6, 5], [7, 0], [7, 1], [7, 2], [7, 3], [7, 4], [7, 5], [7, 6], [8, 0], [8, 1], [8, 2], [8, 3], [8, 4], [8, 5], [8, 6], [8, 7]] (step_cons qP_ (step_cons qP_ (step_cons (qL_ zS28 0 zb18 0) (step_cons qP_ (step_cons qP_ (step_cons (qL_ zS28 4 zb1 0) (step_nil))))))) ?_
 intro zw44 zh46
 have zS45 := zS28.quiet zh46
 refine pure_ (.int .u32 (IntKind.u32.wrap ((N 0) + (h 0)))) (pure_ (π zb18 0) ?_)
 refine store_ zS45 0 (.int .u32 (IntKind.u32.wrap ((N 0) + (h 0)))) zb18 0 ?_
 intro zw47 zS48
 refine nil_ (blk_n (then_n (reg_ (pure_ (ι 1) (pure_ (ι 1) (nil_ (again_ (seq_ (reg_ (pure_ (τ) (nil_ (then_n (seq_ (cond_T (wp_skip (then_n (seq_ (wp_block (seq_ (reg_ (pure_ (ι 1) (pure_ (ι 1) (nil_ (then_n ?_))))))))))))))))))))))))
 refine quietL_ 6 [ι 1, π zb18 1, .int .u32 (N 1), ι 1, π zb1 1, .int .u32 (h 1)] [[6, 2, 1, 0], [6, 2, 1], [6, 2], [6, 5, 4, 3], [6, 5, 4], [6, 5], [7, 0], [7, 1], [7, 2], [7, 3], [7, 4], [7, 5], [7, 6], [8, 0], [8, 1], [8, 2], [8, 3], [8, 4], [8, 5], [8, 6], [8, 7]] (step_cons qP_ (step_cons qP_ (step_cons (qL_ zS48 0 zb18 1) (step_cons qP_ (step_cons qP_ (step_cons (qL_ zS48 4 zb1 1) (step_nil))))))) ?_
 intro zw49 zh51
 have zS50 := zS48.quiet zh51
 refine pure_ (.int .u32 (IntKind.u32.wrap ((N 1) + (h 1)))) (pure_ (π zb18 1) ?_)
 refine store_ zS50 0 (.int .u32 (IntKind.u32.wrap ((N 1) + (h 1)))) zb18 1 ?_
 intro zw52 zS53
 refine nil_ (blk_n (then_n (reg_ (pure_ (ι 2) (pure_ (ι 2) (nil_ (again_ (seq_ (reg_ (pure_ (τ) (nil_ (then_n (seq_ (cond_T (wp_skip (then_n (seq_ (wp_block (seq_ (reg_ (pure_ (ι 2) (pure_ (ι 2) (nil_ (then_n ?_))))))))))))))))))))))))
 refine quietL_ 6 [ι 2, π zb18 2, .int .u32 (N 2), ι 2, π zb1 2, .int .u32 (h 2)] [[6, 2, 1, 0], [6, 2, 1], [6, 2], [6, 5, 4, 3], [6, 5, 4], [6, 5], [7, 0], [7, 1], [7, 2], [7, 3], [7, 4], [7, 5], [7, 6], [8, 0], [8, 1], [8, 2], [8, 3], [8, 4], [8, 5], [8, 6], [8, 7]] (step_cons qP_ (step_cons qP_ (step_cons (qL_ zS53 0 zb18 2) (step_cons qP_ (step_cons qP_ (step_cons (qL_ zS53 4 zb1 2) (step_nil))))))) ?_
 intro zw54 zh56
 have zS55 := zS53.quiet zh56
 refine pure_ (.int .u32 (IntKind.u32.wrap ((N 2) + (h 2)))) (pure_ (π zb18 2) ?_)
 refine store_ zS55 0 (.int .u32 (IntKind.u32.wrap ((N 2) + (h 2)))) zb18 2 ?_
 intro zw57 zS58
 refine nil_ (blk_n (then_n (reg_ (pure_ (ι 3) (pure_ (ι 3) (nil_ (again_ (seq_ (reg_ (pure_ (τ) (nil_ (then_n (seq_ (cond_T (wp_skip (then_n (seq_ (wp_block (seq_ (reg_ (pure_ (ι 3) (pure_ (ι 3) (nil_ (then_n ?_))))))))))))))))))))))))
 refine quietL_ 6 [ι 3, π zb18 3, .int .u32 (N 3), ι 3, π zb1 3, .int .u32 (h 3)] [[6, 2, 1, 0], [6, 2, 1], [6, 2], [6, 5, 4, 3], [6, 5, 4], [6, 5], [7, 0], [7, 1], [7, 2], [7, 3], [7, 4], [7, 5], [7, 6], [8, 0], [8, 1], [8, 2], [8, 3], [8, 4], [8, 5], [8, 6], [8, 7]] (step_cons qP_ (step_cons qP_ (step_cons (qL_ zS58 0 zb18 3) (step_cons qP_ (step_cons qP_ (step_cons (qL_ zS58 4 zb1 3) (step_nil))))))) ?_
 intro zw59 zh61
 have zS60 := zS58.quiet zh61
 refine pure_ (.int .u32 (IntKind.u32.wrap ((N 3) + (h 3)))) (pure_ (π zb18 3) ?_)
 refine store_ zS60 0 (.int .u32 (IntKind.u32.wrap ((N 3) + (h 3)))) zb18 3 ?_
 intro zw62 zS63
 refine nil_ (blk_n (then_n (reg_ (pure_ (ι 4) (pure_ (ι 4) (nil_ (again_ (seq_ (reg_ (pure_ (τ) (nil_ (then_n (seq_ (cond_T (wp_skip (then_n (seq_ (wp_block (seq_ (reg_ (pure_ (ι 4) (pure_ (ι 4) (nil_ (then_n ?_))))))))))))))))))))))))
 refine quietL_ 6 [ι 4, π zb18 4, .int .u32 (N 4), ι 4, π zb1 4, .int .u32 (h 4)] [[6, 2, 1, 0], [6, 2, 1], [6, 2], [6, 5, 4, 3], [6, 5, 4], [6, 5], [7, 0], [7, 1], [7, 2], [7, 3], [7, 4], [7, 5], [7, 6], [8, 0], [8, 1], [8, 2], [8, 3], [8, 4], [8, 5], [8, 6], [8, 7]] (step_cons qP_ (step_cons qP_ (step_cons (qL_ zS63 0 zb18 4) (step_cons qP_ (step_cons qP_ (step_cons (qL_ zS63 4 zb1 4) (step_nil))))))) ?_
 intro zw64 zh66
 have zS65 := zS63.quiet zh66
 refine pure_ (.int .u32 (IntKind.u32.wrap ((N 4) + (h 4)))) (pure_ (π zb18 4) ?_)
 refine store_ zS65 0 (.int .u32 (IntKind.u32.wrap ((N 4) + (h 4)))) zb18 4 ?_
 intro zw67 zS68
 refine nil_ (blk_n (then_n (reg_ (pure_ (ι 5) (pure_ (ι 5) (nil_ (again_ (seq_ (reg_ (pure_ (τ) (nil_ (then_n (seq_ (cond_T (wp_skip (then_n (seq_ (wp_block (seq_ (reg_ (pure_ (ι 5) (pure_ (ι 5) (nil_ (then_n ?_))))))))))))))))))))))))
 refine quietL_ 6 [ι 5, π zb18 5, .int .u32 (N 5), ι 5, π zb1 5, .int .u32 (h 5)] [[6, 2, 1, 0], [6, 2, 1], [6, 2], [6, 5, 4, 3], [6, 5, 4], [6, 5], [7, 0], [7, 1], [7, 2], [7, 3], [7, 4], [7, 5], [7, 6], [8, 0], [8, 1], [8, 2], [8, 3], [8, 4], [8, 5], [8, 6], [8, 7]] (step_cons qP_ (step_cons qP_ (step_cons (qL_ zS68 0 zb18 5) (step_cons qP_ (step_cons qP_ (step_cons (qL_ zS68 4 zb1 5) (step_nil))))))) ?_
 intro zw69 zh71
 have zS70 := zS68.quiet zh71
 refine pure_ (.int .u32 (IntKind.u32.wrap ((N 5) + (h 5)))) (pure_ (π zb18 5) ?_)
 refine store_ zS70 0 (.int .u32 (IntKind.u32.wrap ((N 5) + (h 5)))) zb18 5 ?_
 intro zw72 zS73
 refine nil_ (blk_n (then_n (reg_ (pure_ (ι 6) (pure_ (ι 6) (nil_ (again_ (seq_ (reg_ (pure_ (τ) (nil_ (then_n (seq_ (cond_T (wp_skip (then_n (seq_ (wp_block (seq_ (reg_ (pure_ (ι 6) (pure_ (ι 6) (nil_ (then_n ?_))))))))))))))))))))))))
 refine quietL_ 6 [ι 6, π zb18 6, .int .u32 (N 6), ι 6, π zb1 6, .int .u32 (h 6)] [[6, 2, 1, 0], [6, 2, 1], [6, 2], [6, 5, 4, 3], [6, 5, 4], [6, 5], [7, 0], [7, 1], [7, 2], [7, 3], [7, 4], [7, 5], [7, 6], [8, 0], [8, 1], [8, 2], [8, 3], [8, 4], [8, 5], [8, 6], [8, 7]] (step_cons qP_ (step_cons qP_ (step_cons (qL_ zS73 0 zb18 6) (step_cons qP_ (step_cons qP_ (step_cons (qL_ zS73 4 zb1 6) (step_nil))))))) ?_
 intro zw74 zh76
 have zS75 := zS73.quiet zh76
 refine pure_ (.int .u32 (IntKind.u32.wrap ((N 6) + (h 6)))) (pure_ (π zb18 6) ?_)
 refine store_ zS75 0 (.int .u32 (IntKind.u32.wrap ((N 6) + (h 6)))) zb18 6 ?_
 intro zw77 zS78
 refine nil_ (blk_n (then_n (reg_ (pure_ (ι 7) (pure_ (ι 7) (nil_ (again_ (seq_ (reg_ (pure_ (τ) (nil_ (then_n (seq_ (cond_T (wp_skip (then_n (seq_ (wp_block (seq_ (reg_ (pure_ (ι 7) (pure_ (ι 7) (nil_ (then_n ?_))))))))))))))))))))))))
 refine quietL_ 6 [ι 7, π zb18 7, .int .u32 (N 7), ι 7, π zb1 7, .int .u32 (h 7)] [[6, 2, 1, 0], [6, 2, 1], [6, 2], [6, 5, 4, 3], [6, 5, 4], [6, 5], [7, 0], [7, 1], [7, 2], [7, 3], [7, 4], [7, 5], [7, 6], [8, 0], [8, 1], [8, 2], [8, 3], [8, 4], [8, 5], [8, 6], [8, 7]] (step_cons qP_ (step_cons qP_ (step_cons (qL_ zS78 0 zb18 7) (step_cons qP_ (step_cons qP_ (step_cons (qL_ zS78 4 zb1 7) (step_nil))))))) ?_
 intro zw79 zh81
 have zS80 := zS78.quiet zh81
 refine pure_ (.int .u32 (IntKind.u32.wrap ((N 7) + (h 7)))) (pure_ (π zb18 7) ?_)
 refine store_ zS80 0 (.int .u32 (IntKind.u32.wrap ((N 7) + (h 7)))) zb18 7 ?_
 intro zw82 zS83
 refine nil_ (blk_n (then_n (reg_ (pure_ (ι 8) (pure_ (ι 8) (nil_ (again_ (seq_ (reg_ (pure_ (φ) (nil_ (then_n (seq_ (cond_F (wp_exit (then_e (then_e (blk_e (then_n (seq_ (reg_ (loadN_ zS83 0 8 #[.int .u32 (IntKind.u32.wrap ((N 0) + (h 0))), .int .u32 (IntKind.u32.wrap ((N 1) + (h 1))), .int .u32 (IntKind.u32.wrap ((N 2) + (h 2))), .int .u32 (IntKind.u32.wrap ((N 3) + (h 3))), .int .u32 (IntKind.u32.wrap ((N 4) + (h 4))), .int .u32 (IntKind.u32.wrap ((N 5) + (h 5))), .int .u32 (IntKind.u32.wrap ((N 6) + (h 6))), .int .u32 (IntKind.u32.wrap ((N 7) + (h 7)))] zb18 0 ?_))))))))))))))))))))))
 refine store_ zS83 2 (.agg #[.int .u32 (IntKind.u32.wrap ((N 0) + (h 0))), .int .u32 (IntKind.u32.wrap ((N 1) + (h 1))), .int .u32 (IntKind.u32.wrap ((N 2) + (h 2))), .int .u32 (IntKind.u32.wrap ((N 3) + (h 3))), .int .u32 (IntKind.u32.wrap ((N 4) + (h 4))), .int .u32 (IntKind.u32.wrap ((N 5) + (h 5))), .int .u32 (IntKind.u32.wrap ((N 6) + (h 6))), .int .u32 (IntKind.u32.wrap ((N 7) + (h 7)))]) zb7 0 ?_
 intro zw84 zS85
 refine nil_ (then_n (wp_ret (ret_ rfl (res_ [.cell 4 230] [.agg #[.int .u32 (IntKind.u32.wrap ((N 0) + (h 0))), .int .u32 (IntKind.u32.wrap ((N 1) + (h 1))), .int .u32 (IntKind.u32.wrap ((N 2) + (h 2))), .int .u32 (IntKind.u32.wrap ((N 3) + (h 3))), .int .u32 (IntKind.u32.wrap ((N 4) + (h 4))), .int .u32 (IntKind.u32.wrap ((N 5) + (h 5))), .int .u32 (IntKind.u32.wrap ((N 6) + (h 6))), .int .u32 (IntKind.u32.wrap ((N 7) + (h 7)))]] (.agg #[.int .u32 (IntKind.u32.wrap ((N 0) + (h 0))), .int .u32 (IntKind.u32.wrap ((N 1) + (h 1))), .int .u32 (IntKind.u32.wrap ((N 2) + (h 2))), .int .u32 (IntKind.u32.wrap ((N 3) + (h 3))), .int .u32 (IntKind.u32.wrap ((N 4) + (h 4))), .int .u32 (IntKind.u32.wrap ((N 5) + (h 5))), .int .u32 (IntKind.u32.wrap ((N 6) + (h 6))), .int .u32 (IntKind.u32.wrap ((N 7) + (h 7)))]) ⟨res_cellN zS85 2 8 zb7 0, trivial⟩) ?_)))
 have ze : N = rndF h (w2F f 48) 64 := by rw [zf26, show k.toNat = 64 by omega]
 exact ⟨by (unfold blockF; rw [← ze]) <;> kernel_rfl, zS85.ch⟩

end Go.Proofs.YtbjanfgipcniiaaGreatDoor
