/- Packages chain, door, window, gate. -/
import Derived.Test.YtbjanfgipcniiaaGreatDoorK4
namespace Go.Proofs.YtbjanfgipcniiaaGreatDoor
open Go Go.RowKit Go.BigFrame Sx
set_option linter.unusedVariables false
set_option linter.unusedSimpArgs false

/-- a record's bytes -/
def recF (r : Sd.Rec) : Nat → Int := (ovF (ovF (ovF (ovF (ovF (ovF (fun _ => 0) 0 1 (putF 1 ((IntKind.u64.wrap r.kind) % 256))) 1 1 (putF 1 ((IntKind.u64.wrap r.source) % 256))) 2 4 (putF 4 ((IntKind.u64.wrap r.seq) % 4294967296))) 6 2 (putF 2 ((IntKind.u64.wrap r.epoch) % 65536))) 8 1 (putF 1 ((IntKind.u64.wrap r.code) % 256))) 9 1 (putF 1 ((IntKind.u64.wrap r.how) % 256)))
/-- the head behind a record -/
def nextF (h : Nat → Int) (r : Sd.Rec) : Nat → Int := shaF (32 + 10) (catF 32 h (recF r))

set_option maxRecDepth 100000 in
set_option maxHeartbeats 4000000 in
theorem bytes_ (r : Sd.Rec) (w : World) :
    Gives Tryz.prog 91 #[.agg (recC r)] w fun v w1 => v = .agg #[υ (recF r 0), υ (recF r 1), υ (recF r 2), υ (recF r 3), υ (recF r 4), υ (recF r 5), υ (recF r 6), υ (recF r 7), υ (recF r 8), υ (recF r 9)] ∧ Ch [] w w1 := by
 have S0 := St.nil [] w
 refine enter_ Tryz.func91 rfl (seq_ (reg_ ?_))
 refine new_ S0 (fun b => π b 0) (.cells (recC r) 71) ?_
 intro zb1 zw2 zS3
 refine new_ zS3 (fun b => π b 0) (.cells (rowF .u8 10 (fun _ => 0)) 181) ?_
 intro zb4 zw5 zS6
 refine nsr_ (pure_ (π zb1 0) (load1_ zS6 1 (ι r.kind) zb1 0 (pure_ (.agg #[ι r.kind, ι 1]) (pure_ (π zb1 1) (load1_ zS6 1 (ι r.source) zb1 1 (pure_ (.agg #[ι r.source, ι 1]) (pure_ (π zb1 2) (load1_ zS6 1 (ι r.seq) zb1 2 (pure_ (.agg #[ι r.seq, ι 4]) (pure_ (π zb1 3) (load1_ zS6 1 (ι r.epoch) zb1 3 (pure_ (.agg #[ι r.epoch, ι 2]) (pure_ (π zb1 4) (load1_ zS6 1 (ι r.code) zb1 4 (pure_ (.agg #[ι r.code, ι 1]) (pure_ (π zb1 5) (load1_ zS6 1 (ι r.how) zb1 5 (pure_ (.agg #[ι r.how, ι 1]) (pure_ (.agg #[ι r.kind, ι 1, ι r.source, ι 1, ι r.seq, ι 4, ι r.epoch, ι 2, ι r.code, ι 1, ι r.how, ι 1]) ?_)))))))))))))))))))
 refine new_ zS6 (fun b => π b 0) (.cells (rowF .i64 12 (fun _ => 0)) 226) ?_
 intro zb7 zw8 zS9
 refine store_ zS9 0 (.agg #[ι r.kind, ι 1, ι r.source, ι 1, ι r.seq, ι 4, ι r.epoch, ι 2, ι r.code, ι 1, ι r.how, ι 1]) zb7 0 ?_
 intro zw10 zS11
 refine nsr_ ?_
 refine new_ zS11 (fun b => π b 0) (.cells (rowF .u8 10 (fun _ => 0)) 181) ?_
 intro zb12 zw13 zS14
 refine nsr_ (pure_ (ι 0) (nil_ (then_n (seq_ (seq_ (reg_ (loadN_ zS14 1 12 #[ι r.kind, ι 1, ι r.source, ι 1, ι r.seq, ι 4, ι r.epoch, ι 2, ι r.code, ι 1, ι r.how, ι 1] zb7 0 (pure_ (ι 0) (nil_ (then_n (wp_block (loop_ 24 (seq_ (reg_ (pure_ (τ) (nil_ (then_n (seq_ (cond_T (wp_skip (then_n (seq_ (wp_block (seq_ (reg_ (pure_ (.agg #[ι r.kind, ι 1]) ?_))))))))))))))))))))))))))
 refine new_ zS14 (fun b => π b 0) (.cells #[ι 0, ι 0] 225) ?_
 intro zb15 zw16 zS17
 refine store_ zS17 0 (.agg #[ι r.kind, ι 1]) zb15 0 ?_
 intro zw18 zS19
 refine nsr_ (pure_ (ι 0) (pure_ (π zb15 1) (load1_ zS19 0 (ι 1) zb15 1 (pure_ (ι 1) (pure_ (ι 1) (nsr_ (pure_ (π zb15 1) (load1_ zS19 0 (ι 1) zb15 1 (pure_ (ι 8) (pure_ (.int .u64 256) (pure_ (.int .u64 255) (pure_ (.int .u64 255) (nsr_ (pure_ (π zb15 0) (load1_ zS19 0 (ι r.kind) zb15 0 (pure_ (.int .u64 (IntKind.u64.wrap r.kind)) (pure_ (.int .u64 255) (pureE_ (.int .u64 (bits .and .u64 (IntKind.u64.wrap r.kind) 255)) (.int .u64 ((IntKind.u64.wrap r.kind) % 256)) (congrArg _ (and_mask .u64 (IntKind.u64.wrap r.kind) 255 256 8 (by decide) (by decide) (by decide))) (pure_ (π zb15 1) (load1_ zS19 0 (ι 1) zb15 1 (call_ 133 #[.int .u64 ((IntKind.u64.wrap r.kind) % 256), ι 1] ?_)))))))))))))))))))))
 refine (put_1 ((IntKind.u64.wrap r.kind) % 256) (by omega) _).mono ?_; rintro _ zw21 ⟨zb24, rfl, zh25, zh26, zh22⟩
 have zS23 := zS19.new zh22 zh25 zh26
 refine move_ (pure_ (σ zb24 0 1 1) (pure_ (ι 0) (assign_ (pure_ (ι 0) (nsr_ (pure_ (ι 0) (pure_ (ι 1) (pure_ (ι 1) (pure_ (σ zb12 0 1 1) (move_ ?_))))))))))
 refine copy_ (elem := 5) (t := 181) zS23 2 zb12 10 0 1 1 (fun _ => 0) zb24 0 1 1 (putF 1 ((IntKind.u64.wrap r.kind) % 256)) (St.row8 (N := 1) (f := (putF 1 ((IntKind.u64.wrap r.kind) % 256))) (wr := true) (t := 5) (fr := (0, 0)) zS23 0) (by omega) (by omega) (by kernel_rfl) (by kernel_rfl : _ = [(β zb24 #[υ ((putF 1 ((IntKind.u64.wrap r.kind) % 256)) 0)] 5), (β zb15 #[ι r.kind, ι 1] 225), (β zb12 (rowF .u8 10 (ovF (fun _ => 0) 0 1 (putF 1 ((IntKind.u64.wrap r.kind) % 256)))) 181), (β zb7 #[ι r.kind, ι 1, ι r.source, ι 1, ι r.seq, ι 4, ι r.epoch, ι 2, ι r.code, ι 1, ι r.how, ι 1] 226), (β zb4 (rowF .u8 10 (fun _ => 0)) 181), (β zb1 (recC r) 71)]) ?_
 intro zw27 zS28
 refine ns_ (pure_ (ι 1) (pure_ (ι 1) (nil_ (blk_n (then_n (reg_ (pure_ (ι 1) (pure_ (ι 1) (nil_ (again_ (seq_ (reg_ (pure_ (τ) (nil_ (then_n (seq_ (cond_T (wp_skip (then_n (seq_ (wp_block (seq_ (reg_ (pure_ (.agg #[ι r.source, ι 1]) ?_))))))))))))))))))))))))
 refine new_ zS28 (fun b => π b 0) (.cells #[ι 0, ι 0] 225) ?_
 intro zb29 zw30 zS31
 refine store_ zS31 0 (.agg #[ι r.source, ι 1]) zb29 0 ?_
 intro zw32 zS33
 refine nsr_ (pure_ (ι 1) (pure_ (π zb29 1) (load1_ zS33 0 (ι 1) zb29 1 (pure_ (ι 2) (pure_ (ι 2) (nsr_ (pure_ (π zb29 1) (load1_ zS33 0 (ι 1) zb29 1 (pure_ (ι 8) (pure_ (.int .u64 256) (pure_ (.int .u64 255) (pure_ (.int .u64 255) (nsr_ (pure_ (π zb29 0) (load1_ zS33 0 (ι r.source) zb29 0 (pure_ (.int .u64 (IntKind.u64.wrap r.source)) (pure_ (.int .u64 255) (pureE_ (.int .u64 (bits .and .u64 (IntKind.u64.wrap r.source) 255)) (.int .u64 ((IntKind.u64.wrap r.source) % 256)) (congrArg _ (and_mask .u64 (IntKind.u64.wrap r.source) 255 256 8 (by decide) (by decide) (by decide))) (pure_ (π zb29 1) (load1_ zS33 0 (ι 1) zb29 1 (call_ 133 #[.int .u64 ((IntKind.u64.wrap r.source) % 256), ι 1] ?_)))))))))))))))))))))
 refine (put_1 ((IntKind.u64.wrap r.source) % 256) (by omega) _).mono ?_; rintro _ zw35 ⟨zb38, rfl, zh39, zh40, zh36⟩
 have zS37 := zS33.new zh36 zh39 zh40
 refine move_ (pure_ (σ zb38 0 1 1) (pure_ (ι 0) (assign_ (pure_ (ι 0) (nsr_ (pure_ (ι 1) (pure_ (ι 2) (pure_ (ι 2) (pure_ (σ zb12 1 1 1) (move_ ?_))))))))))
 refine copy_ (elem := 5) (t := 181) zS37 4 zb12 10 1 1 1 (ovF (fun _ => 0) 0 1 (putF 1 ((IntKind.u64.wrap r.kind) % 256))) zb38 0 1 1 (putF 1 ((IntKind.u64.wrap r.source) % 256)) (St.row8 (N := 1) (f := (putF 1 ((IntKind.u64.wrap r.source) % 256))) (wr := true) (t := 5) (fr := (0, 0)) zS37 0) (by omega) (by omega) (by kernel_rfl) (by kernel_rfl : _ = [(β zb38 #[υ ((putF 1 ((IntKind.u64.wrap r.source) % 256)) 0)] 5), (β zb29 #[ι r.source, ι 1] 225), (β zb24 #[υ ((putF 1 ((IntKind.u64.wrap r.kind) % 256)) 0)] 5), (β zb15 #[ι r.kind, ι 1] 225), (β zb12 (rowF .u8 10 (ovF (ovF (fun _ => 0) 0 1 (putF 1 ((IntKind.u64.wrap r.kind) % 256))) 1 1 (putF 1 ((IntKind.u64.wrap r.source) % 256)))) 181), (β zb7 #[ι r.kind, ι 1, ι r.source, ι 1, ι r.seq, ι 4, ι r.epoch, ι 2, ι r.code, ι 1, ι r.how, ι 1] 226), (β zb4 (rowF .u8 10 (fun _ => 0)) 181), (β zb1 (recC r) 71)]) ?_
 intro zw41 zS42
 refine ns_ (pure_ (ι 2) (pure_ (ι 2) (nil_ (blk_n (then_n (reg_ (pure_ (ι 2) (pure_ (ι 2) (nil_ (again_ (seq_ (reg_ (pure_ (τ) (nil_ (then_n (seq_ (cond_T (wp_skip (then_n (seq_ (wp_block (seq_ (reg_ (pure_ (.agg #[ι r.seq, ι 4]) ?_))))))))))))))))))))))))
 refine new_ zS42 (fun b => π b 0) (.cells #[ι 0, ι 0] 225) ?_
 intro zb43 zw44 zS45
 refine store_ zS45 0 (.agg #[ι r.seq, ι 4]) zb43 0 ?_
 intro zw46 zS47
 refine nsr_ (pure_ (ι 2) (pure_ (π zb43 1) (load1_ zS47 0 (ι 4) zb43 1 (pure_ (ι 6) (pure_ (ι 6) (nsr_ (pure_ (π zb43 1) (load1_ zS47 0 (ι 4) zb43 1 (pure_ (ι 32) (pure_ (.int .u64 4294967296) (pure_ (.int .u64 4294967295) (pure_ (.int .u64 4294967295) (nsr_ (pure_ (π zb43 0) (load1_ zS47 0 (ι r.seq) zb43 0 (pure_ (.int .u64 (IntKind.u64.wrap r.seq)) (pure_ (.int .u64 4294967295) (pureE_ (.int .u64 (bits .and .u64 (IntKind.u64.wrap r.seq) 4294967295)) (.int .u64 ((IntKind.u64.wrap r.seq) % 4294967296)) (congrArg _ (and_mask .u64 (IntKind.u64.wrap r.seq) 4294967295 4294967296 32 (by decide) (by decide) (by decide))) (pure_ (π zb43 1) (load1_ zS47 0 (ι 4) zb43 1 (call_ 133 #[.int .u64 ((IntKind.u64.wrap r.seq) % 4294967296), ι 4] ?_)))))))))))))))))))))
 refine (put_4 ((IntKind.u64.wrap r.seq) % 4294967296) (by omega) _).mono ?_; rintro _ zw49 ⟨zb52, rfl, zh53, zh54, zh50⟩
 have zS51 := zS47.new zh50 zh53 zh54
 refine move_ (pure_ (σ zb52 0 4 4) (pure_ (ι 0) (assign_ (pure_ (ι 0) (nsr_ (pure_ (ι 2) (pure_ (ι 6) (pure_ (ι 6) (pure_ (σ zb12 2 4 4) (move_ ?_))))))))))
 refine copy_ (elem := 5) (t := 181) zS51 6 zb12 10 2 4 4 (ovF (ovF (fun _ => 0) 0 1 (putF 1 ((IntKind.u64.wrap r.kind) % 256))) 1 1 (putF 1 ((IntKind.u64.wrap r.source) % 256))) zb52 0 4 4 (putF 4 ((IntKind.u64.wrap r.seq) % 4294967296)) (St.row8 (N := 4) (f := (putF 4 ((IntKind.u64.wrap r.seq) % 4294967296))) (wr := true) (t := 5) (fr := (0, 0)) zS51 0) (by omega) (by omega) (by kernel_rfl) (by kernel_rfl : _ = [(β zb52 #[υ ((putF 4 ((IntKind.u64.wrap r.seq) % 4294967296)) 0), υ ((putF 4 ((IntKind.u64.wrap r.seq) % 4294967296)) 1), υ ((putF 4 ((IntKind.u64.wrap r.seq) % 4294967296)) 2), υ ((putF 4 ((IntKind.u64.wrap r.seq) % 4294967296)) 3)] 5), (β zb43 #[ι r.seq, ι 4] 225), (β zb38 #[υ ((putF 1 ((IntKind.u64.wrap r.source) % 256)) 0)] 5), (β zb29 #[ι r.source, ι 1] 225), (β zb24 #[υ ((putF 1 ((IntKind.u64.wrap r.kind) % 256)) 0)] 5), (β zb15 #[ι r.kind, ι 1] 225), (β zb12 (rowF .u8 10 (ovF (ovF (ovF (fun _ => 0) 0 1 (putF 1 ((IntKind.u64.wrap r.kind) % 256))) 1 1 (putF 1 ((IntKind.u64.wrap r.source) % 256))) 2 4 (putF 4 ((IntKind.u64.wrap r.seq) % 4294967296)))) 181), (β zb7 #[ι r.kind, ι 1, ι r.source, ι 1, ι r.seq, ι 4, ι r.epoch, ι 2, ι r.code, ι 1, ι r.how, ι 1] 226), (β zb4 (rowF .u8 10 (fun _ => 0)) 181), (β zb1 (recC r) 71)]) ?_
 intro zw55 zS56
 refine ns_ (pure_ (ι 6) (pure_ (ι 6) (nil_ (blk_n (then_n (reg_ (pure_ (ι 3) (pure_ (ι 3) (nil_ (again_ (seq_ (reg_ (pure_ (τ) (nil_ (then_n (seq_ (cond_T (wp_skip (then_n (seq_ (wp_block (seq_ (reg_ (pure_ (.agg #[ι r.epoch, ι 2]) ?_))))))))))))))))))))))))
 refine new_ zS56 (fun b => π b 0) (.cells #[ι 0, ι 0] 225) ?_
 intro zb57 zw58 zS59
 refine store_ zS59 0 (.agg #[ι r.epoch, ι 2]) zb57 0 ?_
 intro zw60 zS61
 refine nsr_ (pure_ (ι 6) (pure_ (π zb57 1) (load1_ zS61 0 (ι 2) zb57 1 (pure_ (ι 8) (pure_ (ι 8) (nsr_ (pure_ (π zb57 1) (load1_ zS61 0 (ι 2) zb57 1 (pure_ (ι 16) (pure_ (.int .u64 65536) (pure_ (.int .u64 65535) (pure_ (.int .u64 65535) (nsr_ (pure_ (π zb57 0) (load1_ zS61 0 (ι r.epoch) zb57 0 (pure_ (.int .u64 (IntKind.u64.wrap r.epoch)) (pure_ (.int .u64 65535) (pureE_ (.int .u64 (bits .and .u64 (IntKind.u64.wrap r.epoch) 65535)) (.int .u64 ((IntKind.u64.wrap r.epoch) % 65536)) (congrArg _ (and_mask .u64 (IntKind.u64.wrap r.epoch) 65535 65536 16 (by decide) (by decide) (by decide))) (pure_ (π zb57 1) (load1_ zS61 0 (ι 2) zb57 1 (call_ 133 #[.int .u64 ((IntKind.u64.wrap r.epoch) % 65536), ι 2] ?_)))))))))))))))))))))
 refine (put_2 ((IntKind.u64.wrap r.epoch) % 65536) (by omega) _).mono ?_; rintro _ zw63 ⟨zb66, rfl, zh67, zh68, zh64⟩
 have zS65 := zS61.new zh64 zh67 zh68
 refine move_ (pure_ (σ zb66 0 2 2) (pure_ (ι 0) (assign_ (pure_ (ι 0) (nsr_ (pure_ (ι 6) (pure_ (ι 8) (pure_ (ι 8) (pure_ (σ zb12 6 2 2) (move_ ?_))))))))))
 refine copy_ (elem := 5) (t := 181) zS65 8 zb12 10 6 2 2 (ovF (ovF (ovF (fun _ => 0) 0 1 (putF 1 ((IntKind.u64.wrap r.kind) % 256))) 1 1 (putF 1 ((IntKind.u64.wrap r.source) % 256))) 2 4 (putF 4 ((IntKind.u64.wrap r.seq) % 4294967296))) zb66 0 2 2 (putF 2 ((IntKind.u64.wrap r.epoch) % 65536)) (St.row8 (N := 2) (f := (putF 2 ((IntKind.u64.wrap r.epoch) % 65536))) (wr := true) (t := 5) (fr := (0, 0)) zS65 0) (by omega) (by omega) (by kernel_rfl) (by kernel_rfl : _ = [(β zb66 #[υ ((putF 2 ((IntKind.u64.wrap r.epoch) % 65536)) 0), υ ((putF 2 ((IntKind.u64.wrap r.epoch) % 65536)) 1)] 5), (β zb57 #[ι r.epoch, ι 2] 225), (β zb52 #[υ ((putF 4 ((IntKind.u64.wrap r.seq) % 4294967296)) 0), υ ((putF 4 ((IntKind.u64.wrap r.seq) % 4294967296)) 1), υ ((putF 4 ((IntKind.u64.wrap r.seq) % 4294967296)) 2), υ ((putF 4 ((IntKind.u64.wrap r.seq) % 4294967296)) 3)] 5), (β zb43 #[ι r.seq, ι 4] 225), (β zb38 #[υ ((putF 1 ((IntKind.u64.wrap r.source) % 256)) 0)] 5), (β zb29 #[ι r.source, ι 1] 225), (β zb24 #[υ ((putF 1 ((IntKind.u64.wrap r.kind) % 256)) 0)] 5), (β zb15 #[ι r.kind, ι 1] 225), (β zb12 (rowF .u8 10 (ovF (ovF (ovF (ovF (fun _ => 0) 0 1 (putF 1 ((IntKind.u64.wrap r.kind) % 256))) 1 1 (putF 1 ((IntKind.u64.wrap r.source) % 256))) 2 4 (putF 4 ((IntKind.u64.wrap r.seq) % 4294967296))) 6 2 (putF 2 ((IntKind.u64.wrap r.epoch) % 65536)))) 181), (β zb7 #[ι r.kind, ι 1, ι r.source, ι 1, ι r.seq, ι 4, ι r.epoch, ι 2, ι r.code, ι 1, ι r.how, ι 1] 226), (β zb4 (rowF .u8 10 (fun _ => 0)) 181), (β zb1 (recC r) 71)]) ?_
 intro zw69 zS70
 refine ns_ (pure_ (ι 8) (pure_ (ι 8) (nil_ (blk_n (then_n (reg_ (pure_ (ι 4) (pure_ (ι 4) (nil_ (again_ (seq_ (reg_ (pure_ (τ) (nil_ (then_n (seq_ (cond_T (wp_skip (then_n (seq_ (wp_block (seq_ (reg_ (pure_ (.agg #[ι r.code, ι 1]) ?_))))))))))))))))))))))))
 refine new_ zS70 (fun b => π b 0) (.cells #[ι 0, ι 0] 225) ?_
 intro zb71 zw72 zS73
 refine store_ zS73 0 (.agg #[ι r.code, ι 1]) zb71 0 ?_
 intro zw74 zS75
 refine nsr_ (pure_ (ι 8) (pure_ (π zb71 1) (load1_ zS75 0 (ι 1) zb71 1 (pure_ (ι 9) (pure_ (ι 9) (nsr_ (pure_ (π zb71 1) (load1_ zS75 0 (ι 1) zb71 1 (pure_ (ι 8) (pure_ (.int .u64 256) (pure_ (.int .u64 255) (pure_ (.int .u64 255) (nsr_ (pure_ (π zb71 0) (load1_ zS75 0 (ι r.code) zb71 0 (pure_ (.int .u64 (IntKind.u64.wrap r.code)) (pure_ (.int .u64 255) (pureE_ (.int .u64 (bits .and .u64 (IntKind.u64.wrap r.code) 255)) (.int .u64 ((IntKind.u64.wrap r.code) % 256)) (congrArg _ (and_mask .u64 (IntKind.u64.wrap r.code) 255 256 8 (by decide) (by decide) (by decide))) (pure_ (π zb71 1) (load1_ zS75 0 (ι 1) zb71 1 (call_ 133 #[.int .u64 ((IntKind.u64.wrap r.code) % 256), ι 1] ?_)))))))))))))))))))))
 refine (put_1 ((IntKind.u64.wrap r.code) % 256) (by omega) _).mono ?_; rintro _ zw77 ⟨zb80, rfl, zh81, zh82, zh78⟩
 have zS79 := zS75.new zh78 zh81 zh82
 refine move_ (pure_ (σ zb80 0 1 1) (pure_ (ι 0) (assign_ (pure_ (ι 0) (nsr_ (pure_ (ι 8) (pure_ (ι 9) (pure_ (ι 9) (pure_ (σ zb12 8 1 1) (move_ ?_))))))))))
 refine copy_ (elem := 5) (t := 181) zS79 10 zb12 10 8 1 1 (ovF (ovF (ovF (ovF (fun _ => 0) 0 1 (putF 1 ((IntKind.u64.wrap r.kind) % 256))) 1 1 (putF 1 ((IntKind.u64.wrap r.source) % 256))) 2 4 (putF 4 ((IntKind.u64.wrap r.seq) % 4294967296))) 6 2 (putF 2 ((IntKind.u64.wrap r.epoch) % 65536))) zb80 0 1 1 (putF 1 ((IntKind.u64.wrap r.code) % 256)) (St.row8 (N := 1) (f := (putF 1 ((IntKind.u64.wrap r.code) % 256))) (wr := true) (t := 5) (fr := (0, 0)) zS79 0) (by omega) (by omega) (by kernel_rfl) (by kernel_rfl : _ = [(β zb80 #[υ ((putF 1 ((IntKind.u64.wrap r.code) % 256)) 0)] 5), (β zb71 #[ι r.code, ι 1] 225), (β zb66 #[υ ((putF 2 ((IntKind.u64.wrap r.epoch) % 65536)) 0), υ ((putF 2 ((IntKind.u64.wrap r.epoch) % 65536)) 1)] 5), (β zb57 #[ι r.epoch, ι 2] 225), (β zb52 #[υ ((putF 4 ((IntKind.u64.wrap r.seq) % 4294967296)) 0), υ ((putF 4 ((IntKind.u64.wrap r.seq) % 4294967296)) 1), υ ((putF 4 ((IntKind.u64.wrap r.seq) % 4294967296)) 2), υ ((putF 4 ((IntKind.u64.wrap r.seq) % 4294967296)) 3)] 5), (β zb43 #[ι r.seq, ι 4] 225), (β zb38 #[υ ((putF 1 ((IntKind.u64.wrap r.source) % 256)) 0)] 5), (β zb29 #[ι r.source, ι 1] 225), (β zb24 #[υ ((putF 1 ((IntKind.u64.wrap r.kind) % 256)) 0)] 5), (β zb15 #[ι r.kind, ι 1] 225), (β zb12 (rowF .u8 10 (ovF (ovF (ovF (ovF (ovF (fun _ => 0) 0 1 (putF 1 ((IntKind.u64.wrap r.kind) % 256))) 1 1 (putF 1 ((IntKind.u64.wrap r.source) % 256))) 2 4 (putF 4 ((IntKind.u64.wrap r.seq) % 4294967296))) 6 2 (putF 2 ((IntKind.u64.wrap r.epoch) % 65536))) 8 1 (putF 1 ((IntKind.u64.wrap r.code) % 256)))) 181), (β zb7 #[ι r.kind, ι 1, ι r.source, ι 1, ι r.seq, ι 4, ι r.epoch, ι 2, ι r.code, ι 1, ι r.how, ι 1] 226), (β zb4 (rowF .u8 10 (fun _ => 0)) 181), (β zb1 (recC r) 71)]) ?_
 intro zw83 zS84
 refine ns_ (pure_ (ι 9) (pure_ (ι 9) (nil_ (blk_n (then_n (reg_ (pure_ (ι 5) (pure_ (ι 5) (nil_ (again_ (seq_ (reg_ (pure_ (τ) (nil_ (then_n (seq_ (cond_T (wp_skip (then_n (seq_ (wp_block (seq_ (reg_ (pure_ (.agg #[ι r.how, ι 1]) ?_))))))))))))))))))))))))
 refine new_ zS84 (fun b => π b 0) (.cells #[ι 0, ι 0] 225) ?_
 intro zb85 zw86 zS87
 refine store_ zS87 0 (.agg #[ι r.how, ι 1]) zb85 0 ?_
 intro zw88 zS89
 refine nsr_ (pure_ (ι 9) (pure_ (π zb85 1) (load1_ zS89 0 (ι 1) zb85 1 (pure_ (ι 10) (pure_ (ι 10) (nsr_ (pure_ (π zb85 1) (load1_ zS89 0 (ι 1) zb85 1 (pure_ (ι 8) (pure_ (.int .u64 256) (pure_ (.int .u64 255) (pure_ (.int .u64 255) (nsr_ (pure_ (π zb85 0) (load1_ zS89 0 (ι r.how) zb85 0 (pure_ (.int .u64 (IntKind.u64.wrap r.how)) (pure_ (.int .u64 255) (pureE_ (.int .u64 (bits .and .u64 (IntKind.u64.wrap r.how) 255)) (.int .u64 ((IntKind.u64.wrap r.how) % 256)) (congrArg _ (and_mask .u64 (IntKind.u64.wrap r.how) 255 256 8 (by decide) (by decide) (by decide))) (pure_ (π zb85 1) (load1_ zS89 0 (ι 1) zb85 1 (call_ 133 #[.int .u64 ((IntKind.u64.wrap r.how) % 256), ι 1] ?_)))))))))))))))))))))
 refine (put_1 ((IntKind.u64.wrap r.how) % 256) (by omega) _).mono ?_; rintro _ zw91 ⟨zb94, rfl, zh95, zh96, zh92⟩
 have zS93 := zS89.new zh92 zh95 zh96
 refine move_ (pure_ (σ zb94 0 1 1) (pure_ (ι 0) (assign_ (pure_ (ι 0) (nsr_ (pure_ (ι 9) (pure_ (ι 10) (pure_ (ι 10) (pure_ (σ zb12 9 1 1) (move_ ?_))))))))))
 refine copy_ (elem := 5) (t := 181) zS93 12 zb12 10 9 1 1 (ovF (ovF (ovF (ovF (ovF (fun _ => 0) 0 1 (putF 1 ((IntKind.u64.wrap r.kind) % 256))) 1 1 (putF 1 ((IntKind.u64.wrap r.source) % 256))) 2 4 (putF 4 ((IntKind.u64.wrap r.seq) % 4294967296))) 6 2 (putF 2 ((IntKind.u64.wrap r.epoch) % 65536))) 8 1 (putF 1 ((IntKind.u64.wrap r.code) % 256))) zb94 0 1 1 (putF 1 ((IntKind.u64.wrap r.how) % 256)) (St.row8 (N := 1) (f := (putF 1 ((IntKind.u64.wrap r.how) % 256))) (wr := true) (t := 5) (fr := (0, 0)) zS93 0) (by omega) (by omega) (by kernel_rfl) (by kernel_rfl : _ = [(β zb94 #[υ ((putF 1 ((IntKind.u64.wrap r.how) % 256)) 0)] 5), (β zb85 #[ι r.how, ι 1] 225), (β zb80 #[υ ((putF 1 ((IntKind.u64.wrap r.code) % 256)) 0)] 5), (β zb71 #[ι r.code, ι 1] 225), (β zb66 #[υ ((putF 2 ((IntKind.u64.wrap r.epoch) % 65536)) 0), υ ((putF 2 ((IntKind.u64.wrap r.epoch) % 65536)) 1)] 5), (β zb57 #[ι r.epoch, ι 2] 225), (β zb52 #[υ ((putF 4 ((IntKind.u64.wrap r.seq) % 4294967296)) 0), υ ((putF 4 ((IntKind.u64.wrap r.seq) % 4294967296)) 1), υ ((putF 4 ((IntKind.u64.wrap r.seq) % 4294967296)) 2), υ ((putF 4 ((IntKind.u64.wrap r.seq) % 4294967296)) 3)] 5), (β zb43 #[ι r.seq, ι 4] 225), (β zb38 #[υ ((putF 1 ((IntKind.u64.wrap r.source) % 256)) 0)] 5), (β zb29 #[ι r.source, ι 1] 225), (β zb24 #[υ ((putF 1 ((IntKind.u64.wrap r.kind) % 256)) 0)] 5), (β zb15 #[ι r.kind, ι 1] 225), (β zb12 (rowF .u8 10 (ovF (ovF (ovF (ovF (ovF (ovF (fun _ => 0) 0 1 (putF 1 ((IntKind.u64.wrap r.kind) % 256))) 1 1 (putF 1 ((IntKind.u64.wrap r.source) % 256))) 2 4 (putF 4 ((IntKind.u64.wrap r.seq) % 4294967296))) 6 2 (putF 2 ((IntKind.u64.wrap r.epoch) % 65536))) 8 1 (putF 1 ((IntKind.u64.wrap r.code) % 256))) 9 1 (putF 1 ((IntKind.u64.wrap r.how) % 256)))) 181), (β zb7 #[ι r.kind, ι 1, ι r.source, ι 1, ι r.seq, ι 4, ι r.epoch, ι 2, ι r.code, ι 1, ι r.how, ι 1] 226), (β zb4 (rowF .u8 10 (fun _ => 0)) 181), (β zb1 (recC r) 71)]) ?_
 intro zw97 zS98
 refine ns_ (pure_ (ι 10) (pure_ (ι 10) (nil_ (blk_n (then_n (reg_ (pure_ (ι 6) (pure_ (ι 6) (nil_ (again_ (seq_ (reg_ (pure_ (φ) (nil_ (then_n (seq_ (cond_F (wp_exit (then_e (then_e (blk_e (then_n (seq_ (reg_ (loadN_ zS98 12 10 (rowF .u8 10 (ovF (ovF (ovF (ovF (ovF (ovF (fun _ => 0) 0 1 (putF 1 ((IntKind.u64.wrap r.kind) % 256))) 1 1 (putF 1 ((IntKind.u64.wrap r.source) % 256))) 2 4 (putF 4 ((IntKind.u64.wrap r.seq) % 4294967296))) 6 2 (putF 2 ((IntKind.u64.wrap r.epoch) % 65536))) 8 1 (putF 1 ((IntKind.u64.wrap r.code) % 256))) 9 1 (putF 1 ((IntKind.u64.wrap r.how) % 256)))) zb12 0 ?_)))))))))))))))))))))))))
 refine store_ zS98 14 (.agg (rowF .u8 10 (ovF (ovF (ovF (ovF (ovF (ovF (fun _ => 0) 0 1 (putF 1 ((IntKind.u64.wrap r.kind) % 256))) 1 1 (putF 1 ((IntKind.u64.wrap r.source) % 256))) 2 4 (putF 4 ((IntKind.u64.wrap r.seq) % 4294967296))) 6 2 (putF 2 ((IntKind.u64.wrap r.epoch) % 65536))) 8 1 (putF 1 ((IntKind.u64.wrap r.code) % 256))) 9 1 (putF 1 ((IntKind.u64.wrap r.how) % 256))))) zb4 0 ?_
 intro zw99 zS100
 refine nil_ (then_n (wp_ret (ret_ rfl (res_ [.cell 2 181] [.agg (rowF .u8 10 (ovF (ovF (ovF (ovF (ovF (ovF (fun _ => 0) 0 1 (putF 1 ((IntKind.u64.wrap r.kind) % 256))) 1 1 (putF 1 ((IntKind.u64.wrap r.source) % 256))) 2 4 (putF 4 ((IntKind.u64.wrap r.seq) % 4294967296))) 6 2 (putF 2 ((IntKind.u64.wrap r.epoch) % 65536))) 8 1 (putF 1 ((IntKind.u64.wrap r.code) % 256))) 9 1 (putF 1 ((IntKind.u64.wrap r.how) % 256))))] (.agg (rowF .u8 10 (ovF (ovF (ovF (ovF (ovF (ovF (fun _ => 0) 0 1 (putF 1 ((IntKind.u64.wrap r.kind) % 256))) 1 1 (putF 1 ((IntKind.u64.wrap r.source) % 256))) 2 4 (putF 4 ((IntKind.u64.wrap r.seq) % 4294967296))) 6 2 (putF 2 ((IntKind.u64.wrap r.epoch) % 65536))) 8 1 (putF 1 ((IntKind.u64.wrap r.code) % 256))) 9 1 (putF 1 ((IntKind.u64.wrap r.how) % 256))))) ⟨res_cellN zS100 14 10 zb4 0, trivial⟩) ?_)))
 exact ⟨by kernel_rfl, zS100.ch⟩

set_option maxRecDepth 100000 in
set_option maxHeartbeats 4000000 in
theorem next_ (h : Nat → Int) (r : Sd.Rec) {tG : TypeId} (w : World) (hG : w.heap[(0)]? = some (.cells (rowF .u32 64 rootF) tG (0, 0))) :
    Gives Tryz.prog 54 #[.agg (rowF .u8 32 h), .agg (recC r)] w fun v w1 => v = .agg (rowF .u8 32 (nextF h r)) ∧ Ch [] w w1 := by
 have S0 := St.given (w := w) [((0), .cells (rowF .u32 64 rootF) tG (0, 0))] (all_cons hG (all_nil))
 refine enter_ Tryz.func54 rfl (seq_ (reg_ ?_))
 refine new_ S0 (fun b => π b 0) (.cells (rowF .u8 32 h) 52) ?_
 intro zb1 zw2 zS3
 refine new_ zS3 (fun b => π b 0) (.cells (recC r) 71) ?_
 intro zb4 zw5 zS6
 refine new_ zS6 (fun b => π b 0) (.cells (rowF .u8 32 (fun _ => 0)) 52) ?_
 intro zb7 zw8 zS9
 refine nsr_ (loadN_ zS9 1 6 (recC r) zb4 0 (call_ 91 #[.agg (recC r)] ?_))
 refine (bytes_ r _).mono ?_; rintro _ zw10 ⟨rfl, zh11⟩
 have zS12 := zS9.quiet zh11
 refine new_ zS12 (fun b => π b 0) (.cells (rowF .u8 10 (fun _ => 0)) 181) ?_
 intro zb13 zw14 zS15
 refine store_ zS15 0 (.agg (rowF .u8 10 (recF r))) zb13 0 ?_
 intro zw16 zS17
 refine nil_ (then_n (seq_ ?_))
 refine quietL_ 2 [σ zb1 0 32 32, σ zb13 0 10 10] [[2, 0], [2, 1], [3, 2, 0], [3, 2, 1], [3, 2], [4, 0], [4, 1], [4, 2], [4, 3]] (step_cons qP_ (step_cons qP_ (step_nil))) ?_
 intro zw18 zh20
 have zS19 := zS17.quiet zh20
 refine append8F_ (x0 := some ⟨zb1, 0, none⟩) (T := 5) (n := 32) (c := 32) (m := 10) (f := h) (g := (recF r)) (xv := σ zb13 0 10 10) zS19 (KeyAt.of8 (St.row8 (N := 32) (f := h) (wr := true) (t := 52) (fr := (0, 0)) zS19 3) (by omega) (by omega)) (src8 (e' := 5) (St.row8 (N := 10) (f := (recF r)) (wr := true) (t := 181) (fr := (0, 0)) zS19 0)) (by omega) (by omega) ?_
 intro zb21 zc22 zw23 zh24 zS25
 refine call_ 92 #[σ zb21 0 (32 + 10) zc22] ?_
 refine (shasum_ zb21 0 (32 + 10) zc22 (catF 32 h (recF r)) (by omega) _ (zS25.at_ 5 _ rfl) (St.all8 (c := zc22) (wr := true) (t := 5) (fr := (0, 0)) zS25 0)).mono ?_; rintro _ zw26 ⟨rfl, zh27⟩
 have zS28 := zS25.quiet zh27
 refine store_ zS28 2 (.agg (rowF .u8 32 (shaF (32 + 10) (catF 32 h (recF r))))) zb7 0 ?_
 intro zw29 zS30
 refine nil_ (then_n (wp_ret (ret_ rfl (res_ [.cell 4 52] [.agg (rowF .u8 32 (shaF (32 + 10) (catF 32 h (recF r))))] (.agg (rowF .u8 32 (shaF (32 + 10) (catF 32 h (recF r))))) ⟨res_cellN zS30 2 32 zb7 0, trivial⟩) ?_)))
 exact ⟨by kernel_rfl, zS30.ch⟩

set_option maxRecDepth 100000 in
set_option maxHeartbeats 4000000 in
theorem hello_ok (ka : Option Addr) (kn kc : Nat) (kf : Nat → Int) (s : Int) (d : Sd.Door) (hkn : 1 ≤ kn ∧ kn ≤ 64) (hs : 0 ≤ s ∧ s < 4294967296) (hd : 0 ≤ d.many ∧ d.many < 4294967295) {tG : TypeId} (w : World) (hG : w.heap[(0)]? = some (.cells (rowF .u32 64 rootF) tG (0, 0))) (hk : KeyAt w ka kn kc kf) :
    Gives Tryz.prog 149 #[.agg #[ι d.many, .bool d.opn, υ (d.nonce 0), υ (d.nonce 1), υ (d.nonce 2), υ (d.nonce 3), υ (d.nonce 4), υ (d.nonce 5), υ (d.nonce 6), υ (d.nonce 7)], .slice ka kn kc, ι s] w fun v w1 => v = .tuple #[.agg #[ι (d.many + 1), τ, υ ((nonceF kn kf s (d.many + 1)) 0), υ ((nonceF kn kf s (d.many + 1)) 1), υ ((nonceF kn kf s (d.many + 1)) 2), υ ((nonceF kn kf s (d.many + 1)) 3), υ ((nonceF kn kf s (d.many + 1)) 4), υ ((nonceF kn kf s (d.many + 1)) 5), υ ((nonceF kn kf s (d.many + 1)) 6), υ ((nonceF kn kf s (d.many + 1)) 7)], ι 0] ∧ Ch [] w w1 := by
 have S0 := St.given (w := w) [((0), .cells (rowF .u32 64 rootF) tG (0, 0))] (all_cons hG (all_nil))
 refine enter_ Tryz.func149 rfl (seq_ (reg_ ?_))
 refine new_ S0 (fun b => π b 0) (.cells #[ι d.many, .bool d.opn, υ (d.nonce 0), υ (d.nonce 1), υ (d.nonce 2), υ (d.nonce 3), υ (d.nonce 4), υ (d.nonce 5), υ (d.nonce 6), υ (d.nonce 7)] 98) ?_
 intro zb1 zw2 zS3
 refine new_ zS3 (fun b => π b 0) (.cells #[ι 0, φ, υ 0, υ 0, υ 0, υ 0, υ 0, υ 0, υ 0, υ 0] 98) ?_
 intro zb4 zw5 zS6
 refine pure_ (ι 0) (nil_ (then_n (seq_ (seq_ (reg_ (pure_ (π zb1 0) (load1_ zS6 1 (ι d.many) zb1 0 (pureE_ (.bool (decide (4294967295 ≤ d.many))) (φ) (congrArg Value.bool (leF (by omega))) (nil_ (then_n (cond_F (wp_skip (then_n (seq_ (reg_ (pure_ (π zb1 0) (load1_ zS6 1 (ι d.many) zb1 0 (sum_ .i64 (d.many + 1) (IntWalk.i64_in _ (by omega)) (pure_ (ι (d.many + 1)) (nsr_ (pure_ (ι (d.many + 1)) (pure_ (.slice ka kn kc) (pure_ (ι s) (pure_ (ι (d.many + 1)) (call_ 184 #[.slice ka kn kc, ι s, ι (d.many + 1)] ?_)))))))))))))))))))))))))
 refine (nonce_ ka kn kc kf s (d.many + 1) (by omega) (by omega) (by omega) _ (zS6.at_ 2 _ rfl) (KeyAt.quiet hk zS6.ch)).mono ?_; rintro _ zw7 ⟨rfl, zh8⟩
 have zS9 := zS6.quiet zh8
 refine pure_ (.agg #[ι (d.many + 1), τ, υ ((nonceF kn kf s (d.many + 1)) 0), υ ((nonceF kn kf s (d.many + 1)) 1), υ ((nonceF kn kf s (d.many + 1)) 2), υ ((nonceF kn kf s (d.many + 1)) 3), υ ((nonceF kn kf s (d.many + 1)) 4), υ ((nonceF kn kf s (d.many + 1)) 5), υ ((nonceF kn kf s (d.many + 1)) 6), υ ((nonceF kn kf s (d.many + 1)) 7)]) ?_
 refine store_ zS9 0 (.agg #[ι (d.many + 1), τ, υ ((nonceF kn kf s (d.many + 1)) 0), υ ((nonceF kn kf s (d.many + 1)) 1), υ ((nonceF kn kf s (d.many + 1)) 2), υ ((nonceF kn kf s (d.many + 1)) 3), υ ((nonceF kn kf s (d.many + 1)) 4), υ ((nonceF kn kf s (d.many + 1)) 5), υ ((nonceF kn kf s (d.many + 1)) 6), υ ((nonceF kn kf s (d.many + 1)) 7)]) zb4 0 ?_
 intro zw10 zS11
 refine pure_ (ι 0) (nil_ (then_n (wp_ret (ret_ rfl (res_ [.cell 6 98, .tmp 7] [.agg #[ι (d.many + 1), τ, υ ((nonceF kn kf s (d.many + 1)) 0), υ ((nonceF kn kf s (d.many + 1)) 1), υ ((nonceF kn kf s (d.many + 1)) 2), υ ((nonceF kn kf s (d.many + 1)) 3), υ ((nonceF kn kf s (d.many + 1)) 4), υ ((nonceF kn kf s (d.many + 1)) 5), υ ((nonceF kn kf s (d.many + 1)) 6), υ ((nonceF kn kf s (d.many + 1)) 7)], ι 0] (.tuple #[.agg #[ι (d.many + 1), τ, υ ((nonceF kn kf s (d.many + 1)) 0), υ ((nonceF kn kf s (d.many + 1)) 1), υ ((nonceF kn kf s (d.many + 1)) 2), υ ((nonceF kn kf s (d.many + 1)) 3), υ ((nonceF kn kf s (d.many + 1)) 4), υ ((nonceF kn kf s (d.many + 1)) 5), υ ((nonceF kn kf s (d.many + 1)) 6), υ ((nonceF kn kf s (d.many + 1)) 7)], ι 0]) ⟨res_cellN zS11 0 10 zb4 0, res_tmp, trivial⟩) ?_))))
 exact ⟨by kernel_rfl, zS11.ch⟩

end Go.Proofs.YtbjanfgipcniiaaGreatDoor
