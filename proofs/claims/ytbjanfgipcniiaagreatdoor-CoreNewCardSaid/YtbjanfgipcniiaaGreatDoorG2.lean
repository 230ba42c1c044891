/- The example. -/
import Derived.Test.YtbjanfgipcniiaaGreatDoorG1
import Derived.Test.YtbjanfgipcniiaaGreatDoorG0
import Derived.Test.YtbjanfgipcniiaaGreatDoorK8
import Derived.Test.YtbjanfgipcniiaaGreatDoorSG
namespace Go.Proofs.YtbjanfgipcniiaaGreatDoor
open Go Go.RowKit Go.BigFrame Sx
set_option linter.unusedVariables false
set_option linter.unusedSimpArgs false

set_option maxRecDepth 100000 in
set_option maxHeartbeats 4000000 in
theorem shown24_  {tG : TypeId} (w : World) (hG : w.heap[(0)]? = some (.cells (rowF .u32 64 rootF) tG (0, 0))) :
    Gives Tryz.prog 9 #[] w fun v w1 => v = τ ∧ Ch [] w w1 := by
 have S0 := St.given (w := w) [((0), .cells (rowF .u32 64 rootF) tG (0, 0))] (all_cons hG (all_nil))
 refine enter_ Tryz.func9 rfl (seq_ (reg_ (pure_ (φ) (nsr_ (pure_ (.agg #[ι 0, ι 2, ι 0, ι 0, ι 0]) (pure_ (.agg (polC litQ (fun _ => none) (fun _ => 0) (fun _ => 0))) (call_ 18 #[.agg (polC litQ (fun _ => none) (fun _ => 0) (fun _ => 0))] ?_)))))))
 refine (fitS_ _).mono ?_; rintro _ zw1 ⟨p, ka, kn, kc, kf, ht, hp, hcode, hk, rfl, zh2⟩
 have zh4 := (S0.quiet zh2).ch
 have zS3 : St [] zw1 [⟨0, false, .cells (rowF .u32 64 rootF) tG (0, 0)⟩] zw1 := St.given (w := zw1) [(0, .cells (rowF .u32 64 rootF) tG (0, 0))] (all_cons ((S0.quiet zh2).at_ 0 _ rfl) all_nil)
 have hkq : ∀ {zw : World}, Ch [] zw1 zw → ∀ i, i < 4 → KeyAt zw (ka i) (kn i) (kc i) (kf i) := fun hc i hi => (hk i hi).2.2.quiet hc
 have hb0 := hk 0 (by omega)
 have hb1 := hk 1 (by omega)
 have hb2 := hk 2 (by omega)
 have hb3 := hk 3 (by omega)
 have hq48 := queue_ok hcode
 refine new_ zS3 (fun b => π b 0) (.cells #[ι 0, ι 0, ι 0, ι 0, ι 0, .slice none 0 0, .slice none 0 0, .slice none 0 0, .slice none 0 0, ι 0, ι 0, ι 0, ι 0, ι 0, ι 0, ι 0, ι 0, ι 0, ι 0, ι 0, ι 0, ι 0, ι 0, ι 0, ι 0, ι 0, ι 0, ι 0, ι 0, ι 0, ι 0, ι 0, ι 0, ι 0, ι 0, ι 0, ι 0, ι 0, ι 0, ι 0, ι 0, ι 0, ι 0, ι 0, ι 0, ι 0, ι 0, ι 0, ι 0, ι 0, ι 0, ι 0, ι 0, ι 0, ι 0, ι 0] 28) ?_
 intro zb5 zw6 zS7
 refine store_ zS7 0 (.agg (polP p ka kn kc)) zb5 0 ?_
 intro zw8 zS9
 refine nsr_ (loadN_ zS9 0 56 (polP p ka kn kc) zb5 0 (call_ 10 #[.agg (polP p ka kn kc)] ?_))
 refine (corenew_ p ka kn kc kf (by omega) _ (hkq zS9.ch)).mono ?_; rintro _ zw10 ⟨zb14, zb15, zb16, zx17, zc18, zq19, rfl, zh20, zT11⟩
 have zh21 := zh20 0 (by omega)
 have zh22 := zh20 1 (by omega)
 have zh23 := zh20 2 (by omega)
 have zh24 := zh20 3 (by omega)
 have zS12 : St [] zw1 (([(β zb14 (coreV p zx17 kn zc18 (⟨4, (p.i 55), (-1), (⟨0, 0⟩ : Sd.Timer), (⟨0, 0⟩ : Sd.Timer), false⟩ : Sd.Tok) zb15 (f3 (⟨(0 : Int), false, (fun _ => 0)⟩ : Sd.Door) (⟨(0 : Int), false, (fun _ => 0)⟩ : Sd.Door) (⟨(0 : Int), false, (fun _ => 0)⟩ : Sd.Door)) zb16 (0 : Int) (0 : Int) (p.i 39) (⟨2, 4, 0⟩ : Sd.Label) (⟨1, (⟨0, 0, 0, 0⟩ : Sd.X4), (⟨0, 0, 0, 0⟩ : Sd.X4), (⟨2, 4, 0⟩ : Sd.Label)⟩ : Sd.Point) (fun _ => 0)) 101), (β zb15 #[.slice none 0 0, ι (p.i 48), .int .u64 0] 153), (β zb16 (tabV (false, (⟨(0 : Int), (0 : Int)⟩ : Sd.Timer)) (f3 (⟨false, ⟨(0 : Int), (0 : Int)⟩, (0 : Int), (fun _ => 0), ⟨false, (0 : Int), (0 : Int)⟩⟩ : Sd.Session) (⟨false, ⟨(0 : Int), (0 : Int)⟩, (0 : Int), (fun _ => 0), ⟨false, (0 : Int), (0 : Int)⟩⟩ : Sd.Session) (⟨false, ⟨(0 : Int), (0 : Int)⟩, (0 : Int), (fun _ => 0), ⟨false, (0 : Int), (0 : Int)⟩⟩ : Sd.Session)) (p.i 42) (p.i 49)) 162)] ++ ((zq19 0) ++ ((zq19 1) ++ ((zq19 2) ++ ((zq19 3) ++ []))))) ++ ([(β zb5 (polP p ka kn kc) 28), ⟨(0), false, .cells (rowF .u32 64 rootF) tG (0, 0)⟩] ++ ([] : List Blk))) zw10 := St.beside (zS9.conv (by kernel_rfl) : St [] zw1 ([(β zb5 (polP p ka kn kc) 28), ⟨(0), false, .cells (rowF .u32 64 rootF) tG (0, 0)⟩] ++ ([] : List Blk)) zw8) (zT11 : St [] _ ([(β zb14 (coreV p zx17 kn zc18 (⟨4, (p.i 55), (-1), (⟨0, 0⟩ : Sd.Timer), (⟨0, 0⟩ : Sd.Timer), false⟩ : Sd.Tok) zb15 (f3 (⟨(0 : Int), false, (fun _ => 0)⟩ : Sd.Door) (⟨(0 : Int), false, (fun _ => 0)⟩ : Sd.Door) (⟨(0 : Int), false, (fun _ => 0)⟩ : Sd.Door)) zb16 (0 : Int) (0 : Int) (p.i 39) (⟨2, 4, 0⟩ : Sd.Label) (⟨1, (⟨0, 0, 0, 0⟩ : Sd.X4), (⟨0, 0, 0, 0⟩ : Sd.X4), (⟨2, 4, 0⟩ : Sd.Label)⟩ : Sd.Point) (fun _ => 0)) 101), (β zb15 #[.slice none 0 0, ι (p.i 48), .int .u64 0] 153), (β zb16 (tabV (false, (⟨(0 : Int), (0 : Int)⟩ : Sd.Timer)) (f3 (⟨false, ⟨(0 : Int), (0 : Int)⟩, (0 : Int), (fun _ => 0), ⟨false, (0 : Int), (0 : Int)⟩⟩ : Sd.Session) (⟨false, ⟨(0 : Int), (0 : Int)⟩, (0 : Int), (fun _ => 0), ⟨false, (0 : Int), (0 : Int)⟩⟩ : Sd.Session) (⟨false, ⟨(0 : Int), (0 : Int)⟩, (0 : Int), (fun _ => 0), ⟨false, (0 : Int), (0 : Int)⟩⟩ : Sd.Session)) (p.i 42) (p.i 49)) 162)] ++ ((zq19 0) ++ ((zq19 1) ++ ((zq19 2) ++ ((zq19 3) ++ []))))) _) (Wr.app (Wr.cons rfl (Wr.cons rfl (Wr.cons rfl Wr.nil))) (Wr.app (row8.wr zh21) (Wr.app (row8.wr zh22) (Wr.app (row8.wr zh23) (Wr.app (row8.wr zh24) Wr.nil)))))
 have zS13 : St [] zw1 ([(β zb14 (coreV p zx17 kn zc18 (⟨4, (p.i 55), (-1), (⟨0, 0⟩ : Sd.Timer), (⟨0, 0⟩ : Sd.Timer), false⟩ : Sd.Tok) zb15 (f3 (⟨(0 : Int), false, (fun _ => 0)⟩ : Sd.Door) (⟨(0 : Int), false, (fun _ => 0)⟩ : Sd.Door) (⟨(0 : Int), false, (fun _ => 0)⟩ : Sd.Door)) zb16 (0 : Int) (0 : Int) (p.i 39) (⟨2, 4, 0⟩ : Sd.Label) (⟨1, (⟨0, 0, 0, 0⟩ : Sd.X4), (⟨0, 0, 0, 0⟩ : Sd.X4), (⟨2, 4, 0⟩ : Sd.Label)⟩ : Sd.Point) (fun _ => 0)) 101), (β zb15 #[.slice none 0 0, ι (p.i 48), .int .u64 0] 153), (β zb16 (tabV (false, (⟨(0 : Int), (0 : Int)⟩ : Sd.Timer)) (f3 (⟨false, ⟨(0 : Int), (0 : Int)⟩, (0 : Int), (fun _ => 0), ⟨false, (0 : Int), (0 : Int)⟩⟩ : Sd.Session) (⟨false, ⟨(0 : Int), (0 : Int)⟩, (0 : Int), (fun _ => 0), ⟨false, (0 : Int), (0 : Int)⟩⟩ : Sd.Session) (⟨false, ⟨(0 : Int), (0 : Int)⟩, (0 : Int), (fun _ => 0), ⟨false, (0 : Int), (0 : Int)⟩⟩ : Sd.Session)) (p.i 42) (p.i 49)) 162), (β zb5 (polP p ka kn kc) 28), ⟨(0), false, .cells (rowF .u32 64 rootF) tG (0, 0)⟩] ++ ((zq19 0) ++ ((zq19 1) ++ ((zq19 2) ++ ((zq19 3) ++ ([] : List Blk)))))) zw10 := (show St [] zw1 (([(β zb14 (coreV p zx17 kn zc18 (⟨4, (p.i 55), (-1), (⟨0, 0⟩ : Sd.Timer), (⟨0, 0⟩ : Sd.Timer), false⟩ : Sd.Tok) zb15 (f3 (⟨(0 : Int), false, (fun _ => 0)⟩ : Sd.Door) (⟨(0 : Int), false, (fun _ => 0)⟩ : Sd.Door) (⟨(0 : Int), false, (fun _ => 0)⟩ : Sd.Door)) zb16 (0 : Int) (0 : Int) (p.i 39) (⟨2, 4, 0⟩ : Sd.Label) (⟨1, (⟨0, 0, 0, 0⟩ : Sd.X4), (⟨0, 0, 0, 0⟩ : Sd.X4), (⟨2, 4, 0⟩ : Sd.Label)⟩ : Sd.Point) (fun _ => 0)) 101)] ++ ([(β zb15 #[.slice none 0 0, ι (p.i 48), .int .u64 0] 153)] ++ ([(β zb16 (tabV (false, (⟨(0 : Int), (0 : Int)⟩ : Sd.Timer)) (f3 (⟨false, ⟨(0 : Int), (0 : Int)⟩, (0 : Int), (fun _ => 0), ⟨false, (0 : Int), (0 : Int)⟩⟩ : Sd.Session) (⟨false, ⟨(0 : Int), (0 : Int)⟩, (0 : Int), (fun _ => 0), ⟨false, (0 : Int), (0 : Int)⟩⟩ : Sd.Session) (⟨false, ⟨(0 : Int), (0 : Int)⟩, (0 : Int), (fun _ => 0), ⟨false, (0 : Int), (0 : Int)⟩⟩ : Sd.Session)) (p.i 42) (p.i 49)) 162)] ++ ((zq19 0) ++ ((zq19 1) ++ ((zq19 2) ++ ((zq19 3) ++ ([(β zb5 (polP p ka kn kc) 28), ⟨(0), false, .cells (rowF .u32 64 rootF) tG (0, 0)⟩] ++ ([] : List Blk)))))))))) zw10 by simpa [List.append_assoc] using zS12).re (R := ([] : List Blk)) [[(β zb14 (coreV p zx17 kn zc18 (⟨4, (p.i 55), (-1), (⟨0, 0⟩ : Sd.Timer), (⟨0, 0⟩ : Sd.Timer), false⟩ : Sd.Tok) zb15 (f3 (⟨(0 : Int), false, (fun _ => 0)⟩ : Sd.Door) (⟨(0 : Int), false, (fun _ => 0)⟩ : Sd.Door) (⟨(0 : Int), false, (fun _ => 0)⟩ : Sd.Door)) zb16 (0 : Int) (0 : Int) (p.i 39) (⟨2, 4, 0⟩ : Sd.Label) (⟨1, (⟨0, 0, 0, 0⟩ : Sd.X4), (⟨0, 0, 0, 0⟩ : Sd.X4), (⟨2, 4, 0⟩ : Sd.Label)⟩ : Sd.Point) (fun _ => 0)) 101)], [(β zb15 #[.slice none 0 0, ι (p.i 48), .int .u64 0] 153)], [(β zb16 (tabV (false, (⟨(0 : Int), (0 : Int)⟩ : Sd.Timer)) (f3 (⟨false, ⟨(0 : Int), (0 : Int)⟩, (0 : Int), (fun _ => 0), ⟨false, (0 : Int), (0 : Int)⟩⟩ : Sd.Session) (⟨false, ⟨(0 : Int), (0 : Int)⟩, (0 : Int), (fun _ => 0), ⟨false, (0 : Int), (0 : Int)⟩⟩ : Sd.Session) (⟨false, ⟨(0 : Int), (0 : Int)⟩, (0 : Int), (fun _ => 0), ⟨false, (0 : Int), (0 : Int)⟩⟩ : Sd.Session)) (p.i 42) (p.i 49)) 162)], (zq19 0), (zq19 1), (zq19 2), (zq19 3), [(β zb5 (polP p ka kn kc) 28), ⟨(0), false, .cells (rowF .u32 64 rootF) tG (0, 0)⟩]] [0, 1, 2, 7, 3, 4, 5, 6]
 refine move_ (pure_ (π zb14 0) (pure_ (ι 0) (assign_ (pure_ (ι 0) (nil_ (then_n (seq_ (seq_ (reg_ (move_ (pure_ (φ) (pure_ (φ) (pure_ (ι 0) (pure_ (φ) (pure_ (φ) (nil_ (then_n (cond_F (wp_skip (then_n (seq_ (reg_ (move_ ?_)))))))))))))))))))))))
 refine new_ zS13 (fun b => σ b 0 2 2) (.cells #[υ 1, υ 1] 5) ?_
 intro zb25 zw26 zS27
 refine pure_ (.agg #[ι 0, σ zb25 0 2 2]) (call_ 27 #[π zb14 0, ι 1, .agg #[ι 0, σ zb25 0 2 2]] (enter_ Tryz.func27 rfl (seq_ (reg_ ?_))))
 refine new_ zS27 (fun b => π b 0) (.cells #[ι 0, σ zb25 0 2 2] 62) ?_
 intro zb28 zw29 zS30
 refine new_ zS30 (fun b => π b 0) (.cells #[ι 0, ι 0, ι 0, ι 0, ι 0, ι 0, ι 0, ι 0, ι 0, ι 0, ι 0, ι 0, .slice none 0 0, .slice none 0 0, υ 0, υ 0, υ 0, υ 0, υ 0, υ 0, υ 0, υ 0, υ 0, υ 0, υ 0, υ 0, υ 0, υ 0, υ 0, υ 0, υ 0, υ 0, υ 0, υ 0, υ 0, υ 0, υ 0, υ 0, υ 0, υ 0, υ 0, υ 0, υ 0, υ 0, υ 0, υ 0] 54) ?_
 intro zb31 zw32 zS33
 refine nsr_ (move_ (pure_ (.agg #[π zb14 0, .slice none 0 0, .slice none 0 0]) ?_))
 refine new_ zS33 (fun b => π b 0) (.cells #[.pointer none, .slice none 0 0, .slice none 0 0] 127) ?_
 intro zb34 zw35 zS36
 refine store_ zS36 0 (.agg #[π zb14 0, .slice none 0 0, .slice none 0 0]) zb34 0 ?_
 intro zw37 zS38
 refine nil_ (then_n (seq_ (seq_ (reg_ (pure_ (ι 1) (call_ 60 #[ι 1] (enter_ Tryz.func60 rfl (seq_ (reg_ (pure_ (φ) (nsr_ (pure_ (ι 1) (pure_ (τ) (pure_ (τ) (pure_ (ι 1) (pure_ (τ) (pure_ (τ) (pure_ (τ) (nil_ (then_n (wp_ret (ret_ rfl (res_ [.tmp 2] [τ] (τ) ⟨res_tmp, trivial⟩) (pure_ (τ) (move_ (call_ 38 #[π zb14 0] (enter_ Tryz.func38 rfl (seq_ (reg_ (pure_ (φ) (nsr_ (move_ (pure_ (π zb14 0) (pure_ (π zb14 95) (load1_ zS38 4 (π zb16 0) zb14 95 (pure_ (τ) (pure_ (τ) (nil_ (then_n (wp_ret (ret_ rfl (res_ [.tmp 2] [τ] (τ) ⟨res_tmp, trivial⟩) (pure_ (τ) (nil_ (then_n (cond_T (reg_ (pure_ (ι 1) (loadN_ zS38 2 2 #[ι 0, σ zb25 0 2 2] zb28 0 (call_ 61 #[π zb34 0, ι 1, .agg #[ι 0, σ zb25 0 2 2]] (enter_ Tryz.func61 rfl (seq_ (reg_ ?_)))))))))))))))))))))))))))))))))))))))))))))))))))
 refine new_ zS38 (fun b => π b 0) (.cells #[ι 0, σ zb25 0 2 2] 62) ?_
 intro zb39 zw40 zS41
 refine nil_ (then_n (wp_block (seq_ (reg_ (pure_ (π zb39 0) (load1_ zS41 0 (ι 0) zb39 0 (pure_ (φ) (pure_ (φ) (nil_ (then_n (cond_F (seq_ (reg_ (pure_ (π zb39 1) (load1_ zS41 0 (σ zb25 0 2 2) zb39 1 (call_ 104 #[σ zb25 0 2 2, υ 1] (enter_ Tryz.func104 rfl (seq_ (reg_ (pure_ (φ) (nsr_ (move_ (pure_ (ι 2) (pure_ (τ) (pure_ (τ) (move_ (pure_ (π zb25 0) (load1_ zS41 4 (υ 1) zb25 0 (pure_ (υ 1) (pure_ (τ) (pure_ (τ) (pure_ (τ) (nil_ (then_n (wp_ret (ret_ rfl (res_ [.tmp 4] [τ] (τ) ⟨res_tmp, trivial⟩) (pure_ (τ) (nil_ (then_n (cond_T (reg_ (move_ (pure_ (ι 1) (pure_ (π zb39 1) (load1_ zS41 0 (σ zb25 0 2 2) zb39 1 (call_ 105 #[π zb34 0, ι 1, σ zb25 0 2 2] (enter_ Tryz.func105 rfl (seq_ (reg_ (move_ (call_ 146 #[σ zb25 0 2 2] (enter_ Tryz.func146 rfl (seq_ (reg_ ?_))))))))))))))))))))))))))))))))))))))))))))))))))))))
 refine new_ zS41 (fun b => π b 0) (.cells #[ι 0, ι 0, ι 0, ι 0, ι 0, ι 0, ι 0, φ, ι 0, ι 0, ι 0, ι 0] 201) ?_
 intro zb42 zw43 zS44
 refine pure_ (ι 0) (nil_ (then_n (seq_ (seq_ (reg_ (move_ (pure_ (ι 2) (pure_ (φ) (nil_ (then_n (cond_F (wp_skip (then_n (seq_ (reg_ (move_ (pure_ (π zb25 0) (load1_ zS44 5 (υ 1) zb25 0 (pure_ (ι 1) (pure_ (.agg #[ι 1, ι 0, ι 0, ι 0, ι 0, ι 0, ι 0, φ, ι 0, ι 0, ι 0, ι 0]) ?_))))))))))))))))))))
 refine new_ zS44 (fun b => π b 0) (.cells #[ι 0, ι 0, ι 0, ι 0, ι 0, ι 0, ι 0, φ, ι 0, ι 0, ι 0, ι 0] 201) ?_
 intro zb45 zw46 zS47
 refine store_ zS47 0 (.agg #[ι 1, ι 0, ι 0, ι 0, ι 0, ι 0, ι 0, φ, ι 0, ι 0, ι 0, ι 0]) zb45 0 ?_
 intro zw48 zS49
 refine nsr_ (call_ 181 #[π zb45 0] (enter_ Tryz.func181 rfl (seq_ (reg_ (pure_ (.slice none 0 0) (pure_ (φ) (nil_ (then_n (seq_ (seq_ (reg_ (move_ (pure_ (π zb45 0) (pure_ (π zb45 0) (load1_ zS49 0 (ι 1) zb45 0 (nil_ (then_n (wp_block (seq_ (seq_ (reg_ (pure_ (τ) (pure_ (τ) (nil_ (then_n (cond_T (wp_skip (then_n (cond_T (seq_ (reg_ (move_ (pure_ (π zb45 0) (pure_ (π zb45 2) (call_ 97 #[π zb45 2] ?_)))))))))))))))))))))))))))))))))))
 refine (fld_role zb45 2 _).mono ?_; rintro _ zw50 ⟨zb53, rfl, zh54, zh55, zh51⟩
 have zS52 := zS49.new zh51 zh54 zh55
 refine new_ zS52 (fun b => σ b 0 1 1) (.cells #[ι 1, ι 0, ι 3, .func (.func 179) #[] #[π zb53 0], .func (.func 180) #[] #[π zb53 0]] 190) ?_
 intro zb56 zw57 zS58
 refine assign_ (pure_ (τ) (nil_ (then_n (wp_ret (blk_r (then_r (ret_ rfl (res_ [.tmp 2, .tmp 3] [σ zb56 0 1 1, τ] (.tuple #[σ zb56 0 1 1, τ]) ⟨res_tmp, res_tmp, trivial⟩) (move_ (pure_ (σ zb56 0 1 1) (pure_ (τ) (assign_ (pure_ (τ) (nil_ (then_n (seq_ (seq_ (reg_ (pure_ (τ) (pure_ (φ) (pure_ (φ) (move_ (pure_ (σ zb25 1 1 1) (move_ (call_ 59 #[σ zb25 1 1 1, σ zb56 0 1 1] (enter_ Tryz.func59 rfl (seq_ (reg_ (pure_ (φ) (nil_ (then_n (seq_ (seq_ (reg_ (move_ (pure_ (ι 1) (pure_ (ι 0) (nil_ (then_n (wp_block (loop_ 24 (seq_ (reg_ (pure_ (τ) (nil_ (then_n (seq_ (cond_T (wp_skip (then_n (seq_ (wp_block (seq_ (reg_ (pure_ (π zb56 0) (loadN_ zS58 0 5 #[ι 1, ι 0, ι 3, .func (.func 179) #[] #[π zb53 0], .func (.func 180) #[] #[π zb53 0]] zb56 0 ?_)))))))))))))))))))))))))))))))))))))))))))))))))))))))
 refine new_ zS58 (fun b => π b 0) (.cells #[ι 0, ι 0, ι 0, .nilFunc, .nilFunc] 190) ?_
 intro zb59 zw60 zS61
 refine store_ zS61 0 (.agg #[ι 1, ι 0, ι 3, .func (.func 179) #[] #[π zb53 0], .func (.func 180) #[] #[π zb53 0]]) zb59 0 ?_
 intro zw62 zS63
 refine nil_ (then_n (seq_ (seq_ ?_)))
 refine quietL_ 11 [σ zb25 1 1 1, ι 1, π zb59 0, ι 1, φ, φ, .agg #[ι 1, ι 0, ι 3, .func (.func 179) #[] #[π zb53 0], .func (.func 180) #[] #[π zb53 0]], σ zb25 1 1 1, π zb59 0, ι 1, σ zb25 1 1 1] [[11, 5, 4, 1, 0], [11, 5, 4, 1], [11, 5, 4, 3, 2], [11, 5, 4, 3], [11, 5, 4], [11, 5], [11, 6], [11, 10, 7], [11, 10, 9, 8], [11, 10, 9], [11, 10], [12, 5, 4, 1, 0], [12, 5, 4, 1], [12, 5, 4, 3, 2], [12, 5, 4, 3], [12, 5, 4], [12, 5], [12, 11, 6], [12, 11, 10, 7], [12, 11, 10, 9, 8], [12, 11, 10, 9], [12, 11, 10], [12, 11], [13, 5, 4, 1, 0], [13, 5, 4, 1], [13, 5, 4, 3, 2], [13, 5, 4, 3], [13, 5, 4], [13, 5], [13, 12, 11, 6], [13, 12, 11, 10, 7], [13, 12, 11, 10, 9, 8], [13, 12, 11, 10, 9], [13, 12, 11, 10], [13, 12, 11], [13, 12]] (step_cons qP_ (step_cons qP_ (step_cons qP_ (step_cons (qL_ zS63 0 zb59 0) (step_cons qP_ (step_cons qP_ (step_cons (qU_ 5 18 false (qN_ zS63 0 zb59 0 5 #[ι 1, ι 0, ι 3, .func (.func 179) #[] #[π zb53 0], .func (.func 180) #[] #[π zb53 0]])) (step_cons (qU_ 5 18 false qP_) (step_cons (qU_ 5 18 false qP_) (step_cons (qU_ 5 18 false (qL_ zS63 0 zb59 0)) (step_cons (qU_ 5 18 false qP_) (step_nil)))))))))))) ?_
 intro zw64 zh66
 have zS65 := zS63.quiet zh66
 refine call_ 102 #[.agg #[ι 1, ι 0, ι 3, .func (.func 179) #[] #[π zb53 0], .func (.func 180) #[] #[π zb53 0]], σ zb25 1 1 1] (enter_ Tryz.func102 rfl (seq_ (reg_ ?_)))
 refine new_ zS65 (fun b => π b 0) (.cells #[ι 1, ι 0, ι 3, .func (.func 179) #[] #[π zb53 0], .func (.func 180) #[] #[π zb53 0]] 190) ?_
 intro zb67 zw68 zS69
 refine pure_ (φ) (nsr_ (pure_ (ι 0) (nil_ (then_n (seq_ (seq_ (reg_ (pure_ (π zb67 1) (load1_ zS69 0 (ι 0) zb67 1 (pure_ (φ) (nil_ (then_n (cond_F (seq_ (reg_ (move_ (call_ 145 #[σ zb25 1 1 1] (enter_ Tryz.func145 rfl (seq_ (reg_ (pure_ (.int .u64 0) (pure_ (ι 0) (nil_ (then_n (seq_ (seq_ (reg_ (move_ (pure_ (ι 1) (pure_ (φ) (nil_ (then_n (cond_F (wp_skip (then_n (seq_ (reg_ (pure_ (.int .u64 0) (nil_ (then_n (seq_ (seq_ (reg_ (move_ (pure_ (ι 1) (pure_ (ι 0) (nil_ (then_n (wp_block (loop_ 24 (seq_ (reg_ (pure_ (τ) (nil_ (then_n (seq_ (cond_T (wp_skip (then_n (seq_ (wp_block (seq_ (reg_ (pure_ (ι 0) (pure_ (ι 0) (ns_ (pure_ (.int .u64 0) (pure_ (.int .u64 0) (move_ (pure_ (ι 0) (pure_ (π zb25 1) (load1_ zS69 10 (υ 1) zb25 1 (pure_ (.int .u64 1) (pure_ (.int .u64 1) (pure_ (.int .u64 1) ?_)))))))))))))))))))))))))))))))))))))))))))))))))))))))))))))))))))))))))))
 refine nil_ (blk_n (then_n (reg_ (pure_ (ι 1) (pure_ (ι 1) (nil_ (again_ (seq_ (reg_ (pure_ (φ) (nil_ (then_n (seq_ (cond_F (wp_exit (then_e (then_e (blk_e (then_n (seq_ (reg_ (pure_ (.int .u64 1) (pure_ (.int .u64 1) (pure_ (ι 0) (nil_ (then_n (wp_ret (ret_ rfl (res_ [.tmp 2, .tmp 3] [.int .u64 1, ι 0] (.tuple #[.int .u64 1, ι 0]) ⟨res_tmp, res_tmp, trivial⟩) (move_ (pure_ (.int .u64 1) (pure_ (ι 0) (pure_ (.int .u64 1) (pure_ (ι 0) (nil_ (then_n (seq_ (seq_ (reg_ (pure_ (ι 0) (pure_ (φ) (nil_ (then_n (cond_F (wp_skip (then_n (reg_ (pure_ (.int .u64 1) (pure_ (ι 1) (pure_ (ι 1) (nil_ (then_n (seq_ (seq_ (reg_ (pure_ (ι 1) (pure_ (π zb67 1) (load1_ zS69 0 (ι 0) zb67 1 (pure_ (φ) (pure_ (φ) (pure_ (ι 1) (pure_ (π zb67 2) (load1_ zS69 0 (ι 3) zb67 2 (pure_ (φ) (pure_ (φ) (nil_ (then_n (cond_F ?_)))))))))))))))))))))))))))))))))))))))))))))))))))))))))))))))))))
 refine wp_skip (then_n (seq_ (reg_ (pure_ (π zb67 4) (load1_ zS69 0 (.func (.func 180) #[] #[π zb53 0]) zb67 4 (pure_ (ι 1) (call_ 180 #[ι 1, π zb53 0] (enter_ Tryz.func180 rfl (reg_ (load1_ zS69 3 (π zb45 2) zb53 0 (pure_ (ι 1) (pure_ (π zb45 2) ?_))))))))))))
 refine store_ zS69 4 (ι 1) zb45 2 ?_
 intro zw70 zS71
 refine nil_ (end_ rfl (res_ [] [] (.tuple #[]) trivial) (nsr_ (pure_ (τ) (nil_ (then_n (wp_ret (ret_ rfl (res_ [.tmp 4] [τ] (τ) ⟨res_tmp, trivial⟩) (pure_ (φ) (pure_ (φ) (nil_ (then_n (cond_F (wp_skip (then_n (reg_ (move_ (pure_ (π zb59 0) (load1_ zS71 1 (ι 1) zb59 0 (pure_ (σ zb25 1 0 0) (assign_ (nil_ (blk_n (then_n (reg_ (pure_ (ι 1) (pure_ (ι 1) (nil_ (again_ (seq_ (reg_ (pure_ (φ) (nil_ (then_n (seq_ (cond_F (wp_exit (then_e (then_e (blk_e (then_n (seq_ (reg_ (move_ (pure_ (ι 0) (pure_ (τ) (pure_ (τ) (nil_ (then_n (wp_ret (ret_ rfl (res_ [.tmp 4] [τ] (τ) ⟨res_tmp, trivial⟩) (pure_ (φ) (pure_ (φ) (nil_ (then_n (cond_F (wp_skip (then_n (seq_ (reg_ (loadN_ zS71 4 12 #[ι 1, ι 0, ι 1, ι 0, ι 0, ι 0, ι 0, φ, ι 0, ι 0, ι 0, ι 0] zb45 0 ?_))))))))))))))))))))))))))))))))))))))))))))))))))))))))))))
 refine store_ zS71 5 (.agg #[ι 1, ι 0, ι 1, ι 0, ι 0, ι 0, ι 0, φ, ι 0, ι 0, ι 0, ι 0]) zb42 0 ?_
 intro zw72 zS73
 refine pure_ (ι 0) (nil_ (then_n (wp_ret (ret_ rfl (res_ [.cell 2 201, .tmp 3] [.agg #[ι 1, ι 0, ι 1, ι 0, ι 0, ι 0, ι 0, φ, ι 0, ι 0, ι 0, ι 0], ι 0] (.tuple #[.agg #[ι 1, ι 0, ι 1, ι 0, ι 0, ι 0, ι 0, φ, ι 0, ι 0, ι 0, ι 0], ι 0]) ⟨res_cellN zS73 5 12 zb42 0, res_tmp, trivial⟩) (move_ (pure_ (.agg #[ι 1, ι 0, ι 1, ι 0, ι 0, ι 0, ι 0, φ, ι 0, ι 0, ι 0, ι 0]) (pure_ (ι 0) ?_)))))))
 refine new_ zS73 (fun b => π b 0) (.cells #[ι 0, ι 0, ι 0, ι 0, ι 0, ι 0, ι 0, φ, ι 0, ι 0, ι 0, ι 0] 201) ?_
 intro zb74 zw75 zS76
 refine store_ zS76 0 (.agg #[ι 1, ι 0, ι 1, ι 0, ι 0, ι 0, ι 0, φ, ι 0, ι 0, ι 0, ι 0]) zb74 0 ?_
 intro zw77 zS78
 refine pure_ (ι 0) (nil_ (then_n (seq_ (seq_ (reg_ (pure_ (ι 0) (pure_ (φ) (nil_ (then_n (cond_F (wp_skip (then_n (seq_ (seq_ ?_))))))))))))))
 refine quietL_ 10 [π zb34 0, π zb34 0, π zb34 0, π zb14 0, π zb14 0, π zb14 0, .agg (polP p zx17 kn zc18), ι 1, π zb74 2, ι 1] [[10, 6, 5, 4, 3, 2, 1, 0], [10, 6, 5, 4, 3, 2, 1], [10, 6, 5, 4, 3, 2], [10, 6, 5, 4, 3], [10, 6, 5, 4], [10, 6, 5], [10, 6], [10, 7], [10, 9, 8], [10, 9], [11, 10, 6, 5, 4, 3, 2, 1, 0], [11, 10, 6, 5, 4, 3, 2, 1], [11, 10, 6, 5, 4, 3, 2], [11, 10, 6, 5, 4, 3], [11, 10, 6, 5, 4], [11, 10, 6, 5], [11, 10, 6], [11, 10, 7], [11, 10, 9, 8], [11, 10, 9], [11, 10]] (step_cons qP_ (step_cons qP_ (step_cons qP_ (step_cons (qL_ zS78 8 zb34 0) (step_cons qP_ (step_cons qP_ (step_cons (qN_ zS78 12 zb14 0 56 (polP p zx17 kn zc18)) (step_cons qP_ (step_cons qP_ (step_cons (qL_ zS78 0 zb74 2) (step_nil))))))))))) ?_
 intro zw79 zh81
 have zS80 := zS78.quiet zh81
 refine call_ 147 #[.agg (polP p zx17 kn zc18), ι 1, ι 1] ?_
 refine (takes_ p zx17 kn zc18 1 1 _ ).mono ?_; rintro _ zw82 ⟨rfl, zh83⟩
 have zS84 := zS80.quiet zh83
 refine pure_ (.bool (!(Sd.takes p 1 1))) (nil_ (then_n (cond_f (!(Sd.takes p 1 1)) (notF (ht)) (wp_skip (then_n (seq_ ?_))))))
 refine newG_ zS84 25 [.v (π zb34 0), .v (π zb34 0), .v (π zb34 0), .v (π zb14 0), .v (ι 1), .v (ι 0), .v (π zb14 0), .v (π zb14 65), .v (π zb14 65), .v (.agg #[ι 0, φ, υ 0, υ 0, υ 0, υ 0, υ 0, υ 0, υ 0, υ 0]), .v (π zb34 0), .v (π zb34 0), .v (π zb34 0), .v (π zb14 0), .v (π zb14 0), .v (π zb14 0), .v (π zb14 8), .v (.slice (zx17 3) (kn 3) (zc18 3)), .v (ι 1), .v (.tuple #[.agg #[ι (0 + 1), τ, υ ((nonceF (kn 3) (kf 3) 1 (0 + 1)) 0), υ ((nonceF (kn 3) (kf 3) 1 (0 + 1)) 1), υ ((nonceF (kn 3) (kf 3) 1 (0 + 1)) 2), υ ((nonceF (kn 3) (kf 3) 1 (0 + 1)) 3), υ ((nonceF (kn 3) (kf 3) 1 (0 + 1)) 4), υ ((nonceF (kn 3) (kf 3) 1 (0 + 1)) 5), υ ((nonceF (kn 3) (kf 3) 1 (0 + 1)) 6), υ ((nonceF (kn 3) (kf 3) 1 (0 + 1)) 7)], ι 0]), .v (.tuple #[.agg #[ι (0 + 1), τ, υ ((nonceF (kn 3) (kf 3) 1 (0 + 1)) 0), υ ((nonceF (kn 3) (kf 3) 1 (0 + 1)) 1), υ ((nonceF (kn 3) (kf 3) 1 (0 + 1)) 2), υ ((nonceF (kn 3) (kf 3) 1 (0 + 1)) 3), υ ((nonceF (kn 3) (kf 3) 1 (0 + 1)) 4), υ ((nonceF (kn 3) (kf 3) 1 (0 + 1)) 5), υ ((nonceF (kn 3) (kf 3) 1 (0 + 1)) 6), υ ((nonceF (kn 3) (kf 3) 1 (0 + 1)) 7)], ι 0]), .v (.agg #[ι (0 + 1), τ, υ ((nonceF (kn 3) (kf 3) 1 (0 + 1)) 0), υ ((nonceF (kn 3) (kf 3) 1 (0 + 1)) 1), υ ((nonceF (kn 3) (kf 3) 1 (0 + 1)) 2), υ ((nonceF (kn 3) (kf 3) 1 (0 + 1)) 3), υ ((nonceF (kn 3) (kf 3) 1 (0 + 1)) 4), υ ((nonceF (kn 3) (kf 3) 1 (0 + 1)) 5), υ ((nonceF (kn 3) (kf 3) 1 (0 + 1)) 6), υ ((nonceF (kn 3) (kf 3) 1 (0 + 1)) 7)]), .v (ι 0), .n #[ι 0, φ, υ 0, υ 0, υ 0, υ 0, υ 0, υ 0, υ 0, υ 0] #[ι (0 + 1), τ, υ ((nonceF (kn 3) (kf 3) 1 (0 + 1)) 0), υ ((nonceF (kn 3) (kf 3) 1 (0 + 1)) 1), υ ((nonceF (kn 3) (kf 3) 1 (0 + 1)) 2), υ ((nonceF (kn 3) (kf 3) 1 (0 + 1)) 3), υ ((nonceF (kn 3) (kf 3) 1 (0 + 1)) 4), υ ((nonceF (kn 3) (kf 3) 1 (0 + 1)) 5), υ ((nonceF (kn 3) (kf 3) 1 (0 + 1)) 6), υ ((nonceF (kn 3) (kf 3) 1 (0 + 1)) 7)] 98, .s 23] [[25, 0], [25, 1], [25, 2], [25, 3], [25, 4], [25, 5], [25, 6], [25, 7], [25, 8], [25, 9], [25, 10], [25, 11], [25, 12], [25, 13], [25, 14], [25, 15], [25, 16], [25, 17], [25, 18], [25, 19], [25, 20], [25, 21], [25, 22], [25, 23], [25, 24]] (gstep_cons (gq0_ eP_) (gstep_cons (gq0_ eP_) (gstep_cons (gq0_ eP_) (gstep_cons (gq0_ (eL_ (fun _ h => St.quiet zS84 h) 8 zb34 0)) (gstep_cons (gq0_ eP_) (gstep_cons (gq0_ eP_) (gstep_cons (gq0_ eP_) (gstep_cons (gq0_ eP_) (gstep_cons (gq0_ eP_) (gstep_cons (gq0_ (eN_ (fun _ h => St.quiet zS84 h) 12 zb14 65 10 #[ι 0, φ, υ 0, υ 0, υ 0, υ 0, υ 0, υ 0, υ 0, υ 0])) (gstep_cons (gq0_ eP_) (gstep_cons (gq0_ eP_) (gstep_cons (gq0_ eP_) (gstep_cons (gq0_ (eL_ (fun _ h => St.quiet zS84 h) 8 zb34 0)) (gstep_cons (gq0_ eP_) (gstep_cons (gq0_ eP_) (gstep_cons (gq0_ eP_) (gstep_cons (gq0_ (eL_ (fun _ h => St.quiet zS84 h) 12 zb14 8)) (gstep_cons (gq0_ eP_) (gstep_cons (gq0_ (eCw_ 149 #[.agg #[ι 0, φ, υ 0, υ 0, υ 0, υ 0, υ 0, υ 0, υ 0, υ 0], .slice (zx17 3) (kn 3) (zc18 3), ι 1] (fun zw zc => hello_ok (zx17 3) (kn 3) (zc18 3) (kf 3) 1 (⟨(0 : Int), false, (fun _ => 0)⟩ : Sd.Door) (by omega) (by omega) (by first | omega | (dsimp only; omega)) _ ((St.quiet zS84 zc).at_ 16 _ rfl) (row8.keyAt zh24 (by omega) ((St.quiet zS84 zc).re (R := ([] : List Blk)) [[(β zb74 #[ι 1, ι 0, ι 1, ι 0, ι 0, ι 0, ι 0, φ, ι 0, ι 0, ι 0, ι 0] 201)], [(β zb67 #[ι 1, ι 0, ι 3, .func (.func 179) #[] #[π zb53 0], .func (.func 180) #[] #[π zb53 0]] 190)], [(β zb59 #[ι 1, ι 0, ι 3, .func (.func 179) #[] #[π zb53 0], .func (.func 180) #[] #[π zb53 0]] 190)], [(β zb56 #[ι 1, ι 0, ι 3, .func (.func 179) #[] #[π zb53 0], .func (.func 180) #[] #[π zb53 0]] 190)], [(β zb53 #[π zb45 2] 194)], [(β zb45 #[ι 1, ι 0, ι 1, ι 0, ι 0, ι 0, ι 0, φ, ι 0, ι 0, ι 0, ι 0] 201)], [(β zb42 #[ι 1, ι 0, ι 1, ι 0, ι 0, ι 0, ι 0, φ, ι 0, ι 0, ι 0, ι 0] 201)], [(β zb39 #[ι 0, σ zb25 0 2 2] 62)], [(β zb34 #[π zb14 0, .slice none 0 0, .slice none 0 0] 127)], [(β zb31 #[ι 0, ι 0, ι 0, ι 0, ι 0, ι 0, ι 0, ι 0, ι 0, ι 0, ι 0, ι 0, .slice none 0 0, .slice none 0 0, υ 0, υ 0, υ 0, υ 0, υ 0, υ 0, υ 0, υ 0, υ 0, υ 0, υ 0, υ 0, υ 0, υ 0, υ 0, υ 0, υ 0, υ 0, υ 0, υ 0, υ 0, υ 0, υ 0, υ 0, υ 0, υ 0, υ 0, υ 0, υ 0, υ 0, υ 0, υ 0] 54)], [(β zb28 #[ι 0, σ zb25 0 2 2] 62)], [(β zb25 #[υ 1, υ 1] 5)], [(β zb14 (coreV p zx17 kn zc18 (⟨4, (p.i 55), (-1), (⟨0, 0⟩ : Sd.Timer), (⟨0, 0⟩ : Sd.Timer), false⟩ : Sd.Tok) zb15 (f3 (⟨(0 : Int), false, (fun _ => 0)⟩ : Sd.Door) (⟨(0 : Int), false, (fun _ => 0)⟩ : Sd.Door) (⟨(0 : Int), false, (fun _ => 0)⟩ : Sd.Door)) zb16 (0 : Int) (0 : Int) (p.i 39) (⟨2, 4, 0⟩ : Sd.Label) (⟨1, (⟨0, 0, 0, 0⟩ : Sd.X4), (⟨0, 0, 0, 0⟩ : Sd.X4), (⟨2, 4, 0⟩ : Sd.Label)⟩ : Sd.Point) (fun _ => 0)) 101)], [(β zb15 #[.slice none 0 0, ι (p.i 48), .int .u64 0] 153)], [(β zb16 (tabV (false, (⟨(0 : Int), (0 : Int)⟩ : Sd.Timer)) (f3 (⟨false, ⟨(0 : Int), (0 : Int)⟩, (0 : Int), (fun _ => 0), ⟨false, (0 : Int), (0 : Int)⟩⟩ : Sd.Session) (⟨false, ⟨(0 : Int), (0 : Int)⟩, (0 : Int), (fun _ => 0), ⟨false, (0 : Int), (0 : Int)⟩⟩ : Sd.Session) (⟨false, ⟨(0 : Int), (0 : Int)⟩, (0 : Int), (fun _ => 0), ⟨false, (0 : Int), (0 : Int)⟩⟩ : Sd.Session)) (p.i 42) (p.i 49)) 162)], [(β zb5 (polP p ka kn kc) 28)], [⟨(0), false, .cells (rowF .u32 64 rootF) tG (0, 0)⟩], (zq19 0), (zq19 1), (zq19 2), (zq19 3)] [20, 0, 1, 2, 3, 4, 5, 6, 7, 8, 9, 10, 11, 12, 13, 14, 15, 16, 17, 18, 19] : St [] zw1 ((zq19 3) ++ ([(β zb74 #[ι 1, ι 0, ι 1, ι 0, ι 0, ι 0, ι 0, φ, ι 0, ι 0, ι 0, ι 0] 201), (β zb67 #[ι 1, ι 0, ι 3, .func (.func 179) #[] #[π zb53 0], .func (.func 180) #[] #[π zb53 0]] 190), (β zb59 #[ι 1, ι 0, ι 3, .func (.func 179) #[] #[π zb53 0], .func (.func 180) #[] #[π zb53 0]] 190), (β zb56 #[ι 1, ι 0, ι 3, .func (.func 179) #[] #[π zb53 0], .func (.func 180) #[] #[π zb53 0]] 190), (β zb53 #[π zb45 2] 194), (β zb45 #[ι 1, ι 0, ι 1, ι 0, ι 0, ι 0, ι 0, φ, ι 0, ι 0, ι 0, ι 0] 201), (β zb42 #[ι 1, ι 0, ι 1, ι 0, ι 0, ι 0, ι 0, φ, ι 0, ι 0, ι 0, ι 0] 201), (β zb39 #[ι 0, σ zb25 0 2 2] 62), (β zb34 #[π zb14 0, .slice none 0 0, .slice none 0 0] 127), (β zb31 #[ι 0, ι 0, ι 0, ι 0, ι 0, ι 0, ι 0, ι 0, ι 0, ι 0, ι 0, ι 0, .slice none 0 0, .slice none 0 0, υ 0, υ 0, υ 0, υ 0, υ 0, υ 0, υ 0, υ 0, υ 0, υ 0, υ 0, υ 0, υ 0, υ 0, υ 0, υ 0, υ 0, υ 0, υ 0, υ 0, υ 0, υ 0, υ 0, υ 0, υ 0, υ 0, υ 0, υ 0, υ 0, υ 0, υ 0, υ 0] 54), (β zb28 #[ι 0, σ zb25 0 2 2] 62), (β zb25 #[υ 1, υ 1] 5), (β zb14 (coreV p zx17 kn zc18 (⟨4, (p.i 55), (-1), (⟨0, 0⟩ : Sd.Timer), (⟨0, 0⟩ : Sd.Timer), false⟩ : Sd.Tok) zb15 (f3 (⟨(0 : Int), false, (fun _ => 0)⟩ : Sd.Door) (⟨(0 : Int), false, (fun _ => 0)⟩ : Sd.Door) (⟨(0 : Int), false, (fun _ => 0)⟩ : Sd.Door)) zb16 (0 : Int) (0 : Int) (p.i 39) (⟨2, 4, 0⟩ : Sd.Label) (⟨1, (⟨0, 0, 0, 0⟩ : Sd.X4), (⟨0, 0, 0, 0⟩ : Sd.X4), (⟨2, 4, 0⟩ : Sd.Label)⟩ : Sd.Point) (fun _ => 0)) 101), (β zb15 #[.slice none 0 0, ι (p.i 48), .int .u64 0] 153), (β zb16 (tabV (false, (⟨(0 : Int), (0 : Int)⟩ : Sd.Timer)) (f3 (⟨false, ⟨(0 : Int), (0 : Int)⟩, (0 : Int), (fun _ => 0), ⟨false, (0 : Int), (0 : Int)⟩⟩ : Sd.Session) (⟨false, ⟨(0 : Int), (0 : Int)⟩, (0 : Int), (fun _ => 0), ⟨false, (0 : Int), (0 : Int)⟩⟩ : Sd.Session) (⟨false, ⟨(0 : Int), (0 : Int)⟩, (0 : Int), (fun _ => 0), ⟨false, (0 : Int), (0 : Int)⟩⟩ : Sd.Session)) (p.i 42) (p.i 49)) 162), (β zb5 (polP p ka kn kc) 28), ⟨(0), false, .cells (rowF .u32 64 rootF) tG (0, 0)⟩] ++ ((zq19 0) ++ ((zq19 1) ++ ((zq19 2) ++ ([] : List Blk)))))) zw))))) (gstep_cons (gq0_ eP_) (gstep_cons (gq0_ eP_) (gstep_cons (gq0_ eP_) (gstep_cons (gn0_ #[ι 0, φ, υ 0, υ 0, υ 0, υ 0, υ 0, υ 0, υ 0, υ 0] #[ι (0 + 1), τ, υ ((nonceF (kn 3) (kf 3) 1 (0 + 1)) 0), υ ((nonceF (kn 3) (kf 3) 1 (0 + 1)) 1), υ ((nonceF (kn 3) (kf 3) 1 (0 + 1)) 2), υ ((nonceF (kn 3) (kf 3) 1 (0 + 1)) 3), υ ((nonceF (kn 3) (kf 3) 1 (0 + 1)) 4), υ ((nonceF (kn 3) (kf 3) 1 (0 + 1)) 5), υ ((nonceF (kn 3) (kf 3) 1 (0 + 1)) 6), υ ((nonceF (kn 3) (kf 3) 1 (0 + 1)) 7)] 98) (gstep_cons (gs0_ 23 8 55 21 (.agg #[ι (0 + 1), τ, υ ((nonceF (kn 3) (kf 3) 1 (0 + 1)) 0), υ ((nonceF (kn 3) (kf 3) 1 (0 + 1)) 1), υ ((nonceF (kn 3) (kf 3) 1 (0 + 1)) 2), υ ((nonceF (kn 3) (kf 3) 1 (0 + 1)) 3), υ ((nonceF (kn 3) (kf 3) 1 (0 + 1)) 4), υ ((nonceF (kn 3) (kf 3) 1 (0 + 1)) 5), υ ((nonceF (kn 3) (kf 3) 1 (0 + 1)) 6), υ ((nonceF (kn 3) (kf 3) 1 (0 + 1)) 7)]) #[ι 0, φ, υ 0, υ 0, υ 0, υ 0, υ 0, υ 0, υ 0, υ 0] #[ι (0 + 1), τ, υ ((nonceF (kn 3) (kf 3) 1 (0 + 1)) 0), υ ((nonceF (kn 3) (kf 3) 1 (0 + 1)) 1), υ ((nonceF (kn 3) (kf 3) 1 (0 + 1)) 2), υ ((nonceF (kn 3) (kf 3) 1 (0 + 1)) 3), υ ((nonceF (kn 3) (kf 3) 1 (0 + 1)) 4), υ ((nonceF (kn 3) (kf 3) 1 (0 + 1)) 5), υ ((nonceF (kn 3) (kf 3) 1 (0 + 1)) 6), υ ((nonceF (kn 3) (kf 3) 1 (0 + 1)) 7)] 98) (gstep_nil)))))))))))))))))))))))))) ?_
 intro zi85 zw86 zS87
 refine pure_ (ι 0) (nil_ (then_n (seq_ (seq_ (reg_ (pure_ (ι 0) (pure_ (φ) (nil_ (then_n (cond_F (wp_skip (then_n (seq_ ?_)))))))))))))
 refine quietL_ 9 [π zb34 0, π zb34 0, π zb34 0, π zb14 0, ι 1, ι 0, .agg #[ι (0 + 1), τ, υ ((nonceF (kn 3) (kf 3) 1 (0 + 1)) 0), υ ((nonceF (kn 3) (kf 3) 1 (0 + 1)) 1), υ ((nonceF (kn 3) (kf 3) 1 (0 + 1)) 2), υ ((nonceF (kn 3) (kf 3) 1 (0 + 1)) 3), υ ((nonceF (kn 3) (kf 3) 1 (0 + 1)) 4), υ ((nonceF (kn 3) (kf 3) 1 (0 + 1)) 5), υ ((nonceF (kn 3) (kf 3) 1 (0 + 1)) 6), υ ((nonceF (kn 3) (kf 3) 1 (0 + 1)) 7)], π zb14 0, π zb14 65] [[9, 0], [9, 1], [9, 2], [9, 3], [9, 4], [9, 5], [9, 6], [9, 8, 7], [9, 8], [10, 0], [10, 1], [10, 2], [10, 3], [10, 4], [10, 5], [10, 6], [10, 9, 8, 7], [10, 9, 8], [10, 9]] (step_cons qP_ (step_cons qP_ (step_cons qP_ (step_cons (qL_ zS87 9 zb34 0) (step_cons qP_ (step_cons qP_ (step_cons (qN_ zS87 0 (zi85<|23) 0 10 #[ι (0 + 1), τ, υ ((nonceF (kn 3) (kf 3) 1 (0 + 1)) 0), υ ((nonceF (kn 3) (kf 3) 1 (0 + 1)) 1), υ ((nonceF (kn 3) (kf 3) 1 (0 + 1)) 2), υ ((nonceF (kn 3) (kf 3) 1 (0 + 1)) 3), υ ((nonceF (kn 3) (kf 3) 1 (0 + 1)) 4), υ ((nonceF (kn 3) (kf 3) 1 (0 + 1)) 5), υ ((nonceF (kn 3) (kf 3) 1 (0 + 1)) 6), υ ((nonceF (kn 3) (kf 3) 1 (0 + 1)) 7)]) (step_cons qP_ (step_cons qP_ (step_nil)))))))))) ?_
 intro zw89 zh91
 have zS90 := zS87.quiet zh91
 refine pure_ (π zb14 65) ?_
 refine store_ zS90 13 (.agg #[ι (0 + 1), τ, υ ((nonceF (kn 3) (kf 3) 1 (0 + 1)) 0), υ ((nonceF (kn 3) (kf 3) 1 (0 + 1)) 1), υ ((nonceF (kn 3) (kf 3) 1 (0 + 1)) 2), υ ((nonceF (kn 3) (kf 3) 1 (0 + 1)) 3), υ ((nonceF (kn 3) (kf 3) 1 (0 + 1)) 4), υ ((nonceF (kn 3) (kf 3) 1 (0 + 1)) 5), υ ((nonceF (kn 3) (kf 3) 1 (0 + 1)) 6), υ ((nonceF (kn 3) (kf 3) 1 (0 + 1)) 7)]) zb14 65 ?_
 intro zw92 zS93
 refine nsr_ (move_ (pure_ (ι 1) (pure_ (π (zi85<|23) 2) (loadN_ zS93 0 8 (rowF .u8 8 (nonceF (kn 3) (kf 3) 1 (0 + 1))) (zi85<|23) 2 (pure_ (.agg #[ι 129, ι 0, ι 0, ι 0, ι 0, ι 0, υ ((nonceF (kn 3) (kf 3) 1 (0 + 1)) 0), υ ((nonceF (kn 3) (kf 3) 1 (0 + 1)) 1), υ ((nonceF (kn 3) (kf 3) 1 (0 + 1)) 2), υ ((nonceF (kn 3) (kf 3) 1 (0 + 1)) 3), υ ((nonceF (kn 3) (kf 3) 1 (0 + 1)) 4), υ ((nonceF (kn 3) (kf 3) 1 (0 + 1)) 5), υ ((nonceF (kn 3) (kf 3) 1 (0 + 1)) 6), υ ((nonceF (kn 3) (kf 3) 1 (0 + 1)) 7)]) ?_)))))
 refine call_ 150 #[π zb34 0, ι 1, .agg #[ι 129, ι 0, ι 0, ι 0, ι 0, ι 0, υ ((nonceF (kn 3) (kf 3) 1 (0 + 1)) 0), υ ((nonceF (kn 3) (kf 3) 1 (0 + 1)) 1), υ ((nonceF (kn 3) (kf 3) 1 (0 + 1)) 2), υ ((nonceF (kn 3) (kf 3) 1 (0 + 1)) 3), υ ((nonceF (kn 3) (kf 3) 1 (0 + 1)) 4), υ ((nonceF (kn 3) (kf 3) 1 (0 + 1)) 5), υ ((nonceF (kn 3) (kf 3) 1 (0 + 1)) 6), υ ((nonceF (kn 3) (kf 3) 1 (0 + 1)) 7)]] (enter_ Tryz.func150 rfl (seq_ (reg_ ?_)))
 refine new_ zS93 (fun b => π b 0) (.cells #[ι 129, ι 0, ι 0, ι 0, ι 0, ι 0, υ ((nonceF (kn 3) (kf 3) 1 (0 + 1)) 0), υ ((nonceF (kn 3) (kf 3) 1 (0 + 1)) 1), υ ((nonceF (kn 3) (kf 3) 1 (0 + 1)) 2), υ ((nonceF (kn 3) (kf 3) 1 (0 + 1)) 3), υ ((nonceF (kn 3) (kf 3) 1 (0 + 1)) 4), υ ((nonceF (kn 3) (kf 3) 1 (0 + 1)) 5), υ ((nonceF (kn 3) (kf 3) 1 (0 + 1)) 6), υ ((nonceF (kn 3) (kf 3) 1 (0 + 1)) 7)] 80) ?_
 intro zb94 zw95 zS96
 refine nsr_ (loadN_ zS96 0 14 #[ι 129, ι 0, ι 0, ι 0, ι 0, ι 0, υ ((nonceF (kn 3) (kf 3) 1 (0 + 1)) 0), υ ((nonceF (kn 3) (kf 3) 1 (0 + 1)) 1), υ ((nonceF (kn 3) (kf 3) 1 (0 + 1)) 2), υ ((nonceF (kn 3) (kf 3) 1 (0 + 1)) 3), υ ((nonceF (kn 3) (kf 3) 1 (0 + 1)) 4), υ ((nonceF (kn 3) (kf 3) 1 (0 + 1)) 5), υ ((nonceF (kn 3) (kf 3) 1 (0 + 1)) 6), υ ((nonceF (kn 3) (kf 3) 1 (0 + 1)) 7)] zb94 0 (call_ 185 #[.agg #[ι 129, ι 0, ι 0, ι 0, ι 0, ι 0, υ ((nonceF (kn 3) (kf 3) 1 (0 + 1)) 0), υ ((nonceF (kn 3) (kf 3) 1 (0 + 1)) 1), υ ((nonceF (kn 3) (kf 3) 1 (0 + 1)) 2), υ ((nonceF (kn 3) (kf 3) 1 (0 + 1)) 3), υ ((nonceF (kn 3) (kf 3) 1 (0 + 1)) 4), υ ((nonceF (kn 3) (kf 3) 1 (0 + 1)) 5), υ ((nonceF (kn 3) (kf 3) 1 (0 + 1)) 6), υ ((nonceF (kn 3) (kf 3) 1 (0 + 1)) 7)]] ?_))
 refine (preply_129 (nonceF (kn 3) (kf 3) 1 (0 + 1)) (nonceF_by _ _ _ _) _).mono ?_; rintro _ zw97 ⟨zb100, zc101, rfl, zh102, zh103, zh104, zh98⟩
 have zS99 := zS96.new zh98 zh103 zh104
 refine move_ (pure_ (σ zb100 0 9 zc101) (pure_ (ι 0) (assign_ (pure_ (ι 0) (nsr_ (move_ (call_ 186 #[σ zb100 0 9 zc101] ?_)))))))
 refine (fput_9 zb100 0 zc101 (rpF129 (nonceF (kn 3) (kf 3) 1 (0 + 1))) _ (St.all8 (c := zc101) (wr := true) (t := 5) (fr := (0, 0)) zS99 0)).mono ?_; rintro _ zw105 ⟨zb108, zc109, rfl, zh110, zh111, zh112, zh106⟩
 have zS107 := zS99.new zh106 zh111 zh112
 refine move_ (pure_ (σ zb108 0 14 zc109) (pure_ (ι 0) (assign_ (pure_ (ι 0) (ns_ (move_ (move_ (pure_ (π zb34 0) (pure_ (π zb34 1) (load1_ zS107 12 (.slice none 0 0) zb34 1 (pure_ (ι 1) (move_ (pure_ (.agg #[ι 1, σ zb108 0 14 zc109]) ?_)))))))))))))
 refine new_ zS107 (fun b => σ b 0 1 1) (.cells #[ι 1, σ zb108 0 14 zc109] 74) ?_
 intro zb113 zw114 zS115
 refine appendZ_ (T := 74) (xv := σ zb113 0 1 1) zS115 (srcK zS115 0 1 2 [ι 1, σ zb108 0 14 zc109] (tx := 50) (e' := 74) (by kernel_rfl) (by kernel_rfl) (by kernel_rfl) (by rfl)) 32 rfl (by decide) (by decide) (by unfold maxLen; omega) ?_ none
 intro zb116 zc117 zt118 zw119 zh121 zh122 zS120
 refine pure_ (π zb34 0) (pure_ (π zb34 1) ?_)
 refine store_ zS120 14 (σ zb116 0 1 zc117) zb34 1 ?_
 intro zw123 zS124
 refine nil_ (end_ rfl (res_ [] [] (.tuple #[]) trivial) (ns_ (move_ (pure_ (ι 1) (call_ 84 #[π zb34 0, ι 2, ι 1, ι 0, ι 0, ι 0] (enter_ Tryz.func84 rfl (seq_ (reg_ (pure_ (ι 2) (pure_ (ι 1) (pure_ (ι 0) (move_ (pure_ (π zb34 0) (pure_ (π zb34 0) (load1_ zS124 14 (π zb14 0) zb34 0 (pure_ (π zb14 0) (pure_ (π zb14 56) (pure_ (π zb14 57) (load1_ zS124 18 (ι (p.i 55)) zb14 57 (pure_ (ι 0) (pure_ (ι 0) (pure_ (.agg #[ι 2, ι 1, ι 0, ι (p.i 55), ι 0, ι 0]) ?_))))))))))))))))))))))
 refine new_ zS124 (fun b => π b 0) (.cells #[ι 0, ι 0, ι 0, ι 0, ι 0, ι 0] 71) ?_
 intro zb125 zw126 zS127
 refine store_ zS127 0 (.agg #[ι 2, ι 1, ι 0, ι (p.i 55), ι 0, ι 0]) zb125 0 ?_
 intro zw128 zS129
 refine nil_ (then_n (seq_ ?_))
 refine appLZ_ (z := 6) (T := 71) (T' := 71) zS129 8 7 6 1 [ι 2, ι 1, ι 0, ι (p.i 55), ι 0, ι 0] [] [π zb34 0, π zb34 0, π zb34 0, π zb34 2, .slice none 0 0, .agg #[ι 2, ι 1, ι 0, ι (p.i 55), ι 0, ι 0], undef, undef] [[8, 0], [8, 1], [8, 2], [8, 3], [8, 4], [8, 5], [8, 6], [8, 7], [9, 0], [9, 1], [9, 2], [9, 3], [9, 4], [9, 5], [9, 6], [9, 7], [9, 8], [10, 0], [10, 1], [10, 2], [10, 3], [10, 4], [10, 5], [10, 6], [10, 7], [10, 9, 8], [10, 9]] (fun zS zr zD => estep_cons eP_ (estep_cons eP_ (estep_cons eP_ (estep_cons eP_ (estep_cons (eL_ zD 15 zb34 2) (estep_cons (eN_ zD 0 zb125 0 6 #[ι 2, ι 1, ι 0, ι (p.i 55), ι 0, ι 0]) (estep_cons (eB_ 1 [ι 2, ι 1, ι 0, ι (p.i 55), ι 0, ι 0] 71) (estep_cons (eA_ zS zr 31 33 6 1 [ι 2, ι 1, ι 0, ι (p.i 55), ι 0, ι 0] 48 (by decide) (by unfold maxLen; omega) (e' := 71)) (estep_nil))))))))) ?_
 intro zb130 zc131 zt132 zu133 zw134 zh135 zh136 zS137
 refine pure_ (π zb34 0) (pure_ (π zb34 2) ?_)
 refine store_ zS137 16 (σ zb130 0 1 zc131) zb34 2 ?_
 intro zw138 zS139
 refine nil_ (then_n ?_)
 refine drawnL_ 13 [⟨0, fun _ => π zb34 0, fun _ => []⟩, ⟨0, fun _ => π zb34 0, fun _ => []⟩, ⟨0, fun _ => π zb34 0, fun _ => []⟩, ⟨0, fun _ => π zb14 0, fun _ => []⟩, ⟨0, fun _ => π zb34 0, fun _ => []⟩, ⟨0, fun _ => π zb34 0, fun _ => []⟩, ⟨0, fun _ => π zb34 0, fun _ => []⟩, ⟨0, fun _ => π zb14 0, fun _ => []⟩, ⟨0, fun _ => π zb14 0, fun _ => []⟩, ⟨0, fun _ => π zb14 114, fun _ => []⟩, ⟨0, fun _ => .agg (rowF .u8 32 (fun _ => 0)), fun _ => []⟩, ⟨0, fun _ => .agg #[ι 2, ι 1, ι 0, ι (p.i 55), ι 0, ι 0], fun _ => []⟩, ⟨0, fun _ => .agg (rowF .u8 32 (nextF (fun _ => 0) (⟨2, 1, 0, (p.i 55), 0, 0⟩ : Sd.Rec))), fun _ => []⟩] [[13, 0], [13, 1], [13, 2], [13, 3], [13, 4], [13, 5], [13, 6], [13, 7], [13, 8], [13, 9], [13, 10], [13, 11], [13, 12], [14, 0], [14, 1], [14, 2], [14, 3], [14, 4], [14, 5], [14, 6], [14, 7], [14, 8], [14, 9], [14, 10], [14, 11], [14, 12], [14, 13], [15, 0], [15, 1], [15, 2], [15, 3], [15, 4], [15, 5], [15, 6], [15, 7], [15, 8], [15, 9], [15, 10], [15, 11], [15, 12], [15, 14, 13], [15, 14]] ?_ ?_
 · refine step_cons ?_ ?_
   · intro zy140 zw141 zhc142 zhf143 zhp144
     have zh145 : zy140 0 = π zb34 0 := (zhf143 0 (by kernel_rfl)).trans (by kernel_rfl)
     have zS146 := zS139.quiet zhc142
     refine step1 ?_
     refine yenv [(0, π zb34 0)] (ag_cons zh145 (ag_nil)) ?_
     have zS147 := zS146.loc
     refine Y.move_ ?_
     exact ⟨zS147.ch, Sp.mk_holds [] (all_nil)⟩
   refine step_cons ?_ ?_
   · intro zy148 zw149 zhc150 zhf151 zhp152
     have zh153 : zy148 37 = π zb34 0 := (Sp.out0 (zhp152 0 37 (by kernel_rfl) (by kernel_rfl))).1
     have zS154 := zS139.quiet zhc150
     refine step1 ?_
     refine yenv [(37, π zb34 0)] (ag_cons zh153 (ag_nil)) ?_
     have zS155 := zS154.loc
     refine Y.pure_ (π zb34 0) ?_
     exact ⟨zS155.ch, Sp.mk_holds [] (all_nil)⟩
   refine step_cons ?_ ?_
   · intro zy156 zw157 zhc158 zhf159 zhp160
     have zh161 : zy156 38 = π zb34 0 := (Sp.out0 (zhp160 1 38 (by kernel_rfl) (by kernel_rfl))).1
     have zS162 := zS139.quiet zhc158
     refine step1 ?_
     refine yenv [(38, π zb34 0)] (ag_cons zh161 (ag_nil)) ?_
     have zS163 := zS162.loc
     refine Y.pure_ (π zb34 0) ?_
     exact ⟨zS163.ch, Sp.mk_holds [] (all_nil)⟩
   refine step_cons ?_ ?_
   · intro zy164 zw165 zhc166 zhf167 zhp168
     have zh169 : zy164 39 = π zb34 0 := (Sp.out0 (zhp168 2 39 (by kernel_rfl) (by kernel_rfl))).1
     have zS170 := zS139.quiet zhc166
     refine step1 ?_
     refine yenv [(39, π zb34 0)] (ag_cons zh169 (ag_nil)) ?_
     have zS171 := zS170.loc
     refine Y.load1_ zS171 16 (π zb14 0) zb34 0 ?_
     exact ⟨zS171.ch, Sp.mk_holds [] (all_nil)⟩
   refine step_cons ?_ ?_
   · intro zy172 zw173 zhc174 zhf175 zhp176
     have zh177 : zy172 0 = π zb34 0 := (zhf175 0 (by kernel_rfl)).trans (by kernel_rfl)
     have zS178 := zS139.quiet zhc174
     refine step1 ?_
     refine yenv [(0, π zb34 0)] (ag_cons zh177 (ag_nil)) ?_
     have zS179 := zS178.loc
     refine Y.move_ ?_
     exact ⟨zS179.ch, Sp.mk_holds [] (all_nil)⟩
   refine step_cons ?_ ?_
   · intro zy180 zw181 zhc182 zhf183 zhp184
     have zh185 : zy180 41 = π zb34 0 := (Sp.out0 (zhp184 4 41 (by kernel_rfl) (by kernel_rfl))).1
     have zS186 := zS139.quiet zhc182
     refine step1 ?_
     refine yenv [(41, π zb34 0)] (ag_cons zh185 (ag_nil)) ?_
     have zS187 := zS186.loc
     refine Y.pure_ (π zb34 0) ?_
     exact ⟨zS187.ch, Sp.mk_holds [] (all_nil)⟩
   refine step_cons ?_ ?_
   · intro zy188 zw189 zhc190 zhf191 zhp192
     have zh193 : zy188 42 = π zb34 0 := (Sp.out0 (zhp192 5 42 (by kernel_rfl) (by kernel_rfl))).1
     have zS194 := zS139.quiet zhc190
     refine step1 ?_
     refine yenv [(42, π zb34 0)] (ag_cons zh193 (ag_nil)) ?_
     have zS195 := zS194.loc
     refine Y.pure_ (π zb34 0) ?_
     exact ⟨zS195.ch, Sp.mk_holds [] (all_nil)⟩
   refine step_cons ?_ ?_
   · intro zy196 zw197 zhc198 zhf199 zhp200
     have zh201 : zy196 43 = π zb34 0 := (Sp.out0 (zhp200 6 43 (by kernel_rfl) (by kernel_rfl))).1
     have zS202 := zS139.quiet zhc198
     refine step1 ?_
     refine yenv [(43, π zb34 0)] (ag_cons zh201 (ag_nil)) ?_
     have zS203 := zS202.loc
     refine Y.load1_ zS203 16 (π zb14 0) zb34 0 ?_
     exact ⟨zS203.ch, Sp.mk_holds [] (all_nil)⟩
   refine step_cons ?_ ?_
   · intro zy204 zw205 zhc206 zhf207 zhp208
     have zh209 : zy204 44 = π zb14 0 := (Sp.out0 (zhp208 7 44 (by kernel_rfl) (by kernel_rfl))).1
     have zS210 := zS139.quiet zhc206
     refine step1 ?_
     refine yenv [(44, π zb14 0)] (ag_cons zh209 (ag_nil)) ?_
     have zS211 := zS210.loc
     refine Y.pure_ (π zb14 0) ?_
     exact ⟨zS211.ch, Sp.mk_holds [] (all_nil)⟩
   refine step_cons ?_ ?_
   · intro zy212 zw213 zhc214 zhf215 zhp216
     have zh217 : zy212 45 = π zb14 0 := (Sp.out0 (zhp216 8 45 (by kernel_rfl) (by kernel_rfl))).1
     have zS218 := zS139.quiet zhc214
     refine step1 ?_
     refine yenv [(45, π zb14 0)] (ag_cons zh217 (ag_nil)) ?_
     have zS219 := zS218.loc
     refine Y.pure_ (π zb14 114) ?_
     exact ⟨zS219.ch, Sp.mk_holds [] (all_nil)⟩
   refine step_cons ?_ ?_
   · intro zy220 zw221 zhc222 zhf223 zhp224
     have zh225 : zy220 46 = π zb14 114 := (Sp.out0 (zhp224 9 46 (by kernel_rfl) (by kernel_rfl))).1
     have zS226 := zS139.quiet zhc222
     refine step1 ?_
     refine yenv [(46, π zb14 114)] (ag_cons zh225 (ag_nil)) ?_
     have zS227 := zS226.loc
     refine Y.loadN_ zS227 20 32 (rowF .u8 32 (fun _ => 0)) zb14 114 ?_
     exact ⟨zS227.ch, Sp.mk_holds [] (all_nil)⟩
   refine step_cons ?_ ?_
   · intro zy228 zw229 zhc230 zhf231 zhp232
     have zh233 : zy228 12 = π zb125 0 := (zhf231 12 (by kernel_rfl)).trans (by kernel_rfl)
     have zS234 := zS139.quiet zhc230
     refine step1 ?_
     refine yenv [(12, π zb125 0)] (ag_cons zh233 (ag_nil)) ?_
     have zS235 := zS234.loc
     refine Y.loadN_ zS235 1 6 #[ι 2, ι 1, ι 0, ι (p.i 55), ι 0, ι 0] zb125 0 ?_
     exact ⟨zS235.ch, Sp.mk_holds [] (all_nil)⟩
   refine step_cons ?_ ?_
   · intro zy236 zw237 zhc238 zhf239 zhp240
     have zh241 : zy236 47 = .agg (rowF .u8 32 (fun _ => 0)) := (Sp.out0 (zhp240 10 47 (by kernel_rfl) (by kernel_rfl))).1
     have zh242 : zy236 48 = .agg #[ι 2, ι 1, ι 0, ι (p.i 55), ι 0, ι 0] := (Sp.out0 (zhp240 11 48 (by kernel_rfl) (by kernel_rfl))).1
     have zS243 := zS139.quiet zhc238
     refine step1 ?_
     refine yenv [(47, .agg (rowF .u8 32 (fun _ => 0))), (48, .agg #[ι 2, ι 1, ι 0, ι (p.i 55), ι 0, ι 0])] (ag_cons zh241 (ag_cons zh242 (ag_nil))) ?_
     have zS244 := zS243.loc
     refine Y.call_ 54 #[.agg (rowF .u8 32 (fun _ => 0)), .agg #[ι 2, ι 1, ι 0, ι (p.i 55), ι 0, ι 0]] ?_
     refine (next_ (fun _ => 0) (⟨2, 1, 0, (p.i 55), 0, 0⟩ : Sd.Rec) _ (zS244.at_ 24 _ rfl)).mono ?_; rintro _ zw245 ⟨rfl, zh246⟩
     have zS247 := zS244.quiet zh246
     exact ⟨zS247.ch, Sp.mk_holds [] (all_nil)⟩
   exact step_nil
 intro zv248 zw249 zhc250 zha251
 have zh252 : zv248 0 = π zb34 0 := (Sp.out0 (zha251 0 (by kernel_rfl))).1
 have zh253 : zv248 1 = π zb34 0 := (Sp.out0 (zha251 1 (by kernel_rfl))).1
 have zh254 : zv248 2 = π zb34 0 := (Sp.out0 (zha251 2 (by kernel_rfl))).1
 have zh255 : zv248 3 = π zb14 0 := (Sp.out0 (zha251 3 (by kernel_rfl))).1
 have zh256 : zv248 4 = π zb34 0 := (Sp.out0 (zha251 4 (by kernel_rfl))).1
 have zh257 : zv248 5 = π zb34 0 := (Sp.out0 (zha251 5 (by kernel_rfl))).1
 have zh258 : zv248 6 = π zb34 0 := (Sp.out0 (zha251 6 (by kernel_rfl))).1
 have zh259 : zv248 7 = π zb14 0 := (Sp.out0 (zha251 7 (by kernel_rfl))).1
 have zh260 : zv248 8 = π zb14 0 := (Sp.out0 (zha251 8 (by kernel_rfl))).1
 have zh261 : zv248 9 = π zb14 114 := (Sp.out0 (zha251 9 (by kernel_rfl))).1
 have zh262 : zv248 10 = .agg (rowF .u8 32 (fun _ => 0)) := (Sp.out0 (zha251 10 (by kernel_rfl))).1
 have zh263 : zv248 11 = .agg #[ι 2, ι 1, ι 0, ι (p.i 55), ι 0, ι 0] := (Sp.out0 (zha251 11 (by kernel_rfl))).1
 have zh264 : zv248 12 = .agg (rowF .u8 32 (nextF (fun _ => 0) (⟨2, 1, 0, (p.i 55), 0, 0⟩ : Sd.Rec))) := (Sp.out0 (zha251 12 (by kernel_rfl))).1
 have zS265 := zS139.quiet zhc250
 refine ⟨[π zb34 0, π zb34 0, π zb34 0, π zb14 0, π zb34 0, π zb34 0, π zb34 0, π zb14 0, π zb14 0, π zb14 114, .agg (rowF .u8 32 (fun _ => 0)), .agg #[ι 2, ι 1, ι 0, ι (p.i 55), ι 0, ι 0], .agg (rowF .u8 32 (nextF (fun _ => 0) (⟨2, 1, 0, (p.i 55), 0, 0⟩ : Sd.Rec)))], by kernel_rfl, va_cons zh252 (va_cons zh253 (va_cons zh254 (va_cons zh255 (va_cons zh256 (va_cons zh257 (va_cons zh258 (va_cons zh259 (va_cons zh260 (va_cons zh261 (va_cons zh262 (va_cons zh263 (va_cons zh264 (va_nil))))))))))))), ?_⟩
 refine pure_ (π zb14 0) (pure_ (π zb14 114) ?_)
 refine store_ zS265 20 (.agg (rowF .u8 32 (nextF (fun _ => 0) (⟨2, 1, 0, (p.i 55), 0, 0⟩ : Sd.Rec)))) zb14 114 ?_
 intro zw266 zS267
 refine nil_ (end_ rfl (res_ [] [] (.tuple #[]) trivial) (nil_ (end_ rfl (res_ [] [] (.tuple #[]) trivial) (nil_ (blk_n (end_ rfl (res_ [] [] (.tuple #[]) trivial) (nsr_ (call_ 46 #[π zb34 0] (enter_ Tryz.func46 rfl (seq_ (reg_ ?_)))))))))))
 refine new_ zS267 (fun b => π b 0) (.cells #[ι 0, ι 0, ι 0, ι 0, ι 0, ι 0, ι 0, ι 0, ι 0, ι 0, ι 0, ι 0, .slice none 0 0, .slice none 0 0, υ 0, υ 0, υ 0, υ 0, υ 0, υ 0, υ 0, υ 0, υ 0, υ 0, υ 0, υ 0, υ 0, υ 0, υ 0, υ 0, υ 0, υ 0, υ 0, υ 0, υ 0, υ 0, υ 0, υ 0, υ 0, υ 0, υ 0, υ 0, υ 0, υ 0, υ 0, υ 0] 54) ?_
 intro zb268 zw269 zS270
 refine nil_ (then_n (seq_ ?_))
 refine quietL_ 54 [π zb34 0, π zb34 0, π zb34 0, π zb14 0, π zb14 0, π zb14 98, ι (p.i 39), π zb34 0, π zb34 0, π zb34 0, π zb14 0, π zb14 0, π zb14 102, π zb14 102, ι 1, π zb34 0, π zb34 0, π zb34 0, π zb14 0, π zb14 0, π zb14 102, π zb14 107, .agg #[ι 0, ι 0, ι 0, ι 0], π zb34 0, π zb34 0, π zb34 0, π zb14 0, π zb14 0, π zb14 99, .agg #[ι 2, ι 4, ι 0], π zb34 0, π zb34 0, π zb34 0, π zb14 0, π zb14 0, π zb14 102, π zb14 111, .agg #[ι 2, ι 4, ι 0], .agg #[ι (p.i 39), ι 1, ι 0, ι 0, ι 0, ι 0, ι 2, ι 4, ι 0, ι 2, ι 4, ι 0], π zb34 0, π zb34 0, π zb34 1, σ zb116 0 1 zc117, π zb34 0, π zb34 0, π zb34 2, σ zb130 0 1 zc131, π zb34 0, π zb34 0, π zb34 0, π zb14 0, π zb14 0, π zb14 114, .agg (rowF .u8 32 (nextF (fun _ => 0) (⟨2, 1, 0, (p.i 55), 0, 0⟩ : Sd.Rec)))] [[54, 38, 6, 5, 4, 3, 2, 1, 0], [54, 38, 6, 5, 4, 3, 2, 1], [54, 38, 6, 5, 4, 3, 2], [54, 38, 6, 5, 4, 3], [54, 38, 6, 5, 4], [54, 38, 6, 5], [54, 38, 6], [54, 38, 14, 13, 12, 11, 10, 9, 8, 7], [54, 38, 14, 13, 12, 11, 10, 9, 8], [54, 38, 14, 13, 12, 11, 10, 9], [54, 38, 14, 13, 12, 11, 10], [54, 38, 14, 13, 12, 11], [54, 38, 14, 13, 12], [54, 38, 14, 13], [54, 38, 14], [54, 38, 22, 21, 20, 19, 18, 17, 16, 15], [54, 38, 22, 21, 20, 19, 18, 17, 16], [54, 38, 22, 21, 20, 19, 18, 17], [54, 38, 22, 21, 20, 19, 18], [54, 38, 22, 21, 20, 19], [54, 38, 22, 21, 20], [54, 38, 22, 21], [54, 38, 22], [54, 38, 29, 28, 27, 26, 25, 24, 23], [54, 38, 29, 28, 27, 26, 25, 24], [54, 38, 29, 28, 27, 26, 25], [54, 38, 29, 28, 27, 26], [54, 38, 29, 28, 27], [54, 38, 29, 28], [54, 38, 29], [54, 38, 37, 36, 35, 34, 33, 32, 31, 30], [54, 38, 37, 36, 35, 34, 33, 32, 31], [54, 38, 37, 36, 35, 34, 33, 32], [54, 38, 37, 36, 35, 34, 33], [54, 38, 37, 36, 35, 34], [54, 38, 37, 36, 35], [54, 38, 37, 36], [54, 38, 37], [54, 38], [54, 42, 41, 40, 39], [54, 42, 41, 40], [54, 42, 41], [54, 42], [54, 46, 45, 44, 43], [54, 46, 45, 44], [54, 46, 45], [54, 46], [54, 53, 52, 51, 50, 49, 48, 47], [54, 53, 52, 51, 50, 49, 48], [54, 53, 52, 51, 50, 49], [54, 53, 52, 51, 50], [54, 53, 52, 51], [54, 53, 52], [54, 53], [55, 0], [55, 1], [55, 2], [55, 3], [55, 4], [55, 5], [55, 6], [55, 7], [55, 8], [55, 9], [55, 10], [55, 11], [55, 12], [55, 13], [55, 14], [55, 15], [55, 16], [55, 17], [55, 18], [55, 19], [55, 20], [55, 21], [55, 22], [55, 23], [55, 24], [55, 25], [55, 26], [55, 27], [55, 28], [55, 29], [55, 30], [55, 31], [55, 32], [55, 33], [55, 34], [55, 35], [55, 36], [55, 37], [55, 38], [55, 39], [55, 40], [55, 41], [55, 42], [55, 43], [55, 44], [55, 45], [55, 46], [55, 47], [55, 48], [55, 49], [55, 50], [55, 51], [55, 52], [55, 53], [55, 54]] (step_cons qP_ (step_cons qP_ (step_cons qP_ (step_cons (qL_ zS270 17 zb34 0) (step_cons qP_ (step_cons qP_ (step_cons (qL_ zS270 21 zb14 98) (step_cons qP_ (step_cons qP_ (step_cons qP_ (step_cons (qL_ zS270 17 zb34 0) (step_cons qP_ (step_cons qP_ (step_cons qP_ (step_cons (qL_ zS270 21 zb14 102) (step_cons qP_ (step_cons qP_ (step_cons qP_ (step_cons (qL_ zS270 17 zb34 0) (step_cons qP_ (step_cons qP_ (step_cons qP_ (step_cons (qN_ zS270 21 zb14 107 4 #[ι 0, ι 0, ι 0, ι 0]) (step_cons qP_ (step_cons qP_ (step_cons qP_ (step_cons (qL_ zS270 17 zb34 0) (step_cons qP_ (step_cons qP_ (step_cons (qN_ zS270 21 zb14 99 3 #[ι 2, ι 4, ι 0]) (step_cons qP_ (step_cons qP_ (step_cons qP_ (step_cons (qL_ zS270 17 zb34 0) (step_cons qP_ (step_cons qP_ (step_cons qP_ (step_cons (qN_ zS270 21 zb14 111 3 #[ι 2, ι 4, ι 0]) (step_cons qP_ (step_cons qP_ (step_cons qP_ (step_cons qP_ (step_cons (qL_ zS270 17 zb34 1) (step_cons qP_ (step_cons qP_ (step_cons qP_ (step_cons (qL_ zS270 17 zb34 2) (step_cons qP_ (step_cons qP_ (step_cons qP_ (step_cons (qL_ zS270 17 zb34 0) (step_cons qP_ (step_cons qP_ (step_cons (qN_ zS270 21 zb14 114 32 (rowF .u8 32 (nextF (fun _ => 0) (⟨2, 1, 0, (p.i 55), 0, 0⟩ : Sd.Rec)))) (step_nil))))))))))))))))))))))))))))))))))))))))))))))))))))))) ?_
 intro zw271 zh273
 have zS272 := zS270.quiet zh273
 refine pure_ (.agg #[ι (p.i 39), ι 1, ι 0, ι 0, ι 0, ι 0, ι 2, ι 4, ι 0, ι 2, ι 4, ι 0, σ zb116 0 1 zc117, σ zb130 0 1 zc131, υ ((nextF (fun _ => 0) (⟨2, 1, 0, (p.i 55), 0, 0⟩ : Sd.Rec)) 0), υ ((nextF (fun _ => 0) (⟨2, 1, 0, (p.i 55), 0, 0⟩ : Sd.Rec)) 1), υ ((nextF (fun _ => 0) (⟨2, 1, 0, (p.i 55), 0, 0⟩ : Sd.Rec)) 2), υ ((nextF (fun _ => 0) (⟨2, 1, 0, (p.i 55), 0, 0⟩ : Sd.Rec)) 3), υ ((nextF (fun _ => 0) (⟨2, 1, 0, (p.i 55), 0, 0⟩ : Sd.Rec)) 4), υ ((nextF (fun _ => 0) (⟨2, 1, 0, (p.i 55), 0, 0⟩ : Sd.Rec)) 5), υ ((nextF (fun _ => 0) (⟨2, 1, 0, (p.i 55), 0, 0⟩ : Sd.Rec)) 6), υ ((nextF (fun _ => 0) (⟨2, 1, 0, (p.i 55), 0, 0⟩ : Sd.Rec)) 7), υ ((nextF (fun _ => 0) (⟨2, 1, 0, (p.i 55), 0, 0⟩ : Sd.Rec)) 8), υ ((nextF (fun _ => 0) (⟨2, 1, 0, (p.i 55), 0, 0⟩ : Sd.Rec)) 9), υ ((nextF (fun _ => 0) (⟨2, 1, 0, (p.i 55), 0, 0⟩ : Sd.Rec)) 10), υ ((nextF (fun _ => 0) (⟨2, 1, 0, (p.i 55), 0, 0⟩ : Sd.Rec)) 11), υ ((nextF (fun _ => 0) (⟨2, 1, 0, (p.i 55), 0, 0⟩ : Sd.Rec)) 12), υ ((nextF (fun _ => 0) (⟨2, 1, 0, (p.i 55), 0, 0⟩ : Sd.Rec)) 13), υ ((nextF (fun _ => 0) (⟨2, 1, 0, (p.i 55), 0, 0⟩ : Sd.Rec)) 14), υ ((nextF (fun _ => 0) (⟨2, 1, 0, (p.i 55), 0, 0⟩ : Sd.Rec)) 15), υ ((nextF (fun _ => 0) (⟨2, 1, 0, (p.i 55), 0, 0⟩ : Sd.Rec)) 16), υ ((nextF (fun _ => 0) (⟨2, 1, 0, (p.i 55), 0, 0⟩ : Sd.Rec)) 17), υ ((nextF (fun _ => 0) (⟨2, 1, 0, (p.i 55), 0, 0⟩ : Sd.Rec)) 18), υ ((nextF (fun _ => 0) (⟨2, 1, 0, (p.i 55), 0, 0⟩ : Sd.Rec)) 19), υ ((nextF (fun _ => 0) (⟨2, 1, 0, (p.i 55), 0, 0⟩ : Sd.Rec)) 20), υ ((nextF (fun _ => 0) (⟨2, 1, 0, (p.i 55), 0, 0⟩ : Sd.Rec)) 21), υ ((nextF (fun _ => 0) (⟨2, 1, 0, (p.i 55), 0, 0⟩ : Sd.Rec)) 22), υ ((nextF (fun _ => 0) (⟨2, 1, 0, (p.i 55), 0, 0⟩ : Sd.Rec)) 23), υ ((nextF (fun _ => 0) (⟨2, 1, 0, (p.i 55), 0, 0⟩ : Sd.Rec)) 24), υ ((nextF (fun _ => 0) (⟨2, 1, 0, (p.i 55), 0, 0⟩ : Sd.Rec)) 25), υ ((nextF (fun _ => 0) (⟨2, 1, 0, (p.i 55), 0, 0⟩ : Sd.Rec)) 26), υ ((nextF (fun _ => 0) (⟨2, 1, 0, (p.i 55), 0, 0⟩ : Sd.Rec)) 27), υ ((nextF (fun _ => 0) (⟨2, 1, 0, (p.i 55), 0, 0⟩ : Sd.Rec)) 28), υ ((nextF (fun _ => 0) (⟨2, 1, 0, (p.i 55), 0, 0⟩ : Sd.Rec)) 29), υ ((nextF (fun _ => 0) (⟨2, 1, 0, (p.i 55), 0, 0⟩ : Sd.Rec)) 30), υ ((nextF (fun _ => 0) (⟨2, 1, 0, (p.i 55), 0, 0⟩ : Sd.Rec)) 31)]) ?_
 refine store_ zS272 0 (.agg #[ι (p.i 39), ι 1, ι 0, ι 0, ι 0, ι 0, ι 2, ι 4, ι 0, ι 2, ι 4, ι 0, σ zb116 0 1 zc117, σ zb130 0 1 zc131, υ ((nextF (fun _ => 0) (⟨2, 1, 0, (p.i 55), 0, 0⟩ : Sd.Rec)) 0), υ ((nextF (fun _ => 0) (⟨2, 1, 0, (p.i 55), 0, 0⟩ : Sd.Rec)) 1), υ ((nextF (fun _ => 0) (⟨2, 1, 0, (p.i 55), 0, 0⟩ : Sd.Rec)) 2), υ ((nextF (fun _ => 0) (⟨2, 1, 0, (p.i 55), 0, 0⟩ : Sd.Rec)) 3), υ ((nextF (fun _ => 0) (⟨2, 1, 0, (p.i 55), 0, 0⟩ : Sd.Rec)) 4), υ ((nextF (fun _ => 0) (⟨2, 1, 0, (p.i 55), 0, 0⟩ : Sd.Rec)) 5), υ ((nextF (fun _ => 0) (⟨2, 1, 0, (p.i 55), 0, 0⟩ : Sd.Rec)) 6), υ ((nextF (fun _ => 0) (⟨2, 1, 0, (p.i 55), 0, 0⟩ : Sd.Rec)) 7), υ ((nextF (fun _ => 0) (⟨2, 1, 0, (p.i 55), 0, 0⟩ : Sd.Rec)) 8), υ ((nextF (fun _ => 0) (⟨2, 1, 0, (p.i 55), 0, 0⟩ : Sd.Rec)) 9), υ ((nextF (fun _ => 0) (⟨2, 1, 0, (p.i 55), 0, 0⟩ : Sd.Rec)) 10), υ ((nextF (fun _ => 0) (⟨2, 1, 0, (p.i 55), 0, 0⟩ : Sd.Rec)) 11), υ ((nextF (fun _ => 0) (⟨2, 1, 0, (p.i 55), 0, 0⟩ : Sd.Rec)) 12), υ ((nextF (fun _ => 0) (⟨2, 1, 0, (p.i 55), 0, 0⟩ : Sd.Rec)) 13), υ ((nextF (fun _ => 0) (⟨2, 1, 0, (p.i 55), 0, 0⟩ : Sd.Rec)) 14), υ ((nextF (fun _ => 0) (⟨2, 1, 0, (p.i 55), 0, 0⟩ : Sd.Rec)) 15), υ ((nextF (fun _ => 0) (⟨2, 1, 0, (p.i 55), 0, 0⟩ : Sd.Rec)) 16), υ ((nextF (fun _ => 0) (⟨2, 1, 0, (p.i 55), 0, 0⟩ : Sd.Rec)) 17), υ ((nextF (fun _ => 0) (⟨2, 1, 0, (p.i 55), 0, 0⟩ : Sd.Rec)) 18), υ ((nextF (fun _ => 0) (⟨2, 1, 0, (p.i 55), 0, 0⟩ : Sd.Rec)) 19), υ ((nextF (fun _ => 0) (⟨2, 1, 0, (p.i 55), 0, 0⟩ : Sd.Rec)) 20), υ ((nextF (fun _ => 0) (⟨2, 1, 0, (p.i 55), 0, 0⟩ : Sd.Rec)) 21), υ ((nextF (fun _ => 0) (⟨2, 1, 0, (p.i 55), 0, 0⟩ : Sd.Rec)) 22), υ ((nextF (fun _ => 0) (⟨2, 1, 0, (p.i 55), 0, 0⟩ : Sd.Rec)) 23), υ ((nextF (fun _ => 0) (⟨2, 1, 0, (p.i 55), 0, 0⟩ : Sd.Rec)) 24), υ ((nextF (fun _ => 0) (⟨2, 1, 0, (p.i 55), 0, 0⟩ : Sd.Rec)) 25), υ ((nextF (fun _ => 0) (⟨2, 1, 0, (p.i 55), 0, 0⟩ : Sd.Rec)) 26), υ ((nextF (fun _ => 0) (⟨2, 1, 0, (p.i 55), 0, 0⟩ : Sd.Rec)) 27), υ ((nextF (fun _ => 0) (⟨2, 1, 0, (p.i 55), 0, 0⟩ : Sd.Rec)) 28), υ ((nextF (fun _ => 0) (⟨2, 1, 0, (p.i 55), 0, 0⟩ : Sd.Rec)) 29), υ ((nextF (fun _ => 0) (⟨2, 1, 0, (p.i 55), 0, 0⟩ : Sd.Rec)) 30), υ ((nextF (fun _ => 0) (⟨2, 1, 0, (p.i 55), 0, 0⟩ : Sd.Rec)) 31)]) zb268 0 ?_
 intro zw274 zS275
 refine nil_ (then_n (wp_ret ?_))
 refine ret_ rfl (res_ [.cell 2 54] [.agg #[ι (p.i 39), ι 1, ι 0, ι 0, ι 0, ι 0, ι 2, ι 4, ι 0, ι 2, ι 4, ι 0, σ zb116 0 1 zc117, σ zb130 0 1 zc131, υ ((nextF (fun _ => 0) (⟨2, 1, 0, (p.i 55), 0, 0⟩ : Sd.Rec)) 0), υ ((nextF (fun _ => 0) (⟨2, 1, 0, (p.i 55), 0, 0⟩ : Sd.Rec)) 1), υ ((nextF (fun _ => 0) (⟨2, 1, 0, (p.i 55), 0, 0⟩ : Sd.Rec)) 2), υ ((nextF (fun _ => 0) (⟨2, 1, 0, (p.i 55), 0, 0⟩ : Sd.Rec)) 3), υ ((nextF (fun _ => 0) (⟨2, 1, 0, (p.i 55), 0, 0⟩ : Sd.Rec)) 4), υ ((nextF (fun _ => 0) (⟨2, 1, 0, (p.i 55), 0, 0⟩ : Sd.Rec)) 5), υ ((nextF (fun _ => 0) (⟨2, 1, 0, (p.i 55), 0, 0⟩ : Sd.Rec)) 6), υ ((nextF (fun _ => 0) (⟨2, 1, 0, (p.i 55), 0, 0⟩ : Sd.Rec)) 7), υ ((nextF (fun _ => 0) (⟨2, 1, 0, (p.i 55), 0, 0⟩ : Sd.Rec)) 8), υ ((nextF (fun _ => 0) (⟨2, 1, 0, (p.i 55), 0, 0⟩ : Sd.Rec)) 9), υ ((nextF (fun _ => 0) (⟨2, 1, 0, (p.i 55), 0, 0⟩ : Sd.Rec)) 10), υ ((nextF (fun _ => 0) (⟨2, 1, 0, (p.i 55), 0, 0⟩ : Sd.Rec)) 11), υ ((nextF (fun _ => 0) (⟨2, 1, 0, (p.i 55), 0, 0⟩ : Sd.Rec)) 12), υ ((nextF (fun _ => 0) (⟨2, 1, 0, (p.i 55), 0, 0⟩ : Sd.Rec)) 13), υ ((nextF (fun _ => 0) (⟨2, 1, 0, (p.i 55), 0, 0⟩ : Sd.Rec)) 14), υ ((nextF (fun _ => 0) (⟨2, 1, 0, (p.i 55), 0, 0⟩ : Sd.Rec)) 15), υ ((nextF (fun _ => 0) (⟨2, 1, 0, (p.i 55), 0, 0⟩ : Sd.Rec)) 16), υ ((nextF (fun _ => 0) (⟨2, 1, 0, (p.i 55), 0, 0⟩ : Sd.Rec)) 17), υ ((nextF (fun _ => 0) (⟨2, 1, 0, (p.i 55), 0, 0⟩ : Sd.Rec)) 18), υ ((nextF (fun _ => 0) (⟨2, 1, 0, (p.i 55), 0, 0⟩ : Sd.Rec)) 19), υ ((nextF (fun _ => 0) (⟨2, 1, 0, (p.i 55), 0, 0⟩ : Sd.Rec)) 20), υ ((nextF (fun _ => 0) (⟨2, 1, 0, (p.i 55), 0, 0⟩ : Sd.Rec)) 21), υ ((nextF (fun _ => 0) (⟨2, 1, 0, (p.i 55), 0, 0⟩ : Sd.Rec)) 22), υ ((nextF (fun _ => 0) (⟨2, 1, 0, (p.i 55), 0, 0⟩ : Sd.Rec)) 23), υ ((nextF (fun _ => 0) (⟨2, 1, 0, (p.i 55), 0, 0⟩ : Sd.Rec)) 24), υ ((nextF (fun _ => 0) (⟨2, 1, 0, (p.i 55), 0, 0⟩ : Sd.Rec)) 25), υ ((nextF (fun _ => 0) (⟨2, 1, 0, (p.i 55), 0, 0⟩ : Sd.Rec)) 26), υ ((nextF (fun _ => 0) (⟨2, 1, 0, (p.i 55), 0, 0⟩ : Sd.Rec)) 27), υ ((nextF (fun _ => 0) (⟨2, 1, 0, (p.i 55), 0, 0⟩ : Sd.Rec)) 28), υ ((nextF (fun _ => 0) (⟨2, 1, 0, (p.i 55), 0, 0⟩ : Sd.Rec)) 29), υ ((nextF (fun _ => 0) (⟨2, 1, 0, (p.i 55), 0, 0⟩ : Sd.Rec)) 30), υ ((nextF (fun _ => 0) (⟨2, 1, 0, (p.i 55), 0, 0⟩ : Sd.Rec)) 31)]] (.agg #[ι (p.i 39), ι 1, ι 0, ι 0, ι 0, ι 0, ι 2, ι 4, ι 0, ι 2, ι 4, ι 0, σ zb116 0 1 zc117, σ zb130 0 1 zc131, υ ((nextF (fun _ => 0) (⟨2, 1, 0, (p.i 55), 0, 0⟩ : Sd.Rec)) 0), υ ((nextF (fun _ => 0) (⟨2, 1, 0, (p.i 55), 0, 0⟩ : Sd.Rec)) 1), υ ((nextF (fun _ => 0) (⟨2, 1, 0, (p.i 55), 0, 0⟩ : Sd.Rec)) 2), υ ((nextF (fun _ => 0) (⟨2, 1, 0, (p.i 55), 0, 0⟩ : Sd.Rec)) 3), υ ((nextF (fun _ => 0) (⟨2, 1, 0, (p.i 55), 0, 0⟩ : Sd.Rec)) 4), υ ((nextF (fun _ => 0) (⟨2, 1, 0, (p.i 55), 0, 0⟩ : Sd.Rec)) 5), υ ((nextF (fun _ => 0) (⟨2, 1, 0, (p.i 55), 0, 0⟩ : Sd.Rec)) 6), υ ((nextF (fun _ => 0) (⟨2, 1, 0, (p.i 55), 0, 0⟩ : Sd.Rec)) 7), υ ((nextF (fun _ => 0) (⟨2, 1, 0, (p.i 55), 0, 0⟩ : Sd.Rec)) 8), υ ((nextF (fun _ => 0) (⟨2, 1, 0, (p.i 55), 0, 0⟩ : Sd.Rec)) 9), υ ((nextF (fun _ => 0) (⟨2, 1, 0, (p.i 55), 0, 0⟩ : Sd.Rec)) 10), υ ((nextF (fun _ => 0) (⟨2, 1, 0, (p.i 55), 0, 0⟩ : Sd.Rec)) 11), υ ((nextF (fun _ => 0) (⟨2, 1, 0, (p.i 55), 0, 0⟩ : Sd.Rec)) 12), υ ((nextF (fun _ => 0) (⟨2, 1, 0, (p.i 55), 0, 0⟩ : Sd.Rec)) 13), υ ((nextF (fun _ => 0) (⟨2, 1, 0, (p.i 55), 0, 0⟩ : Sd.Rec)) 14), υ ((nextF (fun _ => 0) (⟨2, 1, 0, (p.i 55), 0, 0⟩ : Sd.Rec)) 15), υ ((nextF (fun _ => 0) (⟨2, 1, 0, (p.i 55), 0, 0⟩ : Sd.Rec)) 16), υ ((nextF (fun _ => 0) (⟨2, 1, 0, (p.i 55), 0, 0⟩ : Sd.Rec)) 17), υ ((nextF (fun _ => 0) (⟨2, 1, 0, (p.i 55), 0, 0⟩ : Sd.Rec)) 18), υ ((nextF (fun _ => 0) (⟨2, 1, 0, (p.i 55), 0, 0⟩ : Sd.Rec)) 19), υ ((nextF (fun _ => 0) (⟨2, 1, 0, (p.i 55), 0, 0⟩ : Sd.Rec)) 20), υ ((nextF (fun _ => 0) (⟨2, 1, 0, (p.i 55), 0, 0⟩ : Sd.Rec)) 21), υ ((nextF (fun _ => 0) (⟨2, 1, 0, (p.i 55), 0, 0⟩ : Sd.Rec)) 22), υ ((nextF (fun _ => 0) (⟨2, 1, 0, (p.i 55), 0, 0⟩ : Sd.Rec)) 23), υ ((nextF (fun _ => 0) (⟨2, 1, 0, (p.i 55), 0, 0⟩ : Sd.Rec)) 24), υ ((nextF (fun _ => 0) (⟨2, 1, 0, (p.i 55), 0, 0⟩ : Sd.Rec)) 25), υ ((nextF (fun _ => 0) (⟨2, 1, 0, (p.i 55), 0, 0⟩ : Sd.Rec)) 26), υ ((nextF (fun _ => 0) (⟨2, 1, 0, (p.i 55), 0, 0⟩ : Sd.Rec)) 27), υ ((nextF (fun _ => 0) (⟨2, 1, 0, (p.i 55), 0, 0⟩ : Sd.Rec)) 28), υ ((nextF (fun _ => 0) (⟨2, 1, 0, (p.i 55), 0, 0⟩ : Sd.Rec)) 29), υ ((nextF (fun _ => 0) (⟨2, 1, 0, (p.i 55), 0, 0⟩ : Sd.Rec)) 30), υ ((nextF (fun _ => 0) (⟨2, 1, 0, (p.i 55), 0, 0⟩ : Sd.Rec)) 31)]) ⟨res_cellN zS275 0 46 zb268 0, trivial⟩) ?_
 refine store_ zS275 18 (.agg #[ι (p.i 39), ι 1, ι 0, ι 0, ι 0, ι 0, ι 2, ι 4, ι 0, ι 2, ι 4, ι 0, σ zb116 0 1 zc117, σ zb130 0 1 zc131, υ ((nextF (fun _ => 0) (⟨2, 1, 0, (p.i 55), 0, 0⟩ : Sd.Rec)) 0), υ ((nextF (fun _ => 0) (⟨2, 1, 0, (p.i 55), 0, 0⟩ : Sd.Rec)) 1), υ ((nextF (fun _ => 0) (⟨2, 1, 0, (p.i 55), 0, 0⟩ : Sd.Rec)) 2), υ ((nextF (fun _ => 0) (⟨2, 1, 0, (p.i 55), 0, 0⟩ : Sd.Rec)) 3), υ ((nextF (fun _ => 0) (⟨2, 1, 0, (p.i 55), 0, 0⟩ : Sd.Rec)) 4), υ ((nextF (fun _ => 0) (⟨2, 1, 0, (p.i 55), 0, 0⟩ : Sd.Rec)) 5), υ ((nextF (fun _ => 0) (⟨2, 1, 0, (p.i 55), 0, 0⟩ : Sd.Rec)) 6), υ ((nextF (fun _ => 0) (⟨2, 1, 0, (p.i 55), 0, 0⟩ : Sd.Rec)) 7), υ ((nextF (fun _ => 0) (⟨2, 1, 0, (p.i 55), 0, 0⟩ : Sd.Rec)) 8), υ ((nextF (fun _ => 0) (⟨2, 1, 0, (p.i 55), 0, 0⟩ : Sd.Rec)) 9), υ ((nextF (fun _ => 0) (⟨2, 1, 0, (p.i 55), 0, 0⟩ : Sd.Rec)) 10), υ ((nextF (fun _ => 0) (⟨2, 1, 0, (p.i 55), 0, 0⟩ : Sd.Rec)) 11), υ ((nextF (fun _ => 0) (⟨2, 1, 0, (p.i 55), 0, 0⟩ : Sd.Rec)) 12), υ ((nextF (fun _ => 0) (⟨2, 1, 0, (p.i 55), 0, 0⟩ : Sd.Rec)) 13), υ ((nextF (fun _ => 0) (⟨2, 1, 0, (p.i 55), 0, 0⟩ : Sd.Rec)) 14), υ ((nextF (fun _ => 0) (⟨2, 1, 0, (p.i 55), 0, 0⟩ : Sd.Rec)) 15), υ ((nextF (fun _ => 0) (⟨2, 1, 0, (p.i 55), 0, 0⟩ : Sd.Rec)) 16), υ ((nextF (fun _ => 0) (⟨2, 1, 0, (p.i 55), 0, 0⟩ : Sd.Rec)) 17), υ ((nextF (fun _ => 0) (⟨2, 1, 0, (p.i 55), 0, 0⟩ : Sd.Rec)) 18), υ ((nextF (fun _ => 0) (⟨2, 1, 0, (p.i 55), 0, 0⟩ : Sd.Rec)) 19), υ ((nextF (fun _ => 0) (⟨2, 1, 0, (p.i 55), 0, 0⟩ : Sd.Rec)) 20), υ ((nextF (fun _ => 0) (⟨2, 1, 0, (p.i 55), 0, 0⟩ : Sd.Rec)) 21), υ ((nextF (fun _ => 0) (⟨2, 1, 0, (p.i 55), 0, 0⟩ : Sd.Rec)) 22), υ ((nextF (fun _ => 0) (⟨2, 1, 0, (p.i 55), 0, 0⟩ : Sd.Rec)) 23), υ ((nextF (fun _ => 0) (⟨2, 1, 0, (p.i 55), 0, 0⟩ : Sd.Rec)) 24), υ ((nextF (fun _ => 0) (⟨2, 1, 0, (p.i 55), 0, 0⟩ : Sd.Rec)) 25), υ ((nextF (fun _ => 0) (⟨2, 1, 0, (p.i 55), 0, 0⟩ : Sd.Rec)) 26), υ ((nextF (fun _ => 0) (⟨2, 1, 0, (p.i 55), 0, 0⟩ : Sd.Rec)) 27), υ ((nextF (fun _ => 0) (⟨2, 1, 0, (p.i 55), 0, 0⟩ : Sd.Rec)) 28), υ ((nextF (fun _ => 0) (⟨2, 1, 0, (p.i 55), 0, 0⟩ : Sd.Rec)) 29), υ ((nextF (fun _ => 0) (⟨2, 1, 0, (p.i 55), 0, 0⟩ : Sd.Rec)) 30), υ ((nextF (fun _ => 0) (⟨2, 1, 0, (p.i 55), 0, 0⟩ : Sd.Rec)) 31)]) zb31 0 ?_
 intro zw276 zS277
 refine nil_ (then_n (wp_ret ?_))
 refine ret_ rfl (res_ [.cell 6 54] [.agg #[ι (p.i 39), ι 1, ι 0, ι 0, ι 0, ι 0, ι 2, ι 4, ι 0, ι 2, ι 4, ι 0, σ zb116 0 1 zc117, σ zb130 0 1 zc131, υ ((nextF (fun _ => 0) (⟨2, 1, 0, (p.i 55), 0, 0⟩ : Sd.Rec)) 0), υ ((nextF (fun _ => 0) (⟨2, 1, 0, (p.i 55), 0, 0⟩ : Sd.Rec)) 1), υ ((nextF (fun _ => 0) (⟨2, 1, 0, (p.i 55), 0, 0⟩ : Sd.Rec)) 2), υ ((nextF (fun _ => 0) (⟨2, 1, 0, (p.i 55), 0, 0⟩ : Sd.Rec)) 3), υ ((nextF (fun _ => 0) (⟨2, 1, 0, (p.i 55), 0, 0⟩ : Sd.Rec)) 4), υ ((nextF (fun _ => 0) (⟨2, 1, 0, (p.i 55), 0, 0⟩ : Sd.Rec)) 5), υ ((nextF (fun _ => 0) (⟨2, 1, 0, (p.i 55), 0, 0⟩ : Sd.Rec)) 6), υ ((nextF (fun _ => 0) (⟨2, 1, 0, (p.i 55), 0, 0⟩ : Sd.Rec)) 7), υ ((nextF (fun _ => 0) (⟨2, 1, 0, (p.i 55), 0, 0⟩ : Sd.Rec)) 8), υ ((nextF (fun _ => 0) (⟨2, 1, 0, (p.i 55), 0, 0⟩ : Sd.Rec)) 9), υ ((nextF (fun _ => 0) (⟨2, 1, 0, (p.i 55), 0, 0⟩ : Sd.Rec)) 10), υ ((nextF (fun _ => 0) (⟨2, 1, 0, (p.i 55), 0, 0⟩ : Sd.Rec)) 11), υ ((nextF (fun _ => 0) (⟨2, 1, 0, (p.i 55), 0, 0⟩ : Sd.Rec)) 12), υ ((nextF (fun _ => 0) (⟨2, 1, 0, (p.i 55), 0, 0⟩ : Sd.Rec)) 13), υ ((nextF (fun _ => 0) (⟨2, 1, 0, (p.i 55), 0, 0⟩ : Sd.Rec)) 14), υ ((nextF (fun _ => 0) (⟨2, 1, 0, (p.i 55), 0, 0⟩ : Sd.Rec)) 15), υ ((nextF (fun _ => 0) (⟨2, 1, 0, (p.i 55), 0, 0⟩ : Sd.Rec)) 16), υ ((nextF (fun _ => 0) (⟨2, 1, 0, (p.i 55), 0, 0⟩ : Sd.Rec)) 17), υ ((nextF (fun _ => 0) (⟨2, 1, 0, (p.i 55), 0, 0⟩ : Sd.Rec)) 18), υ ((nextF (fun _ => 0) (⟨2, 1, 0, (p.i 55), 0, 0⟩ : Sd.Rec)) 19), υ ((nextF (fun _ => 0) (⟨2, 1, 0, (p.i 55), 0, 0⟩ : Sd.Rec)) 20), υ ((nextF (fun _ => 0) (⟨2, 1, 0, (p.i 55), 0, 0⟩ : Sd.Rec)) 21), υ ((nextF (fun _ => 0) (⟨2, 1, 0, (p.i 55), 0, 0⟩ : Sd.Rec)) 22), υ ((nextF (fun _ => 0) (⟨2, 1, 0, (p.i 55), 0, 0⟩ : Sd.Rec)) 23), υ ((nextF (fun _ => 0) (⟨2, 1, 0, (p.i 55), 0, 0⟩ : Sd.Rec)) 24), υ ((nextF (fun _ => 0) (⟨2, 1, 0, (p.i 55), 0, 0⟩ : Sd.Rec)) 25), υ ((nextF (fun _ => 0) (⟨2, 1, 0, (p.i 55), 0, 0⟩ : Sd.Rec)) 26), υ ((nextF (fun _ => 0) (⟨2, 1, 0, (p.i 55), 0, 0⟩ : Sd.Rec)) 27), υ ((nextF (fun _ => 0) (⟨2, 1, 0, (p.i 55), 0, 0⟩ : Sd.Rec)) 28), υ ((nextF (fun _ => 0) (⟨2, 1, 0, (p.i 55), 0, 0⟩ : Sd.Rec)) 29), υ ((nextF (fun _ => 0) (⟨2, 1, 0, (p.i 55), 0, 0⟩ : Sd.Rec)) 30), υ ((nextF (fun _ => 0) (⟨2, 1, 0, (p.i 55), 0, 0⟩ : Sd.Rec)) 31)]] (.agg #[ι (p.i 39), ι 1, ι 0, ι 0, ι 0, ι 0, ι 2, ι 4, ι 0, ι 2, ι 4, ι 0, σ zb116 0 1 zc117, σ zb130 0 1 zc131, υ ((nextF (fun _ => 0) (⟨2, 1, 0, (p.i 55), 0, 0⟩ : Sd.Rec)) 0), υ ((nextF (fun _ => 0) (⟨2, 1, 0, (p.i 55), 0, 0⟩ : Sd.Rec)) 1), υ ((nextF (fun _ => 0) (⟨2, 1, 0, (p.i 55), 0, 0⟩ : Sd.Rec)) 2), υ ((nextF (fun _ => 0) (⟨2, 1, 0, (p.i 55), 0, 0⟩ : Sd.Rec)) 3), υ ((nextF (fun _ => 0) (⟨2, 1, 0, (p.i 55), 0, 0⟩ : Sd.Rec)) 4), υ ((nextF (fun _ => 0) (⟨2, 1, 0, (p.i 55), 0, 0⟩ : Sd.Rec)) 5), υ ((nextF (fun _ => 0) (⟨2, 1, 0, (p.i 55), 0, 0⟩ : Sd.Rec)) 6), υ ((nextF (fun _ => 0) (⟨2, 1, 0, (p.i 55), 0, 0⟩ : Sd.Rec)) 7), υ ((nextF (fun _ => 0) (⟨2, 1, 0, (p.i 55), 0, 0⟩ : Sd.Rec)) 8), υ ((nextF (fun _ => 0) (⟨2, 1, 0, (p.i 55), 0, 0⟩ : Sd.Rec)) 9), υ ((nextF (fun _ => 0) (⟨2, 1, 0, (p.i 55), 0, 0⟩ : Sd.Rec)) 10), υ ((nextF (fun _ => 0) (⟨2, 1, 0, (p.i 55), 0, 0⟩ : Sd.Rec)) 11), υ ((nextF (fun _ => 0) (⟨2, 1, 0, (p.i 55), 0, 0⟩ : Sd.Rec)) 12), υ ((nextF (fun _ => 0) (⟨2, 1, 0, (p.i 55), 0, 0⟩ : Sd.Rec)) 13), υ ((nextF (fun _ => 0) (⟨2, 1, 0, (p.i 55), 0, 0⟩ : Sd.Rec)) 14), υ ((nextF (fun _ => 0) (⟨2, 1, 0, (p.i 55), 0, 0⟩ : Sd.Rec)) 15), υ ((nextF (fun _ => 0) (⟨2, 1, 0, (p.i 55), 0, 0⟩ : Sd.Rec)) 16), υ ((nextF (fun _ => 0) (⟨2, 1, 0, (p.i 55), 0, 0⟩ : Sd.Rec)) 17), υ ((nextF (fun _ => 0) (⟨2, 1, 0, (p.i 55), 0, 0⟩ : Sd.Rec)) 18), υ ((nextF (fun _ => 0) (⟨2, 1, 0, (p.i 55), 0, 0⟩ : Sd.Rec)) 19), υ ((nextF (fun _ => 0) (⟨2, 1, 0, (p.i 55), 0, 0⟩ : Sd.Rec)) 20), υ ((nextF (fun _ => 0) (⟨2, 1, 0, (p.i 55), 0, 0⟩ : Sd.Rec)) 21), υ ((nextF (fun _ => 0) (⟨2, 1, 0, (p.i 55), 0, 0⟩ : Sd.Rec)) 22), υ ((nextF (fun _ => 0) (⟨2, 1, 0, (p.i 55), 0, 0⟩ : Sd.Rec)) 23), υ ((nextF (fun _ => 0) (⟨2, 1, 0, (p.i 55), 0, 0⟩ : Sd.Rec)) 24), υ ((nextF (fun _ => 0) (⟨2, 1, 0, (p.i 55), 0, 0⟩ : Sd.Rec)) 25), υ ((nextF (fun _ => 0) (⟨2, 1, 0, (p.i 55), 0, 0⟩ : Sd.Rec)) 26), υ ((nextF (fun _ => 0) (⟨2, 1, 0, (p.i 55), 0, 0⟩ : Sd.Rec)) 27), υ ((nextF (fun _ => 0) (⟨2, 1, 0, (p.i 55), 0, 0⟩ : Sd.Rec)) 28), υ ((nextF (fun _ => 0) (⟨2, 1, 0, (p.i 55), 0, 0⟩ : Sd.Rec)) 29), υ ((nextF (fun _ => 0) (⟨2, 1, 0, (p.i 55), 0, 0⟩ : Sd.Rec)) 30), υ ((nextF (fun _ => 0) (⟨2, 1, 0, (p.i 55), 0, 0⟩ : Sd.Rec)) 31)]) ⟨res_cellN zS277 18 46 zb31 0, trivial⟩) ?_
 refine new_ zS277 (fun b => π b 0) (.cells #[ι 0, ι 0, ι 0, ι 0, ι 0, ι 0, ι 0, ι 0, ι 0, ι 0, ι 0, ι 0, .slice none 0 0, .slice none 0 0, υ 0, υ 0, υ 0, υ 0, υ 0, υ 0, υ 0, υ 0, υ 0, υ 0, υ 0, υ 0, υ 0, υ 0, υ 0, υ 0, υ 0, υ 0, υ 0, υ 0, υ 0, υ 0, υ 0, υ 0, υ 0, υ 0, υ 0, υ 0, υ 0, υ 0, υ 0, υ 0] 54) ?_
 intro zb278 zw279 zS280
 refine store_ zS280 0 (.agg #[ι (p.i 39), ι 1, ι 0, ι 0, ι 0, ι 0, ι 2, ι 4, ι 0, ι 2, ι 4, ι 0, σ zb116 0 1 zc117, σ zb130 0 1 zc131, υ ((nextF (fun _ => 0) (⟨2, 1, 0, (p.i 55), 0, 0⟩ : Sd.Rec)) 0), υ ((nextF (fun _ => 0) (⟨2, 1, 0, (p.i 55), 0, 0⟩ : Sd.Rec)) 1), υ ((nextF (fun _ => 0) (⟨2, 1, 0, (p.i 55), 0, 0⟩ : Sd.Rec)) 2), υ ((nextF (fun _ => 0) (⟨2, 1, 0, (p.i 55), 0, 0⟩ : Sd.Rec)) 3), υ ((nextF (fun _ => 0) (⟨2, 1, 0, (p.i 55), 0, 0⟩ : Sd.Rec)) 4), υ ((nextF (fun _ => 0) (⟨2, 1, 0, (p.i 55), 0, 0⟩ : Sd.Rec)) 5), υ ((nextF (fun _ => 0) (⟨2, 1, 0, (p.i 55), 0, 0⟩ : Sd.Rec)) 6), υ ((nextF (fun _ => 0) (⟨2, 1, 0, (p.i 55), 0, 0⟩ : Sd.Rec)) 7), υ ((nextF (fun _ => 0) (⟨2, 1, 0, (p.i 55), 0, 0⟩ : Sd.Rec)) 8), υ ((nextF (fun _ => 0) (⟨2, 1, 0, (p.i 55), 0, 0⟩ : Sd.Rec)) 9), υ ((nextF (fun _ => 0) (⟨2, 1, 0, (p.i 55), 0, 0⟩ : Sd.Rec)) 10), υ ((nextF (fun _ => 0) (⟨2, 1, 0, (p.i 55), 0, 0⟩ : Sd.Rec)) 11), υ ((nextF (fun _ => 0) (⟨2, 1, 0, (p.i 55), 0, 0⟩ : Sd.Rec)) 12), υ ((nextF (fun _ => 0) (⟨2, 1, 0, (p.i 55), 0, 0⟩ : Sd.Rec)) 13), υ ((nextF (fun _ => 0) (⟨2, 1, 0, (p.i 55), 0, 0⟩ : Sd.Rec)) 14), υ ((nextF (fun _ => 0) (⟨2, 1, 0, (p.i 55), 0, 0⟩ : Sd.Rec)) 15), υ ((nextF (fun _ => 0) (⟨2, 1, 0, (p.i 55), 0, 0⟩ : Sd.Rec)) 16), υ ((nextF (fun _ => 0) (⟨2, 1, 0, (p.i 55), 0, 0⟩ : Sd.Rec)) 17), υ ((nextF (fun _ => 0) (⟨2, 1, 0, (p.i 55), 0, 0⟩ : Sd.Rec)) 18), υ ((nextF (fun _ => 0) (⟨2, 1, 0, (p.i 55), 0, 0⟩ : Sd.Rec)) 19), υ ((nextF (fun _ => 0) (⟨2, 1, 0, (p.i 55), 0, 0⟩ : Sd.Rec)) 20), υ ((nextF (fun _ => 0) (⟨2, 1, 0, (p.i 55), 0, 0⟩ : Sd.Rec)) 21), υ ((nextF (fun _ => 0) (⟨2, 1, 0, (p.i 55), 0, 0⟩ : Sd.Rec)) 22), υ ((nextF (fun _ => 0) (⟨2, 1, 0, (p.i 55), 0, 0⟩ : Sd.Rec)) 23), υ ((nextF (fun _ => 0) (⟨2, 1, 0, (p.i 55), 0, 0⟩ : Sd.Rec)) 24), υ ((nextF (fun _ => 0) (⟨2, 1, 0, (p.i 55), 0, 0⟩ : Sd.Rec)) 25), υ ((nextF (fun _ => 0) (⟨2, 1, 0, (p.i 55), 0, 0⟩ : Sd.Rec)) 26), υ ((nextF (fun _ => 0) (⟨2, 1, 0, (p.i 55), 0, 0⟩ : Sd.Rec)) 27), υ ((nextF (fun _ => 0) (⟨2, 1, 0, (p.i 55), 0, 0⟩ : Sd.Rec)) 28), υ ((nextF (fun _ => 0) (⟨2, 1, 0, (p.i 55), 0, 0⟩ : Sd.Rec)) 29), υ ((nextF (fun _ => 0) (⟨2, 1, 0, (p.i 55), 0, 0⟩ : Sd.Rec)) 30), υ ((nextF (fun _ => 0) (⟨2, 1, 0, (p.i 55), 0, 0⟩ : Sd.Rec)) 31)]) zb278 0 ?_
 intro zw281 zS282
 refine nsr_ (pure_ (π zb278 12) (load1_ zS282 0 (σ zb116 0 1 zc117) zb278 12 (pure_ (ι 1) (pure_ (τ) (pure_ (τ) (pure_ (π zb278 12) (load1_ zS282 0 (σ zb116 0 1 zc117) zb278 12 (pure_ (π zb116 0) (pure_ (π zb116 0) (load1_ zS282 4 (ι 1) zb116 0 (pure_ (τ) (pure_ (τ) (pure_ (τ) (pure_ (π zb278 13) (load1_ zS282 0 (σ zb130 0 1 zc131) zb278 13 (pure_ (ι 1) (pure_ (τ) (pure_ (τ) (pure_ (τ) (pure_ (π zb278 13) (load1_ zS282 0 (σ zb130 0 1 zc131) zb278 13 (pure_ (π zb130 0) (pure_ (π zb130 0) (load1_ zS282 2 (ι 2) zb130 0 (pure_ (τ) (pure_ (τ) (pure_ (τ) (move_ (call_ 13 #[π zb14 0] (enter_ Tryz.func13 rfl (seq_ (reg_ ?_))))))))))))))))))))))))))))))))
 refine new_ zS282 (fun b => π b 0) (.cells #[ι 0, ι 0, ι 0, ι 0, ι 0, ι 0, ι 0, ι 0, ι 0, ι 0, ι 0, ι 0, ι 0, ι 0, ι 0, ι 0, ι 0, ι 0, ι 0, .slice none 0 0, φ, φ, φ, φ, φ, ι 0, ι 0, ι 0, ι 0, ι 0, φ] 45) ?_
 intro zb283 zw284 zS285
 refine nil_ (then_n (seq_ (seq_ (reg_ (move_ (call_ 38 #[π zb14 0] (enter_ Tryz.func38 rfl (seq_ (reg_ (pure_ (φ) (nsr_ (move_ (pure_ (π zb14 0) (pure_ (π zb14 95) (load1_ zS285 23 (π zb16 0) zb14 95 (pure_ (τ) (pure_ (τ) (nil_ (then_n (wp_ret (ret_ rfl (res_ [.tmp 2] [τ] (τ) ⟨res_tmp, trivial⟩) (pure_ (φ) (nil_ (then_n (cond_F (wp_skip (then_n (seq_ ?_))))))))))))))))))))))))))))
 refine drawnL_ 34 [⟨0, fun _ => π zb14 0, fun _ => []⟩, ⟨0, fun _ => π zb14 0, fun _ => []⟩, ⟨0, fun _ => π zb14 56, fun _ => []⟩, ⟨0, fun _ => π zb14 56, fun _ => []⟩, ⟨0, fun _ => ι 4, fun _ => []⟩, ⟨0, fun _ => π zb14 0, fun _ => []⟩, ⟨0, fun _ => π zb14 0, fun _ => []⟩, ⟨0, fun _ => π zb14 56, fun _ => []⟩, ⟨0, fun _ => π zb14 57, fun _ => []⟩, ⟨0, fun _ => ι (p.i 55), fun _ => []⟩, ⟨0, fun _ => π zb14 0, fun _ => []⟩, ⟨0, fun _ => π zb14 0, fun _ => []⟩, ⟨0, fun _ => π zb14 56, fun _ => []⟩, ⟨0, fun _ => π zb14 58, fun _ => []⟩, ⟨0, fun _ => ι (-1), fun _ => []⟩, ⟨0, fun _ => π zb14 0, fun _ => []⟩, ⟨0, fun _ => π zb14 0, fun _ => []⟩, ⟨0, fun _ => π zb14 98, fun _ => []⟩, ⟨0, fun _ => ι (p.i 39), fun _ => []⟩, ⟨0, fun _ => π zb14 0, fun _ => []⟩, ⟨0, fun _ => π zb14 0, fun _ => []⟩, ⟨0, fun _ => π zb14 99, fun _ => []⟩, ⟨0, fun _ => .agg #[ι 2, ι 4, ι 0], fun _ => []⟩, ⟨0, fun _ => π zb14 0, fun _ => []⟩, ⟨0, fun _ => π zb14 0, fun _ => []⟩, ⟨0, fun _ => π zb14 102, fun _ => []⟩, ⟨0, fun _ => .agg #[ι 1, ι 0, ι 0, ι 0, ι 0, ι 0, ι 0, ι 0, ι 0, ι 2, ι 4, ι 0], fun _ => []⟩, ⟨0, fun _ => π zb14 0, fun _ => []⟩, ⟨0, fun _ => π zb14 0, fun _ => []⟩, ⟨0, fun _ => π zb14 56, fun _ => []⟩, ⟨0, fun _ => π zb14 63, fun _ => []⟩, ⟨0, fun _ => φ, fun _ => []⟩, ⟨0, fun _ => .agg #[ι 4, ι (p.i 55), ι (-1), ι (p.i 39), ι 2, ι 4, ι 0, ι 1, ι 0, ι 0, ι 0, ι 0, ι 0, ι 0, ι 0, ι 0, ι 2, ι 4, ι 0, .slice none 0 0, φ, φ, φ, φ, φ, ι 0, ι 0, ι 0, ι 0, ι 0, φ], fun _ => []⟩, ⟨1, fun ids => π (ids.getD 0 0) 0, fun ids => [((ids.getD 0 0), .cells #[ι 0, ι 0, ι 0, ι 0, ι 0, ι 0, ι 0, ι 0, ι 0, ι 0, ι 0, ι 0, ι 0, ι 0, ι 0, ι 0, ι 0, ι 0, ι 0, .slice none 0 0, φ, φ, φ, φ, φ, ι 0, ι 0, ι 0, ι 0, ι 0, φ] 45 (0, 0))]⟩] [[34, 0], [34, 1], [34, 2], [34, 3], [34, 4], [34, 5], [34, 6], [34, 7], [34, 8], [34, 9], [34, 10], [34, 11], [34, 12], [34, 13], [34, 14], [34, 15], [34, 16], [34, 17], [34, 18], [34, 19], [34, 20], [34, 21], [34, 22], [34, 23], [34, 24], [34, 25], [34, 26], [34, 27], [34, 28], [34, 29], [34, 30], [34, 31], [34, 32], [34, 33]] ?_ ?_
 · refine step_cons ?_ ?_
   · intro zy286 zw287 zhc288 zhf289 zhp290
     have zh291 : zy286 0 = π zb14 0 := (zhf289 0 (by kernel_rfl)).trans (by kernel_rfl)
     have zS292 := zS285.quiet zhc288
     refine step1 ?_
     refine yenv [(0, π zb14 0)] (ag_cons zh291 (ag_nil)) ?_
     have zS293 := zS292.loc
     refine Y.move_ ?_
     exact ⟨zS293.ch, Sp.mk_holds [] (all_nil)⟩
   refine step_cons ?_ ?_
   · intro zy294 zw295 zhc296 zhf297 zhp298
     have zh299 : zy294 11 = π zb14 0 := (Sp.out0 (zhp298 0 11 (by kernel_rfl) (by kernel_rfl))).1
     have zS300 := zS285.quiet zhc296
     refine step1 ?_
     refine yenv [(11, π zb14 0)] (ag_cons zh299 (ag_nil)) ?_
     have zS301 := zS300.loc
     refine Y.pure_ (π zb14 0) ?_
     exact ⟨zS301.ch, Sp.mk_holds [] (all_nil)⟩
   refine step_cons ?_ ?_
   · intro zy302 zw303 zhc304 zhf305 zhp306
     have zh307 : zy302 12 = π zb14 0 := (Sp.out0 (zhp306 1 12 (by kernel_rfl) (by kernel_rfl))).1
     have zS308 := zS285.quiet zhc304
     refine step1 ?_
     refine yenv [(12, π zb14 0)] (ag_cons zh307 (ag_nil)) ?_
     have zS309 := zS308.loc
     refine Y.pure_ (π zb14 56) ?_
     exact ⟨zS309.ch, Sp.mk_holds [] (all_nil)⟩
   refine step_cons ?_ ?_
   · intro zy310 zw311 zhc312 zhf313 zhp314
     have zh315 : zy310 13 = π zb14 56 := (Sp.out0 (zhp314 2 13 (by kernel_rfl) (by kernel_rfl))).1
     have zS316 := zS285.quiet zhc312
     refine step1 ?_
     refine yenv [(13, π zb14 56)] (ag_cons zh315 (ag_nil)) ?_
     have zS317 := zS316.loc
     refine Y.pure_ (π zb14 56) ?_
     exact ⟨zS317.ch, Sp.mk_holds [] (all_nil)⟩
   refine step_cons ?_ ?_
   · intro zy318 zw319 zhc320 zhf321 zhp322
     have zh323 : zy318 14 = π zb14 56 := (Sp.out0 (zhp322 3 14 (by kernel_rfl) (by kernel_rfl))).1
     have zS324 := zS285.quiet zhc320
     refine step1 ?_
     refine yenv [(14, π zb14 56)] (ag_cons zh323 (ag_nil)) ?_
     have zS325 := zS324.loc
     refine Y.load1_ zS325 23 (ι 4) zb14 56 ?_
     exact ⟨zS325.ch, Sp.mk_holds [] (all_nil)⟩
   refine step_cons ?_ ?_
   · intro zy326 zw327 zhc328 zhf329 zhp330
     have zh331 : zy326 0 = π zb14 0 := (zhf329 0 (by kernel_rfl)).trans (by kernel_rfl)
     have zS332 := zS285.quiet zhc328
     refine step1 ?_
     refine yenv [(0, π zb14 0)] (ag_cons zh331 (ag_nil)) ?_
     have zS333 := zS332.loc
     refine Y.move_ ?_
     exact ⟨zS333.ch, Sp.mk_holds [] (all_nil)⟩
   refine step_cons ?_ ?_
   · intro zy334 zw335 zhc336 zhf337 zhp338
     have zh339 : zy334 16 = π zb14 0 := (Sp.out0 (zhp338 5 16 (by kernel_rfl) (by kernel_rfl))).1
     have zS340 := zS285.quiet zhc336
     refine step1 ?_
     refine yenv [(16, π zb14 0)] (ag_cons zh339 (ag_nil)) ?_
     have zS341 := zS340.loc
     refine Y.pure_ (π zb14 0) ?_
     exact ⟨zS341.ch, Sp.mk_holds [] (all_nil)⟩
   refine step_cons ?_ ?_
   · intro zy342 zw343 zhc344 zhf345 zhp346
     have zh347 : zy342 17 = π zb14 0 := (Sp.out0 (zhp346 6 17 (by kernel_rfl) (by kernel_rfl))).1
     have zS348 := zS285.quiet zhc344
     refine step1 ?_
     refine yenv [(17, π zb14 0)] (ag_cons zh347 (ag_nil)) ?_
     have zS349 := zS348.loc
     refine Y.pure_ (π zb14 56) ?_
     exact ⟨zS349.ch, Sp.mk_holds [] (all_nil)⟩
   refine step_cons ?_ ?_
   · intro zy350 zw351 zhc352 zhf353 zhp354
     have zh355 : zy350 18 = π zb14 56 := (Sp.out0 (zhp354 7 18 (by kernel_rfl) (by kernel_rfl))).1
     have zS356 := zS285.quiet zhc352
     refine step1 ?_
     refine yenv [(18, π zb14 56)] (ag_cons zh355 (ag_nil)) ?_
     have zS357 := zS356.loc
     refine Y.pure_ (π zb14 57) ?_
     exact ⟨zS357.ch, Sp.mk_holds [] (all_nil)⟩
   refine step_cons ?_ ?_
   · intro zy358 zw359 zhc360 zhf361 zhp362
     have zh363 : zy358 19 = π zb14 57 := (Sp.out0 (zhp362 8 19 (by kernel_rfl) (by kernel_rfl))).1
     have zS364 := zS285.quiet zhc360
     refine step1 ?_
     refine yenv [(19, π zb14 57)] (ag_cons zh363 (ag_nil)) ?_
     have zS365 := zS364.loc
     refine Y.load1_ zS365 23 (ι (p.i 55)) zb14 57 ?_
     exact ⟨zS365.ch, Sp.mk_holds [] (all_nil)⟩
   refine step_cons ?_ ?_
   · intro zy366 zw367 zhc368 zhf369 zhp370
     have zh371 : zy366 0 = π zb14 0 := (zhf369 0 (by kernel_rfl)).trans (by kernel_rfl)
     have zS372 := zS285.quiet zhc368
     refine step1 ?_
     refine yenv [(0, π zb14 0)] (ag_cons zh371 (ag_nil)) ?_
     have zS373 := zS372.loc
     refine Y.move_ ?_
     exact ⟨zS373.ch, Sp.mk_holds [] (all_nil)⟩
   refine step_cons ?_ ?_
   · intro zy374 zw375 zhc376 zhf377 zhp378
     have zh379 : zy374 21 = π zb14 0 := (Sp.out0 (zhp378 10 21 (by kernel_rfl) (by kernel_rfl))).1
     have zS380 := zS285.quiet zhc376
     refine step1 ?_
     refine yenv [(21, π zb14 0)] (ag_cons zh379 (ag_nil)) ?_
     have zS381 := zS380.loc
     refine Y.pure_ (π zb14 0) ?_
     exact ⟨zS381.ch, Sp.mk_holds [] (all_nil)⟩
   refine step_cons ?_ ?_
   · intro zy382 zw383 zhc384 zhf385 zhp386
     have zh387 : zy382 22 = π zb14 0 := (Sp.out0 (zhp386 11 22 (by kernel_rfl) (by kernel_rfl))).1
     have zS388 := zS285.quiet zhc384
     refine step1 ?_
     refine yenv [(22, π zb14 0)] (ag_cons zh387 (ag_nil)) ?_
     have zS389 := zS388.loc
     refine Y.pure_ (π zb14 56) ?_
     exact ⟨zS389.ch, Sp.mk_holds [] (all_nil)⟩
   refine step_cons ?_ ?_
   · intro zy390 zw391 zhc392 zhf393 zhp394
     have zh395 : zy390 23 = π zb14 56 := (Sp.out0 (zhp394 12 23 (by kernel_rfl) (by kernel_rfl))).1
     have zS396 := zS285.quiet zhc392
     refine step1 ?_
     refine yenv [(23, π zb14 56)] (ag_cons zh395 (ag_nil)) ?_
     have zS397 := zS396.loc
     refine Y.pure_ (π zb14 58) ?_
     exact ⟨zS397.ch, Sp.mk_holds [] (all_nil)⟩
   refine step_cons ?_ ?_
   · intro zy398 zw399 zhc400 zhf401 zhp402
     have zh403 : zy398 24 = π zb14 58 := (Sp.out0 (zhp402 13 24 (by kernel_rfl) (by kernel_rfl))).1
     have zS404 := zS285.quiet zhc400
     refine step1 ?_
     refine yenv [(24, π zb14 58)] (ag_cons zh403 (ag_nil)) ?_
     have zS405 := zS404.loc
     refine Y.load1_ zS405 23 (ι (-1)) zb14 58 ?_
     exact ⟨zS405.ch, Sp.mk_holds [] (all_nil)⟩
   refine step_cons ?_ ?_
   · intro zy406 zw407 zhc408 zhf409 zhp410
     have zh411 : zy406 0 = π zb14 0 := (zhf409 0 (by kernel_rfl)).trans (by kernel_rfl)
     have zS412 := zS285.quiet zhc408
     refine step1 ?_
     refine yenv [(0, π zb14 0)] (ag_cons zh411 (ag_nil)) ?_
     have zS413 := zS412.loc
     refine Y.move_ ?_
     exact ⟨zS413.ch, Sp.mk_holds [] (all_nil)⟩
   refine step_cons ?_ ?_
   · intro zy414 zw415 zhc416 zhf417 zhp418
     have zh419 : zy414 26 = π zb14 0 := (Sp.out0 (zhp418 15 26 (by kernel_rfl) (by kernel_rfl))).1
     have zS420 := zS285.quiet zhc416
     refine step1 ?_
     refine yenv [(26, π zb14 0)] (ag_cons zh419 (ag_nil)) ?_
     have zS421 := zS420.loc
     refine Y.pure_ (π zb14 0) ?_
     exact ⟨zS421.ch, Sp.mk_holds [] (all_nil)⟩
   refine step_cons ?_ ?_
   · intro zy422 zw423 zhc424 zhf425 zhp426
     have zh427 : zy422 27 = π zb14 0 := (Sp.out0 (zhp426 16 27 (by kernel_rfl) (by kernel_rfl))).1
     have zS428 := zS285.quiet zhc424
     refine step1 ?_
     refine yenv [(27, π zb14 0)] (ag_cons zh427 (ag_nil)) ?_
     have zS429 := zS428.loc
     refine Y.pure_ (π zb14 98) ?_
     exact ⟨zS429.ch, Sp.mk_holds [] (all_nil)⟩
   refine step_cons ?_ ?_
   · intro zy430 zw431 zhc432 zhf433 zhp434
     have zh435 : zy430 28 = π zb14 98 := (Sp.out0 (zhp434 17 28 (by kernel_rfl) (by kernel_rfl))).1
     have zS436 := zS285.quiet zhc432
     refine step1 ?_
     refine yenv [(28, π zb14 98)] (ag_cons zh435 (ag_nil)) ?_
     have zS437 := zS436.loc
     refine Y.load1_ zS437 23 (ι (p.i 39)) zb14 98 ?_
     exact ⟨zS437.ch, Sp.mk_holds [] (all_nil)⟩
   refine step_cons ?_ ?_
   · intro zy438 zw439 zhc440 zhf441 zhp442
     have zh443 : zy438 0 = π zb14 0 := (zhf441 0 (by kernel_rfl)).trans (by kernel_rfl)
     have zS444 := zS285.quiet zhc440
     refine step1 ?_
     refine yenv [(0, π zb14 0)] (ag_cons zh443 (ag_nil)) ?_
     have zS445 := zS444.loc
     refine Y.move_ ?_
     exact ⟨zS445.ch, Sp.mk_holds [] (all_nil)⟩
   refine step_cons ?_ ?_
   · intro zy446 zw447 zhc448 zhf449 zhp450
     have zh451 : zy446 30 = π zb14 0 := (Sp.out0 (zhp450 19 30 (by kernel_rfl) (by kernel_rfl))).1
     have zS452 := zS285.quiet zhc448
     refine step1 ?_
     refine yenv [(30, π zb14 0)] (ag_cons zh451 (ag_nil)) ?_
     have zS453 := zS452.loc
     refine Y.pure_ (π zb14 0) ?_
     exact ⟨zS453.ch, Sp.mk_holds [] (all_nil)⟩
   refine step_cons ?_ ?_
   · intro zy454 zw455 zhc456 zhf457 zhp458
     have zh459 : zy454 31 = π zb14 0 := (Sp.out0 (zhp458 20 31 (by kernel_rfl) (by kernel_rfl))).1
     have zS460 := zS285.quiet zhc456
     refine step1 ?_
     refine yenv [(31, π zb14 0)] (ag_cons zh459 (ag_nil)) ?_
     have zS461 := zS460.loc
     refine Y.pure_ (π zb14 99) ?_
     exact ⟨zS461.ch, Sp.mk_holds [] (all_nil)⟩
   refine step_cons ?_ ?_
   · intro zy462 zw463 zhc464 zhf465 zhp466
     have zh467 : zy462 32 = π zb14 99 := (Sp.out0 (zhp466 21 32 (by kernel_rfl) (by kernel_rfl))).1
     have zS468 := zS285.quiet zhc464
     refine step1 ?_
     refine yenv [(32, π zb14 99)] (ag_cons zh467 (ag_nil)) ?_
     have zS469 := zS468.loc
     refine Y.loadN_ zS469 23 3 #[ι 2, ι 4, ι 0] zb14 99 ?_
     exact ⟨zS469.ch, Sp.mk_holds [] (all_nil)⟩
   refine step_cons ?_ ?_
   · intro zy470 zw471 zhc472 zhf473 zhp474
     have zh475 : zy470 0 = π zb14 0 := (zhf473 0 (by kernel_rfl)).trans (by kernel_rfl)
     have zS476 := zS285.quiet zhc472
     refine step1 ?_
     refine yenv [(0, π zb14 0)] (ag_cons zh475 (ag_nil)) ?_
     have zS477 := zS476.loc
     refine Y.move_ ?_
     exact ⟨zS477.ch, Sp.mk_holds [] (all_nil)⟩
   refine step_cons ?_ ?_
   · intro zy478 zw479 zhc480 zhf481 zhp482
     have zh483 : zy478 34 = π zb14 0 := (Sp.out0 (zhp482 23 34 (by kernel_rfl) (by kernel_rfl))).1
     have zS484 := zS285.quiet zhc480
     refine step1 ?_
     refine yenv [(34, π zb14 0)] (ag_cons zh483 (ag_nil)) ?_
     have zS485 := zS484.loc
     refine Y.pure_ (π zb14 0) ?_
     exact ⟨zS485.ch, Sp.mk_holds [] (all_nil)⟩
   refine step_cons ?_ ?_
   · intro zy486 zw487 zhc488 zhf489 zhp490
     have zh491 : zy486 35 = π zb14 0 := (Sp.out0 (zhp490 24 35 (by kernel_rfl) (by kernel_rfl))).1
     have zS492 := zS285.quiet zhc488
     refine step1 ?_
     refine yenv [(35, π zb14 0)] (ag_cons zh491 (ag_nil)) ?_
     have zS493 := zS492.loc
     refine Y.pure_ (π zb14 102) ?_
     exact ⟨zS493.ch, Sp.mk_holds [] (all_nil)⟩
   refine step_cons ?_ ?_
   · intro zy494 zw495 zhc496 zhf497 zhp498
     have zh499 : zy494 36 = π zb14 102 := (Sp.out0 (zhp498 25 36 (by kernel_rfl) (by kernel_rfl))).1
     have zS500 := zS285.quiet zhc496
     refine step1 ?_
     refine yenv [(36, π zb14 102)] (ag_cons zh499 (ag_nil)) ?_
     have zS501 := zS500.loc
     refine Y.loadN_ zS501 23 12 #[ι 1, ι 0, ι 0, ι 0, ι 0, ι 0, ι 0, ι 0, ι 0, ι 2, ι 4, ι 0] zb14 102 ?_
     exact ⟨zS501.ch, Sp.mk_holds [] (all_nil)⟩
   refine step_cons ?_ ?_
   · intro zy502 zw503 zhc504 zhf505 zhp506
     have zh507 : zy502 0 = π zb14 0 := (zhf505 0 (by kernel_rfl)).trans (by kernel_rfl)
     have zS508 := zS285.quiet zhc504
     refine step1 ?_
     refine yenv [(0, π zb14 0)] (ag_cons zh507 (ag_nil)) ?_
     have zS509 := zS508.loc
     refine Y.move_ ?_
     exact ⟨zS509.ch, Sp.mk_holds [] (all_nil)⟩
   refine step_cons ?_ ?_
   · intro zy510 zw511 zhc512 zhf513 zhp514
     have zh515 : zy510 38 = π zb14 0 := (Sp.out0 (zhp514 27 38 (by kernel_rfl) (by kernel_rfl))).1
     have zS516 := zS285.quiet zhc512
     refine step1 ?_
     refine yenv [(38, π zb14 0)] (ag_cons zh515 (ag_nil)) ?_
     have zS517 := zS516.loc
     refine Y.pure_ (π zb14 0) ?_
     exact ⟨zS517.ch, Sp.mk_holds [] (all_nil)⟩
   refine step_cons ?_ ?_
   · intro zy518 zw519 zhc520 zhf521 zhp522
     have zh523 : zy518 39 = π zb14 0 := (Sp.out0 (zhp522 28 39 (by kernel_rfl) (by kernel_rfl))).1
     have zS524 := zS285.quiet zhc520
     refine step1 ?_
     refine yenv [(39, π zb14 0)] (ag_cons zh523 (ag_nil)) ?_
     have zS525 := zS524.loc
     refine Y.pure_ (π zb14 56) ?_
     exact ⟨zS525.ch, Sp.mk_holds [] (all_nil)⟩
   refine step_cons ?_ ?_
   · intro zy526 zw527 zhc528 zhf529 zhp530
     have zh531 : zy526 40 = π zb14 56 := (Sp.out0 (zhp530 29 40 (by kernel_rfl) (by kernel_rfl))).1
     have zS532 := zS285.quiet zhc528
     refine step1 ?_
     refine yenv [(40, π zb14 56)] (ag_cons zh531 (ag_nil)) ?_
     have zS533 := zS532.loc
     refine Y.pure_ (π zb14 63) ?_
     exact ⟨zS533.ch, Sp.mk_holds [] (all_nil)⟩
   refine step_cons ?_ ?_
   · intro zy534 zw535 zhc536 zhf537 zhp538
     have zh539 : zy534 41 = π zb14 63 := (Sp.out0 (zhp538 30 41 (by kernel_rfl) (by kernel_rfl))).1
     have zS540 := zS285.quiet zhc536
     refine step1 ?_
     refine yenv [(41, π zb14 63)] (ag_cons zh539 (ag_nil)) ?_
     have zS541 := zS540.loc
     refine Y.load1_ zS541 23 (φ) zb14 63 ?_
     exact ⟨zS541.ch, Sp.mk_holds [] (all_nil)⟩
   refine step_cons ?_ ?_
   · intro zy542 zw543 zhc544 zhf545 zhp546
     have zh547 : zy542 15 = ι 4 := (Sp.out0 (zhp546 4 15 (by kernel_rfl) (by kernel_rfl))).1
     have zh548 : zy542 20 = ι (p.i 55) := (Sp.out0 (zhp546 9 20 (by kernel_rfl) (by kernel_rfl))).1
     have zh549 : zy542 25 = ι (-1) := (Sp.out0 (zhp546 14 25 (by kernel_rfl) (by kernel_rfl))).1
     have zh550 : zy542 29 = ι (p.i 39) := (Sp.out0 (zhp546 18 29 (by kernel_rfl) (by kernel_rfl))).1
     have zh551 : zy542 33 = .agg #[ι 2, ι 4, ι 0] := (Sp.out0 (zhp546 22 33 (by kernel_rfl) (by kernel_rfl))).1
     have zh552 : zy542 37 = .agg #[ι 1, ι 0, ι 0, ι 0, ι 0, ι 0, ι 0, ι 0, ι 0, ι 2, ι 4, ι 0] := (Sp.out0 (zhp546 26 37 (by kernel_rfl) (by kernel_rfl))).1
     have zh553 : zy542 42 = φ := (Sp.out0 (zhp546 31 42 (by kernel_rfl) (by kernel_rfl))).1
     have zS554 := zS285.quiet zhc544
     refine step1 ?_
     refine yenv [(15, ι 4), (20, ι (p.i 55)), (25, ι (-1)), (29, ι (p.i 39)), (33, .agg #[ι 2, ι 4, ι 0]), (37, .agg #[ι 1, ι 0, ι 0, ι 0, ι 0, ι 0, ι 0, ι 0, ι 0, ι 2, ι 4, ι 0]), (42, φ)] (ag_cons zh547 (ag_cons zh548 (ag_cons zh549 (ag_cons zh550 (ag_cons zh551 (ag_cons zh552 (ag_cons zh553 (ag_nil)))))))) ?_
     have zS555 := zS554.loc
     refine Y.pure_ (.agg #[ι 4, ι (p.i 55), ι (-1), ι (p.i 39), ι 2, ι 4, ι 0, ι 1, ι 0, ι 0, ι 0, ι 0, ι 0, ι 0, ι 0, ι 0, ι 2, ι 4, ι 0, .slice none 0 0, φ, φ, φ, φ, φ, ι 0, ι 0, ι 0, ι 0, ι 0, φ]) ?_
     exact ⟨zS555.ch, Sp.mk_holds [] (all_nil)⟩
   refine step_cons ?_ ?_
   · intro zy556 zw557 zhc558 zhf559 zhp560
     have zS561 := zS285.quiet zhc558
     refine step1 ?_
     refine yenv [] (ag_nil) ?_
     have zS562 := zS561.loc
     refine Y.new_ zS562 (fun b => π b 0) (.cells #[ι 0, ι 0, ι 0, ι 0, ι 0, ι 0, ι 0, ι 0, ι 0, ι 0, ι 0, ι 0, ι 0, ι 0, ι 0, ι 0, ι 0, ι 0, ι 0, .slice none 0 0, φ, φ, φ, φ, φ, ι 0, ι 0, ι 0, ι 0, ι 0, φ] 45) ?_
     intro zb563 zw564 zS565
     exact ⟨zS565.ch, Sp.mk_holds [zb563] (all_cons (zS565.isNew zhc558.size 0 (by kernel_rfl)) (all_nil))⟩
   exact step_nil
 intro zv566 zw567 zhc568 zha569
 have zh570 : zv566 0 = π zb14 0 := (Sp.out0 (zha569 0 (by kernel_rfl))).1
 have zh571 : zv566 1 = π zb14 0 := (Sp.out0 (zha569 1 (by kernel_rfl))).1
 have zh572 : zv566 2 = π zb14 56 := (Sp.out0 (zha569 2 (by kernel_rfl))).1
 have zh573 : zv566 3 = π zb14 56 := (Sp.out0 (zha569 3 (by kernel_rfl))).1
 have zh574 : zv566 4 = ι 4 := (Sp.out0 (zha569 4 (by kernel_rfl))).1
 have zh575 : zv566 5 = π zb14 0 := (Sp.out0 (zha569 5 (by kernel_rfl))).1
 have zh576 : zv566 6 = π zb14 0 := (Sp.out0 (zha569 6 (by kernel_rfl))).1
 have zh577 : zv566 7 = π zb14 56 := (Sp.out0 (zha569 7 (by kernel_rfl))).1
 have zh578 : zv566 8 = π zb14 57 := (Sp.out0 (zha569 8 (by kernel_rfl))).1
 have zh579 : zv566 9 = ι (p.i 55) := (Sp.out0 (zha569 9 (by kernel_rfl))).1
 have zh580 : zv566 10 = π zb14 0 := (Sp.out0 (zha569 10 (by kernel_rfl))).1
 have zh581 : zv566 11 = π zb14 0 := (Sp.out0 (zha569 11 (by kernel_rfl))).1
 have zh582 : zv566 12 = π zb14 56 := (Sp.out0 (zha569 12 (by kernel_rfl))).1
 have zh583 : zv566 13 = π zb14 58 := (Sp.out0 (zha569 13 (by kernel_rfl))).1
 have zh584 : zv566 14 = ι (-1) := (Sp.out0 (zha569 14 (by kernel_rfl))).1
 have zh585 : zv566 15 = π zb14 0 := (Sp.out0 (zha569 15 (by kernel_rfl))).1
 have zh586 : zv566 16 = π zb14 0 := (Sp.out0 (zha569 16 (by kernel_rfl))).1
 have zh587 : zv566 17 = π zb14 98 := (Sp.out0 (zha569 17 (by kernel_rfl))).1
 have zh588 : zv566 18 = ι (p.i 39) := (Sp.out0 (zha569 18 (by kernel_rfl))).1
 have zh589 : zv566 19 = π zb14 0 := (Sp.out0 (zha569 19 (by kernel_rfl))).1
 have zh590 : zv566 20 = π zb14 0 := (Sp.out0 (zha569 20 (by kernel_rfl))).1
 have zh591 : zv566 21 = π zb14 99 := (Sp.out0 (zha569 21 (by kernel_rfl))).1
 have zh592 : zv566 22 = .agg #[ι 2, ι 4, ι 0] := (Sp.out0 (zha569 22 (by kernel_rfl))).1
 have zh593 : zv566 23 = π zb14 0 := (Sp.out0 (zha569 23 (by kernel_rfl))).1
 have zh594 : zv566 24 = π zb14 0 := (Sp.out0 (zha569 24 (by kernel_rfl))).1
 have zh595 : zv566 25 = π zb14 102 := (Sp.out0 (zha569 25 (by kernel_rfl))).1
 have zh596 : zv566 26 = .agg #[ι 1, ι 0, ι 0, ι 0, ι 0, ι 0, ι 0, ι 0, ι 0, ι 2, ι 4, ι 0] := (Sp.out0 (zha569 26 (by kernel_rfl))).1
 have zh597 : zv566 27 = π zb14 0 := (Sp.out0 (zha569 27 (by kernel_rfl))).1
 have zh598 : zv566 28 = π zb14 0 := (Sp.out0 (zha569 28 (by kernel_rfl))).1
 have zh599 : zv566 29 = π zb14 56 := (Sp.out0 (zha569 29 (by kernel_rfl))).1
 have zh600 : zv566 30 = π zb14 63 := (Sp.out0 (zha569 30 (by kernel_rfl))).1
 have zh601 : zv566 31 = φ := (Sp.out0 (zha569 31 (by kernel_rfl))).1
 have zh602 : zv566 32 = .agg #[ι 4, ι (p.i 55), ι (-1), ι (p.i 39), ι 2, ι 4, ι 0, ι 1, ι 0, ι 0, ι 0, ι 0, ι 0, ι 0, ι 0, ι 0, ι 2, ι 4, ι 0, .slice none 0 0, φ, φ, φ, φ, φ, ι 0, ι 0, ι 0, ι 0, ι 0, φ] := (Sp.out0 (zha569 32 (by kernel_rfl))).1
 have zo606 := Sp.out1 (zha569 33 (by kernel_rfl))
 obtain ⟨zb604, zh603', zg605'⟩ := zo606
 have zh603 : zv566 33 = π zb604 0 := zh603'
 have zg605 : ∀ zp ∈ ([(zb604, .cells #[ι 0, ι 0, ι 0, ι 0, ι 0, ι 0, ι 0, ι 0, ι 0, ι 0, ι 0, ι 0, ι 0, ι 0, ι 0, ι 0, ι 0, ι 0, ι 0, .slice none 0 0, φ, φ, φ, φ, φ, ι 0, ι 0, ι 0, ι 0, ι 0, φ] 45 (0, 0))] : List (Nat × Obj)), zw284.heap.size ≤ zp.1 ∧ zw567.heap[zp.1]? = some zp.2 := zg605'
 have zS607 := zS285.new zhc568 (zg605 _ (List.Mem.head _)).1 (zg605 _ (List.Mem.head _)).2
 refine ⟨[π zb14 0, π zb14 0, π zb14 56, π zb14 56, ι 4, π zb14 0, π zb14 0, π zb14 56, π zb14 57, ι (p.i 55), π zb14 0, π zb14 0, π zb14 56, π zb14 58, ι (-1), π zb14 0, π zb14 0, π zb14 98, ι (p.i 39), π zb14 0, π zb14 0, π zb14 99, .agg #[ι 2, ι 4, ι 0], π zb14 0, π zb14 0, π zb14 102, .agg #[ι 1, ι 0, ι 0, ι 0, ι 0, ι 0, ι 0, ι 0, ι 0, ι 2, ι 4, ι 0], π zb14 0, π zb14 0, π zb14 56, π zb14 63, φ, .agg #[ι 4, ι (p.i 55), ι (-1), ι (p.i 39), ι 2, ι 4, ι 0, ι 1, ι 0, ι 0, ι 0, ι 0, ι 0, ι 0, ι 0, ι 0, ι 2, ι 4, ι 0, .slice none 0 0, φ, φ, φ, φ, φ, ι 0, ι 0, ι 0, ι 0, ι 0, φ], π zb604 0], by kernel_rfl, va_cons zh570 (va_cons zh571 (va_cons zh572 (va_cons zh573 (va_cons zh574 (va_cons zh575 (va_cons zh576 (va_cons zh577 (va_cons zh578 (va_cons zh579 (va_cons zh580 (va_cons zh581 (va_cons zh582 (va_cons zh583 (va_cons zh584 (va_cons zh585 (va_cons zh586 (va_cons zh587 (va_cons zh588 (va_cons zh589 (va_cons zh590 (va_cons zh591 (va_cons zh592 (va_cons zh593 (va_cons zh594 (va_cons zh595 (va_cons zh596 (va_cons zh597 (va_cons zh598 (va_cons zh599 (va_cons zh600 (va_cons zh601 (va_cons zh602 (va_cons zh603 (va_nil)))))))))))))))))))))))))))))))))), ?_⟩
 refine store_ zS607 0 (.agg #[ι 4, ι (p.i 55), ι (-1), ι (p.i 39), ι 2, ι 4, ι 0, ι 1, ι 0, ι 0, ι 0, ι 0, ι 0, ι 0, ι 0, ι 0, ι 2, ι 4, ι 0, .slice none 0 0, φ, φ, φ, φ, φ, ι 0, ι 0, ι 0, ι 0, ι 0, φ]) zb604 0 ?_
 intro zw608 zS609
 refine nil_ (then_n (seq_ (seq_ (reg_ (move_ (pure_ (π zb14 0) (pure_ (π zb14 64) (load1_ zS609 24 (π zb15 0) zb14 64 (call_ 39 #[π zb15 0] (enter_ Tryz.func39 rfl (seq_ (reg_ (pure_ (.slice none 0 0) (nsr_ (pure_ (.slice none 0 0) (nil_ (then_n (seq_ (seq_ (reg_ (move_ (call_ 78 #[π zb15 0] (enter_ Tryz.func78 rfl (seq_ (reg_ (pure_ (.slice none 0 0) (nsr_ (move_ (pure_ (π zb15 0) (pure_ (π zb15 0) (load1_ zS609 25 (.slice none 0 0) zb15 0 (call_ 112 #[.slice none 0 0] (enter_ Tryz.func112 rfl (seq_ (reg_ (pure_ (.slice none 0 0) (nil_ (then_n (seq_ (seq_ (reg_ (pure_ (.slice none 0 0) (pure_ (τ) (nil_ (then_n (cond_T (seq_ (reg_ (pure_ (.slice none 0 0) (nil_ (then_n (wp_ret (then_r (ret_ rfl (res_ [.tmp 2] [.slice none 0 0] (.slice none 0 0) ⟨res_tmp, trivial⟩) (pure_ (.slice none 0 0) (nsr_ (pure_ (.slice none 0 0) ?_)))))))))))))))))))))))))))))))))))))))))))))))))))))))))
 refine pure_ (.iface 151 (.slice none 0 0)) (call_ 113 #[.iface 151 (.slice none 0 0)] (enter_ Tryz.func113 rfl (seq_ (reg_ (move_ (call_ 277 #[.slice none 0 0] (enter_ Tryz.func277 rfl (seq_ (reg_ (pure_ (ι 0) (nsr_ (pure_ (.slice none 0 0) (pure_ (ι 0) (pure_ (ι 0) (nil_ (then_n (wp_ret (ret_ rfl (res_ [.tmp 2] [ι 0] (ι 0) ⟨res_tmp, trivial⟩) (pure_ (ι 0) (nil_ (then_n (seq_ (seq_ (reg_ (pure_ (ι 0) (pure_ (τ) (nil_ (then_n (cond_T (wp_ret (then_r (ret_ rfl (res_ [] [] (.tuple #[]) trivial) (nsr_ (pure_ (.slice none 0 0) (pure_ (.slice none 0 0) (nil_ (then_n (wp_ret (ret_ rfl (res_ [.tmp 2] [.slice none 0 0] (.slice none 0 0) ⟨res_tmp, trivial⟩) (pure_ (ι 0) (pure_ (ι 0) (nil_ (then_n (wp_block (loop_ 24 (seq_ (reg_ (pure_ (φ) (nil_ (then_n (seq_ (cond_F (wp_exit (then_e (then_e (blk_e (then_n (seq_ (reg_ ?_)))))))))))))))))))))))))))))))))))))))))))))))))))))))))))
 refine pure_ (.slice none 0 0) (pure_ (.slice none 0 0) (nil_ (then_n (wp_ret (ret_ rfl (res_ [.tmp 2] [.slice none 0 0] (.slice none 0 0) ⟨res_tmp, trivial⟩) (pure_ (ι 0) (pure_ (ι 0) (nil_ (then_n (wp_block (loop_ 24 (seq_ (reg_ (pure_ (φ) (nil_ (then_n (seq_ (cond_F (wp_exit (then_e (then_e (blk_e (then_n (seq_ (seq_ (reg_ (pure_ (ι 0) (nil_ (then_n (wp_block (loop_ 24 (seq_ (reg_ (pure_ (τ) (nil_ (then_n (seq_ (cond_T (wp_skip (then_n (seq_ (wp_block (seq_ (reg_ (pure_ (ι 0) (pure_ (ι 0) (nsr_ (pure_ (ι 0) (move_ (pure_ (π zb14 0) (pure_ (π zb14 95) (load1_ zS609 24 (π zb16 0) zb14 95 (pure_ (ι 0) (call_ 40 #[π zb16 0, ι 0] (enter_ Tryz.func40 rfl (seq_ (reg_ (pure_ (φ) (nil_ (then_n (seq_ (seq_ (reg_ (pure_ (ι 0) (nil_ (then_n (wp_block (seq_ (reg_ (pure_ (φ) (pure_ (φ) (nil_ (then_n (cond_F ?_))))))))))))))))))))))))))))))))))))))))))))))))))))))))))))))))))))))))))
 refine seq_ (reg_ (pure_ (τ) (pure_ (τ) (nil_ (then_n (cond_T (seq_ (reg_ (move_ (pure_ (π zb16 0) (pure_ (π zb16 0) (pure_ (π zb16 0) (load1_ zS609 26 (φ) zb16 0 (pure_ (φ) (nil_ (then_n (wp_ret (blk_r (then_r (ret_ rfl (res_ [.tmp 4] [φ] (φ) ⟨res_tmp, trivial⟩) (pure_ (π zb604 20) (pure_ (π zb604 20) ?_))))))))))))))))))))))
 refine store_ zS609 0 (φ) zb604 20 ?_
 intro zw610 zS611
 refine ns_ (pure_ (ι 0) (move_ (pure_ (π zb14 0) (pure_ (π zb14 95) (load1_ zS611 24 (π zb16 0) zb14 95 (pure_ (ι 0) (call_ 41 #[π zb16 0, ι 0] (enter_ Tryz.func41 rfl (seq_ (reg_ (pure_ (ι 0) (nsr_ (move_ (pure_ (ι 0) (call_ 79 #[π zb16 0, ι 0] (enter_ Tryz.func79 rfl (seq_ (reg_ (pure_ (.pointer none) (nil_ (then_n (seq_ (seq_ (reg_ (pure_ (ι 0) (pure_ (τ) (pure_ (τ) (skip_ (skip_ (pure_ (τ) (pure_ (τ) (skip_ (skip_ (skip_ (skip_ (skip_ (skip_ (skip_ (skip_ (skip_ (skip_ (pure_ (τ) (nil_ (then_n (cond_T (seq_ (reg_ (pure_ (.pointer none) (nil_ (then_n (wp_ret (then_r (ret_ rfl (res_ [.tmp 4] [.pointer none] (.pointer none) ⟨res_tmp, trivial⟩) (pure_ (.pointer none) (nil_ (then_n (seq_ (seq_ (reg_ (pure_ (.pointer none) (pure_ (τ) (nil_ (then_n (cond_T (seq_ (reg_ (pure_ (ι 0) ?_)))))))))))))))))))))))))))))))))))))))))))))))))))))))))))))))))))
 refine nil_ (then_n (wp_ret (then_r (ret_ rfl (res_ [.tmp 4] [ι 0] (ι 0) ⟨res_tmp, trivial⟩) (pure_ (π zb604 25) (pure_ (π zb604 25) ?_))))))
 refine store_ zS611 0 (ι 0) zb604 25 ?_
 intro zw612 zS613
 refine nil_ (blk_n (then_n (reg_ (pure_ (ι 1) (pure_ (ι 1) (nil_ ?_))))))
 have zS614 : St [] zw1 ([(β zb604 #[ι 4, ι (p.i 55), ι (-1), ι (p.i 39), ι 2, ι 4, ι 0, ι 1, ι 0, ι 0, ι 0, ι 0, ι 0, ι 0, ι 0, ι 0, ι 2, ι 4, ι 0, .slice none 0 0, φ, φ, φ, φ, φ, ι 0, ι 0, ι 0, ι 0, ι 0, φ] 45), (β zb283 #[ι 0, ι 0, ι 0, ι 0, ι 0, ι 0, ι 0, ι 0, ι 0, ι 0, ι 0, ι 0, ι 0, ι 0, ι 0, ι 0, ι 0, ι 0, ι 0, .slice none 0 0, φ, φ, φ, φ, φ, ι 0, ι 0, ι 0, ι 0, ι 0, φ] 45), (β zb278 #[ι (p.i 39), ι 1, ι 0, ι 0, ι 0, ι 0, ι 2, ι 4, ι 0, ι 2, ι 4, ι 0, σ zb116 0 1 zc117, σ zb130 0 1 zc131, υ ((nextF (fun _ => 0) (⟨2, 1, 0, (p.i 55), 0, 0⟩ : Sd.Rec)) 0), υ ((nextF (fun _ => 0) (⟨2, 1, 0, (p.i 55), 0, 0⟩ : Sd.Rec)) 1), υ ((nextF (fun _ => 0) (⟨2, 1, 0, (p.i 55), 0, 0⟩ : Sd.Rec)) 2), υ ((nextF (fun _ => 0) (⟨2, 1, 0, (p.i 55), 0, 0⟩ : Sd.Rec)) 3), υ ((nextF (fun _ => 0) (⟨2, 1, 0, (p.i 55), 0, 0⟩ : Sd.Rec)) 4), υ ((nextF (fun _ => 0) (⟨2, 1, 0, (p.i 55), 0, 0⟩ : Sd.Rec)) 5), υ ((nextF (fun _ => 0) (⟨2, 1, 0, (p.i 55), 0, 0⟩ : Sd.Rec)) 6), υ ((nextF (fun _ => 0) (⟨2, 1, 0, (p.i 55), 0, 0⟩ : Sd.Rec)) 7), υ ((nextF (fun _ => 0) (⟨2, 1, 0, (p.i 55), 0, 0⟩ : Sd.Rec)) 8), υ ((nextF (fun _ => 0) (⟨2, 1, 0, (p.i 55), 0, 0⟩ : Sd.Rec)) 9), υ ((nextF (fun _ => 0) (⟨2, 1, 0, (p.i 55), 0, 0⟩ : Sd.Rec)) 10), υ ((nextF (fun _ => 0) (⟨2, 1, 0, (p.i 55), 0, 0⟩ : Sd.Rec)) 11), υ ((nextF (fun _ => 0) (⟨2, 1, 0, (p.i 55), 0, 0⟩ : Sd.Rec)) 12), υ ((nextF (fun _ => 0) (⟨2, 1, 0, (p.i 55), 0, 0⟩ : Sd.Rec)) 13), υ ((nextF (fun _ => 0) (⟨2, 1, 0, (p.i 55), 0, 0⟩ : Sd.Rec)) 14), υ ((nextF (fun _ => 0) (⟨2, 1, 0, (p.i 55), 0, 0⟩ : Sd.Rec)) 15), υ ((nextF (fun _ => 0) (⟨2, 1, 0, (p.i 55), 0, 0⟩ : Sd.Rec)) 16), υ ((nextF (fun _ => 0) (⟨2, 1, 0, (p.i 55), 0, 0⟩ : Sd.Rec)) 17), υ ((nextF (fun _ => 0) (⟨2, 1, 0, (p.i 55), 0, 0⟩ : Sd.Rec)) 18), υ ((nextF (fun _ => 0) (⟨2, 1, 0, (p.i 55), 0, 0⟩ : Sd.Rec)) 19), υ ((nextF (fun _ => 0) (⟨2, 1, 0, (p.i 55), 0, 0⟩ : Sd.Rec)) 20), υ ((nextF (fun _ => 0) (⟨2, 1, 0, (p.i 55), 0, 0⟩ : Sd.Rec)) 21), υ ((nextF (fun _ => 0) (⟨2, 1, 0, (p.i 55), 0, 0⟩ : Sd.Rec)) 22), υ ((nextF (fun _ => 0) (⟨2, 1, 0, (p.i 55), 0, 0⟩ : Sd.Rec)) 23), υ ((nextF (fun _ => 0) (⟨2, 1, 0, (p.i 55), 0, 0⟩ : Sd.Rec)) 24), υ ((nextF (fun _ => 0) (⟨2, 1, 0, (p.i 55), 0, 0⟩ : Sd.Rec)) 25), υ ((nextF (fun _ => 0) (⟨2, 1, 0, (p.i 55), 0, 0⟩ : Sd.Rec)) 26), υ ((nextF (fun _ => 0) (⟨2, 1, 0, (p.i 55), 0, 0⟩ : Sd.Rec)) 27), υ ((nextF (fun _ => 0) (⟨2, 1, 0, (p.i 55), 0, 0⟩ : Sd.Rec)) 28), υ ((nextF (fun _ => 0) (⟨2, 1, 0, (p.i 55), 0, 0⟩ : Sd.Rec)) 29), υ ((nextF (fun _ => 0) (⟨2, 1, 0, (p.i 55), 0, 0⟩ : Sd.Rec)) 30), υ ((nextF (fun _ => 0) (⟨2, 1, 0, (p.i 55), 0, 0⟩ : Sd.Rec)) 31)] 54), (β zb130 ((([ι 2, ι 1, ι 0, ι (p.i 55), ι 0, ι 0] : List Value) ++ zt132).toArray) 71), (β zb116 ((([ι 1, σ zb108 0 14 zc109] : List Value) ++ zt118).toArray) 74), (β zb108 (bvZ 14 (frmF 9 (rpF129 (nonceF (kn 3) (kf 3) 1 (0 + 1)))) zc109) 5), (β zb25 #[υ 1, υ 1] 5), (β zb14 (coreV p zx17 kn zc18 (⟨4, (p.i 55), (-1), (⟨0, 0⟩ : Sd.Timer), (⟨0, 0⟩ : Sd.Timer), false⟩ : Sd.Tok) zb15 (f3 (⟨(0 + 1), true, (nonceF (kn 3) (kf 3) 1 (0 + 1))⟩ : Sd.Door) (⟨(0 : Int), false, (fun _ => 0)⟩ : Sd.Door) (⟨(0 : Int), false, (fun _ => 0)⟩ : Sd.Door)) zb16 (0 : Int) (0 : Int) (p.i 39) (⟨2, 4, 0⟩ : Sd.Label) (⟨1, (⟨0, 0, 0, 0⟩ : Sd.X4), (⟨0, 0, 0, 0⟩ : Sd.X4), (⟨2, 4, 0⟩ : Sd.Label)⟩ : Sd.Point) (nextF (fun _ => 0) (⟨2, 1, 0, (p.i 55), 0, 0⟩ : Sd.Rec))) 101), (β zb15 #[.slice none 0 0, ι (p.i 48), .int .u64 0] 153), (β zb16 (tabV (false, (⟨(0 : Int), (0 : Int)⟩ : Sd.Timer)) (f3 (⟨false, ⟨(0 : Int), (0 : Int)⟩, (0 : Int), (fun _ => 0), ⟨false, (0 : Int), (0 : Int)⟩⟩ : Sd.Session) (⟨false, ⟨(0 : Int), (0 : Int)⟩, (0 : Int), (fun _ => 0), ⟨false, (0 : Int), (0 : Int)⟩⟩ : Sd.Session) (⟨false, ⟨(0 : Int), (0 : Int)⟩, (0 : Int), (fun _ => 0), ⟨false, (0 : Int), (0 : Int)⟩⟩ : Sd.Session)) (p.i 42) (p.i 49)) 162), (β zb5 (polP p ka kn kc) 28), ⟨(0), false, .cells (rowF .u32 64 rootF) tG (0, 0)⟩] ++ ((zq19 0) ++ ((zq19 1) ++ ((zq19 2) ++ ((zq19 3) ++ ([] : List Blk)))))) zw612 := zS613.re (R := ([] : List Blk)) [[(β zb604 #[ι 4, ι (p.i 55), ι (-1), ι (p.i 39), ι 2, ι 4, ι 0, ι 1, ι 0, ι 0, ι 0, ι 0, ι 0, ι 0, ι 0, ι 0, ι 2, ι 4, ι 0, .slice none 0 0, φ, φ, φ, φ, φ, ι 0, ι 0, ι 0, ι 0, ι 0, φ] 45)], [(β zb283 #[ι 0, ι 0, ι 0, ι 0, ι 0, ι 0, ι 0, ι 0, ι 0, ι 0, ι 0, ι 0, ι 0, ι 0, ι 0, ι 0, ι 0, ι 0, ι 0, .slice none 0 0, φ, φ, φ, φ, φ, ι 0, ι 0, ι 0, ι 0, ι 0, φ] 45)], [(β zb278 #[ι (p.i 39), ι 1, ι 0, ι 0, ι 0, ι 0, ι 2, ι 4, ι 0, ι 2, ι 4, ι 0, σ zb116 0 1 zc117, σ zb130 0 1 zc131, υ ((nextF (fun _ => 0) (⟨2, 1, 0, (p.i 55), 0, 0⟩ : Sd.Rec)) 0), υ ((nextF (fun _ => 0) (⟨2, 1, 0, (p.i 55), 0, 0⟩ : Sd.Rec)) 1), υ ((nextF (fun _ => 0) (⟨2, 1, 0, (p.i 55), 0, 0⟩ : Sd.Rec)) 2), υ ((nextF (fun _ => 0) (⟨2, 1, 0, (p.i 55), 0, 0⟩ : Sd.Rec)) 3), υ ((nextF (fun _ => 0) (⟨2, 1, 0, (p.i 55), 0, 0⟩ : Sd.Rec)) 4), υ ((nextF (fun _ => 0) (⟨2, 1, 0, (p.i 55), 0, 0⟩ : Sd.Rec)) 5), υ ((nextF (fun _ => 0) (⟨2, 1, 0, (p.i 55), 0, 0⟩ : Sd.Rec)) 6), υ ((nextF (fun _ => 0) (⟨2, 1, 0, (p.i 55), 0, 0⟩ : Sd.Rec)) 7), υ ((nextF (fun _ => 0) (⟨2, 1, 0, (p.i 55), 0, 0⟩ : Sd.Rec)) 8), υ ((nextF (fun _ => 0) (⟨2, 1, 0, (p.i 55), 0, 0⟩ : Sd.Rec)) 9), υ ((nextF (fun _ => 0) (⟨2, 1, 0, (p.i 55), 0, 0⟩ : Sd.Rec)) 10), υ ((nextF (fun _ => 0) (⟨2, 1, 0, (p.i 55), 0, 0⟩ : Sd.Rec)) 11), υ ((nextF (fun _ => 0) (⟨2, 1, 0, (p.i 55), 0, 0⟩ : Sd.Rec)) 12), υ ((nextF (fun _ => 0) (⟨2, 1, 0, (p.i 55), 0, 0⟩ : Sd.Rec)) 13), υ ((nextF (fun _ => 0) (⟨2, 1, 0, (p.i 55), 0, 0⟩ : Sd.Rec)) 14), υ ((nextF (fun _ => 0) (⟨2, 1, 0, (p.i 55), 0, 0⟩ : Sd.Rec)) 15), υ ((nextF (fun _ => 0) (⟨2, 1, 0, (p.i 55), 0, 0⟩ : Sd.Rec)) 16), υ ((nextF (fun _ => 0) (⟨2, 1, 0, (p.i 55), 0, 0⟩ : Sd.Rec)) 17), υ ((nextF (fun _ => 0) (⟨2, 1, 0, (p.i 55), 0, 0⟩ : Sd.Rec)) 18), υ ((nextF (fun _ => 0) (⟨2, 1, 0, (p.i 55), 0, 0⟩ : Sd.Rec)) 19), υ ((nextF (fun _ => 0) (⟨2, 1, 0, (p.i 55), 0, 0⟩ : Sd.Rec)) 20), υ ((nextF (fun _ => 0) (⟨2, 1, 0, (p.i 55), 0, 0⟩ : Sd.Rec)) 21), υ ((nextF (fun _ => 0) (⟨2, 1, 0, (p.i 55), 0, 0⟩ : Sd.Rec)) 22), υ ((nextF (fun _ => 0) (⟨2, 1, 0, (p.i 55), 0, 0⟩ : Sd.Rec)) 23), υ ((nextF (fun _ => 0) (⟨2, 1, 0, (p.i 55), 0, 0⟩ : Sd.Rec)) 24), υ ((nextF (fun _ => 0) (⟨2, 1, 0, (p.i 55), 0, 0⟩ : Sd.Rec)) 25), υ ((nextF (fun _ => 0) (⟨2, 1, 0, (p.i 55), 0, 0⟩ : Sd.Rec)) 26), υ ((nextF (fun _ => 0) (⟨2, 1, 0, (p.i 55), 0, 0⟩ : Sd.Rec)) 27), υ ((nextF (fun _ => 0) (⟨2, 1, 0, (p.i 55), 0, 0⟩ : Sd.Rec)) 28), υ ((nextF (fun _ => 0) (⟨2, 1, 0, (p.i 55), 0, 0⟩ : Sd.Rec)) 29), υ ((nextF (fun _ => 0) (⟨2, 1, 0, (p.i 55), 0, 0⟩ : Sd.Rec)) 30), υ ((nextF (fun _ => 0) (⟨2, 1, 0, (p.i 55), 0, 0⟩ : Sd.Rec)) 31)] 54)], [(β zb268 #[ι (p.i 39), ι 1, ι 0, ι 0, ι 0, ι 0, ι 2, ι 4, ι 0, ι 2, ι 4, ι 0, σ zb116 0 1 zc117, σ zb130 0 1 zc131, υ ((nextF (fun _ => 0) (⟨2, 1, 0, (p.i 55), 0, 0⟩ : Sd.Rec)) 0), υ ((nextF (fun _ => 0) (⟨2, 1, 0, (p.i 55), 0, 0⟩ : Sd.Rec)) 1), υ ((nextF (fun _ => 0) (⟨2, 1, 0, (p.i 55), 0, 0⟩ : Sd.Rec)) 2), υ ((nextF (fun _ => 0) (⟨2, 1, 0, (p.i 55), 0, 0⟩ : Sd.Rec)) 3), υ ((nextF (fun _ => 0) (⟨2, 1, 0, (p.i 55), 0, 0⟩ : Sd.Rec)) 4), υ ((nextF (fun _ => 0) (⟨2, 1, 0, (p.i 55), 0, 0⟩ : Sd.Rec)) 5), υ ((nextF (fun _ => 0) (⟨2, 1, 0, (p.i 55), 0, 0⟩ : Sd.Rec)) 6), υ ((nextF (fun _ => 0) (⟨2, 1, 0, (p.i 55), 0, 0⟩ : Sd.Rec)) 7), υ ((nextF (fun _ => 0) (⟨2, 1, 0, (p.i 55), 0, 0⟩ : Sd.Rec)) 8), υ ((nextF (fun _ => 0) (⟨2, 1, 0, (p.i 55), 0, 0⟩ : Sd.Rec)) 9), υ ((nextF (fun _ => 0) (⟨2, 1, 0, (p.i 55), 0, 0⟩ : Sd.Rec)) 10), υ ((nextF (fun _ => 0) (⟨2, 1, 0, (p.i 55), 0, 0⟩ : Sd.Rec)) 11), υ ((nextF (fun _ => 0) (⟨2, 1, 0, (p.i 55), 0, 0⟩ : Sd.Rec)) 12), υ ((nextF (fun _ => 0) (⟨2, 1, 0, (p.i 55), 0, 0⟩ : Sd.Rec)) 13), υ ((nextF (fun _ => 0) (⟨2, 1, 0, (p.i 55), 0, 0⟩ : Sd.Rec)) 14), υ ((nextF (fun _ => 0) (⟨2, 1, 0, (p.i 55), 0, 0⟩ : Sd.Rec)) 15), υ ((nextF (fun _ => 0) (⟨2, 1, 0, (p.i 55), 0, 0⟩ : Sd.Rec)) 16), υ ((nextF (fun _ => 0) (⟨2, 1, 0, (p.i 55), 0, 0⟩ : Sd.Rec)) 17), υ ((nextF (fun _ => 0) (⟨2, 1, 0, (p.i 55), 0, 0⟩ : Sd.Rec)) 18), υ ((nextF (fun _ => 0) (⟨2, 1, 0, (p.i 55), 0, 0⟩ : Sd.Rec)) 19), υ ((nextF (fun _ => 0) (⟨2, 1, 0, (p.i 55), 0, 0⟩ : Sd.Rec)) 20), υ ((nextF (fun _ => 0) (⟨2, 1, 0, (p.i 55), 0, 0⟩ : Sd.Rec)) 21), υ ((nextF (fun _ => 0) (⟨2, 1, 0, (p.i 55), 0, 0⟩ : Sd.Rec)) 22), υ ((nextF (fun _ => 0) (⟨2, 1, 0, (p.i 55), 0, 0⟩ : Sd.Rec)) 23), υ ((nextF (fun _ => 0) (⟨2, 1, 0, (p.i 55), 0, 0⟩ : Sd.Rec)) 24), υ ((nextF (fun _ => 0) (⟨2, 1, 0, (p.i 55), 0, 0⟩ : Sd.Rec)) 25), υ ((nextF (fun _ => 0) (⟨2, 1, 0, (p.i 55), 0, 0⟩ : Sd.Rec)) 26), υ ((nextF (fun _ => 0) (⟨2, 1, 0, (p.i 55), 0, 0⟩ : Sd.Rec)) 27), υ ((nextF (fun _ => 0) (⟨2, 1, 0, (p.i 55), 0, 0⟩ : Sd.Rec)) 28), υ ((nextF (fun _ => 0) (⟨2, 1, 0, (p.i 55), 0, 0⟩ : Sd.Rec)) 29), υ ((nextF (fun _ => 0) (⟨2, 1, 0, (p.i 55), 0, 0⟩ : Sd.Rec)) 30), υ ((nextF (fun _ => 0) (⟨2, 1, 0, (p.i 55), 0, 0⟩ : Sd.Rec)) 31)] 54)], [(β zb130 ((([ι 2, ι 1, ι 0, ι (p.i 55), ι 0, ι 0] : List Value) ++ zt132).toArray) 71)], [(β zb125 #[ι 2, ι 1, ι 0, ι (p.i 55), ι 0, ι 0] 71)], [(β zb116 ((([ι 1, σ zb108 0 14 zc109] : List Value) ++ zt118).toArray) 74)], [(β zb113 #[ι 1, σ zb108 0 14 zc109] 74)], [(β zb108 (bvZ 14 (frmF 9 (rpF129 (nonceF (kn 3) (kf 3) 1 (0 + 1)))) zc109) 5)], [(β zb100 (bvZ 9 (rpF129 (nonceF (kn 3) (kf 3) 1 (0 + 1))) zc101) 5)], [(β zb94 #[ι 129, ι 0, ι 0, ι 0, ι 0, ι 0, υ ((nonceF (kn 3) (kf 3) 1 (0 + 1)) 0), υ ((nonceF (kn 3) (kf 3) 1 (0 + 1)) 1), υ ((nonceF (kn 3) (kf 3) 1 (0 + 1)) 2), υ ((nonceF (kn 3) (kf 3) 1 (0 + 1)) 3), υ ((nonceF (kn 3) (kf 3) 1 (0 + 1)) 4), υ ((nonceF (kn 3) (kf 3) 1 (0 + 1)) 5), υ ((nonceF (kn 3) (kf 3) 1 (0 + 1)) 6), υ ((nonceF (kn 3) (kf 3) 1 (0 + 1)) 7)] 80)], [(β (zi85<|23) #[ι (0 + 1), τ, υ ((nonceF (kn 3) (kf 3) 1 (0 + 1)) 0), υ ((nonceF (kn 3) (kf 3) 1 (0 + 1)) 1), υ ((nonceF (kn 3) (kf 3) 1 (0 + 1)) 2), υ ((nonceF (kn 3) (kf 3) 1 (0 + 1)) 3), υ ((nonceF (kn 3) (kf 3) 1 (0 + 1)) 4), υ ((nonceF (kn 3) (kf 3) 1 (0 + 1)) 5), υ ((nonceF (kn 3) (kf 3) 1 (0 + 1)) 6), υ ((nonceF (kn 3) (kf 3) 1 (0 + 1)) 7)] 98)], [(β zb74 #[ι 1, ι 0, ι 1, ι 0, ι 0, ι 0, ι 0, φ, ι 0, ι 0, ι 0, ι 0] 201)], [(β zb67 #[ι 1, ι 0, ι 3, .func (.func 179) #[] #[π zb53 0], .func (.func 180) #[] #[π zb53 0]] 190)], [(β zb59 #[ι 1, ι 0, ι 3, .func (.func 179) #[] #[π zb53 0], .func (.func 180) #[] #[π zb53 0]] 190)], [(β zb56 #[ι 1, ι 0, ι 3, .func (.func 179) #[] #[π zb53 0], .func (.func 180) #[] #[π zb53 0]] 190)], [(β zb53 #[π zb45 2] 194)], [(β zb45 #[ι 1, ι 0, ι 1, ι 0, ι 0, ι 0, ι 0, φ, ι 0, ι 0, ι 0, ι 0] 201)], [(β zb42 #[ι 1, ι 0, ι 1, ι 0, ι 0, ι 0, ι 0, φ, ι 0, ι 0, ι 0, ι 0] 201)], [(β zb39 #[ι 0, σ zb25 0 2 2] 62)], [(β zb34 #[π zb14 0, σ zb116 0 1 zc117, σ zb130 0 1 zc131] 127)], [(β zb31 #[ι (p.i 39), ι 1, ι 0, ι 0, ι 0, ι 0, ι 2, ι 4, ι 0, ι 2, ι 4, ι 0, σ zb116 0 1 zc117, σ zb130 0 1 zc131, υ ((nextF (fun _ => 0) (⟨2, 1, 0, (p.i 55), 0, 0⟩ : Sd.Rec)) 0), υ ((nextF (fun _ => 0) (⟨2, 1, 0, (p.i 55), 0, 0⟩ : Sd.Rec)) 1), υ ((nextF (fun _ => 0) (⟨2, 1, 0, (p.i 55), 0, 0⟩ : Sd.Rec)) 2), υ ((nextF (fun _ => 0) (⟨2, 1, 0, (p.i 55), 0, 0⟩ : Sd.Rec)) 3), υ ((nextF (fun _ => 0) (⟨2, 1, 0, (p.i 55), 0, 0⟩ : Sd.Rec)) 4), υ ((nextF (fun _ => 0) (⟨2, 1, 0, (p.i 55), 0, 0⟩ : Sd.Rec)) 5), υ ((nextF (fun _ => 0) (⟨2, 1, 0, (p.i 55), 0, 0⟩ : Sd.Rec)) 6), υ ((nextF (fun _ => 0) (⟨2, 1, 0, (p.i 55), 0, 0⟩ : Sd.Rec)) 7), υ ((nextF (fun _ => 0) (⟨2, 1, 0, (p.i 55), 0, 0⟩ : Sd.Rec)) 8), υ ((nextF (fun _ => 0) (⟨2, 1, 0, (p.i 55), 0, 0⟩ : Sd.Rec)) 9), υ ((nextF (fun _ => 0) (⟨2, 1, 0, (p.i 55), 0, 0⟩ : Sd.Rec)) 10), υ ((nextF (fun _ => 0) (⟨2, 1, 0, (p.i 55), 0, 0⟩ : Sd.Rec)) 11), υ ((nextF (fun _ => 0) (⟨2, 1, 0, (p.i 55), 0, 0⟩ : Sd.Rec)) 12), υ ((nextF (fun _ => 0) (⟨2, 1, 0, (p.i 55), 0, 0⟩ : Sd.Rec)) 13), υ ((nextF (fun _ => 0) (⟨2, 1, 0, (p.i 55), 0, 0⟩ : Sd.Rec)) 14), υ ((nextF (fun _ => 0) (⟨2, 1, 0, (p.i 55), 0, 0⟩ : Sd.Rec)) 15), υ ((nextF (fun _ => 0) (⟨2, 1, 0, (p.i 55), 0, 0⟩ : Sd.Rec)) 16), υ ((nextF (fun _ => 0) (⟨2, 1, 0, (p.i 55), 0, 0⟩ : Sd.Rec)) 17), υ ((nextF (fun _ => 0) (⟨2, 1, 0, (p.i 55), 0, 0⟩ : Sd.Rec)) 18), υ ((nextF (fun _ => 0) (⟨2, 1, 0, (p.i 55), 0, 0⟩ : Sd.Rec)) 19), υ ((nextF (fun _ => 0) (⟨2, 1, 0, (p.i 55), 0, 0⟩ : Sd.Rec)) 20), υ ((nextF (fun _ => 0) (⟨2, 1, 0, (p.i 55), 0, 0⟩ : Sd.Rec)) 21), υ ((nextF (fun _ => 0) (⟨2, 1, 0, (p.i 55), 0, 0⟩ : Sd.Rec)) 22), υ ((nextF (fun _ => 0) (⟨2, 1, 0, (p.i 55), 0, 0⟩ : Sd.Rec)) 23), υ ((nextF (fun _ => 0) (⟨2, 1, 0, (p.i 55), 0, 0⟩ : Sd.Rec)) 24), υ ((nextF (fun _ => 0) (⟨2, 1, 0, (p.i 55), 0, 0⟩ : Sd.Rec)) 25), υ ((nextF (fun _ => 0) (⟨2, 1, 0, (p.i 55), 0, 0⟩ : Sd.Rec)) 26), υ ((nextF (fun _ => 0) (⟨2, 1, 0, (p.i 55), 0, 0⟩ : Sd.Rec)) 27), υ ((nextF (fun _ => 0) (⟨2, 1, 0, (p.i 55), 0, 0⟩ : Sd.Rec)) 28), υ ((nextF (fun _ => 0) (⟨2, 1, 0, (p.i 55), 0, 0⟩ : Sd.Rec)) 29), υ ((nextF (fun _ => 0) (⟨2, 1, 0, (p.i 55), 0, 0⟩ : Sd.Rec)) 30), υ ((nextF (fun _ => 0) (⟨2, 1, 0, (p.i 55), 0, 0⟩ : Sd.Rec)) 31)] 54)], [(β zb28 #[ι 0, σ zb25 0 2 2] 62)], [(β zb25 #[υ 1, υ 1] 5)], [(β zb14 (coreV p zx17 kn zc18 (⟨4, (p.i 55), (-1), (⟨0, 0⟩ : Sd.Timer), (⟨0, 0⟩ : Sd.Timer), false⟩ : Sd.Tok) zb15 (f3 (⟨(0 + 1), true, (nonceF (kn 3) (kf 3) 1 (0 + 1))⟩ : Sd.Door) (⟨(0 : Int), false, (fun _ => 0)⟩ : Sd.Door) (⟨(0 : Int), false, (fun _ => 0)⟩ : Sd.Door)) zb16 (0 : Int) (0 : Int) (p.i 39) (⟨2, 4, 0⟩ : Sd.Label) (⟨1, (⟨0, 0, 0, 0⟩ : Sd.X4), (⟨0, 0, 0, 0⟩ : Sd.X4), (⟨2, 4, 0⟩ : Sd.Label)⟩ : Sd.Point) (nextF (fun _ => 0) (⟨2, 1, 0, (p.i 55), 0, 0⟩ : Sd.Rec))) 101)], [(β zb15 #[.slice none 0 0, ι (p.i 48), .int .u64 0] 153)], [(β zb16 (tabV (false, (⟨(0 : Int), (0 : Int)⟩ : Sd.Timer)) (f3 (⟨false, ⟨(0 : Int), (0 : Int)⟩, (0 : Int), (fun _ => 0), ⟨false, (0 : Int), (0 : Int)⟩⟩ : Sd.Session) (⟨false, ⟨(0 : Int), (0 : Int)⟩, (0 : Int), (fun _ => 0), ⟨false, (0 : Int), (0 : Int)⟩⟩ : Sd.Session) (⟨false, ⟨(0 : Int), (0 : Int)⟩, (0 : Int), (fun _ => 0), ⟨false, (0 : Int), (0 : Int)⟩⟩ : Sd.Session)) (p.i 42) (p.i 49)) 162)], [(β zb5 (polP p ka kn kc) 28)], [⟨(0), false, .cells (rowF .u32 64 rootF) tG (0, 0)⟩], (zq19 0), (zq19 1), (zq19 2), (zq19 3)] [0, 1, 2, 4, 6, 8, 23, 24, 25, 26, 27, 28, 29, 30, 31, 32]
 refine again_ (seq_ (reg_ (pure_ (τ) (nil_ (then_n (seq_ (cond_T (wp_skip (then_n (seq_ (wp_block (seq_ (reg_ (pure_ (ι 1) (pure_ (ι 1) (nsr_ (pure_ (ι 1) (move_ (pure_ (π zb14 0) (pure_ (π zb14 95) (load1_ zS614 7 (π zb16 0) zb14 95 (pure_ (ι 1) (call_ 40 #[π zb16 0, ι 1] (enter_ Tryz.func40 rfl (seq_ (reg_ (pure_ (φ) (nil_ (then_n (seq_ (seq_ (reg_ (pure_ (ι 1) (nil_ (then_n (wp_block (seq_ (reg_ (pure_ (φ) (pure_ (φ) (nil_ (then_n (cond_F (seq_ (reg_ (pure_ (φ) (pure_ (φ) (nil_ (then_n (cond_F (wp_skip (blk_n (then_n (seq_ (reg_ (move_ (pure_ (ι 1) (call_ 79 #[π zb16 0, ι 1] (enter_ Tryz.func79 rfl (seq_ (reg_ (pure_ (.pointer none) (nil_ (then_n (seq_ (seq_ (reg_ (pure_ (ι 1) (pure_ (φ) (pure_ (φ) (pure_ (ι 1) (pure_ (φ) (pure_ (φ) (pure_ (φ) (move_ (pure_ (ι 1) (pure_ (ι 0) (pure_ (π zb16 0) ?_))))))))))))))))))))))))))))))))))))))))))))))))))))))))))))))))))))))))))))))
 refine pure_ (π zb16 3) (pure_ (π zb16 3) (pure_ (π zb16 3) (pure_ (π zb16 3) (load1_ zS614 9 (φ) zb16 3 (pure_ (τ) (pure_ (τ) (nil_ (then_n (cond_T (seq_ (reg_ (pure_ (.pointer none) (nil_ (then_n (wp_ret (then_r (ret_ rfl (res_ [.tmp 4] [.pointer none] (.pointer none) ⟨res_tmp, trivial⟩) (pure_ (φ) (pure_ (φ) (nil_ (then_n (wp_ret (ret_ rfl (res_ [.tmp 4] [φ] (φ) ⟨res_tmp, trivial⟩) (pure_ (π zb604 20) (pure_ (π zb604 21) ?_)))))))))))))))))))))))))
 refine store_ zS614 0 (φ) zb604 21 ?_
 intro zw615 zS616
 refine ns_ (pure_ (ι 1) (move_ (pure_ (π zb14 0) (pure_ (π zb14 95) (load1_ zS616 7 (π zb16 0) zb14 95 (pure_ (ι 1) (call_ 41 #[π zb16 0, ι 1] (enter_ Tryz.func41 rfl (seq_ (reg_ (pure_ (ι 0) (nsr_ (move_ (pure_ (ι 1) (call_ 79 #[π zb16 0, ι 1] (enter_ Tryz.func79 rfl (seq_ (reg_ (pure_ (.pointer none) (nil_ (then_n (seq_ (seq_ (reg_ (pure_ (ι 1) (pure_ (φ) (pure_ (φ) (pure_ (ι 1) (pure_ (φ) (pure_ (φ) (pure_ (φ) (move_ (pure_ (ι 1) (pure_ (ι 0) (pure_ (π zb16 0) (pure_ (π zb16 3) (pure_ (π zb16 3) (pure_ (π zb16 3) (pure_ (π zb16 3) (load1_ zS616 9 (φ) zb16 3 (pure_ (τ) (pure_ (τ) (nil_ (then_n (cond_T (seq_ (reg_ (pure_ (.pointer none) (nil_ (then_n (wp_ret (then_r (ret_ rfl (res_ [.tmp 4] [.pointer none] (.pointer none) ⟨res_tmp, trivial⟩) (pure_ (.pointer none) (nil_ (then_n (seq_ (seq_ (reg_ ?_)))))))))))))))))))))))))))))))))))))))))))))))))))))))))))
 refine pure_ (.pointer none) (pure_ (τ) (nil_ (then_n (cond_T (seq_ (reg_ (pure_ (ι 0) (nil_ (then_n (wp_ret (then_r (ret_ rfl (res_ [.tmp 4] [ι 0] (ι 0) ⟨res_tmp, trivial⟩) (pure_ (π zb604 25) (pure_ (π zb604 26) ?_))))))))))))))
 refine store_ zS616 0 (ι 0) zb604 26 ?_
 intro zw617 zS618
 refine nil_ (blk_n (then_n (reg_ (pure_ (ι 2) (pure_ (ι 2) (nil_ (again_ (seq_ (reg_ (pure_ (τ) (nil_ (then_n (seq_ (cond_T (wp_skip (then_n (seq_ (wp_block (seq_ (reg_ (pure_ (ι 2) (pure_ (ι 2) (nsr_ (pure_ (ι 2) (move_ (pure_ (π zb14 0) (pure_ (π zb14 95) (load1_ zS618 7 (π zb16 0) zb14 95 (pure_ (ι 2) (call_ 40 #[π zb16 0, ι 2] (enter_ Tryz.func40 rfl (seq_ (reg_ (pure_ (φ) (nil_ (then_n (seq_ (seq_ (reg_ (pure_ (ι 2) (nil_ (then_n (wp_block (seq_ (reg_ (pure_ (φ) (pure_ (φ) (nil_ (then_n (cond_F (seq_ (reg_ (pure_ (φ) (pure_ (φ) (nil_ (then_n (cond_F (wp_skip (blk_n (then_n (seq_ (reg_ (move_ (pure_ (ι 2) (call_ 79 #[π zb16 0, ι 2] (enter_ Tryz.func79 rfl (seq_ (reg_ (pure_ (.pointer none) (nil_ (then_n (seq_ (seq_ (reg_ (pure_ (ι 2) (pure_ (φ) (pure_ (φ) (pure_ (ι 2) (pure_ (φ) (pure_ (φ) ?_))))))))))))))))))))))))))))))))))))))))))))))))))))))))))))))))))))))))))))))))
 refine pure_ (φ) (move_ (pure_ (ι 2) (pure_ (ι 1) (pure_ (π zb16 0) (pure_ (π zb16 3) (pure_ (π zb16 42) (pure_ (π zb16 42) (pure_ (π zb16 42) (load1_ zS618 9 (φ) zb16 42 (pure_ (τ) (pure_ (τ) (nil_ (then_n (cond_T (seq_ (reg_ (pure_ (.pointer none) (nil_ (then_n (wp_ret (then_r (ret_ rfl (res_ [.tmp 4] [.pointer none] (.pointer none) ⟨res_tmp, trivial⟩) (pure_ (φ) (pure_ (φ) (nil_ (then_n (wp_ret (ret_ rfl (res_ [.tmp 4] [φ] (φ) ⟨res_tmp, trivial⟩) (pure_ (π zb604 20) (pure_ (π zb604 22) ?_))))))))))))))))))))))))))))))
 refine store_ zS618 0 (φ) zb604 22 ?_
 intro zw619 zS620
 refine ns_ (pure_ (ι 2) (move_ (pure_ (π zb14 0) (pure_ (π zb14 95) (load1_ zS620 7 (π zb16 0) zb14 95 (pure_ (ι 2) (call_ 41 #[π zb16 0, ι 2] (enter_ Tryz.func41 rfl (seq_ (reg_ (pure_ (ι 0) (nsr_ (move_ (pure_ (ι 2) (call_ 79 #[π zb16 0, ι 2] (enter_ Tryz.func79 rfl (seq_ (reg_ (pure_ (.pointer none) (nil_ (then_n (seq_ (seq_ (reg_ (pure_ (ι 2) (pure_ (φ) (pure_ (φ) (pure_ (ι 2) (pure_ (φ) (pure_ (φ) (pure_ (φ) (move_ (pure_ (ι 2) (pure_ (ι 1) (pure_ (π zb16 0) (pure_ (π zb16 3) (pure_ (π zb16 42) (pure_ (π zb16 42) (pure_ (π zb16 42) (load1_ zS620 9 (φ) zb16 42 (pure_ (τ) (pure_ (τ) (nil_ (then_n (cond_T (seq_ (reg_ (pure_ (.pointer none) (nil_ (then_n (wp_ret (then_r (ret_ rfl (res_ [.tmp 4] [.pointer none] (.pointer none) ⟨res_tmp, trivial⟩) (pure_ (.pointer none) (nil_ (then_n (seq_ (seq_ (reg_ ?_)))))))))))))))))))))))))))))))))))))))))))))))))))))))))))
 refine pure_ (.pointer none) (pure_ (τ) (nil_ (then_n (cond_T (seq_ (reg_ (pure_ (ι 0) (nil_ (then_n (wp_ret (then_r (ret_ rfl (res_ [.tmp 4] [ι 0] (ι 0) ⟨res_tmp, trivial⟩) (pure_ (π zb604 25) (pure_ (π zb604 27) ?_))))))))))))))
 refine store_ zS620 0 (ι 0) zb604 27 ?_
 intro zw621 zS622
 refine nil_ (blk_n (then_n (reg_ (pure_ (ι 3) (pure_ (ι 3) (nil_ (again_ (seq_ (reg_ (pure_ (τ) (nil_ (then_n (seq_ (cond_T (wp_skip (then_n (seq_ (wp_block (seq_ (reg_ (pure_ (ι 3) (pure_ (ι 3) (nsr_ (pure_ (ι 3) (move_ (pure_ (π zb14 0) (pure_ (π zb14 95) (load1_ zS622 7 (π zb16 0) zb14 95 (pure_ (ι 3) (call_ 40 #[π zb16 0, ι 3] (enter_ Tryz.func40 rfl (seq_ (reg_ (pure_ (φ) (nil_ (then_n (seq_ (seq_ (reg_ (pure_ (ι 3) (nil_ (then_n (wp_block (seq_ (reg_ (pure_ (φ) (pure_ (φ) (nil_ (then_n (cond_F (seq_ (reg_ (pure_ (φ) (pure_ (φ) (nil_ (then_n (cond_F (wp_skip (blk_n (then_n (seq_ (reg_ (move_ (pure_ (ι 3) (call_ 79 #[π zb16 0, ι 3] (enter_ Tryz.func79 rfl (seq_ (reg_ (pure_ (.pointer none) (nil_ (then_n (seq_ (seq_ (reg_ (pure_ (ι 3) (pure_ (φ) (pure_ (φ) (pure_ (ι 3) (pure_ (φ) (pure_ (φ) ?_))))))))))))))))))))))))))))))))))))))))))))))))))))))))))))))))))))))))))))))))
 refine pure_ (φ) (move_ (pure_ (ι 3) (pure_ (ι 2) (pure_ (π zb16 0) (pure_ (π zb16 3) (pure_ (π zb16 81) (pure_ (π zb16 81) (pure_ (π zb16 81) (load1_ zS622 9 (φ) zb16 81 (pure_ (τ) (pure_ (τ) (nil_ (then_n (cond_T (seq_ (reg_ (pure_ (.pointer none) (nil_ (then_n (wp_ret (then_r (ret_ rfl (res_ [.tmp 4] [.pointer none] (.pointer none) ⟨res_tmp, trivial⟩) (pure_ (φ) (pure_ (φ) (nil_ (then_n (wp_ret (ret_ rfl (res_ [.tmp 4] [φ] (φ) ⟨res_tmp, trivial⟩) (pure_ (π zb604 20) (pure_ (π zb604 23) ?_))))))))))))))))))))))))))))))
 refine store_ zS622 0 (φ) zb604 23 ?_
 intro zw623 zS624
 refine ns_ (pure_ (ι 3) (move_ (pure_ (π zb14 0) (pure_ (π zb14 95) (load1_ zS624 7 (π zb16 0) zb14 95 (pure_ (ι 3) (call_ 41 #[π zb16 0, ι 3] (enter_ Tryz.func41 rfl (seq_ (reg_ (pure_ (ι 0) (nsr_ (move_ (pure_ (ι 3) (call_ 79 #[π zb16 0, ι 3] (enter_ Tryz.func79 rfl (seq_ (reg_ (pure_ (.pointer none) (nil_ (then_n (seq_ (seq_ (reg_ (pure_ (ι 3) (pure_ (φ) (pure_ (φ) (pure_ (ι 3) (pure_ (φ) (pure_ (φ) (pure_ (φ) (move_ (pure_ (ι 3) (pure_ (ι 2) (pure_ (π zb16 0) (pure_ (π zb16 3) (pure_ (π zb16 81) (pure_ (π zb16 81) (pure_ (π zb16 81) (load1_ zS624 9 (φ) zb16 81 (pure_ (τ) (pure_ (τ) (nil_ (then_n (cond_T (seq_ (reg_ (pure_ (.pointer none) (nil_ (then_n (wp_ret (then_r (ret_ rfl (res_ [.tmp 4] [.pointer none] (.pointer none) ⟨res_tmp, trivial⟩) (pure_ (.pointer none) (nil_ (then_n (seq_ (seq_ (reg_ ?_)))))))))))))))))))))))))))))))))))))))))))))))))))))))))))
 refine pure_ (.pointer none) (pure_ (τ) (nil_ (then_n (cond_T (seq_ (reg_ (pure_ (ι 0) (nil_ (then_n (wp_ret (then_r (ret_ rfl (res_ [.tmp 4] [ι 0] (ι 0) ⟨res_tmp, trivial⟩) (pure_ (π zb604 25) (pure_ (π zb604 28) ?_))))))))))))))
 refine store_ zS624 0 (ι 0) zb604 28 ?_
 intro zw625 zS626
 refine nil_ (blk_n (then_n (reg_ (pure_ (ι 4) (pure_ (ι 4) (nil_ (again_ (seq_ (reg_ (pure_ (τ) (nil_ (then_n (seq_ (cond_T (wp_skip (then_n (seq_ (wp_block (seq_ (reg_ (pure_ (ι 4) (pure_ (ι 4) (nsr_ (pure_ (ι 4) (move_ (pure_ (π zb14 0) (pure_ (π zb14 95) (load1_ zS626 7 (π zb16 0) zb14 95 (pure_ (ι 4) (call_ 40 #[π zb16 0, ι 4] (enter_ Tryz.func40 rfl (seq_ (reg_ (pure_ (φ) (nil_ (then_n (seq_ (seq_ (reg_ (pure_ (ι 4) (nil_ (then_n (wp_block (seq_ (reg_ (pure_ (τ) (pure_ (τ) (nil_ (then_n (cond_T (seq_ (reg_ (pure_ (τ) (nil_ (then_n (wp_ret (blk_r (then_r (ret_ rfl (res_ [.tmp 4] [τ] (τ) ⟨res_tmp, trivial⟩) (pure_ (π zb604 20) (pure_ (π zb604 24) ?_)))))))))))))))))))))))))))))))))))))))))))))))))))))))))))))
 refine store_ zS626 0 (τ) zb604 24 ?_
 intro zw627 zS628
 refine ns_ (pure_ (ι 4) (move_ (pure_ (π zb14 0) (pure_ (π zb14 95) (load1_ zS628 7 (π zb16 0) zb14 95 (pure_ (ι 4) (call_ 41 #[π zb16 0, ι 4] (enter_ Tryz.func41 rfl (seq_ (reg_ (pure_ (ι 0) (nsr_ (move_ (pure_ (ι 4) (call_ 79 #[π zb16 0, ι 4] (enter_ Tryz.func79 rfl (seq_ (reg_ (pure_ (.pointer none) (nil_ (then_n (seq_ (seq_ (reg_ (pure_ (ι 4) (pure_ (φ) (pure_ (φ) (pure_ (ι 4) (pure_ (τ) (pure_ (τ) (pure_ (τ) (skip_ (skip_ (skip_ (skip_ (skip_ (skip_ (skip_ (skip_ (skip_ (skip_ (pure_ (τ) (nil_ (then_n (cond_T (seq_ (reg_ (pure_ (.pointer none) (nil_ (then_n (wp_ret (then_r (ret_ rfl (res_ [.tmp 4] [.pointer none] (.pointer none) ⟨res_tmp, trivial⟩) (pure_ (.pointer none) (nil_ (then_n (seq_ (seq_ (reg_ (pure_ (.pointer none) (pure_ (τ) (nil_ (then_n (cond_T (seq_ (reg_ (pure_ (ι 0) ?_)))))))))))))))))))))))))))))))))))))))))))))))))))))))))))))))))))
 refine nil_ (then_n (wp_ret (then_r (ret_ rfl (res_ [.tmp 4] [ι 0] (ι 0) ⟨res_tmp, trivial⟩) (pure_ (π zb604 25) (pure_ (π zb604 29) ?_))))))
 refine store_ zS628 0 (ι 0) zb604 29 ?_
 intro zw629 zS630
 refine nil_ (blk_n (then_n (reg_ (pure_ (ι 5) (pure_ (ι 5) (nil_ (again_ (seq_ (reg_ (pure_ (φ) (nil_ (then_n (seq_ (cond_F (wp_exit (then_e (then_e (blk_e (then_n (seq_ (reg_ (loadN_ zS630 0 31 #[ι 4, ι (p.i 55), ι (-1), ι (p.i 39), ι 2, ι 4, ι 0, ι 1, ι 0, ι 0, ι 0, ι 0, ι 0, ι 0, ι 0, ι 0, ι 2, ι 4, ι 0, .slice none 0 0, φ, φ, φ, φ, τ, ι 0, ι 0, ι 0, ι 0, ι 0, φ] zb604 0 ?_))))))))))))))))))))))
 refine store_ zS630 1 (.agg #[ι 4, ι (p.i 55), ι (-1), ι (p.i 39), ι 2, ι 4, ι 0, ι 1, ι 0, ι 0, ι 0, ι 0, ι 0, ι 0, ι 0, ι 0, ι 2, ι 4, ι 0, .slice none 0 0, φ, φ, φ, φ, τ, ι 0, ι 0, ι 0, ι 0, ι 0, φ]) zb283 0 ?_
 intro zw631 zS632
 refine nil_ (then_n (wp_ret (ret_ rfl (res_ [.cell 2 45] [.agg #[ι 4, ι (p.i 55), ι (-1), ι (p.i 39), ι 2, ι 4, ι 0, ι 1, ι 0, ι 0, ι 0, ι 0, ι 0, ι 0, ι 0, ι 0, ι 2, ι 4, ι 0, .slice none 0 0, φ, φ, φ, φ, τ, ι 0, ι 0, ι 0, ι 0, ι 0, φ]] (.agg #[ι 4, ι (p.i 55), ι (-1), ι (p.i 39), ι 2, ι 4, ι 0, ι 1, ι 0, ι 0, ι 0, ι 0, ι 0, ι 0, ι 0, ι 0, ι 2, ι 4, ι 0, .slice none 0 0, φ, φ, φ, φ, τ, ι 0, ι 0, ι 0, ι 0, ι 0, φ]) ⟨res_cellN zS632 1 31 zb283 0, trivial⟩) (pure_ (ι 4) (pure_ (τ) (pure_ (τ) (pure_ (τ) (nil_ (then_n (wp_ret (ret_ rfl (res_ [.tmp 0] [τ] (τ) ⟨res_tmp, trivial⟩) ?_)))))))))))
 exact ⟨rfl, zh4.trans zS632.ch (by simp)⟩

end Go.Proofs.YtbjanfgipcniiaaGreatDoor
