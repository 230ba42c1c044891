/- Copies of keys. -/
import Derived.Test.YtbjanfgipcniiaaGreatDoorSKY
import Derived.Test.YtbjanfgipcniiaaGreatDoorC0
import Derived.Test.YtbjanfgipcniiaaGreatDoorXPol
namespace Go.Proofs.YtbjanfgipcniiaaGreatDoor
open Go Go.RowKit Go.BigFrame Sx
set_option linter.unusedVariables false
set_option linter.unusedSimpArgs false

set_option maxRecDepth 100000 in
set_option maxHeartbeats 4000000 in
theorem clone_s (x : Addr) (n c : Nat) (f : Nat → Int) (hn : n ≤ 1000000) (w : World) (hk : KeyAt w (some x) n c f) :
    Gives Tryz.prog 30 #[.slice (some x) n c] w fun v w1 => ∃ x1 c1 bl1, v = .slice x1 n c1 ∧ row8 5 n f x1 c1 bl1 ∧ St [] w bl1 w1 := by
 have S0 := St.nil [] w
 refine enter_ Tryz.func30 rfl (seq_ (reg_ (pure_ (.slice none 0 0) (nil_ (then_n (seq_ (seq_ (reg_ (pure_ (.slice (some x) n c) (pure_ (φ) (nil_ (then_n (cond_F (wp_skip (then_n (seq_ (reg_ ?_)))))))))))))))))
 refine new_ S0 (fun b => σ b 0 0 0) (.cells #[] 5) ?_
 intro zb1 zw2 zS3
 refine pure_ (.slice (some x) n c) ?_
 have zS10 : St [] w ([] ++ ([(β zb1 #[] 5)] ++ ([] : List Blk))) zw2 := zS3.re (R := ([] : List Blk)) [[(β zb1 #[] 5)]] [0]
 refine append8_ (n := 0) (c := 0) (f := (fun _ => 0)) (g := f) (xv := .slice (some x) n c) zS10 ⟨Nat.le_refl _, .inr ⟨_, rfl, rfl⟩⟩ (srcKey (e' := 5) (KeyAt.quiet hk zS3.ch)) (by omega) ?_
 intro zx5 zc6 zq4 zw8 zh7 zS9
 refine pure_ (.slice zx5 (0 + n) zc6) (nil_ (then_n (wp_ret (ret_ rfl (res_ [.tmp 2] [.slice zx5 (0 + n) zc6] (.slice zx5 (0 + n) zc6) ⟨res_tmp, trivial⟩) ?_))))
 exact ⟨zx5, zc6, zq4, by rw [Nat.zero_add], by have := zh7; rwa [cat0, Nat.zero_add] at this, (by simpa using zS9)⟩

set_option maxRecDepth 100000 in
set_option maxHeartbeats 4000000 in
theorem clone_0 (f : Nat → Int) (w : World) :
    Gives Tryz.prog 30 #[.slice none 0 0] w fun v w1 => ∃ x1 c1 bl1, v = .slice x1 0 c1 ∧ row8 5 0 f x1 c1 bl1 ∧ St [] w bl1 w1 := by
 have S0 := St.nil [] w
 refine enter_ Tryz.func30 rfl (seq_ (reg_ (pure_ (.slice none 0 0) (nil_ (then_n (seq_ (seq_ (reg_ (pure_ (.slice none 0 0) (pure_ (τ) (nil_ (then_n (cond_T (seq_ (reg_ (pure_ (.slice none 0 0) (nil_ (then_n (wp_ret (then_r (ret_ rfl (res_ [.tmp 2] [.slice none 0 0] (.slice none 0 0) ⟨res_tmp, trivial⟩) ?_)))))))))))))))))))))
 exact ⟨none, 0, [], rfl, ⟨Nat.le_refl _, .inl ⟨rfl, rfl, rfl, rfl⟩⟩, S0.sub (by simp)⟩

theorem clone_ {a : Option Addr} {n c : Nat} {f : Nat → Int} {w : World} (hk : KeyAt w a n c f) {ms : List Nat} {w0 : World} {bs : List Blk} (S : St ms w0 bs w) : Gives Tryz.prog 30 #[.slice a n c] w fun v w1 => ∃ x1 c1 bl1, v = .slice x1 n c1 ∧ row8 5 n f x1 c1 bl1 ∧ St ms w0 (bl1 ++ bs) w1 := by
  cases a with
  | none =>
    obtain ⟨rfl, rfl⟩ := hk.2.2.1 rfl
    exact (clone_0 f w).mono fun v w1 ⟨x1, c1, bl1, h, hr, T⟩ => ⟨x1, c1, bl1, h, hr, S.beside T hr.wr⟩
  | some x => exact (clone_s x n c f hk.1 w hk).mono fun v w1 ⟨x1, c1, bl1, h, hr, T⟩ => ⟨x1, c1, bl1, h, hr, S.beside T hr.wr⟩

end Go.Proofs.YtbjanfgipcniiaaGreatDoor
