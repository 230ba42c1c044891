/- Copies of keys. -/
import Derived.Test.YtgbgjbjlblcpaaaGreatDoorSK
import Derived.Test.YtgbgjbjlblcpaaaGreatDoorC0
import Derived.Test.YtgbgjbjlblcpaaaGreatDoorXPol
namespace Go.Proofs.YtgbgjbjlblcpaaaGreatDoor
open Go Go.RowKit Go.BigFrame Sx
set_option linter.unusedVariables false
set_option linter.unusedSimpArgs false

theorem cat0 (g : Nat → Int) : catF 0 (fun _ => 0) g = g := by
  funext j
  show (bif Nat.blt j 0 then _ else _) = _
  rw [show Nat.blt j 0 = false from by cases j <;> rfl]
  simp
theorem _root_.Sx.St.beside {ms : List Nat} {w0 w w1 : World} {bs bl : List Blk} (S : St ms w0 bs w) (T : St [] w bl w1) (h : Wr bl) : St ms w0 (bl ++ bs) w1 := by
  have hq := S.quiet T.ch
  refine St.mk' hq.ch (fun x hx => ?_) (fun x hx hw => ?_) ?_
  · rcases List.mem_append.1 hx with h1 | h1
    · exact T.at' h1
    · exact hq.at' h1
  · rcases List.mem_append.1 hx with h1 | h1
    · rcases T.own' h1 hw with h2 | h2
      · cases h2
      · exact .inr (Nat.le_trans S.ch.size h2)
    · exact hq.own' h1 hw
  · rw [List.pairwise_append]
    refine ⟨T.pw, hq.pw, fun x hx y hy _ e => ?_⟩
    rcases T.own' hx (h x hx) with h2 | h2
    · cases h2
    · have := S.ge hy
      omega
theorem cell_quiet {w w1 : World} (hc : Ch [] w w1) {a : Addr} {v : Value} (h : w.cell? a = some v) : w1.cell? a = some v := by
  have hb : a.block < w.heap.size := by
    unfold World.cell? at h
    split at h
    · next h2 => exact heap_lt h2
    · cases h
  have h3 := hc.block _ hb (by simp)
  unfold World.cell? at h ⊢
  rw [h3]; exact h
/-- a slice of bytes that can be read, of any length -/
def KeyRd (w : World) (a : Option Addr) (n c : Nat) (f : Nat → Int) : Prop := n ≤ c ∧ (a = none → n = 0 ∧ c = 0) ∧ ∀ x, a = some x → ∀ j, j < n → w.cell? (x.add j) = some (.int .u8 (f j))
/-- a slice of bytes that can be read -/
def KeyAt (w : World) (a : Option Addr) (n c : Nat) (f : Nat → Int) : Prop := n ≤ 1000000 ∧ KeyRd w a n c f
theorem KeyRd.quiet {w w1 : World} {a : Option Addr} {n c : Nat} {f : Nat → Int} (h : KeyRd w a n c f) (hc : Ch [] w w1) : KeyRd w1 a n c f := ⟨h.1, h.2.1, fun x e j hj => cell_quiet hc (h.2.2 x e j hj)⟩
theorem KeyAt.quiet {w w1 : World} {a : Option Addr} {n c : Nat} {f : Nat → Int} (h : KeyAt w a n c f) (hc : Ch [] w w1) : KeyAt w1 a n c f := ⟨h.1, h.2.quiet hc⟩
theorem KeyRd.cut {w : World} {a : Option Addr} {n c m : Nat} {f : Nat → Int} (h : KeyRd w a n c f) (hm : m ≤ n) (hb : m ≤ 1000000) : KeyAt w a m c f :=
  ⟨hb, Nat.le_trans hm h.1, fun e => ⟨by have := h.2.1 e; omega, (h.2.1 e).2⟩, fun x e j hj => h.2.2 x e j (by omega)⟩
theorem srcKey {P : Program} {w : World} {a : Option Addr} {n c : Nat} {f : Nat → Int} (h : KeyAt w a n c f) {tx e' : TypeId} (hk : P.underlying tx = some (.slice e') := by kernel_rfl) : Src P 1 tx (.slice a n c) n (bvF n f) w := by
  obtain ⟨h1, h2, h3, h4⟩ := h
  cases a with
  | none =>
    obtain ⟨rfl, rfl⟩ := h3 rfl
    exact Src.ofNil _ hk 0
  | some x => exact Src.ofSlice w hk _ n c _ (by rw [bvF_len, Nat.mul_one]) (fun j u hj => by
      obtain ⟨h5, rfl⟩ := bvF_get hj
      exact h4 x rfl j h5) bvF_one
def cutN (m n : Nat) : Nat := min n m
theorem cutN_is (m n : Nat) : (if ((m : Nat) : Int) < ((n : Nat) : Int) then ((m : Nat) : Int) else ((n : Nat) : Int)) = ((cutN m n : Nat) : Int) := by unfold cutN; split <;> omega

set_option maxRecDepth 100000 in
set_option maxHeartbeats 4000000 in
theorem clone_s (x : Addr) (n c : Nat) (f : Nat → Int) (hn : n ≤ 1000000) (w : World) (hk : KeyAt w (some x) n c f) :
    Gives Tryz.prog 30 #[.slice (some x) n c] w fun v w1 => ∃ x1 c1 bl1, v = .slice x1 n c1 ∧ row8 5 n f x1 c1 bl1 ∧ St [] w bl1 w1 := by
 have S0 := St.nil [] w
 refine enter_ Tryz.func30 rfl ?_
 refine seq_ (reg_ ?_)
 refine pure_ (.slice none 0 0) ?_
 refine nil_ (then_n (seq_ (seq_ (reg_ ?_))))
 refine pure_ (.slice (some x) n c) ?_
 refine pure_ (.bool false) ?_
 refine nil_ (then_n (cond_F ?_))
 refine wp_skip (then_n (seq_ (reg_ ?_)))
 refine new_ S0 (fun b => .slice (some ⟨b, 0, none⟩) 0 0) (.cells #[] 5) ?_
 intro zb1 zw2 zS3
 refine pure_ (.slice (some x) n c) ?_
 have zS10 : St [] w ([] ++ ([⟨zb1, true, .cells #[] 5 (0, 0)⟩] ++ ([] : List Blk))) zw2 := zS3.re (R := ([] : List Blk)) [[⟨zb1, true, .cells #[] 5 (0, 0)⟩]] [0]
 refine append8_ (n := 0) (c := 0) (f := (fun _ => 0)) (g := f) (xv := .slice (some x) n c) zS10 ⟨Nat.le_refl _, .inr ⟨_, rfl, rfl⟩⟩ (srcKey (e' := 5) (KeyAt.quiet hk zS3.ch)) (by omega) ?_
 intro zx5 zc6 zq4 zw8 zh7 zS9
 refine pure_ (.slice zx5 (0 + n) zc6) ?_
 refine nil_ (then_n (wp_ret ?_))
 refine ret_ rfl (res_ [.tmp 2] [.slice zx5 (0 + n) zc6] (.slice zx5 (0 + n) zc6) ⟨res_tmp, trivial⟩) ?_
 exact ⟨zx5, zc6, zq4, by rw [Nat.zero_add], by have := zh7; rwa [cat0, Nat.zero_add] at this, (by simpa using zS9)⟩

set_option maxRecDepth 100000 in
set_option maxHeartbeats 4000000 in
theorem clone_0 (f : Nat → Int) (w : World) :
    Gives Tryz.prog 30 #[.slice none 0 0] w fun v w1 => ∃ x1 c1 bl1, v = .slice x1 0 c1 ∧ row8 5 0 f x1 c1 bl1 ∧ St [] w bl1 w1 := by
 have S0 := St.nil [] w
 refine enter_ Tryz.func30 rfl ?_
 refine seq_ (reg_ ?_)
 refine pure_ (.slice none 0 0) ?_
 refine nil_ (then_n (seq_ (seq_ (reg_ ?_))))
 refine pure_ (.slice none 0 0) ?_
 refine pure_ (.bool true) ?_
 refine nil_ (then_n (cond_T ?_))
 refine seq_ (reg_ ?_)
 refine pure_ (.slice none 0 0) ?_
 refine nil_ (then_n (wp_ret (then_r ?_)))
 refine ret_ rfl (res_ [.tmp 2] [.slice none 0 0] (.slice none 0 0) ⟨res_tmp, trivial⟩) ?_
 exact ⟨none, 0, [], rfl, ⟨Nat.le_refl _, .inl ⟨rfl, rfl, rfl, rfl⟩⟩, S0.sub (by simp)⟩

theorem clone_ {a : Option Addr} {n c : Nat} {f : Nat → Int} {w : World} (hk : KeyAt w a n c f) {ms : List Nat} {w0 : World} {bs : List Blk} (S : St ms w0 bs w) : Gives Tryz.prog 30 #[.slice a n c] w fun v w1 => ∃ x1 c1 bl1, v = .slice x1 n c1 ∧ row8 5 n f x1 c1 bl1 ∧ St ms w0 (bl1 ++ bs) w1 := by
  cases a with
  | none =>
    obtain ⟨rfl, rfl⟩ := hk.2.2.1 rfl
    exact (clone_0 f w).mono fun v w1 ⟨x1, c1, bl1, h, hr, T⟩ => ⟨x1, c1, bl1, h, hr, S.beside T hr.wr⟩
  | some x => exact (clone_s x n c f hk.1 w hk).mono fun v w1 ⟨x1, c1, bl1, h, hr, T⟩ => ⟨x1, c1, bl1, h, hr, S.beside T hr.wr⟩

end Go.Proofs.YtgbgjbjlblcpaaaGreatDoor
