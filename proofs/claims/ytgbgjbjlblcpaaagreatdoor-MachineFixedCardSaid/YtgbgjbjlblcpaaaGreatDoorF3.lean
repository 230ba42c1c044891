/- Few events. -/
import Derived.Test.YtgbgjbjlblcpaaaGreatDoorF0
import Derived.Test.YtgbgjbjlblcpaaaGreatDoorSL
namespace Go.Proofs.YtgbgjbjlblcpaaaGreatDoor
open Go Go.RowKit Go.BigFrame Sx
set_option linter.unusedVariables false
set_option linter.unusedSimpArgs false

/-- an event's cells -/
structure EvV where
  kd : Int
  so : Int
  a : Option Addr
  n : Nat
  c : Nat
  vd : Bool
  x0 : Int
  x1 : Int
  x2 : Int
  x3 : Int
  gv : Bool
  bd : Bool
def evD : EvV := ⟨0, 0, none, 0, 0, false, 0, 0, 0, 0, false, false⟩
def evC (e : EvV) : List Value := [.int .i64 e.kd, .int .i64 e.so, .slice e.a e.n e.c, .bool e.vd, .int .i64 e.x0, .int .i64 e.x1, .int .i64 e.x2, .int .i64 e.x3, .bool e.gv, .bool e.bd]
def evA (e : EvV) : Array Value := (evC e).toArray
theorem ev_snoc (es : List EvV) (e : EvV) : (es ++ [e]).flatMap evC = es.flatMap evC ++ evC e := by simp
theorem ev_len (es : List EvV) : (es.flatMap evC).length = es.length * 10 := by
  induction es with
  | nil => rfl
  | cons e es ih => rw [List.flatMap_cons, List.length_append, ih]; simp [evC]; omega
theorem ev_at : ∀ (es : List EvV) (k j : Nat), k < es.length → j < 10 → (es.flatMap evC)[k * 10 + j]? = (evC (es.getD k evD))[j]?
  | e :: es, 0, j, _, hj => by
    rw [List.flatMap_cons, List.getElem?_append_left (by simp [evC]; omega)]; simp
  | e :: es, k + 1, j, hk, hj => by
    have h10 : (evC e).length = 10 := rfl
    rw [List.flatMap_cons, List.getElem?_append_right (by rw [h10]; omega), h10, show (k + 1) * 10 + j - 10 = k * 10 + j by omega, ev_at es k j (by simpa using hk) hj]; rfl
theorem rowv_some {z T olds x n c bl} (h : rowv z T olds x n c bl) (hn : 0 < n) : x.isSome = true := by
  rcases h.2.2 with ⟨_, h0, _, _⟩ | ⟨b, tail, rfl, _⟩
  · omega
  · rfl
theorem few_out {T : TypeId} {es : List EvV} {xo : Option Addr} {no co : Nat} {bl bs : List Blk} {w w1 : World} (hr : rowv 10 T (es.flatMap evC) xo no co bl) (hs : xo.isSome = true) (S : St [] w (bl ++ bs) w1) :
    ∃ b1, xo = some ⟨b1, 0, none⟩ ∧ no = es.length ∧ ∀ k, k < es.length → ∀ j u, (evA (es.getD k evD))[j]? = some u → w1.cell? ⟨b1, 0 + k * 10 + j, none⟩ = some u := by
  have hl := hr.1
  rw [ev_len] at hl
  rcases hr.2.2 with ⟨rfl, _, _, _⟩ | ⟨b, tail, rfl, rfl, _⟩
  · simp at hs
  · refine ⟨b, rfl, by omega, fun k hk j u hu => ?_⟩
    have hj : j < 10 := by
      have : j < (evA (es.getD k evD)).size := by
        rcases Nat.lt_or_ge j (evA (es.getD k evD)).size with h | h
        · exact h
        · rw [Array.getElem?_eq_none h] at hu; cases hu
      exact this
    have h1 := S.at_ 0 _ rfl
    rw [cell_of h1, Nat.zero_add]
    simp only [List.getElem?_toArray]
    rw [List.getElem?_append_left (by rw [ev_len]; omega), ev_at es k j hk hj]
    simpa [evA] using hu

set_option maxRecDepth 100000 in
set_option maxHeartbeats 4000000 in
theorem few_ (b o n c : Nat) (kd so : Nat → Int) (ba : Nat → Option Addr) (bn bc : Nat → Nat) (bf : Nat → Nat → Int) (vd gv bd : Nat → Bool) (xs : Nat → Nat → Int) (w : World) (hl : ∀ k, k < n → ∀ j u, (#[.int .i64 (kd k), .int .i64 (so k), .slice (ba k) (bn k) (bc k), .bool (vd k), .int .i64 (xs k 0), .int .i64 (xs k 1), .int .i64 (xs k 2), .int .i64 (xs k 3), .bool (gv k), .bool (bd k)] : Array Value)[j]? = some u → w.cell? ⟨b, o + k * 10 + j, none⟩ = some u) (hb : ∀ k, k < n → KeyRd w (ba k) (bn k) (bc k) (bf k)) :
    Gives Tryz.prog 24 #[.slice (some ⟨b, o, none⟩) n c] w fun v w1 => ∃ b1 c1 es, v = .slice (some ⟨b1, 0, none⟩) (List.length es) c1 ∧ es.length ≤ 60 ∧ Ch [] w w1 ∧ ∀ k, k < es.length → ∀ j u, (evA (es.getD k evD))[j]? = some u → w1.cell? ⟨b1, 0 + k * 10 + j, none⟩ = some u := by
 have S0 := St.nil [] w
 refine enter_ Tryz.func24 rfl ?_
 refine seq_ (reg_ ?_)
 refine pure_ (.slice none 0 0) ?_
 refine nil_ (then_n (seq_ (reg_ ?_)))
 refine new_ S0 (fun b => .slice (some ⟨b, 0, none⟩) 0 0) (.cells #[] 79) ?_
 intro zb1 zw2 zS3
 refine assign_ ?_
 refine nil_ (then_n (seq_ (seq_ (reg_ ?_))))
 refine pure_ (.int .i64 0) ?_
 refine nil_ (then_n (wp_block ?_))
 have zh4 : rowv 10 79 [] (some ⟨zb1, 0, none⟩) 0 0 [⟨zb1, true, .cells #[] 79 (0, 0)⟩] := ⟨rfl, Nat.le_refl _, .inr ⟨zb1, [], rfl, rfl, rfl⟩⟩
 have zS5 : St [] w ([] ++ ([⟨zb1, true, .cells #[] 79 (0, 0)⟩] ++ ([] : List Blk))) zw2 := zS3.re (R := ([] : List Blk)) [[⟨zb1, true, .cells #[] 79 (0, 0)⟩]] [0]
 refine loopJ_ (fun zn za zw => ∃ (i : Int) (xo : Option Addr) (no : Nat) (co : Nat) (es : List EvV) (orow : List Blk) (zj6 : Nat → Value), (zn = (60 - i).toNat ∧ 0 ≤ i ∧ i ≤ 60 ∧ ((no : Nat) : Int) = i ∧ rowv 10 79 (es.flatMap evC) xo no co orow ∧ xo.isSome = true) ∧ za = ⟨#[.slice (some ⟨b, o, none⟩) n c, undef, .slice none 0 0, .slice xo no co, .int .i64 i, (zj6 5), .slice (some ⟨zb1, 0, none⟩) 0 0, (zj6 7), (zj6 8), (zj6 9), (zj6 10), (zj6 11), (zj6 12), (zj6 13), (zj6 14), (zj6 15), (zj6 16), (zj6 17), (zj6 18), (zj6 19), (zj6 20), (zj6 21), (zj6 22), (zj6 23), (zj6 24), (zj6 25), (zj6 26), (zj6 27), (zj6 28), (zj6 29), (zj6 30), (zj6 31), (zj6 32), (zj6 33), (zj6 34), undef], []⟩ ∧ St [] w ([] ++ (orow ++ ([] : List Blk))) zw) _ (fun zy zye => ⟨(0 : Int), (some ⟨zb1, 0, none⟩), 0, 0, [], [⟨zb1, true, .cells #[] 79 (0, 0)⟩], (fun d => zy.tmps.getD d undef), ⟨rfl, by omega, by omega, rfl, zh4, rfl⟩, by subst zye; kernel_rfl, zS5.re (R := ([] : List Blk)) [[⟨zb1, true, .cells #[] 79 (0, 0)⟩]] [0]⟩) ?_
 rintro _ _ zw12 ⟨i, xo, no, co, es, orow, zj6, ⟨rfl, zf7, zf8, zf9, zf10, zf11⟩, rfl, zS13⟩
 refine seq_ (seq_ (reg_ ?_))
 refine pure_ (.int .i64 i) ?_
 refine move_ ?_
 refine pure_ (.int .i64 ((n : Nat) : Int)) ?_
 refine pure_ (.bool (decide (i < ((n : Nat) : Int)))) ?_
 refine move_ ?_
 refine slot_ 11 (decide (i < ((n : Nat) : Int))) ?_ ?_
 · intro zh14
   have zh15 := ltT' zh14
   refine pure_ (.int .i64 i) ?_
   refine pure_ (.bool (decide (i < 60))) ?_
   refine pure_ (.bool (decide (i < 60))) ?_
   refine nil_ (then_n ?_)
   refine cond_S (decide (i < 60)) ?_ ?_
   · intro zh16
     have zh17 := ltT' zh16
     refine wp_skip (then_n (seq_ (wp_block (seq_ (reg_ ?_)))))
     refine move_ ?_
     refine pure_ (.int .i64 i) ?_
     refine idxS_ (e := 79) b o (i).toNat n 10 c .i64 i (by omega) (by omega) rfl ?_
     refine loadON_ zS13 10 #[.int .i64 (kd (i).toNat), .int .i64 (so (i).toNat), .slice (ba (i).toNat) (bn (i).toNat) (bc (i).toNat), .bool (vd (i).toNat), .int .i64 (xs (i).toNat 0), .int .i64 (xs (i).toNat 1), .int .i64 (xs (i).toNat 2), .int .i64 (xs (i).toNat 3), .bool (gv (i).toNat), .bool (bd (i).toNat)] b (o + (i).toNat * 10) (hl (i).toNat (by omega)) (by simp) ?_
     refine new_ zS13 (fun b => .pointer (some ⟨b, 0, none⟩)) (.cells #[.int .i64 0, .int .i64 0, .slice none 0 0, .bool false, .int .i64 0, .int .i64 0, .int .i64 0, .int .i64 0, .bool false, .bool false] 79) ?_
     intro zb18 zw19 zS20
     refine store_ zS20 0 (.agg #[.int .i64 (kd (i).toNat), .int .i64 (so (i).toNat), .slice (ba (i).toNat) (bn (i).toNat) (bc (i).toNat), .bool (vd (i).toNat), .int .i64 (xs (i).toNat 0), .int .i64 (xs (i).toNat 1), .int .i64 (xs (i).toNat 2), .int .i64 (xs (i).toNat 3), .bool (gv (i).toNat), .bool (bd (i).toNat)]) zb18 0 ?_
     intro zw21 zS22
     refine nil_ (then_n (seq_ (reg_ ?_)))
     refine new_ zS22 (fun b => .slice (some ⟨b, 0, none⟩) 0 0) (.cells #[] 5) ?_
     intro zb23 zw24 zS25
     refine pure_ (.pointer (some ⟨zb18, 2, none⟩)) ?_
     refine load1_ zS25 1 (.slice (ba (i).toNat) (bn (i).toNat) (bc (i).toNat)) zb18 2 ?_
     refine pure_ (.pointer (some ⟨zb18, 2, none⟩)) ?_
     refine load1_ zS25 1 (.slice (ba (i).toNat) (bn (i).toNat) (bc (i).toNat)) zb18 2 ?_
     refine pure_ (.int .i64 (((bn (i).toNat) : Nat) : Int)) ?_
     refine pureE_ (.int .i64 (if 120 < (((bn (i).toNat) : Nat) : Int) then 120 else (((bn (i).toNat) : Nat) : Int))) (.int .i64 (((cutN 120 (bn (i).toNat)) : Nat) : Int)) (congrArg _ (cutN_is _ _)) ?_
     refine pure_ (.slice (ba (i).toNat) (cutN 120 (bn (i).toNat)) (bc (i).toNat)) ?_ (h := run_cut (n := (bn (i).toNat)) (e := 5) (kd := .i64) (cutN 120 (bn (i).toNat)) (Nat.le_trans (by unfold cutN; omega : (cutN 120 (bn (i).toNat)) ≤ (bn (i).toNat)) (hb (i).toNat (by omega)).1))
     have zS32 : St [] w ([⟨zb18, true, .cells #[.int .i64 (kd (i).toNat), .int .i64 (so (i).toNat), .slice (ba (i).toNat) (bn (i).toNat) (bc (i).toNat), .bool (vd (i).toNat), .int .i64 (xs (i).toNat 0), .int .i64 (xs (i).toNat 1), .int .i64 (xs (i).toNat 2), .int .i64 (xs (i).toNat 3), .bool (gv (i).toNat), .bool (bd (i).toNat)] 79 (0, 0)⟩] ++ ([⟨zb23, true, .cells #[] 5 (0, 0)⟩] ++ (orow ++ ([] : List Blk)))) zw24 := zS25.re (R := ([] : List Blk)) [[⟨zb23, true, .cells #[] 5 (0, 0)⟩], [⟨zb18, true, .cells #[.int .i64 (kd (i).toNat), .int .i64 (so (i).toNat), .slice (ba (i).toNat) (bn (i).toNat) (bc (i).toNat), .bool (vd (i).toNat), .int .i64 (xs (i).toNat 0), .int .i64 (xs (i).toNat 1), .int .i64 (xs (i).toNat 2), .int .i64 (xs (i).toNat 3), .bool (gv (i).toNat), .bool (bd (i).toNat)] 79 (0, 0)⟩], orow] [1, 0, 2]
     refine append8_ (n := 0) (c := 0) (f := (fun _ => 0)) (g := (bf (i).toNat)) (xv := .slice (ba (i).toNat) (cutN 120 (bn (i).toNat)) (bc (i).toNat)) zS32 ⟨Nat.le_refl _, .inr ⟨_, rfl, rfl⟩⟩ (srcKey (e' := 5) (KeyAt.quiet (KeyRd.cut (hb (i).toNat (by omega)) (by unfold cutN; omega) (by unfold cutN; omega)) zS25.ch)) (by unfold cutN; omega) ?_
     intro zx27 zc28 zq26 zw30 zh29 zS31
     refine pure_ (.pointer (some ⟨zb18, 2, none⟩)) ?_
     refine store_ zS31 0 (.slice zx27 (0 + (cutN 120 (bn (i).toNat))) zc28) zb18 2 ?_
     intro zw33 zS34
     refine nil_ (then_n (reg_ ?_))
     refine pure_ (.slice xo no co) ?_
     refine loadN_ zS34 0 10 #[.int .i64 (kd (i).toNat), .int .i64 (so (i).toNat), .slice zx27 (0 + (cutN 120 (bn (i).toNat))) zc28, .bool (vd (i).toNat), .int .i64 (xs (i).toNat 0), .int .i64 (xs (i).toNat 1), .int .i64 (xs (i).toNat 2), .int .i64 (xs (i).toNat 3), .bool (gv (i).toNat), .bool (bd (i).toNat)] zb18 0 ?_
     refine new_ zS34 (fun b => .slice (some ⟨b, 0, none⟩) 1 1) (.cells #[.int .i64 (kd (i).toNat), .int .i64 (so (i).toNat), .slice zx27 (0 + (cutN 120 (bn (i).toNat))) zc28, .bool (vd (i).toNat), .int .i64 (xs (i).toNat 0), .int .i64 (xs (i).toNat 1), .int .i64 (xs (i).toNat 2), .int .i64 (xs (i).toNat 3), .bool (gv (i).toNat), .bool (bd (i).toNat)] 79) ?_
     intro zb35 zw36 zS37
     have zS38 : St [] w ([⟨zb35, true, .cells #[.int .i64 (kd (i).toNat), .int .i64 (so (i).toNat), .slice zx27 (0 + (cutN 120 (bn (i).toNat))) zc28, .bool (vd (i).toNat), .int .i64 (xs (i).toNat 0), .int .i64 (xs (i).toNat 1), .int .i64 (xs (i).toNat 2), .int .i64 (xs (i).toNat 3), .bool (gv (i).toNat), .bool (bd (i).toNat)] 79 (0, 0)⟩, ⟨zb18, true, .cells #[.int .i64 (kd (i).toNat), .int .i64 (so (i).toNat), .slice zx27 (0 + (cutN 120 (bn (i).toNat))) zc28, .bool (vd (i).toNat), .int .i64 (xs (i).toNat 0), .int .i64 (xs (i).toNat 1), .int .i64 (xs (i).toNat 2), .int .i64 (xs (i).toNat 3), .bool (gv (i).toNat), .bool (bd (i).toNat)] 79 (0, 0)⟩] ++ (orow ++ (zq26 ++ ([] : List Blk)))) zw36 := zS37.re (R := ([] : List Blk)) [[⟨zb35, true, .cells #[.int .i64 (kd (i).toNat), .int .i64 (so (i).toNat), .slice zx27 (0 + (cutN 120 (bn (i).toNat))) zc28, .bool (vd (i).toNat), .int .i64 (xs (i).toNat 0), .int .i64 (xs (i).toNat 1), .int .i64 (xs (i).toNat 2), .int .i64 (xs (i).toNat 3), .bool (gv (i).toNat), .bool (bd (i).toNat)] 79 (0, 0)⟩], [⟨zb18, true, .cells #[.int .i64 (kd (i).toNat), .int .i64 (so (i).toNat), .slice zx27 (0 + (cutN 120 (bn (i).toNat))) zc28, .bool (vd (i).toNat), .int .i64 (xs (i).toNat 0), .int .i64 (xs (i).toNat 1), .int .i64 (xs (i).toNat 2), .int .i64 (xs (i).toNat 3), .bool (gv (i).toNat), .bool (bd (i).toNat)] 79 (0, 0)⟩], zq26, orow] [0, 1, 3, 2]
     refine appendR_ (z := 10) (T := 79) (olds := (es.flatMap evC)) (xs := xo) (n := no) (c := co) (m := 1) (news := [.int .i64 (kd (i).toNat), .int .i64 (so (i).toNat), .slice zx27 (0 + (cutN 120 (bn (i).toNat))) zc28, .bool (vd (i).toNat), .int .i64 (xs (i).toNat 0), .int .i64 (xs (i).toNat 1), .int .i64 (xs (i).toNat 2), .int .i64 (xs (i).toNat 3), .bool (gv (i).toNat), .bool (bd (i).toNat)]) (xv := .slice (some ⟨zb35, 0, none⟩) 1 1) (A := [⟨zb35, true, .cells #[.int .i64 (kd (i).toNat), .int .i64 (so (i).toNat), .slice zx27 (0 + (cutN 120 (bn (i).toNat))) zc28, .bool (vd (i).toNat), .int .i64 (xs (i).toNat 0), .int .i64 (xs (i).toNat 1), .int .i64 (xs (i).toNat 2), .int .i64 (xs (i).toNat 3), .bool (gv (i).toNat), .bool (bd (i).toNat)] 79 (0, 0)⟩, ⟨zb18, true, .cells #[.int .i64 (kd (i).toNat), .int .i64 (so (i).toNat), .slice zx27 (0 + (cutN 120 (bn (i).toNat))) zc28, .bool (vd (i).toNat), .int .i64 (xs (i).toNat 0), .int .i64 (xs (i).toNat 1), .int .i64 (xs (i).toNat 2), .int .i64 (xs (i).toNat 3), .bool (gv (i).toNat), .bool (bd (i).toNat)] 79 (0, 0)⟩]) (bl := orow) (R := (zq26 ++ ([] : List Blk))) zS38 zf10 (srcK zS37 0 1 10 [.int .i64 (kd (i).toNat), .int .i64 (so (i).toNat), .slice zx27 (0 + (cutN 120 (bn (i).toNat))) zc28, .bool (vd (i).toNat), .int .i64 (xs (i).toNat 0), .int .i64 (xs (i).toNat 1), .int .i64 (xs (i).toNat 2), .int .i64 (xs (i).toNat 3), .bool (gv (i).toNat), .bool (bd (i).toNat)] (tx := 71) (e' := 79) (by kernel_rfl) (by kernel_rfl) (by kernel_rfl) (by rfl)) 96 (hbd := (by omega)) (h63 := (by unfold maxLen; omega)) (k := ?_)
     intro zx39 zc40 zq41 zw42 zh43 zS44
     refine assign_ ?_
     refine nil_ (blk_n (then_n (reg_ ?_)))
     refine pure_ (.int .i64 i) ?_
     refine sum_ .i64 (i + 1) (IntWalk.i64_in _ (by omega)) ?_
     refine pure_ (.int .i64 (i + 1)) ?_
     refine nil_ ?_
     refine then_j fun zy zye => ?_
     exact ⟨_, by omega, (i + 1), zx39, (no + 1), zc40, (es ++ [⟨(kd (i).toNat), (so (i).toNat), zx27, (0 + (cutN 120 (bn (i).toNat))), zc28, (vd (i).toNat), (xs (i).toNat 0), (xs (i).toNat 1), (xs (i).toNat 2), (xs (i).toNat 3), (gv (i).toNat), (bd (i).toNat)⟩]), zq41, (fun d => zy.tmps.getD d undef), ⟨rfl, by omega, by omega, by omega, by rw [ev_snoc]; exact zh43, rowv_some zh43 (by omega)⟩, by subst zye; kernel_rfl, zS44.re (R := ([] : List Blk)) [[⟨zb35, true, .cells #[.int .i64 (kd (i).toNat), .int .i64 (so (i).toNat), .slice zx27 (0 + (cutN 120 (bn (i).toNat))) zc28, .bool (vd (i).toNat), .int .i64 (xs (i).toNat 0), .int .i64 (xs (i).toNat 1), .int .i64 (xs (i).toNat 2), .int .i64 (xs (i).toNat 3), .bool (gv (i).toNat), .bool (bd (i).toNat)] 79 (0, 0)⟩], [⟨zb18, true, .cells #[.int .i64 (kd (i).toNat), .int .i64 (so (i).toNat), .slice zx27 (0 + (cutN 120 (bn (i).toNat))) zc28, .bool (vd (i).toNat), .int .i64 (xs (i).toNat 0), .int .i64 (xs (i).toNat 1), .int .i64 (xs (i).toNat 2), .int .i64 (xs (i).toNat 3), .bool (gv (i).toNat), .bool (bd (i).toNat)] 79 (0, 0)⟩], zq41, zq26] [2]⟩
   intro zh45
   have zh46 := ltF' zh45
   refine wp_exit (then_e (then_e (blk_e (then_n (seq_ (reg_ ?_))))))
   refine pure_ (.slice xo no co) ?_
   refine pure_ (.slice xo no co) ?_
   refine nil_ (then_n (wp_ret ?_))
   refine ret_ rfl (res_ [.tmp 2] [.slice xo no co] (.slice xo no co) ⟨res_tmp, trivial⟩) ?_
   obtain ⟨b1, rfl, rfl, hu⟩ := few_out (bs := []) zf10 zf11 (zS13.re (R := ([] : List Blk)) [orow] [0])
   exact ⟨b1, co, es, rfl, by omega, zS13.ch, hu⟩
 intro zh47
 have zh48 := ltF' zh47
 refine skip_ ?_
 refine skip_ ?_
 refine pure_ (.bool false) ?_
 refine nil_ (then_n (cond_F ?_))
 refine wp_exit (then_e (then_e (blk_e (then_n (seq_ (reg_ ?_))))))
 refine pure_ (.slice xo no co) ?_
 refine pure_ (.slice xo no co) ?_
 refine nil_ (then_n (wp_ret ?_))
 refine ret_ rfl (res_ [.tmp 2] [.slice xo no co] (.slice xo no co) ⟨res_tmp, trivial⟩) ?_
 obtain ⟨b1, rfl, rfl, hu⟩ := few_out (bs := []) zf10 zf11 (zS13.re (R := ([] : List Blk)) [orow] [0])
 exact ⟨b1, co, es, rfl, by omega, zS13.ch, hu⟩

set_option maxRecDepth 100000 in
set_option maxHeartbeats 4000000 in
theorem few_n  (w : World) :
    Gives Tryz.prog 24 #[.slice none 0 0] w fun v w1 => ∃ b1 c1 es, v = .slice (some ⟨b1, 0, none⟩) (List.length es) c1 ∧ es.length ≤ 60 ∧ Ch [] w w1 ∧ ∀ k, k < es.length → ∀ j u, (evA (es.getD k evD))[j]? = some u → w1.cell? ⟨b1, 0 + k * 10 + j, none⟩ = some u := by
 have S0 := St.nil [] w
 refine enter_ Tryz.func24 rfl ?_
 refine seq_ (reg_ ?_)
 refine pure_ (.slice none 0 0) ?_
 refine nil_ (then_n (seq_ (reg_ ?_)))
 refine new_ S0 (fun b => .slice (some ⟨b, 0, none⟩) 0 0) (.cells #[] 79) ?_
 intro zb1 zw2 zS3
 refine assign_ ?_
 refine nil_ (then_n (seq_ (seq_ (reg_ ?_))))
 refine pure_ (.int .i64 0) ?_
 refine nil_ (then_n (wp_block (loop_ 24 (seq_ (seq_ (reg_ ?_))))))
 refine pure_ (.int .i64 0) ?_
 refine pure_ (.slice none 0 0) ?_
 refine pure_ (.int .i64 0) ?_
 refine pure_ (.bool false) ?_
 refine pure_ (.bool false) ?_
 refine skip_ ?_
 refine skip_ ?_
 refine pure_ (.bool false) ?_
 refine nil_ (then_n (cond_F ?_))
 refine wp_exit (then_e (then_e (blk_e (then_n (seq_ (reg_ ?_))))))
 refine move_ ?_
 refine assign_ ?_
 refine nil_ (then_n (wp_ret ?_))
 refine ret_ rfl (res_ [.tmp 2] [.slice (some ⟨zb1, 0, none⟩) 0 0] (.slice (some ⟨zb1, 0, none⟩) 0 0) ⟨res_tmp, trivial⟩) ?_
 exact ⟨zb1, 0, [], rfl, by decide, zS3.ch, fun k hk => absurd hk (by simp)⟩

end Go.Proofs.YtgbgjbjlblcpaaaGreatDoor
