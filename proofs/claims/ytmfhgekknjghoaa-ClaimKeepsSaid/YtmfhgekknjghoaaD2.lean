/- The laws of package claim: the plain part. -/
import Derived.Test.YtmfhgekknjghoaaD1
namespace Go.Proofs.Ytmfhgekknjghoaa
open Go Go.RowKit Go.BigFrame Sx
set_option linter.unusedVariables false
set_option linter.unusedSimpArgs false

def wl3 (p : Sd.Pol) (b1 b2 b3 : Bool) : List Sd.Ask :=
  let f := fun (b : Bool) (s : Int) (L : List Sd.Ask) => bif b then (Sd.Q.push 3 L ⟨s, Sd.placeOf p s, ⟨0, 9⟩⟩).1 else L
  f b3 3 (f b2 2 (f b1 1 []))
def be3 (p : Sd.Pol) (b1 b2 b3 : Bool) (but : Int) : Int :=
  let f := fun (b : Bool) (t o : Int) => bif (b && (t != but && (o == 0 || Sd.higher p t o))) then t else o
  f b3 3 (f b2 2 (f b1 1 0))
theorem waitsL_eq (p : Sd.Pol) (b : Int) : waitsL p b = wl3 p (bitB b 1) (bitB b 2) (bitB b 3) := rfl
theorem bestP_eq (p : Sd.Pol) (b f : Int) : bestP p b f = be3 p (bitB b 1) (bitB b 2) (bitB b 3) f := rfl
theorem ranks3 {p : Sd.Pol} (h : Sd.PolOK p) : ∃ r1 r2 r3 : Int, Sd.placeOf p 1 = r1 ∧ Sd.placeOf p 2 = r2 ∧ Sd.placeOf p 3 = r3 ∧ ((r1 < r2 ∧ r2 < r3) ∨ (r1 < r3 ∧ r3 < r2) ∨ (r2 < r1 ∧ r1 < r3) ∨ (r2 < r3 ∧ r3 < r1) ∨ (r3 < r1 ∧ r1 < r2) ∨ (r3 < r2 ∧ r2 < r1)) ∧
    (∀ s t : Int, 1 ≤ s ∧ s ≤ 3 → 1 ≤ t ∧ t ≤ 3 → Sd.higher p s t = decide (Sd.placeOf p s < Sd.placeOf p t)) := by
  refine ⟨_, _, _, rfl, rfl, rfl, ?_, fun s t hs ht => ?_⟩
  · have h0 := h.o0
    rcases h.perm with ⟨a, b, c⟩ | ⟨a, b, c⟩ | ⟨a, b, c⟩ | ⟨a, b, c⟩ | ⟨a, b, c⟩ | ⟨a, b, c⟩ <;> simp [Sd.placeOf, a, b, c, h0]
  · exact Sd.higher_eq h (by omega) (by omega)
set_option maxHeartbeats 4000000 in
theorem wl3_spec {p : Sd.Pol} (hp : Sd.PolOK p) (b1 b2 b3 : Bool) (f : Int) (h1 : f = 1 → b1 = false) (h2 : f = 2 → b2 = false) (h3 : f = 3 → b3 = false) :
    (be3 p b1 b2 b3 f = 0 ∧ wl3 p b1 b2 b3 = []) ∨ (∃ a l, wl3 p b1 b2 b3 = a :: l ∧ a.source = be3 p b1 b2 b3 f ∧ 1 ≤ a.source ∧ a.source ≤ 3 ∧ a.source ≠ f ∧ (Sd.Q.drop (wl3 p b1 b2 b3) a.source).length + 1 = (wl3 p b1 b2 b3).length) := by
  obtain ⟨r1, r2, r3, e1, e2, e3, ho, hh⟩ := ranks3 hp
  have g12 := hh 1 2 (by omega) (by omega); have g13 := hh 1 3 (by omega) (by omega); have g21 := hh 2 1 (by omega) (by omega)
  have g23 := hh 2 3 (by omega) (by omega); have g31 := hh 3 1 (by omega) (by omega); have g32 := hh 3 2 (by omega) (by omega)
  rw [e1, e2] at g12; rw [e1, e3] at g13; rw [e2, e1] at g21; rw [e2, e3] at g23; rw [e3, e1] at g31; rw [e3, e2] at g32
  have n1 : b1 = true → f ≠ 1 := fun h e => by rw [h1 e] at h; cases h
  have n2 : b2 = true → f ≠ 2 := fun h e => by rw [h2 e] at h; cases h
  have n3 : b3 = true → f ≠ 3 := fun h e => by rw [h3 e] at h; cases h
  have m1 : b1 = true → ((1 : Int) != f) = true := fun h => by have := n1 h; simp; omega
  have m2 : b2 = true → ((2 : Int) != f) = true := fun h => by have := n2 h; simp; omega
  have m3 : b3 = true → ((3 : Int) != f) = true := fun h => by have := n3 h; simp; omega
  clear h1 h2 h3 hh
  have key : ∀ x y : Int, x < y → (decide (x < y) = true ∧ decide (y < x) = false ∧ decide (x ≤ y) = true ∧ decide (y ≤ x) = false) := fun x y h => by simp; omega
  cases b1 <;> cases b2 <;> cases b3 <;> (try have q1 := m1 rfl) <;> (try have q2 := m2 rfl) <;> (try have q3 := m3 rfl) <;> (try have n1' := n1 rfl) <;> (try have n2' := n2 rfl) <;> (try have n3' := n3 rfl) <;>
  rcases ho with ⟨o1, o2⟩ | ⟨o1, o2⟩ | ⟨o1, o2⟩ | ⟨o1, o2⟩ | ⟨o1, o2⟩ | ⟨o1, o2⟩ <;>
  (have o3 : _ := Int.lt_trans o1 o2
   have k1 := key _ _ o1
   have k2 := key _ _ o2
   have k3 := key _ _ o3
   simp [wl3, be3, Sd.Q.push, Sd.Q.insert, Sd.Q.waits, Sd.Q.drop, e1, e2, e3, *] <;> omega)
def allB (f : Int → Bool) : Nat → Bool
  | 0 => true
  | n + 1 => f n && allB f n
theorem allB_of {f : Int → Bool} : ∀ {n : Nat}, allB f n = true → ∀ k : Int, 0 ≤ k → k < n → f k = true
  | 0, _, k, h0, h1 => by omega
  | n + 1, h, k, h0, h1 => by
    simp only [allB, Bool.and_eq_true] at h
    by_cases e : k = n
    · rw [e]; exact h.1
    · exact allB_of h.2 k h0 (by omega)
theorem andNot_bit (n : Int) (h0 : 0 ≤ n) (h1 : n ≤ 255) : bitB (bits .andNot .u8 n 2) 1 = false ∧ bitB (bits .andNot .u8 n 4) 2 = false ∧ bitB (bits .andNot .u8 n 8) 3 = false := by
  have h : allB (fun n => !bitB (bits .andNot .u8 n 2) 1 && (!bitB (bits .andNot .u8 n 4) 2 && !bitB (bits .andNot .u8 n 8) 3)) 256 = true := by kernel_rfl
  have := allB_of h n h0 (by omega)
  simpa [Bool.and_eq_true] using this

theorem rel_all {p : Sd.Pol} (hp : Sd.PolOK p) (b f ep : Int) (hf : 0 ≤ f ∧ f ≤ 3) (hep : 0 ≤ ep ∧ ep ≤ 65535) (h1 : f = 1 → bitB b 1 = false) (h2 : f = 2 → bitB b 2 = false) (h3 : f = 3 → bitB b 3 = false)
    {z : Sd.Tok × Int × List Sd.Ask} (he : Sd.releaseTok ⟨f, ep, -1, ⟨0, 0⟩, ⟨0, 0⟩, false⟩ (waitsL p b) f = z) :
    (ep = 65535 → z.1.holder = f ∧ z.1.epoch = ep ∧ z.1.offer = -1 ∧ z.1.oa.n = 0 ∧ z.1.oa.most = 0 ∧ z.1.la.n = 0 ∧ z.1.la.most = 0 ∧ z.1.bad = false ∧ z.2.1 = 24 ∧ z.2.2.length = (waitsL p b).length) ∧
    (¬ ep = 65535 → bestP p b f = 0 → z.1.holder = f ∧ z.1.epoch = ep ∧ z.1.offer = -1 ∧ z.1.oa.n = 0 ∧ z.1.oa.most = 0 ∧ z.1.la.n = 0 ∧ z.1.la.most = 0 ∧ z.1.bad = false ∧ z.2.1 = 2 ∧ z.2.2.length = (waitsL p b).length) ∧
    (¬ ep = 65535 → ¬ bestP p b f = 0 → z.1.holder = bestP p b f ∧ z.1.epoch = ep + 1 ∧ z.1.offer = -1 ∧ z.1.oa.n = 0 ∧ z.1.oa.most = 0 ∧ z.1.la.n = 0 ∧ z.1.la.most = 0 ∧ z.1.bad = false ∧ z.2.1 = 0 ∧ z.2.2.length + 1 = (waitsL p b).length) := by
  have hs := wl3_spec hp (bitB b 1) (bitB b 2) (bitB b 3) f h1 h2 h3
  rw [← waitsL_eq, ← bestP_eq] at hs
  refine ⟨fun h => ?_, fun h hb => ?_, fun h hb => ?_⟩
  · have : 65535 ≤ ep := by omega
    rw [Sd.releaseTok, if_neg (by simp), if_pos this] at he
    subst he; simp
  · have hn : ¬ 65535 ≤ ep := by omega
    rcases hs with ⟨_, hl⟩ | ⟨a, l, hl, ha, h4, h5, h6, h7⟩
    · rw [Sd.releaseTok, if_neg (by simp), if_neg hn, hl] at he
      rw [hl]
      simp only [Sd.toFirst] at he
      subst he; simp
    · omega
  · have hn : ¬ 65535 ≤ ep := by omega
    rcases hs with ⟨h0, _⟩ | ⟨a, l, hl, ha, h4, h5, h6, h7⟩
    · exact absurd h0 hb
    · rw [Sd.releaseTok, if_neg (by simp), if_neg hn] at he
      rw [hl] at he h7 ⊢
      have hg : (Sd.Tok.grant ⟨f, ep, -1, ⟨0, 0⟩, ⟨0, 0⟩, false⟩ a.source) = (Sd.Tok.pass ⟨f, ep, -1, ⟨0, 0⟩, ⟨0, 0⟩, false⟩ a.source (ep + 1), 0) := by
        rw [Sd.Tok.grant, if_neg (by omega), if_neg h6, if_neg hn]
      simp only [Sd.toFirst, hg] at he
      subst he
      exact ⟨ha, rfl, rfl, rfl, rfl, rfl, rfl, rfl, rfl, h7⟩
theorem push_again {m : Int} {L : List Sd.Ask} {a : Sd.Ask} {z : List Sd.Ask × Int} (e : Sd.Q.push m L a = z) (h : Sd.Q.waits L a.source = true) : z.2 = 27 ∧ z.1 = L := by
  subst e; simp [Sd.Q.push, h]
theorem push_full {m : Int} {L : List Sd.Ask} {a : Sd.Ask} {z : List Sd.Ask × Int} (e : Sd.Q.push m L a = z) (h : Sd.Q.waits L a.source = false) (h2 : m ≤ L.length) : z.2 = 3 ∧ z.1 = L := by
  subst e; simp [Sd.Q.push, h, h2]
theorem insert_len (L : List Sd.Ask) (a : Sd.Ask) : (Sd.Q.insert L a).length = L.length + 1 := by
  unfold Sd.Q.insert
  have := congrArg List.length (List.takeWhile_append_dropWhile (p := fun x : Sd.Ask => decide (x.rank ≤ a.rank)) (l := L))
  rw [List.length_append] at this
  rw [List.length_append, List.length_cons]; omega
theorem push_ok {m : Int} {L : List Sd.Ask} {a : Sd.Ask} {z : List Sd.Ask × Int} (e : Sd.Q.push m L a = z) (h : Sd.Q.waits L a.source = false) (h2 : ¬ m ≤ L.length) : z.2 = 0 ∧ z.1.length = L.length + 1 ∧ ∀ s, Sd.Q.waits z.1 s = (Sd.Q.waits L s || decide (a.source = s)) := by
  subst e
  have e2 : Sd.Q.push m L a = (Sd.Q.insert L a, 0) := by rw [Sd.Q.push, if_neg (by rw [h]; simp), if_neg h2]
  rw [e2]
  refine ⟨rfl, insert_len _ _, fun s => ?_⟩
  show Sd.Q.waits (Sd.Q.insert L a) s = _
  have hw : ∀ l : List Sd.Ask, Sd.Q.waits l s = l.any fun x => decide (x.source = s) := fun l => rfl
  have hL : Sd.Q.waits L s = ((L.takeWhile fun x => decide (x.rank ≤ a.rank)).any (fun x => decide (x.source = s)) || (L.dropWhile fun x => decide (x.rank ≤ a.rank)).any fun x => decide (x.source = s)) := by
    rw [← List.any_append, List.takeWhile_append_dropWhile]; rfl
  rw [hL, hw]
  simp only [Sd.Q.insert, List.any_append, List.any_cons]
  cases (L.takeWhile fun x => decide (x.rank ≤ a.rank)).any (fun x => decide (x.source = s)) <;> cases (L.dropWhile fun x => decide (x.rank ≤ a.rank)).any (fun x => decide (x.source = s)) <;> cases decide (a.source = s) <;> rfl
theorem askEq (a b : Sd.Ask) : ((a.source == b.source) && ((a.rank == b.rank) && (((a.age.n == b.age.n) && ((a.age.most == b.age.most) && true)) && true))) = decide (a = b) := by
  rcases a with ⟨s, r, ⟨n, m⟩⟩; rcases b with ⟨s', r', ⟨n', m'⟩⟩
  apply Bool.eq_iff_iff.2
  simp [Sd.Ask.mk.injEq, Sd.Timer.mk.injEq]
def optA : Nat → Option Addr
  | 0 => none
  | b + 1 => some ⟨b, 0, none⟩
theorem grant_ok {t : Sd.Tok} {f : Int} (h : (t.grant f).2 = 0) : (t.grant f).1 = t.pass f (t.epoch + 1) ∧ t.epoch < 65535 := by
  by_cases h1 : f < 0 ∨ 5 ≤ f
  · rw [Sd.Tok.grant, if_pos h1] at h; simp at h
  by_cases h2 : f = t.holder
  · rw [Sd.Tok.grant, if_neg h1, if_pos h2] at h; simp at h
  by_cases h3 : 65535 ≤ t.epoch
  · rw [Sd.Tok.grant, if_neg h1, if_neg h2, if_pos h3] at h; simp at h
  · rw [Sd.Tok.grant, if_neg h1, if_neg h2, if_neg h3]; exact ⟨rfl, by omega⟩
theorem ask_cases {p : Sd.Pol} {t : Sd.Tok} {m : Int} {L : List Sd.Ask} {f : Int} {nw : Bool} {z : Sd.Tok × Int × Int × List Sd.Ask} (e : Sd.askTok p t m L f nw = z) :
    (z.2.2.1 ≠ 0 → z.1 = t ∧ z.2.1 = 0 ∧ z.2.2.2 = L) ∧ (z.2.2.1 = 0 → z.2.1 = 0 → z.1 = t ∧ z.2.2.2.length = L.length + 1) ∧ (z.2.1 ≠ 0 → z.1.holder = f ∧ z.1.epoch = t.epoch + 1 ∧ t.epoch < 65535 ∧ z.2.1 = 3) := by
  unfold Sd.askTok at e
  split at e
  · subst e; simp
  split at e
  · subst e; simp
  split at e
  · subst e; simp
  split at e
  · split at e
    · rename_i h; subst e; simp [h]
    · rename_i h1 h2 h3 h4 h5
      subst e
      have hg : (t.grant f).2 = 0 := by omega
      obtain ⟨g1, g2⟩ := grant_ok hg
      refine ⟨by simp, by simp, fun _ => ⟨?_, ?_, g2, rfl⟩⟩
      · show (t.grant f).1.holder = f
        rw [g1]; rfl
      · show (t.grant f).1.epoch = t.epoch + 1
        rw [g1]; rfl
  split at e
  · subst e; simp
  · subst e
    refine ⟨fun h => ⟨rfl, rfl, ?_⟩, fun h _ => ⟨rfl, ?_⟩, by simp⟩
    · show (Sd.Q.push m L _).1 = L
      revert h
      show (Sd.Q.push m L _).2 ≠ 0 → _
      unfold Sd.Q.push; split
      · intro _; rfl
      · split
        · intro _; rfl
        · intro h; simp at h
    · show (Sd.Q.push m L _).1.length = L.length + 1
      revert h
      show (Sd.Q.push m L _).2 = 0 → _
      unfold Sd.Q.push; split
      · simp
      · split
        · simp
        · intro _; exact insert_len _ _
theorem rel_cases {t : Sd.Tok} {L : List Sd.Ask} {f : Int} {z : Sd.Tok × Int × List Sd.Ask} (e : Sd.releaseTok t L f = z) (hd : ∀ a l, L = a :: l → (Sd.Q.drop L a.source).length + 1 = L.length) :
    (z.2.1 ≠ 0 → z.1 = t ∧ z.2.2 = L) ∧ (z.2.1 = 0 → f = t.holder ∧ ∃ a l, L = a :: l ∧ z.1.holder = a.source ∧ z.2.2.length + 1 = L.length) := by
  unfold Sd.releaseTok at e
  split at e
  · subst e; simp
  split at e
  · subst e; simp
  unfold Sd.toFirst at e
  split at e
  · subst e; simp
  · split at e
    · rename_i h; subst e; simp [h]
    · rename_i h1 h2 q a l h3
      subst e
      refine ⟨by simp, fun _ => ⟨by omega, a, l, rfl, ?_, hd a l rfl⟩⟩
      have hg : (t.grant a.source).2 = 0 := by omega
      show (t.grant a.source).1.holder = a.source
      rw [(grant_ok hg).1]; rfl
theorem qs_drop {bq : Nat} {most : Int} {L : List Sd.Ask} {bl : List Blk} (h : QS bq most L bl) : ∀ a l, L = a :: l → (Sd.Q.drop L a.source).length + 1 = L.length := by
  obtain ⟨es, x, c, came, rows, rfl, hr, hH, rfl⟩ := h
  intro a l hl
  match es, hH, hl with
  | [], _, hl => simp [absL] at hl
  | [x], _, hl => simp [absL] at hl ⊢; obtain ⟨rfl, rfl⟩ := hl; simp [Sd.Q.drop]
  | [x, y], hH, hl =>
    simp [absL, HeapOk] at hl hH ⊢
    obtain ⟨rfl, rfl⟩ := hl
    have : ¬ y.a.source = x.a.source := fun e => hH.2 e.symm
    simp [Sd.Q.drop, this]
  | [x, y, u], hH, hl =>
    simp only [HeapOk] at hH
    obtain ⟨_, h1, h2, h3⟩ := hH
    have h1' : ¬ y.a.source = x.a.source := fun e => h1 e.symm
    have h2' : ¬ u.a.source = x.a.source := fun e => h2 e.symm
    simp only [absL] at hl ⊢
    split at hl <;> (rename_i hr; simp only [hr, if_true, if_false] at hl ⊢; simp at hl; obtain ⟨rfl, rfl⟩ := hl; simp [Sd.Q.drop, h1', h2'])
  | _ :: _ :: _ :: _ :: _, h, _ => exact absurd h (by simp [HeapOk])

end Go.Proofs.Ytmfhgekknjghoaa
