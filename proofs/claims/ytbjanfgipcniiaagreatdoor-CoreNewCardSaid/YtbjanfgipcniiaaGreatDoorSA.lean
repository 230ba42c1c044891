/- Rows that grow: append; lists of blocks in another order. Over any program. -/
import Derived.Test.YtbjanfgipcniiaaGreatDoorSL
import Derived.Deep.Upon
namespace Sx
open Go Go.RowKit Go.BigFrame
set_option linter.unusedVariables false
set_option linter.unusedSimpArgs false

def clash (x y : Blk) : Prop := x.wr = true ∨ y.wr = true → x.id ≠ y.id
section
variable {ms : List Nat} {w0 w w' : World} {bs bs' : List Blk}
theorem St.at' (S : St ms w0 bs w) {x : Blk} (h : x ∈ bs) : w.heap[x.id]? = some x.obj := by
  obtain ⟨i, hi⟩ := List.getElem?_of_mem h
  exact S.at_ i x hi
theorem St.own' (S : St ms w0 bs w) {x : Blk} (h : x ∈ bs) (hw : x.wr = true) : x.id ∈ ms ∨ w0.heap.size ≤ x.id := by
  obtain ⟨i, hi⟩ := List.getElem?_of_mem h
  exact S.own i x hi hw
theorem St.pw (S : St ms w0 bs w) : bs.Pairwise clash := by
  rw [List.pairwise_iff_getElem]
  intro i j hi hj hij hw
  have h1 : bs[i]? = some bs[i] := List.getElem?_eq_getElem hi
  have h2 : bs[j]? = some bs[j] := List.getElem?_eq_getElem hj
  rcases hw with hw | hw
  · exact S.apart i j _ _ h1 h2 (by omega) hw
  · exact (S.apart j i _ _ h2 h1 (by omega) hw).symm
theorem St.mk' (ch : Ch ms w0 w) (at_ : ∀ x ∈ bs, w.heap[x.id]? = some x.obj) (own : ∀ x ∈ bs, x.wr = true → x.id ∈ ms ∨ w0.heap.size ≤ x.id) (pw : bs.Pairwise clash) : St ms w0 bs w := by
  refine ⟨ch, fun i x h => at_ x (List.mem_of_getElem? h), fun i x h => own x (List.mem_of_getElem? h), ?_⟩
  intro i j x y hx hy hne hw
  rw [List.pairwise_iff_getElem] at pw
  have hi : i < bs.length := by
    rcases Nat.lt_or_ge i bs.length with h | h
    · exact h
    · simp [h] at hx
  have hj : j < bs.length := by
    rcases Nat.lt_or_ge j bs.length with h | h
    · exact h
    · simp [h] at hy
  obtain rfl : bs[i] = x := by simpa [hi] using hx
  obtain rfl : bs[j] = y := by simpa [hj] using hy
  rcases Nat.lt_or_gt_of_ne hne with h | h
  · exact pw i j hi hj h (.inl hw)
  · exact (pw j i hj hi h (.inr hw)).symm
theorem clash_symm {x y : Blk} (h : clash x y) : clash y x := fun hw => (h hw.symm).symm
theorem St.perm (S : St ms w0 bs w) (h : bs.Perm bs') : St ms w0 bs' w :=
  St.mk' S.ch (fun x hx => S.at' (h.mem_iff.2 hx)) (fun x hx => S.own' (h.mem_iff.2 hx)) ((h.pairwise_iff (fun h => clash_symm h)).1 S.pw)
theorem St.sub (S : St ms w0 bs w) (h : bs'.Sublist bs) : St ms w0 bs' w :=
  St.mk' S.ch (fun x hx => S.at' (h.mem hx)) (fun x hx => S.own' (h.mem hx)) (S.pw.sublist h)
theorem St.ge (S : St ms w0 bs w) {x : Blk} (h : x ∈ bs) : x.id < w.heap.size := heap_lt (S.at' h)
theorem Ch.mono {es es' : List Nat} (h : Ch es w w') (hs : ∀ x ∈ es, x ∈ es') : Ch es' w w' := ⟨h.os, h.tape, h.output, h.size, fun k hk hm => h.block k hk (fun hx => hm (hs k hx))⟩
/-- some blocks are others now -/
theorem St.redo {A bl bl' R : List Blk} (S : St ms w0 (A ++ (bl ++ R)) w) (hw : ∀ x ∈ bl, x.wr = true) (hc : Ch (bl.map Blk.id) w w')
    (hat : ∀ x ∈ bl', w'.heap[x.id]? = some x.obj) (hid : ∀ x ∈ bl', (∃ y ∈ bl, x.id = y.id) ∨ w.heap.size ≤ x.id) (hp : bl'.Pairwise clash) : St ms w0 (A ++ (bl' ++ R)) w' := by
  have hpw := S.pw
  rw [List.pairwise_append, List.pairwise_append] at hpw
  obtain ⟨pA, ⟨pb, pR, pbR⟩, pAb⟩ := hpw
  have far : ∀ z, z ∈ A ∨ z ∈ R → z.id ∉ bl.map Blk.id := by
    intro z hz hm
    obtain ⟨y, hy, he⟩ := List.mem_map.1 hm
    rcases hz with hz | hz
    · exact pAb z hz y (by simp [hy]) (.inr (hw y hy)) he.symm
    · exact pbR y hy z hz (.inl (hw y hy)) he
  have farx : ∀ z, z ∈ A ∨ z ∈ R → ∀ x ∈ bl', z.id ≠ x.id := by
    intro z hz x hx e
    rcases hid x hx with ⟨y, hy, he⟩ | h
    · exact far z hz (by rw [e, he]; exact List.mem_map_of_mem hy)
    · have := S.ge (x := z) (by rcases hz with h | h <;> simp [h])
      omega
  refine St.mk' (S.ch.trans hc ?_) ?_ ?_ ?_
  · intro k hk
    obtain ⟨y, hy, rfl⟩ := List.mem_map.1 hk
    exact S.own' (by simp [hy]) (hw y hy)
  · intro x hx
    rcases List.mem_append.1 hx with h | h
    · exact (hc.block _ (S.ge (by simp [h])) (far x (.inl h))).trans (S.at' (by simp [h]))
    · rcases List.mem_append.1 h with h | h
      · exact hat x h
      · exact (hc.block _ (S.ge (by simp [h])) (far x (.inr h))).trans (S.at' (by simp [h]))
  · intro x hx hxw
    rcases List.mem_append.1 hx with h | h
    · exact S.own' (by simp [h]) hxw
    · rcases List.mem_append.1 h with h | h
      · rcases hid x h with ⟨y, hy, he⟩ | hge
        · rw [he]; exact S.own' (by simp [hy]) (hw y hy)
        · exact .inr (Nat.le_trans S.ch.size hge)
      · exact S.own' (by simp [h]) hxw
  · rw [List.pairwise_append, List.pairwise_append]
    refine ⟨pA, ⟨hp, pR, fun x hx z hz _ e => farx z (.inr hz) x hx e.symm⟩, fun z hz x hx => ?_⟩
    rcases List.mem_append.1 hx with h | h
    · exact fun _ => farx z (.inl hz) x h
    · exact pAb z hz x (by simp [h])
end

/-- a row of elements of z cells: x, n, c are a slice of it; bl is its block, if it has one -/
def rowv (z : Nat) (T : TypeId) (olds : List Value) (x : Option Addr) (n c : Nat) (bl : List Blk) : Prop :=
  olds.length = n * z ∧ n ≤ c ∧ ((x = none ∧ n = 0 ∧ c = 0 ∧ bl = []) ∨ ∃ b tail, x = some ⟨b, 0, none⟩ ∧ bl = [⟨b, true, .cells (olds ++ tail).toArray T (0, 0)⟩] ∧ (olds ++ tail).length = c * z)
theorem rowv_nil (z : Nat) (T : TypeId) : rowv z T [] none 0 0 [] := ⟨by simp, Nat.le_refl _, .inl ⟨rfl, rfl, rfl, rfl⟩⟩
theorem rowv.wr {z T olds x n c bl} (h : rowv z T olds x n c bl) : ∀ y ∈ bl, y.wr = true := by
  rcases h.2.2 with ⟨_, _, _, rfl⟩ | ⟨b, tail, _, rfl, _⟩ <;> simp
theorem rowv.pw {z T olds x n c bl} (h : rowv z T olds x n c bl) : bl.Pairwise clash := by
  rcases h.2.2 with ⟨_, _, _, rfl⟩ | ⟨b, tail, _, rfl, _⟩ <;> simp

/-- what append yields -/
def Rowed (z : Nat) (T : TypeId) (olds : List Value) (n : Nat) (bl : List Blk) (B : Nat) (v : Value) (w' : World) : Prop :=
  ∃ x c bl', v = .slice x n c ∧ rowv z T olds x n c bl' ∧ ∀ y ∈ bl', w'.heap[y.id]? = some y.obj ∧ ((∃ u ∈ bl, y.id = u.id) ∨ B ≤ y.id)
theorem Rowed.stab {z T olds n bl B v} {w w' : World} (h : Rowed z T olds n bl B v w) (hc : Ch [] w w') : Rowed z T olds n bl B v w' := by
  obtain ⟨x, c, bl', h1, h2, h3⟩ := h
  exact ⟨x, c, bl', h1, h2, fun y hy => ⟨(hc.block _ (heap_lt (h3 y hy).1) (by simp)).trans (h3 y hy).1, (h3 y hy).2⟩⟩
section
variable {P : Program}
theorem run_appendR {w : World} {z T n c m : Nat} {olds news : List Value} {x : Option Addr} {bl : List Blk} (hr : rowv z T olds x n c bl) (hat : ∀ y ∈ bl, w.heap[y.id]? = some y.obj)
    {t tx ty : TypeId} {xv : Value} (bytes : Nat) (hs : Src P z tx xv m news w) (ht : P.underlying t = some (.slice T)) (hi : (P.info? T).map (fun i => (i.zero.map (·.cells.size), i.size, i.bytes)) = some (some z, z, bytes))
    (hb : (n + m) * bytes ≤ 140737488355328) (h63 : n + m ≤ maxLen) :
    ∃ v w', (Builtin.append_ #[t, tx] ty #[.slice x n c, xv]).run P w = .ok v w' ∧ Ch (bl.map Blk.id) w w' ∧ Rowed z T (olds ++ news) (n + m) bl w.heap.size v w' := by
  obtain ⟨i, hinfo, hi⟩ := Option.map_eq_some_iff.1 hi
  simp only [Prod.mk.injEq] at hi
  obtain ⟨hz, hsz, hby⟩ := hi
  obtain ⟨z0, hz0, hzs⟩ := Option.map_eq_some_iff.1 hz
  obtain ⟨hlen, hnc, hrow⟩ := hr
  have hnl := hs.newsLen
  have hnews1 : news.length = m * i.size := by rw [hsz]; exact hnl
  have hs' : Src P i.size tx xv m news w := by rw [hsz]; exact hs
  by_cases hroom : n + m ≤ c
  · rcases Nat.eq_zero_or_pos m with hm0 | hm0
    · subst hm0
      obtain rfl : news = [] := List.eq_nil_of_length_eq_zero (by simpa using hnl)
      refine ⟨_, _, run_append_nothing (P := P) w t tx ty T i ht hinfo x n c hnc xv hs', Ch.refl _ _, x, c, bl, rfl, ⟨by simpa using hlen, hnc, by simpa using hrow⟩, fun y hy => ⟨hat y hy, .inl ⟨y, hy, rfl⟩⟩⟩
    · rcases hrow with ⟨_, rfl, rfl, _⟩ | ⟨b, tail, rfl, rfl, hcl⟩
      · omega
      · have hat1 := hat _ (List.mem_singleton.2 rfl)
        have hbd : n * z + news.length ≤ (olds ++ tail).length := by
          rw [hcl, hnl, ← Nat.add_mul]; exact Nat.mul_le_mul_right _ hroom
        have hst := run_storeCells_at (P := P) b (n * z) T news 0 (olds ++ tail).toArray w hat1 (by simpa using hbd) hs.one
        simp only [Nat.add_zero] at hst
        have hrun : (Builtin.append_ #[t, tx] ty #[.slice (some ⟨b, 0, none⟩) n c, xv]).run P w = .ok (.slice (some ⟨b, 0, none⟩) (n + m) c) (w.setRow b ((olds ++ tail).take (n * z) ++ news ++ (olds ++ tail).drop (n * z + news.length)).toArray) := by
          rcases hs'.kind with ⟨e', hk⟩ | hk <;> simp [Builtin.append_, run_underlying ht, run_underlying hk, Go.sizeOf, typeInfo, hinfo, hs'.len, hroom, hs.cells, Addr.add_lit, hsz, hst, Result.andThen]
        refine ⟨_, _, hrun, by simpa using Ch.setRow w b _, some ⟨b, 0, none⟩, c, [⟨b, true, .cells ((olds ++ news) ++ tail.drop news.length).toArray T (0, 0)⟩], rfl, ⟨by rw [List.length_append, hlen, hnl, Nat.add_mul], hroom, .inr ⟨b, _, rfl, rfl, ?_⟩⟩, ?_⟩
        · simp only [List.length_append, List.length_drop, hlen] at hcl hbd ⊢
          omega
        · intro y hy
          obtain rfl := List.mem_singleton.1 hy
          refine ⟨?_, .inl ⟨_, List.mem_singleton.2 rfl, rfl⟩⟩
          have := setRow_heap w b (olds ++ tail).toArray ((olds ++ tail).take (n * z) ++ news ++ (olds ++ tail).drop (n * z + news.length)).toArray T (0, 0) hat1
          rw [this]
          congr 3
          rw [← hlen, List.take_left, List.drop_append, List.drop_eq_nil_of_le (by omega)]
          simp
  · have hg : c < n + m := by omega
    have hold : (Builtin.firstCells i.size n (.slice x n c)).run P w.drew = .ok olds.toArray w.drew := by
      rcases hrow with ⟨rfl, rfl, rfl, _⟩ | ⟨b, tail, rfl, rfl, hcl⟩
      · obtain rfl : olds = [] := List.eq_nil_of_length_eq_zero (by simpa using hlen)
        exact run_firstCells_none (P := P) w.drew i.size 0 0 0
      · have hat1 := hat _ (List.mem_singleton.2 rfl)
        refine run_firstCells_some (P := P) w.drew i.size n ⟨b, 0, none⟩ n c olds (by rw [hlen, hsz]) (fun j v hj => ?_)
        rw [Addr.add_lit]
        have : w.drew.cell? ⟨b, 0 + j, none⟩ = w.cell? ⟨b, j, none⟩ := by simp
        rw [this, cell_of hat1]
        have hj' : j < olds.length := by
          rcases Nat.lt_or_ge j olds.length with h | h
          · exact h
          · simp [h] at hj
        simp [List.getElem?_append_left hj', hj]
    have hrun := run_append_grow_src (P := P) w t tx ty T i z0 ht hinfo hz0 x n c olds hold xv m news hs' hg (by simp only [maxLen] at h63; omega) (by rw [hby]; exact growslice_fits hg hb)
    have hge := grownCap_ge w (n + m) c T
    refine ⟨_, _, hrun, ?_, some ⟨w.heap.size, 0, none⟩, grownCap w (n + m) c T, [⟨w.heap.size, true, .cells ((olds ++ news) ++ (Builtin.zeroCells z0.cells (grownCap w (n + m) c T - (n + m))).toList).toArray T (0, 0)⟩], rfl, ⟨by rw [List.length_append, hlen, hnl, Nat.add_mul], hge, .inr ⟨_, _, rfl, rfl, ?_⟩⟩, ?_⟩
    · exact ((Ch.refl (bl.map Blk.id) w).drew).trans (Ch.alloc (bl.map Blk.id) w.drew _) (fun x hx => .inl hx)
    · rw [List.length_append, List.length_append, hlen, hnl, Array.length_toList, size_zeroCells, hzs, ← Nat.add_mul, ← Nat.add_mul]
      congr 1; omega
    · intro y hy
      obtain rfl := List.mem_singleton.1 hy
      refine ⟨?_, .inr (Nat.le_refl _)⟩
      have := heap_alloc_new w.drew (.cells ((olds ++ news).toArray ++ Builtin.zeroCells z0.cells (grownCap w (n + m) c T - (n + m))) T)
      refine Eq.trans this ?_
      congr 2
      apply Array.ext'
      simp
end
end Sx
