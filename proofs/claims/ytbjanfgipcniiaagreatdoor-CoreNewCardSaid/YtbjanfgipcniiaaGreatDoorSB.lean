/- Steps for rows that grow, and for lists of blocks that end in ones not listed. Over any program. -/
import Derived.Test.YtbjanfgipcniiaaGreatDoorSDE
namespace Sx
open Go Go.RowKit Go.BigFrame
set_option linter.unusedVariables false
set_option linter.unusedSimpArgs false
section
variable {ms : List Nat} {w0 w w' : World} {bs : List Blk}
theorem St.pickT (S : St ms w0 bs w) (is : List Nat) (n : Nat) {A T : List Blk} (hT : bs.drop n = T) (he : is.map (bs[·]?) = A.map some) (hn : is.Nodup) (hlt : is.all (fun i => Nat.blt i n) = true) : St ms w0 (A ++ T) w := by
  have hA := S.pick is he hn
  have hat : ∀ x ∈ A, ∃ i, i < n ∧ bs[i]? = some x := by
    intro x hx
    have h1 : some x ∈ A.map some := List.mem_map_of_mem hx
    rw [← he] at h1
    obtain ⟨i, hi, h2⟩ := List.mem_map.1 h1
    have := List.all_eq_true.1 hlt i hi
    exact ⟨i, by unfold Nat.blt at this; exact Nat.le_of_ble_eq_true this, h2⟩
  have htt : ∀ x ∈ T, ∃ j, bs[n + j]? = some x := by
    intro x hx
    rw [← hT] at hx
    obtain ⟨j, hj⟩ := List.getElem?_of_mem hx
    exact ⟨j, by simpa using hj⟩
  refine St.mk' S.ch (fun x hx => ?_) (fun x hx => ?_) ?_
  · rcases List.mem_append.1 hx with h | h
    · exact hA.at' h
    · obtain ⟨j, hj⟩ := htt x h; exact S.at_ _ _ hj
  · rcases List.mem_append.1 hx with h | h
    · exact hA.own' h
    · obtain ⟨j, hj⟩ := htt x h; exact S.own _ _ hj
  · rw [List.pairwise_append]
    refine ⟨hA.pw, by rw [← hT]; exact S.pw.sublist (List.drop_sublist _ _), fun x hx y hy hw => ?_⟩
    obtain ⟨i, hi, hix⟩ := hat x hx
    obtain ⟨j, hj⟩ := htt y hy
    rcases hw with hw | hw
    · exact S.apart i (n + j) x y hix hj (by omega) hw
    · exact (S.apart (n + j) i y x hj hix (by omega) hw).symm
theorem eraseIdx_perm {α : Type} : ∀ {l : List α} {i : Nat} {x : α}, l[i]? = some x → l.Perm (x :: l.eraseIdx i)
  | [], i, x, h => by simp at h
  | y :: l, 0, x, h => by obtain rfl : y = x := by simpa using h
                          exact List.Perm.refl _
  | y :: l, i + 1, x, h => by
    have := eraseIdx_perm (l := l) (i := i) (x := x) (by simpa using h)
    exact (List.Perm.cons y this).trans (List.Perm.swap _ _ _)
end

section
variable {P : Program} {w w0 : World} {ms : List Nat} {bs : List Blk}
theorem append_op {ρ : Operand → Value} {o : Oper} {w' : World} {s x : Operand} {t tx : TypeId} {sv xv v : Value} (ho : o.op = .call ⟨.builtin .append, #[s, x], #[t, tx]⟩) (hs : ρ s = sv) (hx : ρ x = xv)
    (hrun : (Builtin.append_ #[t, tx] o.type #[sv, xv]).run P w = .ok v w') : (execOp ρ o).run P w = .ok (.value v) w' := by
  simp [execOp, ho, resolve, invoke, builtin, hs, hx, hrun, Result.andThen]
/-- what is appended: the cells of a slice of a known block; nothing; a slice that came in -/
theorem srcK (S : St ms w0 bs w) (i m z : Nat) (news : List Value) {b off c : Nat} {tx e' : TypeId} (hk : P.underlying tx = some (.slice e')) (hb : lkN bs i off (m * z) = some (b, news.toArray)) (h1 : news.all (·.oneCell') = true) (hl : news.length = m * z) :
    Src P z tx (.slice (some ⟨b, off, none⟩) m c) m news w := by
  obtain ⟨wr, cs, t, fr, hbi, hc, hv⟩ := lkN_at hb
  refine Src.ofSlice w hk ⟨b, off, none⟩ m c news hl (fun j u hj => ?_) (fun u hu => List.all_eq_true.1 h1 u hu)
  rw [Addr.add_lit, cell_of (S.at_ i _ hbi)]
  have h2 : (cs.extract off (off + m * z))[j]? = some u := by rw [hc]; simpa using hj
  rw [Array.getElem?_extract] at h2
  split at h2
  · exact h2
  · exact absurd h2 (by simp)
theorem srcO (S : St ms w0 bs w) {ad : Addr} {n c z : Nat} (news : List Value) {tx e' : TypeId} (hk : P.underlying tx = some (.slice e')) (hl : news.length = n * z) (h : ∀ j u, news[j]? = some u → w0.cell? (ad.add j) = some u) (hm : ad.block ∉ ms)
    (h1 : ∀ u ∈ news, u.oneCell' = true) : Src P z tx (.slice (some ad) n c) n news w := by
  refine Src.ofSlice w hk ad n c news hl (fun j u hj => ?_) h1
  have hb : (ad.add j).block = ad.block := by unfold Addr.add; split <;> rfl
  have hc := h j u hj
  have hlt : ad.block < w0.heap.size := by
    unfold World.cell? at hc
    rw [hb] at hc
    split at hc
    · next h => exact heap_lt h
    · exact absurd hc (by simp)
  have h2 := S.ch.block ad.block hlt hm
  unfold World.cell? at hc ⊢
  rw [hb] at hc ⊢
  rw [h2]; exact hc
section
variable {ops : Array Oper} {rest : List Oper} {o : Oper} {a : Act} {Q : Exit → Act → World → Prop} {z T n c m bytes : Nat} {olds news tail : List Value} {s x : Operand} {t tx : TypeId} {xv : Value}
/-- onto a row whose block is the i-th -/
theorem appendB_ (S : St ms w0 bs w) (i : Nat) {b : Nat} (olds tail : List Value) (hs : Src P z tx xv m news w) (bytes : Nat) (ho : o.op = .call ⟨.builtin .append, #[s, x], #[t, tx]⟩ := by rfl) (hi : bs[i]? = some ⟨b, true, .cells (olds ++ tail).toArray T (0, 0)⟩ := by kernel_rfl)
    (hlo : olds.length = n * z) (hlc : (olds ++ tail).length = c * z) (hnc : n ≤ c) (hm : 0 < m) (hbd : (n + m) * bytes ≤ 140737488355328) (h63 : n + m ≤ maxLen)
    (k : ∀ b' c' tail' w', ((olds ++ news) ++ tail').length = c' * z → n + m ≤ c' → St ms w0 (⟨b', true, .cells ((olds ++ news) ++ tail').toArray T (0, 0)⟩ :: bs.eraseIdx i) w' → WL P ops Q rest (a.put o.dst (.slice (some ⟨b', 0, none⟩) (n + m) c')) w')
    (hw : Region.wanted o (yielded ops a.tmps) = true := by kernel_rfl) (hsv : a.eval s = .slice (some ⟨b, 0, none⟩) n c := by kernel_rfl) (hxv : a.eval x = xv := by kernel_rfl)
    (ht : P.underlying t = some (.slice T) := by kernel_rfl) (hinfo : (P.info? T).map (fun i => (i.zero.map (·.cells.size), i.size, i.bytes)) = some (some z, z, bytes) := by kernel_rfl) : WL P ops Q (o :: rest) a w :=
  WL.want hw fun K hK => by
    have S1 : St ms w0 ([] ++ ([⟨b, true, .cells (olds ++ tail).toArray T (0, 0)⟩] ++ bs.eraseIdx i)) w := S.perm (eraseIdx_perm hi)
    obtain ⟨v, w', hrun, hc, x', c', bl', rfl, hr, hat⟩ := run_appendR (P := P) (ty := o.type) (w := w) (z := z) (T := T) (n := n) (c := c) (m := m) (olds := olds) (news := news) (x := some ⟨b, 0, none⟩) (bl := [⟨b, true, .cells (olds ++ tail).toArray T (0, 0)⟩])
      ⟨hlo, hnc, .inr ⟨b, tail, rfl, rfl, hlc⟩⟩ (fun y hy => S1.at' (List.mem_append_right _ (List.mem_append_left _ hy))) bytes hs ht hinfo hbd h63
    have S2 := S1.redo (by simp) hc (fun y hy => (hat y hy).1) (fun y hy => (hat y hy).2) hr.pw
    obtain ⟨_, hle, hrow⟩ := hr
    rcases hrow with ⟨_, h0, _⟩ | ⟨b', tail', rfl, rfl, hl'⟩
    · omega
    unfold Oper.wp
    rw [append_op ho hsv hxv hrun]
    exact hK _ _ (k b' c' tail' w' hl' hle S2)
/-- onto an empty slice without room, wherever it lies -/
theorem appendZ_ (S : St ms w0 bs w) (hs : Src P z tx xv m news w) (bytes : Nat) (ho : o.op = .call ⟨.builtin .append, #[s, x], #[t, tx]⟩ := by rfl) (hm : 0 < m) (hbd : m * bytes ≤ 140737488355328) (h63 : m ≤ maxLen)
    (k : ∀ b' c' tail' w', (news ++ tail').length = c' * z → m ≤ c' → St ms w0 (⟨b', true, .cells (news ++ tail').toArray T (0, 0)⟩ :: bs) w' → WL P ops Q rest (a.put o.dst (.slice (some ⟨b', 0, none⟩) m c')) w')
    (xs : Option Addr) (hw : Region.wanted o (yielded ops a.tmps) = true := by kernel_rfl) (hsv : a.eval s = .slice xs 0 0 := by kernel_rfl) (hxv : a.eval x = xv := by kernel_rfl)
    (ht : P.underlying t = some (.slice T) := by kernel_rfl) (hinfo : (P.info? T).map (fun i => (i.zero.map (·.cells.size), i.size, i.bytes)) = some (some z, z, bytes) := by kernel_rfl) : WL P ops Q (o :: rest) a w :=
  WL.want hw fun K hK => by
    obtain ⟨i, hi, h⟩ := Option.map_eq_some_iff.1 hinfo
    simp only [Prod.mk.injEq] at h
    obtain ⟨hz, hsz, hby⟩ := h
    obtain ⟨z0, hz0, hzs⟩ := Option.map_eq_some_iff.1 hz
    have hs' : Src P i.size tx xv m news w := by rw [hsz]; exact hs
    have hold : (Builtin.firstCells i.size 0 (.slice xs 0 0)).run P w.drew = .ok ([] : List Value).toArray w.drew := by
      cases xs with
      | none => exact run_firstCells_none (P := P) w.drew i.size 0 0 0
      | some ad => exact run_firstCells_some (P := P) w.drew i.size 0 ad 0 0 [] (by simp) (by simp)
    have hrun := run_append_grow_src (P := P) w t tx o.type T i z0 ht hi hz0 xs 0 0 [] hold xv m news hs' (by omega) (by simp only [maxLen] at h63; omega) (by rw [hby]; exact growslice_fits (by omega) (by simpa using hbd))
    have hge := grownCap_ge w (0 + m) 0 T
    have e0 : 0 + m = m := by omega
    rw [e0] at hrun hge
    unfold Oper.wp
    rw [append_op ho hsv hxv hrun]
    refine hK _ _ (k w.heap.size (grownCap w m 0 T) (Builtin.zeroCells z0.cells (grownCap w m 0 T - m)).toList _ ?_ hge ?_)
    · rw [List.length_append, hs.newsLen, Array.length_toList, size_zeroCells, hzs, ← Nat.add_mul]
      congr 1; omega
    · have h1 := heap_alloc_new w.drew (.cells (([] ++ news).toArray ++ Builtin.zeroCells z0.cells (grownCap w m 0 T - m)) T)
      have h2 : (Obj.cells (([] ++ news).toArray ++ Builtin.zeroCells z0.cells (grownCap w m 0 T - m)) T) = Obj.cells (news ++ (Builtin.zeroCells z0.cells (grownCap w m 0 T - m)).toList).toArray T (0, 0) := by
        congr 1
        apply Array.ext'
        simp
      refine S.new (((Ch.refl [] w).drew).trans (Ch.alloc [] w.drew _) (by simp)) (Nat.le_refl _) ?_
      rw [← h2]; exact h1
end
end
end Sx
