/- Bytes appended onto a slice that is full. Over any program. -/
import Derived.Test.YtbjanfgipcniiaaGreatDoorSKY
namespace Sx
open Go Go.RowKit Go.BigFrame
set_option linter.unusedVariables false
set_option linter.unusedSimpArgs false
section
variable {P : Program}
theorem run_append8F {w : World} {T n c m : Nat} {f g : Nat → Int} {x : Option Addr} (hx : KeyAt w x n c f)
    {t tx ty : TypeId} {xv : Value} (hs : Src P 1 tx xv m (bvF m g) w) (ht : P.underlying t = some (.slice T)) (hi : (P.info? T).map (fun i => (i.zero.map (·.cells), i.size, i.bytes)) = some (some #[.int .u8 0], 1, 1))
    (hb : n + m ≤ 140737488355328) (hg : c < n + m) :
    ∃ b c' w', (Builtin.append_ #[t, tx] ty #[.slice x n c, xv]).run P w = .ok (.slice (some ⟨b, 0, none⟩) (n + m) c') w' ∧ n + m ≤ c' ∧ Ch [] w w' ∧ w.heap.size ≤ b ∧ w'.heap[b]? = some (.cells (bvZ (n + m) (catF n f g) c') T (0, 0)) := by
  obtain ⟨i, hinfo, hi⟩ := Option.map_eq_some_iff.1 hi
  simp only [Prod.mk.injEq] at hi
  obtain ⟨hz, hsz, hby⟩ := hi
  obtain ⟨z0, hz0, hzs⟩ := Option.map_eq_some_iff.1 hz
  have hs' : Src P i.size tx xv m (bvF m g) w := by rw [hsz]; exact hs
  have h63 : n + m ≤ maxLen := by unfold maxLen; omega
  have hold : (Builtin.firstCells i.size n (.slice x n c)).run P w.drew = .ok (bvF n f).toArray w.drew := by
    cases x with
    | none =>
      obtain ⟨rfl, rfl⟩ := hx.2.2.1 rfl
      exact run_firstCells_none (P := P) w.drew i.size 0 0 0
    | some a =>
      refine run_firstCells_some (P := P) w.drew i.size n a n c (bvF n f) (by rw [bvF_len, hsz, Nat.mul_one]) (fun j v hj => ?_)
      obtain ⟨hj', rfl⟩ := bvF_get hj
      have := hx.2.2.2 a rfl j hj'
      simpa using this
  have hrun := run_append_grow_src (P := P) w t tx ty T i z0 ht hinfo hz0 x n c (bvF n f) hold xv m (bvF m g) hs' hg (by simp only [maxLen] at h63; omega) (by rw [hby]; exact growslice_fits hg (by omega))
  have hge := grownCap_ge w (n + m) c T
  refine ⟨w.heap.size, grownCap w (n + m) c T, _, hrun, hge, ?_, Nat.le_refl _, ?_⟩
  · exact ((Ch.refl [] w).drew).trans (Ch.alloc [] w.drew _) (fun x hx => .inl hx)
  · have := heap_alloc_new w.drew (.cells ((bvF n f ++ bvF m g).toArray ++ Builtin.zeroCells z0.cells (grownCap w (n + m) c T - (n + m))) T)
    refine Eq.trans this ?_
    congr 2
    apply Array.ext'
    rw [hzs, Array.toList_append, zeroCells8]
    show bvF n f ++ bvF m g ++ _ = bvF (n + m) (catF n f g) ++ _
    rw [← bvF_cat]
end
section
variable {P : Program} {o : Oper} {ρ : Operand → Value} {w w0 : World} {ms : List Nat} {bs : List Blk} {R : Value → World → Prop}
theorem Y.append8F_ {x0 : Option Addr} {T n c m : Nat} {f g : Nat → Int} {t tx : TypeId} {s x : Operand} {xv : Value} (S : St ms w0 bs w) (hx0 : KeyAt w x0 n c f) (hs : Src P 1 tx xv m (bvF m g) w) (hbd : n + m ≤ 140737488355328) (hg : c < n + m)
    (k : ∀ b c' w', n + m ≤ c' → St ms w0 (⟨b, true, .cells (bvZ (n + m) (catF n f g) c') T (0, 0)⟩ :: bs) w' → R (.slice (some ⟨b, 0, none⟩) (n + m) c') w')
    (ho : o.op = .call ⟨.builtin .append, #[s, x], #[t, tx]⟩ := by rfl) (hsv : ρ s = .slice x0 n c := by kernel_rfl) (hxv : ρ x = xv := by kernel_rfl)
    (ht : P.underlying t = some (.slice T) := by kernel_rfl) (hinfo : (P.info? T).map (fun i => (i.zero.map (·.cells), i.size, i.bytes)) = some (some #[.int .u8 0], 1, 1) := by kernel_rfl) : Yields P o ρ w R := by
  obtain ⟨b, c', w', hrun, hc, hch, hb, hat⟩ := run_append8F (P := P) (ty := o.type) hx0 hs ht hinfo hbd hg
  unfold Yields
  rw [append_op ho hsv hxv hrun]
  exact k b c' w' hc (S.new hch hb hat)
end
section
variable {P : Program} {ops : Array Oper} {rest : List Oper} {o : Oper} {a : Act} {w : World} {Q : Exit → Act → World → Prop} {ρ : Operand → Value} {R : Value → World → Prop}
end
/-- a few bytes, one by one -/
def lsF (l : List Int) : Nat → Int := fun j => l.getD j 0
section
variable {P : Program} {ops : Array Oper} {rest : List Oper} {o : Oper} {a : Act} {w w0 : World} {ms : List Nat} {bs : List Blk} {Q : Exit → Act → World → Prop} {ρ : Operand → Value}
theorem append8F_ {x0 : Option Addr} {T n c m : Nat} {f g : Nat → Int} {t tx : TypeId} {s x : Operand} {xv : Value} (S : St ms w0 bs w) (hx0 : KeyAt w x0 n c f) (hs : Src P 1 tx xv m (bvF m g) w) (hbd : n + m ≤ 140737488355328) (hg : c < n + m)
    (k : ∀ b c' w', n + m ≤ c' → St ms w0 (⟨b, true, .cells (bvZ (n + m) (catF n f g) c') T (0, 0)⟩ :: bs) w' → WL P ops Q rest (a.put o.dst (.slice (some ⟨b, 0, none⟩) (n + m) c')) w')
    (hw : Region.wanted o (yielded ops a.tmps) = true := by kernel_rfl) (ho : o.op = .call ⟨.builtin .append, #[s, x], #[t, tx]⟩ := by rfl) (hsv : a.eval s = .slice x0 n c := by kernel_rfl) (hxv : a.eval x = xv := by kernel_rfl)
    (ht : P.underlying t = some (.slice T) := by kernel_rfl) (hinfo : (P.info? T).map (fun i => (i.zero.map (·.cells), i.size, i.bytes)) = some (some #[.int .u8 0], 1, 1) := by kernel_rfl) : WL P ops Q (o :: rest) a w :=
  WL.want hw fun K hK => by
    obtain ⟨b, c', w', hrun, hc, hch, hb, hat⟩ := run_append8F (P := P) (ty := o.type) hx0 hs ht hinfo hbd hg
    unfold Oper.wp
    rw [append_op ho hsv hxv hrun]
    exact hK _ _ (k b c' w' hc (S.new hch hb hat))
end
theorem St.up {ms : List Nat} {w0 w : World} {b : Nat} {o : Obj} {B : List Blk} {L : List Nat} (S : St ms w0 (⟨b, false, o⟩ :: B) w) (hnew : w0.heap.size ≤ b) (hT : Ty L B) (hd : disjT L [tyO o] = true := by kernel_rfl) : St ms w0 (⟨b, true, o⟩ :: B) w := by
  refine St.mk' S.ch (fun x hx => ?_) (fun x hx hw => ?_) ?_
  · rcases List.mem_cons.1 hx with rfl | hx
    · exact S.at' (x := ⟨b, false, o⟩) (List.Mem.head _)
    · exact S.at' (List.Mem.tail _ hx)
  · rcases List.mem_cons.1 hx with rfl | hx
    · exact .inr hnew
    · exact S.own' (List.Mem.tail _ hx) hw
  · refine List.pairwise_cons.2 ⟨fun y hy _ e => ?_, (List.pairwise_cons.1 S.pw).2⟩
    have h1 := S.at' (x := ⟨b, false, o⟩) (List.Mem.head _)
    have h2 := S.at' (List.Mem.tail _ hy)
    simp only at h1 e
    rw [e, h2] at h1
    exact hT.ne hd y hy _ (List.Mem.head _) (congrArg tyO (Option.some.inj h1))
end Sx
