/- Bytes that can be read, of any length; copies of them. Over any program. -/
import Derived.Test.YtbjanfgipcniiaaGreatDoorSM
namespace Sx
open Go Go.RowKit Go.BigFrame
set_option linter.unusedVariables false
set_option linter.unusedSimpArgs false
theorem cat0 (g : Nat → Int) : catF 0 (fun _ => 0) g = g := by
  funext j
  show (bif Nat.blt j 0 then _ else _) = _
  rw [show Nat.blt j 0 = false from by cases j <;> rfl]
  simp
theorem St.beside {ms : List Nat} {w0 w w1 : World} {bs bl : List Blk} (S : St ms w0 bs w) (T : St [] w bl w1) (h : Wr bl) : St ms w0 (bl ++ bs) w1 := by
  have hq := S.quiet T.ch
  refine St.mk' hq.ch (fun x hx => ?_) (fun x hx hw => ?_) ?_
  · rcases List.mem_append.1 hx with h1 | h1
    · exact T.at' h1
    · exact hq.at' h1
  · rcases List.mem_append.1 hx with h1 | h1
    · rcases T.own' h1 hw with h2 | h2
      · cases h2
      · exact .inr (Nat.le_trans S.ch.size h2)
    · exact hq.own' h1 hw
  · rw [List.pairwise_append]
    refine ⟨T.pw, hq.pw, fun x hx y hy _ e => ?_⟩
    rcases T.own' hx (h x hx) with h2 | h2
    · cases h2
    · have := S.ge hy
      omega
theorem cell_quiet {w w1 : World} (hc : Ch [] w w1) {a : Addr} {v : Value} (h : w.cell? a = some v) : w1.cell? a = some v := by
  have hb : a.block < w.heap.size := by
    unfold World.cell? at h
    split at h
    · next h2 => exact heap_lt h2
    · cases h
  have h3 := hc.block _ hb (by simp)
  unfold World.cell? at h ⊢
  rw [h3]; exact h
/-- a slice of bytes that can be read, of any length -/
def KeyRd (w : World) (a : Option Addr) (n c : Nat) (f : Nat → Int) : Prop := n ≤ c ∧ (a = none → n = 0 ∧ c = 0) ∧ ∀ x, a = some x → ∀ j, j < n → w.cell? (x.add j) = some (.int .u8 (f j))
/-- a slice of bytes that can be read -/
def KeyAt (w : World) (a : Option Addr) (n c : Nat) (f : Nat → Int) : Prop := n ≤ 1000000 ∧ KeyRd w a n c f
theorem KeyRd.quiet {w w1 : World} {a : Option Addr} {n c : Nat} {f : Nat → Int} (h : KeyRd w a n c f) (hc : Ch [] w w1) : KeyRd w1 a n c f := ⟨h.1, h.2.1, fun x e j hj => cell_quiet hc (h.2.2 x e j hj)⟩
theorem KeyAt.quiet {w w1 : World} {a : Option Addr} {n c : Nat} {f : Nat → Int} (h : KeyAt w a n c f) (hc : Ch [] w w1) : KeyAt w1 a n c f := ⟨h.1, h.2.quiet hc⟩
theorem KeyRd.cut {w : World} {a : Option Addr} {n c m : Nat} {f : Nat → Int} (h : KeyRd w a n c f) (hm : m ≤ n) (hb : m ≤ 1000000) : KeyAt w a m c f :=
  ⟨hb, Nat.le_trans hm h.1, fun e => ⟨by have := h.2.1 e; omega, (h.2.1 e).2⟩, fun x e j hj => h.2.2 x e j (by omega)⟩
theorem srcKey {P : Program} {w : World} {a : Option Addr} {n c : Nat} {f : Nat → Int} (h : KeyAt w a n c f) {tx e' : TypeId} (hk : P.underlying tx = some (.slice e') := by kernel_rfl) : Src P 1 tx (.slice a n c) n (bvF n f) w := by
  obtain ⟨h1, h2, h3, h4⟩ := h
  cases a with
  | none =>
    obtain ⟨rfl, rfl⟩ := h3 rfl
    exact Src.ofNil _ hk 0
  | some x => exact Src.ofSlice w hk _ n c _ (by rw [bvF_len, Nat.mul_one]) (fun j u hj => by
      obtain ⟨h5, rfl⟩ := bvF_get hj
      exact h4 x rfl j h5) bvF_one
def cutN (m n : Nat) : Nat := min n m
theorem cutN_is (m n : Nat) : (if ((m : Nat) : Int) < ((n : Nat) : Int) then ((m : Nat) : Int) else ((n : Nat) : Int)) = ((cutN m n : Nat) : Int) := by unfold cutN; split <;> omega
theorem KeyAt.isS {w : World} {a : Option Addr} {n c : Nat} {f : Nat → Int} (h : KeyAt w a n c f) (hn : 0 < n) : ∃ x, a = some x := by
  cases a with
  | none => have := (h.2.2.1 rfl).1; omega
  | some x => exact ⟨x, rfl⟩
theorem KeyAt.of8 {w : World} {b o n c : Nat} {f : Nat → Int} (h : At8 w b o n f) (hn : n ≤ 1000000) (hc : n ≤ c) : KeyAt w (some ⟨b, o, none⟩) n c f :=
  ⟨hn, hc, fun e => absurd e (by simp), fun x e j hj => by cases e; rw [Addr.add_lit]; exact h j hj⟩
section
variable {P : Program} {ops : Array Oper} {rest : List Oper} {o o' : Oper} {a : Act} {w w0 : World} {ms : List Nat} {bs : List Blk} {Q : Exit → Act → World → Prop}
/-- bytes copied into a row, of a slice that is not empty -/
theorem copyK_ (S : St ms w0 bs w) (i : Nat) (b N off n c : Nat) (f : Nat → Int) (ka : Option Addr) (m sc : Nat) (g : Nat → Int) {t : TypeId} {s x : Operand} {tt tx elem : TypeId} (h8 : KeyAt w ka m sc g) (h1 : 0 < m) (hm : m ≤ n) (hn : off + m ≤ N)
    (hb : bs[i]? = some ⟨b, true, .cells (rowF .u8 N f) t (0, 0)⟩) {bs' : List Blk} (h2 : bs.set i ⟨b, true, .cells (rowF .u8 N (ovF f off m g)) t (0, 0)⟩ = bs')
    (k : ∀ w', St ms w0 bs' w' → WL P ops Q rest (a.put o.dst (.int .i64 m)) w')
    (hw : Region.wanted o (yielded ops a.tmps) = true := by kernel_rfl) (ho : o.op = .call ⟨.builtin .copy, #[s, x], #[tt, tx]⟩ := by rfl) (hs : a.eval s = .slice (some ⟨b, off, none⟩) n c := by kernel_rfl) (hx : a.eval x = .slice ka m sc := by kernel_rfl)
    (hu : P.underlying tt = some (.slice elem) := by kernel_rfl) (hz : (P.info? elem).map (·.size) = some 1 := by kernel_rfl) : WL P ops Q (o :: rest) a w :=
  WL.want hw fun K hK => by
    obtain ⟨x0, rfl⟩ := h8.isS h1
    have hat := S.at_ i _ hb
    have hmin : Nat.min m n = m := Nat.min_eq_left hm
    have hrun := run_copy_row (P := P) w tt tx o.type elem b off n c x0 m sc (rowF .u8 N f) t (bvF m g) hu hz hat (by rw [bvF_len, hmin]) (fun j v hj => by
      obtain ⟨h1, rfl⟩ := bvF_get hj
      exact h8.2.2.2 x0 rfl j h1) (by rw [bvF_len, rowF_size]; exact hn) bvF_one
    unfold Oper.wp
    rw [copy_op ho hs hx hrun]
    rw [bvF_len]
    have he : (goInt m : Value) = .int .i64 m := rfl
    rw [he]
    refine hK _ _ (k _ ?_)
    have hS := S.step hb rfl (Ch.setRow w b _) (setRow_heap w b (rowF .u8 N f) ((rowF .u8 N f).toList.take off ++ bvF m g ++ (rowF .u8 N f).toList.drop (off + m)).toArray t (0, 0) hat)
    have e2 : ((rowF .u8 N f).toList.take off ++ bvF m g ++ (rowF .u8 N f).toList.drop (off + m)).toArray = rowF .u8 N (ovF f off m g) := rowF_over .u8 f hn g
    rw [e2, h2] at hS
    rw [e2]
    exact hS
theorem load8_ (b o n off i : Nat) (f : Nat → Int) (h8 : At8 w b o n f) (hi : i < n) (he : off = o + i) {x : Operand} {ty : TypeId} (k : WL P ops Q rest (a.put o'.dst (.int .u8 (f i))) w) (hw : Region.wanted o' (yielded ops a.tmps) = true := by kernel_rfl) (ho : o'.op = .load ty x := by rfl) (hx : a.eval x = .pointer (some ⟨b, off, none⟩) := by kernel_rfl)
    (ha : (P.underlying ty).map aggD = some false := by kernel_rfl) : WL P ops Q (o' :: rest) a w :=
  pure_ _ k hw (by
    have := h8 i hi
    rw [← he] at this
    unfold execOp
    simp only [ho, hx, Instr.loadAt, Instr.sureAddr, Sem.run_bind, Sem.run_pure, Result.andThen_ok]
    unfold loadVar
    rw [Sem.run_bind, run_isAgg ha]
    simp [load, Sem.run, this])
end
end Sx
