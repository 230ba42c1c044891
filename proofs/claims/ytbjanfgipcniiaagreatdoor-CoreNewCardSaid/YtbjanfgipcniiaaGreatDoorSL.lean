/- Loops with an invariant, for the executor (sxrun.py). Conditions: none beyond the lemmas' own. -/
import Derived.Test.YtbjanfgipcniiaaGreatDoorSD
namespace Sx
open Go Go.RowKit Go.BigFrame
section
variable {P : Program} {a : Act} {w : World} {Q : Exit → Act → World → Prop}
theorem least_ {p : Nat → Prop} (h : ∃ n, p n) : ∃ n, p n ∧ ∀ m, p m → n ≤ m := by
  obtain ⟨n, hn⟩ := h
  induction n using Nat.strongRecOn with
  | _ n ih =>
    by_cases hm : ∃ m, m < n ∧ p m
    · obtain ⟨m, hl, hp⟩ := hm
      exact ih m hl hp
    · refine ⟨n, hn, fun m hp => ?_⟩
      by_cases hl : m < n
      · exact absurd ⟨m, hl, hp⟩ hm
      · omega
open Classical in
theorem loopI_ {c : Code} (I : Nat → Act → World → Prop) (n : Nat) (h : I n a w)
    (round : ∀ n a w, I n a w → c.wp P (Exit.then (fun a' w' => ∃ m, m < n ∧ I m a' w') Q) a w) : (Code.loop c).wp P Q a w := by
  refine wp_loop (fun a w => ∃ n, I n a w) (fun a w => if h : ∃ n, I n a w then choose (least_ h) else 0) ⟨n, h⟩ ?_
  intro a w hI
  have hs := choose_spec (least_ hI)
  refine wp_mono (round _ a w hs.1) ?_
  intro e a' w' hh
  cases e with
  | normal =>
    obtain ⟨m, hm, hi⟩ := hh
    refine ⟨⟨m, hi⟩, ?_⟩
    have hx : ∃ n, I n a' w' := ⟨m, hi⟩
    have hy := (choose_spec (least_ hx)).2 m hi
    simp only [dif_pos hx, dif_pos hI]
    omega
  | _ => exact hh
theorem then_i {K : Act → World → Prop} (h : K a w) : Exit.then K Q .normal a w := h
end
section
variable {P : Program} {ops : Array Oper} {Q : Exit → Act → World → Prop} {rest : List Oper} {a : Act} {w w0 : World} {o : Oper} {ms : List Nat} {bs : List Blk}
theorem St.oldAt (S : St ms w0 bs w) {b off : Nat} {v : Value} (hc : w0.cell? ⟨b, off, none⟩ = some v) (hm : b ∉ ms) : w.cell? ⟨b, off, none⟩ = some v := by
  have hb : b < w0.heap.size := by
    unfold World.cell? at hc
    split at hc
    · next h => exact heap_lt h
    · exact absurd hc (by simp)
  have := S.ch.block b hb hm
  unfold World.cell? at hc ⊢
  simpa only [this] using hc
/-- a slice that came in, at an index within it -/
theorem idxS_ (b off i n z c : Nat) (kd : IntKind) (iv : Int) {t e : TypeId} {x y : Operand} (h0 : 0 ≤ iv) (h1 : iv < n) (he : i = iv.toNat) (k : WL P ops Q rest (a.put o.dst (.pointer (some ⟨b, off + i * z, none⟩))) w) (hw : Region.wanted o (yielded ops a.tmps) = true := by kernel_rfl)
    (ho : o.op = .indexAddr t x y := by rfl) (hu : P.underlying t = some (.slice e) := by kernel_rfl) (hz : (P.info? e).map (·.size) = some z := by kernel_rfl)
    (hx : a.eval x = .slice (some ⟨b, off, none⟩) n c := by kernel_rfl) (hy : a.eval y = .int kd iv := by kernel_rfl) : WL P ops Q (o :: rest) a w :=
  pure_ (.pointer (some ⟨b, off + i * z, none⟩)) k hw (by
    subst he
    have hadd : ∀ q : Nat, (⟨b, off, none⟩ : Addr).add q = ⟨b, off + q, none⟩ := fun q => by
      by_cases hq : q = 0
      · subst hq; rfl
      · simp [Addr.add, hq]
    cases hq : P.info? e with
    | none => simp [hq] at hz
    | some inf =>
      have hsz : inf.size = z := by simpa [hq] using hz
      unfold execOp
      simp only [ho, hx, hy]
      unfold Instr.indexAt
      simp only [Sem.run_bind, run_underlying hu, Result.andThen_ok, asIntOf, Sem.run_pure]
      simp [h0, h1, Go.sizeOf, typeInfo, hq, hsz, hadd])
theorem loadO1_ (S : St ms w0 bs w) (v : Value) (b off : Nat) {x : Operand} {ty : TypeId} (hc : w0.cell? ⟨b, off, none⟩ = some v) (hm : b ∉ ms) (k : WL P ops Q rest (a.put o.dst v) w) (hw : Region.wanted o (yielded ops a.tmps) = true := by kernel_rfl) (ho : o.op = .load ty x := by rfl) (hx : a.eval x = .pointer (some ⟨b, off, none⟩) := by kernel_rfl)
    (ha : (P.underlying ty).map aggD = some false := by kernel_rfl) : WL P ops Q (o :: rest) a w :=
  pure_ v k hw (by
    have := S.oldAt hc hm
    unfold execOp
    simp only [ho, hx, Instr.loadAt, Instr.sureAddr, Sem.run_bind, Sem.run_pure, Result.andThen_ok]
    unfold loadVar
    rw [Sem.run_bind, run_isAgg ha]
    simp [load, Sem.run, this])
end
namespace Y
section
variable {P : Program} {w w0 : World} {o : Oper} {ms : List Nat} {bs : List Blk} {R : Value → World → Prop} {ρ : Operand → Value}
theorem idxS_ (b off i n z c : Nat) (kd : IntKind) (iv : Int) {t e : TypeId} {x y : Operand} (h0 : 0 ≤ iv) (h1 : iv < n) (he : i = iv.toNat) (k : R (.pointer (some ⟨b, off + i * z, none⟩)) w)
    (ho : o.op = .indexAddr t x y := by rfl) (hu : P.underlying t = some (.slice e) := by kernel_rfl) (hz : (P.info? e).map (·.size) = some z := by kernel_rfl)
    (hx : ρ x = .slice (some ⟨b, off, none⟩) n c := by kernel_rfl) (hy : ρ y = .int kd iv := by kernel_rfl) : Yields P o ρ w R :=
  Y.pure_ (.pointer (some ⟨b, off + i * z, none⟩)) k (by
    subst he
    have hadd : ∀ q : Nat, (⟨b, off, none⟩ : Addr).add q = ⟨b, off + q, none⟩ := fun q => by
      by_cases hq : q = 0
      · subst hq; rfl
      · simp [Addr.add, hq]
    cases hq : P.info? e with
    | none => simp [hq] at hz
    | some inf =>
      have hsz : inf.size = z := by simpa [hq] using hz
      unfold execOp
      simp only [ho, hx, hy]
      unfold Instr.indexAt
      simp only [Sem.run_bind, run_underlying hu, Result.andThen_ok, asIntOf, Sem.run_pure]
      simp [h0, h1, Go.sizeOf, typeInfo, hq, hsz, hadd])
theorem loadO1_ (S : St ms w0 bs w) (v : Value) (b off : Nat) {x : Operand} {ty : TypeId} (hc : w0.cell? ⟨b, off, none⟩ = some v) (hm : b ∉ ms) (k : R v w) (ho : o.op = .load ty x := by rfl) (hx : ρ x = .pointer (some ⟨b, off, none⟩) := by kernel_rfl)
    (ha : (P.underlying ty).map aggD = some false := by kernel_rfl) : Yields P o ρ w R :=
  Y.pure_ v k (by
    have := S.oldAt hc hm
    unfold execOp
    simp only [ho, hx, Instr.loadAt, Instr.sureAddr, Sem.run_bind, Sem.run_pure, Result.andThen_ok]
    unfold loadVar
    rw [Sem.run_bind, run_isAgg ha]
    simp [load, Sem.run, this])
end
end Y
end Sx
