/- Regions that draw their order: one operation stores, or appends, the others read and compute. Over any program. -/
import Derived.Test.YtbjanfgipcniiaaGreatDoorSQ
namespace Sx
open Go Go.RowKit Go.BigFrame
set_option linter.unusedVariables false
set_option linter.unusedSimpArgs false

def HQ (k0 : Nat) (pv : Value → World → Prop) (sp : Nat → Sp) (B : Nat) (i : Nat) (v : Value) (w : World) : Prop := match Nat.beq i k0 with | true => pv v w | false => (sp i).holds B v w
def slotsE (k0 : Nat) (l : List Oper) (sp : Nat → Sp) (i : Nat) (o : Oper) : Bool := o.guard.isNone && inEnv (envOf l sp ⟨#[], []⟩ o) o &&
  o.op.operands.toList.all fun x => match x with | .tmp t => (match srcOf l o t with | some j => !(Nat.beq j k0) && Nat.beq (sp j).k 0 | none => freeB l i t) | _ => true
section
variable {P : Program} {lf l : List Oper} {sp : Nat → Sp} {a0 : Act} {w : World} {i k0 : Nat} {pre : List (List Nat)} {o : Oper} {es : List Nat} {pv : Value → World → Prop}
theorem e_env {H : Nat → Value → World → Prop} (hs : slotsE k0 l sp i o = true) {B : Nat} {y : Nat → Value} {w' : World} (hfree : ∀ t, freeB l i t = true → y t = yof a0 t) (hpre : ∀ j d, edgeB o j = true → (l[j]?).bind (·.dst) = some d → HQ k0 pv sp B j (y d) w') :
    agrees y (envOf l sp a0 o) ∧ inEnv (envOf l sp a0 o) o = true ∧ o.guard = none := by
  simp only [slotsE, Bool.and_eq_true] at hs
  obtain ⟨⟨hg, hin⟩, hall⟩ := hs
  refine ⟨agrees_all fun p hp => ?_, isSome_envOf hin, by cases hx : o.guard <;> simp_all⟩
  simp only [envOf, List.mem_filterMap] at hp
  obtain ⟨x, hx, hp⟩ := hp
  cases x with
  | tmp t =>
    simp only [Option.some.injEq] at hp
    subst hp
    have h1 := List.all_eq_true.1 hall _ hx
    simp only at h1
    unfold valOf
    cases hsrc : srcOf l o t with
    | some j =>
      rw [hsrc] at h1
      obtain ⟨he, hd⟩ := srcOf_edge hsrc
      simp only [Bool.and_eq_true, Bool.not_eq_true'] at h1
      have h2 := hpre j t he hd
      unfold HQ at h2
      rw [h1.1] at h2
      obtain ⟨ids, h3, h4, _⟩ := h2
      have h5 : (sp j).k = 0 := Nat.eq_of_beq_eq_true h1.2
      obtain rfl : ids = [] := List.eq_nil_of_length_eq_zero (by rw [h3, h5])
      exact h4
    | none =>
      rw [hsrc] at h1
      exact hfree t h1
  | _ => simp at hp
theorem e_step (hne : Nat.beq i k0 = false) (hk : (sp i).k = 0) (hb : (sp i).bl [] = []) (hs : slotsE k0 l sp i o = true) (h : ∀ w', Ch es w w' → Yields P o (envE (envOf l sp a0 o)) w' fun v w'' => Ch [] w' w'' ∧ v = (sp i).f []) :
    EStepOk P k0 pre es (HQ k0 pv sp w.heap.size) lf l (yof a0) w i o := by
  intro y w' _ hc hfree hpre
  obtain ⟨hag, hin, hg⟩ := e_env (H := fun _ _ _ => True) hs hfree hpre
  have hik : i ≠ k0 := fun e => by rw [e] at hne; simp at hne
  have hH : ∀ v w'', v = (sp i).f [] → HQ k0 pv sp w.heap.size i v w'' := fun v w'' e => by
    unfold HQ; rw [hne]; exact ⟨[], by simp [hk], e, by rw [hb]; simp⟩
  refine ⟨fun _ => ?_, fun hw => by simp [wantedY, hg] at hw⟩
  refine yenv _ hag ?_ hin
  have := h w' hc
  unfold Yields at this ⊢
  split at this
  · exact ⟨fun e' => absurd e' hik, fun _ => this.1, hH _ _ this.2⟩
  · exact ⟨fun e' => absurd e' hik, fun _ => this.1, hH _ _ this.2⟩
  · exact this.mono fun v w'' h => ⟨fun e' => absurd e' hik, fun _ => h.1, hH _ _ h.2⟩
  · exact this.elim
def okE (k0 : Nat) (l : List Oper) (sp : Nat → Sp) (i : Nat) (o : Oper) : Bool := !(Nat.beq i k0) && Nat.beq (sp i).k 0 && (sp i).bl [] matches [] && slotsE k0 l sp i o
theorem okE_out (h : okE k0 l sp i o = true) : Nat.beq i k0 = false ∧ (sp i).k = 0 ∧ (sp i).bl [] = [] ∧ slotsE k0 l sp i o = true := by
  simp only [okE, Bool.and_eq_true, Bool.not_eq_true'] at h
  refine ⟨h.1.1.1, Nat.eq_of_beq_eq_true h.1.1.2, ?_, h.2⟩
  have := h.1.2
  revert this; cases (sp i).bl [] <;> simp
theorem eP_ (hs : okE k0 l sp i o = true := by kernel_rfl) (h : (fun w => (execOp (envE (envOf l sp a0 o)) o).run P w) = (fun w => .ok (.value ((sp i).f [])) w) := by kernel_rfl) : EStepOk P k0 pre es (HQ k0 pv sp w.heap.size) lf l (yof a0) w i o := by
  obtain ⟨h1, h2, h3, h4⟩ := okE_out hs
  refine e_step h1 h2 h3 h4 fun w' _ => ?_
  have h2 : (execOp (envE (envOf l sp a0 o)) o).run P w' = .ok (.value ((sp i).f [])) w' := congrFun h w'
  unfold Yields
  rw [h2]
  exact ⟨Ch.refl _ _, rfl⟩
variable {ms : List Nat} {w0 : World} {bs : List Blk}
theorem eL_ (S : ∀ w', Ch es w w' → St ms w0 bs w') (j b off : Nat) {x : Operand} {ty : TypeId} (ho : o.op = .load ty x := by rfl) (hs : okE k0 l sp i o = true := by kernel_rfl) (hx : envE (envOf l sp a0 o) x = .pointer (some ⟨b, off, none⟩) := by kernel_rfl)
    (ha : (P.underlying ty).map aggD = some false := by kernel_rfl) (hb : lk bs j off = some (b, (sp i).f []) := by kernel_rfl) : EStepOk P k0 pre es (HQ k0 pv sp w.heap.size) lf l (yof a0) w i o := by
  obtain ⟨h1, h2, h3, h4⟩ := okE_out hs
  exact e_step h1 h2 h3 h4 fun w' hc => Y.load1_ (S w' hc) j _ b off ⟨Ch.refl _ _, rfl⟩ ho hx ha hb
theorem eN_ (S : ∀ w', Ch es w w' → St ms w0 bs w') (j b off n : Nat) (vs : Array Value) {x : Operand} {ty : TypeId} (ho : o.op = .load ty x := by rfl) (hv : (sp i).f [] = .agg vs := by kernel_rfl) (hs : okE k0 l sp i o = true := by kernel_rfl) (hx : envE (envOf l sp a0 o) x = .pointer (some ⟨b, off, none⟩) := by kernel_rfl)
    (ha : (P.underlying ty).map aggD = some true := by kernel_rfl) (hn : (P.info? ty).map (·.size) = some n := by kernel_rfl) (hb : lkN bs j off n = some (b, vs) := by kernel_rfl) : EStepOk P k0 pre es (HQ k0 pv sp w.heap.size) lf l (yof a0) w i o := by
  obtain ⟨h1, h2, h3, h4⟩ := okE_out hs
  exact e_step h1 h2 h3 h4 fun w' hc => Y.loadN_ (S w' hc) j n vs b off ⟨Ch.refl _ _, hv.symm⟩ ho hx ha hn hb
end
theorem estep_nil {P : Program} {k0 : Nat} {pre : List (List Nat)} {es : List Nat} {H : Nat → Value → World → Prop} {lf l : List Oper} {y0 : Nat → Value} {w : World} {i : Nat} : EStepAll P k0 pre es H lf l y0 w i [] := trivial
theorem estep_cons {P : Program} {k0 : Nat} {pre : List (List Nat)} {es : List Nat} {H : Nat → Value → World → Prop} {lf l : List Oper} {y0 : Nat → Value} {w : World} {i : Nat} {o : Oper} {rest : List Oper} (h : EStepOk P k0 pre es H lf l y0 w i o) (k : EStepAll P k0 pre es H lf l y0 w (i + 1) rest) : EStepAll P k0 pre es H lf l y0 w i (o :: rest) := ⟨h, k⟩
theorem putsE_eq {vs : Nat → Value} : ∀ {l : List Oper} {vals : List Value} {k : Nat} {a : Act}, vals.length = l.length → (∀ i o v, l[i]? = some o → vals[i]? = some v → o.dst = none ∨ vs (k + i) = v) → putsAll vs k l a = putsL vals l a
  | [], [], _, _, _, _ => rfl
  | o :: rest, v :: vals, k, a, h, hv => by
    simp only [putsAll, putsL]
    have h0 := hv 0 o v rfl rfl
    have e : a.put o.dst (vs k) = a.put o.dst v := by
      rcases h0 with h0 | h0
      · rw [h0]; rfl
      · rw [Nat.add_zero] at h0; rw [h0]
    rw [e]
    exact putsE_eq (by simpa using h) fun i o' v' h1 h2 => by
      have := hv (i + 1) o' v' (by simpa using h1) (by simpa using h2)
      rwa [show k + (i + 1) = k + 1 + i by omega] at this
  | [], _ :: _, _, _, h, _ => by simp at h
  | _ :: _, [], _, _, h, _ => by simp at h
section
variable {P : Program} {a0 : Act} {w w0 : World} {Q : Exit → Act → World → Prop} {id : Nat} {L : List Oper} {ms : List Nat} {bs : List Blk}
theorem quietE_ (m k0 : Nat) (pre : List (List Nat)) (es : List Nat) (pv : Value → World → Prop) (vals : List Value) (paths : List (List Nat)) (sp : Nat → Sp)
    (hpre : preOk (L.take m) k0 pre = true) (hpv : ∀ v w w', Ch [] w w' → pv v w → pv v w') (hes : ∀ x ∈ es, x < w.heap.size)
    (hs : EStepAll P k0 pre es (HQ k0 pv sp w.heap.size) L (L.take m) (yof a0) w 0 (L.take m))
    (hq : ∀ (vs : Nat → Value) w', Ch es w w' → (∀ i, i < m → HQ k0 pv sp w.heap.size i (vs i) w') → WL P L.toArray Q (L.drop m) (putsAll vs 0 (L.take m) a0) w')
    (hm : P.follows .mixedOrders = true) (hl : Nat.ble m L.length = true) (ht : tailOk L m paths = true) (hdst : dstsOkE a0.tmps.size (L.take m) = true) (hedge : edgesOk 0 L = true) : (Code.region id L.toArray true).wp P Q a0 w := by
  have hml : (L.take m).length = m := by have := Nat.le_of_ble_eq_true hl; simp; omega
  have h := drawnE_ (id := id) (Q := Q) (P := P) (k0 := k0) (es := es) (H := HQ k0 pv sp w.heap.size) (a0 := a0) (w0 := w) (L.take m) (L.drop m) ?_ hpre ?_ paths hm (by rw [List.take_append_drop, hml]; exact ht) hdst (by rw [List.take_append_drop]; exact hedge) (by rw [List.take_append_drop]; exact hs) ?_
  · rwa [List.take_append_drop] at h
  · intro i v w1 w2 hc hH
    unfold HQ at *
    split at hH
    · exact hpv _ _ _ hc hH
    · exact hH.stab hc
  · intro i v w1 w2 hik hle hc hH
    unfold HQ at *
    split at hH
    · rename_i h; exact absurd (Nat.eq_of_beq_eq_true h) hik
    · obtain ⟨ids, h1, h2, h3⟩ := hH
      refine ⟨ids, h1, h2, fun p hp => ⟨(h3 p hp).1, (hc.block _ (heap_lt (h3 p hp).2) (fun hx => ?_)).trans (h3 p hp).2⟩⟩
      have := hes _ hx; have := (h3 p hp).1; omega
  · intro vs w' hc hall
    rw [List.take_append_drop]
    exact (hq vs w' hc fun i hi => hall i _ (List.getElem?_eq_getElem (by omega))).out
end
end Sx
namespace Sx
open Go Go.RowKit Go.BigFrame
section
variable {P : Program} {ops : Array Oper} {rest : List Oper} {o : Oper} {a : Act} {w w0 : World} {ms : List Nat} {bs : List Blk} {Q : Exit → Act → World → Prop}
/-- an array in memory, at an index that is not told -/
theorem idxA_ (b off off' n z : Nat) (kd : IntKind) (iv : Int) {t e : TypeId} {x y : Operand} (h0 : 0 ≤ iv) (h1 : iv < n) (he : off' = off + iv.toNat * z) (k : WL P ops Q rest (a.put o.dst (.pointer (some ⟨b, off', none⟩))) w) (hw : Region.wanted o (yielded ops a.tmps) = true := by kernel_rfl)
    (ho : o.op = .indexAddr t x y := by rfl) (hu : P.underlying t = some (.array n e) := by kernel_rfl) (hz : (P.info? e).map (·.size) = some z := by kernel_rfl)
    (hx : a.eval x = .pointer (some ⟨b, off, none⟩) := by kernel_rfl) (hy : a.eval y = .int kd iv := by kernel_rfl) : WL P ops Q (o :: rest) a w :=
  pure_ (.pointer (some ⟨b, off', none⟩)) k hw (by
    subst he
    have hadd : ∀ q : Nat, (⟨b, off, none⟩ : Addr).add q = ⟨b, off + q, none⟩ := fun q => by
      by_cases hq : q = 0
      · subst hq; rfl
      · simp [Addr.add, hq]
    cases hq : P.info? e with
    | none => simp [hq] at hz
    | some inf =>
      have hsz : inf.size = z := by simpa [hq] using hz
      unfold execOp
      simp only [ho, hx, hy]
      unfold Instr.indexAt
      simp only [Sem.run_bind, run_underlying hu, Result.andThen_ok, asIntOf, Sem.run_pure]
      simp [h0, h1, Go.sizeOf, typeInfo, hq, hsz, hadd, Instr.sureAddr])
theorem lk_of {b i off : Nat} {wr : Bool} {cs : Array Value} {t : TypeId} {fr : Nat × Nat} {v : Value} (hb : bs[i]? = some ⟨b, wr, .cells cs t fr⟩) (hc : cs[off]? = some v) : lk bs i off = some (b, v) := by
  unfold lk; rw [hb]; simp only [hc]
end
end Sx
namespace Sx
open Go Go.RowKit Go.BigFrame
section
variable {P : Program} {a : Act} {w : World} {Q : Exit → Act → World → Prop}
/-- what holds behind some code, whichever way it went -/
theorem cut_ {c : Code} (K : Act → World → Prop) (h : c.wp P (Exit.then K Q) a w) (hk : ∀ a' w', K a' w' → Q .normal a' w') : c.wp P Q a w := by
  refine Code.wp_mono (Q := Exit.then K Q) ?_ h
  intro e a' w' h
  cases e <;> first | exact hk _ _ h | exact h
end
section
variable {P : Program} {ops : Array Oper} {rest : List Oper} {o : Oper} {a : Act} {w : World} {Q : Exit → Act → World → Prop}
theorem remS_ (kd : IntKind) (x y : Int) {t yt : TypeId} {xo yo : Operand} (h : y ≠ 0) (k : WL P ops Q rest (a.put o.dst (.int kd (x.tmod y))) w) (hw : Region.wanted o (yielded ops a.tmps) = true := by kernel_rfl)
    (ho : o.op = .binOp .rem t xo yo yt := by rfl) (hx : a.eval xo = .int kd x := by kernel_rfl) (hy : a.eval yo = .int kd y := by kernel_rfl) : WL P ops Q (o :: rest) a w :=
  pure_ _ k hw (by
    unfold execOp
    simp [ho, hx, hy, Go.eqGuard, Go.binOp, Op.intDiv, h])
end
end Sx
namespace Sx
open Go Go.RowKit Go.BigFrame
section
variable {P : Program} {ops : Array Oper} {rest : List Oper} {o : Oper} {a : Act} {w : World} {Q : Exit → Act → World → Prop} {z T m n c : Nat} {news : List Value} {s x : Operand} {t tx : TypeId} {xv : Value}
end
end Sx
namespace Sx.Y
open Go Go.RowKit Go.BigFrame
variable {P : Program} {w : World} {o : Oper} {R : Value → World → Prop} {ρ : Operand → Value}
theorem idxA_ (b off off' n z : Nat) (kd : IntKind) (iv : Int) {t e : TypeId} {x y : Operand} (h0 : 0 ≤ iv) (h1 : iv < n) (he : off' = off + iv.toNat * z) (k : R (.pointer (some ⟨b, off', none⟩)) w)
    (ho : o.op = .indexAddr t x y := by rfl) (hu : P.underlying t = some (.array n e) := by kernel_rfl) (hz : (P.info? e).map (·.size) = some z := by kernel_rfl)
    (hx : ρ x = .pointer (some ⟨b, off, none⟩) := by kernel_rfl) (hy : ρ y = .int kd iv := by kernel_rfl) : Yields P o ρ w R :=
  pure_ (.pointer (some ⟨b, off', none⟩)) k (by
    subst he
    have hadd : ∀ q : Nat, (⟨b, off, none⟩ : Addr).add q = ⟨b, off + q, none⟩ := fun q => by
      by_cases hq : q = 0
      · subst hq; rfl
      · simp [Addr.add, hq]
    cases hq : P.info? e with
    | none => simp [hq] at hz
    | some inf =>
      have hsz : inf.size = z := by simpa [hq] using hz
      unfold execOp
      simp only [ho, hx, hy]
      unfold Instr.indexAt
      simp only [Sem.run_bind, run_underlying hu, Result.andThen_ok, asIntOf, Sem.run_pure]
      simp [h0, h1, Go.sizeOf, typeInfo, hq, hsz, hadd, Instr.sureAddr])
end Sx.Y
namespace Sx
open Go Go.RowKit Go.BigFrame
section
variable {P : Program} {ops : Array Oper} {rest : List Oper} {o : Oper} {a : Act} {w w0 : World} {ms : List Nat} {bs : List Blk} {Q : Exit → Act → World → Prop}
end
end Sx
