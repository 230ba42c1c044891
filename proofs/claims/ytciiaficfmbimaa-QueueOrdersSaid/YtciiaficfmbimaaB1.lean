/- What the walks of the queue laws stand on. Conditions: none beyond those that each lemma names. -/
import Derived.Test.YtciiaficfmbimaaB0
import Derived.WideMake
import Derived.WalkKit
import Derived.Below
import Derived.BigQuiet
import Derived.WalkSpells
import Derived.Lib.Hide
import Derived.Laws.CopyOwn
import Derived.ChangeArms
import Derived.OpenShut
import Derived.Deep.Slices
import Derived.ProofKit
import Derived.Carry
set_option linter.unusedVariables false
set_option linter.unusedSimpArgs false
namespace Sx
open Go Go.RowKit Go.BigFrame
def HQ (k0 : Nat) (pv : Value → World → Prop) (sp : Nat → Sp) (B : Nat) (i : Nat) (v : Value) (w : World) : Prop := match Nat.beq i k0 with | true => pv v w | false => (sp i).holds B v w
def slotsE (k0 : Nat) (l : List Oper) (sp : Nat → Sp) (i : Nat) (o : Oper) : Bool := o.guard.isNone && inEnv (envOf l sp ⟨#[], []⟩ o) o &&
  o.op.operands.toList.all fun x => match x with | .tmp t => (match srcOf l o t with | some j => !(Nat.beq j k0) && Nat.beq (sp j).k 0 | none => freeB l i t) | _ => true
section
variable {P : Program} {lf l : List Oper} {sp : Nat → Sp} {a0 : Act} {w : World} {i k0 : Nat} {pre : List (List Nat)} {o : Oper} {es : List Nat} {pv : Value → World → Prop}
theorem e_env {H : Nat → Value → World → Prop} (hs : slotsE k0 l sp i o = true) {B : Nat} {y : Nat → Value} {w' : World} (hfree : ∀ t, freeB l i t = true → y t = yof a0 t) (hpre : ∀ j d, edgeB o j = true → (l[j]?).bind (·.dst) = some d → HQ k0 pv sp B j (y d) w') :
    agrees y (envOf l sp a0 o) ∧ inEnv (envOf l sp a0 o) o = true ∧ o.guard = none := by
  simp only [slotsE, Bool.and_eq_true] at hs
  obtain ⟨⟨hg, hin⟩, hall⟩ := hs
  refine ⟨agrees_all fun p hp => ?_, isSome_envOf hin, by cases hx : o.guard <;> simp_all⟩
  simp only [envOf, List.mem_filterMap] at hp
  obtain ⟨x, hx, hp⟩ := hp
  cases x with
  | tmp t =>
    simp only [Option.some.injEq] at hp
    subst hp
    have h1 := List.all_eq_true.1 hall _ hx
    simp only at h1
    unfold valOf
    cases hsrc : srcOf l o t with
    | some j =>
      rw [hsrc] at h1
      obtain ⟨he, hd⟩ := srcOf_edge hsrc
      simp only [Bool.and_eq_true, Bool.not_eq_true'] at h1
      have h2 := hpre j t he hd
      unfold HQ at h2
      rw [h1.1] at h2
      obtain ⟨ids, h3, h4, _⟩ := h2
      have h5 : (sp j).k = 0 := Nat.eq_of_beq_eq_true h1.2
      obtain rfl : ids = [] := List.eq_nil_of_length_eq_zero (by rw [h3, h5])
      exact h4
    | none =>
      rw [hsrc] at h1
      exact hfree t h1
  | _ => simp at hp
theorem e_step (hne : Nat.beq i k0 = false) (hk : (sp i).k = 0) (hb : (sp i).bl [] = []) (hs : slotsE k0 l sp i o = true) (h : ∀ w', Ch es w w' → Yields P o (envE (envOf l sp a0 o)) w' fun v w'' => Ch [] w' w'' ∧ v = (sp i).f []) :
    EStepOk P k0 pre es (HQ k0 pv sp w.heap.size) lf l (yof a0) w i o := by
  intro y w' _ hc hfree hpre
  obtain ⟨hag, hin, hg⟩ := e_env (H := fun _ _ _ => True) hs hfree hpre
  have hik : i ≠ k0 := fun e => by rw [e] at hne; simp at hne
  have hH : ∀ v w'', v = (sp i).f [] → HQ k0 pv sp w.heap.size i v w'' := fun v w'' e => by
    unfold HQ; rw [hne]; exact ⟨[], by simp [hk], e, by rw [hb]; simp⟩
  refine ⟨fun _ => ?_, fun hw => by simp [wantedY, hg] at hw⟩
  refine yenv _ hag ?_ hin
  have := h w' hc
  unfold Yields at this ⊢
  split at this
  · exact ⟨fun e' => absurd e' hik, fun _ => this.1, hH _ _ this.2⟩
  · exact ⟨fun e' => absurd e' hik, fun _ => this.1, hH _ _ this.2⟩
  · exact this.mono fun v w'' h => ⟨fun e' => absurd e' hik, fun _ => h.1, hH _ _ h.2⟩
  · exact this.elim
def okE (k0 : Nat) (l : List Oper) (sp : Nat → Sp) (i : Nat) (o : Oper) : Bool := !(Nat.beq i k0) && Nat.beq (sp i).k 0 && (sp i).bl [] matches [] && slotsE k0 l sp i o
theorem okE_out (h : okE k0 l sp i o = true) : Nat.beq i k0 = false ∧ (sp i).k = 0 ∧ (sp i).bl [] = [] ∧ slotsE k0 l sp i o = true := by
  simp only [okE, Bool.and_eq_true, Bool.not_eq_true'] at h
  refine ⟨h.1.1.1, Nat.eq_of_beq_eq_true h.1.1.2, ?_, h.2⟩
  have := h.1.2
  revert this; cases (sp i).bl [] <;> simp
theorem eP_ (hs : okE k0 l sp i o = true := by kernel_rfl) (h : (fun w => (execOp (envE (envOf l sp a0 o)) o).run P w) = (fun w => .ok (.value ((sp i).f [])) w) := by kernel_rfl) : EStepOk P k0 pre es (HQ k0 pv sp w.heap.size) lf l (yof a0) w i o := by
  obtain ⟨h1, h2, h3, h4⟩ := okE_out hs
  refine e_step h1 h2 h3 h4 fun w' _ => ?_
  have h2 : (execOp (envE (envOf l sp a0 o)) o).run P w' = .ok (.value ((sp i).f [])) w' := congrFun h w'
  unfold Yields
  rw [h2]
  exact ⟨Ch.refl _ _, rfl⟩
theorem eE_ (v0 : Value) (he : v0 = (sp i).f []) (hs : okE k0 l sp i o = true := by kernel_rfl) (h : (fun w => (execOp (envE (envOf l sp a0 o)) o).run P w) = (fun w => .ok (.value v0) w) := by kernel_rfl) : EStepOk P k0 pre es (HQ k0 pv sp w.heap.size) lf l (yof a0) w i o := by
  subst he; exact eP_ hs h
theorem eS_ (kd : IntKind) (e : Int) (he : kd.wrap e = e) (hv : (sp i).f [] = .int kd e := by kernel_rfl) (hs : okE k0 l sp i o = true := by kernel_rfl) (h : (fun w => (execOp (envE (envOf l sp a0 o)) o).run P w) = (fun w => .ok (.value (.int kd (kd.wrap e))) w) := by kernel_rfl) : EStepOk P k0 pre es (HQ k0 pv sp w.heap.size) lf l (yof a0) w i o :=
  eE_ (.int kd (kd.wrap e)) (by rw [he, hv]) hs h
theorem eC_ (f : FuncId) (args : Array Value) (hg : ∀ w', Gives P f args w' fun v w'' => v = (sp i).f [] ∧ Ch [] w' w'') (hs : okE k0 l sp i o = true := by kernel_rfl) (h : (fun w => (execOp (envE (envOf l sp a0 o)) o).run P w) = (fun w => .ok (.enter f args) w) := by kernel_rfl) : EStepOk P k0 pre es (HQ k0 pv sp w.heap.size) lf l (yof a0) w i o := by
  obtain ⟨h1, h2, h3, h4⟩ := okE_out hs
  refine e_step h1 h2 h3 h4 fun w' _ => ?_
  have h2 : (execOp (envE (envOf l sp a0 o)) o).run P w' = .ok (.enter f args) w' := congrFun h w'
  unfold Yields
  rw [h2]
  exact (hg w').mono fun v w'' h => ⟨h.2, h.1⟩
variable {ms : List Nat} {w0 : World} {bs : List Blk}
theorem eL_ (S : ∀ w', Ch es w w' → St ms w0 bs w') (j b off : Nat) {x : Operand} {ty : TypeId} (ho : o.op = .load ty x := by rfl) (hs : okE k0 l sp i o = true := by kernel_rfl) (hx : envE (envOf l sp a0 o) x = .pointer (some ⟨b, off, none⟩) := by kernel_rfl)
    (ha : (P.underlying ty).map aggD = some false := by kernel_rfl) (hb : lk bs j off = some (b, (sp i).f []) := by kernel_rfl) : EStepOk P k0 pre es (HQ k0 pv sp w.heap.size) lf l (yof a0) w i o := by
  obtain ⟨h1, h2, h3, h4⟩ := okE_out hs
  exact e_step h1 h2 h3 h4 fun w' hc => Y.load1_ (S w' hc) j _ b off ⟨Ch.refl _ _, rfl⟩ ho hx ha hb
theorem eN_ (S : ∀ w', Ch es w w' → St ms w0 bs w') (j b off n : Nat) (vs : Array Value) {x : Operand} {ty : TypeId} (ho : o.op = .load ty x := by rfl) (hv : (sp i).f [] = .agg vs := by kernel_rfl) (hs : okE k0 l sp i o = true := by kernel_rfl) (hx : envE (envOf l sp a0 o) x = .pointer (some ⟨b, off, none⟩) := by kernel_rfl)
    (ha : (P.underlying ty).map aggD = some true := by kernel_rfl) (hn : (P.info? ty).map (·.size) = some n := by kernel_rfl) (hb : lkN bs j off n = some (b, vs) := by kernel_rfl) : EStepOk P k0 pre es (HQ k0 pv sp w.heap.size) lf l (yof a0) w i o := by
  obtain ⟨h1, h2, h3, h4⟩ := okE_out hs
  exact e_step h1 h2 h3 h4 fun w' hc => Y.loadN_ (S w' hc) j n vs b off ⟨Ch.refl _ _, hv.symm⟩ ho hx ha hn hb
theorem e_stepP (hp : preB pre i = true) (hne : Nat.beq i k0 = false) (hk : (sp i).k = 0) (hb : (sp i).bl [] = []) (hs : slotsE k0 l sp i o = true) (h : ∀ w', Ch [] w w' → Yields P o (envE (envOf l sp a0 o)) w' fun v w'' => Ch [] w' w'' ∧ v = (sp i).f []) :
    EStepOk P k0 pre es (HQ k0 pv sp w.heap.size) lf l (yof a0) w i o := by
  intro y w' hc0 _ hfree hpre
  obtain ⟨hag, hin, hg⟩ := e_env (H := fun _ _ _ => True) hs hfree hpre
  have hik : i ≠ k0 := fun e => by rw [e] at hne; simp at hne
  have hH : ∀ v w'', v = (sp i).f [] → HQ k0 pv sp w.heap.size i v w'' := fun v w'' e => by
    unfold HQ; rw [hne]; exact ⟨[], by simp [hk], e, by rw [hb]; simp⟩
  refine ⟨fun _ => ?_, fun hw => by simp [wantedY, hg] at hw⟩
  refine yenv _ hag ?_ hin
  have := h w' (hc0 (.inr hp))
  unfold Yields at this ⊢
  split at this
  · exact ⟨fun e' => absurd e' hik, fun _ => this.1, hH _ _ this.2⟩
  · exact ⟨fun e' => absurd e' hik, fun _ => this.1, hH _ _ this.2⟩
  · exact this.mono fun v w'' h => ⟨fun e' => absurd e' hik, fun _ => h.1, hH _ _ h.2⟩
  · exact this.elim
theorem eLp_ (S : St ms w0 bs w) (j b off : Nat) {x : Operand} {ty : TypeId} (ho : o.op = .load ty x := by rfl) (hp : preB pre i = true := by kernel_rfl) (hs : okE k0 l sp i o = true := by kernel_rfl) (hx : envE (envOf l sp a0 o) x = .pointer (some ⟨b, off, none⟩) := by kernel_rfl)
    (ha : (P.underlying ty).map aggD = some false := by kernel_rfl) (hb : lk bs j off = some (b, (sp i).f []) := by kernel_rfl) : EStepOk P k0 pre es (HQ k0 pv sp w.heap.size) lf l (yof a0) w i o := by
  obtain ⟨h1, h2, h3, h4⟩ := okE_out hs
  exact e_stepP hp h1 h2 h3 h4 fun w' hc => Y.load1_ (S.quiet hc) j _ b off ⟨Ch.refl _ _, rfl⟩ ho hx ha hb
theorem eNp_ (S : St ms w0 bs w) (j b off n : Nat) (vs : Array Value) {x : Operand} {ty : TypeId} (ho : o.op = .load ty x := by rfl) (hp : preB pre i = true := by kernel_rfl) (hv : (sp i).f [] = .agg vs := by kernel_rfl) (hs : okE k0 l sp i o = true := by kernel_rfl) (hx : envE (envOf l sp a0 o) x = .pointer (some ⟨b, off, none⟩) := by kernel_rfl)
    (ha : (P.underlying ty).map aggD = some true := by kernel_rfl) (hn : (P.info? ty).map (·.size) = some n := by kernel_rfl) (hb : lkN bs j off n = some (b, vs) := by kernel_rfl) : EStepOk P k0 pre es (HQ k0 pv sp w.heap.size) lf l (yof a0) w i o := by
  obtain ⟨h1, h2, h3, h4⟩ := okE_out hs
  exact e_stepP hp h1 h2 h3 h4 fun w' hc => Y.loadN_ (S.quiet hc) j n vs b off ⟨Ch.refl _ _, hv.symm⟩ ho hx ha hn hb
theorem e_step0 (he : Nat.beq i k0 = true) (hs : slotsE k0 l sp i o = true) (h : ∀ w', Ch [] w w' → Yields P o (envE (envOf l sp a0 o)) w' fun v w'' => Ch es w' w'' ∧ pv v w'') :
    EStepOk P k0 pre es (HQ k0 pv sp w.heap.size) lf l (yof a0) w i o := by
  intro y w' hc0 _ hfree hpre
  obtain ⟨hag, hin, hg⟩ := e_env (H := fun _ _ _ => True) hs hfree hpre
  have hik : i = k0 := Nat.eq_of_beq_eq_true he
  refine ⟨fun _ => ?_, fun hw => by simp [wantedY, hg] at hw⟩
  refine yenv _ hag ?_ hin
  have := h w' (hc0 (.inl hik))
  have hH : ∀ v w'', pv v w'' → HQ k0 pv sp w.heap.size i v w'' := fun v w'' e => by unfold HQ; rw [he]; exact e
  unfold Yields at this ⊢
  split at this
  · exact ⟨fun _ => this.1, fun e => absurd hik e, hH _ _ this.2⟩
  · exact ⟨fun _ => this.1, fun e => absurd hik e, hH _ _ this.2⟩
  · exact this.mono fun v w'' e => ⟨fun _ => e.1, fun e' => absurd hik e', hH _ _ e.2⟩
  · exact this.elim
def pvS (b : Nat) (bs : List Blk) (j off : Nat) (vs : List Value) (_ : Value) (w : World) : Prop := ∃ x, (stb bs j off vs)[j]? = some x ∧ w.heap[b]? = some x.obj
theorem eW_ (S : St ms w0 bs w) (j : Nat) (v : Value) (b off : Nat) {x y : Operand} {ty : TypeId} (ho : o.op = .store ty x y := by rfl) (hs : slotsE k0 l sp i o = true := by kernel_rfl) (he : Nat.beq i k0 = true := by kernel_rfl) (hx : envE (envOf l sp a0 o) x = .pointer (some ⟨b, off, none⟩) := by kernel_rfl) (hy : envE (envOf l sp a0 o) y = v := by kernel_rfl)
    (hn : (P.info? ty).map (·.size) = some v.cells.toList.length := by kernel_rfl) (h1 : v.cells.toList.all (·.oneCell') = true := by kernel_rfl) (hb : ckS bs j off v.cells.toList.length = some b := by kernel_rfl) : EStepOk P k0 pre [b] (HQ k0 (pvS b bs j off v.cells.toList) sp w.heap.size) lf l (yof a0) w i o := by
  refine e_step0 he hs fun w' hc => ?_
  obtain ⟨cs, t, hbj, hl⟩ := ckS_at hb
  have hat := (S.quiet hc).at_ j _ hbj
  unfold Yields execOp
  simp only [ho, hx, hy, Instr.storeAt, Instr.sureAddr, Sem.run_bind, Sem.run_pure, Result.andThen_ok, run_storeN (P := P) hat rfl hn hl h1]
  refine ⟨Ch.setRow w' b _, ⟨b, true, .cells (splice cs off v.cells.toList) t (0, 0)⟩, ?_, setRow_heap w' b cs _ t (0, 0) hat⟩
  have hj : j < bs.length := by
    rcases Nat.lt_or_ge j bs.length with h | h
    · exact h
    · simp [h] at hbj
  simp only [stb, hbj]
  rw [List.getElem?_set_self hj]
theorem St.drop1 (S : St ms w0 bs w) (j off n : Nat) {b : Nat} (hb : ckS bs j off n = some b) : ∀ w', Ch [b] w w' → St ms w0 (bs.eraseIdx j) w' := by
  intro w' hc
  obtain ⟨cs, t, hbj, _⟩ := ckS_at hb
  have S1 : St ms w0 ([] ++ ([⟨b, true, .cells cs t (0, 0)⟩] ++ bs.eraseIdx j)) w := S.perm (eraseIdx_perm hbj)
  exact S1.less (by simp) (by simpa using hc)
end
theorem estep_nil {P : Program} {k0 : Nat} {pre : List (List Nat)} {es : List Nat} {H : Nat → Value → World → Prop} {lf l : List Oper} {y0 : Nat → Value} {w : World} {i : Nat} : EStepAll P k0 pre es H lf l y0 w i [] := trivial
theorem estep_cons {P : Program} {k0 : Nat} {pre : List (List Nat)} {es : List Nat} {H : Nat → Value → World → Prop} {lf l : List Oper} {y0 : Nat → Value} {w : World} {i : Nat} {o : Oper} {rest : List Oper} (h : EStepOk P k0 pre es H lf l y0 w i o) (k : EStepAll P k0 pre es H lf l y0 w (i + 1) rest) : EStepAll P k0 pre es H lf l y0 w i (o :: rest) := ⟨h, k⟩
theorem putsE_eq {vs : Nat → Value} : ∀ {l : List Oper} {vals : List Value} {k : Nat} {a : Act}, vals.length = l.length → (∀ i o v, l[i]? = some o → vals[i]? = some v → o.dst = none ∨ vs (k + i) = v) → putsAll vs k l a = putsL vals l a
  | [], [], _, _, _, _ => rfl
  | o :: rest, v :: vals, k, a, h, hv => by
    simp only [putsAll, putsL]
    have h0 := hv 0 o v rfl rfl
    have e : a.put o.dst (vs k) = a.put o.dst v := by
      rcases h0 with h0 | h0
      · rw [h0]; rfl
      · rw [Nat.add_zero] at h0; rw [h0]
    rw [e]
    exact putsE_eq (by simpa using h) fun i o' v' h1 h2 => by
      have := hv (i + 1) o' v' (by simpa using h1) (by simpa using h2)
      rwa [show k + (i + 1) = k + 1 + i by omega] at this
  | [], _ :: _, _, _, h, _ => by simp at h
  | _ :: _, [], _, _, h, _ => by simp at h
section
variable {P : Program} {a0 : Act} {w w0 : World} {Q : Exit → Act → World → Prop} {id : Nat} {L : List Oper} {ms : List Nat} {bs : List Blk}
theorem quietE_ (m k0 : Nat) (pre : List (List Nat)) (es : List Nat) (pv : Value → World → Prop) (vals : List Value) (paths : List (List Nat)) (sp : Nat → Sp)
    (hpre : preOk (L.take m) k0 pre = true) (hpv : ∀ v w w', Ch [] w w' → pv v w → pv v w') (hes : ∀ x ∈ es, x < w.heap.size)
    (hs : EStepAll P k0 pre es (HQ k0 pv sp w.heap.size) L (L.take m) (yof a0) w 0 (L.take m))
    (hq : ∀ (vs : Nat → Value) w', Ch es w w' → (∀ i, i < m → HQ k0 pv sp w.heap.size i (vs i) w') → WL P L.toArray Q (L.drop m) (putsAll vs 0 (L.take m) a0) w')
    (hm : P.follows .mixedOrders = true) (hl : Nat.ble m L.length = true) (ht : tailOk L m paths = true) (hdst : dstsOkE a0.tmps.size (L.take m) = true) (hedge : edgesOk 0 L = true) : (Code.region id L.toArray true).wp P Q a0 w := by
  have hml : (L.take m).length = m := by have := Nat.le_of_ble_eq_true hl; simp; omega
  have h := drawnE_ (id := id) (Q := Q) (P := P) (k0 := k0) (es := es) (H := HQ k0 pv sp w.heap.size) (a0 := a0) (w0 := w) (L.take m) (L.drop m) ?_ hpre ?_ paths hm (by rw [List.take_append_drop, hml]; exact ht) hdst (by rw [List.take_append_drop]; exact hedge) (by rw [List.take_append_drop]; exact hs) ?_
  · rwa [List.take_append_drop] at h
  · intro i v w1 w2 hc hH
    unfold HQ at *
    split at hH
    · exact hpv _ _ _ hc hH
    · exact hH.stab hc
  · intro i v w1 w2 hik hle hc hH
    unfold HQ at *
    split at hH
    · rename_i h; exact absurd (Nat.eq_of_beq_eq_true h) hik
    · obtain ⟨ids, h1, h2, h3⟩ := hH
      refine ⟨ids, h1, h2, fun p hp => ⟨(h3 p hp).1, (hc.block _ (heap_lt (h3 p hp).2) (fun hx => ?_)).trans (h3 p hp).2⟩⟩
      have := hes _ hx; have := (h3 p hp).1; omega
  · intro vs w' hc hall
    rw [List.take_append_drop]
    exact (hq vs w' hc fun i hi => hall i _ (List.getElem?_eq_getElem (by omega))).out
theorem storeL_ (S : St ms w0 bs w) (m k0 j b off : Nat) (pre : List (List Nat)) (v : Value) (vals : List Value) (paths : List (List Nat))
    (hs : EStepAll P k0 pre [b] (HQ k0 (pvS b bs j off v.cells.toList) (spl (vals.map s0)) w.heap.size) L (L.take m) (yof a0) w 0 (L.take m))
    (hq : ∀ w', St ms w0 (stb bs j off v.cells.toList) w' → WL P L.toArray Q (L.drop m) (putsL vals (L.take m) a0) w')
    (hb : ckS bs j off v.cells.toList.length = some b := by kernel_rfl) (hk : ((L.take m)[k0]?).map (·.dst) = some none := by kernel_rfl) (hvl : vals.length = m := by kernel_rfl) (hpre : preOk (L.take m) k0 pre = true := by kernel_rfl)
    (hm : P.follows .mixedOrders = true := by kernel_rfl) (hl : Nat.ble m L.length = true := by kernel_rfl) (ht : tailOk L m paths = true := by kernel_rfl) (hdst : dstsOkE a0.tmps.size (L.take m) = true := by kernel_rfl) (hedge : edgesOk 0 L = true := by kernel_rfl) : (Code.region id L.toArray true).wp P Q a0 w := by
  obtain ⟨cs, t, hbj, hle⟩ := ckS_at hb
  have hml : (L.take m).length = m := by have := Nat.le_of_ble_eq_true hl; simp; omega
  have hj : j < bs.length := by
    rcases Nat.lt_or_ge j bs.length with h | h
    · exact h
    · simp [h] at hbj
  have hst : stb bs j off v.cells.toList = bs.set j ⟨b, true, .cells (splice cs off v.cells.toList) t (0, 0)⟩ := by simp only [stb, hbj]
  refine quietE_ m k0 pre [b] _ vals paths _ hpre ?_ ?_ hs ?_ hm hl ht hdst hedge
  · rintro v' w1 w2 hc ⟨x, h1, h2⟩
    exact ⟨x, h1, (hc.block _ (heap_lt h2) (by simp)).trans h2⟩
  · intro x hx
    obtain rfl := List.mem_singleton.1 hx
    exact S.lt hbj
  · intro vs w' hc hall
    obtain ⟨ok, hok, hdk⟩ := Option.map_eq_some_iff.1 hk
    have hk0 : k0 < m := by
      rcases Nat.lt_or_ge k0 m with h | h
      · exact h
      · rw [List.getElem?_eq_none (by omega)] at hok; simp at hok
    have hp : putsAll vs 0 (L.take m) a0 = putsL vals (L.take m) a0 := putsE_eq (by omega) fun i o u ho hu => by
      have hi : i < m := by
        rcases Nat.lt_or_ge i vals.length with h | h
        · omega
        · simp [h] at hu
      by_cases hik : i = k0
      · subst hik
        rw [hok] at ho
        exact .inl (by rw [← Option.some.inj ho]; exact hdk)
      · have hH := hall i hi
        unfold HQ at hH
        have hne : Nat.beq i k0 = false := by
          cases hx : Nat.beq i k0
          · rfl
          · exact absurd (Nat.eq_of_beq_eq_true hx) hik
        rw [hne] at hH
        obtain ⟨ids, h1, h2, _⟩ := hH
        have h3 : spl (vals.map s0) i = s0 u := by
          unfold spl
          rw [List.getD_eq_getElem?_getD, List.getElem?_map, hu]; rfl
        rw [h3] at h1 h2
        obtain rfl : ids = [] := List.eq_nil_of_length_eq_zero (by simpa [s0] using h1)
        refine .inr ?_
        rw [Nat.zero_add, h2]; rfl
    rw [hp]
    refine hq w' ?_
    have hH := hall k0 hk0
    unfold HQ at hH
    rw [show Nat.beq k0 k0 = true from Nat.beq_refl k0] at hH
    obtain ⟨x, hx, hxo⟩ := hH
    rw [hst, List.getElem?_set_self hj] at hx
    obtain rfl := Option.some.inj hx
    rw [hst]
    exact S.step hbj rfl (by simpa using hc) hxo
end
end Sx
namespace Sx
open Go Go.RowKit Go.BigFrame
section
variable {P : Program} {ops : Array Oper} {rest : List Oper} {o : Oper} {a : Act} {w w0 : World} {ms : List Nat} {bs : List Blk} {Q : Exit → Act → World → Prop}
theorem idxA_ (b off off' n z : Nat) (kd : IntKind) (iv : Int) {t e : TypeId} {x y : Operand} (h0 : 0 ≤ iv) (h1 : iv < n) (he : off' = off + iv.toNat * z) (k : WL P ops Q rest (a.put o.dst (.pointer (some ⟨b, off', none⟩))) w) (hw : Region.wanted o (yielded ops a.tmps) = true := by kernel_rfl)
    (ho : o.op = .indexAddr t x y := by rfl) (hu : P.underlying t = some (.array n e) := by kernel_rfl) (hz : (P.info? e).map (·.size) = some z := by kernel_rfl)
    (hx : a.eval x = .pointer (some ⟨b, off, none⟩) := by kernel_rfl) (hy : a.eval y = .int kd iv := by kernel_rfl) : WL P ops Q (o :: rest) a w :=
  pure_ (.pointer (some ⟨b, off', none⟩)) k hw (by
    subst he
    have hadd : ∀ q : Nat, (⟨b, off, none⟩ : Addr).add q = ⟨b, off + q, none⟩ := fun q => by
      by_cases hq : q = 0
      · subst hq; rfl
      · simp [Addr.add, hq]
    cases hq : P.info? e with
    | none => simp [hq] at hz
    | some inf =>
      have hsz : inf.size = z := by simpa [hq] using hz
      unfold execOp
      simp only [ho, hx, hy]
      unfold Instr.indexAt
      simp only [Sem.run_bind, run_underlying hu, Result.andThen_ok, asIntOf, Sem.run_pure]
      simp [h0, h1, Go.sizeOf, typeInfo, hq, hsz, hadd, Instr.sureAddr])
theorem lk_of {b i off : Nat} {wr : Bool} {cs : Array Value} {t : TypeId} {fr : Nat × Nat} {v : Value} (hb : bs[i]? = some ⟨b, wr, .cells cs t fr⟩) (hc : cs[off]? = some v) : lk bs i off = some (b, v) := by
  unfold lk; rw [hb]; simp only [hc]
end
end Sx
namespace Sx
open Go Go.RowKit Go.BigFrame
section
variable {P : Program} {a : Act} {w : World} {Q : Exit → Act → World → Prop}
theorem cut_ {c : Code} (K : Act → World → Prop) (h : c.wp P (Exit.then K Q) a w) (hk : ∀ a' w', K a' w' → Q .normal a' w') : c.wp P Q a w := by
  refine Code.wp_mono (Q := Exit.then K Q) ?_ h
  intro e a' w' h
  cases e <;> first | exact hk _ _ h | exact h
end
section
variable {P : Program} {ops : Array Oper} {rest : List Oper} {o : Oper} {a : Act} {w : World} {Q : Exit → Act → World → Prop}
theorem remS_ (kd : IntKind) (x y : Int) {t yt : TypeId} {xo yo : Operand} (h : y ≠ 0) (k : WL P ops Q rest (a.put o.dst (.int kd (x.tmod y))) w) (hw : Region.wanted o (yielded ops a.tmps) = true := by kernel_rfl)
    (ho : o.op = .binOp .rem t xo yo yt := by rfl) (hx : a.eval xo = .int kd x := by kernel_rfl) (hy : a.eval yo = .int kd y := by kernel_rfl) : WL P ops Q (o :: rest) a w :=
  pure_ _ k hw (by
    unfold execOp
    simp [ho, hx, hy, Go.eqGuard, Go.binOp, Op.intDiv, h])
end
end Sx
namespace Sx
open Go Go.RowKit Go.BigFrame
section
variable {P : Program} {ops : Array Oper} {rest : List Oper} {o : Oper} {a : Act} {w : World} {Q : Exit → Act → World → Prop} {z T m n c : Nat} {news : List Value} {s x : Operand} {t tx : TypeId} {xv : Value}
theorem appendO_ (hs : Src P z tx xv m news w) (hm : m = 0) (xs : Option Addr) (hnc : n ≤ c) (ho : o.op = .call ⟨.builtin .append, #[s, x], #[t, tx]⟩ := by rfl) (k : WL P ops Q rest (a.put o.dst (.slice xs n c)) w)
    (hw : Region.wanted o (yielded ops a.tmps) = true := by kernel_rfl) (hsv : a.eval s = .slice xs n c := by kernel_rfl) (hxv : a.eval x = xv := by kernel_rfl)
    (ht : P.underlying t = some (.slice T) := by kernel_rfl) (hinfo : (P.info? T).map (·.size) = some z := by kernel_rfl) : WL P ops Q (o :: rest) a w :=
  pure_ _ k hw (by
    subst hm
    obtain ⟨i, hi, hz⟩ := Option.map_eq_some_iff.1 hinfo
    have hs' : Src P i.size tx xv 0 [] w := by
      have h0 : news = [] := List.eq_nil_of_length_eq_zero (by rw [hs.newsLen]; simp)
      rw [hz]; rw [h0] at hs; exact hs
    exact append_op ho hsv hxv (run_append_nothing (P := P) w t tx o.type T i ht hi xs n c hnc xv hs'))
end
end Sx
namespace Sx.Y
open Go Go.RowKit Go.BigFrame
variable {P : Program} {w : World} {o : Oper} {R : Value → World → Prop} {ρ : Operand → Value}
theorem idxA_ (b off off' n z : Nat) (kd : IntKind) (iv : Int) {t e : TypeId} {x y : Operand} (h0 : 0 ≤ iv) (h1 : iv < n) (he : off' = off + iv.toNat * z) (k : R (.pointer (some ⟨b, off', none⟩)) w)
    (ho : o.op = .indexAddr t x y := by rfl) (hu : P.underlying t = some (.array n e) := by kernel_rfl) (hz : (P.info? e).map (·.size) = some z := by kernel_rfl)
    (hx : ρ x = .pointer (some ⟨b, off, none⟩) := by kernel_rfl) (hy : ρ y = .int kd iv := by kernel_rfl) : Yields P o ρ w R :=
  pure_ (.pointer (some ⟨b, off', none⟩)) k (by
    subst he
    have hadd : ∀ q : Nat, (⟨b, off, none⟩ : Addr).add q = ⟨b, off + q, none⟩ := fun q => by
      by_cases hq : q = 0
      · subst hq; rfl
      · simp [Addr.add, hq]
    cases hq : P.info? e with
    | none => simp [hq] at hz
    | some inf =>
      have hsz : inf.size = z := by simpa [hq] using hz
      unfold execOp
      simp only [ho, hx, hy]
      unfold Instr.indexAt
      simp only [Sem.run_bind, run_underlying hu, Result.andThen_ok, asIntOf, Sem.run_pure]
      simp [h0, h1, Go.sizeOf, typeInfo, hq, hsz, hadd, Instr.sureAddr])
end Sx.Y
namespace Sx
open Go Go.RowKit Go.BigFrame
section
variable {P : Program} {ops : Array Oper} {rest : List Oper} {o : Oper} {a : Act} {w w0 : World} {ms : List Nat} {bs : List Blk} {Q : Exit → Act → World → Prop}
theorem callD_ (S : St ms w0 bs w) (i : Nat) (v : Value) (b off : Nat) (ty : TypeId) (f : FuncId) (args : Array Value) (k : Gives P f (#[v] ++ args) w fun v w' => WL P ops Q rest (a.put o.dst v) w') (hw : Region.wanted o (yielded ops a.tmps) = true := by kernel_rfl)
    (h : (execOp a.eval o).run P w = ((loadVar ty ⟨b, off, none⟩) >>= fun v => (pure (Next.enter f (#[v] ++ args)) : Sem Next)).run P w := by kernel_rfl)
    (ha : (P.underlying ty).map aggD = some false := by kernel_rfl) (hb : lk bs i off = some (b, v) := by kernel_rfl) : WL P ops Q (o :: rest) a w :=
  WL.want hw fun K hK => by
    obtain ⟨wr, cs, t, fr, hb, hc⟩ := lk_at hb
    unfold Oper.wp
    rw [h, Sem.run_bind, run_load1 (S.at_ i _ hb) ha hc, Result.andThen_ok, Sem.run_pure]
    refine Calls.mono k ?_
    rintro e w' ⟨v, rfl, hk⟩
    exact hK _ _ hk
end
end Sx
namespace Sx
open Go Go.RowKit Go.BigFrame
theorem Rowed.le {z T olds n bl B B' v} {w : World} (h : Rowed z T olds n bl B v w) (hb : B' ≤ B) : Rowed z T olds n bl B' v w := by
  obtain ⟨x, c, bl', h1, h2, h3⟩ := h
  exact ⟨x, c, bl', h1, h2, fun y hy => ⟨(h3 y hy).1, (h3 y hy).2.imp id (fun h => Nat.le_trans hb h)⟩⟩
def sB (m : Nat) (news : List Value) (T : TypeId) : Sp := ⟨1, fun ids => .slice (some ⟨ids.getD 0 0, 0, none⟩) m m, fun ids => [(ids.getD 0 0, .cells news.toArray T (0, 0))]⟩
section
variable {P : Program} {lf l : List Oper} {sp : Nat → Sp} {a0 : Act} {w : World} {i k0 : Nat} {pre : List (List Nat)} {o : Oper} {es : List Nat} {pv : Value → World → Prop}
theorem eB_ (m : Nat) (news : List Value) (T : TypeId) (hsp : sp i = sB m news T := by rfl) (hne : Nat.beq i k0 = false := by kernel_rfl) (hs : slotsE k0 l sp i o = true := by kernel_rfl)
    (h : (fun w => (execOp (envE (envOf l sp a0 o)) o).run P w) = (fun w => .ok (.value (.slice (some ⟨w.heap.size, 0, none⟩) m m)) (w.alloc (.cells news.toArray T (0, 0)))) := by kernel_rfl) :
    EStepOk P k0 pre es (HQ k0 pv sp w.heap.size) lf l (yof a0) w i o := by
  intro y w' _ hc hfree hpre
  obtain ⟨hag, hin, hg⟩ := e_env (H := fun _ _ _ => True) hs hfree hpre
  have hik : i ≠ k0 := fun e => by rw [e] at hne; simp at hne
  refine ⟨fun _ => ?_, fun hw => by simp [wantedY, hg] at hw⟩
  refine yenv _ hag ?_ hin
  have h2 : (execOp (envE (envOf l sp a0 o)) o).run P w' = _ := congrFun h w'
  unfold Yields
  rw [h2]
  refine ⟨fun e => absurd e hik, fun _ => Ch.alloc _ _ _, ?_⟩
  unfold HQ
  rw [hne, hsp]
  refine ⟨[w'.heap.size], rfl, rfl, fun p hp => ?_⟩
  obtain rfl := List.mem_singleton.1 hp
  exact ⟨hc.size, heap_alloc_new w' _⟩
variable {ms : List Nat} {w0 : World}
theorem eA_ {A bl R : List Blk} {xs : Option Addr} {z n c : Nat} {T T' : TypeId} {olds : List Value} (S : St ms w0 (A ++ (bl ++ R)) w) (hr : rowv z T olds xs n c bl) (d1 d2 j2 m : Nat) (news : List Value) (bytes : Nat) {t tx e' : TypeId}
    (hbd : (n + m) * bytes ≤ 140737488355328) (h63 : n + m ≤ maxLen) (ho : o.op = .call ⟨.builtin .append, #[.tmp d1, .tmp d2], #[t, tx]⟩ := by rfl) (hnl : news.length = m * z := by rfl) (h1 : news.all (·.oneCell') = true := by kernel_rfl)
    (hg : o.guard.isNone = true := by kernel_rfl) (he : Nat.beq i k0 = true := by kernel_rfl)
    (hs1 : (match srcOf l o d1 with | some j => !(Nat.beq j k0) && Nat.beq (sp j).k 0 | none => freeB l i d1) = true := by kernel_rfl) (hv1 : valOf l sp a0 o d1 = .slice xs n c := by kernel_rfl)
    (hs2 : srcOf l o d2 = some j2 := by kernel_rfl) (hj2 : Nat.beq j2 k0 = false := by kernel_rfl) (hsp : sp j2 = sB m news T' := by rfl)
    (ht : P.underlying t = some (.slice T) := by kernel_rfl) (htx : P.underlying tx = some (.slice e') := by kernel_rfl) (hinfo : (P.info? T).map (fun i => (i.zero.map (·.cells.size), i.size, i.bytes)) = some (some z, z, bytes) := by kernel_rfl) :
    EStepOk P k0 pre (bl.map Blk.id) (HQ k0 (Rowed z T (olds ++ news) (n + m) bl w.heap.size) sp w.heap.size) lf l (yof a0) w i o := by
  intro y w' hc0 hc hfree hpre
  have hik : i = k0 := Nat.eq_of_beq_eq_true he
  have hg' : o.guard = none := by cases hx : o.guard <;> simp_all
  have hy1 : y d1 = .slice xs n c := by
    unfold valOf at hv1
    cases hsrc : srcOf l o d1 with
    | some j =>
      rw [hsrc] at hv1 hs1
      obtain ⟨hed, hd⟩ := srcOf_edge hsrc
      simp only [Bool.and_eq_true, Bool.not_eq_true'] at hs1
      have h2 := hpre j d1 hed hd
      unfold HQ at h2
      rw [hs1.1] at h2
      obtain ⟨ids, h3, h4, _⟩ := h2
      have h5 : (sp j).k = 0 := Nat.eq_of_beq_eq_true hs1.2
      obtain rfl : ids = [] := List.eq_nil_of_length_eq_zero (by rw [h3, h5])
      rw [h4]; exact hv1
    | none =>
      rw [hsrc] at hv1 hs1
      rw [hfree d1 hs1]; exact hv1
  obtain ⟨b, hy2, hb⟩ : ∃ b, y d2 = .slice (some ⟨b, 0, none⟩) m m ∧ w'.heap[b]? = some (.cells news.toArray T' (0, 0)) := by
    obtain ⟨hed, hd⟩ := srcOf_edge hs2
    have h2 := hpre j2 d2 hed hd
    unfold HQ at h2
    rw [hj2, hsp] at h2
    obtain ⟨ids, h3, h4, h5⟩ := h2
    match ids, h3 with
    | [b], _ => exact ⟨b, h4, (h5 (b, .cells news.toArray T' (0, 0)) (List.mem_singleton.2 rfl)).2⟩
  have hsrc : Src P z tx (.slice (some ⟨b, 0, none⟩) m m) m news w' := by
    refine Src.ofSlice w' htx ⟨b, 0, none⟩ m m news hnl (fun j u hj => ?_) (fun u hu => List.all_eq_true.1 h1 u hu)
    rw [Addr.add_lit, cell_of hb]
    simpa using hj
  have Sq := S.quiet (hc0 (.inl hik))
  obtain ⟨v, w'', hrun, hc2, hR⟩ := run_appendR (P := P) (ty := o.type) (w := w') hr (fun y hy => Sq.at' (by simp [hy])) bytes hsrc ht hinfo hbd h63
  refine ⟨fun _ => ?_, fun hw => by simp [wantedY, hg'] at hw⟩
  unfold Yields
  rw [append_op (ρ := rho y) ho (sv := .slice xs n c) (xv := .slice (some ⟨b, 0, none⟩) m m) hy1 hy2 hrun]
  refine ⟨fun _ => hc2, fun e => absurd hik e, ?_⟩
  unfold HQ
  rw [he]
  exact hR.le hc.size
end
section
variable {P : Program} {a0 : Act} {w w0 : World} {Q : Exit → Act → World → Prop} {id : Nat} {L : List Oper} {ms : List Nat}
theorem appL_ {A bl R : List Blk} {xs : Option Addr} {z n c : Nat} {T T' : TypeId} {olds : List Value} (S : St ms w0 (A ++ (bl ++ R)) w) (hr : rowv z T olds xs n c bl) (m k0 i1 mm : Nat) (news : List Value) (pre : List (List Nat)) (vals : List Value) (paths : List (List Nat))
    (hs : EStepAll P k0 pre (bl.map Blk.id) (HQ k0 (Rowed z T (olds ++ news) (n + mm) bl w.heap.size) (spl ((vals.map s0).set i1 (sB mm news T'))) w.heap.size) L (L.take m) (yof a0) w 0 (L.take m))
    (hq : ∀ x' c' bl' u w', rowv z T (olds ++ news) x' (n + mm) c' bl' → St ms w0 (A ++ (bl' ++ R)) w' → WL P L.toArray Q (L.drop m) (putsL ((vals.set k0 (.slice x' (n + mm) c')).set i1 u) (L.take m) a0) w')
    (hk : Nat.blt k0 m = true := by kernel_rfl) (hi : Nat.blt i1 m = true := by kernel_rfl) (hik : Nat.beq i1 k0 = false := by kernel_rfl) (hvl : vals.length = m := by kernel_rfl) (hpre : preOk (L.take m) k0 pre = true := by kernel_rfl)
    (hm : P.follows .mixedOrders = true := by kernel_rfl) (hl : Nat.ble m L.length = true := by kernel_rfl) (ht : tailOk L m paths = true := by kernel_rfl) (hdst : dstsOkE a0.tmps.size (L.take m) = true := by kernel_rfl) (hedge : edgesOk 0 L = true := by kernel_rfl) : (Code.region id L.toArray true).wp P Q a0 w := by
  have hml : (L.take m).length = m := by have := Nat.le_of_ble_eq_true hl; simp; omega
  have hk' : k0 < m := by simpa [Nat.blt_eq] using hk
  have hi' : i1 < m := by simpa [Nat.blt_eq] using hi
  have hne : i1 ≠ k0 := fun e => by rw [e] at hik; simp at hik
  refine quietE_ m k0 pre (bl.map Blk.id) (Rowed z T (olds ++ news) (n + mm) bl w.heap.size) vals paths _ hpre (fun v w1 w2 hc h => Rowed.stab h hc) ?_ hs ?_ hm hl ht hdst hedge
  · intro x hx
    obtain ⟨y, hy, rfl⟩ := List.mem_map.1 hx
    exact S.ge (by simp [hy])
  · intro vs w' hc hall
    have hK := hall k0 hk'
    unfold HQ at hK
    rw [show Nat.beq k0 k0 = true from Nat.beq_refl k0] at hK
    obtain ⟨x', c', bl', hv, hr', hat⟩ := hK
    have S2 := S.redo hr.wr hc (fun y hy => (hat y hy).1) (fun y hy => (hat y hy).2) hr'.pw
    have hp : putsAll vs 0 (L.take m) a0 = putsL ((vals.set k0 (.slice x' (n + mm) c')).set i1 (vs i1)) (L.take m) a0 := putsE_eq (by rw [List.length_set, List.length_set]; omega) fun i o u ho hu => by
      have hi2 : i < m := by
        rcases Nat.lt_or_ge i m with h | h
        · exact h
        · rw [List.getElem?_eq_none (by simp; omega)] at hu; simp at hu
      refine .inr ?_
      rw [Nat.zero_add]
      by_cases h1 : i = i1
      · subst h1
        rw [List.getElem?_set_self (by simp; omega)] at hu
        exact Option.some.inj hu
      · rw [List.getElem?_set_ne (fun e => h1 e.symm)] at hu
        by_cases h2 : i = k0
        · subst h2
          rw [List.getElem?_set_self (by omega)] at hu
          rw [hv]; exact Option.some.inj hu
        · rw [List.getElem?_set_ne (fun e => h2 e.symm)] at hu
          have hH := hall i hi2
          unfold HQ at hH
          have hb : Nat.beq i k0 = false := by
            cases hx : Nat.beq i k0
            · rfl
            · exact absurd (Nat.eq_of_beq_eq_true hx) h2
          rw [hb] at hH
          obtain ⟨ids, g1, g2, _⟩ := hH
          have h3 : spl ((vals.map s0).set i1 (sB mm news T')) i = s0 u := by
            unfold spl
            rw [List.getD_eq_getElem?_getD, List.getElem?_set_ne (fun e => h1 e.symm), List.getElem?_map, hu]; rfl
          rw [h3] at g1 g2
          obtain rfl : ids = [] := List.eq_nil_of_length_eq_zero (by simpa [s0] using g1)
          rw [g2]; rfl
    rw [hp]
    exact hq x' c' bl' (vs i1) w' hr' S2
theorem appLB_ {bs : List Blk} (S : St ms w0 bs w) (j : Nat) {b z n c : Nat} {T T' : TypeId} (olds tail : List Value) (m k0 i1 mm : Nat) (news : List Value) (pre : List (List Nat)) (vals : List Value) (paths : List (List Nat))
    (hlc : (olds ++ tail).length = c * z) (hnc : n ≤ c)
    (hs : ∀ (S : St ms w0 ([] ++ ([⟨b, true, .cells (olds ++ tail).toArray T (0, 0)⟩] ++ bs.eraseIdx j)) w) (hr : rowv z T olds (some ⟨b, 0, none⟩) n c [⟨b, true, .cells (olds ++ tail).toArray T (0, 0)⟩]) (zD : ∀ w', Ch [b] w w' → St ms w0 (bs.eraseIdx j) w'), EStepAll P k0 pre [b] (HQ k0 (Rowed z T (olds ++ news) (n + mm) [⟨b, true, .cells (olds ++ tail).toArray T (0, 0)⟩] w.heap.size) (spl ((vals.map s0).set i1 (sB mm news T'))) w.heap.size) L (L.take m) (yof a0) w 0 (L.take m))
    (hq : ∀ b' c' tail' u w', ((olds ++ news) ++ tail').length = c' * z → n + mm ≤ c' → St ms w0 (⟨b', true, .cells ((olds ++ news) ++ tail').toArray T (0, 0)⟩ :: bs.eraseIdx j) w' → WL P L.toArray Q (L.drop m) (putsL ((vals.set k0 (.slice (some ⟨b', 0, none⟩) (n + mm) c')).set i1 u) (L.take m) a0) w')
    (hi0 : bs[j]? = some ⟨b, true, .cells (olds ++ tail).toArray T (0, 0)⟩ := by kernel_rfl) (hlo : olds.length = n * z := by rfl) (hmm : 0 < mm := by decide)
    (hk : Nat.blt k0 m = true := by kernel_rfl) (hi : Nat.blt i1 m = true := by kernel_rfl) (hik : Nat.beq i1 k0 = false := by kernel_rfl) (hvl : vals.length = m := by kernel_rfl) (hpre : preOk (L.take m) k0 pre = true := by kernel_rfl)
    (hm : P.follows .mixedOrders = true := by kernel_rfl) (hl : Nat.ble m L.length = true := by kernel_rfl) (ht : tailOk L m paths = true := by kernel_rfl) (hdst : dstsOkE a0.tmps.size (L.take m) = true := by kernel_rfl) (hedge : edgesOk 0 L = true := by kernel_rfl) : (Code.region id L.toArray true).wp P Q a0 w := by
  have S1 : St ms w0 ([] ++ ([⟨b, true, .cells (olds ++ tail).toArray T (0, 0)⟩] ++ bs.eraseIdx j)) w := S.perm (eraseIdx_perm hi0)
  have hr : rowv z T olds (some ⟨b, 0, none⟩) n c [⟨b, true, .cells (olds ++ tail).toArray T (0, 0)⟩] := ⟨hlo, hnc, .inr ⟨b, tail, rfl, rfl, hlc⟩⟩
  refine appL_ S1 hr m k0 i1 mm news pre vals paths (hs S1 hr (fun w' hc => S1.less (by simp) (by simpa using hc))) ?_ hk hi hik hvl hpre hm hl ht hdst hedge
  intro x' c' bl' u w' ⟨_, hle, hrow⟩ S2
  rcases hrow with ⟨_, h0, _⟩ | ⟨b', tail', rfl, rfl, hl'⟩
  · omega
  · exact hq b' c' tail' u w' hl' hle S2
theorem appLZ_ {bs : List Blk} (S : St ms w0 bs w) {z : Nat} {T T' : TypeId} (m k0 i1 mm : Nat) (news : List Value) (pre : List (List Nat)) (vals : List Value) (paths : List (List Nat))
    (hs : ∀ (S : St ms w0 ([] ++ ([] ++ bs)) w) (hr : rowv z T [] none 0 0 []) (zD : ∀ w', Ch [] w w' → St ms w0 bs w'), EStepAll P k0 pre (List.map Blk.id []) (HQ k0 (Rowed z T ([] ++ news) (0 + mm) [] w.heap.size) (spl ((vals.map s0).set i1 (sB mm news T'))) w.heap.size) L (L.take m) (yof a0) w 0 (L.take m))
    (hq : ∀ b' c' tail' u w', (news ++ tail').length = c' * z → mm ≤ c' → St ms w0 (⟨b', true, .cells (news ++ tail').toArray T (0, 0)⟩ :: bs) w' → WL P L.toArray Q (L.drop m) (putsL ((vals.set k0 (.slice (some ⟨b', 0, none⟩) mm c')).set i1 u) (L.take m) a0) w')
    (hmm : 0 < mm := by decide)
    (hk : Nat.blt k0 m = true := by kernel_rfl) (hi : Nat.blt i1 m = true := by kernel_rfl) (hik : Nat.beq i1 k0 = false := by kernel_rfl) (hvl : vals.length = m := by kernel_rfl) (hpre : preOk (L.take m) k0 pre = true := by kernel_rfl)
    (hm : P.follows .mixedOrders = true := by kernel_rfl) (hl : Nat.ble m L.length = true := by kernel_rfl) (ht : tailOk L m paths = true := by kernel_rfl) (hdst : dstsOkE a0.tmps.size (L.take m) = true := by kernel_rfl) (hedge : edgesOk 0 L = true := by kernel_rfl) : (Code.region id L.toArray true).wp P Q a0 w := by
  have hr : rowv z T [] none 0 0 [] := rowv_nil z T
  refine appL_ (A := []) (bl := []) S hr m k0 i1 mm news pre vals paths (hs S hr (fun w' hc => S.quiet hc)) ?_ hk hi hik hvl hpre hm hl ht hdst hedge
  intro x' c' bl' u w' ⟨_, hle, hrow⟩ S2
  rw [Nat.zero_add] at hle ⊢
  rcases hrow with ⟨_, h0, _⟩ | ⟨b', tail', rfl, rfl, hl'⟩
  · omega
  · exact hq b' c' tail' u w' hl' hle S2
end
end Sx
namespace Sx
open Go Go.RowKit Go.BigFrame
def pvC (val : Value) (Q : List Blk → Prop) (bl : List Blk) (B : Nat) (v : Value) (w : World) : Prop :=
  v = val ∧ ∃ bl', Q bl' ∧ (∀ y ∈ bl', w.heap[y.id]? = some y.obj ∧ (y.wr = true → (∃ u ∈ bl, y.id = u.id) ∨ B ≤ y.id)) ∧ bl'.Pairwise clash
theorem pvC.stab {val Q bl B v} {w w' : World} (h : pvC val Q bl B v w) (hc : Ch [] w w') : pvC val Q bl B v w' := by
  obtain ⟨h1, bl', h2, h3, h4⟩ := h
  exact ⟨h1, bl', h2, fun y hy => ⟨(hc.block _ (heap_lt (h3 y hy).1) (by simp)).trans (h3 y hy).1, (h3 y hy).2⟩, h4⟩
def slotsG (l : List Oper) (sp : Nat → Sp) (i : Nat) (o : Oper) : Bool := o.guard.isNone && inEnv (envOf l sp ⟨#[], []⟩ o) o &&
  o.op.operands.toList.all fun x => match x with | .tmp t => (match srcOf l o t with | some j => Nat.beq (sp j).k 0 | none => freeB l i t) | _ => true
section
variable {P : Program} {lf l : List Oper} {sp : Nat → Sp} {a0 : Act} {w : World} {i k0 : Nat} {pre : List (List Nat)} {o : Oper} {es : List Nat} {pv : Value → World → Prop}
theorem g_env (zk : ∀ v w, pv v w → v = (sp k0).f []) (hs : slotsG l sp i o = true) {B : Nat} {y : Nat → Value} {w' : World} (hfree : ∀ t, freeB l i t = true → y t = yof a0 t) (hpre : ∀ j d, edgeB o j = true → (l[j]?).bind (·.dst) = some d → HQ k0 pv sp B j (y d) w') :
    agrees y (envOf l sp a0 o) ∧ inEnv (envOf l sp a0 o) o = true ∧ o.guard = none := by
  simp only [slotsG, Bool.and_eq_true] at hs
  obtain ⟨⟨hg, hin⟩, hall⟩ := hs
  refine ⟨agrees_all fun p hp => ?_, isSome_envOf hin, by cases hx : o.guard <;> simp_all⟩
  simp only [envOf, List.mem_filterMap] at hp
  obtain ⟨x, hx, hp⟩ := hp
  cases x with
  | tmp t =>
    simp only [Option.some.injEq] at hp
    subst hp
    have h1 := List.all_eq_true.1 hall _ hx
    simp only at h1
    unfold valOf
    cases hsrc : srcOf l o t with
    | some j =>
      rw [hsrc] at h1
      obtain ⟨he, hd⟩ := srcOf_edge hsrc
      have h2 := hpre j t he hd
      unfold HQ at h2
      split at h2
      · rename_i hb
        obtain rfl := Nat.eq_of_beq_eq_true hb
        exact zk _ _ h2
      · obtain ⟨ids, h3, h4, _⟩ := h2
        have h5 : (sp j).k = 0 := Nat.eq_of_beq_eq_true h1
        obtain rfl : ids = [] := List.eq_nil_of_length_eq_zero (by rw [h3, h5])
        exact h4
    | none =>
      rw [hsrc] at h1
      exact hfree t h1
  | _ => simp at hp
def okG (k0 : Nat) (l : List Oper) (sp : Nat → Sp) (i : Nat) (o : Oper) : Bool := !(Nat.beq i k0) && Nat.beq (sp i).k 0 && (sp i).bl [] matches [] && slotsG l sp i o
theorem okG_out (h : okG k0 l sp i o = true) : Nat.beq i k0 = false ∧ (sp i).k = 0 ∧ (sp i).bl [] = [] ∧ slotsG l sp i o = true := by
  simp only [okG, Bool.and_eq_true, Bool.not_eq_true'] at h
  refine ⟨h.1.1.1, Nat.eq_of_beq_eq_true h.1.1.2, ?_, h.2⟩
  have := h.1.2
  revert this; cases (sp i).bl [] <;> simp
theorem g_step (zk : ∀ v w, pv v w → v = (sp k0).f []) (hs : okG k0 l sp i o = true) (h : ∀ w', Ch es w w' → Yields P o (envE (envOf l sp a0 o)) w' fun v w'' => Ch [] w' w'' ∧ v = (sp i).f []) :
    EStepOk P k0 pre es (HQ k0 pv sp w.heap.size) lf l (yof a0) w i o := by
  intro y w' _ hc hfree hpre
  obtain ⟨hne, hk, hb, hs⟩ := okG_out hs
  obtain ⟨hag, hin, hg⟩ := g_env zk hs hfree hpre
  have hik : i ≠ k0 := fun e => by rw [e] at hne; simp at hne
  have hH : ∀ v w'', v = (sp i).f [] → HQ k0 pv sp w.heap.size i v w'' := fun v w'' e => by
    unfold HQ; rw [hne]; exact ⟨[], by simp [hk], e, by rw [hb]; simp⟩
  refine ⟨fun _ => ?_, fun hw => by simp [wantedY, hg] at hw⟩
  refine yenv _ hag ?_ hin
  have := h w' hc
  unfold Yields at this ⊢
  split at this
  · exact ⟨fun e' => absurd e' hik, fun _ => this.1, hH _ _ this.2⟩
  · exact ⟨fun e' => absurd e' hik, fun _ => this.1, hH _ _ this.2⟩
  · exact this.mono fun v w'' h => ⟨fun e' => absurd e' hik, fun _ => h.1, hH _ _ h.2⟩
  · exact this.elim
theorem gP_ (zk : ∀ v w, pv v w → v = (sp k0).f []) (hs : okG k0 l sp i o = true := by kernel_rfl) (h : (fun w => (execOp (envE (envOf l sp a0 o)) o).run P w) = (fun w => .ok (.value ((sp i).f [])) w) := by kernel_rfl) : EStepOk P k0 pre es (HQ k0 pv sp w.heap.size) lf l (yof a0) w i o := by
  refine g_step zk hs fun w' _ => ?_
  have h2 : (execOp (envE (envOf l sp a0 o)) o).run P w' = .ok (.value ((sp i).f [])) w' := congrFun h w'
  unfold Yields
  rw [h2]
  exact ⟨Ch.refl _ _, rfl⟩
theorem gE_ (zk : ∀ v w, pv v w → v = (sp k0).f []) (v0 : Value) (he : v0 = (sp i).f []) (hs : okG k0 l sp i o = true := by kernel_rfl) (h : (fun w => (execOp (envE (envOf l sp a0 o)) o).run P w) = (fun w => .ok (.value v0) w) := by kernel_rfl) : EStepOk P k0 pre es (HQ k0 pv sp w.heap.size) lf l (yof a0) w i o := by
  subst he; exact gP_ zk hs h
theorem gS_ (zk : ∀ v w, pv v w → v = (sp k0).f []) (kd : IntKind) (e : Int) (he : kd.wrap e = e) (hv : (sp i).f [] = .int kd e := by kernel_rfl) (hs : okG k0 l sp i o = true := by kernel_rfl) (h : (fun w => (execOp (envE (envOf l sp a0 o)) o).run P w) = (fun w => .ok (.value (.int kd (kd.wrap e))) w) := by kernel_rfl) : EStepOk P k0 pre es (HQ k0 pv sp w.heap.size) lf l (yof a0) w i o :=
  gE_ zk (.int kd (kd.wrap e)) (by rw [he, hv]) hs h
theorem gC_ (zk : ∀ v w, pv v w → v = (sp k0).f []) (f : FuncId) (args : Array Value) (hg : ∀ w', Ch es w w' → Gives P f args w' fun v w'' => v = (sp i).f [] ∧ Ch [] w' w'') (hs : okG k0 l sp i o = true := by kernel_rfl) (h : (fun w => (execOp (envE (envOf l sp a0 o)) o).run P w) = (fun w => .ok (.enter f args) w) := by kernel_rfl) : EStepOk P k0 pre es (HQ k0 pv sp w.heap.size) lf l (yof a0) w i o := by
  refine g_step zk hs fun w' hc => ?_
  have h2 : (execOp (envE (envOf l sp a0 o)) o).run P w' = .ok (.enter f args) w' := congrFun h w'
  unfold Yields
  rw [h2]
  exact (hg w' hc).mono fun v w'' h => ⟨h.2, h.1⟩
variable {ms : List Nat} {w0 : World} {bs : List Blk}
theorem gL_ (zk : ∀ v w, pv v w → v = (sp k0).f []) (S : ∀ w', Ch es w w' → St ms w0 bs w') (j b off : Nat) {x : Operand} {ty : TypeId} (ho : o.op = .load ty x := by rfl) (hs : okG k0 l sp i o = true := by kernel_rfl) (hx : envE (envOf l sp a0 o) x = .pointer (some ⟨b, off, none⟩) := by kernel_rfl)
    (ha : (P.underlying ty).map aggD = some false := by kernel_rfl) (hb : lk bs j off = some (b, (sp i).f []) := by kernel_rfl) : EStepOk P k0 pre es (HQ k0 pv sp w.heap.size) lf l (yof a0) w i o :=
  g_step zk hs fun w' hc => Y.load1_ (S w' hc) j _ b off ⟨Ch.refl _ _, rfl⟩ ho hx ha hb
theorem gN_ (zk : ∀ v w, pv v w → v = (sp k0).f []) (S : ∀ w', Ch es w w' → St ms w0 bs w') (j b off n : Nat) (vs : Array Value) {x : Operand} {ty : TypeId} (ho : o.op = .load ty x := by rfl) (hv : (sp i).f [] = .agg vs := by kernel_rfl) (hs : okG k0 l sp i o = true := by kernel_rfl) (hx : envE (envOf l sp a0 o) x = .pointer (some ⟨b, off, none⟩) := by kernel_rfl)
    (ha : (P.underlying ty).map aggD = some true := by kernel_rfl) (hn : (P.info? ty).map (·.size) = some n := by kernel_rfl) (hb : lkN bs j off n = some (b, vs) := by kernel_rfl) : EStepOk P k0 pre es (HQ k0 pv sp w.heap.size) lf l (yof a0) w i o :=
  g_step zk hs fun w' hc => Y.loadN_ (S w' hc) j n vs b off ⟨Ch.refl _ _, hv.symm⟩ ho hx ha hn hb
theorem gK_ {A bl R : List Blk} {val : Value} {Q : List Blk → Prop} (S : St ms w0 (A ++ (bl ++ R)) w) (f : FuncId) (args : Array Value)
    (hg : ∀ w', St (bl.map Blk.id) w' bl w' → Gives P f args w' fun v w'' => ∃ bl', v = val ∧ Q bl' ∧ St (bl.map Blk.id) w' bl' w'')
    (he : Nat.beq i k0 = true := by kernel_rfl) (hs : slotsE k0 l sp i o = true := by kernel_rfl) (h : (fun w => (execOp (envE (envOf l sp a0 o)) o).run P w) = (fun w => .ok (.enter f args) w) := by kernel_rfl) :
    EStepOk P k0 pre (bl.map Blk.id) (HQ k0 (pvC val Q bl w.heap.size) sp w.heap.size) lf l (yof a0) w i o := by
  refine e_step0 he hs fun w' hc => ?_
  have h2 : (execOp (envE (envOf l sp a0 o)) o).run P w' = .ok (.enter f args) w' := congrFun h w'
  unfold Yields
  rw [h2]
  have Sq := S.quiet hc
  have S1 : St (bl.map Blk.id) w' bl w' := St.mk' (Ch.refl _ _) (fun x hx => Sq.at' (by simp [hx])) (fun x hx _ => .inl (List.mem_map_of_mem hx)) (by
    have := Sq.pw
    rw [List.pairwise_append, List.pairwise_append] at this
    exact this.2.1.1)
  refine (hg w' S1).mono fun v w'' ⟨bl', hv, hQ, S2⟩ => ⟨S2.ch, hv, bl', hQ, fun y hy => ⟨S2.at' hy, fun hw => ?_⟩, S2.pw⟩
  rcases S2.own' hy hw with h | h
  · obtain ⟨u, hu, e⟩ := List.mem_map.1 h
    exact .inl ⟨u, hu, e.symm⟩
  · exact .inr (Nat.le_trans hc.size h)
end
section
variable {P : Program} {a0 : Act} {w w0 : World} {Q : Exit → Act → World → Prop} {id : Nat} {L : List Oper} {ms : List Nat}
theorem callE_ {A bl R : List Blk} (S : St ms w0 (A ++ (bl ++ R)) w) (hwr : ∀ x ∈ bl, x.wr = true) (C : List Blk → Prop) (hC : ∀ bl', C bl' → ∀ x ∈ bl', x.wr = true) (val : Value) (m k0 : Nat) (pre : List (List Nat)) (vals : List Value) (paths : List (List Nat))
    (hs : ∀ (zk : ∀ v w', pvC val C bl w.heap.size v w' → v = (spl (vals.map s0) k0).f []) (zD : ∀ w', Ch (bl.map Blk.id) w w' → St ms w0 (A ++ R) w'), EStepAll P k0 pre (bl.map Blk.id) (HQ k0 (pvC val C bl w.heap.size) (spl (vals.map s0)) w.heap.size) L (L.take m) (yof a0) w 0 (L.take m))
    (hq : ∀ bl' w', C bl' → St ms w0 (A ++ (bl' ++ R)) w' → WL P L.toArray Q (L.drop m) (putsL vals (L.take m) a0) w')
    (hv : vals[k0]? = some val := by rfl) (hvl : vals.length = m := by kernel_rfl) (hpre : preOk (L.take m) k0 pre = true := by kernel_rfl)
    (hm : P.follows .mixedOrders = true := by kernel_rfl) (hl : Nat.ble m L.length = true := by kernel_rfl) (ht : tailOk L m paths = true := by kernel_rfl) (hdst : dstsOkE a0.tmps.size (L.take m) = true := by kernel_rfl) (hedge : edgesOk 0 L = true := by kernel_rfl) : (Code.region id L.toArray true).wp P Q a0 w := by
  have hml : (L.take m).length = m := by have := Nat.le_of_ble_eq_true hl; simp; omega
  have hk0 : k0 < m := by
    rcases Nat.lt_or_ge k0 vals.length with h | h
    · omega
    · simp [h] at hv
  have hspv : ∀ i u, vals[i]? = some u → spl (vals.map s0) i = s0 u := fun i u hu => by
    unfold spl
    rw [List.getD_eq_getElem?_getD, List.getElem?_map, hu]; rfl
  have zk : ∀ v w', pvC val C bl w.heap.size v w' → v = (spl (vals.map s0) k0).f [] := fun v w' h => by rw [hspv k0 val hv]; exact h.1
  refine quietE_ m k0 pre (bl.map Blk.id) (pvC val C bl w.heap.size) vals paths _ hpre (fun v w1 w2 hc h => pvC.stab h hc) ?_ (hs zk (fun w' hc => S.less hwr hc)) ?_ hm hl ht hdst hedge
  · intro x hx
    obtain ⟨y, hy, rfl⟩ := List.mem_map.1 hx
    exact S.ge (by simp [hy])
  · intro vs w' hc hall
    have hK := hall k0 hk0
    unfold HQ at hK
    rw [show Nat.beq k0 k0 = true from Nat.beq_refl k0] at hK
    obtain ⟨hv0, bl', hCb, hat, hpw⟩ := hK
    have S2 := S.redo hwr hc (fun y hy => (hat y hy).1) (fun y hy => (hat y hy).2 (hC bl' hCb y hy)) hpw
    have hp : putsAll vs 0 (L.take m) a0 = putsL vals (L.take m) a0 := putsE_eq (by omega) fun i o u ho hu => by
      have hi : i < m := by
        rcases Nat.lt_or_ge i vals.length with h | h
        · omega
        · simp [h] at hu
      refine .inr ?_
      rw [Nat.zero_add]
      by_cases hik : i = k0
      · subst hik
        rw [hv] at hu
        rw [hv0]; exact Option.some.inj hu
      · have hH := hall i hi
        unfold HQ at hH
        have hne : Nat.beq i k0 = false := by
          cases hx : Nat.beq i k0
          · rfl
          · exact absurd (Nat.eq_of_beq_eq_true hx) hik
        rw [hne] at hH
        obtain ⟨ids, h1, h2, _⟩ := hH
        rw [hspv i u hu] at h1 h2
        obtain rfl : ids = [] := List.eq_nil_of_length_eq_zero (by simpa [s0] using h1)
        rw [h2]; rfl
    rw [hp]
    exact hq bl' w' hCb S2
end
end Sx
namespace Sx
open Go Go.RowKit Go.BigFrame
def cat (segs : List (List Blk)) (R : List Blk) : List Blk := segs.foldr (· ++ ·) R
theorem cat_eq (segs : List (List Blk)) (R : List Blk) : cat segs R = segs.flatten ++ R := by
  induction segs with
  | nil => rfl
  | cons a l ih => simp [cat] at ih ⊢; exact ih
def segP (n : Nat) (is : List Nat) : Bool := is.all (fun i => Nat.blt i n) && natNodup is
where natNodup : List Nat → Bool
  | [] => true
  | i :: l => !(l.any (Nat.beq i)) && natNodup l
theorem natNodup_iff : ∀ {l : List Nat}, segP.natNodup l = true → l.Nodup
  | [], _ => List.nodup_nil
  | i :: l, h => by
    simp only [segP.natNodup, Bool.and_eq_true, Bool.not_eq_true'] at h
    refine List.nodup_cons.2 ⟨fun hm => ?_, natNodup_iff h.2⟩
    have : l.any (Nat.beq i) = true := List.any_eq_true.2 ⟨i, hm, by simp⟩
    rw [this] at h; exact absurd h.1 (by simp)
section
variable {ms : List Nat} {w0 w : World}
theorem sub_perm : ∀ (is l : List Nat), is.Nodup → (∀ i ∈ is, i ∈ l) → ∃ r, l.Perm (is ++ r)
  | [], l, _, _ => ⟨l, List.Perm.refl _⟩
  | i :: is, l, hn, hm => by
    have hn' := List.nodup_cons.1 hn
    obtain ⟨r, hr⟩ := sub_perm is (l.erase i) hn'.2 (fun j hj => (List.mem_erase_of_ne (fun e => hn'.1 (by rw [← e]; exact hj))).2 (hm j (by simp [hj])))
    exact ⟨r, (List.perm_cons_erase (hm i (by simp))).trans (by simpa using hr.cons i)⟩
theorem sub_idx {α : Type} (segs : List α) (d : α) (is : List Nat) (hn : is.Nodup) (hlt : ∀ i ∈ is, i < segs.length) : ∃ rest, segs.Perm (is.map (fun i => segs.getD i d) ++ rest) := by
  have hr : (List.range segs.length).map (fun i => segs.getD i d) = segs := by
    apply List.ext_getElem
    · simp
    · intro i h1 h2
      simp [List.getD_eq_getElem?_getD, h2]
  obtain ⟨r, hr2⟩ := sub_perm is (List.range segs.length) hn (fun i hi => List.mem_range.2 (hlt i hi))
  refine ⟨r.map fun i => segs.getD i d, ?_⟩
  rw [← List.map_append]
  have := hr2.map (fun i => segs.getD i d)
  rwa [hr] at this
theorem St.re {bs bs' R : List Blk} (S : St ms w0 bs w) (segs : List (List Blk)) (is : List Nat) (h1 : bs = cat segs R := by kernel_rfl) (h2 : segP segs.length is = true := by kernel_rfl) (h3 : cat (is.map fun i => segs.getD i []) R = bs' := by kernel_rfl) : St ms w0 bs' w := by
  subst h1 h3
  simp only [segP, Bool.and_eq_true] at h2
  obtain ⟨rest, hp⟩ := sub_idx segs [] is (natNodup_iff h2.2) (fun i hi => by have := List.all_eq_true.1 h2.1 i hi; unfold Nat.blt at this; exact Nat.le_of_ble_eq_true this)
  rw [cat_eq] at S ⊢
  have h4 : St ms w0 ((is.map fun i => segs.getD i []).flatten ++ (rest.flatten ++ R)) w := S.perm (by
    rw [← List.append_assoc, ← List.flatten_append]
    exact List.Perm.append_right R hp.flatten)
  exact h4.sub (List.Sublist.append_left (List.sublist_append_right _ _) _)
theorem St.front {bs A B R : List Blk} (S : St ms w0 bs w) (segs : List (List Blk)) (is js : List Nat) (h1 : bs = cat segs R := by kernel_rfl) (h2 : segP segs.length (is ++ js) = true := by kernel_rfl) (h3 : cat (is.map fun i => segs.getD i []) (cat (js.map fun i => segs.getD i []) R) = A ++ (B ++ R) := by kernel_rfl) : St ms w0 (A ++ (B ++ R)) w := by
  rw [← h3]
  have := S.re (bs' := cat ((is ++ js).map fun i => segs.getD i []) R) segs (is ++ js) h1 h2 rfl
  simpa [cat, List.foldr_append] using this
end
end Sx
namespace Sx
open Go Go.RowKit Go.BigFrame
def tyO : Obj → Option TypeId
  | .cells _ t _ => some t
  | _ => none
def sA (obj : Obj) : Sp := ⟨1, fun ids => .pointer (some ⟨ids.getD 0 0, 0, none⟩), fun ids => [(ids.getD 0 0, obj)]⟩
inductive VX where
  | v (x : Value)
  | a (obj : Obj)
def VX.sp : VX → Sp
  | .v x => s0 x
  | .a o => sA o
def VX.val (id : Nat) : VX → Value
  | .v x => x
  | .a _ => .pointer (some ⟨id, 0, none⟩)
def valsX (ids : Nat → Nat) : Nat → List VX → List Value
  | _, [] => []
  | i, x :: xs => x.val (ids i) :: valsX ids (i + 1) xs
def newX (ids : Nat → Nat) : Nat → List VX → List Blk
  | _, [] => []
  | i, .v _ :: xs => newX ids (i + 1) xs
  | i, .a o :: xs => ⟨ids i, true, o⟩ :: newX ids (i + 1) xs
def tysX : List VX → List (Option TypeId)
  | [] => []
  | .v _ :: xs => tysX xs
  | .a o :: xs => tyO o :: tysX xs
def tyNd : List (Option TypeId) → Bool
  | [] => true
  | none :: _ => false
  | some t :: l => (l.all fun x => match x with | some u => !(Nat.beq u t) | none => false) && tyNd l
theorem tyNd_some : ∀ {l : List (Option TypeId)}, tyNd l = true → ∀ x ∈ l, x ≠ none
  | none :: _, h, _, _ => by simp [tyNd] at h
  | some t :: l, h, x, hx => by
    simp only [tyNd, Bool.and_eq_true] at h
    rcases List.mem_cons.1 hx with rfl | hx
    · simp
    · exact tyNd_some h.2 x hx
theorem tyNd_head {t : TypeId} {l : List (Option TypeId)} (h : tyNd (some t :: l) = true) : ∀ x ∈ l, x ≠ some t := by
  simp only [tyNd, Bool.and_eq_true] at h
  intro x hx e
  have := List.all_eq_true.1 h.1 x hx
  subst e
  simp at this
theorem mem_newX {ids : Nat → Nat} : ∀ {xs : List VX} {i : Nat} {y : Blk}, y ∈ newX ids i xs → ∃ j o, xs[j]? = some (.a o) ∧ y = ⟨ids (i + j), true, o⟩
  | [], _, y, h => by simp [newX] at h
  | .v _ :: xs, i, y, h => by
    obtain ⟨j, o, h1, h2⟩ := mem_newX (show y ∈ newX ids (i + 1) xs from h)
    exact ⟨j + 1, o, by simpa using h1, by rw [h2, show i + 1 + j = i + (j + 1) by omega]⟩
  | .a o :: xs, i, y, h => by
    rcases List.mem_cons.1 (show y ∈ ⟨ids i, true, o⟩ :: newX ids (i + 1) xs from h) with rfl | h
    · exact ⟨0, o, rfl, rfl⟩
    · obtain ⟨j, o, h1, h2⟩ := mem_newX h
      exact ⟨j + 1, o, by simpa using h1, by rw [h2, show i + 1 + j = i + (j + 1) by omega]⟩
theorem ty_newX {ids : Nat → Nat} {xs : List VX} : ∀ {i : Nat} {y : Blk}, y ∈ newX ids i xs → tyO y.obj ∈ tysX xs := by
  induction xs with
  | nil => intro i y h; simp [newX] at h
  | cons x xs ih =>
    intro i y h
    cases x with
    | v x => exact ih (show y ∈ newX ids (i + 1) xs from h)
    | a o =>
      rcases List.mem_cons.1 (show y ∈ ⟨ids i, true, o⟩ :: newX ids (i + 1) xs from h) with rfl | h
      · simp [tysX]
      · simp [tysX, ih h]
theorem get_valsX {ids : Nat → Nat} (xs : List VX) : ∀ {i k : Nat} {u : Value}, (valsX ids i xs)[k]? = some u → ∃ x, xs[k]? = some x ∧ u = x.val (ids (i + k)) := by
  induction xs with
  | nil => intro i k u h; simp [valsX] at h
  | cons x xs ih =>
    intro i k u h
    cases k with
    | zero => exact ⟨x, rfl, by simpa [valsX] using h.symm⟩
    | succ k =>
      obtain ⟨y, h1, h2⟩ := ih (show (valsX ids (i + 1) xs)[k]? = some u by simpa [valsX] using h)
      exact ⟨y, by simpa using h1, by rw [h2, show i + 1 + k = i + (k + 1) by omega]⟩
theorem len_valsX {ids : Nat → Nat} : ∀ {xs : List VX} {i : Nat}, (valsX ids i xs).length = xs.length
  | [], _ => rfl
  | x :: xs, i => by simp [valsX, len_valsX (xs := xs)]
section
variable {ms : List Nat} {w0 w : World} {bs : List Blk}
theorem St.addX (S : St ms w0 bs w) (xs : List VX) (ids : Nat → Nat) (i : Nat) (hnd : tyNd (tysX xs) = true) {B : Nat} (hB : w0.heap.size ≤ B)
    (hat : ∀ (j : Nat) o, xs[j]? = some (.a o) → B ≤ ids (i + j) ∧ w.heap[ids (i + j)]? = some o) (hold : ∀ x ∈ bs, (x.id < B ∨ ∀ y ∈ newX ids i xs, tyO x.obj ≠ tyO y.obj)) : St ms w0 (newX ids i xs ++ bs) w := by
  have hn : ∀ y ∈ newX ids i xs, B ≤ y.id ∧ w.heap[y.id]? = some y.obj := fun y hy => by
    obtain ⟨j, o, h1, rfl⟩ := mem_newX hy
    exact hat j o h1
  refine St.mk' S.ch (fun x hx => ?_) (fun x hx hw => ?_) ?_
  · rcases List.mem_append.1 hx with h | h
    · exact (hn x h).2
    · exact S.at' h
  · rcases List.mem_append.1 hx with h | h
    · exact .inr (Nat.le_trans hB (hn x h).1)
    · exact S.own' h hw
  · rw [List.pairwise_append]
    refine ⟨?_, S.pw, fun x hx y hy _ e => ?_⟩
    · have key : ∀ (xs : List VX) (i : Nat), tyNd (tysX xs) = true → (∀ y ∈ newX ids i xs, w.heap[y.id]? = some y.obj) → (newX ids i xs).Pairwise clash := by
        intro xs
        induction xs with
        | nil => intro i _ _; simp [newX]
        | cons x xs ih =>
          intro i hnd hat
          cases x with
          | v x => exact ih (i + 1) hnd hat
          | a o =>
            refine List.pairwise_cons.2 ⟨fun y hy _ e => ?_, ?_⟩
            · have h1 := hat ⟨ids i, true, o⟩ (by simp [newX])
              have h2 := hat y (by simp [newX, hy])
              simp only at h1 e
              rw [e] at h1
              have h3 : o = y.obj := by rw [h1] at h2; simpa using h2
              have ht := ty_newX hy
              cases hto : tyO o with
              | none => exact tyNd_some hnd _ (by simp [tysX, hto]) rfl
              | some t =>
                simp only [tysX, hto] at hnd
                exact tyNd_head hnd _ ht (by rw [← h3, hto])
            · refine ih (i + 1) ?_ (fun y hy => hat y (by simp [newX, hy]))
              cases hto : tyO o with
              | none => simp [tysX, hto, tyNd] at hnd
              | some t => simp only [tysX, hto, tyNd, Bool.and_eq_true] at hnd; exact hnd.2
      exact key xs i hnd (fun y hy => (hn y hy).2)
    · have h1 := hn x hx
      have h2 := S.at' hy
      rcases hold y hy with h | h
      · omega
      · rw [e] at h1
        have h3 : x.obj = y.obj := by rw [h1.2] at h2; simpa using h2
        exact h x hx (by rw [h3])
end
section
variable {P : Program} {lf l : List Oper} {sp : Nat → Sp} {a0 : Act} {w : World} {i k0 : Nat} {pre : List (List Nat)} {o : Oper} {es : List Nat} {pv : Value → World → Prop}
theorem gA_ (zk : ∀ v w, pv v w → v = (sp k0).f []) (obj : Obj) (hsp : sp i = sA obj := by rfl) (hne : Nat.beq i k0 = false := by kernel_rfl) (hs : slotsG l sp i o = true := by kernel_rfl)
    (h : (fun w => (execOp (envE (envOf l sp a0 o)) o).run P w) = (fun w => .ok (.value (.pointer (some ⟨w.heap.size, 0, none⟩))) (w.alloc obj)) := by kernel_rfl) :
    EStepOk P k0 pre es (HQ k0 pv sp w.heap.size) lf l (yof a0) w i o := by
  intro y w' _ hc hfree hpre
  obtain ⟨hag, hin, hg⟩ := g_env zk hs hfree hpre
  have hik : i ≠ k0 := fun e => by rw [e] at hne; simp at hne
  refine ⟨fun _ => ?_, fun hw => by simp [wantedY, hg] at hw⟩
  refine yenv _ hag ?_ hin
  have h2 : (execOp (envE (envOf l sp a0 o)) o).run P w' = _ := congrFun h w'
  unfold Yields
  rw [h2]
  refine ⟨fun e => absurd e hik, fun _ => Ch.alloc _ _ _, ?_⟩
  unfold HQ
  rw [hne, hsp]
  refine ⟨[w'.heap.size], rfl, rfl, fun p hp => ?_⟩
  obtain rfl := List.mem_singleton.1 hp
  exact ⟨hc.size, heap_alloc_new w' _⟩
theorem g_stepP (zk : ∀ v w, pv v w → v = (sp k0).f []) (hp : preB pre i = true) (hs : okG k0 l sp i o = true) (h : ∀ w', Ch [] w w' → Yields P o (envE (envOf l sp a0 o)) w' fun v w'' => Ch [] w' w'' ∧ v = (sp i).f []) :
    EStepOk P k0 pre es (HQ k0 pv sp w.heap.size) lf l (yof a0) w i o := by
  intro y w' hc0 hc hfree hpre
  obtain ⟨hne, hk, hb, hs⟩ := okG_out hs
  obtain ⟨hag, hin, hg⟩ := g_env zk hs hfree hpre
  have hik : i ≠ k0 := fun e => by rw [e] at hne; simp at hne
  have hH : ∀ v w'', v = (sp i).f [] → HQ k0 pv sp w.heap.size i v w'' := fun v w'' e => by
    unfold HQ; rw [hne]; exact ⟨[], by simp [hk], e, by rw [hb]; simp⟩
  refine ⟨fun _ => ?_, fun hw => by simp [wantedY, hg] at hw⟩
  refine yenv _ hag ?_ hin
  have := h w' (hc0 (.inr hp))
  unfold Yields at this ⊢
  split at this
  · exact ⟨fun e' => absurd e' hik, fun _ => this.1, hH _ _ this.2⟩
  · exact ⟨fun e' => absurd e' hik, fun _ => this.1, hH _ _ this.2⟩
  · exact this.mono fun v w'' h => ⟨fun e' => absurd e' hik, fun _ => h.1, hH _ _ h.2⟩
  · exact this.elim
variable {ms : List Nat} {w0 : World} {bs : List Blk}
theorem gLp_ (zk : ∀ v w, pv v w → v = (sp k0).f []) (S : St ms w0 bs w) (j b off : Nat) {x : Operand} {ty : TypeId} (ho : o.op = .load ty x := by rfl) (hp : preB pre i = true := by kernel_rfl) (hs : okG k0 l sp i o = true := by kernel_rfl) (hx : envE (envOf l sp a0 o) x = .pointer (some ⟨b, off, none⟩) := by kernel_rfl)
    (ha : (P.underlying ty).map aggD = some false := by kernel_rfl) (hb : lk bs j off = some (b, (sp i).f []) := by kernel_rfl) : EStepOk P k0 pre es (HQ k0 pv sp w.heap.size) lf l (yof a0) w i o :=
  g_stepP zk hp hs fun w' hc => Y.load1_ (S.quiet hc) j _ b off ⟨Ch.refl _ _, rfl⟩ ho hx ha hb
theorem gNp_ (zk : ∀ v w, pv v w → v = (sp k0).f []) (S : St ms w0 bs w) (j b off n : Nat) (vs : Array Value) {x : Operand} {ty : TypeId} (ho : o.op = .load ty x := by rfl) (hp : preB pre i = true := by kernel_rfl) (hv : (sp i).f [] = .agg vs := by kernel_rfl) (hs : okG k0 l sp i o = true := by kernel_rfl) (hx : envE (envOf l sp a0 o) x = .pointer (some ⟨b, off, none⟩) := by kernel_rfl)
    (ha : (P.underlying ty).map aggD = some true := by kernel_rfl) (hn : (P.info? ty).map (·.size) = some n := by kernel_rfl) (hb : lkN bs j off n = some (b, vs) := by kernel_rfl) : EStepOk P k0 pre es (HQ k0 pv sp w.heap.size) lf l (yof a0) w i o :=
  g_stepP zk hp hs fun w' hc => Y.loadN_ (S.quiet hc) j n vs b off ⟨Ch.refl _ _, hv.symm⟩ ho hx ha hn hb
theorem gCp_ (zk : ∀ v w, pv v w → v = (sp k0).f []) (f : FuncId) (args : Array Value) (hg : ∀ w', Ch [] w w' → Gives P f args w' fun v w'' => v = (sp i).f [] ∧ Ch [] w' w'') (hp : preB pre i = true := by kernel_rfl) (hs : okG k0 l sp i o = true := by kernel_rfl) (h : (fun w => (execOp (envE (envOf l sp a0 o)) o).run P w) = (fun w => .ok (.enter f args) w) := by kernel_rfl) : EStepOk P k0 pre es (HQ k0 pv sp w.heap.size) lf l (yof a0) w i o := by
  refine g_stepP zk hp hs fun w' hc => ?_
  have h2 : (execOp (envE (envOf l sp a0 o)) o).run P w' = .ok (.enter f args) w' := congrFun h w'
  unfold Yields
  rw [h2]
  exact (hg w' hc).mono fun v w'' h => ⟨h.2, h.1⟩
theorem gKX_ {A bl R : List Blk} {val : Value} {Q : List Blk → Prop} (S : St ms w0 (A ++ (bl ++ R)) w) (f : FuncId) (args : Array Value)
    (hg : ∀ w', Ch [] w w' → St (bl.map Blk.id) w' bl w' → Gives P f args w' fun v w'' => ∃ bl', v = val ∧ Q bl' ∧ St (bl.map Blk.id) w' bl' w'')
    (he : Nat.beq i k0 = true := by kernel_rfl) (hs : slotsE k0 l sp i o = true := by kernel_rfl) (h : (fun w => (execOp (envE (envOf l sp a0 o)) o).run P w) = (fun w => .ok (.enter f args) w) := by kernel_rfl) :
    EStepOk P k0 pre (bl.map Blk.id) (HQ k0 (pvC val Q bl w.heap.size) sp w.heap.size) lf l (yof a0) w i o := by
  refine e_step0 he hs fun w' hc => ?_
  have h2 : (execOp (envE (envOf l sp a0 o)) o).run P w' = .ok (.enter f args) w' := congrFun h w'
  unfold Yields
  rw [h2]
  have Sq := S.quiet hc
  have S1 : St (bl.map Blk.id) w' bl w' := St.mk' (Ch.refl _ _) (fun x hx => Sq.at' (by simp [hx])) (fun x hx _ => .inl (List.mem_map_of_mem hx)) (by
    have := Sq.pw
    rw [List.pairwise_append, List.pairwise_append] at this
    exact this.2.1.1)
  refine (hg w' hc S1).mono fun v w'' ⟨bl', hv, hQ, S2⟩ => ⟨S2.ch, hv, bl', hQ, fun y hy => ⟨S2.at' hy, fun hw => ?_⟩, S2.pw⟩
  rcases S2.own' hy hw with h | h
  · obtain ⟨u, hu, e⟩ := List.mem_map.1 h
    exact .inl ⟨u, hu, e.symm⟩
  · exact .inr (Nat.le_trans hc.size h)
end
section
variable {P : Program} {a0 : Act} {w w0 : World} {Q : Exit → Act → World → Prop} {id : Nat} {L : List Oper} {ms : List Nat}
theorem callX_ {A bl R : List Blk} (S : St ms w0 (A ++ (bl ++ R)) w) (hwr : ∀ x ∈ bl, x.wr = true) (C : List Blk → Prop) (hC : ∀ bl', C bl' → ∀ x ∈ bl', x.wr = true) (val : Value) (m k0 : Nat) (pre : List (List Nat)) (xs : List VX)
    (hT : ∀ bl', C bl' → ∀ x ∈ bl', ∀ t ∈ tysX xs, tyO x.obj ≠ t) (paths : List (List Nat))
    (hs : ∀ (zk : ∀ v w', pvC val C bl w.heap.size v w' → v = (spl (xs.map VX.sp) k0).f []) (zD : ∀ w', Ch (bl.map Blk.id) w w' → St ms w0 (A ++ R) w'), EStepAll P k0 pre (bl.map Blk.id) (HQ k0 (pvC val C bl w.heap.size) (spl (xs.map VX.sp)) w.heap.size) L (L.take m) (yof a0) w 0 (L.take m))
    (hq : ∀ (ids : Nat → Nat) bl' w', C bl' → St ms w0 (newX ids 0 xs ++ (A ++ (bl' ++ R))) w' → WL P L.toArray Q (L.drop m) (putsL (valsX ids 0 xs) (L.take m) a0) w')
    (hv : xs[k0]? = some (.v val) := by rfl) (hvl : xs.length = m := by kernel_rfl) (hnd : tyNd (tysX xs) = true := by kernel_rfl) (hpre : preOk (L.take m) k0 pre = true := by kernel_rfl)
    (hm : P.follows .mixedOrders = true := by kernel_rfl) (hl : Nat.ble m L.length = true := by kernel_rfl) (ht : tailOk L m paths = true := by kernel_rfl) (hdst : dstsOkE a0.tmps.size (L.take m) = true := by kernel_rfl) (hedge : edgesOk 0 L = true := by kernel_rfl) : (Code.region id L.toArray true).wp P Q a0 w := by
  have hml : (L.take m).length = m := by have := Nat.le_of_ble_eq_true hl; simp; omega
  have hk0 : k0 < m := by
    rcases Nat.lt_or_ge k0 xs.length with h | h
    · omega
    · simp [h] at hv
  have hspv : ∀ i u, xs[i]? = some u → spl (xs.map VX.sp) i = u.sp := fun i u hu => by
    unfold spl
    rw [List.getD_eq_getElem?_getD, List.getElem?_map, hu]; rfl
  have zk : ∀ v w', pvC val C bl w.heap.size v w' → v = (spl (xs.map VX.sp) k0).f [] := fun v w' h => by rw [hspv k0 _ hv]; exact h.1
  refine quietE_ m k0 pre (bl.map Blk.id) (pvC val C bl w.heap.size) [] paths _ hpre (fun v w1 w2 hc h => pvC.stab h hc) ?_ (hs zk (fun w' hc => S.less hwr hc)) ?_ hm hl ht hdst hedge
  · intro x hx
    obtain ⟨y, hy, rfl⟩ := List.mem_map.1 hx
    exact S.ge (by simp [hy])
  · intro vs w' hc hall
    have hK := hall k0 hk0
    unfold HQ at hK
    rw [show Nat.beq k0 k0 = true from Nat.beq_refl k0] at hK
    obtain ⟨hv0, bl', hCb, hat, hpw⟩ := hK
    have S2 := S.redo hwr hc (fun y hy => (hat y hy).1) (fun y hy => (hat y hy).2 (hC bl' hCb y hy)) hpw
    have hid : ∀ i : Nat, ∃ d : Nat, ∀ o, xs[i]? = some (.a o) → vs i = .pointer (some ⟨d, 0, none⟩) ∧ w.heap.size ≤ d ∧ w'.heap[d]? = some o := by
      intro i
      cases hx : xs[i]? with
      | none => exact ⟨0, fun o h => by cases h⟩
      | some x =>
        cases x with
        | v x => exact ⟨0, fun o h => by cases h⟩
        | a o =>
          have hi : i < m := by
            rcases Nat.lt_or_ge i xs.length with h | h
            · omega
            · simp [h] at hx
          have hH := hall i hi
          unfold HQ at hH
          have hne : Nat.beq i k0 = false := by
            cases hb : Nat.beq i k0
            · rfl
            · have := Nat.eq_of_beq_eq_true hb; subst this; rw [hv] at hx; cases hx
          rw [hne] at hH
          obtain ⟨l, h1, h2, h3⟩ := hH
          rw [hspv i _ hx] at h1 h2 h3
          refine ⟨l.getD 0 0, fun o' ho' => ?_⟩
          obtain rfl : o = o' := by simpa using ho'
          have h4 := h3 (l.getD 0 0, o) (by simp [VX.sp, sA])
          exact ⟨h2, h4.1, h4.2⟩
    have hids : ∃ ids : Nat → Nat, ∀ i o, xs[i]? = some (.a o) → vs i = .pointer (some ⟨ids i, 0, none⟩) ∧ w.heap.size ≤ ids i ∧ w'.heap[ids i]? = some o := by
      refine ⟨fun i => Classical.choose (hid i), fun i o ho => ?_⟩
      exact Classical.choose_spec (hid i) o ho
    obtain ⟨ids, hids⟩ := hids
    have S3 : St ms w0 (newX ids 0 xs ++ (A ++ (bl' ++ R))) w' := by
      refine S2.addX xs ids 0 hnd (B := w.heap.size) S.ch.size (fun j o hj => by rw [Nat.zero_add]; exact (hids j o hj).2) (fun x hx => ?_)
      have hlt : ∀ x, x ∈ A ∨ x ∈ R → x.id < w.heap.size := fun x h => S.ge (by rcases h with h | h <;> simp [h])
      rcases List.mem_append.1 hx with h | h
      · exact .inl (hlt x (.inl h))
      · rcases List.mem_append.1 h with h | h
        · exact .inr fun y hy => hT bl' hCb x h _ (ty_newX hy)
        · exact .inl (hlt x (.inr h))
    have hp : putsAll vs 0 (L.take m) a0 = putsL (valsX ids 0 xs) (L.take m) a0 := putsE_eq (by rw [len_valsX]; omega) fun i o u ho hu => by
      obtain ⟨x, hx, rfl⟩ := get_valsX xs hu
      have hi : i < m := by
        rcases Nat.lt_or_ge i xs.length with h | h
        · omega
        · simp [h] at hx
      refine .inr ?_
      rw [Nat.zero_add]
      cases x with
      | a o => exact (hids i o hx).1
      | v x =>
        by_cases hik : i = k0
        · subst hik
          rw [hv] at hx
          rw [hv0]; simpa [VX.val] using hx
        · have hH := hall i hi
          unfold HQ at hH
          have hne : Nat.beq i k0 = false := by
            cases hb : Nat.beq i k0
            · rfl
            · exact absurd (Nat.eq_of_beq_eq_true hb) hik
          rw [hne] at hH
          obtain ⟨l, h1, h2, _⟩ := hH
          rw [hspv i _ hx] at h1 h2
          obtain rfl : l = [] := List.eq_nil_of_length_eq_zero (by simpa [VX.sp, s0] using h1)
          rw [h2]; rfl
    rw [hp]
    exact hq ids bl' w' hCb S3
end
end Sx
namespace Sx
open Go Go.RowKit Go.BigFrame
theorem cat_split (segs : List (List Blk)) (R : List Blk) : cat segs R = cat segs [] ++ R := by
  induction segs with
  | nil => rfl
  | cons a l ih => show a ++ cat l R = (a ++ cat l []) ++ R; rw [ih, List.append_assoc]
section
variable {ms : List Nat} {w0 w : World}
theorem St.split {A B R bs : List Blk} (S : St ms w0 bs w) (segs : List (List Blk)) (h1 : bs = A ++ cat segs R := by kernel_rfl) (h2 : cat segs [] = B := by kernel_rfl) : St ms w0 (A ++ (B ++ R)) w := by
  subst h2; rw [← cat_split, ← h1]; exact S
theorem St.unsplit {N A B R bs : List Blk} (S : St ms w0 (N ++ (A ++ (B ++ R))) w) (segs : List (List Blk)) (h1 : B = cat segs [] := by kernel_rfl) (h2 : N ++ (A ++ cat segs R) = bs := by kernel_rfl) : St ms w0 bs w := by
  subst h1; rw [← cat_split, h2] at S; exact S
end
section
variable {P : Program} {lf l : List Oper} {sp : Nat → Sp} {a0 : Act} {w : World} {i k0 : Nat} {pre : List (List Nat)} {o : Oper} {es : List Nat} {pv : Value → World → Prop}
variable {ms : List Nat} {w0 : World} {bs : List Blk}
theorem gKR_ {ro A bl R : List Blk} {val : Value} {Q : List Blk → Prop} (S : St ms w0 ((ro ++ A) ++ (bl ++ R)) w) (hro : ∀ x ∈ ro, x.wr = false) (f : FuncId) (args : Array Value)
    (hg : ∀ w', St (bl.map Blk.id) w' (ro ++ bl) w' → Gives P f args w' fun v w'' => ∃ bl', v = val ∧ Q bl' ∧ St (bl.map Blk.id) w' (ro ++ bl') w'')
    (he : Nat.beq i k0 = true := by kernel_rfl) (hs : slotsE k0 l sp i o = true := by kernel_rfl) (h : (fun w => (execOp (envE (envOf l sp a0 o)) o).run P w) = (fun w => .ok (.enter f args) w) := by kernel_rfl) :
    EStepOk P k0 pre (bl.map Blk.id) (HQ k0 (pvC val Q bl w.heap.size) sp w.heap.size) lf l (yof a0) w i o := by
  refine e_step0 he hs fun w' hc => ?_
  have h2 : (execOp (envE (envOf l sp a0 o)) o).run P w' = .ok (.enter f args) w' := congrFun h w'
  unfold Yields
  rw [h2]
  have Sq := S.quiet hc
  have S1 : St (bl.map Blk.id) w' (ro ++ bl) w' := St.mk' (Ch.refl _ _) (fun x hx => Sq.at' (by simp at hx ⊢; rcases hx with h | h <;> simp [h])) (fun x hx hw => by
    rcases List.mem_append.1 hx with h | h
    · rw [hro x h] at hw; cases hw
    · exact .inl (List.mem_map_of_mem h)) (by
    have := Sq.pw
    exact this.sublist (List.Sublist.append (List.sublist_append_left _ _) (List.sublist_append_left _ _)))
  refine (hg w' S1).mono fun v w'' ⟨bl', hv, hQ, S2⟩ => ⟨S2.ch, hv, bl', hQ, fun y hy => ⟨S2.at' (by simp [hy]), fun hw => ?_⟩, ?_⟩
  · rcases S2.own' (show y ∈ ro ++ bl' by simp [hy]) hw with h | h
    · obtain ⟨u, hu, e⟩ := List.mem_map.1 h
      exact .inl ⟨u, hu, e.symm⟩
    · exact .inr (Nat.le_trans hc.size h)
  · have := S2.pw
    rw [List.pairwise_append] at this
    exact this.2.1
end
def rowF (kd : IntKind) (n : Nat) (f : Nat → Int) : Array Value := ((List.range n).map fun i => Value.int kd (f i)).toArray
def updF (f : Nat → Int) (i : Nat) (v : Int) : Nat → Int := fun j => bif Nat.beq j i then v else f j
theorem rowF_size (kd : IntKind) (n : Nat) (f : Nat → Int) : (rowF kd n f).size = n := by simp [rowF]
theorem rowF_at (kd : IntKind) {n : Nat} (f : Nat → Int) {i : Nat} (h : i < n) : (rowF kd n f)[i]? = some (.int kd (f i)) := by simp [rowF, h]
theorem updF_eq (f : Nat → Int) (i : Nat) (v : Int) : updF f i v i = v := by simp [updF]
theorem updF_ne (f : Nat → Int) {i j : Nat} (v : Int) (h : j ≠ i) : updF f i v j = f j := by
  have : Nat.beq j i = false := by
    cases hb : Nat.beq j i
    · rfl
    · exact absurd (Nat.eq_of_beq_eq_true hb) h
  simp [updF, this]
theorem rowF_set (kd : IntKind) {n : Nat} (f : Nat → Int) {i : Nat} (h : i < n) (v : Int) : splice (rowF kd n f) i [.int kd v] = rowF kd n (updF f i v) := by
  apply Array.ext'
  show ((rowF kd n f).toList.take i ++ [Value.int kd v] ++ (rowF kd n f).toList.drop (i + 1)) = _
  simp only [rowF]
  apply List.ext_getElem
  · simp; omega
  · intro j h1 h2
    simp only [List.length_append, List.length_take, List.length_map, List.length_range, List.length_drop, List.length_cons, List.length_nil] at h1 h2
    rcases Nat.lt_trichotomy j i with hj | hj | hj
    · rw [List.getElem_append_left (by simp; omega), List.getElem_append_left (by simp; omega)]
      simp [updF_ne _ _ (Nat.ne_of_lt hj)]
    · subst hj
      rw [List.getElem_append_left (by simp; omega), List.getElem_append_right (by simp; omega)]
      simp [updF_eq]
    · rw [List.getElem_append_right (by simp; omega)]
      simp only [List.length_append, List.length_take, List.length_map, List.length_range, List.length_cons, List.length_nil, List.getElem_drop, List.getElem_map, List.getElem_range]
      rw [updF_ne _ _ (by omega)]
      congr 2
      omega
theorem rowF_congr (kd : IntKind) {n : Nat} {f g : Nat → Int} (h : ∀ i, i < n → f i = g i) : rowF kd n f = rowF kd n g := by
  unfold rowF
  congr 1
  apply List.map_congr_left
  intro i hi
  rw [h i (List.mem_range.1 hi)]
section
variable {ms : List Nat} {w0 w : World} {bs : List Blk}
theorem ckF {kd : IntKind} {n : Nat} {f : Nat → Int} {i off b : Nat} {t : TypeId} (ho : off < n) (hb : bs[i]? = some ⟨b, true, .cells (rowF kd n f) t (0, 0)⟩ := by kernel_rfl) : ckS bs i off 1 = some b := by
  have h2 : Nat.ble (off + 1) (rowF kd n f).size = true := by rw [rowF_size]; exact Nat.ble_eq_true_of_le ho
  unfold ckS
  rw [hb]
  simp only [h2]
theorem St.stF {kd : IntKind} {n : Nat} {f : Nat → Int} {i off b : Nat} {t : TypeId} {v : Int} (S : St ms w0 (stb bs i off [.int kd v]) w) (ho : off < n) {bs' : List Blk} (hb : bs[i]? = some ⟨b, true, .cells (rowF kd n f) t (0, 0)⟩ := by kernel_rfl)
    (h2 : bs.set i ⟨b, true, .cells (rowF kd n (updF f off v)) t (0, 0)⟩ = bs' := by kernel_rfl) : St ms w0 bs' w := by
  unfold stb at S
  rw [hb] at S
  simp only at S
  rw [rowF_set kd f ho, h2] at S
  exact S
end
section
variable {P : Program} {lf l : List Oper} {sp : Nat → Sp} {a0 : Act} {w : World} {i k0 : Nat} {pre : List (List Nat)} {o : Oper} {es : List Nat} {pv : Value → World → Prop}
variable {ms : List Nat} {w0 : World} {bs : List Blk}
theorem qLh_ (S : St ms w0 bs w) (j b off : Nat) (hb : lk bs j off = some (b, (sp i).f [])) {x : Operand} {ty : TypeId} (ho : o.op = .load ty x := by rfl) (hs : slotsOk l sp i o = true := by kernel_rfl) (hx : envE (envOf l sp a0 o) x = .pointer (some ⟨b, off, none⟩) := by kernel_rfl)
    (ha : (P.underlying ty).map aggD = some false := by kernel_rfl) : StepOk P lf l sp (yof a0) w i o := qL_ S j b off ho hs hx ha hb
end
end Sx
namespace Sx
open Go Go.RowKit Go.BigFrame
def Wr (bl : List Blk) : Prop := ∀ x ∈ bl, x.wr = true
theorem Wr.nil : Wr [] := fun x h => by cases h
theorem Wr.cons {b : Blk} {l : List Blk} (h : b.wr = true) (k : Wr l) : Wr (b :: l) := fun x hx => by
  rcases List.mem_cons.1 hx with rfl | hx
  · exact h
  · exact k x hx
theorem Wr.app {a b : List Blk} (h : Wr a) (k : Wr b) : Wr (a ++ b) := fun x hx => by
  rcases List.mem_append.1 hx with hx | hx
  · exact h x hx
  · exact k x hx
def Ty (L : List Nat) (bl : List Blk) : Prop := ∀ x ∈ bl, ∃ t, tyO x.obj = some t ∧ t ∈ L
theorem Ty.nil : Ty [] [] := fun x h => by cases h
theorem Ty.cons {b : Blk} {l : List Blk} {t : Nat} {L : List Nat} (h : tyO b.obj = some t) (k : Ty L l) : Ty (t :: L) (b :: l) := fun x hx => by
  rcases List.mem_cons.1 hx with rfl | hx
  · exact ⟨t, h, by simp⟩
  · obtain ⟨u, h1, h2⟩ := k x hx; exact ⟨u, h1, by simp [h2]⟩
theorem Ty.app {a b : List Blk} {L M : List Nat} (h : Ty L a) (k : Ty M b) : Ty (L ++ M) (a ++ b) := fun x hx => by
  rcases List.mem_append.1 hx with hx | hx
  · obtain ⟨u, h1, h2⟩ := h x hx; exact ⟨u, h1, by simp [h2]⟩
  · obtain ⟨u, h1, h2⟩ := k x hx; exact ⟨u, h1, by simp [h2]⟩
def disjT (L : List Nat) (ys : List (Option TypeId)) : Bool := ys.all fun y => match y with | some t => L.all fun u => !(Nat.beq u t) | none => true
theorem Ty.ne {L : List Nat} {bl : List Blk} {ys : List (Option TypeId)} (h : Ty L bl) (hd : disjT L ys = true := by kernel_rfl) : ∀ x ∈ bl, ∀ t ∈ ys, tyO x.obj ≠ t := fun x hx t ht e => by
  obtain ⟨u, h1, h2⟩ := h x hx
  have h3 := List.all_eq_true.1 hd t ht
  rw [h1] at e
  subst e
  simp only at h3
  have h4 := List.all_eq_true.1 h3 u h2
  simp at h4
theorem rowv.ty {z T olds x n c bl} (h : rowv z T olds x n c bl) : Ty [T] bl := by
  rcases h.2.2 with ⟨_, _, _, rfl⟩ | ⟨b, tail, _, rfl, _⟩
  · intro x hx; cases hx
  · exact Ty.cons rfl Ty.nil
end Sx
namespace Sx
open Go Go.RowKit Go.BigFrame
section
variable {P : Program} {a : Act} {w : World} {Q : Exit → Act → World → Prop}
theorem then_j {K : Act → World → Prop} (h : ∀ a', a' = a → K a' w) : Exit.then K Q .normal a w := h a rfl
theorem loopJ_ {c : Code} (I : Nat → Act → World → Prop) (n : Nat) (h : ∀ a', a' = a → I n a' w)
    (hs : ∀ m a w, I m a w → c.wp P (Exit.then (fun a' w' => ∃ k, k < m ∧ I k a' w') Q) a w) : (Code.loop c).wp P Q a w := loopI_ I n (h a rfl) hs
end
end Sx
namespace Sx
open Go
theorem slice_at {x : Option Addr} {b n c : Nat} (e : x = some ⟨b, 0, none⟩) {v : Value} (h : v = Value.slice x n c) : v = .slice (some ⟨b, 0, none⟩) n c := by rw [h, e]
end Sx
namespace Sx
open Go Go.RowKit Go.BigFrame
def bvF (n : Nat) (f : Nat → Int) : List Value := (List.range n).map fun i => Value.int .u8 (f i)
theorem bvF_len (n : Nat) (f : Nat → Int) : (bvF n f).length = n := by simp [bvF]
theorem bvF_at {n : Nat} (f : Nat → Int) {j : Nat} (h : j < n) : (bvF n f)[j]? = some (.int .u8 (f j)) := by simp [bvF, h]
theorem bvF_one {n : Nat} {f : Nat → Int} : ∀ v ∈ bvF n f, v.oneCell' = true := fun v h => by
  simp only [bvF, List.mem_map] at h
  obtain ⟨j, _, rfl⟩ := h; rfl
theorem bvF_get {n : Nat} {f : Nat → Int} {j : Nat} {v : Value} (h : (bvF n f)[j]? = some v) : j < n ∧ v = .int .u8 (f j) := by
  have hj : j < n := by
    rcases Nat.lt_or_ge j n with h1 | h1
    · exact h1
    · rw [List.getElem?_eq_none (by rw [bvF_len]; exact h1)] at h; cases h
  rw [bvF_at f hj] at h
  exact ⟨hj, (Option.some.inj h).symm⟩
theorem rowF_bvF (n : Nat) (f : Nat → Int) : rowF .u8 n f = (bvF n f).toArray := rfl
def catF (n : Nat) (f g : Nat → Int) : Nat → Int := fun j => bif Nat.blt j n then f j else g (j - n)
theorem blt_t {a b : Nat} (h : a < b) : Nat.blt a b = true := by unfold Nat.blt; exact Nat.ble_eq_true_of_le h
theorem blt_f {a b : Nat} (h : ¬ a < b) : Nat.blt a b = false := by
  cases hb : Nat.blt a b
  · rfl
  · unfold Nat.blt at hb; exact absurd (Nat.le_of_ble_eq_true hb) h
theorem ble_f {a b : Nat} (h : ¬ a ≤ b) : Nat.ble a b = false := by
  cases hb : Nat.ble a b
  · rfl
  · exact absurd (Nat.le_of_ble_eq_true hb) h
theorem bvF_cat (n m : Nat) (f g : Nat → Int) : bvF n f ++ bvF m g = bvF (n + m) (catF n f g) := by
  apply List.ext_getElem?
  intro j
  by_cases h : j < n
  · rw [List.getElem?_append_left (by rw [bvF_len]; exact h), bvF_at f h, bvF_at _ (by omega)]
    simp [catF, blt_t h]
  · rw [List.getElem?_append_right (by rw [bvF_len]; omega), bvF_len]
    by_cases h2 : j < n + m
    · rw [bvF_at g (by omega), bvF_at _ h2]; simp [catF, blt_f h]
    · rw [List.getElem?_eq_none (by rw [bvF_len]; omega), List.getElem?_eq_none (by rw [bvF_len]; omega)]
theorem bvF_congr {n : Nat} {f g : Nat → Int} (h : ∀ i, i < n → f i = g i) : bvF n f = bvF n g := by
  unfold bvF
  apply List.map_congr_left
  intro i hi
  rw [h i (List.mem_range.1 hi)]
def ovF (f : Nat → Int) (o m : Nat) (g : Nat → Int) : Nat → Int := fun j => bif Nat.ble o j && Nat.blt j (o + m) then g (j - o) else f j
theorem rowF_over (kd : IntKind) {n : Nat} (f : Nat → Int) {o m : Nat} (h : o + m ≤ n) (g : Nat → Int) : ((rowF kd n f).toList.take o ++ (List.range m).map (fun i => Value.int kd (g i)) ++ (rowF kd n f).toList.drop (o + m)).toArray = rowF kd n (ovF f o m g) := by
  apply Array.ext'
  simp only [rowF]
  apply List.ext_getElem
  · simp; omega
  · intro j h1 h2
    simp only [List.length_append, List.length_take, List.length_map, List.length_range, List.length_drop] at h1 h2
    by_cases ha : j < o
    · rw [List.getElem_append_left (by simp; omega), List.getElem_append_left (by simp; omega)]
      simp [ovF, ble_f (show ¬ o ≤ j by omega)]
    · by_cases hb : j < o + m
      · rw [List.getElem_append_left (by simp; omega), List.getElem_append_right (by simp; omega)]
        have : min o n = o := by omega
        simp [ovF, Nat.ble_eq_true_of_le (show o ≤ j by omega), blt_t hb, this]
      · rw [List.getElem_append_right (by simp; omega)]
        have : min o n = o := by omega
        simp only [List.length_append, List.length_take, List.length_map, List.length_range, List.getElem_drop, List.getElem_map, List.getElem_range, this]
        have e : o + m + (j - (o + m)) = j := by omega
        simp [ovF, blt_f hb, e]
def At8 (w : World) (b o n : Nat) (f : Nat → Int) : Prop := ∀ j, j < n → w.cell? ⟨b, o + j, none⟩ = some (.int .u8 (f j))
theorem At8.cut {w : World} {b o n : Nat} {f : Nat → Int} (h : At8 w b o n f) {m : Nat} (hm : m ≤ n) : At8 w b o m f := fun j hj => h j (by omega)
theorem At8.drop {w : World} {b o n : Nat} {f : Nat → Int} (h : At8 w b o n f) (k : Nat) : At8 w b (o + k) (n - k) (fun j => f (k + j)) := fun j hj => by
  rw [Nat.add_assoc]; exact h (k + j) (by omega)
section
variable {ms : List Nat} {w0 w : World} {bs : List Blk}
theorem St.old8 (S : St ms w0 bs w) {b o n : Nat} {f : Nat → Int} (h : At8 w0 b o n f) (hm : b ∉ ms) : At8 w b o n f := fun j hj => S.oldAt (h j hj) hm
theorem St.blk8 (S : St ms w0 bs w) (i : Nat) {b N : Nat} {wr : Bool} {f : Nat → Int} {t : TypeId} {fr : Nat × Nat} {l : List Value} {n : Nat} (o : Nat) (hn : o + n ≤ N) (hb : bs[i]? = some ⟨b, wr, .cells (bvF N f ++ l).toArray t fr⟩ := by kernel_rfl) : At8 w b o n (fun j => f (o + j)) := fun j hj => by
  rw [cell_of (S.at_ i _ hb)]
  simp only [List.getElem?_toArray]
  rw [List.getElem?_append_left (by rw [bvF_len]; omega), bvF_at f (by omega)]
theorem St.row8 (S : St ms w0 bs w) (i : Nat) {b N : Nat} {wr : Bool} {f : Nat → Int} {t : TypeId} {fr : Nat × Nat} (hb : bs[i]? = some ⟨b, wr, .cells (rowF .u8 N f) t fr⟩ := by kernel_rfl) : At8 w b 0 N f := fun j hj => by
  rw [cell_of (S.at_ i _ hb), Nat.zero_add, rowF_at _ f hj]
end
section
variable {P : Program} {w : World}
theorem src8 {b o n c : Nat} {f : Nat → Int} {tx e' : TypeId} (h : At8 w b o n f) (hk : P.underlying tx = some (.slice e') := by kernel_rfl) : Src P 1 tx (.slice (some ⟨b, o, none⟩) n c) n (bvF n f) w :=
  Src.ofSlice w hk _ n c _ (by rw [bvF_len, Nat.mul_one]) (fun j u hj => by
    obtain ⟨h1, rfl⟩ := bvF_get hj
    rw [Addr.add_lit]; exact h j h1) bvF_one
theorem copy_op {ρ : Operand → Value} {o : Oper} {w' : World} {s x : Operand} {t tx : TypeId} {sv xv v : Value} (ho : o.op = .call ⟨.builtin .copy, #[s, x], #[t, tx]⟩) (hs : ρ s = sv) (hx : ρ x = xv)
    (hrun : (Builtin.copy_ #[t, tx] o.type #[sv, xv]).run P w = .ok v w') : (execOp ρ o).run P w = .ok (.value v) w' := by
  simp [execOp, ho, resolve, invoke, builtin, hs, hx, hrun, Result.andThen]
end
section
variable {P : Program} {ops : Array Oper} {rest : List Oper} {o : Oper} {a : Act} {w w0 : World} {ms : List Nat} {bs : List Blk} {Q : Exit → Act → World → Prop}
theorem copy_ (S : St ms w0 bs w) (i : Nat) (b N off n c : Nat) (f : Nat → Int) (sb so m sc : Nat) (g : Nat → Int) {t : TypeId} {s x : Operand} {tt tx elem : TypeId} (h8 : At8 w sb so m g) (hm : m ≤ n) (hn : off + m ≤ N)
    (hb : bs[i]? = some ⟨b, true, .cells (rowF .u8 N f) t (0, 0)⟩) {bs' : List Blk} (h2 : bs.set i ⟨b, true, .cells (rowF .u8 N (ovF f off m g)) t (0, 0)⟩ = bs')
    (k : ∀ w', St ms w0 bs' w' → WL P ops Q rest (a.put o.dst (.int .i64 m)) w')
    (hw : Region.wanted o (yielded ops a.tmps) = true := by kernel_rfl) (ho : o.op = .call ⟨.builtin .copy, #[s, x], #[tt, tx]⟩ := by rfl) (hs : a.eval s = .slice (some ⟨b, off, none⟩) n c := by kernel_rfl) (hx : a.eval x = .slice (some ⟨sb, so, none⟩) m sc := by kernel_rfl)
    (hu : P.underlying tt = some (.slice elem) := by kernel_rfl) (hz : (P.info? elem).map (·.size) = some 1 := by kernel_rfl) : WL P ops Q (o :: rest) a w :=
  WL.want hw fun K hK => by
    have hat := S.at_ i _ hb
    have hmin : Nat.min m n = m := Nat.min_eq_left hm
    have hrun := run_copy_row (P := P) w tt tx o.type elem b off n c ⟨sb, so, none⟩ m sc (rowF .u8 N f) t (bvF m g) hu hz hat (by rw [bvF_len, hmin]) (fun j v hj => by
      obtain ⟨h1, rfl⟩ := bvF_get hj
      rw [Addr.add_lit]; exact h8 j h1) (by rw [bvF_len, rowF_size]; exact hn) bvF_one
    unfold Oper.wp
    rw [copy_op ho hs hx hrun]
    rw [bvF_len]
    have he : (goInt m : Value) = .int .i64 m := rfl
    rw [he]
    refine hK _ _ (k _ ?_)
    have hS := S.step hb rfl (Ch.setRow w b _) (setRow_heap w b (rowF .u8 N f) ((rowF .u8 N f).toList.take off ++ bvF m g ++ (rowF .u8 N f).toList.drop (off + m)).toArray t (0, 0) hat)
    have e2 : ((rowF .u8 N f).toList.take off ++ bvF m g ++ (rowF .u8 N f).toList.drop (off + m)).toArray = rowF .u8 N (ovF f off m g) := rowF_over .u8 f hn g
    rw [e2, h2] at hS
    rw [e2]
    exact hS
end
section
variable {P : Program} {ρ : Operand → Value} {o : Oper} {w : World}
theorem run_rest {t e : TypeId} {x lo : Operand} {b off n c k : Nat} {kd : IntKind} (hk : k ≤ n) (hc : n ≤ c) (off' : Nat) (ho' : off' = (if c = k then off else off + k)) (ho : o.op = .slice t x (some lo) none none := by rfl) (hu : P.underlying t = some (.slice e) := by kernel_rfl) (hs : (P.info? e).map (·.size) = some 1 := by kernel_rfl)
    (hx : ρ x = .slice (some ⟨b, off, none⟩) n c := by kernel_rfl) (hh : ρ lo = .int kd ((k : Nat) : Int) := by kernel_rfl) : (execOp ρ o).run P w = .ok (.value (.slice (some ⟨b, off', none⟩) (n - k) (c - k))) w := by
  obtain ⟨i, hi', hsz⟩ := Option.map_eq_some_iff.1 hs
  unfold execOp
  simp only [ho, Option.map_none, Option.map_some, hx, hh]
  unfold Instr.sliceAt
  simp only [Sem.run_bind, run_underlying hu, Result.andThen_ok]
  unfold Instr.slice
  simp only [Sem.run_bind, run_underlying hu, Result.andThen_ok, Instr.sliceBounds, Instr.sliceBound, asIntOf, Sem.run_pure]
  have h1 : (0 : Int) ≤ (k : Int) ∧ (k : Int) ≤ (n : Int) := by omega
  have h3 : (⟨b, off, none⟩ : Addr).add k = ⟨b, off + k, none⟩ := Addr.add_lit ..
  by_cases hck : c = k
  · rw [if_pos hck] at ho'
    simp [h1, Go.sizeOf, typeInfo, hi', hsz, hck, ho']
  · rw [if_neg hck] at ho'
    simp [h1, Go.sizeOf, typeInfo, hi', hsz, hck, ho', h3]
end
end Sx
namespace Sx
open Go Go.RowKit Go.BigFrame
section
variable {P : Program} {lf l : List Oper} {sp : Nat → Sp} {a0 : Act} {w : World} {i : Nat} {o : Oper}
theorem qI_ (b off off' n z : Nat) (kd : IntKind) (iv : Int) {t e : TypeId} {x y : Operand} (h0 : 0 ≤ iv) (h1 : iv < n) (he : off' = off + iv.toNat * z) (hv : (sp i).f [] = .pointer (some ⟨b, off', none⟩) := by kernel_rfl) (hs : slotsOk l sp i o = true := by kernel_rfl)
    (ho : o.op = .indexAddr t x y := by rfl) (hu : P.underlying t = some (.array n e) := by kernel_rfl) (hz : (P.info? e).map (·.size) = some z := by kernel_rfl)
    (hx : envE (envOf l sp a0 o) x = .pointer (some ⟨b, off, none⟩) := by kernel_rfl) (hy : envE (envOf l sp a0 o) y = .int kd iv := by kernel_rfl) : StepOk P lf l sp (yof a0) w i o :=
  q_step hs fun _ _ => Y.idxA_ b off off' n z kd iv h0 h1 he ⟨Ch.refl _ _, hv.symm⟩ ho hu hz hx hy
end
section
variable {P : Program} {ops : Array Oper} {rest : List Oper} {o : Oper} {a : Act} {w : World} {Q : Exit → Act → World → Prop}
theorem indexV_ (vk : IntKind) (n : Nat) (f : Nat → Int) (kd : IntKind) (iv : Int) {t e : TypeId} {x y : Operand} (h0 : 0 ≤ iv) (h1 : iv < n) (k : WL P ops Q rest (a.put o.dst (.int vk (f iv.toNat))) w) (hw : Region.wanted o (yielded ops a.tmps) = true := by kernel_rfl)
    (ho : o.op = .index t x y := by rfl) (hu : P.underlying t = some (.array n e) := by kernel_rfl) (hz : (P.info? e).map (·.size) = some 1 := by kernel_rfl) (ha : (P.underlying e).map aggD = some false := by kernel_rfl)
    (hx : a.eval x = .agg (rowF vk n f) := by kernel_rfl) (hy : a.eval y = .int kd iv := by kernel_rfl) : WL P ops Q (o :: rest) a w :=
  pure_ (.int vk (f iv.toNat)) k hw (by
    obtain ⟨inf, hq, hsz⟩ := Option.map_eq_some_iff.1 hz
    have hlt : iv.toNat < n := by omega
    have hget : (rowF vk n f)[iv.toNat]? = some (.int vk (f iv.toNat)) := rowF_at vk f hlt
    unfold execOp
    simp only [ho, hx, hy]
    unfold Instr.index
    simp only [Sem.run_bind, run_underlying hu, Result.andThen_ok, asIntOf, Sem.run_pure]
    simp [h0, h1, Go.sizeOf, typeInfo, hq, hsz, part, run_isAgg ha, hget])
end
end Sx
namespace Sx
open Go Go.RowKit Go.BigFrame
def bvZ (n : Nat) (f : Nat → Int) (c : Nat) : Array Value := (bvF n f ++ List.replicate (c - n) (Value.int .u8 0)).toArray
theorem zeroCells8 (k : Nat) : (Builtin.zeroCells #[Value.int .u8 0] k).toList = List.replicate k (Value.int .u8 0) := by
  apply List.ext_getElem
  · simp [Builtin.zeroCells]
  · intro i h1 h2
    simp [Builtin.zeroCells, Nat.mod_one]
def row8 (T : TypeId) (n : Nat) (f : Nat → Int) (x : Option Addr) (c : Nat) (bl : List Blk) : Prop :=
  n ≤ c ∧ ((x = none ∧ n = 0 ∧ c = 0 ∧ bl = []) ∨ ∃ b, x = some ⟨b, 0, none⟩ ∧ bl = [⟨b, true, .cells (bvZ n f c) T (0, 0)⟩])
theorem row8.wr {T n f x c bl} (h : row8 T n f x c bl) : Wr bl := by
  rcases h.2 with ⟨_, _, _, rfl⟩ | ⟨b, _, rfl⟩
  · exact Wr.nil
  · exact Wr.cons rfl Wr.nil
theorem row8.ty {T n f x c bl} (h : row8 T n f x c bl) : Ty [T] bl := by
  rcases h.2 with ⟨_, _, _, rfl⟩ | ⟨b, _, rfl⟩
  · intro x hx; cases hx
  · exact Ty.cons rfl Ty.nil
theorem row8_nil (T : TypeId) : row8 T 0 (fun _ => 0) none 0 [] := ⟨Nat.le_refl _, .inl ⟨rfl, rfl, rfl, rfl⟩⟩
theorem bvZ_size {n c : Nat} (f : Nat → Int) (h : n ≤ c) : (bvZ n f c).size = c := by simp [bvZ, bvF_len]; omega
section
variable {P : Program}
theorem run_append8 {w : World} {T n c m : Nat} {f g : Nat → Int} {x : Option Addr} {bl : List Blk} (hr : row8 T n f x c bl) (hat : ∀ y ∈ bl, w.heap[y.id]? = some y.obj)
    {t tx ty : TypeId} {xv : Value} (hs : Src P 1 tx xv m (bvF m g) w) (ht : P.underlying t = some (.slice T)) (hi : (P.info? T).map (fun i => (i.zero.map (·.cells), i.size, i.bytes)) = some (some #[.int .u8 0], 1, 1))
    (hb : n + m ≤ 140737488355328) :
    ∃ v w', (Builtin.append_ #[t, tx] ty #[.slice x n c, xv]).run P w = .ok v w' ∧ Ch (bl.map Blk.id) w w' ∧ ∃ x' c' bl', v = .slice x' (n + m) c' ∧ row8 T (n + m) (catF n f g) x' c' bl' ∧ ∀ y ∈ bl', w'.heap[y.id]? = some y.obj ∧ ((∃ u ∈ bl, y.id = u.id) ∨ w.heap.size ≤ y.id) := by
  obtain ⟨i, hinfo, hi⟩ := Option.map_eq_some_iff.1 hi
  simp only [Prod.mk.injEq] at hi
  obtain ⟨hz, hsz, hby⟩ := hi
  obtain ⟨z0, hz0, hzs⟩ := Option.map_eq_some_iff.1 hz
  obtain ⟨hnc, hrow⟩ := hr
  have hs' : Src P i.size tx xv m (bvF m g) w := by rw [hsz]; exact hs
  have h63 : n + m ≤ maxLen := by unfold maxLen; omega
  by_cases hroom : n + m ≤ c
  · rcases Nat.eq_zero_or_pos m with hm0 | hm0
    · subst hm0
      refine ⟨_, _, run_append_nothing (P := P) w t tx ty T i ht hinfo x n c hnc xv hs', Ch.refl _ _, x, c, bl, rfl, ⟨hnc, ?_⟩, fun y hy => ⟨hat y hy, .inl ⟨y, hy, rfl⟩⟩⟩
      rcases hrow with h | ⟨b, rfl, rfl⟩
      · exact .inl h
      · refine .inr ⟨b, rfl, ?_⟩
        have e : bvF (n + 0) (catF n f g) = bvF n f := bvF_congr fun j hj => by simp [catF, blt_t (show j < n by omega)]
        show [(⟨b, true, .cells (bvZ n f c) T (0, 0)⟩ : Blk)] = [⟨b, true, .cells ((bvF (n + 0) (catF n f g) ++ List.replicate (c - (n + 0)) (Value.int .u8 0)).toArray) T (0, 0)⟩]
        rw [e]; rfl
    · rcases hrow with ⟨_, rfl, rfl, _⟩ | ⟨b, rfl, rfl⟩
      · omega
      · have hat1 := hat _ (List.mem_singleton.2 rfl)
        have hst := run_storeCells_at (P := P) b n T (bvF m g) 0 (bvZ n f c) w hat1 (by rw [bvZ_size f hnc, bvF_len]; omega) hs.one
        simp only [Nat.add_zero, bvF_len] at hst
        have hrun : (Builtin.append_ #[t, tx] ty #[.slice (some ⟨b, 0, none⟩) n c, xv]).run P w = .ok (.slice (some ⟨b, 0, none⟩) (n + m) c) (w.setRow b ((bvZ n f c).toList.take n ++ bvF m g ++ (bvZ n f c).toList.drop (n + m)).toArray) := by
          rcases hs'.kind with ⟨e', hk⟩ | hk <;> simp [Builtin.append_, run_underlying ht, run_underlying hk, Go.sizeOf, typeInfo, hinfo, hs'.len, hroom, hs.cells, Addr.add_lit, hsz, hst, Result.andThen]
        refine ⟨_, _, hrun, by simpa using Ch.setRow w b _, some ⟨b, 0, none⟩, c, [⟨b, true, .cells (bvZ (n + m) (catF n f g) c) T (0, 0)⟩], rfl, ⟨hroom, .inr ⟨b, rfl, rfl⟩⟩, ?_⟩
        intro y hy
        obtain rfl := List.mem_singleton.1 hy
        refine ⟨?_, .inl ⟨_, List.mem_singleton.2 rfl, rfl⟩⟩
        have := setRow_heap w b (bvZ n f c) ((bvZ n f c).toList.take n ++ bvF m g ++ (bvZ n f c).toList.drop (n + m)).toArray T (0, 0) hat1
        rw [this]
        congr 2
        unfold bvZ
        congr 1
        show (bvF n f ++ _).take n ++ _ ++ (bvF n f ++ _).drop (n + m) = _
        rw [List.take_left' (bvF_len n f), ← List.drop_drop, List.drop_left' (bvF_len n f), List.drop_replicate, ← bvF_cat]
        congr 2; omega
  · have hg : c < n + m := by omega
    have hold : (Builtin.firstCells i.size n (.slice x n c)).run P w.drew = .ok (bvF n f).toArray w.drew := by
      rcases hrow with ⟨rfl, rfl, rfl, _⟩ | ⟨b, rfl, rfl⟩
      · exact run_firstCells_none (P := P) w.drew i.size 0 0 0
      · have hat1 := hat _ (List.mem_singleton.2 rfl)
        refine run_firstCells_some (P := P) w.drew i.size n ⟨b, 0, none⟩ n c (bvF n f) (by rw [bvF_len, hsz, Nat.mul_one]) (fun j v hj => ?_)
        obtain ⟨hj', rfl⟩ := bvF_get hj
        rw [Addr.add_lit]
        have : w.drew.cell? ⟨b, 0 + j, none⟩ = w.cell? ⟨b, j, none⟩ := by simp
        rw [this, cell_of hat1]
        simp only [bvZ, List.getElem?_toArray]
        rw [List.getElem?_append_left (by rw [bvF_len]; exact hj'), bvF_at f hj']
    have hrun := run_append_grow_src (P := P) w t tx ty T i z0 ht hinfo hz0 x n c (bvF n f) hold xv m (bvF m g) hs' hg (by simp only [maxLen] at h63; omega) (by rw [hby]; exact growslice_fits hg (by omega))
    have hge := grownCap_ge w (n + m) c T
    refine ⟨_, _, hrun, ?_, some ⟨w.heap.size, 0, none⟩, grownCap w (n + m) c T, [⟨w.heap.size, true, .cells (bvZ (n + m) (catF n f g) (grownCap w (n + m) c T)) T (0, 0)⟩], rfl, ⟨hge, .inr ⟨_, rfl, rfl⟩⟩, ?_⟩
    · exact ((Ch.refl (bl.map Blk.id) w).drew).trans (Ch.alloc (bl.map Blk.id) w.drew _) (fun x hx => .inl hx)
    · intro y hy
      obtain rfl := List.mem_singleton.1 hy
      refine ⟨?_, .inr (Nat.le_refl _)⟩
      have := heap_alloc_new w.drew (.cells ((bvF n f ++ bvF m g).toArray ++ Builtin.zeroCells z0.cells (grownCap w (n + m) c T - (n + m))) T)
      refine Eq.trans this ?_
      congr 2
      apply Array.ext'
      rw [hzs, Array.toList_append, zeroCells8]
      show bvF n f ++ bvF m g ++ _ = bvF (n + m) (catF n f g) ++ _
      rw [← bvF_cat]
end
section
variable {P : Program} {ops : Array Oper} {rest : List Oper} {o : Oper} {a : Act} {w w0 : World} {ms : List Nat} {Q : Exit → Act → World → Prop}
theorem append8_ {A bl R : List Blk} {xs : Option Addr} {T n c m : Nat} {f g : Nat → Int} {t tx : TypeId} {s x : Operand} {xv : Value} (S : St ms w0 (A ++ (bl ++ R)) w) (hr : row8 T n f xs c bl) (hs : Src P 1 tx xv m (bvF m g) w) (hbd : n + m ≤ 140737488355328)
    (k : ∀ x' c' bl' w', row8 T (n + m) (catF n f g) x' c' bl' → St ms w0 (A ++ (bl' ++ R)) w' → WL P ops Q rest (a.put o.dst (.slice x' (n + m) c')) w')
    (ho : o.op = .call ⟨.builtin .append, #[s, x], #[t, tx]⟩ := by rfl) (hw : Region.wanted o (yielded ops a.tmps) = true := by kernel_rfl) (hsv : a.eval s = .slice xs n c := by kernel_rfl) (hxv : a.eval x = xv := by kernel_rfl)
    (ht : P.underlying t = some (.slice T) := by kernel_rfl) (hinfo : (P.info? T).map (fun i => (i.zero.map (·.cells), i.size, i.bytes)) = some (some #[.int .u8 0], 1, 1) := by kernel_rfl) : WL P ops Q (o :: rest) a w :=
  WL.want hw fun K hK => by
    obtain ⟨v, w', hrun, hc, x', c', bl', rfl, hr', hat⟩ := run_append8 (P := P) (ty := o.type) hr (fun y hy => S.at' (by simp [hy])) hs ht hinfo hbd
    have S2 := S.redo hr.wr hc (fun y hy => (hat y hy).1) (fun y hy => (hat y hy).2) (by
      rcases hr'.2 with ⟨_, _, _, rfl⟩ | ⟨b, _, rfl⟩ <;> simp)
    unfold Oper.wp
    rw [append_op ho hsv hxv hrun]
    exact hK _ _ (k x' c' bl' w' hr' S2)
end
end Sx
namespace Sx
open Go Go.RowKit Go.BigFrame
def shF (f : Nat → Int) (k : Nat) : Nat → Int := fun j => f (k + j)
theorem row8_at {T n f x c bl} (h : row8 T n f x c bl) (hn : 0 < n) : ∃ b, n ≤ c ∧ x = some ⟨b, 0, none⟩ ∧ bl = [⟨b, true, .cells (bvZ n f c) T (0, 0)⟩] := by
  rcases h.2 with ⟨_, h0, _, _⟩ | ⟨b, h1, h2⟩
  · omega
  · exact ⟨b, h.1, h1, h2⟩
theorem St.all8 {ms : List Nat} {w0 w : World} {bs : List Blk} (S : St ms w0 bs w) (i : Nat) {b n c : Nat} {wr : Bool} {f : Nat → Int} {t : TypeId} {fr : Nat × Nat} (hb : bs[i]? = some ⟨b, wr, .cells (bvZ n f c) t fr⟩ := by kernel_rfl) : At8 w b 0 n f := fun j hj => by
  rw [cell_of (S.at_ i _ hb), Nat.zero_add]
  simp only [bvZ, List.getElem?_toArray]
  rw [List.getElem?_append_left (by rw [bvF_len]; exact hj), bvF_at f hj]
end Sx
namespace Sx
open Go
theorem tdiv_lit (kd : IntKind) (x m q : Int) (h1 : q * m ≤ x) (h2 : x < (q + 1) * m) (hm : 0 < m ∧ 0 ≤ q) (hw : kd.wrap q = q) : kd.wrap (Int.tdiv x m) = q := by
  have hx : 0 ≤ x := Int.le_trans (Int.mul_nonneg hm.2 (Int.le_of_lt hm.1)) h1
  rw [Int.tdiv_eq_ediv_of_nonneg hx]
  have : x / m = q := by
    apply Int.le_antisymm
    · have := Int.ediv_lt_of_lt_mul hm.1 h2; omega
    · exact Int.le_ediv_of_mul_le hm.1 h1
  rw [this, hw]
end Sx
namespace Sx
open Go Go.RowKit Go.BigFrame
theorem Ch.setIf (w : World) (r : Nat) (o : Obj) : Ch [r] w { w with heap := w.heap.setIfInBounds r o } :=
  ⟨rfl, rfl, rfl, by simp, fun k hk hm => by
    show (w.heap.setIfInBounds r o)[k]? = w.heap[k]?
    rw [Array.getElem?_setIfInBounds_ne (fun e => hm (by simp [e]))]⟩
def mapE (kd : IntKind) (l : List (Int × Value)) : Obj := .map ((l.zipIdx.map fun x => (⟨.int kd x.1.1, x.1.2, x.2⟩ : MapEntry)).toArray) l.length
theorem findN_none (kd : IntKind) (k : Int) : ∀ (l : List MapEntry) (i : Nat), (∀ e ∈ l, ∃ j, e.key = .int kd j ∧ j ≠ k) → Instr.findNow (.int kd) (.int kd k) l i = some none
  | [], _, _ => rfl
  | e :: es, i, h => by
    obtain ⟨j, h1, h2⟩ := h e (List.Mem.head _)
    have : Instr.sameNow (.int kd) (.int kd k) e.key = some false := by
      rw [h1]; simp [Instr.sameNow]; exact fun h => h2 h.symm
    simp [Instr.findNow, this, findN_none kd k es (i + 1) (fun x hx => h x (List.Mem.tail _ hx))]
theorem mapE_push (kd : IntKind) (l : List (Int × Value)) (k : Int) (v : Value) :
    Obj.map (((l.zipIdx.map fun x => (⟨.int kd x.1.1, x.1.2, x.2⟩ : MapEntry)).toArray).push ⟨.int kd k, v, l.length⟩) (l.length + 1) = mapE kd (l ++ [(k, v)]) := by
  simp [mapE, List.zipIdx_append]
theorem find_all {kd : IntKind} {l : List (Int × Value)} {k : Int} (h : l.all (fun x => x.1 != k) = true) : ∀ e ∈ (l.zipIdx.map fun x => (⟨.int kd x.1.1, x.1.2, x.2⟩ : MapEntry)), ∃ j, e.key = .int kd j ∧ j ≠ k := by
  intro e he
  obtain ⟨x, hx, rfl⟩ := List.mem_map.1 he
  have hm := (List.mem_zipIdx hx)
  have h2 : x.1 ∈ l := by
    obtain ⟨_, _, h3⟩ := hm
    rw [h3]; exact List.getElem_mem _
  exact ⟨x.1.1, rfl, by simpa using List.all_eq_true.1 h _ h2⟩
section
variable {P : Program} {ops : Array Oper} {rest : List Oper} {o : Oper} {a : Act} {w w0 : World} {ms : List Nat} {bs : List Blk} {Q : Exit → Act → World → Prop}
theorem mapUpd_ (S : St ms w0 bs w) (i : Nat) (b : Nat) (kd : IntKind) (l : List (Int × Value)) (kv : Int) (vv : Value) {mt kt et : TypeId} {x y z : Operand}
    (k : ∀ w', St ms w0 (bs.set i ⟨b, true, mapE kd (l ++ [(kv, vv)])⟩) w' → WL P ops Q rest (a.put o.dst undef) w')
    (hw : Region.wanted o (yielded ops a.tmps) = true := by kernel_rfl) (ho : o.op = .mapUpdate mt x y z := by rfl) (hx : a.eval x = .map (some b) := by kernel_rfl) (hy : a.eval y = .int kd kv := by kernel_rfl) (hz : a.eval z = vv := by kernel_rfl)
    (hu : P.underlying mt = some (.map kt et) := by kernel_rfl) (hk : P.underlying kt = some (.int kd) := by kernel_rfl) (hb : bs[i]? = some ⟨b, true, mapE kd l⟩ := by kernel_rfl) (hn : l.all (fun x => x.1 != kv) = true := by kernel_rfl) : WL P ops Q (o :: rest) a w :=
  WL.want hw fun K hK => by
    have hat : w.heap[b]? = some (mapE kd l) := S.at_ i _ hb
    have hat2 : w.heap[b]? = some (.map ((l.zipIdx.map fun x => (⟨.int kd x.1.1, x.1.2, x.2⟩ : MapEntry)).toArray) l.length) := hat
    have hf : Instr.findNow (.int kd) (.int kd kv) ((l.zipIdx.map fun x => (⟨.int kd x.1.1, x.1.2, x.2⟩ : MapEntry)).toArray).toList 0 = some none := findN_none kd kv _ 0 (find_all hn)
    have hc : (Instr.checkKey false 10000 kt (.int kd kv)).run P w = .ok () w := MapKept.run_checkKey (k := .int kd kv) hk (by simp [MapKept.IsKey]) false 9999
    have hrun0 : (Instr.mapUpdate mt (.map (some b)) (.int kd kv) vv).run P w = .ok () { w with heap := w.heap.setIfInBounds b (Obj.map (((l.zipIdx.map fun x => (⟨.int kd x.1.1, x.1.2, x.2⟩ : MapEntry)).toArray).push ⟨.int kd kv, vv, l.length⟩) (l.length + 1)) } := by
      generalize ((l.zipIdx.map fun x => (⟨.int kd x.1.1, x.1.2, x.2⟩ : MapEntry)).toArray) = es at *
      simp [Instr.mapUpdate, run_underlying hu, MapKept.run_getObj_map hat2, hc, MapKept.run_findKey hk hf, MapKept.run_setObj_map _ hat2, Result.andThen]
    have hrun : (Instr.mapUpdate mt (.map (some b)) (.int kd kv) vv).run P w = .ok () { w with heap := w.heap.setIfInBounds b (mapE kd (l ++ [(kv, vv)])) } := by
      rw [hrun0, mapE_push]
    unfold Oper.wp execOp
    simp only [ho, hx, hy, hz, Sem.run_bind, hrun, Result.andThen_ok, Sem.run_pure]
    refine hK _ _ (k _ ?_)
    exact S.step hb rfl (Ch.setIf w b _) (MapKept.heap_set hat).1
theorem lookup_ (S : St ms w0 bs w) (i : Nat) (b : Nat) (kd : IntKind) (l : List (Int × Value)) (kv : Int) (v : Value) {mt kt et : TypeId} {x y : Operand}
    (k : WL P ops Q rest (a.put o.dst (.tuple #[v, .bool true])) w)
    (hw : Region.wanted o (yielded ops a.tmps) = true := by kernel_rfl) (ho : o.op = .lookup mt x y true := by rfl) (hx : a.eval x = .map (some b) := by kernel_rfl) (hy : a.eval y = .int kd kv := by kernel_rfl)
    (hu : P.underlying mt = some (.map kt et) := by kernel_rfl) (hk : P.underlying kt = some (.int kd) := by kernel_rfl) (hb : bs[i]? = some ⟨b, true, mapE kd l⟩ := by kernel_rfl)
    (hn : ∃ j, Instr.findNow (.int kd) (.int kd kv) ((l.zipIdx.map fun x => (⟨.int kd x.1.1, x.1.2, x.2⟩ : MapEntry)).toArray).toList 0 = some (some (j, v)) := by exact ⟨_, by kernel_rfl⟩) : WL P ops Q (o :: rest) a w :=
  WL.want hw fun K hK => by
    obtain ⟨j, hf⟩ := hn
    have hat2 : w.heap[b]? = some (.map ((l.zipIdx.map fun x => (⟨.int kd x.1.1, x.1.2, x.2⟩ : MapEntry)).toArray) l.length) := S.at_ i _ hb
    have hc : ∀ e, (Instr.checkKey e 10000 kt (.int kd kv)).run P w = .ok () w := fun e => MapKept.run_checkKey (k := .int kd kv) hk (by simp [MapKept.IsKey]) e 9999
    have hrun : (Instr.lookup mt (.map (some b)) (.int kd kv) true).run P w = .ok (.tuple #[v, .bool true]) w := by
      simp [Instr.lookup, run_underlying hu, MapKept.run_getObj_map hat2, hc, MapKept.run_findKey hk hf, Result.andThen]
    have hexec : (execOp a.eval o).run P w = .ok (.value (.tuple #[v, .bool true])) w := by
      simp [execOp, ho, hx, hy, hrun, Result.andThen]
    unfold Oper.wp
    rw [hexec]
    exact hK _ _ k
end
end Sx
namespace Sx
open Go Go.RowKit Go.BigFrame
theorem cat0 (g : Nat → Int) : catF 0 (fun _ => 0) g = g := by
  funext j
  show (bif Nat.blt j 0 then _ else _) = _
  rw [show Nat.blt j 0 = false from by cases j <;> rfl]
  simp
theorem St.beside {ms : List Nat} {w0 w w1 : World} {bs bl : List Blk} (S : St ms w0 bs w) (T : St [] w bl w1) (h : Wr bl) : St ms w0 (bl ++ bs) w1 := by
  have hq := S.quiet T.ch
  refine St.mk' hq.ch (fun x hx => ?_) (fun x hx hw => ?_) ?_
  · rcases List.mem_append.1 hx with h1 | h1
    · exact T.at' h1
    · exact hq.at' h1
  · rcases List.mem_append.1 hx with h1 | h1
    · rcases T.own' h1 hw with h2 | h2
      · cases h2
      · exact .inr (Nat.le_trans S.ch.size h2)
    · exact hq.own' h1 hw
  · rw [List.pairwise_append]
    refine ⟨T.pw, hq.pw, fun x hx y hy _ e => ?_⟩
    rcases T.own' hx (h x hx) with h2 | h2
    · cases h2
    · have := S.ge hy
      omega
theorem cell_quiet {w w1 : World} (hc : Ch [] w w1) {a : Addr} {v : Value} (h : w.cell? a = some v) : w1.cell? a = some v := by
  have hb : a.block < w.heap.size := by
    unfold World.cell? at h
    split at h
    · next h2 => exact heap_lt h2
    · cases h
  have h3 := hc.block _ hb (by simp)
  unfold World.cell? at h ⊢
  rw [h3]; exact h
def KeyRd (w : World) (a : Option Addr) (n c : Nat) (f : Nat → Int) : Prop := n ≤ c ∧ (a = none → n = 0 ∧ c = 0) ∧ ∀ x, a = some x → ∀ j, j < n → w.cell? (x.add j) = some (.int .u8 (f j))
def KeyAt (w : World) (a : Option Addr) (n c : Nat) (f : Nat → Int) : Prop := n ≤ 1000000 ∧ KeyRd w a n c f
theorem KeyRd.quiet {w w1 : World} {a : Option Addr} {n c : Nat} {f : Nat → Int} (h : KeyRd w a n c f) (hc : Ch [] w w1) : KeyRd w1 a n c f := ⟨h.1, h.2.1, fun x e j hj => cell_quiet hc (h.2.2 x e j hj)⟩
theorem KeyAt.quiet {w w1 : World} {a : Option Addr} {n c : Nat} {f : Nat → Int} (h : KeyAt w a n c f) (hc : Ch [] w w1) : KeyAt w1 a n c f := ⟨h.1, h.2.quiet hc⟩
theorem KeyRd.cut {w : World} {a : Option Addr} {n c m : Nat} {f : Nat → Int} (h : KeyRd w a n c f) (hm : m ≤ n) (hb : m ≤ 1000000) : KeyAt w a m c f :=
  ⟨hb, Nat.le_trans hm h.1, fun e => ⟨by have := h.2.1 e; omega, (h.2.1 e).2⟩, fun x e j hj => h.2.2 x e j (by omega)⟩
theorem srcKey {P : Program} {w : World} {a : Option Addr} {n c : Nat} {f : Nat → Int} (h : KeyAt w a n c f) {tx e' : TypeId} (hk : P.underlying tx = some (.slice e') := by kernel_rfl) : Src P 1 tx (.slice a n c) n (bvF n f) w := by
  obtain ⟨h1, h2, h3, h4⟩ := h
  cases a with
  | none =>
    obtain ⟨rfl, rfl⟩ := h3 rfl
    exact Src.ofNil _ hk 0
  | some x => exact Src.ofSlice w hk _ n c _ (by rw [bvF_len, Nat.mul_one]) (fun j u hj => by
      obtain ⟨h5, rfl⟩ := bvF_get hj
      exact h4 x rfl j h5) bvF_one
def cutN (m n : Nat) : Nat := min n m
theorem cutN_is (m n : Nat) : (if ((m : Nat) : Int) < ((n : Nat) : Int) then ((m : Nat) : Int) else ((n : Nat) : Int)) = ((cutN m n : Nat) : Int) := by unfold cutN; split <;> omega
theorem KeyAt.isS {w : World} {a : Option Addr} {n c : Nat} {f : Nat → Int} (h : KeyAt w a n c f) (hn : 0 < n) : ∃ x, a = some x := by
  cases a with
  | none => have := (h.2.2.1 rfl).1; omega
  | some x => exact ⟨x, rfl⟩
theorem KeyAt.of8 {w : World} {b o n c : Nat} {f : Nat → Int} (h : At8 w b o n f) (hn : n ≤ 1000000) (hc : n ≤ c) : KeyAt w (some ⟨b, o, none⟩) n c f :=
  ⟨hn, hc, fun e => absurd e (by simp), fun x e j hj => by cases e; rw [Addr.add_lit]; exact h j hj⟩
section
variable {P : Program} {ops : Array Oper} {rest : List Oper} {o o' : Oper} {a : Act} {w w0 : World} {ms : List Nat} {bs : List Blk} {Q : Exit → Act → World → Prop}
theorem copyK_ (S : St ms w0 bs w) (i : Nat) (b N off n c : Nat) (f : Nat → Int) (ka : Option Addr) (m sc : Nat) (g : Nat → Int) {t : TypeId} {s x : Operand} {tt tx elem : TypeId} (h8 : KeyAt w ka m sc g) (h1 : 0 < m) (hm : m ≤ n) (hn : off + m ≤ N)
    (hb : bs[i]? = some ⟨b, true, .cells (rowF .u8 N f) t (0, 0)⟩) {bs' : List Blk} (h2 : bs.set i ⟨b, true, .cells (rowF .u8 N (ovF f off m g)) t (0, 0)⟩ = bs')
    (k : ∀ w', St ms w0 bs' w' → WL P ops Q rest (a.put o.dst (.int .i64 m)) w')
    (hw : Region.wanted o (yielded ops a.tmps) = true := by kernel_rfl) (ho : o.op = .call ⟨.builtin .copy, #[s, x], #[tt, tx]⟩ := by rfl) (hs : a.eval s = .slice (some ⟨b, off, none⟩) n c := by kernel_rfl) (hx : a.eval x = .slice ka m sc := by kernel_rfl)
    (hu : P.underlying tt = some (.slice elem) := by kernel_rfl) (hz : (P.info? elem).map (·.size) = some 1 := by kernel_rfl) : WL P ops Q (o :: rest) a w :=
  WL.want hw fun K hK => by
    obtain ⟨x0, rfl⟩ := h8.isS h1
    have hat := S.at_ i _ hb
    have hmin : Nat.min m n = m := Nat.min_eq_left hm
    have hrun := run_copy_row (P := P) w tt tx o.type elem b off n c x0 m sc (rowF .u8 N f) t (bvF m g) hu hz hat (by rw [bvF_len, hmin]) (fun j v hj => by
      obtain ⟨h1, rfl⟩ := bvF_get hj
      exact h8.2.2.2 x0 rfl j h1) (by rw [bvF_len, rowF_size]; exact hn) bvF_one
    unfold Oper.wp
    rw [copy_op ho hs hx hrun]
    rw [bvF_len]
    have he : (goInt m : Value) = .int .i64 m := rfl
    rw [he]
    refine hK _ _ (k _ ?_)
    have hS := S.step hb rfl (Ch.setRow w b _) (setRow_heap w b (rowF .u8 N f) ((rowF .u8 N f).toList.take off ++ bvF m g ++ (rowF .u8 N f).toList.drop (off + m)).toArray t (0, 0) hat)
    have e2 : ((rowF .u8 N f).toList.take off ++ bvF m g ++ (rowF .u8 N f).toList.drop (off + m)).toArray = rowF .u8 N (ovF f off m g) := rowF_over .u8 f hn g
    rw [e2, h2] at hS
    rw [e2]
    exact hS
theorem load8_ (b o n off i : Nat) (f : Nat → Int) (h8 : At8 w b o n f) (hi : i < n) (he : off = o + i) {x : Operand} {ty : TypeId} (k : WL P ops Q rest (a.put o'.dst (.int .u8 (f i))) w) (hw : Region.wanted o' (yielded ops a.tmps) = true := by kernel_rfl) (ho : o'.op = .load ty x := by rfl) (hx : a.eval x = .pointer (some ⟨b, off, none⟩) := by kernel_rfl)
    (ha : (P.underlying ty).map aggD = some false := by kernel_rfl) : WL P ops Q (o' :: rest) a w :=
  pure_ _ k hw (by
    have := h8 i hi
    rw [← he] at this
    unfold execOp
    simp only [ho, hx, Instr.loadAt, Instr.sureAddr, Sem.run_bind, Sem.run_pure, Result.andThen_ok]
    unfold loadVar
    rw [Sem.run_bind, run_isAgg ha]
    simp [load, Sem.run, this])
end
end Sx
namespace Sx
open Go Go.RowKit Go.BigFrame
section
variable {P : Program}
theorem run_append8F {w : World} {T n c m : Nat} {f g : Nat → Int} {x : Option Addr} (hx : KeyAt w x n c f)
    {t tx ty : TypeId} {xv : Value} (hs : Src P 1 tx xv m (bvF m g) w) (ht : P.underlying t = some (.slice T)) (hi : (P.info? T).map (fun i => (i.zero.map (·.cells), i.size, i.bytes)) = some (some #[.int .u8 0], 1, 1))
    (hb : n + m ≤ 140737488355328) (hg : c < n + m) :
    ∃ b c' w', (Builtin.append_ #[t, tx] ty #[.slice x n c, xv]).run P w = .ok (.slice (some ⟨b, 0, none⟩) (n + m) c') w' ∧ n + m ≤ c' ∧ Ch [] w w' ∧ w.heap.size ≤ b ∧ w'.heap[b]? = some (.cells (bvZ (n + m) (catF n f g) c') T (0, 0)) := by
  obtain ⟨i, hinfo, hi⟩ := Option.map_eq_some_iff.1 hi
  simp only [Prod.mk.injEq] at hi
  obtain ⟨hz, hsz, hby⟩ := hi
  obtain ⟨z0, hz0, hzs⟩ := Option.map_eq_some_iff.1 hz
  have hs' : Src P i.size tx xv m (bvF m g) w := by rw [hsz]; exact hs
  have h63 : n + m ≤ maxLen := by unfold maxLen; omega
  have hold : (Builtin.firstCells i.size n (.slice x n c)).run P w.drew = .ok (bvF n f).toArray w.drew := by
    cases x with
    | none =>
      obtain ⟨rfl, rfl⟩ := hx.2.2.1 rfl
      exact run_firstCells_none (P := P) w.drew i.size 0 0 0
    | some a =>
      refine run_firstCells_some (P := P) w.drew i.size n a n c (bvF n f) (by rw [bvF_len, hsz, Nat.mul_one]) (fun j v hj => ?_)
      obtain ⟨hj', rfl⟩ := bvF_get hj
      have := hx.2.2.2 a rfl j hj'
      simpa using this
  have hrun := run_append_grow_src (P := P) w t tx ty T i z0 ht hinfo hz0 x n c (bvF n f) hold xv m (bvF m g) hs' hg (by simp only [maxLen] at h63; omega) (by rw [hby]; exact growslice_fits hg (by omega))
  have hge := grownCap_ge w (n + m) c T
  refine ⟨w.heap.size, grownCap w (n + m) c T, _, hrun, hge, ?_, Nat.le_refl _, ?_⟩
  · exact ((Ch.refl [] w).drew).trans (Ch.alloc [] w.drew _) (fun x hx => .inl hx)
  · have := heap_alloc_new w.drew (.cells ((bvF n f ++ bvF m g).toArray ++ Builtin.zeroCells z0.cells (grownCap w (n + m) c T - (n + m))) T)
    refine Eq.trans this ?_
    congr 2
    apply Array.ext'
    rw [hzs, Array.toList_append, zeroCells8]
    show bvF n f ++ bvF m g ++ _ = bvF (n + m) (catF n f g) ++ _
    rw [← bvF_cat]
end
section
variable {P : Program} {o : Oper} {ρ : Operand → Value} {w w0 : World} {ms : List Nat} {bs : List Blk} {R : Value → World → Prop}
theorem Y.append8F_ {x0 : Option Addr} {T n c m : Nat} {f g : Nat → Int} {t tx : TypeId} {s x : Operand} {xv : Value} (S : St ms w0 bs w) (hx0 : KeyAt w x0 n c f) (hs : Src P 1 tx xv m (bvF m g) w) (hbd : n + m ≤ 140737488355328) (hg : c < n + m)
    (k : ∀ b c' w', n + m ≤ c' → St ms w0 (⟨b, true, .cells (bvZ (n + m) (catF n f g) c') T (0, 0)⟩ :: bs) w' → R (.slice (some ⟨b, 0, none⟩) (n + m) c') w')
    (ho : o.op = .call ⟨.builtin .append, #[s, x], #[t, tx]⟩ := by rfl) (hsv : ρ s = .slice x0 n c := by kernel_rfl) (hxv : ρ x = xv := by kernel_rfl)
    (ht : P.underlying t = some (.slice T) := by kernel_rfl) (hinfo : (P.info? T).map (fun i => (i.zero.map (·.cells), i.size, i.bytes)) = some (some #[.int .u8 0], 1, 1) := by kernel_rfl) : Yields P o ρ w R := by
  obtain ⟨b, c', w', hrun, hc, hch, hb, hat⟩ := run_append8F (P := P) (ty := o.type) hx0 hs ht hinfo hbd hg
  unfold Yields
  rw [append_op ho hsv hxv hrun]
  exact k b c' w' hc (S.new hch hb hat)
end
section
variable {P : Program} {ops : Array Oper} {rest : List Oper} {o : Oper} {a : Act} {w : World} {Q : Exit → Act → World → Prop} {ρ : Operand → Value} {R : Value → World → Prop}
theorem shlS_ (kd ykd : IntKind) (x y : Int) {t yt : TypeId} {xo yo : Operand} (h : 0 ≤ y) (k : WL P ops Q rest (a.put o.dst (.int kd (kd.wrap (x * 2 ^ (min y.toNat kd.bits))))) w) (hw : Region.wanted o (yielded ops a.tmps) = true := by kernel_rfl)
    (ho : o.op = .binOp .shl t xo yo yt := by rfl) (hx : a.eval xo = .int kd x := by kernel_rfl) (hy : a.eval yo = .int ykd y := by kernel_rfl) : WL P ops Q (o :: rest) a w :=
  pure_ _ k hw (by
    have hn : ¬ y < 0 := by omega
    unfold execOp
    simp [ho, hx, hy, Go.eqGuard, Go.binOp, Op.shift, hn])
theorem Y.shlS_ (kd ykd : IntKind) (x y : Int) {t yt : TypeId} {xo yo : Operand} (h : 0 ≤ y) (k : R (.int kd (kd.wrap (x * 2 ^ (min y.toNat kd.bits)))) w)
    (ho : o.op = .binOp .shl t xo yo yt := by rfl) (hx : ρ xo = .int kd x := by kernel_rfl) (hy : ρ yo = .int ykd y := by kernel_rfl) : Yields P o ρ w R :=
  Y.pure_ _ k (by
    have hn : ¬ y < 0 := by omega
    unfold execOp
    simp [ho, hx, hy, Go.eqGuard, Go.binOp, Op.shift, hn])
end
def lsF (l : List Int) : Nat → Int := fun j => l.getD j 0
section
variable {P : Program} {ops : Array Oper} {rest : List Oper} {o : Oper} {a : Act} {w w0 : World} {ms : List Nat} {bs : List Blk} {Q : Exit → Act → World → Prop} {ρ : Operand → Value}
theorem eqAggR_ (neg : Bool) (r : Bool) (xs ys : Array Value) {v : Value} (hv : v = .bool (bif neg then !r else r)) {t yt : TypeId} {x y : Operand} (ho : o.op = .binOp (bif neg then .neq else .eql) t x y yt := by rfl) (hx : ρ x = .agg xs := by kernel_rfl) (hy : ρ y = .agg ys := by kernel_rfl) (hg : P.eqGuardType P.depth t = false := by kernel_rfl) (he : eqO P 10000 t (.agg xs) (.agg ys) = some r := by kernel_rfl) :
    (execOp ρ o).run P w = .ok (.value v) w := by
  rw [hv]; exact run_eqAgg neg ho hx hy hg he
theorem append8F_ {x0 : Option Addr} {T n c m : Nat} {f g : Nat → Int} {t tx : TypeId} {s x : Operand} {xv : Value} (S : St ms w0 bs w) (hx0 : KeyAt w x0 n c f) (hs : Src P 1 tx xv m (bvF m g) w) (hbd : n + m ≤ 140737488355328) (hg : c < n + m)
    (k : ∀ b c' w', n + m ≤ c' → St ms w0 (⟨b, true, .cells (bvZ (n + m) (catF n f g) c') T (0, 0)⟩ :: bs) w' → WL P ops Q rest (a.put o.dst (.slice (some ⟨b, 0, none⟩) (n + m) c')) w')
    (hw : Region.wanted o (yielded ops a.tmps) = true := by kernel_rfl) (ho : o.op = .call ⟨.builtin .append, #[s, x], #[t, tx]⟩ := by rfl) (hsv : a.eval s = .slice x0 n c := by kernel_rfl) (hxv : a.eval x = xv := by kernel_rfl)
    (ht : P.underlying t = some (.slice T) := by kernel_rfl) (hinfo : (P.info? T).map (fun i => (i.zero.map (·.cells), i.size, i.bytes)) = some (some #[.int .u8 0], 1, 1) := by kernel_rfl) : WL P ops Q (o :: rest) a w :=
  WL.want hw fun K hK => by
    obtain ⟨b, c', w', hrun, hc, hch, hb, hat⟩ := run_append8F (P := P) (ty := o.type) hx0 hs ht hinfo hbd hg
    unfold Oper.wp
    rw [append_op ho hsv hxv hrun]
    exact hK _ _ (k b c' w' hc (S.new hch hb hat))
end
theorem St.up {ms : List Nat} {w0 w : World} {b : Nat} {o : Obj} {B : List Blk} {L : List Nat} (S : St ms w0 (⟨b, false, o⟩ :: B) w) (hnew : w0.heap.size ≤ b) (hT : Ty L B) (hd : disjT L [tyO o] = true := by kernel_rfl) : St ms w0 (⟨b, true, o⟩ :: B) w := by
  refine St.mk' S.ch (fun x hx => ?_) (fun x hx hw => ?_) ?_
  · rcases List.mem_cons.1 hx with rfl | hx
    · exact S.at' (x := ⟨b, false, o⟩) (List.Mem.head _)
    · exact S.at' (List.Mem.tail _ hx)
  · rcases List.mem_cons.1 hx with rfl | hx
    · exact .inr hnew
    · exact S.own' (List.Mem.tail _ hx) hw
  · refine List.pairwise_cons.2 ⟨fun y hy _ e => ?_, (List.pairwise_cons.1 S.pw).2⟩
    have h1 := S.at' (x := ⟨b, false, o⟩) (List.Mem.head _)
    have h2 := S.at' (List.Mem.tail _ hy)
    simp only at h1 e
    rw [e, h2] at h1
    exact hT.ne hd y hy _ (List.Mem.head _) (congrArg tyO (Option.some.inj h1))
end Sx
namespace Sd
open Go Go.RowKit
noncomputable def over (w : World) (B : Nat) (u : World) : World := @ite _ (Below B w u) (Classical.propDecidable _) u w
theorem over_below (w : World) (B : Nat) (u : World) : Below B w (over w B u) := by
  unfold over
  split
  · assumption
  · exact Below.refl _ _
theorem over_of {w : World} {B : Nat} {u : World} (h : Below B w u) : over w B u = u := by
  unfold over; rw [if_pos h]
@[go_sem] theorem cell?_over (w : World) (B : Nat) (u : World) (b o : Nat) (h : b < B) : (over w B u).cell? ⟨b, o, none⟩ = w.cell? ⟨b, o, none⟩ := (over_below w B u).cell h
@[go_sem] theorem frozen?_over (w : World) (B : Nat) (u : World) (b o : Nat) (h : b < B) : (over w B u).frozen? ⟨b, o, none⟩ = w.frozen? ⟨b, o, none⟩ := (over_below w B u).frozen h
section
variable {P : Program}
theorem wp_region_over_lit {id : Nat} {Q : Exit → Act → World → Prop} {a : Act} {w : World} {l : List Oper} (B : Nat) (hm : P.follows .mixedOrders = true) (hB : Region.lexB .any l.toArray = true)
    (h : wpQuiet P l.toArray (fun w' => ∃ u, w' = over w B u) (fun a' => ∀ w', Below B w w' → Q .normal a' w') l a) : (Code.region id l.toArray true).wp P Q a w := by
  refine wp_region_quiet (C := fun w' => ∃ u, w' = over w B u) hm hB ⟨{ w with drawn := w.drawn + 1 }, (over_of ?_).symm⟩ ?_
  · exact ⟨rfl, rfl, rfl, Nat.le_refl _, fun _ _ => rfl⟩
  · have h2 : (fun a' => ∀ w', (∃ u, w' = over w B u) → Q .normal a' w') = fun a' => ∀ w', Below B w w' → Q .normal a' w' := by
      funext a'
      apply propext
      constructor
      · intro h w' hw; exact h w' ⟨w', (over_of hw).symm⟩
      · rintro h w' ⟨u, rfl⟩; exact h _ (over_below w B u)
    rw [h2]; simpa using h
theorem wp_region_self_lit {id : Nat} {Q : Exit → Act → World → Prop} {a : Act} {w : World} {l : List Oper} (hm : P.follows .mixedOrders = true) (hB : Region.lexB .any l.toArray = true)
    (h : wpQuiet P l.toArray (fun w' => ∃ u, w' = over w w.heap.size u) (fun a' => ∀ w', Below w.heap.size w w' → Q .normal a' w') l a) : (Code.region id l.toArray true).wp P Q a w :=
  wp_region_over_lit w.heap.size hm hB h
theorem call_over {f : FuncId} {args : Array Value} {w : World} {B : Nat} {u : World} {v : Value}
    (h : Calls P f args (over w B u) fun e w' => e = .returned v ∧ Below B (over w B u) w') : Calls P f args (over w B u) fun e w'' => e = .returned v ∧ ∃ u, w'' = over w B u :=
  h.mono fun _ w' ⟨he, hw⟩ => ⟨he, w', (over_of ((over_below w B u).trans hw)).symm⟩
theorem call_over' {f : FuncId} {args : Array Value} {w : World} {B : Nat} {u : World} {v : Value} (hB : B ≤ w.heap.size)
    (h : Calls P f args (over w B u) fun e w' => e = .returned v ∧ Below (over w B u).heap.size (over w B u) w') : Calls P f args (over w B u) fun e w'' => e = .returned v ∧ ∃ u, w'' = over w B u :=
  call_over (h.mono fun _ _ ⟨he, hw⟩ => ⟨he, hw.mono (Nat.le_trans hB (over_below w B u).size)⟩)
end
theorem bcell {W w1 : World} (hb : Below W.heap.size W w1) : (∀ b o, b < W.heap.size → w1.cell? ⟨b, o, none⟩ = W.cell? ⟨b, o, none⟩) ∧ (∀ b o, b < W.heap.size → w1.frozen? ⟨b, o, none⟩ = W.frozen? ⟨b, o, none⟩) ∧ W.heap.size ≤ w1.heap.size :=
  ⟨fun b o h => hb.cell (p := ⟨b, o, none⟩) h, fun b o h => hb.frozen (p := ⟨b, o, none⟩) h, hb.size⟩
theorem ba {w a : World} (h : Below w.heap.size w a) (o : Obj) : Below w.heap.size w (a.alloc o) := h.alloc h.size o
theorem btR {w a b : World} (h : Below w.heap.size w a) (k : Below a.heap.size a b) : Below w.heap.size w b := h.trans (k.mono h.size)
theorem bs {w a : World} (h : Below w.heap.size w a) {p : Addr} (hp : w.heap.size ≤ p.block) (v : Value) : Below w.heap.size w (a.setCell p v) := h.setCell hp v
def aggD (d : TypeDesc) : Bool := match d with | .struct _ | .array _ _ => true | _ => false
structure AggT (P : Program) (ty n : Nat) : Prop where
  desc : ∃ d, P.underlying ty = some d ∧ aggD d = true
  size : (P.info? ty).map (·.size) = some n
theorem AggT.load {P : Program} {ty n : Nat} (h : AggT P ty n) {w : World} {g : Nat} {t : TypeId} {cs : Array Value} {fr : Nat × Nat} (hg : w.heap[g]? = some (.cells cs t fr)) (hn : cs.size = n) :
    (loadVar ty ⟨g, 0, none⟩).run P w = .ok (.agg cs) w := by
  obtain ⟨⟨d, hu, hd⟩, hs⟩ := h
  exact run_loadVar_row w g t ty cs fr d hg hu (by cases d <;> first | rfl | simp [aggD] at hd) (by rw [hs, hn])
section
variable {P : Program} {ops : Array Oper} {rest : List Oper} {o : Oper} {a : Act} {w : World} {Q : Exit → Act → World → Prop}
theorem wpList_store_own {ty n : Nat} (hT : AggT P ty n) (g : Nat) {t : TypeId} {old : Array Value} (hg : w.heap[g]? = some (.cells old t (0, 0))) (hn : old.size = n) (hgd : o.guard = none) (x y : Operand) (ho : o.op = .store ty x y)
    (cells : Array Value) (hx : a.eval x = .pointer (some ⟨g, 0, none⟩)) (hy : a.eval y = .agg cells) (hc : cells.size = n) (h1 : cells.all (·.oneCell') = true)
    (h : wpList P ops Q rest (a.put o.dst undef) (w.setRow g cells)) : wpList P ops Q (o :: rest) a w :=
  wpList_store_row hgd ty x y ho g cells hx hy t old hg (by rw [hT.size, hc]) (by rw [hn, hc]) h1 h
theorem wpList_load_own {ty n : Nat} (hT : AggT P ty n) (g : Nat) {t : TypeId} {cs : Array Value} {fr : Nat × Nat} (hg : w.heap[g]? = some (.cells cs t fr)) (hn : cs.size = n) (hgd : o.guard = none) (x : Operand) (ho : o.op = .load ty x)
    (hx : a.eval x = .pointer (some ⟨g, 0, none⟩)) (h : wpList P ops Q rest (a.put o.dst (.agg cs)) w) : wpList P ops Q (o :: rest) a w := by
  obtain ⟨⟨d, hu, hd⟩, hs⟩ := hT
  exact wpList_load_row hgd ty x ho g hx t cs fr d hg hu (by cases d <;> first | rfl | simp [aggD] at hd) (by rw [hs, hn]) h
theorem bp_cell {fn : Func} {R : Ending → World → Prop} {p ty n g : Nat} {t : TypeId} {cs : Array Value} {fr : Nat × Nat} (hT : AggT P ty n) (h : fn.results = #[.cell p ty]) (hp : a.tmps.getD p undef = .pointer (some ⟨g, 0, none⟩))
    (hg : w.heap[g]? = some (.cells cs t fr)) (hn : cs.size = n) (hd : a.defers = []) (hR : R (.returned (.agg cs)) w) : bodyPost P fn R .ret a w := by
  refine bodyPost_ret (v := .agg cs) ?_ hd hR
  obtain ⟨⟨d, hu, hd⟩, hs⟩ := hT
  exact results_cell_row h _ w g t cs fr d hp hg hu (by cases d <;> first | rfl | simp [aggD] at hd) (by rw [hs, hn])
theorem bp_cell_tmp {fn : Func} {R : Ending → World → Prop} {p ty n g u : Nat} {t : TypeId} {cs : Array Value} {fr : Nat × Nat} (hT : AggT P ty n) (h : fn.results = #[.cell p ty, .tmp u]) (hp : a.tmps.getD p undef = .pointer (some ⟨g, 0, none⟩))
    (hg : w.heap[g]? = some (.cells cs t fr)) (hn : cs.size = n) (hd : a.defers = []) (hR : R (.returned (.tuple #[.agg cs, a.tmps.getD u undef])) w) : bodyPost P fn R .ret a w := by
  refine bodyPost_ret (v := .tuple #[.agg cs, a.tmps.getD u undef]) ?_ hd hR
  have hp' : a.tmps[p]?.getD undef = .pointer (some ⟨g, 0, none⟩) := by simpa using hp
  simp [results, h, hp', asAddr, hT.load hg hn]
end
theorem heap_alloc_if (w : World) (o : Obj) (k : Nat) : (w.alloc o).heap[k]? = if k = w.heap.size then some o else w.heap[k]? := by
  show (w.heap.push o)[k]? = _
  rw [Array.getElem?_push]
theorem heap_last (w : World) (o : Obj) {k : Nat} (hk : k = w.heap.size) : (w.alloc o).heap[k]? = some o := by rw [heap_alloc_if, if_pos hk]
theorem heap_prev (w : World) (o : Obj) {k : Nat} {x : Obj} (hk : k ≠ w.heap.size) (h : w.heap[k]? = some x) : (w.alloc o).heap[k]? = some x := by rw [heap_alloc_if, if_neg hk]; exact h
theorem heap_setRow_if (w : World) (g : Nat) (cs old : Array Value) (t : TypeId) (fr : Nat × Nat) (hg : w.heap[g]? = some (.cells old t fr)) : (w.setRow g cs).heap[g]? = some (.cells cs t fr) := setRow_heap w g old cs t fr hg
theorem Below_at {B : Nat} {w w' : World} (h : Below B w w') {k : Nat} {o : Obj} (hk : k < B) (ho : w.heap[k]? = some o) : w'.heap[k]? = some o := (h.block k hk).trans ho
theorem bsr {w a : World} (h : Below w.heap.size w a) {g : Nat} (hg : w.heap.size ≤ g) (cs : Array Value) : Below w.heap.size w (a.setRow g cs) := below_setRow h hg cs
theorem bits_low (k : IntKind) (n : Int) (j : Nat) (hk : k.wrap (n % 2 ^ j) = n % 2 ^ j) (hn : (BitVec.ofInt k.bits n).toNat % 2 ^ j = (n % 2 ^ j).toNat) (hj : 2 ^ j ≤ 2 ^ k.bits) : bits .and k n (2 ^ j - 1) = n % 2 ^ j := by
  unfold bits
  simp only [BitVec.toNat_and]
  have h1 : (BitVec.ofInt k.bits ((2 : Int) ^ j - 1)).toNat = 2 ^ j - 1 := by
    simp only [BitVec.toNat_ofInt]
    have : (0:Int) < 2 ^ j := Int.pow_pos (by omega)
    have h2 : ((2:Int)^j) ≤ ((2 ^ k.bits : Nat) : Int) := by exact_mod_cast hj
    rw [Int.emod_eq_of_lt (by omega) (by omega)]
    have : ((2:Int)^j) = ((2 ^ j : Nat) : Int) := by simp
    omega
  rw [h1, Nat.and_two_pow_sub_one_eq_mod, hn]
  have : (0:Int) < 2 ^ j := Int.pow_pos (by omega)
  have h0 := Int.emod_nonneg n (by omega : (2:Int) ^ j ≠ 0)
  rw [Int.toNat_of_nonneg h0]
  exact hk
def I64 (n : Int) : Prop := -9223372036854775808 ≤ n ∧ n ≤ 9223372036854775807
theorem i64 {n : Int} (h : -9223372036854775808 ≤ n ∧ n ≤ 9223372036854775807) : I64 n := h
theorem i64_wf {n : Int} (h : (Lit.int .i64 n).wf = true) : I64 n := by
  unfold I64; simpa [Lit.wf, IntKind.min, IntKind.max, IntKind.signed, IntKind.bits] using h
end Sd
namespace Sx
open Go Go.RowKit
def Rd (P : Program) (w : World) : Nat → TypeId → List Value → Prop
  | 0, _, _ => True
  | d + 1, t, cs =>
    match P.underlying t with
    | some .bool => ∃ b, cs = [.bool b]
    | some (.int k) => ∃ n, cs = [.int k n] ∧ k.min ≤ n ∧ n ≤ k.max
    | some (.slice e) => cs = [.slice none 0 0] ∨ ∃ a len cap, cs = [.slice (some a) len cap] ∧ len ≤ cap ∧ cap ≤ maxLen ∧ ∀ i, i < cap → ∃ cs', w.cells? 0 (a.add (i * P.cellsOf e)) (P.cellsOf e) = some cs' ∧ Rd P w d e cs'
    | some (.struct fs) => cs.length = P.cellsOf t ∧ ∀ (i : Nat) f, fs[i]? = some f → Rd P w d f.type ((cs.drop f.offset).take (P.cellsOf f.type))
    | some (.array n e) => cs.length = P.cellsOf t ∧ ∀ i, i < n → Rd P w d e ((cs.drop (i * P.cellsOf e)).take (P.cellsOf e))
    | _ => True
section
variable {H : Type} {enc : TypeId × Value → H} {P : Program} {w : World} {held : Bool}
theorem rd_of_trod : ∀ (d : Nat) {fuel : Nat} {t : TypeId} {cs : List Value} {x : DataW H × List MemPlace}, DataW.trod enc P w 0 (fun _ => true) held fuel t cs = some x → Rd P w d t cs
  | 0, _, _, _, _, _ => trivial
  | d + 1, fuel, t, cs, x, h => by
    unfold Rd
    split
    · rename_i hu
      obtain ⟨b, hb, _⟩ := DataW.trod_bool hu h
      exact ⟨b, hb⟩
    · rename_i k hu
      obtain ⟨n, hn, _, hw⟩ := DataW.trod_int hu h
      refine ⟨n, hn, ?_⟩
      unfold Lit.wf at hw
      simpa using hw
    · rename_i e hu
      rcases Deep.open_slice hu h with ⟨h0, _⟩ | ⟨a, len, cap, m, n, D, Pl, hc, _, hl, hm, hmm, _, hx⟩
      · exact .inl h0
      · refine .inr ⟨a, len, cap, hc, hl, hm, fun i hi => ?_⟩
        obtain ⟨cs', h1, h2⟩ := hx i (by rw [hmm]; simpa using hi)
        exact ⟨cs', h1, rd_of_trod d h2⟩
    · rename_i fs hu
      obtain ⟨xs, n, _, _, hl, hs, hx⟩ := DataW.trod_struct hu h
      refine ⟨hl, fun i f hf => ?_⟩
      have h1 := hx i f hf
      have hi : i < fs.size := by
        rcases Nat.lt_or_ge i fs.size with h2 | h2
        · exact h2
        · simp [h2] at hf
      rw [List.getElem?_eq_getElem (by rw [hs]; exact hi)] at h1
      exact rd_of_trod d h1
    · rename_i n e hu
      obtain ⟨xs, m, _, _, hl, hs, hx⟩ := DataW.trod_array hu h
      refine ⟨hl, fun i hi => ?_⟩
      have h1 := hx i hi
      rw [List.getElem?_eq_getElem (by rw [hs]; exact hi)] at h1
      exact rd_of_trod d h1
    · trivial
def cellAt (P : Program) : Nat → TypeId → Nat → Option TypeId
  | 0, _, _ => none
  | d + 1, t, j =>
    match P.underlying t with
    | some (.struct fs) => fs.toList.findSome? fun f => bif Nat.ble f.offset j && Nat.blt j (f.offset + P.cellsOf f.type) then cellAt P d f.type (j - f.offset) else none
    | some (.array n e) => bif Nat.blt (j / P.cellsOf e) n && Nat.blt 0 (P.cellsOf e) then cellAt P d e (j % P.cellsOf e) else none
    | _ => bif Nat.beq j 0 then some t else none
theorem rd_cell : ∀ (d : Nat) {t : TypeId} {cs : List Value} {j : Nat} {u : TypeId} {v : Value}, (∀ n, Rd P w n t cs) → cellAt P d t j = some u → cs[j]? = some v → ∀ n, Rd P w n u [v]
  | 0, _, _, _, _, _, _, h, _ => by simp [cellAt] at h
  | d + 1, t, cs, j, u, v, hr, h, hv => by
    unfold cellAt at h
    split at h
    · rename_i fs hu
      obtain ⟨f, hf, h⟩ := List.exists_of_findSome?_eq_some h
      obtain ⟨i, hi⟩ := List.getElem?_of_mem hf
      have hfi : fs[i]? = some f := by simpa using hi
      rw [Bool.cond_eq_ite] at h
      split at h
      · rename_i hc
        simp only [Bool.and_eq_true] at hc
        have h1 := Nat.le_of_ble_eq_true hc.1
        have h2 : j < f.offset + P.cellsOf f.type := by
          have := hc.2; unfold Nat.blt at this; exact Nat.le_of_ble_eq_true this
        refine rd_cell d (cs := (cs.drop f.offset).take (P.cellsOf f.type)) (fun n => ?_) h ?_
        · have := hr (n + 1)
          unfold Rd at this
          rw [hu] at this
          exact this.2 i f hfi
        · rw [List.getElem?_take_of_lt (by omega), List.getElem?_drop]
          rw [show f.offset + (j - f.offset) = j by omega]; exact hv
      · simp at h
    · rename_i n0 e hu
      rw [Bool.cond_eq_ite] at h
      split at h
      · rename_i hc
        simp only [Bool.and_eq_true] at hc
        have h1 : j / P.cellsOf e < n0 := by
          have := hc.1; unfold Nat.blt at this; exact Nat.le_of_ble_eq_true this
        have h2 : 0 < P.cellsOf e := by
          have := hc.2; unfold Nat.blt at this; exact Nat.le_of_ble_eq_true this
        refine rd_cell d (cs := (cs.drop (j / P.cellsOf e * P.cellsOf e)).take (P.cellsOf e)) (fun n => ?_) h ?_
        · have := hr (n + 1)
          unfold Rd at this
          rw [hu] at this
          exact this.2 _ h1
        · rw [List.getElem?_take_of_lt (Nat.mod_lt _ h2), List.getElem?_drop]
          rw [show j / P.cellsOf e * P.cellsOf e + j % P.cellsOf e = j by rw [Nat.mul_comm]; exact Nat.div_add_mod _ _]; exact hv
      · simp at h
    · rename_i hns hna
      rw [Bool.cond_eq_ite] at h
      split at h
      · rename_i hj
        obtain rfl : j = 0 := Nat.eq_of_beq_eq_true hj
        obtain rfl : t = u := by simpa using h
        intro n
        have h1 := hr n
        cases n with
        | zero => trivial
        | succ n =>
          unfold Rd at h1 ⊢
          split at h1
          · obtain ⟨b, rfl⟩ := h1; simp at hv; subst hv; exact ⟨b, rfl⟩
          · obtain ⟨k, rfl, h2⟩ := h1; simp at hv; subst hv; exact ⟨k, rfl, h2⟩
          · rcases h1 with rfl | ⟨a, len, cap, rfl, h2⟩
            · simp at hv; subst hv; exact .inl rfl
            · simp at hv; subst hv; exact .inr ⟨a, len, cap, rfl, h2⟩
          · rename_i fs hu; exact absurd hu (hns fs)
          · rename_i k e hu; exact absurd hu (hna k e)
          · trivial
      · simp at h
theorem rd_bool {u : TypeId} {v : Value} (hu : P.underlying u = some .bool) (h : ∀ n, Rd P w n u [v]) : ∃ b, v = .bool b := by
  have := h 1
  unfold Rd at this
  rw [hu] at this
  obtain ⟨b, hb⟩ := this
  exact ⟨b, by simpa using hb⟩
theorem rd_int {u : TypeId} {v : Value} {k : IntKind} (hu : P.underlying u = some (.int k)) (h : ∀ n, Rd P w n u [v]) : ∃ n, v = .int k n ∧ k.min ≤ n ∧ n ≤ k.max := by
  have := h 1
  unfold Rd at this
  rw [hu] at this
  obtain ⟨b, hb, h2⟩ := this
  exact ⟨b, by simpa using hb, h2⟩
theorem rd_slice {u e : TypeId} {v : Value} {z : Nat} {ts : List TypeId} (hu : P.underlying u = some (.slice e)) (h : ∀ n, Rd P w n u [v]) (hz : P.cellsOf e = z := by kernel_rfl) (d : Nat) (hts : (List.range z).map (cellAt P d e) = ts.map some := by kernel_rfl) :
    v = .slice none 0 0 ∨ ∃ a len cap, v = .slice (some a) len cap ∧ len ≤ cap ∧ cap ≤ maxLen ∧ ∃ c : Nat → Nat → Value, ∀ i, i < cap → ∀ j, j < z → w.cell? (a.add (i * z + j)) = some (c i j) ∧ ∀ u', ts[j]? = some u' → ∀ n, Rd P w n u' [c i j] := by
  have h1 := h 1
  unfold Rd at h1
  rw [hu] at h1
  rcases h1 with h1 | ⟨a, len, cap, h1, h2, h3, _⟩
  · exact .inl (by simpa using h1)
  · obtain rfl : v = _ := by simpa using h1
    refine .inr ⟨a, len, cap, rfl, h2, h3, ?_⟩
    subst hz
    have key : ∀ i, i < cap → ∃ cs', w.cells? 0 (a.add (i * P.cellsOf e)) (P.cellsOf e) = some cs' ∧ ∀ n, Rd P w n e cs' := by
      intro i hi
      have hat : ∀ n, ∃ cs', w.cells? 0 (a.add (i * P.cellsOf e)) (P.cellsOf e) = some cs' ∧ Rd P w n e cs' := by
        intro n
        have h4 := h (n + 1)
        unfold Rd at h4
        rw [hu] at h4
        rcases h4 with h4 | ⟨a', len', cap', h4, _, _, h5⟩
        · simp at h4
        · simp at h4
          obtain ⟨rfl, rfl, rfl⟩ := h4
          exact h5 i hi
      obtain ⟨cs', hc, _⟩ := hat 0
      refine ⟨cs', hc, fun n => ?_⟩
      obtain ⟨cs'', hc', hr⟩ := hat n
      rw [hc] at hc'
      obtain rfl : cs' = cs'' := by simpa using hc'
      exact hr
    obtain ⟨C, hC⟩ := Deep.choose_lt key
    refine ⟨fun i j => (C i).getD j undef, fun i hi j hj => ?_⟩
    obtain ⟨h5, h6⟩ := hC i hi
    obtain ⟨_, hl, hcell⟩ := World.cells?_some h5
    have h7 : (C i)[j]? = some ((C i).getD j undef) := by
      have hlt : j < (C i).length := by omega
      simp [List.getD, List.getElem?_eq_getElem hlt]
    refine ⟨?_, fun u' hu' => ?_⟩
    · have := hcell j hj
      rw [h7] at this
      have e1 : (a.add (i * P.cellsOf e)).add j = a.add (i * P.cellsOf e + j) := by
        unfold Addr.add
        split <;> split <;> split <;> simp_all <;> omega
      rw [e1] at this
      exact this
    · have hjt : cellAt P d e j = some u' := by
        have h8 : ((List.range (P.cellsOf e)).map (cellAt P d e))[j]? = some (some u') := by rw [hts]; simp [hu']
        simp [hj] at h8
        exact h8
      exact rd_cell d h6 hjt h7
theorem rd_agg {t : TypeId} {cs : Array Value} {z : Nat} {ts : List TypeId} (h : ∀ n, Rd P w n t cs.toList) (hz : cs.size = z) (d : Nat) (hts : (List.range z).map (cellAt P d t) = ts.map some := by kernel_rfl) :
    ∀ (j : Nat) u v, ts[j]? = some u → cs[j]? = some v → ∀ n, Rd P w n u [v] := by
  intro j u v hu hv
  have hj : j < z := by
    have h0 : j < cs.size := by
      rcases Nat.lt_or_ge j cs.size with h1 | h1
      · exact h1
      · simp [h1] at hv
    omega
  have hjt : cellAt P d t j = some u := by
    have h8 : ((List.range z).map (cellAt P d t))[j]? = some (some u) := by rw [hts]; simp [hu]
    simp [hj] at h8
    exact h8
  exact rd_cell d h hjt (by simpa using hv)
end
end Sx
namespace Sd
open Go Go.RowKit Go.ChangeShapes Go.WideShapes Go.ChangeAt
theorem trodAll_below {H : Type} {enc : TypeId × Value → H} {P : Program} (hl : laidOutB P = true) {W W' : World} (hb : Below W.heap.size W W') :
    ∀ {ts : List TypeId} {vs : List Value} {ds : List (DataW H)} {ps : List MemPlace}, (ts.all fun t => P.readableRec t && decide (t < P.types.size)) = true →
      DataW.TrodAll enc P W 0 (fun _ => true) true ts vs ds ps → (∀ p ∈ ps, p.block < W.heap.size) → DataW.TrodAll enc P W' 0 (fun b => decide (b < W.heap.size)) true ts vs ds ps
  | [], [], [], _, _, h, _ => h
  | t :: ts, v :: vs, d :: ds, ps, hr, h, hp => by
    obtain ⟨p, q, h1, h2, rfl⟩ := h
    simp only [List.all_cons, Bool.and_eq_true, decide_eq_true_eq] at hr
    exact ⟨p, q, Below.trod hl hr.1.1 hr.1.2 h1 hb (fun x hx => hp x (List.mem_append_left _ hx)), trodAll_below hl hb hr.2 h2 (fun x hx => hp x (List.mem_append_right _ hx)), rfl⟩
  | [], [], _ :: _, _, _, h, _ => h.elim
  | [], _ :: _, _, _, _, h, _ => h.elim
  | _ :: _, [], _, _, _, h, _ => h.elim
  | _ :: _, _ :: _, [], _, _, h, _ => h.elim
theorem law_post {H : Type} {enc : TypeId × Value → H} {P : Program} {f : Func} {s : ChangeSpec} {W W' : World} {args : Array Value} {ds gs : List (DataW H)} {before : List MemPlace} {tb : TypeId}
    (hl : laidOutB P = true) (hr : (f.params.toList.all fun t => P.readableRec t && decide (t < P.types.size)) = true) (hvars : s.vars = []) (hres : f.resultTypes = #[tb]) (htb : P.underlying tb = some .bool)
    (hs : s.fn H (ds ++ gs) = { results := [.lit (.bool true)], args := ds, vars := [] }) (hW : DataW.Whole enc P f.params.toList s.vars false W args.toList ds gs before) (hb : Below W.heap.size W W') :
    s.post enc P f false true false false W args (.bool true) W' := by
  have hW0 := hW
  have hlt := fun p hp => hW.lt p hp
  obtain ⟨p, q, hA, hV, rfl, hz, hn⟩ := hW
  rw [hvars] at hV
  obtain ⟨rfl, rfl⟩ := trodVars_none hV
  refine ⟨ds, [], p ++ [], [], p, [], hW0, ?_, ?_, ?_, ?_, fun h => by cases h⟩
  · rw [hs, hres]
    exact trodAll_mk1 (shut_bool htb _)
  · rw [hs]
    exact trodAll_below hl hb hr hA (fun x hx => hlt x (by simpa using hx))
  · rw [hs, hvars]; exact rfl
  · exact hb.frame _
section
variable {P : Program} {w : World} {r : Reach} {b0 : Nat} {t : TypeId} {v : Value}
theorem open_cells {d : TypeDesc} {ts : List TypeId} (hu : P.underlying t = some d) (hd : aggD d = true) (hct : P.cellTypes P.depth t = some ts) (hn : P.cellsOf t = ts.length) (hv : Value.okWide P w r b0 t v) :
    ∃ cs : Array Value, v = .agg cs ∧ cs.size = ts.length ∧ ∀ (i : Nat) x u, cs[i]? = some x → ts[i]? = some u → Cell.okWide P w r b0 u x := by
  have h : ∃ cs, v = .agg cs ∧ cs.size = P.cellsOf t ∧ Row.okWide P w r b0 t cs := by
    unfold Value.okWide at hv
    rw [hu] at hv
    cases d <;> first | exact hv | simp [aggD] at hd
  obtain ⟨cs, rfl, hsz, ts', h1, _, h2⟩ := h
  rw [hct] at h1
  obtain rfl : ts = ts' := by simpa using h1
  refine ⟨cs, rfl, hsz.trans hn, ?_⟩
  intro i x u hx hu'
  obtain ⟨u', h3, h4⟩ := h2 i x hx
  have hi : i < ts.length := by
    rcases Nat.lt_or_ge i ts.length with h | h
    · exact h
    · simp [h] at hu'
  rw [Nat.mod_eq_of_lt hi, hu'] at h3
  obtain rfl : u = u' := by simpa using h3
  exact h4
theorem okWide_cell {d : TypeDesc} (hu : P.underlying t = some d) (hd : aggD d = false) (hv : Value.okWide P w r b0 t v) : Cell.okWide P w r b0 t v := by
  unfold Value.okWide at hv
  rw [hu] at hv
  cases d <;> first | exact hv | simp [aggD] at hd
theorem cell_int {k : IntKind} (hu : P.underlying t = some (.int k)) (h : Cell.okWide P w r b0 t v) : ∃ n, v = .int k n ∧ k.min ≤ n ∧ n ≤ k.max := by
  unfold Cell.okWide at h
  rw [hu] at h
  unfold Cell.ok at h
  rw [hu] at h
  cases v <;> simp at h
  obtain ⟨rfl, h1, h2⟩ := h
  exact ⟨_, rfl, h1, h2⟩
theorem cell_i64 (hu : P.underlying t = some (.int .i64)) (h : Cell.okWide P w r b0 t v) : ∃ n, v = .int .i64 n ∧ I64 n := by
  obtain ⟨n, h1, h2, h3⟩ := cell_int hu h
  exact ⟨n, h1, by unfold I64; simpa [IntKind.min, IntKind.max, IntKind.signed, IntKind.bits] using And.intro h2 h3⟩
theorem cell_u8 (hu : P.underlying t = some (.int .u8)) (h : Cell.okWide P w r b0 t v) : ∃ n, v = .int .u8 n ∧ 0 ≤ n ∧ n ≤ 255 := by
  obtain ⟨n, h1, h2, h3⟩ := cell_int hu h
  exact ⟨n, h1, by simpa [IntKind.min, IntKind.max, IntKind.signed, IntKind.bits] using And.intro h2 h3⟩
theorem cell_u16 (hu : P.underlying t = some (.int .u16)) (h : Cell.okWide P w r b0 t v) : ∃ n, v = .int .u16 n ∧ 0 ≤ n ∧ n ≤ 65535 := by
  obtain ⟨n, h1, h2, h3⟩ := cell_int hu h
  exact ⟨n, h1, by simpa [IntKind.min, IntKind.max, IntKind.signed, IntKind.bits] using And.intro h2 h3⟩
theorem cell_bool (hu : P.underlying t = some .bool) (h : Cell.okWide P w r b0 t v) : ∃ b, v = .bool b := by
  unfold Cell.okWide at h
  rw [hu] at h
  unfold Cell.ok at h
  rw [hu] at h
  cases v <;> simp at h
  exact ⟨_, rfl⟩
end
theorem arr2 {cs : Array Value} (h : cs.size = 2) : ∃ c0 c1 : Value, cs = #[c0, c1] := by
  rcases cs with ⟨l⟩
  match l, h with
  | [c0, c1], _ => exact ⟨c0, c1, rfl⟩
theorem arr3 {cs : Array Value} (h : cs.size = 3) : ∃ c0 c1 c2 : Value, cs = #[c0, c1, c2] := by
  rcases cs with ⟨l⟩
  match l, h with
  | [c0, c1, c2], _ => exact ⟨c0, c1, c2, rfl⟩
theorem arr4 {cs : Array Value} (h : cs.size = 4) : ∃ c0 c1 c2 c3 : Value, cs = #[c0, c1, c2, c3] := by
  rcases cs with ⟨l⟩
  match l, h with
  | [c0, c1, c2, c3], _ => exact ⟨c0, c1, c2, c3, rfl⟩
theorem arr5 {cs : Array Value} (h : cs.size = 5) : ∃ c0 c1 c2 c3 c4 : Value, cs = #[c0, c1, c2, c3, c4] := by
  rcases cs with ⟨l⟩
  match l, h with
  | [c0, c1, c2, c3, c4], _ => exact ⟨c0, c1, c2, c3, c4, rfl⟩
theorem arr6 {cs : Array Value} (h : cs.size = 6) : ∃ c0 c1 c2 c3 c4 c5 : Value, cs = #[c0, c1, c2, c3, c4, c5] := by
  rcases cs with ⟨l⟩
  match l, h with
  | [c0, c1, c2, c3, c4, c5], _ => exact ⟨c0, c1, c2, c3, c4, c5, rfl⟩
theorem arr7 {cs : Array Value} (h : cs.size = 7) : ∃ c0 c1 c2 c3 c4 c5 c6 : Value, cs = #[c0, c1, c2, c3, c4, c5, c6] := by
  rcases cs with ⟨l⟩
  match l, h with
  | [c0, c1, c2, c3, c4, c5, c6], _ => exact ⟨c0, c1, c2, c3, c4, c5, c6, rfl⟩
theorem arr8 {cs : Array Value} (h : cs.size = 8) : ∃ c0 c1 c2 c3 c4 c5 c6 c7 : Value, cs = #[c0, c1, c2, c3, c4, c5, c6, c7] := by
  rcases cs with ⟨l⟩
  match l, h with
  | [c0, c1, c2, c3, c4, c5, c6, c7], _ => exact ⟨c0, c1, c2, c3, c4, c5, c6, c7, rfl⟩
end Sd
namespace Sd
abbrev Byt := Nat → Int
structure Timer where
  n : Int
  most : Int
deriving DecidableEq, Inhabited
structure Tok where
  holder : Int
  epoch : Int
  offer : Int
  oa : Timer
  la : Timer
  bad : Bool
deriving DecidableEq, Inhabited
structure Label where
  rule : Int
  source : Int
  seq : Int
deriving DecidableEq, Inhabited
structure X4 where
  a : Int
  b : Int
  c : Int
  d : Int
deriving DecidableEq, Inhabited
def X4.get (x : X4) (i : Nat) : Int := match i with | 0 => x.a | 1 => x.b | 2 => x.c | _ => x.d
def X4.map (f : Int → Int) (x : X4) : X4 := ⟨f x.a, f x.b, f x.c, f x.d⟩
def X4.zip (f : Int → Int → Int) (x y : X4) : X4 := ⟨f x.a y.a, f x.b y.b, f x.c y.c, f x.d y.d⟩
def X4.zero : X4 := ⟨0, 0, 0, 0⟩
structure Point where
  cls : Int
  to_ : X4
  now : X4
  by_ : Label
deriving DecidableEq, Inhabited
structure Rec where
  kind : Int
  source : Int
  seq : Int
  epoch : Int
  code : Int
  how : Int
deriving DecidableEq, Inhabited
structure Msg where
  kind : Int
  seq : Int
  role : Int
  to_ : Int
  epoch : Int
  mode : Int
  cls : Int
  now : Bool
  x : X4
deriving DecidableEq, Inhabited
structure Reply where
  kind : Int
  seq : Int := 0
  role : Int := 0
  who : Int := 0
  epoch : Int := 0
  code : Int := 0
  nonce : Byt := fun _ => 0
deriving Inhabited
structure Sample where
  valid : Bool
  x : X4
  give : Bool
deriving DecidableEq, Inhabited
structure Window where
  any : Bool
  high : Int
  seen : Int
deriving DecidableEq, Inhabited
structure Ask where
  source : Int
  rank : Int
  age : Timer
deriving DecidableEq, Inhabited
structure Door where
  many : Int
  opn : Bool
  nonce : Byt
deriving Inhabited
structure Session where
  on : Bool
  silent : Timer
  role : Int
  key : Byt
  seen : Window
deriving Inhabited
structure Act where
  mode : Int
  cls : Int
  out : X4
  modeBy : Label
  pointBy : Label
deriving DecidableEq, Inhabited
structure Pol where
  i : Nat → Int
  k : Nat → Nat × Byt
namespace Pol
def order (p : Pol) (k : Nat) : Int := p.i k
def roles (p : Pol) (s : Nat) : Int := p.i (9 + s)
def table (p : Pol) (m r : Nat) : Int := p.i (14 + 4 * m + r)
def graph (p : Pol) (m : Nat) : Int := p.i (34 + m)
def start (p : Pol) : Int := p.i 39
def safe (p : Pol) : Int := p.i 40
def lost (p : Pol) : Int := p.i 41
def beat (p : Pol) : Int := p.i 42
def lose (p : Pol) : Int := p.i 43
def offer (p : Pol) : Int := p.i 44
def ask (p : Pol) : Int := p.i 45
def stick (p : Pol) : Int := p.i 46
def beyond (p : Pol) : Int := p.i 47
def queue (p : Pol) : Int := p.i 48
def sessions (p : Pol) : Int := p.i 49
def most (p : Pol) (c : Nat) : Int := p.i (50 + c)
def rate (p : Pol) : Int := p.i 54
def epoch (p : Pol) : Int := p.i 55
end Pol
end Sd
namespace Sd
def sat (n most : Int) : Int := if n < most then n + 1 else most
def clamp (n low high : Int) : Int := if n < low then low else if high < n then high else n
def toward (now to_ by_ : Int) : Int :=
  if by_ < 1 then now
  else if now ≤ to_ then (if to_ - now ≤ by_ then to_ else now + by_)
  else (if now - to_ ≤ by_ then to_ else now - by_)
def has (set i : Int) : Bool := decide (0 ≤ set) && decide (0 ≤ i) && decide (i ≤ 62) && decide (set / 2 ^ i.toNat % 2 = 1)
namespace Timer
def zero : Timer := ⟨0, 0⟩
def start (most : Int) : Timer := ⟨0, max most 0⟩
def step (t : Timer) : Timer := { t with n := sat t.n t.most }
def due (t : Timer) : Bool := decide (t.most ≤ t.n)
end Timer
def placeOf (p : Pol) (s : Int) : Int :=
  if p.i 0 = s then 0 else if p.i 1 = s then 1 else if p.i 2 = s then 2 else if p.i 3 = s then 3 else if p.i 4 = s then 4 else -1
def rank (p : Pol) (s : Int) : Int := placeOf p s
def higher (p : Pol) (a b : Int) : Bool := decide (placeOf p a ≠ -1) && decide (placeOf p b ≠ -1) && decide (placeOf p a < placeOf p b)
def below (n bound : Int) : Bool := decide (0 ≤ n) && decide (n < bound)
def takes (p : Pol) (source role : Int) : Bool := below source 5 && below role 4 && has (p.roles source.toNat) role
def may (p : Pol) (mode role cls : Int) : Bool := below mode 5 && below role 4 && below cls 4 && has (p.table mode.toNat role.toNat) cls
def goes (p : Pol) (from_ to_ : Int) : Bool := below from_ 5 && below to_ 5 && has (p.graph from_.toNat) to_
namespace Tok
def pass (t : Tok) (to_ epoch : Int) : Tok := ⟨to_, epoch, -1, .zero, .zero, t.bad⟩
def new (p : Pol) : Tok := ⟨4, p.epoch, -1, .zero, .zero, false⟩
def grant (t : Tok) (to_ : Int) : Tok × Int :=
  if to_ < 0 ∨ 5 ≤ to_ then (t, 1) else if to_ = t.holder then (t, 25) else if 65535 ≤ t.epoch then (t, 24)
  else (t.pass to_ (t.epoch + 1), 0)
def seize (t : Tok) : Tok := t.pass 4 (if t.holder ≠ 4 then sat t.epoch 65535 else t.epoch)
def endOffer (t : Tok) : Tok := { t with offer := -1, oa := .zero }
def make (p : Pol) (t : Tok) (from_ to_ : Int) (there : Bool) : Tok × Int :=
  if from_ ≠ t.holder then (t, 20) else if 65535 ≤ t.epoch then (t, 24) else if to_ = from_ then (t, 25)
  else if to_ < 1 ∨ 3 < to_ ∨ there = false then (t, 2) else if 0 ≤ t.offer then (t, 28)
  else ({ t with offer := to_, oa := .start p.offer }, 0)
def accept (t : Tok) (from_ epoch : Int) : Tok × Int :=
  if t.offer < 0 ∨ t.offer ≠ from_ then (t, 28) else if epoch ≠ t.epoch then (t, 21) else t.grant from_
def deny (t : Tok) (from_ : Int) : Tok × Int :=
  if t.offer < 0 ∨ t.offer ≠ from_ then (t, 28) else (t.endOffer, 0)
def drop (t : Tok) (source : Int) : Tok × Bool :=
  if t.offer < 0 ∨ t.offer ≠ source then (t, false) else (t.endOffer, true)
def tick (t : Tok) : Tok × Int :=
  if t.offer < 0 then (t, -1)
  else if t.oa.step.due then (({ t with oa := t.oa.step } : Tok).endOffer, t.offer)
  else ({ t with oa := t.oa.step }, -1)
end Tok
namespace Q
def waits (l : List Ask) (s : Int) : Bool := l.any fun a => decide (a.source = s)
def insert (l : List Ask) (a : Ask) : List Ask := (l.takeWhile fun x => decide (x.rank ≤ a.rank)) ++ a :: (l.dropWhile fun x => decide (x.rank ≤ a.rank))
def push (most : Int) (l : List Ask) (a : Ask) : List Ask × Int :=
  if waits l a.source then (l, 27) else if most ≤ l.length then (l, 3) else (insert l a, 0)
def drop (l : List Ask) (s : Int) : List Ask := l.filter fun a => decide (a.source ≠ s)
def aged (l : List Ask) : List Ask := l.map fun a => { a with age := a.age.step }
def gone (l : List Ask) : List Ask := (aged l).filter fun a => a.age.due
def kept (l : List Ask) : List Ask := (aged l).filter fun a => !a.age.due
end Q
def askTok (p : Pol) (t : Tok) (most : Int) (q : List Ask) (from_ : Int) (now : Bool) : Tok × Int × Int × List Ask :=
  if t.bad then (t, 0, 29, q) else if from_ = t.holder then (t, 0, 25, q) else if 65535 ≤ t.epoch then (t, 0, 24, q)
  else if t.holder = 4 ∨ (now = true ∧ higher p from_ t.holder = true) then
    (if (t.grant from_).2 ≠ 0 then (t, 0, (t.grant from_).2, q) else ((t.grant from_).1, 3, 0, Q.drop q from_))
  else if now then (t, 0, 26, q)
  else (t, 0, (Q.push most q ⟨from_, rank p from_, .start p.ask⟩).2, (Q.push most q ⟨from_, rank p from_, .start p.ask⟩).1)
def toFirst (t : Tok) (q : List Ask) : Tok × Int × List Ask :=
  match q with
  | [] => (t, 2, q)
  | a :: _ => if (t.grant a.source).2 ≠ 0 then (t, (t.grant a.source).2, q) else ((t.grant a.source).1, 0, Q.drop q a.source)
def releaseTok (t : Tok) (q : List Ask) (from_ : Int) : Tok × Int × List Ask :=
  if from_ ≠ t.holder then (t, 20, q) else if 65535 ≤ t.epoch then (t, 24, q) else toFirst t q
def loseTok (p : Pol) (t : Tok) (q : List Ask) (there : Bool) : Tok × Int × List Ask :=
  if t.holder = 4 ∨ there = true then ({ t with la := .zero }, 0, q)
  else
    let la := (if t.la.most = 0 then Timer.start p.lose else t.la).step
    let t1 : Tok := { t with la := la }
    if la.due = false then (t1, 0, q)
    else if 65535 ≤ t.epoch then (t1.seize, 6, q)
    else if (toFirst t1 q).2.1 ≠ 0 then ((t1.grant 4).1, 5, (toFirst t1 q).2.2)
    else ((toFirst t1 q).1, 5, (toFirst t1 q).2.2)
namespace Point
def set (p : Pol) (pt : Point) (cls : Int) (x : X4) (by_ : Label) : Point :=
  { pt with cls := cls, by_ := by_, to_ := if cls < 0 ∨ 4 ≤ cls then .zero else x.map fun n => clamp n (-(p.most cls.toNat)) (p.most cls.toNat) }
def hold (pt : Point) (by_ : Label) : Point := { pt with to_ := .zero, by_ := by_ }
def step (p : Pol) (pt : Point) : Point :=
  let now := X4.zip (fun a b => toward a b p.rate) pt.now pt.to_
  { pt with now := now, by_ := if now = pt.now then pt.by_ else { pt.by_ with rule := 4 } }
end Point
def far (most : Int) (x : X4) : Bool :=
  (decide (x.a < -most) || decide (most < x.a)) || (decide (x.b < -most) || decide (most < x.b)) || (decide (x.c < -most) || decide (most < x.c)) || (decide (x.d < -most) || decide (most < x.d))
def see (p : Pol) (run : Int) (s : Sample) : Int × Bool :=
  if s.valid = false ∨ far p.beyond s.x = false then (0, false)
  else (sat (max run 0) p.stick, decide (p.stick ≤ sat (max run 0) p.stick))
def judge (p : Pol) (t : Tok) (source role mode : Int) (m : Msg) : Int :=
  if m.kind ≠ 10 ∧ m.kind ≠ 11 then 1 else if source ≠ t.holder then 20 else if m.epoch ≠ t.epoch then 21
  else if may p mode role (if m.kind = 10 then 0 else m.cls) = false then 22
  else if m.kind = 10 ∧ goes p mode m.mode = false then 23 else 0
end Sd
namespace Sd
def zeroMsg (k : Int) : Msg := ⟨k, 0, 0, 0, 0, 0, 0, false, .zero⟩
structure Crypt where
  take : Nat → Byt → Option Msg
  nonce : Nat × Byt → Int → Int → Byt
  right : Nat × Byt → Int → Int → Byt → Byt → Bool
  key : Nat × Byt → Int → Int → Byt → Byt
  opens : Byt → Int → Nat → Byt → Bool
  next : Byt → Rec → Byt
  see : Window → Int → Window
structure Tab where
  sticks : Bool × Timer
  ses : Nat → Session
def Session.zero : Session := ⟨false, .zero, 0, fun _ => 0, ⟨false, 0, 0⟩⟩
namespace Tab
def new : Tab := ⟨(false, .zero), fun _ => .zero⟩
def ofOn (t : Tab) (s : Int) : Bool := decide (1 ≤ s) && decide (s ≤ 3) && (t.ses (s.toNat - 1)).on
def on (t : Tab) (s : Int) : Bool := if s = 4 then true else if s = 0 then t.sticks.1 else t.ofOn s
def role (t : Tab) (s : Int) : Int := if t.ofOn s then (t.ses (s.toNat - 1)).role else 0
def many (t : Tab) : Int := (if (t.ses 0).on then 1 else 0) + (if (t.ses 1).on then 1 else 0) + (if (t.ses 2).on then 1 else 0)
def setS (t : Tab) (i : Nat) (s : Session) : Tab := { t with ses := fun j => if j = i then s else t.ses j }
def begin_ (p : Pol) (t : Tab) (s r : Int) (key : Byt) : Tab × Int :=
  if s < 1 ∨ 3 < s ∨ r < 0 ∨ 4 ≤ r then (t, 1)
  else if t.ofOn s = false ∧ p.sessions ≤ t.many then (t, 19)
  else (t.setS (s.toNat - 1) ⟨true, .start p.beat, r, key, ⟨false, 0, 0⟩⟩, 0)
def take (C : Crypt) (p : Pol) (t : Tab) (s : Int) (n : Nat) (f : Byt) : Tab × Except Int Msg :=
  if t.ofOn s = false then (t, .error 16) else
  if n < 8 ∨ C.opens (t.ses (s.toNat - 1)).key s n f = false then (t, .error 14) else
    match C.take (n - 8) f with
    | none => (t, .error 13)
    | some m =>
      if m.kind = 1 ∨ m.kind = 2 then (t, .error 13)
      else if C.see (t.ses (s.toNat - 1)).seen m.seq = (t.ses (s.toNat - 1)).seen then (t, .error 15)
      else (t.setS (s.toNat - 1) { (t.ses (s.toNat - 1)) with seen := C.see (t.ses (s.toNat - 1)).seen m.seq, on := true, silent := .start p.beat }, .ok m)
def end_ (t : Tab) (s : Int) : Tab := if t.ofOn s then t.setS (s.toNat - 1) .zero else t
def sample (p : Pol) (t : Tab) : Tab := { t with sticks := (true, .start p.beat) }
def sticksOver (t : Tab) : Bool := t.sticks.1 && t.sticks.2.step.due
def sesOver (t : Tab) (i : Nat) : Bool := (t.ses i).on && (t.ses i).silent.step.due
def tick (t : Tab) : Tab :=
  { sticks := if t.sticks.1 then (if t.sticks.2.step.due then (false, .zero) else (true, t.sticks.2.step)) else t.sticks, ses := fun i => if (t.ses i).on then (if (t.ses i).silent.step.due then Session.zero else { (t.ses i) with silent := (t.ses i).silent.step }) else t.ses i }
def ended (t : Tab) : List Int :=
  (if t.sticksOver then [0] else []) ++ (if t.sesOver 0 then [1] else []) ++ (if t.sesOver 1 then [2] else []) ++ (if t.sesOver 2 then [3] else [])
end Tab
structure Core where
  p : Pol
  t : Tok
  q : List Ask
  doors : Nat → Door
  tab : Tab
  samples : Int
  beyond : Int
  mode : Int
  modeBy : Label
  pt : Point
  head : Byt
structure Scene where
  c : Core
  sent : List (Int × Reply)
  recs : List Rec
def failsafe : Label := ⟨2, 4, 0⟩
def linked (s : Int) : Bool := decide (1 ≤ s) && decide (s ≤ 3)
def Door.zero : Door := ⟨0, false, fun _ => 0⟩
def Core.new (p : Pol) : Core :=
  ⟨p, .new p, [], fun _ => .zero, .new, 0, 0, p.start, failsafe, ⟨1, .zero, .zero, failsafe⟩, fun _ => 0⟩
def Core.act (c : Core) : Act := ⟨c.mode, c.pt.cls, c.pt.now, c.modeBy, c.pt.by_⟩
namespace Scene
variable (C : Crypt)
def tell (s : Scene) (l : Int) (r : Reply) : Scene := { s with sent := s.sent ++ [(l, r)] }
def hear (s : Scene) (l : Int) (r : Reply) : Scene := if linked l && s.c.tab.on l then s.tell l r else s
def record (s : Scene) (kind source seq code how : Int) : Scene :=
  let r : Rec := ⟨kind, source, seq, s.c.t.epoch, code, how⟩
  { s with recs := s.recs ++ [r], c := { s.c with head := C.next s.c.head r } }
def refuse (s : Scene) (l n code : Int) : Scene := (s.tell l { kind := 132, seq := n, code := code }).record C 7 l n code 0
def reject (s : Scene) (l code : Int) : Scene := s.record C 1 l 0 code 0
def done (s : Scene) (l n : Int) : Scene := s.tell l { kind := 131, seq := n }
def goes (s : Scene) (t : Tok) (how n : Int) : Scene :=
  let a := s.c.t.holder
  let s1 : Scene := { s with c := { s.c with t := t, q := Q.drop s.c.q t.holder } }
  let s2 := s1.hear a { kind := 134, who := t.holder, epoch := t.epoch }
  let s3 := s2.hear t.holder { kind := 133, epoch := t.epoch }
  s3.record C 8 t.holder n 0 how
def gone (s : Scene) (l who code : Int) : Scene := s.hear l { kind := 136, who := who, code := code }
def leave (s : Scene) (source : Int) : Scene :=
  let s1 : Scene := { s with c := { s.c with q := Q.drop s.c.q source } }
  if (s1.c.t.drop source).2 = false then s1
  else (({ s1 with c := { s1.c with t := (s1.c.t.drop source).1 } } : Scene).gone (s1.c.t.drop source).1.holder source 16).record C 12 source 0 16 0
def fall (s : Scene) (mode : Int) (by_ : Label) : Scene := { s with c := { s.c with mode := mode, modeBy := by_, pt := s.c.pt.hold by_ } }
def hello (s : Scene) (l : Int) (n : Nat) (f : Byt) : Scene :=
  match C.take n f with
  | none => s.reject C l 13
  | some m =>
    if takes s.c.p l m.role = false then s.refuse C l 0 18
    else
      let d := s.c.doors (l.toNat - 1)
      if 4294967295 ≤ d.many then s.refuse C l 0 24
      else
        let x := C.nonce (s.c.p.k 3) l (d.many + 1)
        let s1 : Scene := { s with c := { s.c with doors := fun j => if j = l.toNat - 1 then ⟨d.many + 1, true, x⟩ else s.c.doors j } }
        (s1.tell l { kind := 129, nonce := x }).record C 2 l 0 0 0
def prove (s : Scene) (l : Int) (n : Nat) (f : Byt) : Scene :=
  if n ≠ 10 then s.reject C l 13
  else match C.take 2 f with
  | none => s.reject C l 13
  | some m =>
    let d := s.c.doors (l.toNat - 1)
    if d.opn = false then s.refuse C l 0 17
    else
      let s1 : Scene := { s with c := { s.c with doors := fun j => if j = l.toNat - 1 then ⟨d.many, false, fun _ => 0⟩ else s.c.doors j } }
      if C.right (s.c.p.k (l.toNat - 1)) l m.role d.nonce (fun j => f (2 + j)) = false then s1.reject C l 14
      else if takes s.c.p l m.role = false then s1.refuse C l 0 18
      else
        let (tab, e) := Tab.begin_ s.c.p s.c.tab l m.role (C.key (s.c.p.k (l.toNat - 1)) l m.role d.nonce)
        if e ≠ 0 then s1.refuse C l 0 e
        else
          let s2 : Scene := { s1 with c := { s1.c with tab := tab } }
          (s2.tell l { kind := 130, role := m.role, who := s.c.t.holder, epoch := s.c.t.epoch }).record C 3 l 0 0 0
def setTok (s : Scene) (t : Tok) : Scene := { s with c := { s.c with t := t } }
def bye (s : Scene) (l : Int) (m : Msg) : Scene :=
  ((({ s with c := { s.c with tab := s.c.tab.end_ l } } : Scene).leave C l).record C 4 l m.seq 0 0).done l m.seq
def ask (s : Scene) (l : Int) (m : Msg) : Scene :=
  let (t, how, e, q) := askTok s.c.p s.c.t s.c.p.queue s.c.q l m.now
  if e ≠ 0 then s.refuse C l m.seq e
  else
    let s1 : Scene := { s with c := { s.c with q := q } }
    (if 0 < how then s1.goes C t how m.seq else (s1.setTok t).record C 10 l m.seq 0 0).done l m.seq
def offer (s : Scene) (l : Int) (m : Msg) : Scene :=
  let (t, e) := Tok.make s.c.p s.c.t l m.to_ (s.c.tab.on m.to_)
  if e ≠ 0 then s.refuse C l m.seq e
  else ((((s.setTok t).hear m.to_ { kind := 135, who := l, epoch := t.epoch }).record C 9 l m.seq 0 m.to_)).done l m.seq
def accept (s : Scene) (l : Int) (m : Msg) : Scene :=
  let (t, e) := s.c.t.accept l m.epoch
  if e ≠ 0 then s.refuse C l m.seq e else (s.goes C t 1 m.seq).done l m.seq
def deny (s : Scene) (l : Int) (m : Msg) : Scene :=
  let (t, e) := s.c.t.deny l
  if e ≠ 0 then s.refuse C l m.seq e
  else ((((s.setTok t).gone t.holder l 0).record C 11 l m.seq 0 0)).done l m.seq
def release (s : Scene) (l : Int) (m : Msg) : Scene :=
  let (t, e, q) := releaseTok s.c.t s.c.q l
  if e ≠ 0 then s.refuse C l m.seq e else (({ s with c := { s.c with q := q } } : Scene).goes C t 2 m.seq).done l m.seq
def command (s : Scene) (l : Int) (m : Msg) : Scene :=
  let e := judge s.c.p s.c.t l (s.c.tab.role l) s.c.mode m
  if e ≠ 0 then s.refuse C l m.seq e
  else
    let by_ : Label := ⟨1, l, m.seq⟩
    let s1 : Scene := if m.kind = 10 then { s with c := { s.c with mode := m.mode, modeBy := by_ } }
      else { s with c := { s.c with pt := s.c.pt.set s.c.p m.cls m.x by_ } }
    (s1.record C 6 l m.seq 0 0).done l m.seq
def say (s : Scene) (l : Int) (m : Msg) : Scene :=
  if m.kind = 3 then s.done l m.seq else if m.kind = 4 then s.bye C l m else if m.kind = 5 then s.ask C l m
  else if m.kind = 6 then s.offer C l m else if m.kind = 7 then s.accept C l m else if m.kind = 8 then s.deny C l m
  else if m.kind = 9 then s.release C l m else if m.kind = 10 ∨ m.kind = 11 then s.command C l m else s
def item (s : Scene) (l code : Int) (n : Nat) (f : Byt) : Scene :=
  if code ≠ 0 then s.reject C l code
  else if 0 < n ∧ f 0 = 1 then s.hello C l n f
  else if 0 < n ∧ f 0 = 2 then s.prove C l n f
  else
    match s.c.tab.take C s.c.p l n f with
    | (_, .error e) => s.reject C l e
    | (tab, .ok m) => ({ s with c := { s.c with tab := tab } } : Scene).say C l m
def sample (s : Scene) (x : Sample) : Scene :=
  if x.valid = false then { s with c := { s.c with beyond := 0 } }
  else
    let n := sat s.c.samples 4294967295
    let r := see s.c.p s.c.beyond x
    let s1 : Scene := { s with c := { s.c with samples := n, tab := s.c.tab.sample s.c.p, beyond := r.1 } }
    if s.c.t.holder = 0 ∧ x.give = true then
      let (t, e, q) := releaseTok s.c.t s.c.q 0
      if e ≠ 0 then s1.record C 7 0 n e 0 else ({ s1 with c := { s1.c with q := q } } : Scene).goes C t 2 n
    else if s.c.t.holder = 0 then
      let e := judge s.c.p s.c.t 0 0 s.c.mode { zeroMsg 11 with epoch := s.c.t.epoch, cls := 1 }
      if e ≠ 0 then s1.record C 7 0 n e 0
      else ({ s1 with c := { s1.c with pt := s1.c.pt.set s.c.p 1 x.x ⟨1, 0, n⟩ } } : Scene).record C 6 0 n 0 0
    else if r.2 then
      let (t, e) := s.c.t.grant 0
      if e ≠ 0 then s1.record C 7 0 n e 0 else s1.goes C t 4 n
    else s1
def health (s : Scene) (bad : Bool) : Scene :=
  let s1 := s.setTok { s.c.t with bad := bad }
  if bad = false then s1
  else
    let t := s1.c.t.seize
    let s2 := if s1.c.t.holder ≠ 4 then s1.goes C t 6 0 else s1.setTok t
    let s3 := s2.c.q.foldl (fun (s : Scene) (a : Ask) => ({ s with c := { s.c with q := Q.drop s.c.q a.source } } : Scene).gone a.source 4 29) s2
    s3.fall s3.c.p.safe failsafe
def lose (s : Scene) : Scene :=
  let (t, how, q) := loseTok s.c.p s.c.t s.c.q (s.c.tab.on s.c.t.holder)
  if how ≤ 0 then s.setTok t
  else
    let s1 := ({ s with c := { s.c with q := q } } : Scene).goes C t how 0
    if how = 5 then s1.fall s1.c.p.lost ⟨3, 4, 0⟩ else s1.fall s1.c.p.safe failsafe
def tick (s : Scene) : Scene :=
  let gone0 := s.c.tab.ended
  let s0 : Scene := { s with c := { s.c with tab := s.c.tab.tick } }
  let s1 := gone0.foldl (fun (s : Scene) (x : Int) => let s := s.record C 5 x 0 0 0; if linked x then s.leave C x else s) s0
  let (t, whose) := s1.c.t.tick
  let s2 := s1.setTok t
  let s3 := if 0 ≤ whose then (s2.gone t.holder whose 30).record C 12 whose 0 30 0 else s2
  let late := Q.gone s3.c.q
  let s4 : Scene := { s3 with c := { s3.c with q := Q.kept s3.c.q } }
  let s5 := late.foldl (fun (s : Scene) (a : Ask) => (s.gone a.source a.source 30).record C 12 a.source 0 30 0) s4
  let s6 := s5.lose C
  { s6 with c := { s6.c with pt := s6.c.pt.step s6.c.p } }
end Scene
end Sd
namespace Sd
structure PolOK (p : Pol) : Prop where
  o0 : p.i 0 = 0
  o4 : p.i 4 = 4
  perm : (p.i 1 = 1 ∧ p.i 2 = 2 ∧ p.i 3 = 3) ∨ (p.i 1 = 1 ∧ p.i 2 = 3 ∧ p.i 3 = 2) ∨ (p.i 1 = 2 ∧ p.i 2 = 1 ∧ p.i 3 = 3) ∨
    (p.i 1 = 2 ∧ p.i 2 = 3 ∧ p.i 3 = 1) ∨ (p.i 1 = 3 ∧ p.i 2 = 1 ∧ p.i 3 = 2) ∨ (p.i 1 = 3 ∧ p.i 2 = 2 ∧ p.i 3 = 1)
  start : 0 ≤ p.start ∧ p.start ≤ 4
  safe : 0 ≤ p.safe ∧ p.safe ≤ 4
  lost : 0 ≤ p.lost ∧ p.lost ≤ 4
  beat : 1 ≤ p.beat ∧ p.beat ≤ 1000
  lose : 1 ≤ p.lose ∧ p.lose ≤ 1000
  offer : 1 ≤ p.offer ∧ p.offer ≤ 1000
  ask : 1 ≤ p.ask ∧ p.ask ≤ 1000
  stick : 1 ≤ p.stick ∧ p.stick ≤ 1000
  beyond : 0 ≤ p.beyond ∧ p.beyond ≤ 1000
  queue : 1 ≤ p.queue ∧ p.queue ≤ 3
  sessions : 1 ≤ p.sessions ∧ p.sessions ≤ 3
  most : ∀ c, c < 4 → 0 ≤ p.most c ∧ p.most c ≤ 1000
  rate : 1 ≤ p.rate ∧ p.rate ≤ 1000
  epoch : 0 ≤ p.epoch ∧ p.epoch ≤ 65535
theorem place_range {p : Pol} (h : PolOK p) (s : Int) (h0 : 0 ≤ s) (h4 : s ≤ 4) : 0 ≤ placeOf p s ∧ placeOf p s ≤ 4 := by
  have e : s = 0 ∨ s = 1 ∨ s = 2 ∨ s = 3 ∨ s = 4 := by omega
  have := h.o0; have := h.o4
  rcases e with rfl | rfl | rfl | rfl | rfl <;> rcases h.perm with ⟨a, b, c⟩ | ⟨a, b, c⟩ | ⟨a, b, c⟩ | ⟨a, b, c⟩ | ⟨a, b, c⟩ | ⟨a, b, c⟩ <;> simp [placeOf, *]
theorem place_inj {p : Pol} (h : PolOK p) {s t : Int} (hs : 0 ≤ s ∧ s ≤ 4) (ht : 0 ≤ t ∧ t ≤ 4) (e : placeOf p s = placeOf p t) : s = t := by
  have es : s = 0 ∨ s = 1 ∨ s = 2 ∨ s = 3 ∨ s = 4 := by omega
  have et : t = 0 ∨ t = 1 ∨ t = 2 ∨ t = 3 ∨ t = 4 := by omega
  have := h.o0; have := h.o4
  rcases es with rfl | rfl | rfl | rfl | rfl <;> rcases et with rfl | rfl | rfl | rfl | rfl <;> first | rfl | (rcases h.perm with ⟨a, b, c⟩ | ⟨a, b, c⟩ | ⟨a, b, c⟩ | ⟨a, b, c⟩ | ⟨a, b, c⟩ | ⟨a, b, c⟩ <;> simp [placeOf, *] at e)
theorem higher_eq {p : Pol} (h : PolOK p) {s t : Int} (hs : 0 ≤ s ∧ s ≤ 4) (ht : 0 ≤ t ∧ t ≤ 4) : higher p s t = decide (rank p s < rank p t) := by
  have a := place_range h s hs.1 hs.2
  have b := place_range h t ht.1 ht.2
  unfold higher rank
  have a' : placeOf p s ≠ -1 := by omega
  have b' : placeOf p t ≠ -1 := by omega
  simp [a', b']
theorem place4 {p : Pol} (h : PolOK p) {s : Int} (hs : 0 ≤ s ∧ s ≤ 3) : rank p s < rank p 4 := by
  have es : s = 0 ∨ s = 1 ∨ s = 2 ∨ s = 3 := by omega
  have := h.o0; have := h.o4
  unfold rank
  rcases es with rfl | rfl | rfl | rfl <;> rcases h.perm with ⟨a, b, c⟩ | ⟨a, b, c⟩ | ⟨a, b, c⟩ | ⟨a, b, c⟩ | ⟨a, b, c⟩ | ⟨a, b, c⟩ <;> simp [placeOf, *]
structure QOK (p : Pol) (t : Tab) (holder : Int) (q : List Ask) : Prop where
  each : ∀ a ∈ q, a.rank = rank p a.source ∧ 1 ≤ a.source ∧ a.source ≤ 3 ∧ t.on a.source = true ∧ a.source ≠ holder ∧ a.age.most = p.ask ∧ 0 ≤ a.age.n ∧ a.age.n < p.ask
  sorted : q.Pairwise fun a b => a.rank < b.rank
  len : (q.length : Int) ≤ p.queue
structure TokOK (p : Pol) (tab : Tab) (t : Tok) : Prop where
  holder : 0 ≤ t.holder ∧ t.holder ≤ 4
  epoch : p.epoch ≤ t.epoch ∧ t.epoch ≤ 65535
  offer : t.offer = -1 ∨ (1 ≤ t.offer ∧ t.offer ≤ 3 ∧ t.offer ≠ t.holder ∧ tab.on t.offer = true ∧ t.oa.most = p.offer ∧ 0 ≤ t.oa.n ∧ t.oa.n < p.offer)
  lost : (t.la.most = 0 ∧ t.la.n = 0) ∨ (t.la.most = p.lose ∧ 0 ≤ t.la.n ∧ t.la.n < p.lose)
structure TabOK (p : Pol) (t : Tab) : Prop where
  sticks : t.sticks.1 = true → t.sticks.2.most = p.beat ∧ 0 ≤ t.sticks.2.n ∧ t.sticks.2.n < p.beat
  ses : ∀ i, i < 3 → (t.ses i).on = true → (t.ses i).silent.most = p.beat ∧ 0 ≤ (t.ses i).silent.n ∧ (t.ses i).silent.n < p.beat ∧ 0 ≤ (t.ses i).role ∧ (t.ses i).role ≤ 3 ∧ 0 ≤ (t.ses i).seen.high ∧ (t.ses i).seen.high ≤ 4294967295
structure Inv (c : Core) : Prop where
  p : PolOK c.p
  tok : TokOK c.p c.tab c.t
  q : QOK c.p c.tab c.t.holder c.q
  tab : TabOK c.p c.tab
  samples : 0 ≤ c.samples ∧ c.samples ≤ 4294967295
  mode : 0 ≤ c.mode ∧ c.mode ≤ 4
  doors : ∀ i, i < 3 → 0 ≤ (c.doors i).many
theorem sat_bd {n m : Int} (h : 0 ≤ n) (hm : 0 ≤ m) (hn : n ≤ m) : 0 ≤ sat n m ∧ sat n m ≤ m := by unfold sat; split <;> omega
theorem Inv.new {p : Pol} (h : PolOK p) : Inv (Core.new p) where
  p := h
  tok := ⟨by simp [Core.new, Tok.new], by simp [Core.new, Tok.new]; exact h.epoch.2, .inl rfl, .inl ⟨rfl, rfl⟩⟩
  q := ⟨by simp [Core.new], by simp [Core.new], by simp [Core.new]; have := h.queue; omega⟩
  tab := ⟨by simp [Core.new, Tab.new], by simp [Core.new, Tab.new, Session.zero]⟩
  samples := by simp [Core.new]
  mode := h.start
  doors := by simp [Core.new, Door.zero]
end Sd
noncomputable section
namespace Vx
open Go Sx
inductive V where
  | int (k : IntKind) (n : Int)
  | bool (b : Bool)
  | ptr (i off : Nat)
  | sl (i off len cap : Nat)
    | osl (i off len cap : Nat) (x : Option Addr)
  | fn (f : FuncId) (fs cs : List V)
  | ifc (t : TypeId) (v : V)
  | agg (l : List V)
  | tup (l : List V)
  | byt (k : IntKind) (n : Nat) (f : Nat → Int)
    | arr (k : IntKind) (n : Nat) (f : Nat → Int)
  | pol (p : Sd.Pol) (ka : Nat → Option Addr) (kn kc : Nat → Nat)
  | rest (l : List Value)
    | rowp (z n : Nat) (g : Nat → List Value)
    | pe (i o j z k : Nat)
  | raw (v : Value)
def polL (p : Sd.Pol) (ka : Nat → Option Addr) (kn kc : Nat → Nat) : List Value := (List.range 56).map fun o => bif Nat.ble 5 o && Nat.ble o 8 then .slice (ka (o - 5)) (kn (o - 5)) (kc (o - 5)) else .int .i64 (p.i o)
mutual
def wfV (n : Nat) : V → Bool
  | .ptr i _ => Nat.blt i n
  | .sl i _ _ _ => Nat.blt i n
  | .osl i _ _ _ _ => Nat.blt i n
  | .pe i _ _ _ _ => Nat.blt i n
  | .fn _ a b => wfL n a && wfL n b
  | .ifc _ v => wfV n v
  | .agg l => wfL n l
  | .tup l => wfL n l
  | _ => true
def wfL (n : Nat) : List V → Bool
  | [] => true
  | v :: l => wfV n v && wfL n l
end
def cl (v : V) (d : Value) : List Value := match v with
  | .byt k n f => (List.range n).map fun j => Value.int k (f j)
  | .arr k n f => (List.range n).map fun j => Value.int k (f j)
  | .pol p ka kn kc => polL p ka kn kc
  | .rest l => l
  | .rowp z n g => (List.range n).flatMap g
  | _ => [d]
mutual
def den (ids : List Nat) : V → Value
  | .int k n => .int k n
  | .bool b => .bool b
  | .ptr i off => .pointer (some ⟨ids.getD i 0, off, none⟩)
  | .sl i off n c => .slice (some ⟨ids.getD i 0, off, none⟩) n c
  | .osl i off n c x => .slice (bif Nat.beq n 0 then x else some ⟨ids.getD i 0, off, none⟩) n c
  | .fn f a b => .func (.func f) (denM ids a).toArray (denM ids b).toArray
  | .ifc t v => .iface t (den ids v)
  | .agg l => .agg (denC ids l).toArray
  | .tup l => .tuple (denM ids l).toArray
  | .byt _ _ _ => undef
  | .arr _ _ _ => undef
  | .pol _ _ _ _ => undef
  | .rest _ => undef
  | .rowp _ _ _ => undef
  | .pe i o j z k => .pointer (some ⟨ids.getD i 0, o + (j * z + k), none⟩)
  | .raw v => v
def denM (ids : List Nat) : List V → List Value
  | [] => []
  | v :: l => den ids v :: denM ids l
def denC (ids : List Nat) : List V → List Value
  | [] => []
  | v :: l => cl v (den ids v) ++ denC ids l
end
theorem denM_eq (ids : List Nat) (l : List V) : denM ids l = l.map (den ids) := by
  induction l with
  | nil => simp [denM]
  | cons v l ih => simp [denM, ih]
theorem wfL_all {n : Nat} {l : List V} (h : wfL n l = true) : ∀ v ∈ l, wfV n v = true := by
  induction l with
  | nil => intro v hv; cases hv
  | cons a l ih =>
    simp only [wfL, Bool.and_eq_true] at h
    intro v hv
    rcases List.mem_cons.1 hv with rfl | hv
    · exact h.1
    · exact ih h.2 v hv
theorem getD_app {ids more : List Nat} {i : Nat} (h : Nat.blt i ids.length = true) : (ids ++ more).getD i 0 = ids.getD i 0 := by
  rw [Nat.blt_eq] at h
  simp [List.getD, List.getElem?_append_left h]
mutual
theorem den_app {ids more : List Nat} : ∀ (v : V), wfV ids.length v = true → den (ids ++ more) v = den ids v
  | .int _ _, _ => by simp [den]
  | .bool _, _ => by simp [den]
  | .ptr i _, h => by simp only [wfV] at h; simp only [den, getD_app h]
  | .sl i _ _ _, h => by simp only [wfV] at h; simp only [den, getD_app h]
  | .osl i _ _ _ _, h => by simp only [wfV] at h; simp only [den, getD_app h]
  | .fn _ a b, h => by simp only [wfV, Bool.and_eq_true] at h; simp only [den, denM_app a h.1, denM_app b h.2]
  | .ifc _ v, h => by simp only [wfV] at h; simp only [den, den_app v h]
  | .agg l, h => by simp only [wfV] at h; simp only [den, denC_app l h]
  | .tup l, h => by simp only [wfV] at h; simp only [den, denM_app l h]
  | .byt _ _ _, _ => by simp [den]
  | .arr _ _ _, _ => by simp [den]
  | .pol _ _ _ _, _ => by simp [den]
  | .rest _, _ => by simp [den]
  | .rowp _ _ _, _ => by simp [den]
  | .pe i _ _ _ _, h => by simp only [wfV] at h; simp only [den, getD_app h]
  | .raw _, _ => by simp [den]
theorem denM_app {ids more : List Nat} : ∀ (l : List V), wfL ids.length l = true → denM (ids ++ more) l = denM ids l
  | [], _ => by simp [denM]
  | v :: l, h => by simp only [wfL, Bool.and_eq_true] at h; simp only [denM, den_app v h.1, denM_app l h.2]
theorem denC_app {ids more : List Nat} : ∀ (l : List V), wfL ids.length l = true → denC (ids ++ more) l = denC ids l
  | [], _ => by simp [denC]
  | v :: l, h => by
    simp only [wfL, Bool.and_eq_true] at h
    simp only [denC, den_app v h.1, denC_app l h.2]
end
end Vx
noncomputable section
namespace Vx
open Go Sx
def undefV : V := .raw undef
noncomputable def nth (l : List V) : Nat → V := @List.rec V (fun _ => Nat → V) (fun _ => undefV) (fun v _ ih n => @Nat.rec (fun _ => V) v (fun m _ => ih m) n) l
noncomputable def setV (l : List V) (n : Nat) (x : V) : List V := @List.rec V (fun _ => Nat → List V) (fun _ => []) (fun v l ih n => @Nat.rec (fun _ => List V) (x :: l) (fun m _ => v :: ih m) n) l n
theorem nth_nil (n : Nat) : nth [] n = undefV := rfl
theorem nth_zero (v : V) (l : List V) : nth (v :: l) 0 = v := rfl
theorem nth_succ (v : V) (l : List V) (n : Nat) : nth (v :: l) (n + 1) = nth l n := rfl
theorem setV_nil (n : Nat) (x : V) : setV [] n x = [] := rfl
theorem setV_zero (v : V) (l : List V) (x : V) : setV (v :: l) 0 x = x :: l := rfl
theorem setV_succ (v : V) (l : List V) (n : Nat) (x : V) : setV (v :: l) (n + 1) x = v :: setV l n x := rfl
def put (fr : List V) (d : Option Tmp) (v : V) : List V := match d with | some t => setV fr t v | none => fr
def ofS : Value → V
  | .int k n => .int k n
  | .bool b => .bool b
  | v => .raw v
def ofVal : Value → V
  | .int k n => .int k n
  | .bool b => .bool b
  | .agg cs => .agg (cs.toList.map ofS)
  | v => .raw v
def polCell (p : Sd.Pol) (ka : Nat → Option Addr) (kn kc : Nat → Nat) (o : Nat) : V :=
  bif Nat.ble 5 o && Nat.ble o 8 then .raw (.slice (ka (o - 5)) (kn (o - 5)) (kc (o - 5))) else .int .i64 (p.i o)
def getC : List V → Nat → Option V
  | [], _ => none
  | v :: l, o => match v with
    | .byt k n f => bif Nat.ble n o then getC l (o - n) else some (.int k (f o))
    | .arr k n f => bif Nat.ble n o then getC l (o - n) else some (.int k (f o))
    | .pol p ka kn kc => bif Nat.ble 56 o then getC l (o - 56) else some (polCell p ka kn kc o)
    | .rest _ => none
    | .rowp _ _ _ => none
    | v => match o with | 0 => some v | o + 1 => getC l o
def takeN : List V → Nat → Option (List V × List V)
  | l, 0 => some ([], l)
  | [], _ + 1 => none
  | v :: l, n + 1 => match v with
    | .byt k m f => bif Nat.ble m (n + 1) then (match takeN l (n + 1 - m) with | some (a, b) => some (v :: a, b) | none => none)
        else some ([.byt k (n + 1) f], .byt k (m - (n + 1)) (fun j => f (n + 1 + j)) :: l)
    | .arr k m f => bif Nat.ble m (n + 1) then (match takeN l (n + 1 - m) with | some (a, b) => some (v :: a, b) | none => none)
        else some ([.arr k (n + 1) f], .arr k (m - (n + 1)) (fun j => f (n + 1 + j)) :: l)
    | .pol .. => bif Nat.ble 56 (n + 1) then (match takeN l (n + 1 - 56) with | some (a, b) => some (v :: a, b) | none => none) else none
    | .rest _ => none
    | .rowp _ _ _ => none
    | _ => match takeN l n with | some (a, b) => some (v :: a, b) | none => none
def getN (l : List V) (off n : Nat) : Option (List V) := match takeN l off with
  | some (_, r) => (match takeN r n with | some (a, _) => some a | none => none)
  | none => none
def setN (l : List V) (off n : Nat) (vs : List V) : Option (List V) := match takeN l off with
  | some (a, r) => (match takeN r n with | some (_, b) => some (a ++ (vs ++ b)) | none => none)
  | none => none
def szV : V → Nat
  | .byt _ n _ => n
  | .arr _ n _ => n
  | .pol .. => 56
  | .rest l => l.length
  | .rowp z n g => ((List.range n).flatMap g).length
  | _ => 1
def szL : List V → Nat
  | [] => 0
  | v :: l => szV v + szL l
def oneV : V → Bool
  | .agg _ => false
  | .tup _ => false
  | .rest l => l.all (·.oneCell')
  | .rowp z n g => ((List.range n).flatMap g).all (·.oneCell')
  | .raw v => v.oneCell'
  | _ => true
def oneL : List V → Bool
  | [] => true
  | v :: l => oneV v && oneL l
def cellsV : V → List V
  | .agg l => l
  | v => [v]
def okV : V → Bool
  | .byt .. => false
  | .arr .. => false
  | .pol .. => false
  | .rest _ => false
  | .rowp _ _ _ => false
  | .raw v => v.oneCell'
  | _ => true
section
variable {ids : List Nat}
theorem den_ofS (v : Value) : den ids (ofS v) = v := by cases v <;> simp [ofS, den]
theorem denC_ofS (l : List Value) : denC ids (l.map ofS) = l := by
  induction l with
  | nil => simp [denC]
  | cons v l ih => cases v <;> simp [denC, cl, ofS, den, ih]
theorem den_ofVal (v : Value) : den ids (ofVal v) = v := by
  cases v <;> simp [ofVal, den, denC_ofS]
theorem den_nth (fr : List V) (t : Nat) : den ids (nth fr t) = (denM ids fr).toArray.getD t undef := by
  induction fr generalizing t with
  | nil => simp [nth_nil, nth_zero, nth_succ, denM, undefV, den]
  | cons v l ih =>
    cases t with
    | zero => simp [nth_nil, nth_zero, nth_succ, denM]
    | succ t => rw [nth_succ, ih]; simp [denM, Array.getD]
theorem denM_set (fr : List V) (t : Nat) (x : V) : (denM ids (setV fr t x)).toArray = (denM ids fr).toArray.setIfInBounds t (den ids x) := by
  apply Array.ext'
  simp only [Array.toList_setIfInBounds]
  induction fr generalizing t with
  | nil => simp [setV_nil, setV_zero, setV_succ, denM]
  | cons v l ih => cases t <;> simp [setV_nil, setV_zero, setV_succ, denM, ih]
theorem polL_at (p : Sd.Pol) (ka : Nat → Option Addr) (kn kc : Nat → Nat) {o : Nat} (h : o < 56) : (polL p ka kn kc)[o]? = some (den ids (polCell p ka kn kc o)) := by
  unfold polL polCell
  rw [List.getElem?_map, List.getElem?_range h]
  simp only [Option.map_some]
  cases Nat.ble 5 o && Nat.ble o 8 <;> simp [den]
theorem polL_len (p : Sd.Pol) (ka : Nat → Option Addr) (kn kc : Nat → Nat) : (polL p ka kn kc).length = 56 := by simp [polL]
theorem getC_ok {l : List V} {o : Nat} {v : V} (h : getC l o = some v) : (denC ids l)[o]? = some (den ids v) := by
  induction l generalizing o with
  | nil => simp [getC] at h
  | cons a l ih =>
    cases a
    case byt k n f =>
      simp only [getC] at h
      simp only [denC, cl]
      cases hb : Nat.ble n o with
      | true =>
        rw [hb] at h
        have := Nat.le_of_ble_eq_true hb
        rw [List.getElem?_append_right (by simpa using this)]
        simpa using ih h
      | false =>
        rw [hb] at h
        have : o < n := Nat.lt_of_not_le fun e => by rw [Nat.ble_eq_true_of_le e] at hb; cases hb
        rw [List.getElem?_append_left (by simpa using this)]
        simp only [cond_false, Option.some.injEq] at h
        subst h
        simp [List.getElem?_range this, den]
    case arr k n f =>
      simp only [getC] at h
      simp only [denC, cl]
      cases hb : Nat.ble n o with
      | true =>
        rw [hb] at h
        have := Nat.le_of_ble_eq_true hb
        rw [List.getElem?_append_right (by simpa using this)]
        simpa using ih h
      | false =>
        rw [hb] at h
        have : o < n := Nat.lt_of_not_le fun e => by rw [Nat.ble_eq_true_of_le e] at hb; cases hb
        rw [List.getElem?_append_left (by simpa using this)]
        simp only [cond_false, Option.some.injEq] at h
        subst h
        simp [List.getElem?_range this, den]
    case pol p ka kn kc =>
      simp only [getC] at h
      simp only [denC, cl]
      cases hb : Nat.ble 56 o with
      | true =>
        rw [hb] at h
        have := Nat.le_of_ble_eq_true hb
        rw [List.getElem?_append_right (by rw [polL_len]; exact this), polL_len]
        simpa using ih h
      | false =>
        rw [hb] at h
        have : o < 56 := Nat.lt_of_not_le fun e => by rw [Nat.ble_eq_true_of_le e] at hb; cases hb
        rw [List.getElem?_append_left (by rw [polL_len]; exact this)]
        simp only [cond_false, Option.some.injEq] at h
        subst h
        exact polL_at _ _ _ _ this
    case rest => simp [getC] at h
    case rowp => simp [getC] at h
    all_goals
      cases o with
      | zero => simp only [getC, Option.some.injEq] at h; subst h; simp [denC, cl]
      | succ o => simp only [getC] at h; simpa [denC, cl] using ih h
theorem byt_split (k : IntKind) {m n : Nat} (f : Nat → Int) (h : n ≤ m) : ((List.range m).map fun j => Value.int k (f j)) = ((List.range n).map fun j => Value.int k (f j)) ++ ((List.range (m - n)).map fun j => Value.int k (f (n + j))) := by
  obtain ⟨d, rfl⟩ := Nat.exists_eq_add_of_le h
  rw [List.range_add, List.map_append, List.map_map, Nat.add_sub_cancel_left]
  rfl
theorem takeN_ok {l a b : List V} {n : Nat} (h : takeN l n = some (a, b)) : denC ids l = denC ids a ++ denC ids b ∧ (denC ids a).length = n := by
  induction l generalizing n a b with
  | nil =>
    cases n with
    | zero => simp only [takeN, Option.some.injEq, Prod.mk.injEq] at h; obtain ⟨rfl, rfl⟩ := h; simp [denC]
    | succ n => simp [takeN] at h
  | cons v l ih =>
    cases n with
    | zero => simp only [takeN, Option.some.injEq, Prod.mk.injEq] at h; obtain ⟨rfl, rfl⟩ := h; simp [denC]
    | succ n =>
      cases v
      case byt k m f =>
        simp only [takeN] at h
        cases hb : Nat.ble m (n + 1) with
        | true =>
          have hm := Nat.le_of_ble_eq_true hb
          rw [hb] at h
          simp only [cond_true] at h
          split at h
          · rename_i x y hx
            simp only [Option.some.injEq, Prod.mk.injEq] at h
            obtain ⟨rfl, rfl⟩ := h
            obtain ⟨i1, i2⟩ := ih hx
            simp [denC, cl, i1, i2]; omega
          · cases h
        | false =>
          have hm : n + 1 < m := Nat.lt_of_not_le fun e => by rw [Nat.ble_eq_true_of_le e] at hb; cases hb
          rw [hb] at h
          simp only [cond_false, Option.some.injEq, Prod.mk.injEq] at h
          obtain ⟨rfl, rfl⟩ := h
          simp only [denC, cl]
          rw [byt_split k f (n := n + 1) (by omega)]
          simp
      case arr k m f =>
        simp only [takeN] at h
        cases hb : Nat.ble m (n + 1) with
        | true =>
          have hm := Nat.le_of_ble_eq_true hb
          rw [hb] at h
          simp only [cond_true] at h
          split at h
          · rename_i x y hx
            simp only [Option.some.injEq, Prod.mk.injEq] at h
            obtain ⟨rfl, rfl⟩ := h
            obtain ⟨i1, i2⟩ := ih hx
            simp [denC, cl, i1, i2]; omega
          · cases h
        | false =>
          have hm : n + 1 < m := Nat.lt_of_not_le fun e => by rw [Nat.ble_eq_true_of_le e] at hb; cases hb
          rw [hb] at h
          simp only [cond_false, Option.some.injEq, Prod.mk.injEq] at h
          obtain ⟨rfl, rfl⟩ := h
          simp only [denC, cl]
          rw [byt_split k f (n := n + 1) (by omega)]
          simp
      case pol p ka kn kc =>
        simp only [takeN] at h
        cases hb : Nat.ble 56 (n + 1) with
        | true =>
          have hm := Nat.le_of_ble_eq_true hb
          rw [hb] at h
          simp only [cond_true] at h
          split at h
          · rename_i x y hx
            simp only [Option.some.injEq, Prod.mk.injEq] at h
            obtain ⟨rfl, rfl⟩ := h
            obtain ⟨i1, i2⟩ := ih hx
            simp [denC, cl, i1, i2, polL_len]; omega
          · cases h
        | false => rw [hb] at h; simp at h
      case rest => simp [takeN] at h
      case rowp => simp [takeN] at h
      all_goals
        simp only [takeN] at h
        split at h
        · rename_i x y hx
          simp only [Option.some.injEq, Prod.mk.injEq] at h
          obtain ⟨rfl, rfl⟩ := h
          obtain ⟨i1, i2⟩ := ih hx
          simp [denC, cl, i1, i2]
        · cases h
theorem getN_ok {l c : List V} {off n : Nat} (h : getN l off n = some c) : ((denC ids l).drop off).take n = denC ids c ∧ (denC ids c).length = n ∧ off + n ≤ (denC ids l).length := by
  unfold getN at h
  split at h
  · rename_i a r ha
    split at h
    · rename_i b s hb
      simp only [Option.some.injEq] at h
      subst h
      obtain ⟨a1, a2⟩ := takeN_ok (ids := ids) ha
      obtain ⟨b1, b2⟩ := takeN_ok (ids := ids) hb
      refine ⟨?_, b2, ?_⟩
      · rw [a1, ← a2, List.drop_left, b1, ← b2, List.take_left]
      · rw [a1, b1]; simp; omega
    · cases h
  · cases h
theorem denC_app2 (a b : List V) : denC ids (a ++ b) = denC ids a ++ denC ids b := by
  induction a with
  | nil => simp [denC]
  | cons v l ih => simp [denC, ih]
theorem setN_ok {l c vs : List V} {off n : Nat} (h : setN l off n vs = some c) : denC ids c = (denC ids l).take off ++ denC ids vs ++ (denC ids l).drop (off + n) ∧ off + n ≤ (denC ids l).length := by
  unfold setN at h
  split at h
  · rename_i a r ha
    split at h
    · rename_i b s hb
      simp only [Option.some.injEq] at h
      subst h
      obtain ⟨a1, a2⟩ := takeN_ok (ids := ids) ha
      obtain ⟨b1, b2⟩ := takeN_ok (ids := ids) hb
      refine ⟨?_, ?_⟩
      · rw [denC_app2, denC_app2, a1, b1]
        have e : off + n = (denC ids a ++ denC ids b).length := by simp [a2, b2]
        have e2 : denC ids a ++ (denC ids b ++ denC ids s) = (denC ids a ++ denC ids b) ++ denC ids s := by simp
        rw [e, e2, List.drop_left, ← e2, ← a2, List.take_left, List.append_assoc]
      · rw [a1, b1]; simp; omega
    · cases h
  · cases h
theorem denC_len (l : List V) : (denC ids l).length = szL l := by
  induction l with
  | nil => simp [denC, szL]
  | cons v l ih => cases v <;> simp [denC, cl, szL, szV, ih, polL_len] <;> omega
theorem polL_one {p : Sd.Pol} {ka : Nat → Option Addr} {kn kc : Nat → Nat} {v : Value} (h : v ∈ polL p ka kn kc) : v.oneCell' = true := by
  unfold polL at h
  rw [List.mem_map] at h
  obtain ⟨o, _, rfl⟩ := h
  cases Nat.ble 5 o && Nat.ble o 8 <;> rfl
theorem oneL_ok {l : List V} (h : oneL l = true) : ∀ v ∈ denC ids l, v.oneCell' = true := by
  induction l with
  | nil => simp [denC]
  | cons a l ih =>
    simp only [oneL, Bool.and_eq_true] at h
    intro v hv
    simp only [denC, List.mem_append] at hv
    rcases hv with hv | hv
    · unfold cl at hv
      cases a
      case byt k n f => simp at hv; obtain ⟨_, _, rfl⟩ := hv; rfl
      case arr k n f => simp at hv; obtain ⟨_, _, rfl⟩ := hv; rfl
      case pol => exact polL_one hv
      case rest l' => exact (List.all_eq_true.1 (by simpa [oneV] using h.1)) v hv
      case rowp z n g =>
        have h1 : ((List.range n).flatMap g).all (·.oneCell') = true := h.1
        exact List.all_eq_true.1 h1 v hv
      all_goals (obtain rfl : v = _ := by simpa using hv); first | rfl | (simp [oneV] at h; done) | (have := h.1; simpa [oneV, den] using this)
    · exact ih h.2 v hv
theorem cells_ok {v : V} (h : okV v = true) : (den ids v).cells.toList = denC ids (cellsV v) := by
  cases v
  case agg l => simp [den, Value.cells, cellsV]
  case raw v => cases v <;> simp_all [den, Value.cells, cellsV, denC, cl, okV, Value.oneCell']
  case byt => simp [okV] at h
  case arr => simp [okV] at h
  case pol => simp [okV] at h
  case rest => simp [okV] at h
  case rowp => simp [okV] at h
  all_goals simp [den, Value.cells, cellsV, denC, cl]
end
end Vx
