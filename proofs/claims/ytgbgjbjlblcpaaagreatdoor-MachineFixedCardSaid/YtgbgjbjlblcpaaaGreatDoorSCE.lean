/- A region that draws its order, in which one operation calls a function that changes some blocks; others may read what it returns. Over any program. -/
import Derived.Test.YtgbgjbjlblcpaaaGreatDoorSAE
namespace Sx
open Go Go.RowKit Go.BigFrame
set_option linter.unusedVariables false
set_option linter.unusedSimpArgs false

def pvC (val : Value) (Q : List Blk → Prop) (bl : List Blk) (B : Nat) (v : Value) (w : World) : Prop :=
  v = val ∧ ∃ bl', Q bl' ∧ (∀ y ∈ bl', w.heap[y.id]? = some y.obj ∧ (y.wr = true → (∃ u ∈ bl, y.id = u.id) ∨ B ≤ y.id)) ∧ bl'.Pairwise clash
theorem pvC.stab {val Q bl B v} {w w' : World} (h : pvC val Q bl B v w) (hc : Ch [] w w') : pvC val Q bl B v w' := by
  obtain ⟨h1, bl', h2, h3, h4⟩ := h
  exact ⟨h1, bl', h2, fun y hy => ⟨(hc.block _ (heap_lt (h3 y hy).1) (by simp)).trans (h3 y hy).1, (h3 y hy).2⟩, h4⟩
def slotsG (l : List Oper) (sp : Nat → Sp) (i : Nat) (o : Oper) : Bool := o.guard.isNone && inEnv (envOf l sp ⟨#[], []⟩ o) o &&
  o.op.operands.toList.all fun x => match x with | .tmp t => (match srcOf l o t with | some j => Nat.beq (sp j).k 0 | none => freeB l i t) | _ => true
section
variable {P : Program} {lf l : List Oper} {sp : Nat → Sp} {a0 : Act} {w : World} {i k0 : Nat} {pre : List (List Nat)} {o : Oper} {es : List Nat} {pv : Value → World → Prop}
theorem g_env (zk : ∀ v w, pv v w → v = (sp k0).f []) (hs : slotsG l sp i o = true) {B : Nat} {y : Nat → Value} {w' : World} (hfree : ∀ t, freeB l i t = true → y t = yof a0 t) (hpre : ∀ j d, edgeB o j = true → (l[j]?).bind (·.dst) = some d → HQ k0 pv sp B j (y d) w') :
    agrees y (envOf l sp a0 o) ∧ inEnv (envOf l sp a0 o) o = true ∧ o.guard = none := by
  simp only [slotsG, Bool.and_eq_true] at hs
  obtain ⟨⟨hg, hin⟩, hall⟩ := hs
  refine ⟨agrees_all fun p hp => ?_, isSome_envOf hin, by cases hx : o.guard <;> simp_all⟩
  simp only [envOf, List.mem_filterMap] at hp
  obtain ⟨x, hx, hp⟩ := hp
  cases x with
  | tmp t =>
    simp only [Option.some.injEq] at hp
    subst hp
    have h1 := List.all_eq_true.1 hall _ hx
    simp only at h1
    unfold valOf
    cases hsrc : srcOf l o t with
    | some j =>
      rw [hsrc] at h1
      obtain ⟨he, hd⟩ := srcOf_edge hsrc
      have h2 := hpre j t he hd
      unfold HQ at h2
      split at h2
      · rename_i hb
        obtain rfl := Nat.eq_of_beq_eq_true hb
        exact zk _ _ h2
      · obtain ⟨ids, h3, h4, _⟩ := h2
        have h5 : (sp j).k = 0 := Nat.eq_of_beq_eq_true h1
        obtain rfl : ids = [] := List.eq_nil_of_length_eq_zero (by rw [h3, h5])
        exact h4
    | none =>
      rw [hsrc] at h1
      exact hfree t h1
  | _ => simp at hp
def okG (k0 : Nat) (l : List Oper) (sp : Nat → Sp) (i : Nat) (o : Oper) : Bool := !(Nat.beq i k0) && Nat.beq (sp i).k 0 && (sp i).bl [] matches [] && slotsG l sp i o
theorem okG_out (h : okG k0 l sp i o = true) : Nat.beq i k0 = false ∧ (sp i).k = 0 ∧ (sp i).bl [] = [] ∧ slotsG l sp i o = true := by
  simp only [okG, Bool.and_eq_true, Bool.not_eq_true'] at h
  refine ⟨h.1.1.1, Nat.eq_of_beq_eq_true h.1.1.2, ?_, h.2⟩
  have := h.1.2
  revert this; cases (sp i).bl [] <;> simp
theorem g_step (zk : ∀ v w, pv v w → v = (sp k0).f []) (hs : okG k0 l sp i o = true) (h : ∀ w', Ch es w w' → Yields P o (envE (envOf l sp a0 o)) w' fun v w'' => Ch [] w' w'' ∧ v = (sp i).f []) :
    EStepOk P k0 pre es (HQ k0 pv sp w.heap.size) lf l (yof a0) w i o := by
  intro y w' _ hc hfree hpre
  obtain ⟨hne, hk, hb, hs⟩ := okG_out hs
  obtain ⟨hag, hin, hg⟩ := g_env zk hs hfree hpre
  have hik : i ≠ k0 := fun e => by rw [e] at hne; simp at hne
  have hH : ∀ v w'', v = (sp i).f [] → HQ k0 pv sp w.heap.size i v w'' := fun v w'' e => by
    unfold HQ; rw [hne]; exact ⟨[], by simp [hk], e, by rw [hb]; simp⟩
  refine ⟨fun _ => ?_, fun hw => by simp [wantedY, hg] at hw⟩
  refine yenv _ hag ?_ hin
  have := h w' hc
  unfold Yields at this ⊢
  split at this
  · exact ⟨fun e' => absurd e' hik, fun _ => this.1, hH _ _ this.2⟩
  · exact ⟨fun e' => absurd e' hik, fun _ => this.1, hH _ _ this.2⟩
  · exact this.mono fun v w'' h => ⟨fun e' => absurd e' hik, fun _ => h.1, hH _ _ h.2⟩
  · exact this.elim
theorem gP_ (zk : ∀ v w, pv v w → v = (sp k0).f []) (hs : okG k0 l sp i o = true := by kernel_rfl) (h : (fun w => (execOp (envE (envOf l sp a0 o)) o).run P w) = (fun w => .ok (.value ((sp i).f [])) w) := by kernel_rfl) : EStepOk P k0 pre es (HQ k0 pv sp w.heap.size) lf l (yof a0) w i o := by
  refine g_step zk hs fun w' _ => ?_
  have h2 : (execOp (envE (envOf l sp a0 o)) o).run P w' = .ok (.value ((sp i).f [])) w' := congrFun h w'
  unfold Yields
  rw [h2]
  exact ⟨Ch.refl _ _, rfl⟩
theorem gE_ (zk : ∀ v w, pv v w → v = (sp k0).f []) (v0 : Value) (he : v0 = (sp i).f []) (hs : okG k0 l sp i o = true := by kernel_rfl) (h : (fun w => (execOp (envE (envOf l sp a0 o)) o).run P w) = (fun w => .ok (.value v0) w) := by kernel_rfl) : EStepOk P k0 pre es (HQ k0 pv sp w.heap.size) lf l (yof a0) w i o := by
  subst he; exact gP_ zk hs h
theorem gS_ (zk : ∀ v w, pv v w → v = (sp k0).f []) (kd : IntKind) (e : Int) (he : kd.wrap e = e) (hv : (sp i).f [] = .int kd e := by kernel_rfl) (hs : okG k0 l sp i o = true := by kernel_rfl) (h : (fun w => (execOp (envE (envOf l sp a0 o)) o).run P w) = (fun w => .ok (.value (.int kd (kd.wrap e))) w) := by kernel_rfl) : EStepOk P k0 pre es (HQ k0 pv sp w.heap.size) lf l (yof a0) w i o :=
  gE_ zk (.int kd (kd.wrap e)) (by rw [he, hv]) hs h
theorem gC_ (zk : ∀ v w, pv v w → v = (sp k0).f []) (f : FuncId) (args : Array Value) (hg : ∀ w', Ch es w w' → Gives P f args w' fun v w'' => v = (sp i).f [] ∧ Ch [] w' w'') (hs : okG k0 l sp i o = true := by kernel_rfl) (h : (fun w => (execOp (envE (envOf l sp a0 o)) o).run P w) = (fun w => .ok (.enter f args) w) := by kernel_rfl) : EStepOk P k0 pre es (HQ k0 pv sp w.heap.size) lf l (yof a0) w i o := by
  refine g_step zk hs fun w' hc => ?_
  have h2 : (execOp (envE (envOf l sp a0 o)) o).run P w' = .ok (.enter f args) w' := congrFun h w'
  unfold Yields
  rw [h2]
  exact (hg w' hc).mono fun v w'' h => ⟨h.2, h.1⟩
variable {ms : List Nat} {w0 : World} {bs : List Blk}
theorem gL_ (zk : ∀ v w, pv v w → v = (sp k0).f []) (S : ∀ w', Ch es w w' → St ms w0 bs w') (j b off : Nat) {x : Operand} {ty : TypeId} (ho : o.op = .load ty x := by rfl) (hs : okG k0 l sp i o = true := by kernel_rfl) (hx : envE (envOf l sp a0 o) x = .pointer (some ⟨b, off, none⟩) := by kernel_rfl)
    (ha : (P.underlying ty).map aggD = some false := by kernel_rfl) (hb : lk bs j off = some (b, (sp i).f []) := by kernel_rfl) : EStepOk P k0 pre es (HQ k0 pv sp w.heap.size) lf l (yof a0) w i o :=
  g_step zk hs fun w' hc => Y.load1_ (S w' hc) j _ b off ⟨Ch.refl _ _, rfl⟩ ho hx ha hb
theorem gN_ (zk : ∀ v w, pv v w → v = (sp k0).f []) (S : ∀ w', Ch es w w' → St ms w0 bs w') (j b off n : Nat) (vs : Array Value) {x : Operand} {ty : TypeId} (ho : o.op = .load ty x := by rfl) (hv : (sp i).f [] = .agg vs := by kernel_rfl) (hs : okG k0 l sp i o = true := by kernel_rfl) (hx : envE (envOf l sp a0 o) x = .pointer (some ⟨b, off, none⟩) := by kernel_rfl)
    (ha : (P.underlying ty).map aggD = some true := by kernel_rfl) (hn : (P.info? ty).map (·.size) = some n := by kernel_rfl) (hb : lkN bs j off n = some (b, vs) := by kernel_rfl) : EStepOk P k0 pre es (HQ k0 pv sp w.heap.size) lf l (yof a0) w i o :=
  g_step zk hs fun w' hc => Y.loadN_ (S w' hc) j n vs b off ⟨Ch.refl _ _, hv.symm⟩ ho hx ha hn hb
/-- the call -/
theorem gK_ {A bl R : List Blk} {val : Value} {Q : List Blk → Prop} (S : St ms w0 (A ++ (bl ++ R)) w) (f : FuncId) (args : Array Value)
    (hg : ∀ w', St (bl.map Blk.id) w' bl w' → Gives P f args w' fun v w'' => ∃ bl', v = val ∧ Q bl' ∧ St (bl.map Blk.id) w' bl' w'')
    (he : Nat.beq i k0 = true := by kernel_rfl) (hs : slotsE k0 l sp i o = true := by kernel_rfl) (h : (fun w => (execOp (envE (envOf l sp a0 o)) o).run P w) = (fun w => .ok (.enter f args) w) := by kernel_rfl) :
    EStepOk P k0 pre (bl.map Blk.id) (HQ k0 (pvC val Q bl w.heap.size) sp w.heap.size) lf l (yof a0) w i o := by
  refine e_step0 he hs fun w' hc => ?_
  have h2 : (execOp (envE (envOf l sp a0 o)) o).run P w' = .ok (.enter f args) w' := congrFun h w'
  unfold Yields
  rw [h2]
  have Sq := S.quiet hc
  have S1 : St (bl.map Blk.id) w' bl w' := St.mk' (Ch.refl _ _) (fun x hx => Sq.at' (by simp [hx])) (fun x hx _ => .inl (List.mem_map_of_mem hx)) (by
    have := Sq.pw
    rw [List.pairwise_append, List.pairwise_append] at this
    exact this.2.1.1)
  refine (hg w' S1).mono fun v w'' ⟨bl', hv, hQ, S2⟩ => ⟨S2.ch, hv, bl', hQ, fun y hy => ⟨S2.at' hy, fun hw => ?_⟩, S2.pw⟩
  rcases S2.own' hy hw with h | h
  · obtain ⟨u, hu, e⟩ := List.mem_map.1 h
    exact .inl ⟨u, hu, e.symm⟩
  · exact .inr (Nat.le_trans hc.size h)
end
section
variable {P : Program} {a0 : Act} {w w0 : World} {Q : Exit → Act → World → Prop} {id : Nat} {L : List Oper} {ms : List Nat}
theorem callE_ {A bl R : List Blk} (S : St ms w0 (A ++ (bl ++ R)) w) (hwr : ∀ x ∈ bl, x.wr = true) (C : List Blk → Prop) (hC : ∀ bl', C bl' → ∀ x ∈ bl', x.wr = true) (val : Value) (m k0 : Nat) (pre : List (List Nat)) (vals : List Value) (paths : List (List Nat))
    (hs : ∀ (zk : ∀ v w', pvC val C bl w.heap.size v w' → v = (spl (vals.map s0) k0).f []) (zD : ∀ w', Ch (bl.map Blk.id) w w' → St ms w0 (A ++ R) w'), EStepAll P k0 pre (bl.map Blk.id) (HQ k0 (pvC val C bl w.heap.size) (spl (vals.map s0)) w.heap.size) L (L.take m) (yof a0) w 0 (L.take m))
    (hq : ∀ bl' w', C bl' → St ms w0 (A ++ (bl' ++ R)) w' → WL P L.toArray Q (L.drop m) (putsL vals (L.take m) a0) w')
    (hv : vals[k0]? = some val := by rfl) (hvl : vals.length = m := by kernel_rfl) (hpre : preOk (L.take m) k0 pre = true := by kernel_rfl)
    (hm : P.follows .mixedOrders = true := by kernel_rfl) (hl : Nat.ble m L.length = true := by kernel_rfl) (ht : tailOk L m paths = true := by kernel_rfl) (hdst : dstsOkE a0.tmps.size (L.take m) = true := by kernel_rfl) (hedge : edgesOk 0 L = true := by kernel_rfl) : (Code.region id L.toArray true).wp P Q a0 w := by
  have hml : (L.take m).length = m := by have := Nat.le_of_ble_eq_true hl; simp; omega
  have hk0 : k0 < m := by
    rcases Nat.lt_or_ge k0 vals.length with h | h
    · omega
    · simp [h] at hv
  have hspv : ∀ i u, vals[i]? = some u → spl (vals.map s0) i = s0 u := fun i u hu => by
    unfold spl
    rw [List.getD_eq_getElem?_getD, List.getElem?_map, hu]; rfl
  have zk : ∀ v w', pvC val C bl w.heap.size v w' → v = (spl (vals.map s0) k0).f [] := fun v w' h => by rw [hspv k0 val hv]; exact h.1
  refine quietE_ m k0 pre (bl.map Blk.id) (pvC val C bl w.heap.size) vals paths _ hpre (fun v w1 w2 hc h => pvC.stab h hc) ?_ (hs zk (fun w' hc => S.less hwr hc)) ?_ hm hl ht hdst hedge
  · intro x hx
    obtain ⟨y, hy, rfl⟩ := List.mem_map.1 hx
    exact S.ge (by simp [hy])
  · intro vs w' hc hall
    have hK := hall k0 hk0
    unfold HQ at hK
    rw [show Nat.beq k0 k0 = true from Nat.beq_refl k0] at hK
    obtain ⟨hv0, bl', hCb, hat, hpw⟩ := hK
    have S2 := S.redo hwr hc (fun y hy => (hat y hy).1) (fun y hy => (hat y hy).2 (hC bl' hCb y hy)) hpw
    have hp : putsAll vs 0 (L.take m) a0 = putsL vals (L.take m) a0 := putsE_eq (by omega) fun i o u ho hu => by
      have hi : i < m := by
        rcases Nat.lt_or_ge i vals.length with h | h
        · omega
        · simp [h] at hu
      refine .inr ?_
      rw [Nat.zero_add]
      by_cases hik : i = k0
      · subst hik
        rw [hv] at hu
        rw [hv0]; exact Option.some.inj hu
      · have hH := hall i hi
        unfold HQ at hH
        have hne : Nat.beq i k0 = false := by
          cases hx : Nat.beq i k0
          · rfl
          · exact absurd (Nat.eq_of_beq_eq_true hx) hik
        rw [hne] at hH
        obtain ⟨ids, h1, h2, _⟩ := hH
        rw [hspv i u hu] at h1 h2
        obtain rfl : ids = [] := List.eq_nil_of_length_eq_zero (by simpa [s0] using h1)
        rw [h2]; rfl
    rw [hp]
    exact hq bl' w' hCb S2
end
end Sx
