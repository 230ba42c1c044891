/- Regions that draw their order, all of whose operations ahead of the tail only read and compute: a short word an operation. Over any program. -/
import Derived.Test.YtbjanfgipcniiaaGreatDoorSB
namespace Sx
open Go Go.RowKit Go.BigFrame
set_option linter.unusedVariables false
set_option linter.unusedSimpArgs false

def s0 (v : Value) : Sp := ⟨0, fun _ => v, fun _ => []⟩
/-- from which operation the operand in slot t is -/
def srcOf (l : List Oper) (o : Oper) (t : Nat) : Option Nat := o.after.toList.findSome? fun e => bif Region.binds .any e && (match (l[e.on]?).bind (·.dst) with | some d => Nat.beq d t | none => false) then some e.on else none
def valOf (l : List Oper) (sp : Nat → Sp) (a0 : Act) (o : Oper) (t : Nat) : Value := match srcOf l o t with | some j => (sp j).f [] | none => yof a0 t
def envOf (l : List Oper) (sp : Nat → Sp) (a0 : Act) (o : Oper) : List (Nat × Value) := o.op.operands.toList.filterMap fun x => match x with | .tmp t => some (t, valOf l sp a0 o t) | _ => none
def slotsOk (l : List Oper) (sp : Nat → Sp) (i : Nat) (o : Oper) : Bool := o.guard.isNone && Nat.beq (sp i).k 0 && (sp i).bl [] matches [] && inEnv (envOf l sp ⟨#[], []⟩ o) o &&
  o.op.operands.toList.all fun x => match x with | .tmp t => (match srcOf l o t with | some j => Nat.beq (sp j).k 0 | none => freeB l i t) | _ => true
theorem agrees_all {y : Nat → Value} : ∀ {env : List (Nat × Value)}, (∀ p ∈ env, y p.1 = p.2) → agrees y env
  | [], _ => trivial
  | p :: env, h => ⟨h p (by simp), agrees_all fun q hq => h q (by simp [hq])⟩
theorem srcOf_edge {l : List Oper} {o : Oper} {t j : Nat} (h : srcOf l o t = some j) : edgeB o j = true ∧ (l[j]?).bind (·.dst) = some t := by
  obtain ⟨e, he, h⟩ := List.exists_of_findSome?_eq_some h
  cases hd : (l[e.on]?).bind (·.dst) with
  | none => simp [hd] at h
  | some d =>
    simp only [hd] at h
    cases hb : Region.binds .any e with
    | false => simp [hb] at h
    | true =>
      cases hc : Nat.beq d t with
      | false => simp [hb, hc] at h
      | true =>
        simp only [hb, hc, Bool.and_self, cond_true, Option.some.injEq] at h
        subst h
        exact ⟨edgeB_iff.2 ⟨e, Array.mem_toList_iff.1 he, rfl, hb⟩, by rw [hd, Nat.eq_of_beq_eq_true hc]⟩
theorem isSome_envOf {l : List Oper} {sp sp' : Nat → Sp} {a0 a1 : Act} {o : Oper} : inEnv (envOf l sp a0 o) o = true → inEnv (envOf l sp' a1 o) o = true := by
  intro h
  unfold inEnv at *
  simp only [Bool.and_eq_true] at *
  refine ⟨?_, h.2⟩
  rw [Array.all_eq_true_iff_forall_mem] at *
  intro x hx
  cases x with
  | tmp t =>
    simp only
    have hm : ∀ (env : List Operand) (g : Nat → Value), Operand.tmp t ∈ env → ((env.filterMap fun x => match x with | .tmp t => some (t, g t) | _ => none).lookup t).isSome = true := by
      intro env g
      induction env with
      | nil => intro h; simp at h
      | cons y env ih =>
        intro hm
        rcases List.mem_cons.1 hm with h | h
        · subst h
          simp
        · cases y with
          | tmp s =>
            simp only [List.filterMap_cons, List.lookup_cons]
            split
            · rfl
            · exact ih h
          | _ => simp only [List.filterMap_cons]; exact ih h
    exact hm _ _ (Array.mem_toList_iff.2 hx)
  | _ => rfl
section
variable {P : Program} {lf l : List Oper} {sp : Nat → Sp} {a0 : Act} {w : World} {i : Nat} {o : Oper}
theorem q_step (hs : slotsOk l sp i o = true) (h : ∀ w', Ch [] w w' → Yields P o (envE (envOf l sp a0 o)) w' fun v w'' => Ch [] w' w'' ∧ v = (sp i).f []) : StepOk P lf l sp (yof a0) w i o := by
  simp only [slotsOk, Bool.and_eq_true] at hs
  obtain ⟨⟨⟨⟨hg, hk⟩, hb⟩, hin⟩, hall⟩ := hs
  have hg' : o.guard = none := by cases hx : o.guard <;> simp_all
  have hk' : (sp i).k = 0 := Nat.eq_of_beq_eq_true hk
  have hb' : (sp i).bl [] = [] := by
    revert hb; cases (sp i).bl [] <;> simp
  intro y w' hc hfree hpre
  refine ⟨fun _ => ?_, fun hw => by simp [wantedY, hg'] at hw⟩
  refine yenv (envOf l sp a0 o) (agrees_all fun p hp => ?_) ?_ (isSome_envOf hin)
  · simp only [envOf, List.mem_filterMap] at hp
    obtain ⟨x, hx, hp⟩ := hp
    cases x with
    | tmp t =>
      simp only [Option.some.injEq] at hp
      subst hp
      have h1 := List.all_eq_true.1 hall _ hx
      simp only at h1
      unfold valOf
      cases hsrc : srcOf l o t with
      | some j =>
        rw [hsrc] at h1
        obtain ⟨he, hd⟩ := srcOf_edge hsrc
        obtain ⟨ids, h2, h3, _⟩ := hpre j t he hd
        have h4 : (sp j).k = 0 := Nat.eq_of_beq_eq_true h1
        obtain rfl : ids = [] := List.eq_nil_of_length_eq_zero (by rw [h2, h4])
        exact h3
      | none =>
        rw [hsrc] at h1
        exact hfree t h1
    | _ => simp at hp
  · have := h w' hc
    unfold Yields at this ⊢
    split at this
    · exact ⟨this.1, [], by simp [hk'], this.2, by rw [hb']; simp⟩
    · exact ⟨this.1, [], by simp [hk'], this.2, by rw [hb']; simp⟩
    · exact this.mono fun v w'' h => ⟨h.1, [], by simp [hk'], h.2, by rw [hb']; simp⟩
    · exact this.elim
/-- computed -/
theorem qP_ (hs : slotsOk l sp i o = true := by kernel_rfl) (h : (fun w => (execOp (envE (envOf l sp a0 o)) o).run P w) = (fun w => .ok (.value ((sp i).f [])) w) := by kernel_rfl) : StepOk P lf l sp (yof a0) w i o :=
  q_step hs fun w' _ => by
    have h2 : (execOp (envE (envOf l sp a0 o)) o).run P w' = .ok (.value ((sp i).f [])) w' := congrFun h w'
    unfold Yields
    rw [h2]
    exact ⟨Ch.refl _ _, rfl⟩
/-- computed, in other words -/
theorem qE_ (v0 : Value) (he : v0 = (sp i).f []) (hs : slotsOk l sp i o = true := by kernel_rfl) (h : (fun w => (execOp (envE (envOf l sp a0 o)) o).run P w) = (fun w => .ok (.value v0) w) := by kernel_rfl) : StepOk P lf l sp (yof a0) w i o := by
  subst he
  exact qP_ hs h
theorem qS_ (kd : IntKind) (e : Int) (he : kd.wrap e = e) (hv : (sp i).f [] = .int kd e := by kernel_rfl) (hs : slotsOk l sp i o = true := by kernel_rfl) (h : (fun w => (execOp (envE (envOf l sp a0 o)) o).run P w) = (fun w => .ok (.value (.int kd (kd.wrap e))) w) := by kernel_rfl) : StepOk P lf l sp (yof a0) w i o :=
  qE_ (.int kd (kd.wrap e)) (by rw [he, hv]) hs h
/-- a call that only returns -/
theorem qC_ (f : FuncId) (args : Array Value) (hg : ∀ w', Gives P f args w' fun v w'' => v = (sp i).f [] ∧ Ch [] w' w'') (hs : slotsOk l sp i o = true := by kernel_rfl) (h : (fun w => (execOp (envE (envOf l sp a0 o)) o).run P w) = (fun w => .ok (.enter f args) w) := by kernel_rfl) : StepOk P lf l sp (yof a0) w i o :=
  q_step hs fun w' _ => by
    have h2 : (execOp (envE (envOf l sp a0 o)) o).run P w' = .ok (.enter f args) w' := congrFun h w'
    unfold Yields
    rw [h2]
    exact (hg w').mono fun v w'' h => ⟨h.2, h.1⟩
variable {ms : List Nat} {w0 : World} {bs : List Blk}
/-- one cell of a known block -/
theorem qL_ (S : St ms w0 bs w) (j b off : Nat) {x : Operand} {ty : TypeId} (ho : o.op = .load ty x := by rfl) (hs : slotsOk l sp i o = true := by kernel_rfl) (hx : envE (envOf l sp a0 o) x = .pointer (some ⟨b, off, none⟩) := by kernel_rfl)
    (ha : (P.underlying ty).map aggD = some false := by kernel_rfl) (hb : lk bs j off = some (b, (sp i).f []) := by kernel_rfl) : StepOk P lf l sp (yof a0) w i o :=
  q_step hs fun w' hc => Y.load1_ (S.quiet hc) j _ b off ⟨Ch.refl _ _, rfl⟩ ho hx ha hb
theorem qN_ (S : St ms w0 bs w) (j b off n : Nat) (vs : Array Value) {x : Operand} {ty : TypeId} (ho : o.op = .load ty x := by rfl) (hv : (sp i).f [] = .agg vs := by kernel_rfl) (hs : slotsOk l sp i o = true := by kernel_rfl) (hx : envE (envOf l sp a0 o) x = .pointer (some ⟨b, off, none⟩) := by kernel_rfl)
    (ha : (P.underlying ty).map aggD = some true := by kernel_rfl) (hn : (P.info? ty).map (·.size) = some n := by kernel_rfl) (hb : lkN bs j off n = some (b, vs) := by kernel_rfl) : StepOk P lf l sp (yof a0) w i o :=
  q_step hs fun w' hc => Y.loadN_ (S.quiet hc) j n vs b off ⟨Ch.refl _ _, hv.symm⟩ ho hx ha hn hb
end
theorem valsAre_of {vs : Nat → Value} : ∀ {vals : List Value} {k : Nat}, (∀ i v, vals[i]? = some v → vs (k + i) = v) → valsAre vs k vals
  | [], _, _ => trivial
  | v :: vals, k, h => ⟨by have := h 0 v rfl; simpa using this, valsAre_of fun i u hu => by
      have := h (i + 1) u (by simpa using hu)
      rwa [show k + (i + 1) = k + 1 + i by omega] at this⟩
/-- a region that draws its order, whose first m operations only read and compute -/
theorem quietL_ {P : Program} {a0 : Act} {w0 : World} {Q : Exit → Act → World → Prop} {id : Nat} {L : List Oper} (m : Nat) (vals : List Value) (paths : List (List Nat))
    (hs : StepAll P L (L.take m) (spl (vals.map s0)) (yof a0) w0 0 (L.take m))
    (hq : ∀ w', Ch [] w0 w' → WL P L.toArray Q (L.drop m) (putsL vals (L.take m) a0) w')
    (hvl : vals.length = m := by kernel_rfl)
    (hm : P.follows .mixedOrders = true := by kernel_rfl) (hl : Nat.ble m L.length = true := by kernel_rfl) (ht : tailOk L m paths = true := by kernel_rfl) (hdst : dstsOk a0.tmps.size (L.take m) = true := by kernel_rfl) (hedge : edgesOk 0 L = true := by kernel_rfl) : (Code.region id L.toArray true).wp P Q a0 w0 := by
  refine drawnL_ m (vals.map s0) paths hs (fun vs w' hc hall => ⟨vals, hvl, valsAre_of fun i v hv => ?_, hq w' hc⟩) hm hl ht hdst hedge
  have hi : i < m := by
    rcases Nat.lt_or_ge i vals.length with h | h
    · omega
    · simp [h] at hv
  obtain ⟨ids, h1, h2, _⟩ := hall i (by unfold Nat.blt; exact Nat.ble_eq_true_of_le hi)
  have h3 : spl (vals.map s0) i = s0 v := by
    unfold spl
    rw [List.getD_eq_getElem?_getD, List.getElem?_map, hv]; rfl
  rw [h3] at h1 h2
  obtain rfl : ids = [] := List.eq_nil_of_length_eq_zero (by simpa [s0] using h1)
  rw [Nat.zero_add, h2]; rfl
end Sx
namespace Sx
open Go Go.RowKit Go.BigFrame
section
variable {P : Program} {ops : Array Oper} {rest : List Oper} {o : Oper} {a : Act} {w : World} {Q : Exit → Act → World → Prop}
/-- a shift by a number that is not told -/
theorem shrS_ (kd ykd : IntKind) (x y : Int) {t yt : TypeId} {xo yo : Operand} (h : 0 ≤ y) (k : WL P ops Q rest (a.put o.dst (.int kd (x.fdiv (2 ^ (min y.toNat kd.bits))))) w) (hw : Region.wanted o (yielded ops a.tmps) = true := by kernel_rfl)
    (ho : o.op = .binOp .shr t xo yo yt := by rfl) (hx : a.eval xo = .int kd x := by kernel_rfl) (hy : a.eval yo = .int ykd y := by kernel_rfl) : WL P ops Q (o :: rest) a w :=
  pure_ _ k hw (by
    have hn : ¬ y < 0 := by omega
    unfold execOp
    simp [ho, hx, hy, Go.eqGuard, Go.binOp, Op.shift, hn])
end
section
variable {P : Program} {lf l : List Oper} {sp : Nat → Sp} {y0 : Nat → Value} {w : World} {i : Nat} {o : Oper}
/-- an operation whose guard holds -/
theorem qU_ (j d : Nat) (want : Bool) (h : StepOk P lf l sp y0 w i { o with guard := none }) (hg : o.guard = some (j, want) := by rfl) (he : edgeB o j = true := by kernel_rfl) (hd : (l[j]?).bind (·.dst) = some d := by kernel_rfl) (hdf : (lf[j]?).bind (·.dst) = some d := by kernel_rfl)
    (hk : (sp j) = s0 (.bool want) := by rfl) : StepOk P lf l sp y0 w i o := by
  intro y w' hc hfree hpre
  have hh := hpre j d he hd
  rw [hk] at hh
  have hy : y d = .bool want := (Sp.out0 hh).1
  obtain ⟨h1, _⟩ := h y w' hc hfree hpre
  refine ⟨fun _ => h1 rfl, fun hw => ?_⟩
  rw [wY_t hy hg hdf] at hw; cases hw
/-- an operation whose guard doesn't hold -/
theorem qX_ (j d : Nat) (want c : Bool) (hg : o.guard = some (j, want) := by rfl) (he : edgeB o j = true := by kernel_rfl) (hd : (l[j]?).bind (·.dst) = some d := by kernel_rfl) (hdf : (lf[j]?).bind (·.dst) = some d := by kernel_rfl)
    (hk : (sp j) = s0 (.bool c) := by rfl) (hc' : c = !want := by rfl) (hs : sp i = s0 undef := by rfl) : StepOk P lf l sp y0 w i o := by
  intro y w' hc hfree hpre
  have hh := hpre j d he hd
  rw [hk] at hh
  have hy : y d = .bool c := (Sp.out0 hh).1
  refine ⟨fun hw => ?_, fun _ => ?_⟩
  · rw [wY_f hy hg hdf hc'] at hw; cases hw
  · rw [hs]; exact Sp.mk_holds [] all_nil
end
end Sx
