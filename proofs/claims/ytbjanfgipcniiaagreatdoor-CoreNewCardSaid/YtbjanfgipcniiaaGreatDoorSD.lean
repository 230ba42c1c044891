/- Regions that draw their order: operations that read, compute, make memory, or call what does so, in whatever order; then what must come behind them, in the order of the text. Over any program. -/
import Derived.Test.YtbjanfgipcniiaaGreatDoorSE
import Derived.Orders
namespace Sx
open Go Go.RowKit Go.BigFrame
set_option linter.unusedVariables false

def Yields (P : Program) (o : Oper) (ρ : Operand → Value) (w : World) (R : Value → World → Prop) : Prop :=
  match (execOp ρ o).run P w with
  | .ok (.value v) w' => R v w'
  | .ok .skip w' => R undef w'
  | .ok (.enter f args) w' => Gives P f args w' R
  | _ => False
def rho (y : Nat → Value) : Operand → Value
  | .tmp t => y t
  | .const v => v
  | .global g => .pointer (some ⟨g, 0, none⟩)
  | .func f => .func (.func f) #[] #[]
def yof (a : Act) : Nat → Value := fun t => a.tmps.getD t undef
theorem rho_yof (a : Act) : rho (yof a) = a.eval := by funext x; cases x <;> rfl

theorem Yields.wp {P : Program} {o : Oper} {a : Act} {w : World} {R : Value → World → Prop} {K : Act → World → Prop} {Q : Exit → Act → World → Prop} (h : Yields P o a.eval w R) (hk : ∀ v w', R v w' → K (a.put o.dst v) w') : o.wp P a w K Q := by
  unfold Yields at h
  unfold Oper.wp
  generalize (execOp a.eval o).run P w = r at *
  cases r with
  | halt x w' => simp at h
  | ok n w' =>
    cases n <;> simp at h <;> simp only [Oper.upon]
    · exact hk _ _ h
    · exact hk _ _ h
    · refine Calls.mono h ?_
      rintro e w'' ⟨v, rfl, hv⟩
      exact hk _ _ hv

/-- what is known of a value that was made: new blocks, and what stands there -/
structure Sp where
  k : Nat
  f : List Nat → Value
  bl : List Nat → List (Nat × Obj)
def Sp.holds (s : Sp) (B : Nat) (v : Value) (w : World) : Prop := ∃ ids : List Nat, ids.length = s.k ∧ v = s.f ids ∧ ∀ p ∈ s.bl ids, B ≤ p.1 ∧ w.heap[p.1]? = some p.2
theorem Sp.holds.stab {s : Sp} {B : Nat} {v : Value} {w w' : World} (h : s.holds B v w) (hc : Ch [] w w') : s.holds B v w' := by
  obtain ⟨ids, h1, h2, h3⟩ := h
  exact ⟨ids, h1, h2, fun p hp => ⟨(h3 p hp).1, (hc.block _ (heap_lt (h3 p hp).2) (by simp)).trans (h3 p hp).2⟩⟩
def edgeB (o : Oper) (j : Nat) : Bool := o.after.any fun e => e.on == j && Region.binds .any e
def wantedY (l : List Oper) (o : Oper) (y : Nat → Value) : Bool :=
  match o.guard with
  | none => true
  | some (j, want) => match (l[j]?).bind (·.dst) with
    | some d => match y d with
      | .bool b => b == want
      | _ => false
    | none => false
theorem wantedY_of (l : List Oper) (o : Oper) (a : Act) : Region.wanted o (yielded l.toArray a.tmps) = wantedY l o (yof a) := by
  unfold Region.wanted wantedY
  cases hg : o.guard with
  | none => rfl
  | some p =>
    obtain ⟨j, want⟩ := p
    simp only [yielded, List.getElem?_toArray]
    cases hd : (l[j]?).bind (·.dst) with
    | none => simp
    | some d =>
      simp only [Option.bind_some, yof, Array.getD_eq_getD_getElem?]
      cases ht : a.tmps[d]? with
      | none => simp [undef]
      | some v => cases v <;> simp
def freeB (l : List Oper) (i t : Nat) : Bool := l.all fun ok => ok.dst != some t || edgeB ok i

def StepOk (P : Program) (lf l : List Oper) (sp : Nat → Sp) (y0 : Nat → Value) (w : World) (i : Nat) (o : Oper) : Prop :=
  ∀ (y : Nat → Value) (w' : World), Ch [] w w' → (∀ t, freeB l i t = true → y t = y0 t) →
    (∀ j d, edgeB o j = true → (l[j]?).bind (·.dst) = some d → (sp j).holds w.heap.size (y d) w') →
    (wantedY lf o y = true → Yields P o (rho y) w' fun v w'' => Ch [] w' w'' ∧ (sp i).holds w.heap.size v w'') ∧ (wantedY lf o y = false → (sp i).holds w.heap.size undef w')
def StepAll (P : Program) (lf l : List Oper) (sp : Nat → Sp) (y0 : Nat → Value) (w : World) : Nat → List Oper → Prop
  | _, [] => True
  | i, o :: rest => StepOk P lf l sp y0 w i o ∧ StepAll P lf l sp y0 w (i + 1) rest
theorem StepAll.get {P : Program} {lf l : List Oper} {sp : Nat → Sp} {y0 : Nat → Value} {w : World} : ∀ {k : Nat} {m : List Oper}, StepAll P lf l sp y0 w k m → ∀ (i : Nat) o, m[i]? = some o → StepOk P lf l sp y0 w (k + i) o
  | _, [], _, i, o, h => by simp at h
  | k, x :: rest, ⟨h1, h2⟩, 0, o, h => by obtain rfl : x = o := by simpa using h
                                          exact h1
  | k, x :: rest, ⟨h1, h2⟩, i + 1, o, h => by
    have := StepAll.get h2 i o (by simpa using h)
    rwa [show k + 1 + i = k + (i + 1) by omega] at this
def putsAll (vs : Nat → Value) : Nat → List Oper → Act → Act
  | _, [], a => a
  | i, o :: rest, a => putsAll vs (i + 1) rest (a.put o.dst (vs i))

theorem size_put (a : Act) (d : Option Tmp) (v : Value) : (a.put d v).tmps.size = a.tmps.size := by cases d <;> simp [Act.put]
theorem defers_put (a : Act) (d : Option Tmp) (v : Value) : (a.put d v).defers = a.defers := by cases d <;> rfl
theorem yof_put (a : Act) (d : Nat) (v : Value) (t : Nat) (hd : d < a.tmps.size) : yof (a.put (some d) v) t = if t = d then v else yof a t := by
  simp only [yof, Act.put, Array.getD_eq_getD_getElem?, Array.getElem?_setIfInBounds]
  by_cases h : d = t
  · subst h; simp [hd]
  · rw [if_neg h, if_neg (fun e => h e.symm)]
theorem act_ext {a b : Act} (hs : a.tmps.size = b.tmps.size) (hd : a.defers = b.defers) (h : ∀ t, yof a t = yof b t) : a = b := by
  obtain ⟨x, ds⟩ := a
  obtain ⟨y, es⟩ := b
  simp only at hd hs
  subst hd
  congr 1
  apply Array.ext hs
  intro i h1 h2
  have := h i
  simpa [yof, h1, h2] using this

/-- slots that are written are there, each by one operation -/
def nodupB : List (Option Nat) → Bool
  | [] => true
  | x :: xs => !(xs.any (· == x)) && nodupB xs
def dstsOk (n : Nat) (l : List Oper) : Bool := l.all (fun o => match o.dst with | some d => Nat.blt d n | none => false) && nodupB (l.map (·.dst))
theorem nodupB_iff : ∀ {l : List (Option Nat)}, nodupB l = true → l.Nodup
  | [], _ => List.nodup_nil
  | x :: xs, h => by
    simp only [nodupB, Bool.and_eq_true, Bool.not_eq_true'] at h
    refine List.nodup_cons.2 ⟨?_, nodupB_iff h.2⟩
    intro hm
    have := h.1
    simp only [List.any_eq_false] at this
    exact this x hm (by simp)
def edgesOk : Nat → List Oper → Bool
  | _, [] => true
  | i, o :: rest => (o.after.all fun e => !Region.binds .any e || Nat.blt e.on i) && edgesOk (i + 1) rest
theorem edgesOk_get : ∀ {k : Nat} {l : List Oper}, edgesOk k l = true → ∀ (i : Nat) o, l[i]? = some o → ∀ e ∈ o.after, Region.binds .any e = true → e.on < k + i
  | _, [], _, i, o, h, _, _, _ => by simp at h
  | k, x :: rest, hh, 0, o, h, e, he, hb => by
    obtain rfl : x = o := by simpa using h
    simp only [edgesOk, Bool.and_eq_true, Array.all_eq_true_iff_forall_mem] at hh
    have := hh.1 e he
    simp only [hb, Bool.not_true, Bool.false_or] at this
    simpa [Nat.blt_eq] using this
  | k, x :: rest, hh, i + 1, o, h, e, he, hb => by
    simp only [edgesOk, Bool.and_eq_true] at hh
    have := edgesOk_get hh.2 i o (by simpa using h) e he hb
    omega

theorem bool_at {L : Array Bool} {n i : Nat} (h : L.size = n) (hi : i < n) : L[i]? = some true ∨ L[i]? = some false := by
  have h1 : i < L.size := by omega
  rw [Array.getElem?_eq_getElem h1]
  cases L[i] <;> simp
theorem count_set : ∀ (L : List Bool) (i : Nat), L[i]? = some false → (L.set i true).count false + 1 = L.count false
  | [], i, h => by simp at h
  | x :: xs, 0, h => by obtain rfl : x = false := by simpa using h
                        simp
  | x :: xs, i + 1, h => by
    have := count_set xs i (by simpa using h)
    cases x <;> simp [List.set_cons_succ] <;> omega
theorem count_all : ∀ (L : List Bool) (n m : Nat), L.length = n + m → (∀ j, j < n → L[j]? = some true) → L.count false ≤ m
  | L, 0, m, h, _ => by have := List.count_le_length (a := false) (l := L); omega
  | [], n + 1, m, h, _ => by simp at h; omega
  | x :: xs, n + 1, m, h, ht => by
    obtain rfl : x = true := by simpa using ht 0 (by omega)
    have := count_all xs n m (by simp at h; omega) (fun j hj => by simpa using ht (j + 1) (by omega))
    simpa using this
theorem count_tail : ∀ (L : List Bool) (n m : Nat), L.length = n + m → (∀ j, n ≤ j → j < n + m → L[j]? = some false) → m ≤ L.count false
  | [], n, m, h, _ => by simp at h; omega
  | x :: xs, 0, m, h, ht => by
    obtain rfl : x = false := by simpa using ht 0 (by omega) (by simp at h; omega)
    have := count_tail xs 0 (m - 1) (by simp at h; omega) (fun j h1 h2 => by simpa using ht (j + 1) (by omega) (by omega))
    simp at h ⊢; omega
  | x :: xs, n + 1, m, h, ht => by
    have := count_tail xs n m (by simp at h; omega) (fun j h1 h2 => by simpa using ht (j + 1) (by omega) (by omega))
    cases x <;> simp <;> omega
theorem count_off : ∀ (L : List Bool) (n m : Nat), L.length = n + m → (∀ j, n ≤ j → j < n + m → L[j]? = some false) → ∀ i, i < n → L[i]? = some false → m + 1 ≤ L.count false
  | [], n, m, h, _, i, hi, _ => by simp at h; omega
  | x :: xs, n + 1, m, h, ht, i, hi, hx => by
    have hxs : m ≤ xs.count false := by
      have := count_tail xs n m (by simp at h; omega) (fun j h1 h2 => by simpa using ht (j + 1) (by omega) (by omega))
      exact this
    cases i with
    | zero => obtain rfl : x = false := by simpa using hx
              simp; omega
    | succ i =>
      have := count_off xs n m (by simp at h; omega) (fun j h1 h2 => by simpa using ht (j + 1) (by omega) (by omega)) i (by omega) (by simpa using hx)
      cases x <;> simp <;> omega
  | x :: xs, 0, m, h, ht, i, hi, hx => by omega
section
variable {P : Program} {l : List Oper} {sp : Nat → Sp} {a0 : Act} {w0 : World} {Q : Exit → Act → World → Prop}

structure DInv (l : List Oper) (n2 : Nat) (sp : Nat → Sp) (a0 : Act) (w0 : World) (vs : Nat → Value) (listed : Array Bool) (a : Act) (w : World) : Prop where
  ls : listed.size = l.length + n2
  off : ∀ i, l.length ≤ i → i < l.length + n2 → listed[i]? = some false
  size : a.tmps.size = a0.tmps.size
  defers : a.defers = a0.defers
  ch : Ch [] w0 w
  done : ∀ (i : Nat) (o : Oper) (d : Nat), l[i]? = some o → o.dst = some d → listed[i]? = some true → yof a d = vs i ∧ (sp i).holds w0.heap.size (vs i) w
  rest : ∀ (t : Nat), (∀ (i : Nat) (o : Oper), l[i]? = some o → o.dst = some t → listed[i]? = some false) → yof a t = yof a0 t
  back : ∀ (i : Nat) (o : Oper), l[i]? = some o → listed[i]? = some true → ∀ j, edgeB o j = true → listed[j]? = some true

/-- a way back from one operation to another one, by edges -/
def pathB (l : List Oper) : List Nat → Bool
  | k :: j :: rest => (match l[k]? with | some o => edgeB o j | none => false) && pathB l (j :: rest)
  | _ => true
/-- each operation from m on is behind all others ahead of it: the ways are told -/
def tailOk (l : List Oper) (m : Nat) (paths : List (List Nat)) : Bool :=
  (paths.all fun p => pathB l p) && (List.range l.length).all fun k => Nat.blt k m || (List.range k).all fun i => paths.any fun p => p.head? == some k && p.getLast? == some i && Nat.blt 1 p.length
theorem path_listed {l : List Oper} {listed : Array Bool} (back : ∀ (i : Nat) (o : Oper), l[i]? = some o → listed[i]? = some true → ∀ j, edgeB o j = true → listed[j]? = some true) :
    ∀ (p : List Nat) (k i : Nat), pathB l p = true → p.head? = some k → p.getLast? = some i → 1 < p.length → (∀ o, l[k]? = some o → ∀ j, edgeB o j = true → listed[j]? = some true) → listed[i]? = some true
  | [], _, _, _, h, _, _, _ => by simp at h
  | [x], _, _, _, _, _, h, _ => by simp at h
  | x :: y :: rest, k, i, hp, hh, hl, _, hk => by
    obtain rfl : x = k := by simpa using hh
    simp only [pathB, Bool.and_eq_true] at hp
    cases ho : l[x]? with
    | none => simp [ho] at hp
    | some o =>
      have hy := hk o ho y (by simpa [ho] using hp.1)
      cases rest with
      | nil => obtain rfl : y = i := by simpa using hl
               exact hy
      | cons z rest => exact path_listed back (y :: z :: rest) y i hp.2 rfl (by simpa using hl) (by simp) (fun oy hoy j hj => back y oy hoy hy j hj)

theorem yof_putsAll (vs : Nat → Value) : ∀ (m : List Oper) (k : Nat) (a : Act), (∀ o ∈ m, ∃ d, o.dst = some d ∧ d < a.tmps.size) → (m.map (·.dst)).Nodup →
    (putsAll vs k m a).tmps.size = a.tmps.size ∧ (putsAll vs k m a).defers = a.defers ∧ (∀ t, (∀ o ∈ m, o.dst ≠ some t) → yof (putsAll vs k m a) t = yof a t) ∧ ∀ i o d, m[i]? = some o → o.dst = some d → yof (putsAll vs k m a) d = vs (k + i)
  | [], k, a, _, _ => ⟨rfl, rfl, fun _ _ => rfl, fun i o d h => by simp at h⟩
  | x :: rest, k, a, hd, hn => by
    obtain ⟨dx, hx, hlt⟩ := hd x (by simp)
    simp only [List.map_cons, List.nodup_cons] at hn
    obtain ⟨h1, h2, h3, h4⟩ := yof_putsAll vs rest (k + 1) (a.put x.dst (vs k)) (fun o ho => by
      obtain ⟨d, e, h⟩ := hd o (by simp [ho]); exact ⟨d, e, by rw [size_put]; exact h⟩) hn.2
    refine ⟨by simp only [putsAll]; rw [h1, size_put], by simp only [putsAll]; rw [h2, defers_put], ?_, ?_⟩
    · intro t ht
      simp only [putsAll]
      rw [h3 t (fun o ho => ht o (by simp [ho])), hx, yof_put _ _ _ _ hlt, if_neg]
      intro e; subst e; exact ht x (by simp) hx
    · intro i o d hi ho
      cases i with
      | zero =>
        obtain rfl : x = o := by simpa using hi
        simp only [putsAll]
        obtain rfl : dx = d := by rw [hx] at ho; simpa using ho
        rw [h3 dx (fun o' ho' e => hn.1 (by rw [hx, ← e]; exact List.mem_map_of_mem (f := fun x => x.dst) ho')), hx, yof_put _ _ _ _ hlt, if_pos rfl]
        rfl
      | succ i =>
        simp only [putsAll]
        rw [h4 i o d (by simpa using hi) ho]
        congr 1; omega

theorem edgeB_iff {o : Oper} {j : Nat} : edgeB o j = true ↔ ∃ e ∈ o.after, e.on = j ∧ Region.binds .any e = true := by
  unfold edgeB
  rw [← Array.any_toList, List.any_eq_true]
  constructor
  · rintro ⟨e, he, hj⟩
    simp only [Bool.and_eq_true, beq_iff_eq] at hj
    exact ⟨e, Array.mem_toList_iff.1 he, hj.1, hj.2⟩
  · rintro ⟨e, he, h1, h2⟩
    exact ⟨e, Array.mem_toList_iff.2 he, by simp [h1, h2]⟩
theorem tailOk_path {l : List Oper} {m : Nat} {paths : List (List Nat)} (h : tailOk l m paths = true) (k : Nat) (hk : k < l.length) (hm : m ≤ k) (i : Nat) (hi : i < k) :
    ∃ p, pathB l p = true ∧ p.head? = some k ∧ p.getLast? = some i ∧ 1 < p.length := by
  simp only [tailOk, Bool.and_eq_true, List.all_eq_true, List.mem_range, Bool.or_eq_true, List.any_eq_true] at h
  obtain ⟨h1, h2⟩ := h
  rcases h2 k hk with h3 | h3
  · simp [Nat.blt_eq] at h3; omega
  · obtain ⟨p, hp, h4⟩ := h3 i hi
    simp only [beq_iff_eq, Nat.blt_eq] at h4
    exact ⟨p, h1 p hp, h4.1.1, h4.1.2, h4.2⟩
theorem rdy_iff (m : List Oper) (listed : Array Bool) (i : Nat) : i ∈ Region.ready .any m.toArray listed ↔ ∃ o, m[i]? = some o ∧ listed.getD i true = false ∧ ∀ e ∈ o.after, Region.binds .any e = true → listed.getD e.on false = true := by
  simp only [Region.ready, List.mem_filter, List.mem_range, List.size_toArray, List.getElem?_toArray, Bool.and_eq_true, Bool.not_eq_true']
  constructor
  · rintro ⟨h1, h2, h3⟩
    have hi : m[i]? = some m[i] := by simp
    refine ⟨m[i], hi, h2, ?_⟩
    rw [hi] at h3
    simp only [Option.map_some, Option.getD_some, Array.all_eq_true_iff_forall_mem, Bool.or_eq_true, Bool.not_eq_true'] at h3
    intro e he hb
    rcases h3 e he with h | h
    · rw [hb] at h; cases h
    · exact h
  · rintro ⟨o, ho, h2, h3⟩
    refine ⟨by rcases Nat.lt_or_ge i m.length with h | h; exact h; simp [h] at ho, h2, ?_⟩
    rw [ho]
    simp only [Option.map_some, Option.getD_some, Array.all_eq_true_iff_forall_mem, Bool.or_eq_true, Bool.not_eq_true']
    intro e he
    cases hb : Region.binds .any e with
    | false => exact Or.inl rfl
    | true => exact Or.inr (h3 e he hb)
/-- behind all others: in order -/
theorem tail_any (l2 : List Oper) (hedge : edgesOk 0 (l ++ l2) = true) (paths : List (List Nat)) (ht : tailOk (l ++ l2) l.length paths = true) :
    ∀ (r : List Oper) (k : Nat), l2.drop k = r → ∀ (listed : Array Bool) (a : Act) (w : World), listed.size = l.length + l2.length → (∀ i, i < l.length + k → listed[i]? = some true) → (∀ i, l.length + k ≤ i → i < l.length + l2.length → listed[i]? = some false) →
      wpList P (l ++ l2).toArray Q r a w → wpAny P .any (l ++ l2).toArray Q r.length listed a w := by
  intro r
  induction r with
  | nil =>
    intro k hk listed a w hsz h1 h2 h
    have hkl : l2.length ≤ k := by simpa using hk
    refine ⟨?_, h⟩
    refine List.eq_nil_iff_forall_not_mem.2 fun i hi => ?_
    obtain ⟨o, ho, hf, _⟩ := (rdy_iff _ listed i).1 hi
    have hi : i < (l ++ l2).length := by rcases Nat.lt_or_ge i (l ++ l2).length with h | h; exact h; simp [List.getElem?_eq_none h] at ho
    have := h1 i (by simp at hi; omega)
    simp [Array.getD_eq_getD_getElem?, this] at hf
  | cons o rest ih =>
    intro k hk listed a w hsz h1 h2 h
    have hkl : k < l2.length := by rcases Nat.lt_or_ge k l2.length with h | h; exact h; simp [List.drop_eq_nil_of_le h] at hk
    have hok : l2[k]? = some o := by rw [← List.head?_drop, hk]; rfl
    have hat : (l ++ l2)[l.length + k]? = some o := by rw [List.getElem?_append_right (by omega)]; simpa using hok
    refine ⟨fun hr => ?_, ?_⟩
    · exfalso
      have : l.length + k ∈ Region.ready .any (l ++ l2).toArray listed := (rdy_iff _ listed _).2 ⟨o, hat, by simp [Array.getD_eq_getD_getElem?, h2 (l.length + k) (by omega) (by omega)], fun e he hb => by
        have := edgesOk_get hedge _ o hat e he hb
        simp [Array.getD_eq_getD_getElem?, h1 e.on (by omega)]⟩
      rw [hr] at this; simp at this
    · intro i hi
      obtain ⟨oi, hoi, hf, hpre⟩ := (rdy_iff _ listed i).1 hi
      have hil : i < (l ++ l2).length := by rcases Nat.lt_or_ge i (l ++ l2).length with h | h; exact h; simp [List.getElem?_eq_none h] at hoi
      have hge : l.length + k ≤ i := by
        rcases Nat.lt_or_ge i (l.length + k) with h | h
        · simp [Array.getD_eq_getD_getElem?, h1 i h] at hf
        · exact h
      have heq : i = l.length + k := by
        rcases Nat.lt_or_ge (l.length + k) i with hlt | hle
        · exfalso
          -- the one at k would be listed
          have hb : ∀ (x : Nat) (o' : Oper), (l ++ l2)[x]? = some o' → listed[x]? = some true → ∀ j, edgeB o' j = true → listed[j]? = some true := by
            intro x o' hx hlx j hj
            obtain ⟨e, he, rfl, hbd⟩ := edgeB_iff.1 hj
            have h3 := edgesOk_get hedge x o' hx e he hbd
            refine h1 e.on ?_
            rcases Nat.lt_or_ge x (l.length + k) with h | h
            · omega
            · have hxl : x < (l ++ l2).length := by rcases Nat.lt_or_ge x (l ++ l2).length with h' | h'; exact h'; simp [List.getElem?_eq_none h'] at hx
              have := h2 x h (by simpa using hxl)
              rw [hlx] at this; simp at this
          obtain ⟨p, q1, q2, q3, q4⟩ := tailOk_path ht i (by simpa using hil) (by omega) (l.length + k) hlt
          have := path_listed hb p i (l.length + k) q1 q2 q3 q4 (fun o' ho' j hj => by
            obtain rfl : oi = o' := by rw [hoi] at ho'; simpa using ho'
            obtain ⟨e, he, rfl, hbd⟩ := edgeB_iff.1 hj
            have h3 := hpre e he hbd
            have h4 := edgesOk_get hedge i oi hoi e he hbd
            rcases bool_at hsz (show e.on < l.length + l2.length by simp at hil; omega) with hx | hx
            · exact hx
            · simp [Array.getD_eq_getD_getElem?, hx] at h3)
          rw [h2 (l.length + k) (by omega) (by omega)] at this; simp at this
        · omega
      subst heq
      obtain rfl : o = oi := by rw [hat] at hoi; simpa using hoi
      have next : ∀ a' w', wpList P (l ++ l2).toArray Q rest a' w' → wpAny P .any (l ++ l2).toArray Q rest.length (listed.setIfInBounds (l.length + k) true) a' w' := by
        intro a' w' h'
        refine ih (k + 1) (by rw [← List.drop_drop, hk]; rfl) _ a' w' (by simpa using hsz) ?_ ?_ h'
        · intro j hj
          rw [Array.getElem?_setIfInBounds]
          split
          · rename_i e; subst e; rw [if_pos (by omega)]
          · exact h1 j (by omega)
        · intro j hj hj2
          rw [Array.getElem?_setIfInBounds, if_neg (by omega)]
          exact h2 j (by omega) hj2
      unfold wpList at h
      unfold wpOp
      simp only [List.getElem?_toArray, hat]
      split at h
      · rename_i hw
        rw [if_pos hw]
        exact h.imp (Oper.wp_mono fun a' w' => next a' w') id
      · rename_i hw
        rw [if_neg hw]
        exact next _ _ h

theorem drawn_any (l2 : List Oper) (paths : List (List Nat)) (ht : tailOk (l ++ l2) l.length paths = true) (hdst : dstsOk a0.tmps.size l = true) (hedge : edgesOk 0 (l ++ l2) = true) (hs : StepAll P (l ++ l2) l sp (yof a0) w0 0 l)
    (hq : ∀ (vs : Nat → Value) w', Ch [] w0 w' → (∀ i o, l[i]? = some o → (sp i).holds w0.heap.size (vs i) w') → wpList P (l ++ l2).toArray Q l2 (putsAll vs 0 l a0) w') :
    ∀ (fuel : Nat) (vs : Nat → Value) (listed : Array Bool) (a : Act) (w : World), DInv l l2.length sp a0 w0 vs listed a w → listed.toList.count false = fuel + l2.length → wpAny P .any (l ++ l2).toArray Q (fuel + l2.length) listed a w := by
  have inl : ∀ {i : Nat} {o : Oper}, (l ++ l2)[i]? = some o → i < l.length → l[i]? = some o := fun h hi => by rwa [List.getElem?_append_left hi] at h
  have inr : ∀ {i : Nat} {o : Oper}, l[i]? = some o → (l ++ l2)[i]? = some o := fun {i o} h => by rwa [List.getElem?_append_left (by rcases Nat.lt_or_ge i l.length with h' | h'; exact h'; simp [h'] at h)]
  simp only [dstsOk, Bool.and_eq_true, List.all_eq_true] at hdst
  have hd : ∀ o ∈ l, ∃ d, o.dst = some d ∧ d < a0.tmps.size := by
    intro o ho
    have := hdst.1 o ho
    cases hx : o.dst with
    | none => simp [hx] at this
    | some d => exact ⟨d, rfl, by simpa [hx, Nat.blt_eq] using this⟩
  have hn := nodupB_iff hdst.2
  have uniq : ∀ (i j : Nat) o p d, l[i]? = some o → l[j]? = some p → o.dst = some d → p.dst = some d → i = j := by
    intro i j o p d hi hj ho hp
    have hil : i < (l.map (·.dst)).length := by simp; rcases Nat.lt_or_ge i l.length with h | h; exact h; simp [h] at hi
    refine (List.getElem?_inj hil hn).1 ?_
    simp [hi, hj, ho, hp]
  -- when all are listed
  have fin : ∀ vs listed a w, DInv l l2.length sp a0 w0 vs listed a w → (∀ i, i < l.length → listed[i]? = some true) → wpAny P .any (l ++ l2).toArray Q l2.length listed a w := by
    intro vs listed a w I hall
    obtain ⟨h1, h2, h3, h4⟩ := yof_putsAll vs l 0 a0 hd hn
    have : a = putsAll vs 0 l a0 := by
      refine act_ext (by rw [I.size, h1]) (by rw [I.defers, h2]) ?_
      intro t
      by_cases ht : ∃ (i : Nat) (o : Oper), l[i]? = some o ∧ o.dst = some t
      · obtain ⟨i, o, hi, ho⟩ := ht
        rw [h4 i o t hi ho, Nat.zero_add]
        exact (I.done i o t hi ho (hall i (by rcases Nat.lt_or_ge i l.length with h | h; exact h; simp [h] at hi))).1
      · rw [h3 t (fun o ho e => ht (by obtain ⟨i, hi⟩ := List.getElem?_of_mem ho; exact ⟨i, o, hi, e⟩))]
        exact I.rest t (fun i o hi ho => absurd ⟨i, o, hi, ho⟩ ht)
    rw [this]
    refine tail_any l2 hedge paths ht l2 0 rfl listed _ w I.ls (fun i hi => hall i (by omega)) (fun i h1 h2 => I.off i (by omega) h2) ?_
    exact hq vs w I.ch fun i o hi => by
      obtain ⟨d, ho, _⟩ := hd o (List.mem_of_getElem? hi)
      exact (I.done i o d hi ho (hall i (by rcases Nat.lt_or_ge i l.length with h | h; exact h; simp [h] at hi))).2
  -- a tail operation that is ready: then all of l are done
  have tl : ∀ vs listed a w, DInv l l2.length sp a0 w0 vs listed a w → ∀ i, i ∈ Region.ready .any (l ++ l2).toArray listed → l.length ≤ i → ∀ j, j < l.length → listed[j]? = some true := by
    intro vs listed a w I i hi hge j hj
    obtain ⟨oi, hoi, hf, hpre⟩ := (rdy_iff _ listed i).1 hi
    have hil : i < (l ++ l2).length := by rcases Nat.lt_or_ge i (l ++ l2).length with h | h; exact h; simp [List.getElem?_eq_none h] at hoi
    obtain ⟨p, q1, q2, q3, q4⟩ := tailOk_path ht i hil hge j (by omega)
    refine path_listed (l := l ++ l2) ?_ p i j q1 q2 q3 q4 ?_
    · intro x o hx hlx k hk
      rcases Nat.lt_or_ge x l.length with h | h
      · exact I.back x o (inl hx h) hlx k hk
      · have hxl : x < (l ++ l2).length := by rcases Nat.lt_or_ge x (l ++ l2).length with h' | h'; exact h'; simp [List.getElem?_eq_none h'] at hx
        have := I.off x h (by simpa using hxl)
        rw [hlx] at this; simp at this
    · intro o ho k hk
      obtain rfl : oi = o := by rw [hoi] at ho; simpa using ho
      obtain ⟨e, he, rfl, hbd⟩ := edgeB_iff.1 hk
      have h3 := hpre e he hbd
      have h4 := edgesOk_get hedge i oi hoi e he hbd
      rcases bool_at I.ls (show e.on < l.length + l2.length by simp at hil; omega) with hx | hx
      · exact hx
      · simp [Array.getD_eq_getD_getElem?, hx] at h3
  intro fuel
  induction fuel with
  | zero =>
    intro vs listed a w I hc
    have hall : ∀ i, i < l.length → listed[i]? = some true := by
      intro i hi
      rcases bool_at I.ls (show i < l.length + l2.length by omega) with hb | hb
      · exact hb
      · exfalso
        have h4 := count_off listed.toList l.length l2.length (by simpa using I.ls) (fun j h1 h2 => by simpa using I.off j h1 h2) i hi (by simpa using hb)
        omega
    rw [Nat.zero_add]
    exact fin vs listed a w I hall
  | succ fuel ih =>
    intro vs listed a w I hc
    by_cases hdone : ∀ i, i < l.length → listed[i]? = some true
    · exfalso
      have := count_all listed.toList l.length l2.length (by simpa using I.ls) (fun j h1 => by simpa using hdone j h1)
      omega
    rw [show fuel + 1 + l2.length = (fuel + l2.length) + 1 by omega]
    refine ⟨fun hr => ?_, ?_⟩
    · -- nothing is ready: all are listed
      exfalso
      refine hdone ?_
      intro i
      induction i using Nat.strongRecOn with
      | _ i ih2 =>
        intro hi
        rcases bool_at I.ls (show i < l.length + l2.length by omega) with hb | hb
        · exact hb
        · exfalso
          have : i ∈ Region.ready .any (l ++ l2).toArray listed := (rdy_iff _ listed i).2 ⟨l[i], inr (by simp), by simp [Array.getD_eq_getD_getElem?, hb], fun e he hbind => by
            have hlt := edgesOk_get hedge i l[i] (inr (by simp)) e he hbind
            have := ih2 e.on (by omega) (by omega)
            simp [Array.getD_eq_getD_getElem?, this]⟩
          rw [hr] at this
          simp at this
    · intro i hi
      have hil : i < l.length := by
        rcases Nat.lt_or_ge i l.length with h | h
        · exact h
        · exact absurd (tl vs listed a w I i hi h) hdone
      obtain ⟨o, hoA, h2, h3⟩ := (rdy_iff _ listed i).1 hi
      have ho := inl hoA hil
      have hfi : listed[i]? = some false := by
        rcases bool_at I.ls (show i < l.length + l2.length by omega) with hb | hb
        · simp [Array.getD_eq_getD_getElem?, hb] at h2
        · exact hb
      obtain ⟨d, hod, hdlt⟩ := hd o (List.mem_of_getElem? ho)
      have hpre : ∀ j, edgeB o j = true → listed[j]? = some true := by
        intro j hj
        unfold edgeB at hj
        rw [← Array.any_toList, List.any_eq_true] at hj
        obtain ⟨e, he, hj⟩ := hj
        simp only [Bool.and_eq_true, beq_iff_eq] at hj
        obtain ⟨rfl, hb⟩ := hj
        have he := Array.mem_toList_iff.1 he
        have h4 := h3 e he hb
        have hlt := edgesOk_get hedge i o hoA e he hb
        rcases bool_at I.ls (show e.on < l.length + l2.length by omega) with hb | hb
        · exact hb
        · simp [Array.getD_eq_getD_getElem?, hb] at h4
      have step := (StepAll.get hs i o ho) (yof a) w I.ch (fun t ht => by
          refine I.rest t fun k ok hk hok => ?_
          rw [freeB, List.all_eq_true] at ht
          have := ht ok (List.mem_of_getElem? hk)
          simp only [hok, bne_self_eq_false, Bool.false_or] at this
          have hkl : k < l.length := by rcases Nat.lt_or_ge k l.length with h | h; exact h; simp [h] at hk
          rcases bool_at I.ls (show k < l.length + l2.length by omega) with hb | hb
          · have := I.back k ok hk hb i (by simpa using this)
            rw [hfi] at this; simp at this
          · exact hb)
        (fun j dj hj hdj => by
          cases hlj : l[j]? with
          | none => simp [hlj] at hdj
          | some oj =>
            have := I.done j oj dj hlj (by simpa [hlj] using hdj) (hpre j hj)
            rw [this.1]; exact this.2)
      rw [Nat.zero_add] at step
      have next : ∀ v w', Ch [] w w' → (sp i).holds w0.heap.size v w' → wpAny P .any (l ++ l2).toArray Q (fuel + l2.length) (listed.setIfInBounds i true) (a.put o.dst v) w' := by
        intro v w' hcw hv
        refine ih (fun j => if j = i then v else vs j) _ _ _ ?_ ?_
        · have gl : ∀ j b, (listed.setIfInBounds i true)[j]? = some b → (j = i ∧ b = true) ∨ (j ≠ i ∧ listed[j]? = some b) := by
            intro j b hj
            rw [Array.getElem?_setIfInBounds] at hj
            by_cases h : i = j
            · subst h
              have : i < l.length + l2.length := by omega
              simp [I.ls, this] at hj
              exact Or.inl ⟨rfl, hj⟩
            · rw [if_neg h] at hj
              exact Or.inr ⟨fun e => h e.symm, hj⟩
          have yp : ∀ t, yof (a.put o.dst v) t = if t = d then v else yof a t := fun t => by rw [hod]; exact yof_put _ _ _ _ (by rw [I.size]; exact hdlt)
          refine ⟨by simp [I.ls], fun j h1 h2 => by
              rw [Array.getElem?_setIfInBounds, if_neg (by omega)]; exact I.off j h1 h2, by rw [size_put, I.size], by rw [defers_put, I.defers], I.ch.trans hcw (by simp), ?_, ?_, ?_⟩
          · intro j oj dj hj hdj hlj
            rcases gl j true hlj with ⟨rfl, _⟩ | ⟨hne, hlj⟩
            · obtain rfl : o = oj := by rw [ho] at hj; simpa using hj
              obtain rfl : d = dj := by rw [hod] at hdj; simpa using hdj
              rw [yp]; simp; exact hv
            · have := I.done j oj dj hj hdj hlj
              rw [yp, if_neg (fun (e : dj = d) => hne (uniq j i oj o d hj ho (e ▸ hdj) hod)), if_neg hne]
              exact ⟨this.1, this.2.stab hcw⟩
          · intro t ht
            rw [yp, if_neg]
            · refine I.rest t fun k ok hk hok => ?_
              have := ht k ok hk hok
              rcases gl k false this with ⟨_, h⟩ | ⟨_, h⟩
              · cases h
              · exact h
            · rintro rfl
              have := ht i o ho hod
              rcases gl i false this with ⟨_, h⟩ | ⟨h, _⟩
              · cases h
              · exact h rfl
          · intro k ok hk hlk j hj
            have hb : listed[j]? = some true := by
              rcases gl k true hlk with ⟨rfl, _⟩ | ⟨hne, hlk⟩
              · obtain rfl : o = ok := by rw [ho] at hk; simpa using hk
                exact hpre j hj
              · exact I.back k ok hk hlk j hj
            rw [Array.getElem?_setIfInBounds]
            split
            · rename_i h; subst h; rw [hfi] at hb; simp at hb
            · exact hb
        · have h2 : listed[i]? = some false := hfi
          have hcount := count_set listed.toList i (by simpa using h2)
          simp only [Array.toList_setIfInBounds]
          omega
      unfold wpOp
      simp only [List.getElem?_toArray, hoA]
      rw [wantedY_of]
      cases hw : wantedY (l ++ l2) o (yof a) with
      | true =>
        rw [if_pos rfl]
        refine Or.inl ?_
        have hy := step.1 hw
        rw [rho_yof] at hy
        exact Yields.wp hy fun v w' ⟨hcw, hv⟩ => next v w' hcw hv
      | false =>
        rw [if_neg (by simp)]
        exact next undef w (Ch.refl _ _) (step.2 hw)
/-- a region that draws its order -/
theorem drawn_ {id : Nat} (l l2 : List Oper) (sp : Nat → Sp) (paths : List (List Nat)) (hm : P.follows .mixedOrders = true) (ht : tailOk (l ++ l2) l.length paths = true) (hdst : dstsOk a0.tmps.size l = true) (hedge : edgesOk 0 (l ++ l2) = true) (hs : StepAll P (l ++ l2) l sp (yof a0) w0 0 l)
    (hq : ∀ (vs : Nat → Value) w', Ch [] w0 w' → (∀ i o, l[i]? = some o → (sp i).holds w0.heap.size (vs i) w') → wpList P (l ++ l2).toArray Q l2 (putsAll vs 0 l a0) w') : (Code.region id (l ++ l2).toArray true).wp P Q a0 w0 := by
  refine wp_region_any hm ?_
  have h := drawn_any l2 paths ht hdst hedge hs hq l.length (fun _ => undef) (Array.replicate (l ++ l2).toArray.size false) a0 { w0 with drawn := w0.drawn + 1 } ?_ ?_
  · rw [show (l ++ l2).toArray.size = l.length + l2.length by simp]
    rw [show (l ++ l2).toArray.size = l.length + l2.length by simp] at h
    exact h
  · refine ⟨by simp, fun i h1 h2 => by simp [Array.getElem?_replicate]; omega, rfl, rfl, (Ch.refl _ _).drew, ?_, fun _ _ => rfl, ?_⟩
    · intro i o d _ _ h; simp [Array.getElem?_replicate] at h
    · intro i o _ h; simp [Array.getElem?_replicate] at h
  · simp [List.count_replicate_self]
end
/-! ### the steps of such a region -/
def spl (l : List Sp) : Nat → Sp := fun i => l.getD i ⟨0, fun _ => undef, fun _ => []⟩
section
variable {B : Nat} {x : Value} {w : World} {f : List Nat → Value} {bl : List Nat → List (Nat × Obj)}
theorem Sp.out0 (h : (⟨0, f, bl⟩ : Sp).holds B x w) : x = f [] ∧ ∀ p ∈ bl [], B ≤ p.1 ∧ w.heap[p.1]? = some p.2 := by
  obtain ⟨ids, h1, h2, h3⟩ := h
  obtain rfl : ids = [] := by simpa using h1
  exact ⟨h2, h3⟩
theorem Sp.out1 (h : (⟨1, f, bl⟩ : Sp).holds B x w) : ∃ b, x = f [b] ∧ ∀ p ∈ bl [b], B ≤ p.1 ∧ w.heap[p.1]? = some p.2 := by
  obtain ⟨ids, h1, h2, h3⟩ := h
  match ids, h1 with
  | [b], _ => exact ⟨b, h2, h3⟩
theorem Sp.out2 (h : (⟨2, f, bl⟩ : Sp).holds B x w) : ∃ b c, x = f [b, c] ∧ ∀ p ∈ bl [b, c], B ≤ p.1 ∧ w.heap[p.1]? = some p.2 := by
  obtain ⟨ids, h1, h2, h3⟩ := h
  match ids, h1 with
  | [b, c], _ => exact ⟨b, c, h2, h3⟩
end
/-- blocks that are only read -/
theorem St.ro {ms : List Nat} {w0 w w' : World} {bs : List Blk} (S : St ms w0 bs w) (hc : Ch [] w w') (ps : List (Nat × Obj)) (h : ∀ p ∈ ps, w.heap.size ≤ p.1 ∧ w'.heap[p.1]? = some p.2) : St ms w0 (ps.map (fun p => ⟨p.1, false, p.2⟩) ++ bs) w' := by
  have hq := S.quiet hc
  have hsp : ∀ (i : Nat) x, (ps.map (fun p => (⟨p.1, false, p.2⟩ : Blk)) ++ bs)[i]? = some x → (∃ p ∈ ps, x = ⟨p.1, false, p.2⟩ ∧ i < ps.length) ∨ (ps.length ≤ i ∧ bs[i - ps.length]? = some x) := by
    intro i x hx
    rcases Nat.lt_or_ge i ps.length with hi | hi
    · rw [List.getElem?_append_left (by simpa using hi)] at hx
      simp only [List.getElem?_map, Option.map_eq_some_iff] at hx
      obtain ⟨p, hp, rfl⟩ := hx
      exact Or.inl ⟨p, List.mem_of_getElem? hp, rfl, hi⟩
    · rw [List.getElem?_append_right (by simpa using hi)] at hx
      exact Or.inr ⟨hi, by simpa using hx⟩
  refine ⟨hq.ch, ?_, ?_, ?_⟩
  · intro i x hx
    rcases hsp i x hx with ⟨p, hp, rfl, _⟩ | ⟨_, hx⟩
    · exact (h p hp).2
    · exact hq.at_ _ x hx
  · intro i x hx hw
    rcases hsp i x hx with ⟨p, hp, rfl, _⟩ | ⟨_, hx⟩
    · cases hw
    · exact hq.own _ x hx hw
  · intro i j x y hx hy hne hw
    rcases hsp i x hx with ⟨p, hp, rfl, _⟩ | ⟨hi, hx⟩
    · cases hw
    · rcases hsp j y hy with ⟨p, hp, rfl, _⟩ | ⟨hj, hy⟩
      · have := S.lt hx; have := (h p hp).1; simp; omega
      · exact hq.apart _ _ x y hx hy (by omega) hw
/-- from here on: all that is there is only read -/
theorem St.loc {ms : List Nat} {w0 w : World} {bs : List Blk} (S : St ms w0 bs w) : St [] w (bs.map fun x => ⟨x.id, false, x.obj⟩) w := by
  refine ⟨Ch.refl _ _, ?_, ?_, ?_⟩
  · intro i x hx
    simp only [List.getElem?_map, Option.map_eq_some_iff] at hx
    obtain ⟨y, hy, rfl⟩ := hx
    exact S.at_ i y hy
  · intro i x hx hw
    simp only [List.getElem?_map, Option.map_eq_some_iff] at hx
    obtain ⟨y, hy, rfl⟩ := hx
    cases hw
  · intro i j x y hx hy hne hw
    simp only [List.getElem?_map, Option.map_eq_some_iff] at hx
    obtain ⟨y, hy, rfl⟩ := hx
    cases hw
theorem St.isNew {w0 w : World} {bs : List Blk} (S : St [] w0 bs w) {B : Nat} (hB : B ≤ w0.heap.size) (i : Nat) {b : Nat} {o : Obj} (hi : bs[i]? = some ⟨b, true, o⟩) : B ≤ b ∧ w.heap[b]? = some o := by
  refine ⟨?_, S.at_ i _ hi⟩
  rcases S.own i _ hi rfl with h | h
  · simp at h
  · exact Nat.le_trans hB h
def putsL : List Value → List Oper → Act → Act
  | v :: vs, o :: rest, a => putsL vs rest (a.put o.dst v)
  | _, _, a => a
def valsAre (vs : Nat → Value) : Nat → List Value → Prop
  | _, [] => True
  | i, v :: rest => vs i = v ∧ valsAre vs (i + 1) rest
theorem putsAll_eq {vs : Nat → Value} : ∀ {l : List Oper} {vals : List Value} {k : Nat} {a : Act}, vals.length = l.length → valsAre vs k vals → putsAll vs k l a = putsL vals l a
  | [], [], _, _, _, _ => rfl
  | o :: rest, v :: vals, k, a, h, ⟨h1, h2⟩ => by
    simp only [putsAll, putsL, h1]
    exact putsAll_eq (by simpa using h) h2
  | [], _ :: _, _, _, h, _ => by simp at h
  | _ :: _, [], _, _, h, _ => by simp at h

def envE (env : List (Nat × Value)) : Operand → Value := rho fun t => (env.lookup t).getD undef
def agrees (y : Nat → Value) : List (Nat × Value) → Prop
  | [] => True
  | p :: rest => y p.1 = p.2 ∧ agrees y rest
theorem agrees_lookup {y : Nat → Value} : ∀ {env : List (Nat × Value)}, agrees y env → ∀ t v, env.lookup t = some v → y t = v
  | [], _, t, v, h => by simp at h
  | (s, u) :: rest, ⟨h1, h2⟩, t, v, h => by
    rw [List.lookup_cons] at h
    cases hts : t == s with
    | true =>
      simp [hts] at h
      have : t = s := by simpa using hts
      subst this; subst h; exact h1
    | false =>
      simp [hts] at h
      exact agrees_lookup h2 t v h
def inEnv (env : List (Nat × Value)) (o : Oper) : Bool := o.op.operands.all (fun x => match x with | .tmp t => (env.lookup t).isSome | _ => true) && (match o.op with | .select .. => false | _ => true)

section
variable {P : Program} {o : Oper} {w w0 : World} {ms : List Nat} {bs : List Blk} {R : Value → World → Prop} {y : Nat → Value}
theorem yenv (env : List (Nat × Value)) (hy : agrees y env) (h : Yields P o (envE env) w R) (hin : inEnv env o = true := by kernel_rfl) : Yields P o (rho y) w R := by
  have : execOp (rho y) o = execOp (envE env) o := by
    simp only [inEnv, Bool.and_eq_true] at hin
    refine execOp_congr o ?_ ?_
    · intro cs b hsel; rw [hsel] at hin; simp at hin
    · intro x hx
      have h1 := Array.all_eq_true_iff_forall_mem.1 hin.1 x hx
      cases x with
      | tmp t =>
        simp only at h1
        cases hl : env.lookup t with
        | none => simp [hl] at h1
        | some v => simp [rho, envE, hl, agrees_lookup hy t v hl]
      | _ => rfl
  unfold Yields at *
  rw [this]; exact h
theorem step_yes {A C : Prop} {b : Bool} (hw : b = true) (h : A) : (b = true → A) ∧ (b = false → C) := ⟨fun _ => h, fun e => by rw [hw] at e; cases e⟩
theorem step_no {A C : Prop} {b : Bool} (hw : b = false) (h : C) : (b = true → A) ∧ (b = false → C) := ⟨fun e => (by rw [hw] at e; cases e), fun _ => h⟩
theorem wY_is {lf : List Oper} {j d : Nat} {want c : Bool} (hg : o.guard = some (j, want)) (hd : (lf[j]?).bind (·.dst) = some d) (hy : y d = .bool c) : wantedY lf o y = (c == want) := by
  simp [wantedY, hg, hd, hy]
end
theorem split_b {G : Prop} (b : Bool) (ht : b = true → G) (hf : b = false → G) : G := by
  cases b
  · exact hf rfl
  · exact ht rfl
theorem wY_t {o : Oper} {y : Nat → Value} {lf : List Oper} {j d : Nat} {want : Bool} (hy : y d = .bool want) (hg : o.guard = some (j, want) := by rfl) (hd : (lf[j]?).bind (·.dst) = some d := by kernel_rfl) : wantedY lf o y = true := by
  rw [wY_is hg hd hy]; cases want <;> rfl
theorem wY_f {o : Oper} {y : Nat → Value} {lf : List Oper} {j d : Nat} {want c : Bool} (hy : y d = .bool c) (hg : o.guard = some (j, want) := by rfl) (hd : (lf[j]?).bind (·.dst) = some d := by kernel_rfl) (hc : c = !want := by rfl) : wantedY lf o y = false := by
  subst hc; rw [wY_is hg hd hy]; cases want <;> rfl
theorem ag_nil {y : Nat → Value} : agrees y [] := trivial
theorem ag_cons {y : Nat → Value} {t : Nat} {v : Value} {env : List (Nat × Value)} (h : y t = v) (k : agrees y env) : agrees y ((t, v) :: env) := ⟨h, k⟩
theorem va_nil {vs : Nat → Value} {i : Nat} : valsAre vs i [] := trivial
theorem va_cons {vs : Nat → Value} {i : Nat} {v : Value} {rest : List Value} (h : vs i = v) (k : valsAre vs (i + 1) rest) : valsAre vs i (v :: rest) := ⟨h, k⟩
theorem all_nil {α : Type} {C : α → Prop} : ∀ p ∈ ([] : List α), C p := fun p hp => by cases hp
theorem all_cons {α : Type} {C : α → Prop} {x : α} {xs : List α} (h : C x) (k : ∀ p ∈ xs, C p) : ∀ p ∈ x :: xs, C p := fun p hp => by
  rcases List.mem_cons.1 hp with rfl | hp
  · exact h
  · exact k p hp
theorem Sp.mk_holds {s : Sp} {B : Nat} {v : Value} {w : World} (ids : List Nat) (h3 : ∀ p ∈ s.bl ids, B ≤ p.1 ∧ w.heap[p.1]? = some p.2) (h1 : ids.length = s.k := by kernel_rfl) (h2 : v = s.f ids := by kernel_rfl) : s.holds B v w := ⟨ids, h1, h2, h3⟩
theorem step_nil {P : Program} {lf l : List Oper} {sp : Nat → Sp} {y0 : Nat → Value} {w : World} {i : Nat} : StepAll P lf l sp y0 w i [] := trivial
theorem step_cons {P : Program} {lf l : List Oper} {sp : Nat → Sp} {y0 : Nat → Value} {w : World} {i : Nat} {o : Oper} {rest : List Oper} (h : StepOk P lf l sp y0 w i o) (k : StepAll P lf l sp y0 w (i + 1) rest) : StepAll P lf l sp y0 w i (o :: rest) := ⟨h, k⟩
theorem step1 {A C : Prop} (h : A) {b : Bool} (hw : b = true := by kernel_rfl) : (b = true → A) ∧ (b = false → C) := step_yes hw h
theorem St.given {w : World} (ps : List (Nat × Obj)) (h : ∀ p ∈ ps, w.heap[p.1]? = some p.2) : St [] w (ps.map fun p => ⟨p.1, false, p.2⟩) w := by
  refine ⟨Ch.refl _ _, ?_, ?_, ?_⟩
  · intro i x hx
    simp only [List.getElem?_map, Option.map_eq_some_iff] at hx
    obtain ⟨p, hp, rfl⟩ := hx
    exact h p (List.mem_of_getElem? hp)
  · intro i x hx hw
    simp only [List.getElem?_map, Option.map_eq_some_iff] at hx
    obtain ⟨p, hp, rfl⟩ := hx
    cases hw
  · intro i j x y hx hy hne hw
    simp only [List.getElem?_map, Option.map_eq_some_iff] at hx
    obtain ⟨p, hp, rfl⟩ := hx
    cases hw
theorem drawnL_ {P : Program} {a0 : Act} {w0 : World} {Q : Exit → Act → World → Prop} {id : Nat} {L : List Oper} (m : Nat) (sp : List Sp) (paths : List (List Nat))
    (hs : StepAll P L (L.take m) (spl sp) (yof a0) w0 0 (L.take m))
    (hq : ∀ (vs : Nat → Value) w', Ch [] w0 w' → (∀ i, Nat.blt i m = true → (spl sp i).holds w0.heap.size (vs i) w') → ∃ vals : List Value, vals.length = m ∧ valsAre vs 0 vals ∧ WL P L.toArray Q (L.drop m) (putsL vals (L.take m) a0) w')
    (hm : P.follows .mixedOrders = true := by kernel_rfl) (hl : Nat.ble m L.length = true := by kernel_rfl) (ht : tailOk L m paths = true := by kernel_rfl) (hdst : dstsOk a0.tmps.size (L.take m) = true := by kernel_rfl) (hedge : edgesOk 0 L = true := by kernel_rfl) : (Code.region id L.toArray true).wp P Q a0 w0 := by
  have hml : (L.take m).length = m := by have := Nat.le_of_ble_eq_true hl; simp; omega
  have h := drawn_ (id := id) (Q := Q) (P := P) (a0 := a0) (w0 := w0) (L.take m) (L.drop m) (spl sp) paths hm (by rw [List.take_append_drop, hml]; exact ht) hdst (by rw [List.take_append_drop]; exact hedge) (by rw [List.take_append_drop]; exact hs) ?_
  · rwa [List.take_append_drop] at h
  · intro vs w' hc hall
    rw [List.take_append_drop]
    obtain ⟨vals, h1, h2, h3⟩ := hq vs w' hc fun i hi => by
      have hi' : i < m := by simpa [Nat.blt_eq] using hi
      exact hall i _ (List.getElem?_eq_getElem (by omega))
    rw [putsAll_eq (by rw [h1, hml]) h2]
    exact h3.out
/-- an operation that is carried out if a truth value is so -/
theorem step_if {A C : Prop} {o : Oper} {y : Nat → Value} {lf : List Oper} {j d : Nat} {want : Bool} (c : Bool) (hy : y d = .bool c) (h1 : c = want → A) (h0 : c = (!want) → C) (hg : o.guard = some (j, want) := by rfl) (hd : (lf[j]?).bind (·.dst) = some d := by kernel_rfl) :
    (wantedY lf o y = true → A) ∧ (wantedY lf o y = false → C) := by
  rw [wY_is hg hd hy]
  cases c <;> cases want <;> simp_all
theorem bif_t {α : Type} {c : Bool} {x y : α} (h : c = true) : (bif c then x else y) = x := by rw [h]; rfl
theorem bif_f {α : Type} {c : Bool} {x y : α} (h : c = false) : (bif c then x else y) = y := by rw [h]; rfl
/-- a region in the order of the text, by the same steps -/
theorem textL_ {P : Program} {a0 : Act} {w0 : World} {Q : Exit → Act → World → Prop} {id : Nat} {L : List Oper} (m : Nat) (sp : List Sp) (paths : List (List Nat))
    (hs : StepAll P L (L.take m) (spl sp) (yof a0) w0 0 (L.take m))
    (hq : ∀ (vs : Nat → Value) w', Ch [] w0 w' → (∀ i, Nat.blt i m = true → (spl sp i).holds w0.heap.size (vs i) w') → ∃ vals : List Value, vals.length = m ∧ valsAre vs 0 vals ∧ WL P L.toArray Q (L.drop m) (putsL vals (L.take m) a0) w')
    (hlin : Region.linearise .any L.toArray 0 = List.range L.length := by kernel_rfl) (hl : Nat.ble m L.length = true := by kernel_rfl) (ht : tailOk L m paths = true := by kernel_rfl) (hdst : dstsOk a0.tmps.size (L.take m) = true := by kernel_rfl) (hedge : edgesOk 0 L = true := by kernel_rfl) : (Code.region id L.toArray false).wp P Q a0 w0 := by
  have hml : (L.take m).length = m := by have := Nat.le_of_ble_eq_true hl; simp; omega
  have h := drawn_any (Q := Q) (P := P) (a0 := a0) (w0 := w0) (l := L.take m) (sp := spl sp) (L.drop m) paths (by rw [List.take_append_drop, hml]; exact ht) hdst (by rw [List.take_append_drop]; exact hedge) (by rw [List.take_append_drop]; exact hs) (by
    intro vs w' hc hall
    rw [List.take_append_drop]
    obtain ⟨vals, h1, h2, h3⟩ := hq vs w' hc fun i hi => by
      have hi' : i < m := by simpa [Nat.blt_eq] using hi
      exact hall i _ (List.getElem?_eq_getElem (by omega))
    rw [putsAll_eq (by rw [h1, hml]) h2]
    exact h3.out) (L.take m).length (fun _ => undef) (Array.replicate L.toArray.size false) a0 w0 ?_ ?_
  · rw [List.take_append_drop] at h
    have hsz : (L.take m).length + (L.drop m).length = L.toArray.size := by rw [← List.length_append, List.take_append_drop]; simp
    rw [hsz] at h
    refine wp_region ?_
    have h2 := wpAny_sound L.toArray.size 0 _ a0 w0 h
    have h3 : Region.linearise.go .any L.toArray L.toArray.size 0 (Array.replicate L.toArray.size false) [] = List.range L.toArray.size := by
      have : Region.linearise .any L.toArray 0 = Region.linearise.go .any L.toArray L.toArray.size 0 (Array.replicate L.toArray.size false) [] := rfl
      rw [← this, hlin]; simp
    rw [h3] at h2
    exact h2
  · have hsz : L.toArray.size = (L.take m).length + (L.drop m).length := by rw [← List.length_append, List.take_append_drop]; simp
    refine ⟨by rw [← hsz]; simp, fun i h1 h2 => by rw [← hsz] at h2; simp [Array.getElem?_replicate]; simpa using h2, rfl, rfl, Ch.refl _ _, ?_, fun _ _ => rfl, ?_⟩
    · intro i o d _ _ h; simp [Array.getElem?_replicate] at h
    · intro i o _ h; simp [Array.getElem?_replicate] at h
  · have hsz : L.toArray.size = (L.take m).length + (L.drop m).length := by rw [← List.length_append, List.take_append_drop]; simp
    rw [← hsz]; simp [List.count_replicate_self]
namespace Y
section
variable {P : Program} {o : Oper} {w w0 : World} {ms : List Nat} {bs : List Blk} {R : Value → World → Prop} {ρ : Operand → Value}
theorem pure_ (v : Value) (k : R v w) (h : (execOp ρ o).run P w = .ok (.value v) w := by kernel_rfl) : Yields P o ρ w R := by unfold Yields; rw [h]; exact k
theorem pureE_ (v v' : Value) (he : v = v') (k : R v' w) (h : (execOp ρ o).run P w = .ok (.value v) w := by kernel_rfl) : Yields P o ρ w R := by subst he; exact pure_ v k h
theorem sum_ (kd : IntKind) (e : Int) (he : kd.wrap e = e) (k : R (.int kd e) w) (h : (execOp ρ o).run P w = .ok (.value (.int kd (kd.wrap e))) w := by kernel_rfl) : Yields P o ρ w R := pureE_ _ _ (by rw [he]) k h
theorem move_ {x : Operand} (k : R (ρ x) w) (ho : o.op = .move x := by rfl) : Yields P o ρ w R := pure_ _ k (by unfold execOp; simp [ho])
theorem assign_ {x : Operand} (k : R (ρ x) w) (ho : o.op = .assign x := by rfl) : Yields P o ρ w R := pure_ _ k (by unfold execOp; simp [ho])
theorem load1_ (S : St ms w0 bs w) (i : Nat) (v : Value) (b off : Nat) {x : Operand} {ty : TypeId} (k : R v w) (ho : o.op = .load ty x := by rfl) (hx : ρ x = .pointer (some ⟨b, off, none⟩) := by kernel_rfl)
    (ha : (P.underlying ty).map aggD = some false := by kernel_rfl) (hb : lk bs i off = some (b, v) := by kernel_rfl) : Yields P o ρ w R := by
  obtain ⟨wr, cs, t, fr, hb, hc⟩ := lk_at hb
  unfold Yields execOp
  simp only [ho, hx, Instr.loadAt, Instr.sureAddr, Sem.run_bind, Sem.run_pure, Result.andThen_ok, run_load1 (S.at_ i _ hb) ha hc]
  exact k
theorem loadN_ (S : St ms w0 bs w) (i : Nat) (n : Nat) (vs : Array Value) (b off : Nat) {x : Operand} {ty : TypeId} (k : R (.agg vs) w) (ho : o.op = .load ty x := by rfl) (hx : ρ x = .pointer (some ⟨b, off, none⟩) := by kernel_rfl)
    (ha : (P.underlying ty).map aggD = some true := by kernel_rfl) (hn : (P.info? ty).map (·.size) = some n := by kernel_rfl) (hb : lkN bs i off n = some (b, vs) := by kernel_rfl) : Yields P o ρ w R := by
  obtain ⟨wr, cs, t, fr, hb, hc, hv⟩ := lkN_at hb
  unfold Yields execOp
  simp only [ho, hx, Instr.loadAt, Instr.sureAddr, Sem.run_bind, Sem.run_pure, Result.andThen_ok, run_loadN (S.at_ i _ hb) ha hn hc hv]
  exact k
theorem new_ (S : St ms w0 bs w) (f : Nat → Value) (obj : Obj) (k : ∀ b w', St ms w0 (⟨b, true, obj⟩ :: bs) w' → R (f b) w') (h : (execOp ρ o).run P w = .ok (.value (f w.heap.size)) (w.alloc obj) := by kernel_rfl) : Yields P o ρ w R := by
  unfold Yields; rw [h]
  exact k _ _ (S.new (Ch.alloc _ _ _) (Nat.le_refl _) (heap_alloc_new w obj))
theorem eqAgg_ (neg : Bool) (r : Bool) (xs ys : Array Value) {t yt : TypeId} {x y : Operand} (k : R (.bool (bif neg then !r else r)) w) (ho : o.op = .binOp (bif neg then .neq else .eql) t x y yt := by rfl) (hx : ρ x = .agg xs := by kernel_rfl) (hy : ρ y = .agg ys := by kernel_rfl) (hg : P.eqGuardType P.depth t = false := by kernel_rfl) (he : eqO P 10000 t (.agg xs) (.agg ys) = some r := by kernel_rfl) :
    Yields P o ρ w R := pure_ _ k (run_eqAgg neg ho hx hy hg he)
theorem pickB_ (c r : Bool) (va vb : Value) {x y z : Operand} (ht : c = true → va = .bool r) (hf : c = false → vb = .bool r) (k : R (.bool r) w) (ho : o.op = .pick x y z := by rfl) (hc : ρ x = .bool c := by kernel_rfl) (ha : ρ y = va := by kernel_rfl) (hb : ρ z = vb := by kernel_rfl) : Yields P o ρ w R := by
  refine pure_ _ k ?_
  unfold execOp
  simp only [ho, hc, Sem.run_bind, asBool, Sem.run_pure, Result.andThen_ok]
  cases c
  · simp [hb, hf rfl]
  · simp [ha, ht rfl]
theorem call_ (f : FuncId) (args : Array Value) (k : Gives P f args w R) (h : (execOp ρ o).run P w = .ok (.enter f args) w := by kernel_rfl) : Yields P o ρ w R := by unfold Yields; rw [h]; exact k
end
end Y
end Sx
