/- Regions that draw their order, one operation of which writes into blocks that no other one looks at. Over any program. -/
import Derived.Test.YtbjanfgipcniiaaGreatDoorSA
namespace Sx
open Go Go.RowKit Go.BigFrame
set_option linter.unusedVariables false
set_option linter.unusedSimpArgs false

def dstsOkE (n : Nat) (l : List Oper) : Bool := l.all (fun o => match o.dst with | some d => Nat.blt d n | none => true) && nodupB (l.map (·.dst))
theorem yof_putsE (vs : Nat → Value) : ∀ (m : List Oper) (k : Nat) (a : Act), (∀ o ∈ m, ∀ d, o.dst = some d → d < a.tmps.size) → (m.map (·.dst)).Nodup →
    (putsAll vs k m a).tmps.size = a.tmps.size ∧ (putsAll vs k m a).defers = a.defers ∧ (∀ t, (∀ o ∈ m, o.dst ≠ some t) → yof (putsAll vs k m a) t = yof a t) ∧ ∀ i o d, m[i]? = some o → o.dst = some d → yof (putsAll vs k m a) d = vs (k + i)
  | [], k, a, _, _ => ⟨rfl, rfl, fun _ _ => rfl, fun i o d h => by simp at h⟩
  | x :: rest, k, a, hd, hn => by
    simp only [List.map_cons, List.nodup_cons] at hn
    obtain ⟨h1, h2, h3, h4⟩ := yof_putsE vs rest (k + 1) (a.put x.dst (vs k)) (fun o ho d e => by
      rw [size_put]; exact hd o (by simp [ho]) d e) hn.2
    refine ⟨by simp only [putsAll]; rw [h1, size_put], by simp only [putsAll]; rw [h2, defers_put], ?_, ?_⟩
    · intro t ht
      simp only [putsAll]
      rw [h3 t (fun o ho => ht o (by simp [ho]))]
      cases hx : x.dst with
      | none => rfl
      | some dx =>
        rw [yof_put _ _ _ _ (hd x (by simp) dx hx), if_neg]
        intro e; subst e; exact ht x (by simp) hx
    · intro i o d hi ho
      cases i with
      | zero =>
        obtain rfl : x = o := by simpa using hi
        simp only [putsAll]
        rw [h3 d (fun o' ho' e => hn.1 (by rw [ho, ← e]; exact List.mem_map_of_mem (f := fun x => x.dst) ho')), ho, yof_put _ _ _ _ (hd x (by simp) d ho), if_pos rfl]
        rfl
      | succ i =>
        simp only [putsAll]
        rw [h4 i o d (by simpa using hi) ho]
        congr 1; omega
/-- which operations the one that writes waits for: ways from it to them are told -/
def preB (pre : List (List Nat)) (i : Nat) : Bool := pre.any fun p => match p.getLast? with | some j => Nat.beq j i | none => false
def preOk (l : List Oper) (k0 : Nat) (pre : List (List Nat)) : Bool := pre.all fun p => pathB l p && (match p.head? with | some k => Nat.beq k k0 | none => false) && Nat.blt 1 p.length
def EStepOk (P : Program) (k0 : Nat) (pre : List (List Nat)) (es : List Nat) (H : Nat → Value → World → Prop) (lf l : List Oper) (y0 : Nat → Value) (w : World) (i : Nat) (o : Oper) : Prop :=
  ∀ (y : Nat → Value) (w' : World), (i = k0 ∨ preB pre i = true → Ch [] w w') → Ch es w w' → (∀ t, freeB l i t = true → y t = y0 t) →
    (∀ j d, edgeB o j = true → (l[j]?).bind (·.dst) = some d → H j (y d) w') →
    (wantedY lf o y = true → Yields P o (rho y) w' fun v w'' => (i = k0 → Ch es w' w'') ∧ (i ≠ k0 → Ch [] w' w'') ∧ H i v w'') ∧ (wantedY lf o y = false → H i undef w')
def EStepAll (P : Program) (k0 : Nat) (pre : List (List Nat)) (es : List Nat) (H : Nat → Value → World → Prop) (lf l : List Oper) (y0 : Nat → Value) (w : World) : Nat → List Oper → Prop
  | _, [] => True
  | i, o :: rest => EStepOk P k0 pre es H lf l y0 w i o ∧ EStepAll P k0 pre es H lf l y0 w (i + 1) rest
theorem EStepAll.get {P : Program} {k0 : Nat} {pre : List (List Nat)} {es : List Nat} {H : Nat → Value → World → Prop} {lf l : List Oper} {y0 : Nat → Value} {w : World} : ∀ {k : Nat} {m : List Oper}, EStepAll P k0 pre es H lf l y0 w k m → ∀ (i : Nat) o, m[i]? = some o → EStepOk P k0 pre es H lf l y0 w (k + i) o
  | _, [], _, i, o, h => by simp at h
  | k, x :: rest, ⟨h1, h2⟩, 0, o, h => by obtain rfl : x = o := by simpa using h
                                          exact h1
  | k, x :: rest, ⟨h1, h2⟩, i + 1, o, h => by
    have := EStepAll.get h2 i o (by simpa using h)
    rwa [show k + 1 + i = k + (i + 1) by omega] at this
structure EInv (k0 : Nat) (es : List Nat) (H : Nat → Value → World → Prop) (l : List Oper) (n2 : Nat) (a0 : Act) (w0 : World) (vs : Nat → Value) (listed : Array Bool) (a : Act) (w : World) : Prop where
  ls : listed.size = l.length + n2
  off : ∀ i, l.length ≤ i → i < l.length + n2 → listed[i]? = some false
  size : a.tmps.size = a0.tmps.size
  defers : a.defers = a0.defers
  ch : if listed[k0]? = some true then Ch es w0 w else Ch [] w0 w
  done : ∀ (i : Nat) (o : Oper), l[i]? = some o → listed[i]? = some true → (∀ d, o.dst = some d → yof a d = vs i) ∧ H i (vs i) w
  rest : ∀ (t : Nat), (∀ (i : Nat) (o : Oper), l[i]? = some o → o.dst = some t → listed[i]? = some false) → yof a t = yof a0 t
  back : ∀ (i : Nat) (o : Oper), l[i]? = some o → listed[i]? = some true → ∀ j, edgeB o j = true → listed[j]? = some true
section
variable {P : Program} {l : List Oper} {k0 : Nat} {pre : List (List Nat)} {es : List Nat} {H : Nat → Value → World → Prop} {a0 : Act} {w0 : World} {Q : Exit → Act → World → Prop}
theorem drawnE_any (hst : ∀ i v w w', Ch [] w w' → H i v w → H i v w') (hpreO : preOk l k0 pre = true) (hst2 : ∀ i v w w', i ≠ k0 → w0.heap.size ≤ w.heap.size → Ch es w w' → H i v w → H i v w') (l2 : List Oper) (paths : List (List Nat)) (ht : tailOk (l ++ l2) l.length paths = true) (hdst : dstsOkE a0.tmps.size l = true) (hedge : edgesOk 0 (l ++ l2) = true) (hs : EStepAll P k0 pre es H (l ++ l2) l (yof a0) w0 0 l)
    (hq : ∀ (vs : Nat → Value) w', Ch es w0 w' → (∀ i o, l[i]? = some o → H i (vs i) w') → wpList P (l ++ l2).toArray Q l2 (putsAll vs 0 l a0) w') :
    ∀ (fuel : Nat) (vs : Nat → Value) (listed : Array Bool) (a : Act) (w : World), EInv k0 es H l l2.length a0 w0 vs listed a w → listed.toList.count false = fuel + l2.length → wpAny P .any (l ++ l2).toArray Q (fuel + l2.length) listed a w := by
  have inl : ∀ {i : Nat} {o : Oper}, (l ++ l2)[i]? = some o → i < l.length → l[i]? = some o := fun h hi => by rwa [List.getElem?_append_left hi] at h
  have inr : ∀ {i : Nat} {o : Oper}, l[i]? = some o → (l ++ l2)[i]? = some o := fun {i o} h => by rwa [List.getElem?_append_left (by rcases Nat.lt_or_ge i l.length with h' | h'; exact h'; simp [h'] at h)]
  simp only [dstsOkE, Bool.and_eq_true, List.all_eq_true] at hdst
  have hd : ∀ o ∈ l, ∀ d, o.dst = some d → d < a0.tmps.size := by
    intro o ho d hx
    have := hdst.1 o ho
    simpa [hx, Nat.blt_eq] using this
  have hn := nodupB_iff hdst.2
  have uniq : ∀ (i j : Nat) o p d, l[i]? = some o → l[j]? = some p → o.dst = some d → p.dst = some d → i = j := by
    intro i j o p d hi hj ho hp
    have hil : i < (l.map (·.dst)).length := by simp; rcases Nat.lt_or_ge i l.length with h | h; exact h; simp [h] at hi
    refine (List.getElem?_inj hil hn).1 ?_
    simp [hi, hj, ho, hp]
  -- when all are listed
  have fin : ∀ vs listed a w, EInv k0 es H l l2.length a0 w0 vs listed a w → (∀ i, i < l.length → listed[i]? = some true) → wpAny P .any (l ++ l2).toArray Q l2.length listed a w := by
    intro vs listed a w I hall
    obtain ⟨h1, h2, h3, h4⟩ := yof_putsE vs l 0 a0 hd hn
    have : a = putsAll vs 0 l a0 := by
      refine act_ext (by rw [I.size, h1]) (by rw [I.defers, h2]) ?_
      intro t
      by_cases ht : ∃ (i : Nat) (o : Oper), l[i]? = some o ∧ o.dst = some t
      · obtain ⟨i, o, hi, ho⟩ := ht
        rw [h4 i o t hi ho, Nat.zero_add]
        exact (I.done i o hi (hall i (by rcases Nat.lt_or_ge i l.length with h | h; exact h; simp [h] at hi))).1 t ho
      · rw [h3 t (fun o ho e => ht (by obtain ⟨i, hi⟩ := List.getElem?_of_mem ho; exact ⟨i, o, hi, e⟩))]
        exact I.rest t (fun i o hi ho => absurd ⟨i, o, hi, ho⟩ ht)
    rw [this]
    refine tail_any l2 hedge paths ht l2 0 rfl listed _ w I.ls (fun i hi => hall i (by omega)) (fun i h1 h2 => I.off i (by omega) h2) ?_
    exact hq vs w (by have := I.ch; split at this; exact this; exact this.mono (by simp)) fun i o hi => (I.done i o hi (hall i (by rcases Nat.lt_or_ge i l.length with h | h; exact h; simp [h] at hi))).2
  -- a tail operation that is ready: then all of l are done
  have tl : ∀ vs listed a w, EInv k0 es H l l2.length a0 w0 vs listed a w → ∀ i, i ∈ Region.ready .any (l ++ l2).toArray listed → l.length ≤ i → ∀ j, j < l.length → listed[j]? = some true := by
    intro vs listed a w I i hi hge j hj
    obtain ⟨oi, hoi, hf, hpre⟩ := (rdy_iff _ listed i).1 hi
    have hil : i < (l ++ l2).length := by rcases Nat.lt_or_ge i (l ++ l2).length with h | h; exact h; simp [List.getElem?_eq_none h] at hoi
    obtain ⟨p, q1, q2, q3, q4⟩ := tailOk_path ht i hil hge j (by omega)
    refine path_listed (l := l ++ l2) ?_ p i j q1 q2 q3 q4 ?_
    · intro x o hx hlx k hk
      rcases Nat.lt_or_ge x l.length with h | h
      · exact I.back x o (inl hx h) hlx k hk
      · have hxl : x < (l ++ l2).length := by rcases Nat.lt_or_ge x (l ++ l2).length with h' | h'; exact h'; simp [List.getElem?_eq_none h'] at hx
        have := I.off x h (by simpa using hxl)
        rw [hlx] at this; simp at this
    · intro o ho k hk
      obtain rfl : oi = o := by rw [hoi] at ho; simpa using ho
      obtain ⟨e, he, rfl, hbd⟩ := edgeB_iff.1 hk
      have h3 := hpre e he hbd
      have h4 := edgesOk_get hedge i oi hoi e he hbd
      rcases bool_at I.ls (show e.on < l.length + l2.length by simp at hil; omega) with hx | hx
      · exact hx
      · simp [Array.getD_eq_getD_getElem?, hx] at h3
  intro fuel
  induction fuel with
  | zero =>
    intro vs listed a w I hc
    have hall : ∀ i, i < l.length → listed[i]? = some true := by
      intro i hi
      rcases bool_at I.ls (show i < l.length + l2.length by omega) with hb | hb
      · exact hb
      · exfalso
        have h4 := count_off listed.toList l.length l2.length (by simpa using I.ls) (fun j h1 h2 => by simpa using I.off j h1 h2) i hi (by simpa using hb)
        omega
    rw [Nat.zero_add]
    exact fin vs listed a w I hall
  | succ fuel ih =>
    intro vs listed a w I hc
    by_cases hdone : ∀ i, i < l.length → listed[i]? = some true
    · exfalso
      have := count_all listed.toList l.length l2.length (by simpa using I.ls) (fun j h1 => by simpa using hdone j h1)
      omega
    rw [show fuel + 1 + l2.length = (fuel + l2.length) + 1 by omega]
    refine ⟨fun hr => ?_, ?_⟩
    · -- nothing is ready: all are listed
      exfalso
      refine hdone ?_
      intro i
      induction i using Nat.strongRecOn with
      | _ i ih2 =>
        intro hi
        rcases bool_at I.ls (show i < l.length + l2.length by omega) with hb | hb
        · exact hb
        · exfalso
          have : i ∈ Region.ready .any (l ++ l2).toArray listed := (rdy_iff _ listed i).2 ⟨l[i], inr (by simp), by simp [Array.getD_eq_getD_getElem?, hb], fun e he hbind => by
            have hlt := edgesOk_get hedge i l[i] (inr (by simp)) e he hbind
            have := ih2 e.on (by omega) (by omega)
            simp [Array.getD_eq_getD_getElem?, this]⟩
          rw [hr] at this
          simp at this
    · intro i hi
      have hil : i < l.length := by
        rcases Nat.lt_or_ge i l.length with h | h
        · exact h
        · exact absurd (tl vs listed a w I i hi h) hdone
      obtain ⟨o, hoA, h2, h3⟩ := (rdy_iff _ listed i).1 hi
      have ho := inl hoA hil
      have hfi : listed[i]? = some false := by
        rcases bool_at I.ls (show i < l.length + l2.length by omega) with hb | hb
        · simp [Array.getD_eq_getD_getElem?, hb] at h2
        · exact hb
      have hdlt := hd o (List.mem_of_getElem? ho)
      have hpre : ∀ j, edgeB o j = true → listed[j]? = some true := by
        intro j hj
        unfold edgeB at hj
        rw [← Array.any_toList, List.any_eq_true] at hj
        obtain ⟨e, he, hj⟩ := hj
        simp only [Bool.and_eq_true, beq_iff_eq] at hj
        obtain ⟨rfl, hb⟩ := hj
        have he := Array.mem_toList_iff.1 he
        have h4 := h3 e he hb
        have hlt := edgesOk_get hedge i o hoA e he hb
        rcases bool_at I.ls (show e.on < l.length + l2.length by omega) with hb | hb
        · exact hb
        · simp [Array.getD_eq_getD_getElem?, hb] at h4
      have hnot : i = k0 ∨ preB pre i = true → Ch [] w0 w := fun e => by
        have hk : ¬ listed[k0]? = some true := by
          rcases e with e | e
          · rw [← e, hfi]; simp
          · intro hl
            unfold preB at e
            obtain ⟨p, hp, he⟩ := List.any_eq_true.1 e
            have g1 := List.all_eq_true.1 hpreO p hp
            simp only [Bool.and_eq_true] at g1
            obtain ⟨⟨g2, g3⟩, g4⟩ := g1
            cases hh : p.head? with
            | none => rw [hh] at g3; simp at g3
            | some k =>
              rw [hh] at g3
              have ek := Nat.eq_of_beq_eq_true g3
              cases hla : p.getLast? with
              | none => rw [hla] at he; simp at he
              | some j =>
                rw [hla] at he
                have ej := Nat.eq_of_beq_eq_true he
                have := path_listed I.back p k j g2 hh hla (by unfold Nat.blt at g4; exact Nat.le_of_ble_eq_true g4) (fun o ho j hj => I.back k o ho (by rw [ek]; exact hl) j hj)
                rw [ej, hfi] at this; simp at this
        have := I.ch
        rw [if_neg hk] at this
        exact this
      have step := (EStepAll.get hs i o ho) (yof a) w (by rw [Nat.zero_add]; exact hnot) (by have := I.ch; split at this; exact this; exact this.mono (by simp)) (fun t ht => by
          refine I.rest t fun k ok hk hok => ?_
          rw [freeB, List.all_eq_true] at ht
          have := ht ok (List.mem_of_getElem? hk)
          simp only [hok, bne_self_eq_false, Bool.false_or] at this
          have hkl : k < l.length := by rcases Nat.lt_or_ge k l.length with h | h; exact h; simp [h] at hk
          rcases bool_at I.ls (show k < l.length + l2.length by omega) with hb | hb
          · have := I.back k ok hk hb i (by simpa using this)
            rw [hfi] at this; simp at this
          · exact hb)
        (fun j dj hj hdj => by
          cases hlj : l[j]? with
          | none => simp [hlj] at hdj
          | some oj =>
            have := I.done j oj hlj (hpre j hj)
            rw [this.1 dj (by simpa [hlj] using hdj)]; exact this.2)
      
      have next : ∀ v w', (i = k0 → Ch es w w') → (i ≠ k0 → Ch [] w w') → H i v w' → wpAny P .any (l ++ l2).toArray Q (fuel + l2.length) (listed.setIfInBounds i true) (a.put o.dst v) w' := by
        intro v w' hcw hcw2 hv
        refine ih (fun j => if j = i then v else vs j) _ _ _ ?_ ?_
        · have gl : ∀ j b, (listed.setIfInBounds i true)[j]? = some b → (j = i ∧ b = true) ∨ (j ≠ i ∧ listed[j]? = some b) := by
            intro j b hj
            rw [Array.getElem?_setIfInBounds] at hj
            by_cases h : i = j
            · subst h
              have : i < l.length + l2.length := by omega
              simp [I.ls, this] at hj
              exact Or.inl ⟨rfl, hj⟩
            · rw [if_neg h] at hj
              exact Or.inr ⟨fun e => h e.symm, hj⟩
          have yp : ∀ t, (o.dst ≠ some t → yof (a.put o.dst v) t = yof a t) ∧ (o.dst = some t → yof (a.put o.dst v) t = v) := fun t => by
            cases hod : o.dst with
            | none => exact ⟨fun _ => rfl, fun h => by cases h⟩
            | some d =>
              have := yof_put a d v t (by rw [I.size]; exact hdlt d hod)
              refine ⟨fun h => ?_, fun h => ?_⟩
              · rw [this, if_neg (fun e => h (by rw [e]))]
              · rw [this, if_pos (by simpa using h.symm)]
          refine ⟨by simp [I.ls], fun j h1 h2 => by
              rw [Array.getElem?_setIfInBounds, if_neg (by omega)]; exact I.off j h1 h2, by rw [size_put, I.size], by rw [defers_put, I.defers], ?_, ?_, ?_, ?_⟩
          · by_cases hik : i = k0
            · have hk : (listed.setIfInBounds i true)[k0]? = some true := by
                rw [← hik, Array.getElem?_setIfInBounds, if_pos rfl, if_pos (by rw [I.ls]; omega)]
              rw [if_pos hk]
              exact ((hnot (.inl hik)).mono (by simp)).trans (hcw hik) (fun x hx => .inl hx)
            · have hk : (listed.setIfInBounds i true)[k0]? = listed[k0]? := by
                rw [Array.getElem?_setIfInBounds, if_neg hik]
              rw [hk]
              have h1 := I.ch
              split at h1
              · rename_i h2; rw [if_pos h2]; exact h1.trans (hcw2 hik) (by simp)
              · rename_i h2; rw [if_neg h2]; exact h1.trans (hcw2 hik) (by simp)
          · intro j oj hj hlj
            rcases gl j true hlj with ⟨rfl, _⟩ | ⟨hne, hlj⟩
            · obtain rfl : o = oj := by rw [ho] at hj; simpa using hj
              simp only [if_true]
              exact ⟨fun dj hdj => (yp dj).2 hdj, hv⟩
            · have := I.done j oj hj hlj
              simp only [if_neg hne]
              refine ⟨fun dj hdj => ?_, ?_⟩
              · rw [(yp dj).1 (fun e => hne (uniq j i oj o dj hj ho hdj e))]
                exact this.1 dj hdj
              · by_cases hik : i = k0
                · exact hst2 _ _ _ _ (fun e => hne (by rw [hik]; exact e)) (by have := I.ch; split at this; exact this.size; exact this.size) (hcw hik) this.2
                · exact hst _ _ _ _ (hcw2 hik) this.2
          · intro t ht
            have hne : o.dst ≠ some t := fun e => by
              have := ht i o ho e
              rcases gl i false this with ⟨_, h⟩ | ⟨h, _⟩
              · cases h
              · exact h rfl
            rw [(yp t).1 hne]
            refine I.rest t fun k ok hk hok => ?_
            have := ht k ok hk hok
            rcases gl k false this with ⟨_, h⟩ | ⟨_, h⟩
            · cases h
            · exact h
          · intro k ok hk hlk j hj
            have hb : listed[j]? = some true := by
              rcases gl k true hlk with ⟨rfl, _⟩ | ⟨hne, hlk⟩
              · obtain rfl : o = ok := by rw [ho] at hk; simpa using hk
                exact hpre j hj
              · exact I.back k ok hk hlk j hj
            rw [Array.getElem?_setIfInBounds]
            split
            · rename_i h; subst h; rw [hfi] at hb; simp at hb
            · exact hb
        · have h2 : listed[i]? = some false := hfi
          have hcount := count_set listed.toList i (by simpa using h2)
          simp only [Array.toList_setIfInBounds]
          omega
      unfold wpOp
      simp only [List.getElem?_toArray, hoA]
      rw [wantedY_of]
      cases hw : wantedY (l ++ l2) o (yof a) with
      | true =>
        rw [if_pos rfl]
        refine Or.inl ?_
        have hy := step.1 hw
        rw [rho_yof] at hy
        exact Yields.wp hy fun v w' ⟨hcw, hcw2, hv⟩ => next v w' (by rw [Nat.zero_add] at hcw; exact hcw) (by rw [Nat.zero_add] at hcw2; exact hcw2) (by rw [Nat.zero_add] at hv; exact hv)
      | false =>
        rw [if_neg (by simp)]
        exact next undef w (fun _ => Ch.refl _ _) (fun _ => Ch.refl _ _) (by have := step.2 hw; rw [Nat.zero_add] at this; exact this)
/-- a region that draws its order -/
theorem drawnE_ {id : Nat} (l l2 : List Oper) (hst : ∀ i v w w', Ch [] w w' → H i v w → H i v w') (hpre : preOk l k0 pre = true) (hst2 : ∀ i v w w', i ≠ k0 → w0.heap.size ≤ w.heap.size → Ch es w w' → H i v w → H i v w') (paths : List (List Nat)) (hm : P.follows .mixedOrders = true) (ht : tailOk (l ++ l2) l.length paths = true) (hdst : dstsOkE a0.tmps.size l = true) (hedge : edgesOk 0 (l ++ l2) = true) (hs : EStepAll P k0 pre es H (l ++ l2) l (yof a0) w0 0 l)
    (hq : ∀ (vs : Nat → Value) w', Ch es w0 w' → (∀ i o, l[i]? = some o → H i (vs i) w') → wpList P (l ++ l2).toArray Q l2 (putsAll vs 0 l a0) w') : (Code.region id (l ++ l2).toArray true).wp P Q a0 w0 := by
  refine wp_region_any hm ?_
  have h := drawnE_any hst hpre hst2 l2 paths ht hdst hedge hs hq l.length (fun _ => undef) (Array.replicate (l ++ l2).toArray.size false) a0 { w0 with drawn := w0.drawn + 1 } ?_ ?_
  · rw [show (l ++ l2).toArray.size = l.length + l2.length by simp]
    rw [show (l ++ l2).toArray.size = l.length + l2.length by simp] at h
    exact h
  · refine ⟨by simp, fun i h1 h2 => by simp [Array.getElem?_replicate]; omega, rfl, rfl, ?_, ?_, fun _ _ => rfl, ?_⟩
    · split
      · exact (Ch.refl _ _).drew
      · exact (Ch.refl _ _).drew
    · intro i o _ h; simp [Array.getElem?_replicate] at h
    · intro i o _ h; simp [Array.getElem?_replicate] at h
  · simp [List.count_replicate_self]
end
end Sx
