/- Regions that draw their order: quiet operations, new blocks, stores into these, at most one that writes into blocks that no other one looks at. Over any program. -/
import Derived.Test.YtbjanfgipcniiaaGreatDoorSKZ
namespace Sx
open Go Go.RowKit Go.BigFrame
set_option linter.unusedVariables false
set_option linter.unusedSimpArgs false
def updV (vs : Nat → Value) (i : Nat) (v : Value) : Nat → Value := fun j => if j = i then v else vs j
theorem updV_eq (vs : Nat → Value) (i : Nat) (v : Value) : updV vs i v i = v := by simp [updV]
theorem updV_ne (vs : Nat → Value) {i j : Nat} (v : Value) (h : j ≠ i) : updV vs i v j = vs j := by simp [updV, h]
/-- what holds behind an operation: its own fact, and those of all that are done -/
def GAft (k0 : Nat) (es : List Nat) (H : Nat → (Nat → Value) → World → Prop) (l : List Oper) (w0 : World) (i : Nat) (v : Value) (vs : Nat → Value) (w' w'' : World) : Prop :=
  (i = k0 → Ch es w' w'') ∧ (i ≠ k0 → ∃ ns, Ch ns w' w'' ∧ ∀ x ∈ ns, w0.heap.size ≤ x) ∧ H i (updV vs i v) w'' ∧
    ∀ (j : Nat) oj, l[j]? = some oj → j ≠ i → edgeB oj i = false → H j vs w' → H j (updV vs i v) w''
def GStepOk (P : Program) (k0 : Nat) (pre : List (List Nat)) (es : List Nat) (H : Nat → (Nat → Value) → World → Prop) (lf l : List Oper) (y0 : Nat → Value) (w : World) (i : Nat) (o : Oper) : Prop :=
  ∀ (y vs : Nat → Value) (w' : World), (i = k0 ∨ preB pre i = true → Ch [] w w') → Ch es w w' → (∀ t, freeB l i t = true → y t = y0 t) →
    (∀ j d, edgeB o j = true → (l[j]?).bind (·.dst) = some d → y d = vs j ∧ H j vs w') →
    (wantedY lf o y = true → Yields P o (rho y) w' fun v w'' => GAft k0 es H l w i v vs w' w'') ∧ (wantedY lf o y = false → GAft k0 es H l w i undef vs w' w')
def GStepAll (P : Program) (k0 : Nat) (pre : List (List Nat)) (es : List Nat) (H : Nat → (Nat → Value) → World → Prop) (lf l : List Oper) (y0 : Nat → Value) (w : World) : Nat → List Oper → Prop
  | _, [] => True
  | i, o :: rest => GStepOk P k0 pre es H lf l y0 w i o ∧ GStepAll P k0 pre es H lf l y0 w (i + 1) rest
theorem GStepAll.get {P : Program} {k0 : Nat} {pre : List (List Nat)} {es : List Nat} {H : Nat → (Nat → Value) → World → Prop} {lf l : List Oper} {y0 : Nat → Value} {w : World} : ∀ {k : Nat} {m : List Oper}, GStepAll P k0 pre es H lf l y0 w k m → ∀ (i : Nat) o, m[i]? = some o → GStepOk P k0 pre es H lf l y0 w (k + i) o
  | _, [], _, i, o, h => by simp at h
  | k, x :: rest, ⟨h1, h2⟩, 0, o, h => by obtain rfl : x = o := by simpa using h
                                          exact h1
  | k, x :: rest, ⟨h1, h2⟩, i + 1, o, h => by
    have := GStepAll.get h2 i o (by simpa using h)
    rwa [show k + 1 + i = k + (i + 1) by omega] at this
structure GInv (k0 : Nat) (es : List Nat) (H : Nat → (Nat → Value) → World → Prop) (l : List Oper) (n2 : Nat) (a0 : Act) (w0 : World) (vs : Nat → Value) (listed : Array Bool) (a : Act) (w : World) : Prop where
  ls : listed.size = l.length + n2
  off : ∀ i, l.length ≤ i → i < l.length + n2 → listed[i]? = some false
  size : a.tmps.size = a0.tmps.size
  defers : a.defers = a0.defers
  ch : if listed[k0]? = some true then Ch es w0 w else Ch [] w0 w
  done : ∀ (i : Nat) (o : Oper), l[i]? = some o → listed[i]? = some true → (∀ d, o.dst = some d → yof a d = vs i) ∧ H i vs w
  rest : ∀ (t : Nat), (∀ (i : Nat) (o : Oper), l[i]? = some o → o.dst = some t → listed[i]? = some false) → yof a t = yof a0 t
  back : ∀ (i : Nat) (o : Oper), l[i]? = some o → listed[i]? = some true → ∀ j, edgeB o j = true → listed[j]? = some true
section
variable {P : Program} {l : List Oper} {k0 : Nat} {pre : List (List Nat)} {es : List Nat} {H : Nat → (Nat → Value) → World → Prop} {a0 : Act} {w0 : World} {Q : Exit → Act → World → Prop}
theorem drawnG_any (hpreO : preOk l k0 pre = true) (l2 : List Oper) (paths : List (List Nat)) (ht : tailOk (l ++ l2) l.length paths = true) (hdst : dstsOkE a0.tmps.size l = true) (hedge : edgesOk 0 (l ++ l2) = true) (hs : GStepAll P k0 pre es H (l ++ l2) l (yof a0) w0 0 l)
    (hq : ∀ (vs : Nat → Value) w', Ch es w0 w' → (∀ i o, l[i]? = some o → H i vs w') → wpList P (l ++ l2).toArray Q l2 (putsAll vs 0 l a0) w') :
    ∀ (fuel : Nat) (vs : Nat → Value) (listed : Array Bool) (a : Act) (w : World), GInv k0 es H l l2.length a0 w0 vs listed a w → listed.toList.count false = fuel + l2.length → wpAny P .any (l ++ l2).toArray Q (fuel + l2.length) listed a w := by
  have inl : ∀ {i : Nat} {o : Oper}, (l ++ l2)[i]? = some o → i < l.length → l[i]? = some o := fun h hi => by rwa [List.getElem?_append_left hi] at h
  have inr : ∀ {i : Nat} {o : Oper}, l[i]? = some o → (l ++ l2)[i]? = some o := fun {i o} h => by rwa [List.getElem?_append_left (by rcases Nat.lt_or_ge i l.length with h' | h'; exact h'; simp [h'] at h)]
  simp only [dstsOkE, Bool.and_eq_true, List.all_eq_true] at hdst
  have hd : ∀ o ∈ l, ∀ d, o.dst = some d → d < a0.tmps.size := by
    intro o ho d hx
    have := hdst.1 o ho
    simpa [hx, Nat.blt_eq] using this
  have hn := nodupB_iff hdst.2
  have uniq : ∀ (i j : Nat) o p d, l[i]? = some o → l[j]? = some p → o.dst = some d → p.dst = some d → i = j := by
    intro i j o p d hi hj ho hp
    have hil : i < (l.map (·.dst)).length := by simp; rcases Nat.lt_or_ge i l.length with h | h; exact h; simp [h] at hi
    refine (List.getElem?_inj hil hn).1 ?_
    simp [hi, hj, ho, hp]
  -- when all are listed
  have fin : ∀ vs listed a w, GInv k0 es H l l2.length a0 w0 vs listed a w → (∀ i, i < l.length → listed[i]? = some true) → wpAny P .any (l ++ l2).toArray Q l2.length listed a w := by
    intro vs listed a w I hall
    obtain ⟨h1, h2, h3, h4⟩ := yof_putsE vs l 0 a0 hd hn
    have : a = putsAll vs 0 l a0 := by
      refine act_ext (by rw [I.size, h1]) (by rw [I.defers, h2]) ?_
      intro t
      by_cases ht : ∃ (i : Nat) (o : Oper), l[i]? = some o ∧ o.dst = some t
      · obtain ⟨i, o, hi, ho⟩ := ht
        rw [h4 i o t hi ho, Nat.zero_add]
        exact (I.done i o hi (hall i (by rcases Nat.lt_or_ge i l.length with h | h; exact h; simp [h] at hi))).1 t ho
      · rw [h3 t (fun o ho e => ht (by obtain ⟨i, hi⟩ := List.getElem?_of_mem ho; exact ⟨i, o, hi, e⟩))]
        exact I.rest t (fun i o hi ho => absurd ⟨i, o, hi, ho⟩ ht)
    rw [this]
    refine tail_any l2 hedge paths ht l2 0 rfl listed _ w I.ls (fun i hi => hall i (by omega)) (fun i h1 h2 => I.off i (by omega) h2) ?_
    exact hq vs w (by have := I.ch; split at this; exact this; exact this.mono (by simp)) fun i o hi => (I.done i o hi (hall i (by rcases Nat.lt_or_ge i l.length with h | h; exact h; simp [h] at hi))).2
  -- a tail operation that is ready: then all of l are done
  have tl : ∀ vs listed a w, GInv k0 es H l l2.length a0 w0 vs listed a w → ∀ i, i ∈ Region.ready .any (l ++ l2).toArray listed → l.length ≤ i → ∀ j, j < l.length → listed[j]? = some true := by
    intro vs listed a w I i hi hge j hj
    obtain ⟨oi, hoi, hf, hpre⟩ := (rdy_iff _ listed i).1 hi
    have hil : i < (l ++ l2).length := by rcases Nat.lt_or_ge i (l ++ l2).length with h | h; exact h; simp [List.getElem?_eq_none h] at hoi
    obtain ⟨p, q1, q2, q3, q4⟩ := tailOk_path ht i hil hge j (by omega)
    refine path_listed (l := l ++ l2) ?_ p i j q1 q2 q3 q4 ?_
    · intro x o hx hlx k hk
      rcases Nat.lt_or_ge x l.length with h | h
      · exact I.back x o (inl hx h) hlx k hk
      · have hxl : x < (l ++ l2).length := by rcases Nat.lt_or_ge x (l ++ l2).length with h' | h'; exact h'; simp [List.getElem?_eq_none h'] at hx
        have := I.off x h (by simpa using hxl)
        rw [hlx] at this; simp at this
    · intro o ho k hk
      obtain rfl : oi = o := by rw [hoi] at ho; simpa using ho
      obtain ⟨e, he, rfl, hbd⟩ := edgeB_iff.1 hk
      have h3 := hpre e he hbd
      have h4 := edgesOk_get hedge i oi hoi e he hbd
      rcases bool_at I.ls (show e.on < l.length + l2.length by simp at hil; omega) with hx | hx
      · exact hx
      · simp [Array.getD_eq_getD_getElem?, hx] at h3
  intro fuel
  induction fuel with
  | zero =>
    intro vs listed a w I hc
    have hall : ∀ i, i < l.length → listed[i]? = some true := by
      intro i hi
      rcases bool_at I.ls (show i < l.length + l2.length by omega) with hb | hb
      · exact hb
      · exfalso
        have h4 := count_off listed.toList l.length l2.length (by simpa using I.ls) (fun j h1 h2 => by simpa using I.off j h1 h2) i hi (by simpa using hb)
        omega
    rw [Nat.zero_add]
    exact fin vs listed a w I hall
  | succ fuel ih =>
    intro vs listed a w I hc
    by_cases hdone : ∀ i, i < l.length → listed[i]? = some true
    · exfalso
      have := count_all listed.toList l.length l2.length (by simpa using I.ls) (fun j h1 => by simpa using hdone j h1)
      omega
    rw [show fuel + 1 + l2.length = (fuel + l2.length) + 1 by omega]
    refine ⟨fun hr => ?_, ?_⟩
    · -- nothing is ready: all are listed
      exfalso
      refine hdone ?_
      intro i
      induction i using Nat.strongRecOn with
      | _ i ih2 =>
        intro hi
        rcases bool_at I.ls (show i < l.length + l2.length by omega) with hb | hb
        · exact hb
        · exfalso
          have : i ∈ Region.ready .any (l ++ l2).toArray listed := (rdy_iff _ listed i).2 ⟨l[i], inr (by simp), by simp [Array.getD_eq_getD_getElem?, hb], fun e he hbind => by
            have hlt := edgesOk_get hedge i l[i] (inr (by simp)) e he hbind
            have := ih2 e.on (by omega) (by omega)
            simp [Array.getD_eq_getD_getElem?, this]⟩
          rw [hr] at this
          simp at this
    · intro i hi
      have hil : i < l.length := by
        rcases Nat.lt_or_ge i l.length with h | h
        · exact h
        · exact absurd (tl vs listed a w I i hi h) hdone
      obtain ⟨o, hoA, h2, h3⟩ := (rdy_iff _ listed i).1 hi
      have ho := inl hoA hil
      have hfi : listed[i]? = some false := by
        rcases bool_at I.ls (show i < l.length + l2.length by omega) with hb | hb
        · simp [Array.getD_eq_getD_getElem?, hb] at h2
        · exact hb
      have hdlt := hd o (List.mem_of_getElem? ho)
      have hpre : ∀ j, edgeB o j = true → listed[j]? = some true := by
        intro j hj
        unfold edgeB at hj
        rw [← Array.any_toList, List.any_eq_true] at hj
        obtain ⟨e, he, hj⟩ := hj
        simp only [Bool.and_eq_true, beq_iff_eq] at hj
        obtain ⟨rfl, hb⟩ := hj
        have he := Array.mem_toList_iff.1 he
        have h4 := h3 e he hb
        have hlt := edgesOk_get hedge i o hoA e he hb
        rcases bool_at I.ls (show e.on < l.length + l2.length by omega) with hb | hb
        · exact hb
        · simp [Array.getD_eq_getD_getElem?, hb] at h4
      have hnot : i = k0 ∨ preB pre i = true → Ch [] w0 w := fun e => by
        have hk : ¬ listed[k0]? = some true := by
          rcases e with e | e
          · rw [← e, hfi]; simp
          · intro hl
            unfold preB at e
            obtain ⟨p, hp, he⟩ := List.any_eq_true.1 e
            have g1 := List.all_eq_true.1 hpreO p hp
            simp only [Bool.and_eq_true] at g1
            obtain ⟨⟨g2, g3⟩, g4⟩ := g1
            cases hh : p.head? with
            | none => rw [hh] at g3; simp at g3
            | some k =>
              rw [hh] at g3
              have ek := Nat.eq_of_beq_eq_true g3
              cases hla : p.getLast? with
              | none => rw [hla] at he; simp at he
              | some j =>
                rw [hla] at he
                have ej := Nat.eq_of_beq_eq_true he
                have := path_listed I.back p k j g2 hh hla (by unfold Nat.blt at g4; exact Nat.le_of_ble_eq_true g4) (fun o ho j hj => I.back k o ho (by rw [ek]; exact hl) j hj)
                rw [ej, hfi] at this; simp at this
        have := I.ch
        rw [if_neg hk] at this
        exact this
      have step := (GStepAll.get hs i o ho) (yof a) vs w (by rw [Nat.zero_add]; exact hnot) (by have := I.ch; split at this; exact this; exact this.mono (by simp)) (fun t ht => by
          refine I.rest t fun k ok hk hok => ?_
          rw [freeB, List.all_eq_true] at ht
          have := ht ok (List.mem_of_getElem? hk)
          simp only [hok, bne_self_eq_false, Bool.false_or] at this
          have hkl : k < l.length := by rcases Nat.lt_or_ge k l.length with h | h; exact h; simp [h] at hk
          rcases bool_at I.ls (show k < l.length + l2.length by omega) with hb | hb
          · have := I.back k ok hk hb i (by simpa using this)
            rw [hfi] at this; simp at this
          · exact hb)
        (fun j dj hj hdj => by
          cases hlj : l[j]? with
          | none => simp [hlj] at hdj
          | some oj =>
            have := I.done j oj hlj (hpre j hj)
            exact ⟨this.1 dj (by simpa [hlj] using hdj), this.2⟩)
      
      have next : ∀ v w', GAft k0 es H l w0 i v vs w w' → wpAny P .any (l ++ l2).toArray Q (fuel + l2.length) (listed.setIfInBounds i true) (a.put o.dst v) w' := by
        intro v w' ⟨hcw, hcw2, hv, hoth⟩
        refine ih (updV vs i v) _ _ _ ?_ ?_
        · have gl : ∀ j b, (listed.setIfInBounds i true)[j]? = some b → (j = i ∧ b = true) ∨ (j ≠ i ∧ listed[j]? = some b) := by
            intro j b hj
            rw [Array.getElem?_setIfInBounds] at hj
            by_cases h : i = j
            · subst h
              have : i < l.length + l2.length := by omega
              simp [I.ls, this] at hj
              exact Or.inl ⟨rfl, hj⟩
            · rw [if_neg h] at hj
              exact Or.inr ⟨fun e => h e.symm, hj⟩
          have yp : ∀ t, (o.dst ≠ some t → yof (a.put o.dst v) t = yof a t) ∧ (o.dst = some t → yof (a.put o.dst v) t = v) := fun t => by
            cases hod : o.dst with
            | none => exact ⟨fun _ => rfl, fun h => by cases h⟩
            | some d =>
              have := yof_put a d v t (by rw [I.size]; exact hdlt d hod)
              refine ⟨fun h => ?_, fun h => ?_⟩
              · rw [this, if_neg (fun e => h (by rw [e]))]
              · rw [this, if_pos (by simpa using h.symm)]
          refine ⟨by simp [I.ls], fun j h1 h2 => by
              rw [Array.getElem?_setIfInBounds, if_neg (by omega)]; exact I.off j h1 h2, by rw [size_put, I.size], by rw [defers_put, I.defers], ?_, ?_, ?_, ?_⟩
          · by_cases hik : i = k0
            · have hk : (listed.setIfInBounds i true)[k0]? = some true := by
                rw [← hik, Array.getElem?_setIfInBounds, if_pos rfl, if_pos (by rw [I.ls]; omega)]
              rw [if_pos hk]
              exact ((hnot (.inl hik)).mono (by simp)).trans (hcw hik) (fun x hx => .inl hx)
            · have hk : (listed.setIfInBounds i true)[k0]? = listed[k0]? := by
                rw [Array.getElem?_setIfInBounds, if_neg hik]
              rw [hk]
              have h1 := I.ch
              obtain ⟨ns, hns, hnew⟩ := hcw2 hik
              split at h1
              · rename_i h2; rw [if_pos h2]; exact h1.trans hns (fun x hx => .inr (hnew x hx))
              · rename_i h2; rw [if_neg h2]; exact h1.trans hns (fun x hx => .inr (hnew x hx))
          · intro j oj hj hlj
            rcases gl j true hlj with ⟨rfl, _⟩ | ⟨hne, hlj⟩
            · obtain rfl : o = oj := by rw [ho] at hj; simpa using hj
              exact ⟨fun dj hdj => ((yp dj).2 hdj).trans (updV_eq vs _ v).symm, hv⟩
            · have := I.done j oj hj hlj
              refine ⟨fun dj hdj => ?_, ?_⟩
              · rw [(yp dj).1 (fun e => hne (uniq j i oj o dj hj ho hdj e)), updV_ne vs v hne]
                exact this.1 dj hdj
              · refine hoth j oj hj hne ?_ this.2
                cases he : edgeB oj i with
                | false => rfl
                | true =>
                  have := I.back j oj hj hlj i he
                  rw [hfi] at this; simp at this
          · intro t ht
            have hne : o.dst ≠ some t := fun e => by
              have := ht i o ho e
              rcases gl i false this with ⟨_, h⟩ | ⟨h, _⟩
              · cases h
              · exact h rfl
            rw [(yp t).1 hne]
            refine I.rest t fun k ok hk hok => ?_
            have := ht k ok hk hok
            rcases gl k false this with ⟨_, h⟩ | ⟨_, h⟩
            · cases h
            · exact h
          · intro k ok hk hlk j hj
            have hb : listed[j]? = some true := by
              rcases gl k true hlk with ⟨rfl, _⟩ | ⟨hne, hlk⟩
              · obtain rfl : o = ok := by rw [ho] at hk; simpa using hk
                exact hpre j hj
              · exact I.back k ok hk hlk j hj
            rw [Array.getElem?_setIfInBounds]
            split
            · rename_i h; subst h; rw [hfi] at hb; simp at hb
            · exact hb
        · have h2 : listed[i]? = some false := hfi
          have hcount := count_set listed.toList i (by simpa using h2)
          simp only [Array.toList_setIfInBounds]
          omega
      unfold wpOp
      simp only [List.getElem?_toArray, hoA]
      rw [wantedY_of]
      cases hw : wantedY (l ++ l2) o (yof a) with
      | true =>
        rw [if_pos rfl]
        refine Or.inl ?_
        have hy := step.1 hw
        rw [rho_yof] at hy
        exact Yields.wp hy fun v w' hv => next v w' (by rw [Nat.zero_add] at hv; exact hv)
      | false =>
        rw [if_neg (by simp)]
        exact next undef w (by have := step.2 hw; rw [Nat.zero_add] at this; exact this)
/-- a region that draws its order -/
theorem drawnG_ {id : Nat} (l l2 : List Oper) (hpre : preOk l k0 pre = true) (paths : List (List Nat)) (hm : P.follows .mixedOrders = true) (ht : tailOk (l ++ l2) l.length paths = true) (hdst : dstsOkE a0.tmps.size l = true) (hedge : edgesOk 0 (l ++ l2) = true) (hs : GStepAll P k0 pre es H (l ++ l2) l (yof a0) w0 0 l)
    (hq : ∀ (vs : Nat → Value) w', Ch es w0 w' → (∀ i o, l[i]? = some o → H i vs w') → wpList P (l ++ l2).toArray Q l2 (putsAll vs 0 l a0) w') : (Code.region id (l ++ l2).toArray true).wp P Q a0 w0 := by
  refine wp_region_any hm ?_
  have h := drawnG_any hpre l2 paths ht hdst hedge hs hq l.length (fun _ => undef) (Array.replicate (l ++ l2).toArray.size false) a0 { w0 with drawn := w0.drawn + 1 } ?_ ?_
  · rw [show (l ++ l2).toArray.size = l.length + l2.length by simp]
    rw [show (l ++ l2).toArray.size = l.length + l2.length by simp] at h
    exact h
  · refine ⟨by simp, fun i h1 h2 => by simp [Array.getElem?_replicate]; omega, rfl, rfl, ?_, ?_, fun _ _ => rfl, ?_⟩
    · split
      · exact (Ch.refl _ _).drew
      · exact (Ch.refl _ _).drew
    · intro i o _ h; simp [Array.getElem?_replicate] at h
    · intro i o _ h; simp [Array.getElem?_replicate] at h
  · simp [List.count_replicate_self]
end

/-! what the operations do, told by kinds -/
inductive GX where
  | v (x : Value)
  | a (obj : Obj)
  | n (cs cs' : Array Value) (T : TypeId)
  | s (j : Nat)
def GX.sp : GX → Sp
  | .v x => s0 x
  | .a o => sA o
  | .n cs _ T => sA (.cells cs T (0, 0))
  | .s _ => s0 undef
def GX.fin : GX → VX
  | .v x => .v x
  | .a o => .a o
  | .n _ cs' T => .a (.cells cs' T (0, 0))
  | .s _ => .v undef
def isQ (xs : List GX) (i : Nat) : Bool := match xs[i]? with | some (.v _) => true | some (.a _) => true | _ => false
def edgeQ (xs : List GX) (o : Oper) : Bool := o.after.toList.all fun e => !(Region.binds .any e) || isQ xs e.on
def HG (xs : List GX) (k0 : Nat) (pv : Value → World → Prop) (B : Nat) (i : Nat) (vs : Nat → Value) (w : World) : Prop := match xs[i]? with
  | some (.n cs cs' T) => ∃ b, vs i = .pointer (some ⟨b, 0, none⟩) ∧ B ≤ b ∧ (w.heap[b]? = some (.cells cs T (0, 0)) ∨ w.heap[b]? = some (.cells cs' T (0, 0)))
  | some (.s j) => ∃ b cs cs' T, xs[j]? = some (.n cs cs' T) ∧ vs j = .pointer (some ⟨b, 0, none⟩) ∧ B ≤ b ∧ w.heap[b]? = some (.cells cs' T (0, 0))
  | _ => HQ k0 pv (spl (xs.map GX.sp)) B i (vs i) w
theorem HG_q {xs : List GX} {k0 : Nat} {pv : Value → World → Prop} {B i : Nat} {vs : Nat → Value} {w : World} (h : isQ xs i = true) : HG xs k0 pv B i vs w = HQ k0 pv (spl (xs.map GX.sp)) B i (vs i) w := by
  unfold HG isQ at *
  split <;> simp_all
theorem Yields.mono {P : Program} {o : Oper} {ρ : Operand → Value} {w : World} {R R' : Value → World → Prop} (h : Yields P o ρ w R) (k : ∀ v w', R v w' → R' v w') : Yields P o ρ w R' := by
  unfold Yields at *
  split at h
  · exact k _ _ h
  · exact k _ _ h
  · exact Calls.mono h fun e w' ⟨v, e1, e2⟩ => ⟨v, e1, k _ _ e2⟩
  · exact h.elim
section
variable {P : Program} {lf l : List Oper} {xs : List GX} {y0 : Nat → Value} {w : World} {i k0 : Nat} {pre : List (List Nat)} {o : Oper} {es : List Nat} {pv : Value → World → Prop}
theorem HQ_ch {sp : Nat → Sp} {B j : Nat} {v : Value} {w1 w2 : World} (hes : ∀ x ∈ es, x < B) (hj : j ≠ k0) (hc : Ch es w1 w2) (h : HQ k0 pv sp B j v w1) : HQ k0 pv sp B j v w2 := by
  unfold HQ at *
  split at h
  · rename_i h2; exact absurd (Nat.eq_of_beq_eq_true h2) hj
  · obtain ⟨ids, h1, h2, h3⟩ := h
    exact ⟨ids, h1, h2, fun p hp => ⟨(h3 p hp).1, (hc.block _ (heap_lt (h3 p hp).2) (fun hx => by have := hes _ hx; have := (h3 p hp).1; omega)).trans (h3 p hp).2⟩⟩
theorem HQ_q {sp : Nat → Sp} {B j : Nat} {v : Value} {w1 w2 : World} (hpv : ∀ v w w', Ch [] w w' → pv v w → pv v w') (hc : Ch [] w1 w2) (h : HQ k0 pv sp B j v w1) : HQ k0 pv sp B j v w2 := by
  unfold HQ at *
  split at h
  · exact hpv _ _ _ hc h
  · exact h.stab hc
theorem g_aft (hpv : ∀ v w w', Ch [] w w' → pv v w → pv v w') (hes : ∀ x ∈ es, x < w.heap.size) (hx : isQ xs i = true) {v : Value} {vs : Nat → Value} {w1 w2 : World} (h1 : i = k0 → Ch es w1 w2) (h2 : i ≠ k0 → Ch [] w1 w2) (h3 : HQ k0 pv (spl (xs.map GX.sp)) w.heap.size i v w2) :
    GAft k0 es (HG xs k0 pv w.heap.size) l w i v vs w1 w2 := by
  refine ⟨h1, fun h => ⟨[], h2 h, by simp⟩, by rw [HG_q hx, updV_eq]; exact h3, fun j oj hj hne hed hH => ?_⟩
  have hb : ∀ (b : Nat) ob, w.heap.size ≤ b → w1.heap[b]? = some ob → w2.heap[b]? = some ob := fun b ob hle hat => by
    by_cases hik : i = k0
    · exact ((h1 hik).block b (heap_lt hat) (fun hx => by have := hes _ hx; omega)).trans hat
    · exact ((h2 hik).block b (heap_lt hat) (by simp)).trans hat
  unfold HG at hH ⊢
  cases hxj : xs[j]? with
  | none =>
    rw [hxj] at hH; simp only at hH ⊢
    rw [updV_ne vs v hne]
    by_cases hik : i = k0
    · exact HQ_ch hes (fun e => hne (by rw [e, hik])) (h1 hik) hH
    · exact HQ_q hpv (h2 hik) hH
  | some u =>
    rw [hxj] at hH
    cases u with
    | v x =>
      simp only at hH ⊢
      rw [updV_ne vs v hne]
      by_cases hik : i = k0
      · exact HQ_ch hes (fun e => hne (by rw [e, hik])) (h1 hik) hH
      · exact HQ_q hpv (h2 hik) hH
    | a x =>
      simp only at hH ⊢
      rw [updV_ne vs v hne]
      by_cases hik : i = k0
      · exact HQ_ch hes (fun e => hne (by rw [e, hik])) (h1 hik) hH
      · exact HQ_q hpv (h2 hik) hH
    | n cs cs' T =>
      simp only at hH ⊢
      obtain ⟨b, e, hle, hat⟩ := hH
      refine ⟨b, by rw [updV_ne vs v hne]; exact e, hle, ?_⟩
      rcases hat with hat | hat
      · exact .inl (hb b _ hle hat)
      · exact .inr (hb b _ hle hat)
    | s j' =>
      simp only at hH ⊢
      obtain ⟨b, cs, cs', T, e0, e, hle, hat⟩ := hH
      have hne' : j' ≠ i := fun h => by subst h; simp [isQ, e0] at hx
      exact ⟨b, cs, cs', T, e0, by rw [updV_ne vs v hne']; exact e, hle, hb b _ hle hat⟩
/-- a step of the elder kind -/
theorem gq_ (hpv : ∀ v w w', Ch [] w w' → pv v w → pv v w') (hes : ∀ x ∈ es, x < w.heap.size) (h : EStepOk P k0 pre es (HQ k0 pv (spl (xs.map GX.sp)) w.heap.size) lf l y0 w i o) (hx : isQ xs i = true := by kernel_rfl) (he : edgeQ xs o = true := by kernel_rfl) :
    GStepOk P k0 pre es (HG xs k0 pv w.heap.size) lf l y0 w i o := by
  intro y vs w' h1 h2 h3 h4
  have h5 : ∀ j d, edgeB o j = true → (l[j]?).bind (·.dst) = some d → HQ k0 pv (spl (xs.map GX.sp)) w.heap.size j (y d) w' := fun j d hj hd => by
    obtain ⟨e, hH⟩ := h4 j d hj hd
    obtain ⟨ed, hed, rfl, hbd⟩ := edgeB_iff.1 hj
    have := List.all_eq_true.1 he ed (Array.mem_toList_iff.2 hed)
    simp [hbd] at this
    rw [HG_q this] at hH
    rw [e]; exact hH
  obtain ⟨a, b⟩ := h y w' h1 h2 h3 h5
  exact ⟨fun hw => (a hw).mono fun v w'' ⟨c1, c2, c3⟩ => g_aft hpv hes hx c1 c2 c3, fun hw => g_aft hpv hes hx (fun _ => Ch.refl _ _) (fun _ => Ch.refl _ _) (b hw)⟩
/-- a new block that is written later on -/
theorem gn_ (hpv : ∀ v w w', Ch [] w w' → pv v w → pv v w') (cs cs' : Array Value) (T : TypeId) (hx : xs[i]? = some (.n cs cs' T) := by rfl) (hk : Nat.beq i k0 = false := by kernel_rfl) (hst : (l.zipIdx.all fun p => match xs[p.2]? with | some (.s j) => Nat.beq j i && edgeB p.1 i || !(Nat.beq j i) | _ => true) = true := by kernel_rfl)
    (hg : o.guard = none := by rfl) (h : (fun w => (execOp (envE []) o).run P w) = (fun w => .ok (.value (.pointer (some ⟨w.heap.size, 0, none⟩))) (w.alloc (.cells cs T (0, 0)))) := by kernel_rfl) (hin : inEnv [] o = true := by kernel_rfl) :
    GStepOk P k0 pre es (HG xs k0 pv w.heap.size) lf l y0 w i o := by
  intro y vs w' _ hc _ _
  have hik : i ≠ k0 := fun e => by rw [e] at hk; simp at hk
  refine ⟨fun _ => ?_, fun hw => by simp [wantedY, hg] at hw⟩
  refine yenv [] trivial ?_ hin
  have h2 : (execOp (envE []) o).run P w' = _ := congrFun h w'
  unfold Yields
  rw [h2]
  have ha : Ch [] w' (w'.alloc (.cells cs T (0, 0))) := Ch.alloc _ _ _
  refine ⟨fun e => absurd e hik, fun _ => ⟨[], ha, by simp⟩, ?_, fun j oj hj hne hed hH => ?_⟩
  · unfold HG; rw [hx]
    exact ⟨w'.heap.size, updV_eq _ _ _, hc.size, .inl (heap_alloc_new w' _)⟩
  · unfold HG at hH ⊢
    cases hxj : xs[j]? with
    | none => rw [hxj] at hH; simp only at hH ⊢; rw [updV_ne vs _ hne]; exact HQ_q hpv ha hH
    | some u =>
      rw [hxj] at hH
      cases u with
      | v x => simp only at hH ⊢; rw [updV_ne vs _ hne]; exact HQ_q hpv ha hH
      | a x => simp only at hH ⊢; rw [updV_ne vs _ hne]; exact HQ_q hpv ha hH
      | n c1 c2 T2 =>
        simp only at hH ⊢
        obtain ⟨b, e, hle, hat⟩ := hH
        refine ⟨b, by rw [updV_ne vs _ hne]; exact e, hle, ?_⟩
        rcases hat with hat | hat
        · exact .inl ((ha.block b (heap_lt hat) (by simp)).trans hat)
        · exact .inr ((ha.block b (heap_lt hat) (by simp)).trans hat)
      | s j' =>
        simp only at hH ⊢
        obtain ⟨b, c1, c2, T2, e0, e, hle, hat⟩ := hH
        have hne' : j' ≠ i := fun h => by
          have hz := List.all_eq_true.1 hst (oj, j) (by
            rw [List.mem_zipIdx_iff_getElem?]; exact hj)
          rw [hxj] at hz
          simp only [h, Nat.beq_refl, Bool.true_and, Bool.not_true, Bool.or_false] at hz
          rw [hed] at hz; cases hz
        exact ⟨b, c1, c2, T2, e0, by rw [updV_ne vs _ hne']; exact e, hle, (ha.block b (heap_lt hat) (by simp)).trans hat⟩
/-- what a store into a new block leaves as it is -/
def tyG (T : TypeId) (i : Nat) (xs : List GX) : Bool := xs.zipIdx.all fun p => match p.1 with | .a o => (match tyO o with | some t => !(Nat.beq t T) | none => false) | .n _ _ t => Nat.beq p.2 i || !(Nat.beq t T) | _ => true
/-- the store -/
theorem gs_ (j d t2 j2 : Nat) (val : Value) (cs cs' : Array Value) (T : TypeId) {ty : TypeId} (hpvS : ∀ v w1 w2 b c2, w.heap.size ≤ b → w1.heap[b]? = some (.cells c2 T (0, 0)) → Ch [b] w1 w2 → pv v w1 → pv v w2) (hx : xs[i]? = some (.s j) := by rfl) (hxj : xs[j]? = some (.n cs cs' T) := by rfl) (hx2 : xs[j2]? = some (.v val) := by rfl)
    (hk : Nat.beq i k0 = false := by kernel_rfl) (hk2 : Nat.beq j2 k0 = false := by kernel_rfl) (hg : o.guard = none := by rfl) (ho : o.op = .store ty (.tmp d) (.tmp t2) := by rfl) (he : edgeB o j = true := by kernel_rfl) (hd : (l[j]?).bind (·.dst) = some d := by kernel_rfl) (he2 : edgeB o j2 = true := by kernel_rfl) (hd2 : (l[j2]?).bind (·.dst) = some t2 := by kernel_rfl)
    (hn : (P.info? ty).map (·.size) = some val.cells.toList.length := by kernel_rfl) (h1 : val.cells.toList.all (·.oneCell') = true := by kernel_rfl) (hl : Nat.ble (0 + val.cells.toList.length) cs.size = true := by kernel_rfl) (hl' : Nat.ble (0 + val.cells.toList.length) cs'.size = true := by kernel_rfl) (hs : splice cs 0 val.cells.toList = cs' := by kernel_rfl) (hs' : splice cs' 0 val.cells.toList = cs' := by kernel_rfl)
    (hT : tyG T j xs = true := by kernel_rfl) (hone : (xs.zipIdx.all fun p => match p.1 with | .s j' => !(Nat.beq j' j) || Nat.beq p.2 i | _ => true) = true := by kernel_rfl) : GStepOk P k0 pre es (HG xs k0 pv w.heap.size) lf l y0 w i o := by
  intro y vs w' _ hc _ hdep
  have hik : i ≠ k0 := fun e => by rw [e] at hk; simp at hk
  obtain ⟨e1, hH⟩ := hdep j d he hd
  obtain ⟨e2, hH2⟩ := hdep j2 t2 he2 hd2
  have hHj := hH
  unfold HG at hH hH2
  rw [hxj] at hH
  rw [hx2] at hH2
  simp only at hH hH2
  obtain ⟨b, e, hle, hat⟩ := hH
  have hval : vs j2 = val := by
    unfold HQ at hH2
    rw [hk2] at hH2
    simp only at hH2
    obtain ⟨ids, h1, h2, _⟩ := hH2
    have hsp : spl (xs.map GX.sp) j2 = s0 val := by
      unfold spl
      rw [List.getD_eq_getElem?_getD, List.getElem?_map, hx2]; rfl
    rw [hsp] at h2
    exact h2
  refine ⟨fun _ => ?_, fun hw => by simp [wantedY, hg] at hw⟩
  obtain ⟨c, hc1, hc2, hc3⟩ : ∃ c, w'.heap[b]? = some (.cells c T (0, 0)) ∧ 0 + val.cells.toList.length ≤ c.size ∧ splice c 0 val.cells.toList = cs' := by
    rcases hat with hat | hat
    · exact ⟨cs, hat, Nat.le_of_ble_eq_true hl, hs⟩
    · exact ⟨cs', hat, Nat.le_of_ble_eq_true hl', hs'⟩
  have hx1 : rho y (.tmp d) = .pointer (some ⟨b, 0, none⟩) := by show y d = _; rw [e1, e]
  have hy1 : rho y (.tmp t2) = val := by show y t2 = _; rw [e2, hval]
  unfold Yields execOp
  simp only [ho, hx1, hy1, Instr.storeAt, Instr.sureAddr, Sem.run_bind, Sem.run_pure, Result.andThen_ok, run_storeN (P := P) hc1 rfl hn hc2 h1]
  rw [hc3]
  have hch : Ch [b] w' (w'.setRow b cs') := Ch.setRow w' b _
  have hat2 : (w'.setRow b cs').heap[b]? = some (.cells cs' T (0, 0)) := setRow_heap w' b c _ T (0, 0) hc1
  have hij : j ≠ i := fun h => by subst h; rw [hx] at hxj; cases hxj
  refine ⟨fun e => absurd e hik, fun _ => ⟨[b], hch, by simpa using hle⟩, ?_, fun j3 oj3 hj3 hne hed hH3 => ?_⟩
  · unfold HG; rw [hx]
    exact ⟨b, cs, cs', T, hxj, by rw [updV_ne vs _ hij]; exact e, hle, hat2⟩
  · have hkeep : ∀ (b' : Nat) ob, b' ≠ b → w'.heap[b']? = some ob → (w'.setRow b cs').heap[b']? = some ob := fun b' ob hne' hat' => (hch.block b' (heap_lt hat') (by simpa using hne')).trans hat'
    have hqk : ∀ u, xs[j3]? = u → (match u with | some (.n ..) => False | some (.s _) => False | _ => True) → HQ k0 pv (spl (xs.map GX.sp)) w.heap.size j3 (vs j3) w' → HQ k0 pv (spl (xs.map GX.sp)) w.heap.size j3 (vs j3) (w'.setRow b cs') := fun u hu hm hQ => by
      unfold HQ at hQ ⊢
      split at hQ
      · exact hpvS _ _ _ b c hle hc1 hch hQ
      · obtain ⟨ids, q1, q2, q3⟩ := hQ
        refine ⟨ids, q1, q2, fun p hp => ⟨(q3 p hp).1, hkeep _ _ (fun eb => ?_) (q3 p hp).2⟩⟩
        have hob := (q3 p hp).2
        rw [eb, hc1] at hob
        cases u with
        | none =>
          have hsp : spl (xs.map GX.sp) j3 = ⟨0, fun _ => undef, fun _ => []⟩ := by
            unfold spl; rw [List.getD_eq_getElem?_getD, List.getElem?_map, hu]; rfl
          rw [hsp] at hp; cases hp
        | some u =>
          have hsp : spl (xs.map GX.sp) j3 = u.sp := by
            unfold spl; rw [List.getD_eq_getElem?_getD, List.getElem?_map, hu]; rfl
          rw [hsp] at hp
          cases u with
          | v x => cases hp
          | a x =>
            have hz := List.all_eq_true.1 hT (GX.a x, j3) (by rw [List.mem_zipIdx_iff_getElem?]; exact hu)
            simp only [GX.sp, sA, List.mem_singleton] at hp
            subst hp
            simp only at hob hz
            rw [← Option.some.inj hob] at hz
            simp [tyO] at hz
          | n _ _ _ => exact hm.elim
          | s _ => exact hm.elim
    unfold HG at hH3 ⊢
    cases hx3 : xs[j3]? with
    | none => rw [hx3] at hH3; simp only at hH3 ⊢; rw [updV_ne vs _ hne]; exact hqk none hx3 trivial hH3
    | some u =>
      rw [hx3] at hH3
      cases u with
      | v x => simp only at hH3 ⊢; rw [updV_ne vs _ hne]; exact hqk _ hx3 trivial hH3
      | a x => simp only at hH3 ⊢; rw [updV_ne vs _ hne]; exact hqk _ hx3 trivial hH3
      | n c1 c2 T2 =>
        simp only at hH3 ⊢
        obtain ⟨b3, e3, hle3, hat3⟩ := hH3
        refine ⟨b3, by rw [updV_ne vs _ hne]; exact e3, hle3, ?_⟩
        by_cases hjj : j3 = j
        · subst hjj
          rw [hxj] at hx3; cases hx3
          rw [e] at e3; cases e3
          exact .inr hat2
        · have hz := List.all_eq_true.1 hT (GX.n c1 c2 T2, j3) (by rw [List.mem_zipIdx_iff_getElem?]; exact hx3)
          have hTT : T2 ≠ T := fun h => by
            subst h
            simp only [Nat.beq_refl, Bool.not_true, Bool.or_false] at hz
            exact hjj (Nat.eq_of_beq_eq_true hz)
          have hbb : b3 ≠ b := fun h => by
            subst h
            rcases hat3 with hat3 | hat3 <;> (rw [hc1] at hat3; cases hat3; exact hTT rfl)
          rcases hat3 with hat3 | hat3
          · exact .inl (hkeep _ _ hbb hat3)
          · exact .inr (hkeep _ _ hbb hat3)
      | s j' =>
        simp only at hH3 ⊢
        obtain ⟨b3, c1, c2, T2, e0, e3, hle3, hat3⟩ := hH3
        have hne' : j' ≠ i := fun h => by rw [h, hx] at e0; cases e0
        have hjj : j' ≠ j := fun h => by
          have hz := List.all_eq_true.1 hone (GX.s j', j3) (by rw [List.mem_zipIdx_iff_getElem?]; exact hx3)
          simp only [h, Nat.beq_refl, Bool.not_true, Bool.false_or] at hz
          exact hne (Nat.eq_of_beq_eq_true hz)
        have hz := List.all_eq_true.1 hT (GX.n c1 c2 T2, j') (by rw [List.mem_zipIdx_iff_getElem?]; exact e0)
        have hTT : T2 ≠ T := fun h => by
          subst h
          simp only [Nat.beq_refl, Bool.not_true, Bool.or_false] at hz
          exact hjj (Nat.eq_of_beq_eq_true hz)
        have hbb : b3 ≠ b := fun h => by
          subst h
          rw [hc1] at hat3; cases hat3; exact hTT rfl
        exact ⟨b3, c1, c2, T2, e0, by rw [updV_ne vs _ hne']; exact e3, hle3, hkeep _ _ hbb hat3⟩
theorem gstep_nil : GStepAll P k0 pre es (HG xs k0 pv w.heap.size) lf l y0 w i [] := trivial
theorem gstep_cons {rest : List Oper} (h : GStepOk P k0 pre es (HG xs k0 pv w.heap.size) lf l y0 w i o) (k : GStepAll P k0 pre es (HG xs k0 pv w.heap.size) lf l y0 w (i + 1) rest) : GStepAll P k0 pre es (HG xs k0 pv w.heap.size) lf l y0 w i (o :: rest) := ⟨h, k⟩
end

/-- each block that is written later on is; a store has no slot -/
def isS (i : Nat) : GX → Bool
  | .s j => Nat.beq j i
  | _ => false
def nsA (xs : List GX) : Bool := xs.zipIdx.all fun p => match p.1 with
  | .n _ _ _ => xs.any (isS p.2)
  | _ => true
def nsOk (l : List Oper) (xs : List GX) : Bool := nsA xs && (l.zip xs).all fun p => match p.2 with
  | .s _ => p.1.dst.isNone
  | _ => true
section
variable {P : Program} {a0 : Act} {w w0 : World} {Q : Exit → Act → World → Prop} {id : Nat} {L : List Oper} {ms : List Nat} {bs : List Blk}
theorem HG_ids {xs : List GX} {k0 : Nat} {pv : Value → World → Prop} {B m : Nat} {vs : Nat → Value} {w' : World} (hl : xs.length = m) (hk : ∀ i x, xs[i]? = some x → x ≠ .v (vs k0) → i ≠ k0) (h2 : nsA xs = true)
    (hkv : ∀ x, xs[k0]? = some x → ∃ u, x = .v u) (hall : ∀ i, i < m → HG xs k0 pv B i vs w') : ∃ ids : Nat → Nat, ∀ i o, (xs.map GX.fin)[i]? = some (.a o) → vs i = .pointer (some ⟨ids i, 0, none⟩) ∧ B ≤ ids i ∧ w'.heap[ids i]? = some o := by
  have hid : ∀ i : Nat, ∃ d : Nat, ∀ o, (xs.map GX.fin)[i]? = some (.a o) → vs i = .pointer (some ⟨d, 0, none⟩) ∧ B ≤ d ∧ w'.heap[d]? = some o := by
    intro i
    cases hx : xs[i]? with
    | none => exact ⟨0, fun o h => by rw [List.getElem?_map, hx] at h; cases h⟩
    | some x =>
      have hi : i < m := by
        rcases Nat.lt_or_ge i xs.length with h | h
        · omega
        · simp [h] at hx
      have hH := hall i hi
      cases x with
      | v u => exact ⟨0, fun o h => by rw [List.getElem?_map, hx] at h; cases h⟩
      | s j => exact ⟨0, fun o h => by rw [List.getElem?_map, hx] at h; cases h⟩
      | a o =>
        have hik : Nat.beq i k0 = false := by
          cases hb : Nat.beq i k0
          · rfl
          · have := Nat.eq_of_beq_eq_true hb; subst this
            obtain ⟨u, hu⟩ := hkv _ hx; cases hu
        unfold HG at hH
        rw [hx] at hH
        simp only at hH
        unfold HQ at hH
        rw [hik] at hH
        obtain ⟨l, h1, h2, h3⟩ := hH
        have hsp : spl (xs.map GX.sp) i = sA o := by
          unfold spl; rw [List.getD_eq_getElem?_getD, List.getElem?_map, hx]; rfl
        rw [hsp] at h1 h2 h3
        refine ⟨l.getD 0 0, fun o' ho' => ?_⟩
        rw [List.getElem?_map, hx] at ho'
        obtain rfl : o = o' := by simpa [GX.fin] using ho'
        have h4 := h3 (l.getD 0 0, o) (by simp [sA])
        exact ⟨h2, h4.1, h4.2⟩
      | n cs cs' T =>
        have hz := List.all_eq_true.1 h2 (GX.n cs cs' T, i) (by rw [List.mem_zipIdx_iff_getElem?]; exact hx)
        simp only [List.any_eq_true] at hz
        obtain ⟨q, hq, hqb⟩ := hz
        obtain ⟨k, hk⟩ := List.getElem?_of_mem hq
        cases q with
        | s j =>
          obtain rfl := Nat.eq_of_beq_eq_true hqb
          have hkm : k < m := by
            rcases Nat.lt_or_ge k xs.length with h | h
            · omega
            · simp [h] at hk
          have hHk := hall k hkm
          unfold HG at hHk
          rw [hk] at hHk
          simp only at hHk
          obtain ⟨b, c1, c2, T2, e0, e, hle, hat⟩ := hHk
          rw [hx] at e0; cases e0
          refine ⟨b, fun o' ho' => ?_⟩
          rw [List.getElem?_map, hx] at ho'
          obtain rfl : Obj.cells cs' T (0, 0) = o' := by simpa [GX.fin] using ho'
          exact ⟨e, hle, hat⟩
        | v _ => cases hqb
        | a _ => cases hqb
        | n _ _ _ => cases hqb
  exact ⟨fun i => Classical.choose (hid i), fun i o ho => Classical.choose_spec (hid i) o ho⟩
/-- a region that draws its order: quiet operations, new blocks, stores into these -/
theorem newG_ (S : St ms w0 bs w) (m : Nat) (xs : List GX) (paths : List (List Nat))
    (hs : GStepAll P m [] [] (HG xs m (fun _ _ => True) w.heap.size) L (L.take m) (yof a0) w 0 (L.take m))
    (hq : ∀ (ids : Nat → Nat) w', St ms w0 (newX ids 0 (xs.map GX.fin) ++ bs) w' → WL P L.toArray Q (L.drop m) (putsL (valsX ids 0 (xs.map GX.fin)) (L.take m) a0) w')
    (hvl : xs.length = m := by kernel_rfl) (hnd : tyNd (tysX (xs.map GX.fin)) = true := by kernel_rfl) (hns : nsOk (L.take m) xs = true := by kernel_rfl)
    (hm : P.follows .mixedOrders = true := by kernel_rfl) (hl : Nat.ble m L.length = true := by kernel_rfl) (ht : tailOk L m paths = true := by kernel_rfl) (hdst : dstsOkE a0.tmps.size (L.take m) = true := by kernel_rfl) (hedge : edgesOk 0 L = true := by kernel_rfl) : (Code.region id L.toArray true).wp P Q a0 w := by
  have hml : (L.take m).length = m := by have := Nat.le_of_ble_eq_true hl; simp; omega
  have h := drawnG_ (id := id) (Q := Q) (P := P) (k0 := m) (pre := []) (es := []) (H := HG xs m (fun _ _ => True) w.heap.size) (a0 := a0) (w0 := w) (L.take m) (L.drop m) rfl paths hm (by rw [List.take_append_drop, hml]; exact ht) hdst (by rw [List.take_append_drop]; exact hedge) (by rw [List.take_append_drop]; exact hs) ?_
  · rwa [List.take_append_drop] at h
  · intro vs w' hc hall
    rw [List.take_append_drop]
    refine WL.out ?_
    simp only [nsOk, Bool.and_eq_true] at hns
    have hall' : ∀ i, i < m → HG xs m (fun _ _ => True) w.heap.size i vs w' := fun i hi => hall i _ (List.getElem?_eq_getElem (by omega))
    have hnone : xs[m]? = none := by rw [List.getElem?_eq_none]; omega
    obtain ⟨ids, hids⟩ := HG_ids (k0 := m) hvl (fun i x hx _ e => by rw [e, hnone] at hx; cases hx) hns.1 (fun x hx => by rw [hnone] at hx; cases hx) hall'
    have S2 := S.quiet hc
    have S3 : St ms w0 (newX ids 0 (xs.map GX.fin) ++ bs) w' :=
      S2.addX (xs.map GX.fin) ids 0 hnd (B := w.heap.size) S.ch.size (fun j o hj => by rw [Nat.zero_add]; exact (hids j o hj).2) (fun x hx => .inl (S.ge hx))
    have hp : putsAll vs 0 (L.take m) a0 = putsL (valsX ids 0 (xs.map GX.fin)) (L.take m) a0 := putsE_eq (by rw [len_valsX, List.length_map]; omega) fun i o u ho hu => by
      obtain ⟨x, hx, rfl⟩ := get_valsX (xs.map GX.fin) hu
      have hi : i < m := by
        rcases Nat.lt_or_ge i (xs.map GX.fin).length with h | h
        · simpa [hvl] using h
        · rw [List.getElem?_eq_none h] at hx; cases hx
      rw [Nat.zero_add]
      rw [List.getElem?_map] at hx
      cases hxi : xs[i]? with
      | none => rw [hxi] at hx; cases hx
      | some y =>
        rw [hxi] at hx
        cases y with
        | s j =>
          have hz := List.all_eq_true.1 hns.2 (o, GX.s j) (by
            have : (List.zip (L.take m) xs)[i]? = some (o, GX.s j) := by rw [List.getElem?_zip_eq_some]; exact ⟨ho, hxi⟩
            exact List.mem_of_getElem? this)
          left
          simpa using hz
        | v z =>
          right
          have hH := hall' i hi
          unfold HG at hH
          rw [hxi] at hH
          simp only at hH
          unfold HQ at hH
          have hik : Nat.beq i m = false := by
            cases hb : Nat.beq i m
            · rfl
            · exact absurd (Nat.eq_of_beq_eq_true hb) (by omega)
          rw [hik] at hH
          obtain ⟨l, h1, h2, _⟩ := hH
          have hsp : spl (xs.map GX.sp) i = s0 z := by
            unfold spl; rw [List.getD_eq_getElem?_getD, List.getElem?_map, hxi]; rfl
          rw [hsp] at h1 h2
          simp [GX.fin] at hx
          subst hx
          rw [h2]; rfl
        | a z =>
          right
          simp [GX.fin] at hx
          subst hx
          exact (hids i z (by rw [List.getElem?_map, hxi]; rfl)).1
        | n cs cs' T =>
          right
          simp [GX.fin] at hx
          subst hx
          exact (hids i _ (by rw [List.getElem?_map, hxi]; rfl)).1
    rw [hp]
    exact hq ids w' S3
end
section
variable {P : Program} {lf l : List Oper} {sp : Nat → Sp} {xs : List GX} {y0 : Nat → Value} {a0 : Act} {w : World} {i k0 m : Nat} {pre : List (List Nat)} {o : Oper} {es : List Nat} {pv : Value → World → Prop}
theorem eCw_ (f : FuncId) (args : Array Value) (hg : ∀ w', Ch [] w w' → Gives P f args w' fun v w'' => v = (sp i).f [] ∧ Ch [] w' w'') (hs : okE k0 l sp i o = true := by kernel_rfl) (h : (fun w => (execOp (envE (envOf l sp a0 o)) o).run P w) = (fun w => .ok (.enter f args) w) := by kernel_rfl) : EStepOk P k0 pre [] (HQ k0 pv sp w.heap.size) lf l (yof a0) w i o := by
  obtain ⟨h1, h2, h3, h4⟩ := okE_out hs
  refine e_step h1 h2 h3 h4 fun w' hc => ?_
  have h2 : (execOp (envE (envOf l sp a0 o)) o).run P w' = .ok (.enter f args) w' := congrFun h w'
  unfold Yields
  rw [h2]
  exact (hg w' hc).mono fun v w'' h => ⟨h.2, h.1⟩
theorem gq0_ (h : EStepOk P m [] [] (HQ m (fun _ _ => True) (spl (xs.map GX.sp)) w.heap.size) lf l y0 w i o) (hx : isQ xs i = true := by kernel_rfl) (he : edgeQ xs o = true := by kernel_rfl) : GStepOk P m [] [] (HG xs m (fun _ _ => True) w.heap.size) lf l y0 w i o :=
  gq_ (fun _ _ _ _ _ => trivial) (fun x h => by cases h) h hx he
theorem gn0_ (cs cs' : Array Value) (T : TypeId) (hx : xs[i]? = some (.n cs cs' T) := by rfl) (hk : Nat.beq i m = false := by kernel_rfl) (hst : (l.zipIdx.all fun p => match xs[p.2]? with | some (.s j) => Nat.beq j i && edgeB p.1 i || !(Nat.beq j i) | _ => true) = true := by kernel_rfl)
    (hg : o.guard = none := by rfl) (h : (fun w => (execOp (envE []) o).run P w) = (fun w => .ok (.value (.pointer (some ⟨w.heap.size, 0, none⟩))) (w.alloc (.cells cs T (0, 0)))) := by kernel_rfl) (hin : inEnv [] o = true := by kernel_rfl) :
    GStepOk P m [] [] (HG xs m (fun _ _ => True) w.heap.size) lf l y0 w i o := gn_ (fun _ _ _ _ _ => trivial) cs cs' T hx hk hst hg h hin
theorem gs0_ (j d t2 j2 : Nat) (val : Value) (cs cs' : Array Value) (T : TypeId) {ty : TypeId} (hx : xs[i]? = some (.s j) := by rfl) (hxj : xs[j]? = some (.n cs cs' T) := by rfl) (hx2 : xs[j2]? = some (.v val) := by rfl)
    (hk : Nat.beq i m = false := by kernel_rfl) (hk2 : Nat.beq j2 m = false := by kernel_rfl) (hg : o.guard = none := by rfl) (ho : o.op = .store ty (.tmp d) (.tmp t2) := by rfl) (he : edgeB o j = true := by kernel_rfl) (hd : (l[j]?).bind (·.dst) = some d := by kernel_rfl) (he2 : edgeB o j2 = true := by kernel_rfl) (hd2 : (l[j2]?).bind (·.dst) = some t2 := by kernel_rfl)
    (hn : (P.info? ty).map (·.size) = some val.cells.toList.length := by kernel_rfl) (h1 : val.cells.toList.all (·.oneCell') = true := by kernel_rfl) (hl : Nat.ble (0 + val.cells.toList.length) cs.size = true := by kernel_rfl) (hl' : Nat.ble (0 + val.cells.toList.length) cs'.size = true := by kernel_rfl) (hs : splice cs 0 val.cells.toList = cs' := by kernel_rfl) (hs' : splice cs' 0 val.cells.toList = cs' := by kernel_rfl)
    (hT : tyG T j xs = true := by kernel_rfl) (hone : (xs.zipIdx.all fun p => match p.1 with | .s j' => !(Nat.beq j' j) || Nat.beq p.2 i | _ => true) = true := by kernel_rfl) : GStepOk P m [] [] (HG xs m (fun _ _ => True) w.heap.size) lf l y0 w i o :=
  gs_ j d t2 j2 val cs cs' T (fun _ _ _ _ _ _ _ _ _ => trivial) hx hxj hx2 hk hk2 hg ho he hd he2 hd2 hn h1 hl hl' hs hs' hT hone
end
end Sx
