/- What the walks of the queue laws stand on. Conditions: none beyond those that each lemma names. -/
import Derived.Test.YtciiaficfmbimaaB2
set_option linter.unusedVariables false
set_option linter.unusedSimpArgs false
set_option linter.unusedSectionVars false
noncomputable section
namespace Vx
open Go Go.RowKit Go.BigFrame Sx
variable {G : Type} [Bl G]
structure DI (C : Ctx G) (call : CallK G) (q : Nat → Bool) (l : List Oper) (pm : List Nat) (R : List Blk) (ms : List Nat) (w0 : World) (k : FrK G) (fr0 : List V) (ids0 : List Nat)
    (absd rest : List Nat) (fr : List V) (ids : List Nat) (bl : List VB) (ch : List G) (Z : List (Nat × Blk)) (listed : Array Bool) (a : Act) (w : World) : Prop where
  pairs : pairs2 (pairOk q l pm) (absd ++ rest) = true
  aok : aOk l pm rest = true
  cov : ∀ i, i < l.length → i ∈ absd ++ rest
  bnd : ∀ i ∈ absd ++ rest, i < l.length
  nd : (absd ++ rest).Nodup
  ones : l.all (oneOk C fr.length) = true
  irr : ∀ i ∈ absd ++ rest, bef pm i i = false
  ls : listed.size = l.length
  xin : ∀ i ∈ absd, isF (opAt l i) = false → listed[i]? = some true
  xout : ∀ i ∈ rest, isA (opAt l i) = false → listed[i]? = some false
  back : ∀ j, listed[j]? = some true → ∀ i, bef pm i j = true → listed[i]? = some true
  vc : vcL C call l.toArray (sel l rest) fr bl ch k
  sz : a.tmps.size = fr.length
  df : a.defers = []
  slot : ∀ t, (∀ i ∈ absd, (opAt l i).dst = some t → listed[i]? = some true) → (∀ i ∈ rest, (opAt l i).dst = some t → listed[i]? = some false) → yof a t = den ids (nth fr t)
  old : ∀ i ∈ absd, listed[i]? = some false → ∀ t, (opAt l i).dst = some t → yof a t = den ids (nth fr0 t)
  nth0 : ∀ t, (∀ i ∈ absd, (opAt l i).dst ≠ some t) → nth fr t = nth fr0 t
  recs : ∀ i ∈ absd, listed[i]? = some false → ∃ frj v b, Rec C l pm fr0 fr bl i frj v b
  zin : ∀ i ∈ rest, listed[i]? = some true → ∃ b t z d, (i, (⟨b, true, .cells (denC [] z).toArray t (0, 0)⟩ : Blk)) ∈ Z ∧ (opAt l i).op = .alloc t ∧ zeroT C.P t = some z ∧ (opAt l i).dst = some d ∧ yof a d = .pointer (some ⟨b, 0, none⟩)
  zout : ∀ p ∈ Z, p.1 ∈ rest ∧ listed[p.1]? = some true
  znd : (Z.map (·.1)).Nodup
  S : St ms w0 (lits ids ids bl ++ nestB ch (Z.map (·.2) ++ R)) w
  hl : ids.length = bl.length
  gl : Gl C.gl ids
  wf0 : wfL ids.length fr0 = true
  idp : ∃ m, ids = ids0 ++ m
section
variable {C : Ctx G} {call : CallK G} {q : Nat → Bool} {l : List Oper} {pm : List Nat} {R : List Blk} {ms : List Nat} {w0 : World} {k : FrK G} {fr0 fr : List V} {ids0 : List Nat}
  {absd rest : List Nat} {ids : List Nat} {bl : List VB} {ch : List G} {Z : List (Nat × Blk)} {listed : Array Bool} {a : Act} {w : World} {Q : Exit → Act → World → Prop}
theorem setV_len : ∀ (fr : List V) (t : Nat) (x : V), (setV fr t x).length = fr.length
  | [], _, _ => rfl
  | _ :: _, 0, _ => rfl
  | _ :: l, t + 1, x => by simp [setV_nil, setV_zero, setV_succ, setV_len l t x]
theorem put_len (d : Option Tmp) (x : V) : (put fr d x).length = fr.length := by cases d <;> simp [put, setV_len]
theorem nth_setV : ∀ (fr : List V) (t u : Nat) (x : V), t < fr.length → nth (setV fr t x) u = if u = t then x else nth fr u
  | [], t, u, x, h => by simp at h
  | v :: l, 0, 0, x, _ => by simp [setV_nil, setV_zero, setV_succ, nth_nil, nth_zero, nth_succ]
  | v :: l, 0, u + 1, x, _ => by simp [setV_nil, setV_zero, setV_succ, nth_nil, nth_zero, nth_succ]
  | v :: l, t + 1, 0, x, _ => by simp [setV_nil, setV_zero, setV_succ, nth_nil, nth_zero, nth_succ]
  | v :: l, t + 1, u + 1, x, h => by simp [setV_nil, setV_zero, setV_succ, nth_nil, nth_zero, nth_succ, nth_setV l t u x (by simpa using h)]
theorem nth_put {d : Option Tmp} {x : V} (t : Tmp) (hd : ∀ u, d = some u → u < fr.length) : (d = some t → nth (put fr d x) t = x) ∧ (d ≠ some t → nth (put fr d x) t = nth fr t) := by
  cases d with
  | none => exact ⟨fun h => (nomatch h), fun _ => rfl⟩
  | some u =>
    refine ⟨fun h => ?_, fun h => ?_⟩
    · cases h; simp only [put]; rw [nth_setV _ _ _ _ (hd _ rfl), if_pos rfl]
    · simp only [put]; rw [nth_setV _ _ _ _ (hd u rfl), if_neg (fun e => h (by rw [e]))]
theorem one_at {n : Nat} (h : l.all (oneOk C n) = true) {i : Nat} {o : Oper} (ho : l[i]? = some o) : (∀ t, o.dst = some t → t < n) ∧ (∀ cs b, o.op ≠ .select cs b) ∧
    (isA o = true → o.guard = none ∧ ∃ d t z, o.dst = some d ∧ o.op = .alloc t ∧ zeroT C.P t = some z) := by
  have h1 := List.all_eq_true.1 h o (List.mem_of_getElem? ho)
  unfold oneOk at h1
  simp only [Bool.and_eq_true] at h1
  obtain ⟨⟨a1, a2⟩, a3⟩ := h1
  refine ⟨?_, ?_, ?_⟩
  · intro t ht; rw [ht] at a1; rw [Nat.blt_eq] at a1; exact a1
  · intro cs b e; rw [e] at a2; cases a2
  · intro ha
    rw [ha] at a3
    simp only [cond_true] at a3
    split at a3
    · rename_i d t hg hd ho
      split at a3
      · rename_i z hz; exact ⟨hg, d, t, z, hd, ho, hz⟩
      · cases a3
    · cases a3
namespace DI
theorem at_ (D : DI C call q l pm R ms w0 k fr0 ids0 absd rest fr ids bl ch Z listed a w) {i : Nat} (h : i ∈ absd ++ rest) : l[i]? = some (opAt l i) := by
  have := D.bnd i h
  rw [List.getElem?_eq_getElem this]
  rw [opAt_some (List.getElem?_eq_getElem this)]
theorem mem_of (D : DI C call q l pm R ms w0 k fr0 ids0 absd rest fr ids bl ch Z listed a w) {i t : Nat} (h : (opAt l i).dst = some t) : i ∈ absd ++ rest := by
  have := opAt_dst h
  exact D.cov i (by rcases Nat.lt_or_ge i l.length with h' | h'; exact h'; simp [h'] at this)
theorem bit (D : DI C call q l pm R ms w0 k fr0 ids0 absd rest fr ids bl ch Z listed a w) {i : Nat} (h : i ∈ absd ++ rest) : listed[i]? = some true ∨ listed[i]? = some false := bool_at D.ls (D.bnd i h)
theorem uniq (D : DI C call q l pm R ms w0 k fr0 ids0 absd rest fr ids bl ch Z listed a w) {i j t : Nat} (hi : (opAt l i).dst = some t) (hj : (opAt l j).dst = some t) : i = j := by
  refine Classical.byContradiction fun hne => ?_
  rcases pairs2_ne D.pairs i (D.mem_of hi) j (D.mem_of hj) hne with h | h
  · exact (pairP h).ww t hi hj
  · exact (pairP h).ww t hj hi
theorem ahead (D : DI C call q l pm R ms w0 k fr0 ids0 absd rest fr ids bl ch Z listed a w) {i j : Nat} (hi : i ∈ absd) (hj : j ∈ rest) : PairP q l pm i j := pairP ((pairs2_app D.pairs).1 i hi j hj)
theorem apart (D : DI C call q l pm R ms w0 k fr0 ids0 absd rest fr ids bl ch Z listed a w) {i : Nat} (hi : i ∈ absd) (hj : i ∈ rest) : False := (List.nodup_append.1 D.nd).2.2 i hi i hj rfl
theorem look_rec (D : DI C call q l pm R ms w0 k fr0 ids0 absd rest fr ids bl ch Z listed a w) {i : Nat} (hi : i ∈ absd) (hu : listed[i]? = some false) (hp : ∀ h, bef pm h i = true → listed[h]? = some true) {frj : List V} {v : V} {b : Bool}
    (r : Rec C l pm fr0 fr bl i frj v b) : ∀ t ∈ looks l i, yof a t = den ids (nth frj t) := by
  intro t ht
  by_cases hw : ∃ h, (opAt l h).dst = some t
  · obtain ⟨h, hd⟩ := hw
    cases hb : bef pm h i with
    | true =>
      rw [r.w1 t ht h hd hb]
      refine D.slot t ?_ ?_
      · intro i' hi' hd'; rw [D.uniq hd' hd]; exact hp h hb
      · intro i' hi' hd'
        have := (D.ahead hi (D.uniq hd' hd ▸ hi')).nb t hd ht
        rw [hb] at this; cases this
    | false =>
      rw [r.w0 t ht (fun h' hd' => by rw [D.uniq hd' hd]; exact hb)]
      by_cases he : h = i
      · subst he; exact D.old h hi hu t hd
      · have hm := D.mem_of hd
        have hbi : bef pm i h = true := by
          rcases pairs2_ne D.pairs h hm i (by simp [hi]) he with p | p
          · have := (pairP p).wi t hd ht; rw [hb] at this; cases this
          · exact (pairP p).wj t hd ht
        have hun : listed[h]? = some false := by
          rcases D.bit hm with e | e
          · have := D.back h e i hbi; rw [hu] at this; cases this
          · exact e
        rcases List.mem_append.1 hm with hm | hm
        · exact D.old h hm hun t hd
        · rw [← D.nth0 t (fun i' hi' hd' => D.apart hi' (D.uniq hd' hd ▸ hm))]
          refine D.slot t ?_ ?_
          · intro i' hi' hd'; exact (D.apart hi' (D.uniq hd' hd ▸ hm)).elim
          · intro i' hi' hd'; rw [D.uniq hd' hd]; exact hun
  · rw [r.w0 t ht (fun h hd => (hw ⟨h, hd⟩).elim), ← D.nth0 t (fun i' _ hd' => hw ⟨i', hd'⟩)]
    exact D.slot t (fun i' _ hd' => (hw ⟨i', hd'⟩).elim) (fun i' _ hd' => (hw ⟨i', hd'⟩).elim)
theorem look_head (D : DI C call q l pm R ms w0 k fr0 ids0 absd rest fr ids bl ch Z listed a w) {i : Nat} {r : List Nat} (hr : rest = i :: r) (hu : listed[i]? = some false) (hp : ∀ h, bef pm h i = true → listed[h]? = some true) :
    ∀ t ∈ looks l i, yof a t = den ids (nth fr t) := by
  intro t ht
  refine D.slot t ?_ ?_
  · intro h hh hd
    exact hp h ((D.ahead hh (by rw [hr]; simp)).wi t hd ht)
  · intro h hh hd
    rcases D.bit (i := h) (by simp [hh]) with e | e
    · exfalso
      rw [hr] at hh
      rcases List.mem_cons.1 hh with rfl | hh
      · rw [hu] at e; cases e
      · have hp2 := (pairs2_app D.pairs).2.2
        rw [hr] at hp2
        simp only [pairs2, Bool.and_eq_true, List.all_eq_true] at hp2
        have := (pairP (hp2.1 h hh)).wj t hd ht
        have := D.back h e i this
        rw [hu] at this; cases this
    · exact e
end DI
end
end Vx
noncomputable section
namespace Vx
open Go Go.RowKit Go.BigFrame Sx
variable {G : Type} [Bl G]
section
variable {C : Ctx G} {call : CallK G} {q : Nat → Bool} {l : List Oper} {pm : List Nat} {R : List Blk} {ms : List Nat} {w0 : World} {k : FrK G} {fr0 fr : List V} {ids0 : List Nat}
  {absd rest : List Nat} {ids : List Nat} {bl : List VB} {ch : List G} {Z : List (Nat × Blk)} {listed : Array Bool} {a : Act} {w : World} {Q : Exit → Act → World → Prop}
theorem set_get {i j : Nat} {b : Bool} (hi : i < listed.size) : (listed.setIfInBounds i true)[j]? = some b ↔ (j = i ∧ b = true) ∨ (j ≠ i ∧ listed[j]? = some b) := by
  rw [Array.getElem?_setIfInBounds]
  by_cases h : i = j
  · subst h; simp [hi]
  · rw [if_neg h]; constructor
    · intro e; exact .inr ⟨fun x => h x.symm, e⟩
    · rintro (⟨e, _⟩ | ⟨_, e⟩)
      · exact absurd e.symm h
      · exact e
theorem yof_put2 {a : Act} {d : Option Tmp} {v : Value} (hd : ∀ u, d = some u → u < a.tmps.size) (t : Tmp) : (d = some t → yof (a.put d v) t = v) ∧ (d ≠ some t → yof (a.put d v) t = yof a t) := by
  cases d with
  | none => exact ⟨fun h => (nomatch h), fun _ => rfl⟩
  | some u =>
    refine ⟨fun h => ?_, fun h => ?_⟩
    · cases h; rw [yof_put _ _ _ _ (hd _ rfl), if_pos rfl]
    · rw [yof_put _ _ _ _ (hd u rfl), if_neg (fun e => h (by rw [e]))]
namespace DI
theorem did (D : DI C call q l pm R ms w0 k fr0 ids0 absd rest fr ids bl ch Z listed a w) {i : Nat} (hi : i ∈ absd) (hu : listed[i]? = some false) (hp : ∀ h, bef pm h i = true → listed[h]? = some true) {frj : List V} {v : V} {b : Bool}
    (r : Rec C l pm fr0 fr bl i frj v b) : DI C call q l pm R ms w0 k fr0 ids0 absd rest fr ids bl ch Z (listed.setIfInBounds i true) (a.put (opAt l i).dst (den ids v)) w := by
  have hil : i < listed.size := by rw [D.ls]; exact D.bnd i (by simp [hi])
  have sg := fun j b => set_get (listed := listed) (j := j) (b := b) hil
  have hd : ∀ u, (opAt l i).dst = some u → u < a.tmps.size := fun u hu => by rw [D.sz]; exact (one_at D.ones (D.at_ (by simp [hi]))).1 u hu
  have yp := yof_put2 (v := den ids v) hd
  refine { D with ls := by simpa using D.ls, xin := ?_, xout := ?_, back := ?_, sz := by rw [size_put]; exact D.sz, df := by rw [defers_put]; exact D.df, slot := ?_, old := ?_, recs := ?_, zin := ?_, zout := fun p hp => ⟨(D.zout p hp).1, (sg _ _).2 (.inr ⟨fun e => D.apart hi (e ▸ (D.zout p hp).1), (D.zout p hp).2⟩)⟩ }
  · intro j hj hf; exact (sg _ _).2 (by by_cases e : j = i; exact .inl ⟨e, rfl⟩; exact .inr ⟨e, D.xin j hj hf⟩)
  · intro j hj hf; exact (sg _ _).2 (.inr ⟨fun e => D.apart hi (e ▸ hj), D.xout j hj hf⟩)
  · intro j hj h hb
    refine (sg _ _).2 ?_
    rcases (sg _ _).1 hj with ⟨rfl, _⟩ | ⟨hne, hj⟩
    · by_cases e : h = j
      · exact .inl ⟨e, rfl⟩
      · exact .inr ⟨e, hp h hb⟩
    · by_cases e : h = i
      · exact .inl ⟨e, rfl⟩
      · exact .inr ⟨e, D.back j hj h hb⟩
  · intro t h1 h2
    by_cases e : (opAt l i).dst = some t
    · rw [(yp t).1 e, r.val t e]
    · rw [(yp t).2 e]
      refine D.slot t ?_ ?_
      · intro j hj hd'
        rcases (sg _ _).1 (h1 j hj hd') with ⟨rfl, _⟩ | ⟨_, h⟩
        · exact absurd hd' e
        · exact h
      · intro j hj hd'
        rcases (sg _ _).1 (h2 j hj hd') with ⟨_, h⟩ | ⟨_, h⟩
        · cases h
        · exact h
  · intro j hj hlj t ht
    rcases (sg _ _).1 hlj with ⟨_, h⟩ | ⟨hne, h⟩
    · cases h
    · rw [(yp t).2 (fun e => hne (D.uniq ht e))]
      exact D.old j hj h t ht
  · intro j hj hlj
    rcases (sg _ _).1 hlj with ⟨_, h⟩ | ⟨hne, h⟩
    · cases h
    · exact D.recs j hj h
  · intro j hj hlj
    rcases (sg _ _).1 hlj with ⟨rfl, _⟩ | ⟨hne, h⟩
    · exact (D.apart hi hj).elim
    · obtain ⟨b, t, z, d, h1, h2, h3, h4, h5⟩ := D.zin j hj h
      exact ⟨b, t, z, d, h1, h2, h3, h4, by rw [(yp d).2 (fun e => hne (D.uniq h4 e))]; exact h5⟩
theorem nestB_perm (b : Blk) (X : List Blk) : ∀ ch : List G, (b :: nestB ch X).Perm (nestB ch (b :: X))
  | [] => List.Perm.refl _
  | c :: ch => by
    simp only [nestB]
    exact (List.perm_middle.symm).trans (List.Perm.append_left (Bl.B c) (nestB_perm b X ch))
theorem zeroT_den {P : Program} {t : TypeId} {z : List V} (h : zeroT P t = some z) (ids : List Nat) : denC ids z = denC [] z := by
  unfold zeroT at h
  split at h
  · split at h
    · rename_i v hv
      simp only [Option.some.injEq] at h
      subst h
      rw [zCut_den, zCut_den]
      cases v <;> simp [ofVal, cellsV, denC, cl, den, denC_ofS]
    · cases h
  · cases h
theorem alloced (D : DI C call q l pm R ms w0 k fr0 ids0 absd rest fr ids bl ch Z listed a w) {i d : Nat} {t : TypeId} {z : List V} (hi : i ∈ rest) (hu : listed[i]? = some false) (hp : ∀ h, bef pm h i = true → listed[h]? = some true)
    (ho : (opAt l i).op = .alloc t) (hz : zeroT C.P t = some z) (hd : (opAt l i).dst = some d) :
    DI C call q l pm R ms w0 k fr0 ids0 absd rest fr ids bl ch ((i, ⟨w.heap.size, true, .cells (denC [] z).toArray t (0, 0)⟩) :: Z) (listed.setIfInBounds i true) (a.put (opAt l i).dst (.pointer (some ⟨w.heap.size, 0, none⟩))) (w.alloc (.cells (denC [] z).toArray t)) := by
  have hil : i < listed.size := by rw [D.ls]; exact D.bnd i (by simp [hi])
  have sg := fun j b => set_get (listed := listed) (j := j) (b := b) hil
  have hdl : ∀ u, (opAt l i).dst = some u → u < a.tmps.size := fun u hu => by rw [D.sz]; exact (one_at D.ones (D.at_ (by simp [hi]))).1 u hu
  have yp := yof_put2 (v := (.pointer (some ⟨w.heap.size, 0, none⟩) : Value)) hdl
  have hA : isA (opAt l i) = true := by simp [isA, clO, ho]
  have hF : isF (opAt l i) = false := by simp [isF, clO, ho]
  refine { D with ls := by simpa using D.ls, xin := ?_, xout := ?_, back := ?_, sz := by rw [size_put]; exact D.sz, df := by rw [defers_put]; exact D.df, slot := ?_, old := ?_, recs := ?_, zin := ?_, zout := ?_, znd := ?_, S := ?_ }
  · intro j hj hf; exact (sg _ _).2 (by by_cases e : j = i; exact .inl ⟨e, rfl⟩; exact .inr ⟨e, D.xin j hj hf⟩)
  · intro j hj hf; exact (sg _ _).2 (.inr ⟨fun e => (by rw [e, hA] at hf; cases hf), D.xout j hj hf⟩)
  · intro j hj h hb
    refine (sg _ _).2 ?_
    rcases (sg _ _).1 hj with ⟨rfl, _⟩ | ⟨hne, hj⟩
    · by_cases e : h = j
      · exact .inl ⟨e, rfl⟩
      · exact .inr ⟨e, hp h hb⟩
    · by_cases e : h = i
      · exact .inl ⟨e, rfl⟩
      · exact .inr ⟨e, D.back j hj h hb⟩
  · intro t h1 h2
    by_cases e : (opAt l i).dst = some t
    · rcases (sg _ _).1 (h2 i hi e) with ⟨_, h⟩ | ⟨h, _⟩
      · cases h
      · exact absurd rfl h
    · rw [(yp t).2 e]
      refine D.slot t ?_ ?_
      · intro j hj hd'
        rcases (sg _ _).1 (h1 j hj hd') with ⟨rfl, _⟩ | ⟨_, h⟩
        · exact absurd hd' e
        · exact h
      · intro j hj hd'
        rcases (sg _ _).1 (h2 j hj hd') with ⟨_, h⟩ | ⟨_, h⟩
        · cases h
        · exact h
  · intro j hj hlj t ht
    rcases (sg _ _).1 hlj with ⟨_, h⟩ | ⟨hne, h⟩
    · cases h
    · rw [(yp t).2 (fun e => hne (D.uniq ht e))]
      exact D.old j hj h t ht
  · intro j hj hlj
    rcases (sg _ _).1 hlj with ⟨_, h⟩ | ⟨hne, h⟩
    · cases h
    · exact D.recs j hj h
  · intro j hj hlj
    rcases (sg _ _).1 hlj with ⟨rfl, _⟩ | ⟨hne, h⟩
    · exact ⟨_, _, _, _, List.mem_cons_self .., ho, hz, hd, (yp d).1 hd⟩
    · obtain ⟨b, t, z, d, h1, h2, h3, h4, h5⟩ := D.zin j hj h
      exact ⟨b, t, z, d, List.mem_cons_of_mem _ h1, h2, h3, h4, by rw [(yp d).2 (fun e => hne (D.uniq h4 e))]; exact h5⟩
  · intro p hp
    rcases List.mem_cons.1 hp with rfl | hp
    · exact ⟨hi, (sg _ _).2 (.inl ⟨rfl, rfl⟩)⟩
    · exact ⟨(D.zout p hp).1, (sg _ _).2 (by by_cases e : p.1 = i; exact .inl ⟨e, rfl⟩; exact .inr ⟨e, (D.zout p hp).2⟩)⟩
  · simp only [List.map_cons, List.nodup_cons]
    refine ⟨?_, D.znd⟩
    intro hm
    obtain ⟨p, hp, e⟩ := List.mem_map.1 hm
    have := (D.zout p hp).2
    rw [e, hu] at this; cases this
  · have h := D.S.new (Ch.alloc [] w (.cells (denC [] z).toArray t)) (Nat.le_refl _) (heap_alloc_new w _)
    refine h.perm ?_
    simp only [List.map_cons, List.cons_append]
    exact (List.perm_middle.symm).trans (List.Perm.append_left _ (nestB_perm _ _ _))
end DI
end
end Vx
noncomputable section
namespace Vx
open Go Go.RowKit Go.BigFrame Sx
variable {G : Type} [Bl G]
mutual
theorem wfV_mono {n m : Nat} (hnm : n ≤ m) : ∀ v : V, wfV n v = true → wfV m v = true
  | .int _ _, _ => by simp [wfV]
  | .bool _, _ => by simp [wfV]
  | .ptr i _, h => by simp only [wfV, Nat.blt_eq] at h ⊢; omega
  | .sl i _ _ _, h => by simp only [wfV, Nat.blt_eq] at h ⊢; omega
  | .osl i _ _ _ _, h => by simp only [wfV, Nat.blt_eq] at h ⊢; omega
  | .fn _ a b, h => by simp only [wfV, Bool.and_eq_true] at h ⊢; exact ⟨wfL_mono hnm a h.1, wfL_mono hnm b h.2⟩
  | .ifc _ v, h => by simp only [wfV] at h ⊢; exact wfV_mono hnm v h
  | .agg l, h => by simp only [wfV] at h ⊢; exact wfL_mono hnm l h
  | .tup l, h => by simp only [wfV] at h ⊢; exact wfL_mono hnm l h
  | .byt _ _ _, _ => by simp [wfV]
  | .arr _ _ _, _ => by simp [wfV]
  | .pol _ _ _ _, _ => by simp [wfV]
  | .rest _, _ => by simp [wfV]
  | .rowp _ _ _, _ => by simp [wfV]
  | .pe i _ _ _ _, h => by simp only [wfV, Nat.blt_eq] at h ⊢; omega
  | .raw _, _ => by simp [wfV]
theorem wfL_mono {n m : Nat} (hnm : n ≤ m) : ∀ l : List V, wfL n l = true → wfL m l = true
  | [], _ => by simp [wfL]
  | v :: l, h => by simp only [wfL, Bool.and_eq_true] at h ⊢; exact ⟨wfV_mono hnm v h.1, wfL_mono hnm l h.2⟩
end
theorem wf_nth {n : Nat} : ∀ {fr : List V} (t : Nat), wfL n fr = true → wfV n (nth fr t) = true
  | [], _, _ => by simp [nth_nil, nth_zero, nth_succ, undefV, wfV]
  | v :: l, 0, h => by simp only [wfL, Bool.and_eq_true] at h; exact h.1
  | v :: l, t + 1, h => by simp only [wfL, Bool.and_eq_true] at h; exact wf_nth t h.2
theorem ldV_app {P : Program} {bl e : List VB} {t : TypeId} {x v : V} (h : ldV P bl t x = some v) : ldV P (bl ++ e) t x = some v := by
  unfold ldV at h ⊢
  split at h
  · rename_i i off
    split at h
    · rename_i b hb
      have hi : i < bl.length := by rcases Nat.lt_or_ge i bl.length with h' | h'; exact h'; simp [h'] at hb
      simp only [List.getElem?_append_left hi, hb]
      exact h
    · cases h
  · cases h
theorem LdS_app {P : Program} {bl e : List VB} {t : TypeId} {x v : V} (h : LdS P bl t x v) : LdS P (bl ++ e) t x v := by
  rcases h with h | ⟨p, h, hp⟩
  · exact .inl (ldV_app h)
  · exact .inr ⟨p, hfL_app h, hp⟩
theorem nestB_perm2 {X Y : List Blk} (h : X.Perm Y) : ∀ ch : List G, (nestB ch X).Perm (nestB ch Y)
  | [] => h
  | c :: ch => List.Perm.append_left (Bl.B c) (nestB_perm2 h ch)
section
variable {C : Ctx G} {call : CallK G} {q : Nat → Bool} {l : List Oper} {pm : List Nat} {R : List Blk} {ms : List Nat} {w0 : World} {k : FrK G} {fr0 fr : List V} {ids0 : List Nat}
  {absd rest : List Nat} {ids : List Nat} {bl : List VB} {ch : List G} {Z : List (Nat × Blk)} {listed : Array Bool} {a : Act} {w : World} {Q : Exit → Act → World → Prop}
theorem vc_guard {o : Oper} {L : List Oper} (h : vcL C call l.toArray (o :: L) fr bl ch k) : ∃ b, gOK l fr o b ∧ (if b then stepO C call o fr bl ch (fun fr bl ch => vcL C call l.toArray L fr bl ch k) else vcL C call l.toArray L (put fr o.dst undefV) bl ch k) := by
  simp only [vcL] at h
  unfold gOK
  split at h
  · rename_i hg; (try rw [hg]); exact ⟨true, rfl, h⟩
  · rename_i j want hg
    try rw [hg]
    split at h
    · exact h.elim
    · rename_i t hd
      split at h
      · rename_i c hc
        have hs := setV_nth fr t
        rw [hc] at hs
        refine ⟨c == want, ⟨t, hd, .inl ⟨c, hc, rfl⟩⟩, ?_⟩
        cases c <;> (rw [hs] at h; cases want <;> exact h)
      · rename_i vs hc
        exact ⟨false, ⟨t, hd, .inr ⟨vs, hc, rfl⟩⟩, h⟩
      · exact h.elim
theorem Rec.frame {i : Nat} {frj : List V} {v : V} {b : Bool} (r : Rec C l pm fr0 fr bl i frj v b) {fr' : List V} {bl' : List VB}
    (h1 : ∀ t ∈ looks l i, ∀ h, (opAt l h).dst = some t → bef pm h i = true → nth fr' t = nth fr t) (h2 : ∀ d, (opAt l i).dst = some d → nth fr' d = nth fr d)
    (h3 : ∀ t x v, (opAt l i).op = .load t x → LdS C.P bl t (ev C.gl frj x) v → LdS C.P bl' t (ev C.gl frj x) v) : Rec C l pm fr0 fr' bl' i frj v b := by
  refine ⟨fun t ht h hd hb => (r.w1 t ht h hd hb).trans (h1 t ht h hd hb).symm, r.w0, fun d hd => (h2 d hd).trans (r.val d hd), r.g, ?_⟩
  have e := r.e
  cases b with
  | false => exact e
  | true =>
    rcases e with e | ⟨t, x, ho, e⟩
    · exact .inl e
    · exact .inr ⟨t, x, ho, h3 t x v ho e⟩
namespace DI
theorem absorbF {i : Nat} {r : List Nat} (D : DI C call q l pm R ms w0 k fr0 ids0 absd (i :: r) fr ids bl ch Z listed a w) (hf : isF (opAt l i) = true) : ∃ fr', DI C call q l pm R ms w0 k fr0 ids0 (absd ++ [i]) r fr' ids bl ch Z listed a w := by
  have happ : (absd ++ [i]) ++ r = absd ++ (i :: r) := by simp
  have hA : isA (opAt l i) = false := by rcases cl_cases (opAt l i) with h | h | h <;> simp_all
  have hu : listed[i]? = some false := D.xout i (by simp) hA
  have ho := D.at_ (i := i) (by simp)
  have hdl := (one_at D.ones ho).1
  obtain ⟨b, hg, hb⟩ := vc_guard D.vc
  obtain ⟨v, hv, hvc⟩ : ∃ v, (if b then EvS C bl fr (opAt l i) v else v = undefV) ∧ vcL C call l.toArray (sel l r) (put fr (opAt l i).dst v) bl ch k := by
    cases b with
    | true => rw [if_pos rfl] at hb; exact f_evS hf hb
    | false => rw [if_neg (by simp)] at hb; exact ⟨undefV, rfl, hb⟩
  have np := fun t => nth_put (fr := fr) (x := v) t hdl
  have hni : ∀ {j}, j ∈ absd → j ≠ i := fun hj e => D.apart hj (by rw [e]; simp)
  refine ⟨put fr (opAt l i).dst v, { D with pairs := by rw [happ]; exact D.pairs, aok := ?_, cov := by rw [happ]; exact D.cov, bnd := by rw [happ]; exact D.bnd, nd := by rw [happ]; exact D.nd, ones := by rw [put_len]; exact D.ones, irr := by rw [happ]; exact D.irr, xin := ?_, xout := fun j hj => D.xout j (by simp [hj]), vc := hvc, sz := by rw [put_len]; exact D.sz, slot := ?_, old := ?_, nth0 := ?_, recs := ?_, zin := fun j hj => D.zin j (by simp [hj]), zout := ?_ }⟩
  · have := D.aok; simp only [aOk, Bool.and_eq_true] at this; exact this.2
  · intro j hj hfj
    rcases List.mem_append.1 hj with hj | hj
    · exact D.xin j hj hfj
    · obtain rfl : j = i := by simpa using hj
      rw [hf] at hfj; cases hfj
  · intro t h1 h2
    by_cases e : (opAt l i).dst = some t
    · have := h1 i (by simp) e; rw [hu] at this; cases this
    · rw [(np t).2 e]
      refine D.slot t (fun j hj => h1 j (by simp [hj])) ?_
      intro j hj hd
      rcases List.mem_cons.1 hj with rfl | hj
      · exact absurd hd e
      · exact h2 j hj hd
  · intro j hj hlj t ht
    rcases List.mem_append.1 hj with hj | hj
    · exact D.old j hj hlj t ht
    · obtain rfl : j = i := by simpa using hj
      rw [← D.nth0 t (fun h hh hd => hni hh (D.uniq hd ht))]
      refine D.slot t (fun h hh hd => (hni hh (D.uniq hd ht)).elim) ?_
      intro h hh hd; rw [D.uniq hd ht]; exact hu
  · intro t h
    rw [(np t).2 (h i (by simp))]
    exact D.nth0 t (fun j hj => h j (by simp [hj]))
  · intro j hj hlj
    rcases List.mem_append.1 hj with hj | hj
    · obtain ⟨frj, v', b', rr⟩ := D.recs j hj hlj
      refine ⟨frj, v', b', rr.frame ?_ ?_ (fun _ _ _ _ h => h)⟩
      · intro t ht h hd hbf
        refine (np t).2 (fun e => ?_)
        have := (D.ahead hj (show i ∈ i :: r by simp)).nb t e ht
        rw [D.uniq hd e] at hbf
        rw [hbf] at this; cases this
      · intro d hd; exact (np d).2 (fun e => hni hj (D.uniq hd e))
    · obtain rfl : j = i := by simpa using hj
      refine ⟨fr, v, b, ⟨?_, ?_, fun d hd => (np d).1 hd, hg, hv⟩⟩
      · intro t ht h hd hbf
        refine ((np t).2 (fun e => ?_)).symm
        rw [D.uniq hd e, D.irr j (by simp)] at hbf; cases hbf
      · intro t ht hno
        exact D.nth0 t (fun h hh hd => by
          have := (D.ahead hh (show j ∈ j :: r by simp)).wi t hd ht
          rw [hno h hd] at this; cases this)
  · intro p hp
    obtain ⟨h1, h2⟩ := D.zout p hp
    rcases List.mem_cons.1 h1 with e | h1
    · rw [e, hu] at h2; cases h2
    · exact ⟨h1, h2⟩
theorem absorbFs : ∀ (r : List Nat) {absd : List Nat} {fr : List V}, DI C call q l pm R ms w0 k fr0 ids0 absd r fr ids bl ch Z listed a w → ∃ absd' r' fr', DI C call q l pm R ms w0 k fr0 ids0 absd' r' fr' ids bl ch Z listed a w ∧ (r' = [] ∨ ∃ i s, r' = i :: s ∧ isF (opAt l i) = false)
  | [], absd, fr, D => ⟨absd, [], fr, D, .inl rfl⟩
  | i :: r, absd, fr, D => by
    cases hf : isF (opAt l i) with
    | false => exact ⟨absd, i :: r, fr, D, .inr ⟨i, r, rfl, hf⟩⟩
    | true =>
      obtain ⟨fr', D'⟩ := D.absorbF hf
      exact absorbFs r D'
theorem absorbA {i : Nat} {r : List Nat} (D : DI C call q l pm R ms w0 k fr0 ids0 absd (i :: r) fr ids bl ch Z listed a w) (ha : isA (opAt l i) = true) (hi : listed[i]? = some true) : ∃ fr' ids' bl' Z', DI C call q l pm R ms w0 k fr0 ids0 (absd ++ [i]) r fr' ids' bl' ch Z' listed a w := by
  have happ : (absd ++ [i]) ++ r = absd ++ (i :: r) := by simp
  have ho := D.at_ (i := i) (by simp)
  have hdl := (one_at D.ones ho).1
  obtain ⟨hgd, _⟩ := (one_at D.ones ho).2.2 ha
  obtain ⟨b, t, z, d, hz, hop, hzt, hd, hy⟩ := D.zin i (by simp) hi
  obtain ⟨Z1, Z2, rfl⟩ := List.append_of_mem hz
  have hvc := D.vc
  simp only [sel, List.map_cons, vcL, hgd, stepO, hop, hfN, evQ, evNew, hzt] at hvc
  cases hq : wfL bl.length fr && (wfB bl.length bl && wfL bl.length z) with
  | false => rw [hq] at hvc; exact hvc.elim
  | true =>
    rw [hq] at hvc
    simp only [Bool.and_eq_true, ← D.hl] at hq
    have hvc : vcL C call l.toArray (sel l r) (put fr (opAt l i).dst (.ptr bl.length 0)) (bl ++ [⟨true, t, z⟩]) ch k := hvc
    have np := fun t => nth_put (fr := fr) (x := V.ptr bl.length 0) t hdl
    have hni : ∀ {j}, j ∈ absd → j ≠ i := fun hj e => D.apart hj (by rw [e]; simp)
    refine ⟨_, ids ++ [b], _, Z1 ++ Z2, { D with pairs := by rw [happ]; exact D.pairs, aok := ?_, cov := by rw [happ]; exact D.cov, bnd := by rw [happ]; exact D.bnd, nd := by rw [happ]; exact D.nd, ones := by rw [put_len]; exact D.ones, irr := by rw [happ]; exact D.irr, xin := ?_, xout := fun j hj => D.xout j (by simp [hj]), vc := hvc, sz := by rw [put_len]; exact D.sz, slot := ?_, old := ?_, nth0 := ?_, recs := ?_, zin := ?_, zout := ?_, znd := ?_, S := ?_, hl := by simp [D.hl], gl := D.gl.app _, wf0 := wfL_mono (by simp) _ D.wf0, idp := by obtain ⟨m, e⟩ := D.idp; exact ⟨m ++ [b], by rw [e, List.append_assoc]⟩ }⟩
    · have := D.aok; simp only [aOk, Bool.and_eq_true] at this; exact this.2
    · intro j hj hfj
      rcases List.mem_append.1 hj with hj | hj
      · exact D.xin j hj hfj
      · obtain rfl : j = i := by simpa using hj
        exact hi
    · intro u h1 h2
      by_cases e : (opAt l i).dst = some u
      · rw [(np u).1 e]
        obtain rfl : d = u := by rw [hd] at e; simpa using e
        rw [hy]
        simp only [den, ← D.hl, getD_last]
      · rw [(np u).2 e, den_app _ (wf_nth u hq.1)]
        refine D.slot u (fun j hj => h1 j (by simp [hj])) ?_
        intro j hj hd'
        rcases List.mem_cons.1 hj with rfl | hj
        · exact absurd hd' e
        · exact h2 j hj hd'
    · intro j hj hlj u hu
      rcases List.mem_append.1 hj with hj | hj
      · rw [den_app _ (wf_nth u D.wf0)]; exact D.old j hj hlj u hu
      · obtain rfl : j = i := by simpa using hj
        rw [hi] at hlj; cases hlj
    · intro u h
      rw [(np u).2 (h i (by simp))]
      exact D.nth0 u (fun j hj => h j (by simp [hj]))
    · intro j hj hlj
      rcases List.mem_append.1 hj with hj | hj
      · obtain ⟨frj, v', b', rr⟩ := D.recs j hj hlj
        refine ⟨frj, v', b', rr.frame ?_ ?_ (fun _ _ _ _ h => LdS_app h)⟩
        · intro u hu h hd hbf
          refine (np u).2 (fun e => ?_)
          have := (D.ahead hj (show i ∈ i :: r by simp)).nb u e hu
          rw [D.uniq hd e] at hbf
          rw [hbf] at this; cases this
        · intro u hd; exact (np u).2 (fun e => hni hj (D.uniq hd e))
      · obtain rfl : j = i := by simpa using hj
        rw [hi] at hlj; cases hlj
    · intro j hj hlj
      obtain ⟨b', t', z', d', h1, h2⟩ := D.zin j (by simp [hj]) hlj
      refine ⟨b', t', z', d', ?_, h2⟩
      rcases List.mem_append.1 h1 with h1 | h1
      · simp [h1]
      · rcases List.mem_cons.1 h1 with e | h1
        · exfalso
          have : j = i := by simpa using congrArg Prod.fst e
          have hn := (List.nodup_append.1 D.nd).2.1
          rw [List.nodup_cons] at hn
          exact hn.1 (this ▸ hj)
        · simp [h1]
    · intro p hp
      obtain ⟨h1, h2⟩ := D.zout p (by rcases List.mem_append.1 hp with h | h <;> simp [h])
      rcases List.mem_cons.1 h1 with e | h1
      · exfalso
        have hn := D.znd
        simp only [List.map_append, List.map_cons] at hn
        have hn' := (List.perm_middle.nodup_iff.1 hn)
        rw [List.nodup_cons] at hn'
        refine hn'.1 ?_
        rw [← e]
        rcases List.mem_append.1 hp with h | h
        · exact List.mem_append_left _ (List.mem_map.2 ⟨p, h, rfl⟩)
        · exact List.mem_append_right _ (List.mem_map.2 ⟨p, h, rfl⟩)
      · exact ⟨h1, h2⟩
    · have hn := D.znd
      simp only [List.map_append, List.map_cons] at hn ⊢
      have hn' := (List.perm_middle.nodup_iff.1 hn)
      exact (List.nodup_cons.1 hn').2
    · refine D.S.perm ?_
      rw [lits_app _ _ _ _ D.hl, lits_ids _ _ hq.2.1]
      simp only [lits, mkB, zeroT_den hzt (ids ++ [b])]
      rw [List.append_assoc]
      refine List.Perm.append_left _ ?_
      simp only [List.map_append, List.map_cons, List.cons_append, List.nil_append, List.append_assoc]
      exact (nestB_perm2 List.perm_middle ch).trans (nestB_perm _ _ ch).symm
end DI
end
end Vx
noncomputable section
namespace Vx
open Go Go.RowKit Go.BigFrame Sx
variable {G : Type} [Bl G]
def QuietK (q : Nat → Bool) (call : CallK G) : Prop := ∀ f, q f = true → ∀ args bl ch K, call f args bl ch K → call f args bl ch fun v bl' ch' => K v bl' ch' ∧ ∃ e, bl' = bl ++ e
section
variable {C : Ctx G} {call : CallK G} {q : Nat → Bool} {l : List Oper} {pm : List Nat} {R : List Blk} {ms : List Nat} {w0 : World} {k : FrK G} {fr0 fr : List V} {ids0 : List Nat}
  {absd rest : List Nat} {ids : List Nat} {bl : List VB} {ch : List G} {Z : List (Nat × Blk)} {listed : Array Bool} {a : Act} {w : World} {Q : Exit → Act → World → Prop}
theorem stepO_quiet (hq : QuietK q call) {o : Oper} (ho : quietO q o = true) {k : FrK G} (h : stepO C call o fr bl ch k) : stepO C call o fr bl ch fun fr' bl' ch' => k fr' bl' ch' ∧ ∃ e, bl' = bl ++ e := by
  unfold stepO at h ⊢
  split at h
  · rename_i t x e
    split at h
    · first | exact ⟨h, [], by simp⟩ | (split; exact ⟨h, [], by simp⟩)
    · split at h
      · exact ⟨h.1, h.2, [], by simp⟩
      · cases hb : ldH t x && wfL bl.length fr with
        | false => rw [hb] at h; exact h.elim
        | true =>
          rw [hb] at h
          have e : (fun (v : V) (bl' : List VB) (ch' : List G) => bl' = bl ∧ (k (put fr o.dst v) bl' ch' ∧ ∃ e, bl' = bl ++ e)) = fun v bl' ch' => bl' = bl ∧ k (put fr o.dst v) bl' ch' := by
            funext v b c
            exact propext ⟨fun h => ⟨h.1, h.2.1⟩, fun h => ⟨h.1, h.2, [], by rw [h.1, List.append_nil]⟩⟩
          show C.h _ _ bl ch fun v bl' ch' => bl' = bl ∧ (k (put fr o.dst v) bl' ch' ∧ ∃ e, bl' = bl ++ e)
          rw [e]
          exact h
  · rename_i t x y e; simp [quietO, e] at ho
  · rename_i op h1 h2
    split at h
    · exact ⟨h.1, h.2, [], by simp⟩
    split at h
    · exact ⟨h, [], by simp⟩
    · split at h
      · cases hb : wfL bl.length fr && (wfB bl.length bl && wfL bl.length _) with
        | false => rw [hb] at h; exact h.elim
        | true => rw [hb] at h; exact ⟨h, _, rfl⟩
      · split at h
        · rename_i f args hc
          cases hb : wfL bl.length fr with
          | false => rw [hb] at h; exact h.elim
          | true =>
            rw [hb] at h
            have hqf : q f = true := by
              unfold quietO at ho
              unfold callee at hc
              split at ho
              · rename_i e; simp [e] at hc
              · rename_i e; simp [e] at hc
              · rename_i e; simp [e] at hc
              · rename_i e; simp [e] at hc
              · rename_i g a1 a2 e
                rw [e] at hc
                simp only [ev] at hc
                cases hk : okF C.P g with
                | false => rw [hk] at hc; simp at hc
                | true =>
                  rw [hk] at hc
                  simp only [cond_true, Option.some.injEq, Prod.mk.injEq] at hc
                  rw [← hc.1]; exact ho
              · cases ho
            exact hq f hqf _ _ _ _ h
        · split at h
          · rename_i lp args hv
            exfalso
            unfold yld at hv
            split at hv
            · rename_i c hc
              split at hv
              · rename_i fo hfo
                obtain ⟨cal, ar, ts⟩ := c
                simp only at hfo
                subst hfo
                unfold quietO at ho
                rw [hc] at ho
                split at hv
                · rename_i hr
                  cases fo <;> simp_all [ev]
                · cases hv
              · cases hv
            · cases hv
          cases hk : hookable o.op with
          | false => rw [hk] at h; exact h.elim
          | true =>
            cases hkp : keepO o.op with
            | false =>
              exfalso
              unfold quietO at ho
              unfold hookable at hk
              unfold keepO at hkp
              split at hk <;> simp_all
            | true =>
              rw [hk, hkp] at h
              have e : (fun (v : V) (bl' : List VB) (ch' : List G) => cond true (bl' = bl ∧ (k (put fr o.dst v) bl' ch' ∧ ∃ e, bl' = bl ++ e)) (k (put fr o.dst v) bl' ch' ∧ ∃ e, bl' = bl ++ e)) = fun v bl' ch' => cond true (bl' = bl ∧ k (put fr o.dst v) bl' ch') (k (put fr o.dst v) bl' ch') := by
                funext v b c
                exact propext ⟨fun h => ⟨h.1, h.2.1⟩, fun h => ⟨h.1, h.2, [], by rw [h.1, List.append_nil]⟩⟩
              rw [e]
              exact h
namespace DI
theorem stepped {i : Nat} {r : List Nat} (D : DI C call q l pm R ms w0 k fr0 ids0 absd (i :: r) fr ids bl ch Z listed a w) (hx : isX (opAt l i) = true) (hp : ∀ h, bef pm h i = true → listed[h]? = some true) {x : V} {more : List Nat} {bl' : List VB} {ch' : List G} {w' : World}
    (hvc : vcL C call l.toArray (sel l r) (put fr (opAt l i).dst x) bl' ch' k) (hl : (ids ++ more).length = bl'.length) (S : St ms w0 (lits (ids ++ more) (ids ++ more) bl' ++ nestB ch' (Z.map (·.2) ++ R)) w') (hw : more = [] ∨ wfL ids.length fr = true) (hq : quietO q (opAt l i) = true → ∃ e, bl' = bl ++ e) :
    DI C call q l pm R ms w0 k fr0 ids0 (absd ++ [i]) r (put fr (opAt l i).dst x) (ids ++ more) bl' ch' Z (listed.setIfInBounds i true) (a.put (opAt l i).dst (den (ids ++ more) x)) w' := by
  have happ : (absd ++ [i]) ++ r = absd ++ (i :: r) := by simp
  have hA : isA (opAt l i) = false := by rcases cl_cases (opAt l i) with h | h | h <;> simp_all
  have hu : listed[i]? = some false := D.xout i (by simp) hA
  have ho := D.at_ (i := i) (by simp)
  have hdl := (one_at D.ones ho).1
  have hil : i < listed.size := by rw [D.ls]; exact D.bnd i (by simp)
  have sg := fun j b => set_get (listed := listed) (j := j) (b := b) hil
  have np := fun t => nth_put (fr := fr) (x := x) t hdl
  have yp := yof_put2 (a := a) (v := den (ids ++ more) x) (d := (opAt l i).dst) (fun u hu => by rw [D.sz]; exact hdl u hu)
  have hni : ∀ {j}, j ∈ absd → j ≠ i := fun hj e => D.apart hj (by rw [e]; simp)
  have hnr : ∀ {j}, j ∈ r → j ≠ i := fun hj e => by
    have hn := (List.nodup_append.1 D.nd).2.1
    rw [List.nodup_cons] at hn
    exact hn.1 (e ▸ hj)
  have dn : ∀ u, den (ids ++ more) (nth fr u) = den ids (nth fr u) := fun u => by
    rcases hw with rfl | hw
    · simp
    · exact den_app _ (wf_nth u hw)
  refine { D with pairs := by rw [happ]; exact D.pairs, aok := ?_, cov := by rw [happ]; exact D.cov, bnd := by rw [happ]; exact D.bnd, nd := by rw [happ]; exact D.nd, ones := by rw [put_len]; exact D.ones, irr := by rw [happ]; exact D.irr, ls := by simpa using D.ls, xin := ?_, xout := ?_, back := ?_, vc := hvc, sz := by rw [put_len, size_put]; exact D.sz, df := by rw [defers_put]; exact D.df, slot := ?_, old := ?_, nth0 := ?_, recs := ?_, zin := ?_, zout := ?_, S := S, hl := hl, gl := D.gl.app _, wf0 := wfL_mono (by simp) _ D.wf0, idp := by obtain ⟨m, e⟩ := D.idp; exact ⟨m ++ more, by rw [e, List.append_assoc]⟩ }
  · have := D.aok; simp only [aOk, Bool.and_eq_true] at this; exact this.2
  · intro j hj hfj
    refine (sg _ _).2 ?_
    rcases List.mem_append.1 hj with hj | hj
    · exact .inr ⟨hni hj, D.xin j hj hfj⟩
    · exact .inl ⟨by simpa using hj, rfl⟩
  · intro j hj hfj; exact (sg _ _).2 (.inr ⟨hnr hj, D.xout j (by simp [hj]) hfj⟩)
  · intro j hj h hb
    refine (sg _ _).2 ?_
    rcases (sg _ _).1 hj with ⟨rfl, _⟩ | ⟨hne, hj⟩
    · by_cases e : h = j
      · exact .inl ⟨e, rfl⟩
      · exact .inr ⟨e, hp h hb⟩
    · by_cases e : h = i
      · exact .inl ⟨e, rfl⟩
      · exact .inr ⟨e, D.back j hj h hb⟩
  · intro t h1 h2
    by_cases e : (opAt l i).dst = some t
    · rw [(yp t).1 e, (np t).1 e]
    · rw [(yp t).2 e, (np t).2 e, dn]
      refine D.slot t ?_ ?_
      · intro j hj hd
        rcases (sg _ _).1 (h1 j (by simp [hj]) hd) with ⟨h, _⟩ | ⟨_, h⟩
        · exact absurd h (hni hj)
        · exact h
      · intro j hj hd
        rcases List.mem_cons.1 hj with rfl | hj
        · exact absurd hd e
        · rcases (sg _ _).1 (h2 j hj hd) with ⟨_, h⟩ | ⟨_, h⟩
          · cases h
          · exact h
  · intro j hj hlj t ht
    rcases (sg _ _).1 hlj with ⟨_, h⟩ | ⟨hne, h⟩
    · cases h
    · rcases List.mem_append.1 hj with hj | hj
      · rw [(yp t).2 (fun e => hne (D.uniq ht e)), den_app _ (wf_nth t D.wf0)]
        exact D.old j hj h t ht
      · exact absurd (by simpa using hj) hne
  · intro t h
    rw [(np t).2 (h i (by simp))]
    exact D.nth0 t (fun j hj => h j (by simp [hj]))
  · intro j hj hlj
    rcases (sg _ _).1 hlj with ⟨_, h⟩ | ⟨hne, h⟩
    · cases h
    · rcases List.mem_append.1 hj with hj | hj
      · obtain ⟨frj, v', b', rr⟩ := D.recs j hj h
        have P := D.ahead hj (show i ∈ i :: r by simp)
        refine ⟨frj, v', b', rr.frame ?_ ?_ ?_⟩
        · intro t ht h hd hbf
          refine (np t).2 (fun e => ?_)
          have := P.nb t e ht
          rw [D.uniq hd e] at hbf
          rw [hbf] at this; cases this
        · intro d hd; exact (np d).2 (fun e => hni hj (D.uniq hd e))
        · intro t y v hop hld
          rcases P.ld hx (by simp [isLd, hop]) with hb | hb
          · have := hp j hb; rw [h] at this; cases this
          · obtain ⟨e, rfl⟩ := hq hb; exact LdS_app hld
      · exact absurd (by simpa using hj) hne
  · intro j hj hlj
    rcases (sg _ _).1 hlj with ⟨h, _⟩ | ⟨hne, h⟩
    · exact absurd h (hnr hj)
    · obtain ⟨b, t, z, d, h1, h2, h3, h4, h5⟩ := D.zin j (by simp [hj]) h
      exact ⟨b, t, z, d, h1, h2, h3, h4, by rw [(yp d).2 (fun e => hne (D.uniq h4 e))]; exact h5⟩
  · intro p hp'
    obtain ⟨h1, h2⟩ := D.zout p hp'
    rcases List.mem_cons.1 h1 with e | h1
    · rw [e, hu] at h2; cases h2
    · exact ⟨h1, (sg _ _).2 (.inr ⟨hnr h1, h2⟩)⟩
theorem absorbAs : ∀ (r : List Nat) {absd : List Nat} {fr : List V} {ids : List Nat} {bl : List VB} {Z : List (Nat × Blk)} {i : Nat}, DI C call q l pm R ms w0 k fr0 ids0 absd r fr ids bl ch Z listed a w → nextX l r = some i → (∀ h, bef pm h i = true → listed[h]? = some true) →
    ∃ absd' r' fr' ids' bl' Z', DI C call q l pm R ms w0 k fr0 ids0 absd' (i :: r') fr' ids' bl' ch Z' listed a w
  | [], _, _, _, _, _, _, _, h, _ => by simp [nextX] at h
  | j :: r, absd, fr, ids, bl, Z, i, D, h, hp => by
    have hak := D.aok
    simp only [aOk, Bool.and_eq_true] at hak
    unfold nextX at h
    cases hA : isA (opAt l j) with
    | false =>
      rw [hA] at h
      obtain rfl : j = i := by simpa using h
      exact ⟨absd, r, fr, ids, bl, Z, D⟩
    | true =>
      rw [hA] at h hak
      simp only [cond_true] at h hak
      rw [h] at hak
      simp only [Bool.and_eq_true] at hak
      obtain ⟨fr', ids', bl', Z', D'⟩ := D.absorbA hA (hp j hak.1.2)
      exact absorbAs r D' h hp
theorem next_some (D : DI C call q l pm R ms w0 k fr0 ids0 absd rest fr ids bl ch Z listed a w) (h : rest = [] ∨ ∃ i s, rest = i :: s ∧ isF (opAt l i) = false) : rest = [] ∨ ∃ x, nextX l rest = some x ∧ x ∈ rest ∧ isX (opAt l x) = true := by
  rcases h with h | ⟨i, s, rfl, hf⟩
  · exact .inl h
  · refine .inr ?_
    have nm : ∀ (r : List Nat) x, nextX l r = some x → x ∈ r := by
      intro r
      induction r with
      | nil => intro x h; simp [nextX] at h
      | cons y r ih =>
        intro x h
        unfold nextX at h
        cases hA : isA (opAt l y) with
        | true => rw [hA] at h; exact List.mem_cons_of_mem _ (ih x h)
        | false => rw [hA] at h; simp at h; simp [h]
    rcases cl_cases (opAt l i) with ⟨h1, h2, h3⟩ | ⟨h1, h2, h3⟩ | ⟨h1, h2, h3⟩
    · rw [hf] at h1; cases h1
    · have hak := D.aok
      simp only [aOk, Bool.and_eq_true, h2, cond_true] at hak
      cases hn : nextX l s with
      | none => rw [hn] at hak; simp at hak
      | some x =>
        rw [hn] at hak
        simp only [Bool.and_eq_true] at hak
        exact ⟨x, by unfold nextX; rw [h2]; exact hn, List.mem_cons_of_mem _ (nm s x hn), hak.1.1⟩
    · exact ⟨i, by unfold nextX; rw [h2]; rfl, by simp, h3⟩
end DI
end
end Vx
noncomputable section
namespace Vx
open Go Go.RowKit Go.BigFrame Sx
variable {G : Type} [Bl G]
section
variable {C : Ctx G} {call : CallK G} {q : Nat → Bool} {l : List Oper} {pm : List Nat} {R : List Blk} {ms : List Nat} {w0 : World} {k : FrK G} {fr0 fr : List V} {ids0 : List Nat}
  {absd rest : List Nat} {ids : List Nat} {bl : List VB} {ch : List G} {Z : List (Nat × Blk)} {listed : Array Bool} {a : Act} {w : World} {Q : Exit → Act → World → Prop}
namespace DI
theorem first (h : pairs2 (pairOk q l pm) rest = true) {x : Nat} (hn : nextX l rest = some x) : ∀ i ∈ rest, isA (opAt l i) = false → i = x ∨ PairP q l pm x i := by
  induction rest with
  | nil => simp [nextX] at hn
  | cons y r ih =>
    intro i hi ha
    simp only [pairs2, Bool.and_eq_true, List.all_eq_true] at h
    unfold nextX at hn
    cases hA : isA (opAt l y) with
    | true =>
      rw [hA] at hn
      rcases List.mem_cons.1 hi with rfl | hi
      · rw [hA] at ha; cases ha
      · exact ih h.2 hn i hi ha
    | false =>
      rw [hA] at hn
      obtain rfl : y = x := by simpa using hn
      rcases List.mem_cons.1 hi with e | hi
      · exact .inl e
      · exact .inr (pairP (h.1 i hi))
theorem edgesIn_get (h : edgesIn l l.length = true) {i : Nat} {o : Oper} (ho : l[i]? = some o) {e : Edge} (he : e ∈ o.after) (hb : Region.binds .any e = true) : e.on < l.length := by
  have h1 := List.all_eq_true.1 h o (List.mem_of_getElem? ho)
  have h2 := Array.all_eq_true_iff_forall_mem.1 h1 e he
  rw [hb] at h2
  simpa [Nat.blt_eq] using h2
theorem stuck (D : DI C call q l pm R ms w0 k fr0 ids0 absd rest fr ids bl ch Z listed a w) (hpm : pmOk l pm = true) (hedge : edgesIn l l.length = true) (hr : Region.ready .any l.toArray listed = []) :
    ∀ (b c : List Nat), absd ++ rest = c ++ b → (∀ i ∈ c, listed[i]? = some true) → ∀ i ∈ b, listed[i]? = some true := by
  intro b
  induction b with
  | nil => intro c _ _ i hi; cases hi
  | cons x b ih =>
    intro c hc hl
    have hx : x ∈ absd ++ rest := by rw [hc]; simp
    have h1 : listed[x]? = some true := by
      rcases D.bit hx with h | h
      · exact h
      · exfalso
        have ho := D.at_ hx
        have hm : x ∈ Region.ready .any l.toArray listed := (rdy_iff _ listed x).2 ⟨opAt l x, ho, by simp [Array.getD_eq_getD_getElem?, h], fun e he hb => by
          have hlt := edgesIn_get hedge ho he hb
          have hbf : bef pm e.on x = true := by
            unfold bef
            rw [pm_at hpm ho]
            exact (mkM_bit pm _ _).2 ⟨e, by simpa using he, hb, .inl rfl⟩
          have hem := D.cov e.on hlt
          rw [hc] at hem
          have hle : listed[e.on]? = some true := by
            rcases List.mem_append.1 hem with hm | hm
            · exact hl _ hm
            · rcases List.mem_cons.1 hm with h2 | h2
              · have := D.irr x hx; rw [h2, this] at hbf; cases hbf
              · have hp := D.pairs
                rw [hc] at hp
                have := (pairs2_app hp).2.2
                simp only [pairs2, Bool.and_eq_true, List.all_eq_true] at this
                rcases (pairP (this.1 _ h2)).nx with h3 | ⟨h3, h4⟩
                · rw [hbf] at h3; cases h3
                · rcases D.bit (show e.on ∈ absd ++ rest by rw [hc]; simp [h2]) with h5 | h5
                  · exact h5
                  · exfalso
                    have ho2 := D.at_ (show e.on ∈ absd ++ rest by rw [hc]; simp [h2])
                    have hm2 : e.on ∈ Region.ready .any l.toArray listed := (rdy_iff _ listed e.on).2 ⟨opAt l e.on, ho2, by simp [Array.getD_eq_getD_getElem?, h5], fun e2 he2 hb2 => by
                      exfalso
                      have hb3 : bef pm e2.on e.on = true := by
                        unfold bef
                        rw [pm_at hpm ho2]
                        exact (mkM_bit pm _ _).2 ⟨e2, by simpa using he2, hb2, .inl rfl⟩
                      unfold bef at hb3
                      rw [h4, Nat.zero_testBit] at hb3
                      cases hb3⟩
                    rw [hr] at hm2; cases hm2
          simp [Array.getD_eq_getD_getElem?, hle]⟩
        rw [hr] at hm; cases hm
    intro i hi
    rcases List.mem_cons.1 hi with rfl | hi
    · exact h1
    · refine ih (c ++ [x]) (by rw [hc]; simp) (fun j hj => ?_) i hi
      rcases List.mem_append.1 hj with hj | hj
      · exact hl j hj
      · obtain rfl : j = x := by simpa using hj
        exact h1
theorem fin (D : DI C call q l pm R ms w0 k fr0 ids0 absd rest fr ids bl ch Z listed a w) (hh : rest = [] ∨ ∃ i s, rest = i :: s ∧ isF (opAt l i) = false) (hall : ∀ i, i < l.length → listed[i]? = some true) :
    k fr bl ch ∧ a = act ids fr ∧ St ms w0 (lits ids ids bl ++ nestB ch R) w := by
  rcases D.next_some hh with rfl | ⟨x, hx, hm, hX⟩
  · have hZ : Z = [] := by
      cases Z with
      | nil => rfl
      | cons p Z => have := (D.zout p (by simp)).1; cases this
    refine ⟨D.vc, ?_, by have := D.S; rw [hZ] at this; simpa using this⟩
    refine act_ext (by rw [D.sz]; simp [act, denM_eq]) (by rw [D.df]; rfl) ?_
    intro t
    rw [nth_act]
    exact D.slot t (fun i hi _ => hall i (D.bnd i (by simp [hi]))) (fun i hi => nomatch hi)
  · have h1 : isA (opAt l x) = false := by rcases cl_cases (opAt l x) with h | h | h <;> simp_all
    have := D.xout x hm h1
    rw [hall x (D.bnd x (by simp [hm]))] at this; cases this
end DI
theorem wpI_value {rd : Option Nat} {P : Program} {o : Oper} {v : Value} {next : Act → World → Prop} {w' : World} (hd : ∀ c, o.op ≠ .defer c) (h : (execOp a.eval o).run P w = .ok (.value v) w') (hk : next (a.put o.dst v) w') : o.wpIn (FW rd) 0 P a w next Q := by
  refine ⟨fun _ _ => trivial, ?_⟩
  rw [Oper.semAt_eq _ _ _ hd, h]
  exact hk
theorem evS_noDefer {bl : List VB} {fr : List V} {o : Oper} {v : V} (h : EvS C bl fr o v) : ∀ c, o.op ≠ .defer c := by
  intro c e
  rcases h with (h | ⟨b0, p, h, hp⟩) | ⟨t, x, ho, h⟩
  · rw [e] at h; simp [evQ] at h
  · rw [e] at h; simp [hfN] at h
  · rw [e] at ho; cases ho
theorem drawn_any {rd : Option Nat} (hc : CallOk C.P C.gl call) (hqk : QuietK q call) (hpm : pmOk l pm = true) (hedge : edgesIn l l.length = true)
    (hk : ∀ fr' m bl' ch' w', (ids0 ++ m).length = bl'.length → St ms w0 (lits (ids0 ++ m) (ids0 ++ m) bl' ++ nestB ch' R) w' → k fr' bl' ch' → Q .normal (act (ids0 ++ m) fr') w') :
    ∀ (fuel : Nat) {absd rest : List Nat} {fr : List V} {ids : List Nat} {bl : List VB} {ch : List G} {Z : List (Nat × Blk)} {listed : Array Bool} {a : Act} {w : World},
      DI C call q l pm R ms w0 k fr0 ids0 absd rest fr ids bl ch Z listed a w → (rest = [] ∨ ∃ i s, rest = i :: s ∧ isF (opAt l i) = false) → listed.toList.count false = fuel → wpAnyIn (FW rd) 0 C.P .any l.toArray Q fuel listed a w := by
  have fin : ∀ {absd rest : List Nat} {fr : List V} {ids : List Nat} {bl : List VB} {ch : List G} {Z : List (Nat × Blk)} {listed : Array Bool} {a : Act} {w : World},
      DI C call q l pm R ms w0 k fr0 ids0 absd rest fr ids bl ch Z listed a w → (rest = [] ∨ ∃ i s, rest = i :: s ∧ isF (opAt l i) = false) → (∀ i, i < l.length → listed[i]? = some true) → Q .normal a w := by
    intro absd rest fr ids bl ch Z listed a w D hh hall
    obtain ⟨h1, rfl, h3⟩ := D.fin hh hall
    obtain ⟨m, rfl⟩ := D.idp
    exact hk _ _ _ _ _ D.hl h3 h1
  intro fuel
  induction fuel with
  | zero =>
    intro absd rest fr ids bl ch Z listed a w D hh hcnt
    have hall : ∀ i, i < l.length → listed[i]? = some true := by
      intro i hi
      rcases bool_at D.ls hi with h | h
      · exact h
      · exfalso
        have := count_set listed.toList i (by simpa using h)
        omega
    refine ⟨?_, fin D hh hall⟩
    refine List.eq_nil_iff_forall_not_mem.2 fun i hi => ?_
    obtain ⟨o, ho, h2, _⟩ := (rdy_iff l listed i).1 hi
    have hil : i < l.length := by rcases Nat.lt_or_ge i l.length with h | h; exact h; simp [h] at ho
    simp [Array.getD_eq_getD_getElem?, hall i hil] at h2
  | succ fuel ih =>
    intro absd rest fr ids bl ch Z listed a w D hh hcnt
    refine ⟨fun hr => ?_, ?_⟩
    · exfalso
      have hall : ∀ i, i < l.length → listed[i]? = some true := fun i hi => D.stuck hpm hedge hr (absd ++ rest) [] rfl (fun _ h => nomatch h) i (D.cov i hi)
      have := count_all listed.toList l.length 0 (by simpa using D.ls) (fun j hj => by simpa using hall j hj)
      omega
    · intro i hi
      obtain ⟨o, ho, h2, h3⟩ := (rdy_iff l listed i).1 hi
      have hil : i < l.length := by rcases Nat.lt_or_ge i l.length with h | h; exact h; simp [h] at ho
      have hoA := opAt_some ho
      have hu : listed[i]? = some false := by
        rcases bool_at D.ls hil with hb | hb
        · simp [Array.getD_eq_getD_getElem?, hb] at h2
        · exact hb
      have hp : ∀ h, bef pm h i = true → listed[h]? = some true := by
        intro h hb
        obtain ⟨e, he, hbd, hcs⟩ := bef_cases hpm ho hb
        have hlt := DI.edgesIn_get hedge ho he hbd
        have hl : listed[e.on]? = some true := by
          have := h3 e he hbd
          rcases bool_at D.ls (show e.on < l.length by omega) with hb | hb
          · exact hb
          · simp [Array.getD_eq_getD_getElem?, hb] at this
        rcases hcs with rfl | hcs
        · exact hl
        · exact D.back _ hl h hcs
      have hcnt' : (listed.setIfInBounds i true).toList.count false = fuel := by
        have := count_set listed.toList i (by simpa using hu)
        simp only [Array.toList_setIfInBounds]
        omega
      have hone := one_at D.ones ho
      have hAt : l.toArray[i]? = some o := by simpa using ho
      unfold wpOpIn
      rw [hAt]
      simp only
      have hm := D.cov i hil
      rcases List.mem_append.1 hm with hm | hm
      · obtain ⟨frj, v, b, r⟩ := D.recs i hm hu
        have hlk := D.look_rec hm hu hp r
        unfold looks at hlk
        have D' := D.did hm hu hp r
        have rg := r.g
        have re := r.e
        rw [hoA] at hlk D' rg re
        rw [wanted_rec hlk rg]
        cases b with
        | true =>
          rw [if_pos rfl] at re
          rw [if_pos rfl]
          refine wpI_value (evS_noDefer re) (by rw [execOp_rec hone.2.1 hlk, evS_run D.gl D.hl D.S re]) ?_
          exact ih D' hh hcnt'
        | false =>
          rw [if_neg (by simp)] at re
          rw [if_neg (by simp)]
          subst re
          rw [show (undef : Value) = den ids undefV by simp [undefV, den]]
          exact ⟨fun _ _ => trivial, ih D' hh hcnt'⟩
      · rcases D.next_some hh with rfl | ⟨x, hx, hxm, hX⟩
        · cases hm
        have hxA : isA (opAt l x) = false := by rcases cl_cases (opAt l x) with h | h | h <;> simp_all
        have hxu := D.xout x hxm hxA
        have hfirst := DI.first (pairs2_app D.pairs).2.2 hx
        cases hA : isA (opAt l i) with
        | true =>
          obtain ⟨hgd, d, t, z, hd, hop, hz⟩ := hone.2.2 (by rw [← hoA]; exact hA)
          have D' := D.alloced hm hu hp (by rw [hoA]; exact hop) hz (by rw [hoA]; exact hd)
          rw [hoA] at D'
          rw [if_pos (by simp [Region.wanted, hgd])]
          have hrun : (execOp a.eval o).run C.P w = .ok (.value (.pointer (some ⟨w.heap.size, 0, none⟩))) (w.alloc (.cells (denC [] z).toArray t)) := by
            obtain ⟨v0, z1, z2⟩ := run_zero (P := C.P) (w := w) (ids := []) hz
            have hz3 : v0.cells = (denC [] z).toArray := by apply Array.ext'; simpa using z2
            unfold execOp
            simp only [hop, Instr.alloc, Sem.run_bind, z1, Result.andThen_ok, newVar, newRow, hz3]
            rfl
          exact wpI_value (by rw [hop]; simp) hrun (ih D' hh hcnt')
        | false =>
          have hix : i = x := by
            rcases hfirst i hm hA with h | h
            · exact h
            · have := hp x (h.xj hX hA); rw [hxu] at this; cases this
          subst hix
          obtain ⟨absd', r', fr', ids', bl', Z', D1⟩ := D.absorbAs rest hx hp
          have hlk := D1.look_head rfl hu hp
          unfold looks at hlk
          obtain ⟨b, hg, hb⟩ := vc_guard D1.vc
          rw [hoA] at hlk hg hb
          rw [wanted_rec hlk hg]
          have nxt : ∀ {x : V} {more : List Nat} {bl2 : List VB} {ch2 : List G} {w' : World}, vcL C call l.toArray (sel l r') (put fr' o.dst x) bl2 ch2 k → (ids' ++ more).length = bl2.length → St ms w0 (lits (ids' ++ more) (ids' ++ more) bl2 ++ nestB ch2 (Z'.map (·.2) ++ R)) w' →
              (more = [] ∨ wfL ids'.length fr' = true) → (quietO q o = true → ∃ e, bl2 = bl' ++ e) → wpAnyIn (FW rd) 0 C.P .any l.toArray Q fuel (listed.setIfInBounds i true) (a.put o.dst (den (ids' ++ more) x)) w' := by
            intro x more bl2 ch2 w' g1 g2 g3 g4 g5
            have D2 := D1.stepped hX hp (x := x) (more := more) (by rw [hoA]; exact g1) g2 g3 g4 (by rw [hoA]; exact g5)
            rw [hoA] at D2
            obtain ⟨absd3, r3, fr3, D3, hh3⟩ := D2.absorbFs r'
            exact ih D3 hh3 hcnt'
          cases b with
          | true =>
            rw [if_pos rfl] at hb
            rw [if_pos rfl]
            cases hqo : quietO q o with
            | true =>
              refine stepO_ok hc D1.gl D1.hl D1.S (stepO_quiet hqk hqo hb) (execOp_rec hone.2.1 hlk) ?_
              intro x more bl2 ch2 w' g1 g2 g3 g4
              exact nxt g3.1 g1 g2 g4 (fun _ => g3.2)
            | false =>
              refine stepO_ok hc D1.gl D1.hl D1.S hb (execOp_rec hone.2.1 hlk) ?_
              intro x more bl2 ch2 w' g1 g2 g3 g4
              exact nxt g3 g1 g2 g4 (fun e => by rw [hqo] at e; cases e)
          | false =>
            rw [if_neg (by simp)] at hb
            rw [if_neg (by simp)]
            have := nxt (x := undefV) (more := []) (bl2 := bl') (ch2 := ch) (w' := w) hb (by simpa using D1.hl) (by simpa using D1.S) (.inl rfl) (fun _ => ⟨[], by simp⟩)
            refine ⟨fun _ _ => trivial, ?_⟩
            simpa [undefV, den] using this
theorem addE_at {i j : Nat} (m : Nat) : (addE l i j)[m]? = (l[m]?).map fun o => if m = j then upE i o else o := by
  unfold addE
  split
  · rename_i o ho
    have hj : j < l.length := by rcases Nat.lt_or_ge j l.length with h | h; exact h; simp [h] at ho
    by_cases e : m = j
    · subst e; simp [hj, ho]
      have : l[m]? = some o := ho
      rw [List.getElem?_eq_getElem hj] at this
      rw [Option.some.inj this]
    · rw [List.getElem?_set_ne (fun h => e h.symm)]
      cases l[m]? <;> simp [e]
  · rename_i ho
    by_cases e : m = j
    · subst e; rw [ho]; rfl
    · cases l[m]? <;> simp [e]
theorem addE_len {i j : Nat} : (addE l i j).length = l.length := by unfold addE; split <;> simp
theorem addE_op {i j m : Nat} (h : m ≠ j) : opAt (addE l i j) m = opAt l m := by
  unfold opAt; rw [addE_at]; cases l[m]? <;> simp [h]
theorem addE_sub {i j m : Nat} (h : m ∈ Region.ready .any (addE l i j).toArray listed) : m ∈ Region.ready .any l.toArray listed := by
  obtain ⟨o, ho, h2, h3⟩ := (rdy_iff _ _ _).1 h
  rw [addE_at] at ho
  obtain ⟨o', ho', e⟩ := Option.map_eq_some_iff.1 ho
  refine (rdy_iff _ _ _).2 ⟨o', ho', h2, fun e' he hb => h3 e' ?_ hb⟩
  subst e
  split
  · simp [upE, he]
  · exact he
theorem addE_ne {i j m : Nat} (hm : m ≠ j ∨ listed[i]? = some true) (h : m ∈ Region.ready .any l.toArray listed) : m ∈ Region.ready .any (addE l i j).toArray listed := by
  obtain ⟨o, ho, h2, h3⟩ := (rdy_iff _ _ _).1 h
  refine (rdy_iff _ _ _).2 ⟨_, by rw [addE_at, ho]; rfl, h2, fun e he hb => ?_⟩
  split at he
  · rename_i e1
    simp only [upE, Array.mem_push] at he
    rcases he with he | rfl
    · exact h3 e he hb
    · rcases hm with hm | hm
      · exact absurd e1 hm
      · simp [Array.getD_eq_getD_getElem?, hm]
  · exact h3 e he hb
theorem addE_y {i j : Nat} (ts : Array Value) : yielded (addE l i j).toArray ts = yielded l.toArray ts := by
  funext n
  have : ((addE l i j).toArray[n]?).bind (·.dst) = (l.toArray[n]?).bind (·.dst) := by
    simp only [List.getElem?_toArray, addE_at]
    cases l[n]? with
    | none => rfl
    | some o => simp only [Option.map_some, Option.bind_some]; split <;> rfl
  unfold yielded
  rw [this]
theorem addE_wp {rd : Option Nat} {P : Program} {i j m : Nat} {K : Act → World → Prop} (h : wpOpIn (FW rd) 0 P (addE l i j).toArray Q m K a w) : wpOpIn (FW rd) 0 P l.toArray Q m K a w := by
  unfold wpOpIn at h ⊢
  simp only [List.getElem?_toArray, addE_at, addE_y] at h ⊢
  cases ho : l[m]? with
  | none => rw [ho] at h; exact h
  | some o =>
    rw [ho] at h
    simp only [Option.map_some] at h ⊢
    by_cases e : m = j
    · rw [if_pos e] at h
      cases o
      exact h
    · rw [if_neg e] at h; exact h
theorem addE_any {rd : Option Nat} {P : Program} {i j : Nat} : ∀ (fuel : Nat) {listed : Array Bool} {a : Act} {w : World}, listed[i]? = some true → wpAnyIn (FW rd) 0 P .any (addE l i j).toArray Q fuel listed a w → wpAnyIn (FW rd) 0 P .any l.toArray Q fuel listed a w := by
  intro fuel
  induction fuel with
  | zero => intro listed a w hi h; exact ⟨List.eq_nil_iff_forall_not_mem.2 fun m hm => (by have := addE_ne (j := j) (.inr hi) hm; rw [h.1] at this; cases this), h.2⟩
  | succ fuel ih =>
    intro listed a w hi h
    refine ⟨fun hr => h.1 (List.eq_nil_iff_forall_not_mem.2 fun m hm => by have := addE_sub hm; rw [hr] at this; cases this), fun m hm => ?_⟩
    refine wpOpIn_mono (fun a w h => ih ?_ h) (addE_wp (h.2 m (addE_ne (.inr hi) hm)))
    have hs : i < listed.size := by rcases Nat.lt_or_ge i listed.size with h | h; exact h; simp [h] at hi
    rw [Array.getElem?_setIfInBounds]
    split
    · simp [*]
    · exact hi
theorem noA_at {l : List Oper} (h : (l.all fun o => !(isA o)) = true) (m : Nat) : isA (opAt l m) = false := by
  unfold opAt
  split
  · rename_i o ho
    have := List.all_eq_true.1 h o (List.mem_of_getElem? ho)
    simpa using this
  · rfl
theorem drawn_two {rd : Option Nat} {i j : Nat} {pm1 pm2 : List Nat} (hc : CallOk C.P C.gl call) (hqk : QuietK q call) (hij : i ≠ j) (hpm1 : pmOk (addE l i j) pm1 = true) (hed1 : edgesIn (addE l i j) (addE l i j).length = true) (hpm2 : pmOk (addE l j i) pm2 = true) (hed2 : edgesIn (addE l j i) (addE l j i).length = true)
    (hA1 : ((addE l i j).all fun o => !(isA o)) = true) (hA2 : ((addE l j i).all fun o => !(isA o)) = true)
    (hk : ∀ fr' m bl' ch' w', (ids0 ++ m).length = bl'.length → St ms w0 (lits (ids0 ++ m) (ids0 ++ m) bl' ++ nestB ch' R) w' → k fr' bl' ch' → Q .normal (act (ids0 ++ m) fr') w') :
    ∀ (fuel : Nat) {absd1 s1 absd2 s2 : List Nat} {fr1 fr2 : List V} {listed : Array Bool} {a : Act} {w : World},
      DI C call q (addE l i j) pm1 R ms w0 k fr0 ids0 absd1 (i :: s1) fr1 ids bl ch Z listed a w → isF (opAt (addE l i j) i) = false → DI C call q (addE l j i) pm2 R ms w0 k fr0 ids0 absd2 (j :: s2) fr2 ids bl ch Z listed a w → isF (opAt (addE l j i) j) = false →
      listed.toList.count false = fuel → wpAnyIn (FW rd) 0 C.P .any l.toArray Q fuel listed a w := by
  intro fuel
  induction fuel with
  | zero =>
    intro absd1 s1 absd2 s2 fr1 fr2 listed a w D1 hf1 D2 hf2 hcnt
    exfalso
    have hu := D1.xout i (by simp) (noA_at hA1 i)
    have := count_set listed.toList i (by simpa using hu)
    omega
  | succ fuel ih =>
    intro absd1 s1 absd2 s2 fr1 fr2 listed a w D1 hf1 D2 hf2 hcnt
    have W1 := drawn_any (rd := rd) hc hqk hpm1 hed1 hk (fuel + 1) D1 (.inr ⟨i, s1, rfl, hf1⟩) hcnt
    have W2 := drawn_any (rd := rd) hc hqk hpm2 hed2 hk (fuel + 1) D2 (.inr ⟨j, s2, rfl, hf2⟩) hcnt
    have hX1 : isX (opAt (addE l i j) i) = true := by have := noA_at hA1 i; rcases cl_cases (opAt (addE l i j) i) with h | h | h <;> simp_all
    have hX2 : isX (opAt (addE l j i) j) = true := by have := noA_at hA2 j; rcases cl_cases (opAt (addE l j i) j) with h | h | h <;> simp_all
    have hui := D1.xout i (by simp) (noA_at hA1 i)
    have huj := D2.xout j (by simp) (noA_at hA2 j)
    have hset : ∀ {m : Nat}, listed[m]? = some false → (listed.setIfInBounds m true)[m]? = some true := fun {m} h => by
      have hs : m < listed.size := by rcases Nat.lt_or_ge m listed.size with h' | h'; exact h'; simp [h'] at h
      simp [hs]
    refine ⟨fun hr => W1.1 (List.eq_nil_iff_forall_not_mem.2 fun m hm => by have := addE_sub hm; rw [hr] at this; cases this), fun m hm => ?_⟩
    by_cases e1 : m = i
    · subst e1
      exact wpOpIn_mono (fun a w h => addE_any fuel (hset hui) h) (addE_wp (W1.2 m (addE_ne (.inl hij) hm)))
    by_cases e2 : m = j
    · subst e2
      exact wpOpIn_mono (fun a w h => addE_any fuel (hset huj) h) (addE_wp (W2.2 m (addE_ne (.inl (fun h => hij h.symm)) hm)))
    obtain ⟨o, ho, h2, _⟩ := (rdy_iff l listed m).1 hm
    have hml : m < l.length := by rcases Nat.lt_or_ge m l.length with h | h; exact h; simp [h] at ho
    have hu : listed[m]? = some false := by
      rcases D1.bit (D1.cov m (by rw [addE_len]; exact hml)) with hb | hb
      · simp [Array.getD_eq_getD_getElem?, hb] at h2
      · exact hb
    have preds : ∀ {l' : List Oper} {pm' : List Nat}, pmOk l' pm' = true → edgesIn l' l'.length = true → m ∈ Region.ready .any l'.toArray listed → (∀ jj, listed[jj]? = some true → ∀ h, bef pm' h jj = true → listed[h]? = some true) → listed.size = l'.length → ∀ h, bef pm' h m = true → listed[h]? = some true := by
      intro l' pm' hpm hed hm' back hls h hb
      obtain ⟨o', ho', _, h3⟩ := (rdy_iff l' listed m).1 hm'
      obtain ⟨e, he, hbd, hcs⟩ := bef_cases hpm ho' hb
      have hlt := DI.edgesIn_get hed ho' he hbd
      have hl : listed[e.on]? = some true := by
        have := h3 e he hbd
        rcases bool_at hls hlt with hb | hb
        · exact hb
        · simp [Array.getD_eq_getD_getElem?, hb] at this
      rcases hcs with rfl | hcs
      · exact hl
      · exact back _ hl h hcs
    have hp1 := preds hpm1 hed1 (addE_ne (.inl e2) hm) D1.back D1.ls
    have hp2 := preds hpm2 hed2 (addE_ne (.inl e1) hm) D2.back D2.ls
    have inA : ∀ {l' : List Oper} {pm' s absd' : List Nat} {x : Nat}, pairs2 (pairOk q l' pm') (absd' ++ (x :: s)) = true → isX (opAt l' x) = true → isA (opAt l' m) = false → listed[x]? = some false → (∀ h, bef pm' h m = true → listed[h]? = some true) → m ∈ absd' ++ (x :: s) → m ≠ x → m ∈ absd' := by
      intro l' pm' s absd' x hp hx ha hux hpp hmm hne
      rcases List.mem_append.1 hmm with h | h
      · exact h
      · exfalso
        rcases List.mem_cons.1 h with h | h
        · exact hne h
        · have hps := (pairs2_app hp).2.2
          simp only [pairs2, Bool.and_eq_true, List.all_eq_true] at hps
          have := hpp x ((pairP (hps.1 m h)).xj hx ha)
          rw [hux] at this; cases this
    have m1 := inA D1.pairs hX1 (noA_at hA1 m) hui hp1 (D1.cov m (by rw [addE_len]; exact hml)) e1
    have m2 := inA D2.pairs hX2 (noA_at hA2 m) huj hp2 (D2.cov m (by rw [addE_len]; exact hml)) e2
    obtain ⟨f1, v1, b1, r1⟩ := D1.recs m m1 hu
    obtain ⟨f2, v2, b2, r2⟩ := D2.recs m m2 hu
    have o1 : opAt (addE l i j) m = o := by rw [addE_op e2]; exact opAt_some ho
    have o2 : opAt (addE l j i) m = o := by rw [addE_op e1]; exact opAt_some ho
    have k1 := D1.look_rec m1 hu hp1 r1
    have k2 := D2.look_rec m2 hu hp2 r2
    have D1' := D1.did m1 hu hp1 r1
    have D2' := D2.did m2 hu hp2 r2
    have g1 := r1.g
    have g2 := r2.g
    have q1 := r1.e
    have q2 := r2.e
    unfold looks at k1 k2
    rw [o1] at k1 D1' g1 q1
    rw [o2] at k2 D2' g2 q2
    have w1 := wanted_rec k1 g1
    have w2 := wanted_rec k2 g2
    rw [addE_y] at w1 w2
    obtain rfl : b1 = b2 := by rw [← w1, ← w2]
    have hone := one_at D1.ones (show (addE l i j)[m]? = some o by rw [addE_at, ho]; simp [e2])
    have hcnt' : (listed.setIfInBounds m true).toList.count false = fuel := by
      have := count_set listed.toList m (by simpa using hu)
      simp only [Array.toList_setIfInBounds]
      omega
    unfold wpOpIn
    rw [show l.toArray[m]? = some o by simpa using ho]
    simp only
    rw [w1]
    cases b1 with
    | true =>
      rw [if_pos rfl] at q1 q2
      rw [if_pos rfl]
      have run1 : (execOp a.eval o).run C.P w = .ok (.value (den ids v1)) w := by rw [execOp_rec hone.2.1 k1, evS_run D1.gl D1.hl D1.S q1]
      have run2 : (execOp a.eval o).run C.P w = .ok (.value (den ids v2)) w := by rw [execOp_rec hone.2.1 k2, evS_run D2.gl D2.hl D2.S q2]
      have hv : den ids v2 = den ids v1 := by rw [run1] at run2; simpa using run2.symm
      rw [hv] at D2'
      exact wpI_value (evS_noDefer q1) run1 (ih D1' hf1 D2' hf2 hcnt')
    | false =>
      rw [if_neg (by simp)] at q1 q2
      rw [if_neg (by simp)]
      subst q1 q2
      rw [show (undef : Value) = den ids undefV by simp [undefV, den]]
      exact ⟨fun _ _ => trivial, ih D1' hf1 D2' hf2 hcnt'⟩
end
end Vx
noncomputable section
namespace Vx
open Go Go.RowKit Go.BigFrame Sx
variable {G : Type} [Bl G]
abbrev ExK (G : Type) := Exit → List V → List VB → List G → Prop
abbrev CodeK (G : Type) := Code → List V → List VB → List G → ExK G → Prop
def resV (P : Program) (fr : List V) (bl : List VB) : List ResultVar → Option (List V)
  | [] => some []
  | .tmp t :: l => (match resV P fr bl l with | some r => some (nth fr t :: r) | none => none)
  | .cell a t :: l => (match ldV P bl t (nth fr a), resV P fr bl l with | some v, some r => some (v :: r) | _, _ => none)
def wrapV : List V → V
  | [v] => v
  | l => .tup l
def retK (P : Program) (fn : Func) (K : VK G) : ExK G := fun e fr bl ch => match e with
  | .normal => (match resV P fr bl fn.results.toList with | some vs => K (wrapV vs) bl ch | none => False)
  | .ret => (match resV P fr bl fn.results.toList with | some vs => K (wrapV vs) bl ch | none => False)
  | _ => False
def repU : Nat → List V
  | 0 => []
  | n + 1 => undefV :: repU n
def callF (C : Ctx G) (rec : CodeK G) : CallK G := fun f args bl ch K => match C.T f with
  | some c => c args bl ch K
  | none => match C.P.funcs[f]? with
    | some fn => (match fn.body with
      | some c => rec c (args ++ repU (fn.ntmps - args.length)) bl ch (retK C.P fn K)
      | none => False)
    | none => False
def vcS3 (C : Ctx G) (call : CallK G) (l1 l2 : List Oper) (pm1 ts1 pm2 ts2 : List Nat) (i j : Nat) (fr : List V) (bl : List VB) (ch : List G) (k : FrK G) : Prop :=
  cond (okS C l1 pm1 ts1 i fr.length && (okS C l2 pm2 ts2 j fr.length && (!(Nat.beq i j) && wfL bl.length fr))) (vcL C call l1.toArray (sel l1 ts1) fr bl ch k ∧ vcL C call l2.toArray (sel l2 ts2) fr bl ch k) False
def vcS2 (C : Ctx G) (call : CallK G) (l1 l2 : List Oper) (pm1 pm2 : List Nat) (i j : Nat) (fr : List V) (bl : List VB) (ch : List G) (k : FrK G) : Prop := vcS3 C call l1 l2 pm1 (schedOf l1 pm1) pm2 (schedOf l2 pm2) i j fr bl ch k
def vcS (C : Ctx G) (call : CallK G) (l : List Oper) (pm ts : List Nat) (fr : List V) (bl : List VB) (ch : List G) (k : FrK G) : Prop := match firstX l ts with
  | some (i, r) => (match firstX l r with
    | some (j, _) => vcS2 C call (addE l i j) (addE l j i) (masksU (addE l i j) [] pm) (masksU (addE l j i) [] pm) i j fr bl ch k
    | none => False)
  | none => False
def vcD2 (C : Ctx G) (call : CallK G) (l : List Oper) (pm ts : List Nat) (fr : List V) (bl : List VB) (ch : List G) (k : FrK G) : Prop :=
  cond (drawOk C C.q l pm ts fr.length && wfL bl.length fr) (vcL C call l.toArray (sel l ts) fr bl ch k) (vcS C call l pm ts fr bl ch k)
def vcD (C : Ctx G) (call : CallK G) (l : List Oper) (pm : List Nat) (fr : List V) (bl : List VB) (ch : List G) (k : FrK G) : Prop := vcD2 C call l pm (schedOf l pm) fr bl ch k
def seqK (k : FrK G) (K : ExK G) : ExK G := fun e fr bl ch => match e with
  | .normal => k fr bl ch
  | e => K e fr bl ch
def blkK (id : Nat) (K : ExK G) : ExK G := fun e fr bl ch => match e with
  | .exit j => cond (Nat.beq j id) (K .normal fr bl ch) (K (.exit j) fr bl ch)
  | e => K e fr bl ch
def lpB : Code → Option Code
  | .loop c => some c
  | _ => none
def lpK (I : Lp G) (x : I.X) (K : ExK G) : ExK G := fun e fr bl ch => match e with
  | .normal => I.en x fr bl ch
  | e => K e fr bl ch
def stepC (C : Ctx G) (rec : CodeK G) : CodeK G := fun c fr bl ch K => match c with
  | .skip => K .normal fr bl ch
  | .seq a b => rec a fr bl ch (seqK (fun fr bl ch => rec b fr bl ch K) K)
  | .cond x t f => (match x with
    | .tmp i => (match nth fr i with
      | .bool b => cond b (rec t (setV fr i (.bool true)) bl ch K) (rec f (setV fr i (.bool false)) bl ch K)
      | _ => False)
    | .const (.bool b) => cond b (rec t fr bl ch K) (rec f fr bl ch K)
    | _ => False)
  | .block id b => (match C.lp id fr with
    | some I => (match lpB b with
      | some c => I.en0 fr bl ch ∧ ∀ (x : I.X) (g : Nat → Value), rec c (fill (I.fr x) g 0) (I.bl x) (I.ch x) (lpK I x (blkK id K))
      | none => rec b fr bl ch (blkK id K))
    | none => rec b fr bl ch (blkK id K))
  | .loop b => rec b fr bl ch (seqK (fun fr bl ch => rec (.loop b) fr bl ch K) K)
  | .exit id => K (.exit id) fr bl ch
  | .ret => K .ret fr bl ch
  | .label _ => K .normal fr bl ch
  | .region _ ops false => vcL C (callF C rec) ops ops.toList fr bl ch fun fr bl ch => K .normal fr bl ch
  | .region _ ops true => vcD C (callF C rec) ops.toList (masks ops.toList []) fr bl ch fun fr bl ch => K .normal fr bl ch
  | _ => False
def vcC (C : Ctx G) (n : Nat) : CodeK G := Nat.rec (motive := fun _ => CodeK G) (fun _ _ _ _ _ => False) (fun _ ih => stepC C ih) n
def vcF (C : Ctx G) (n : Nat) (f : FuncId) (args : List V) (bl : List VB) (ch : List G) (K : VK G) : Prop := match C.P.funcs[f]? with
  | some fn => (match fn.body with
    | some c => vcC C n c (args ++ repU (fn.ntmps - args.length)) bl ch (retK C.P fn K)
    | none => False)
  | none => False
section
variable {C : Ctx G} {call : CallK G}
theorem len_all {n : Nat} {ts : List Nat} (h1 : ts.length = n) (h2 : ∀ i ∈ ts, i < n) (h3 : ts.Nodup) : ∀ i, i < n → i ∈ ts := by
  intro i hi
  obtain ⟨r, hr⟩ := sub_perm ts (List.range n) h3 (fun x hx => List.mem_range.2 (h2 x hx))
  have hlen := hr.length_eq
  simp [h1] at hlen
  subst hlen
  have hs : (List.range n).Perm ts := by simpa using hr
  exact hs.mem_iff.1 (List.mem_range.2 hi)
theorem DI.start {l : List Oper} {pm ts : List Nat} {R : List Blk} {ms : List Nat} {w0 w : World} {k : FrK G} {ids : List Nat} {bl : List VB} {ch : List G} {fr : List V}
    (hg : Gl C.gl ids) (hl : ids.length = bl.length) (S : St ms w0 (lits ids ids bl ++ nestB ch R) w) (hd : drawOk C C.q l pm ts fr.length = true) (hwf : wfL bl.length fr = true) (h : vcL C call l.toArray (sel l ts) fr bl ch k) :
    (DI C call C.q l pm R ms w0 k fr ids [] ts fr ids bl ch [] (Array.replicate l.length false) (act ids fr) { w with drawn := w.drawn + 1 } ∧ pmOk l pm = true ∧ edgesIn l l.length = true) ∧ C.P.follows .mixedOrders = true := by
  unfold drawOk drawOk1 at hd
  simp only [Bool.and_eq_true] at hd
  obtain ⟨⟨⟨⟨⟨⟨⟨⟨⟨d1, d2⟩, d3⟩, d4⟩, d5⟩, d6⟩, d7⟩, d8⟩, d10⟩, d9⟩ := hd
  have hlen := Nat.eq_of_beq_eq_true d4
  have hbnd : ∀ i ∈ ts, i < l.length := fun i hi => by have := List.all_eq_true.1 d5 i hi; rwa [Nat.blt_eq] at this
  have hnd := nodupN_iff d6
  have hff : ∀ j, j < l.length → (Array.replicate l.length false)[j]? = some false := fun j hj => by simp [Array.getElem?_replicate]; exact hj
  have hft : ∀ (j : Nat), (Array.replicate l.length false)[j]? = some true → False := fun j hj => by
    rw [Array.getElem?_replicate] at hj
    split at hj <;> simp at hj
  have S' : St ms w0 (lits ids ids bl ++ nestB ch R) { w with drawn := w.drawn + 1 } := S.quiet (Ch.refl [] w).drew
  exact ⟨⟨{ pairs := d7, aok := d8, cov := fun i hi => len_all hlen hbnd hnd i hi, bnd := hbnd, nd := hnd, ones := d9, irr := fun i hi => (by have := List.all_eq_true.1 d10 i hi; simpa using this), ls := (by simp), xin := fun i hi => (nomatch hi), xout := fun i hi _ => hff i (hbnd i hi), back := fun j hj => (hft j hj).elim, vc := h, sz := (by simp [act, denM_eq]), df := rfl, slot := fun t _ _ => nth_act t, old := fun i hi => (nomatch hi), nth0 := fun t _ => rfl, recs := fun i hi => (nomatch hi), zin := fun i hi hj => (hft i hj).elim, zout := fun p hp => (nomatch hp), znd := List.nodup_nil, S := (by simpa using S'), hl := hl, gl := hg, wf0 := (by rw [hl]; exact hwf), idp := ⟨[], by simp⟩ }, d1, d2⟩, d3⟩
theorem firstX_ok {l : List Oper} {pm : List Nat} {q : Nat → Bool} {i : Nat} {r : List Nat} : ∀ {ts : List Nat}, pairs2 (pairOk q l pm) ts = true → firstX l ts = some (i, r) → i ∈ ts ∧ isX (opAt l i) = true ∧ ∀ x ∈ ts, isX (opAt l x) = true → x = i ∨ pairOk q l pm i x = true
  | [], _, h => by cases h
  | y :: ts, hp, h => by
    simp only [pairs2, Bool.and_eq_true, List.all_eq_true] at hp
    unfold firstX at h
    cases hX : isX (opAt l y) with
    | true =>
      rw [hX] at h
      obtain ⟨rfl, rfl⟩ : y = i ∧ ts = r := by simpa using h
      exact ⟨by simp, hX, fun x hx _ => by rcases List.mem_cons.1 hx with e | hx; exact .inl e; exact .inr (hp.1 x hx)⟩
    | false =>
      rw [hX] at h
      obtain ⟨h1, h2, h3⟩ := firstX_ok hp.2 h
      exact ⟨List.mem_cons_of_mem _ h1, h2, fun x hx hx2 => by
        rcases List.mem_cons.1 hx with rfl | hx
        · rw [hX] at hx2; cases hx2
        · exact h3 x hx hx2⟩
theorem DI.head {q : Nat → Bool} {l : List Oper} {pm ts absd rest : List Nat} {R : List Blk} {ms : List Nat} {w0 w : World} {k : FrK G} {fr0 fr : List V} {ids0 ids : List Nat} {bl : List VB} {ch : List G} {Z : List (Nat × Blk)} {a : Act} {n i : Nat} {r : List Nat}
    (D : DI C call q l pm R ms w0 k fr0 ids0 absd rest fr ids bl ch Z (Array.replicate n false) a w) (hA : (l.all fun o => !(isA o)) = true) (hh : rest = [] ∨ ∃ i s, rest = i :: s ∧ isF (opAt l i) = false) (hp : pairs2 (pairOk q l pm) ts = true) (hts : ∀ x, x < l.length → x ∈ ts) (hX : firstX l ts = some (i, r)) (hi : i < l.length) :
    ∃ s, rest = i :: s ∧ isF (opAt l i) = false := by
  obtain ⟨_, h2, h3⟩ := firstX_ok hp hX
  have hm : i ∈ rest := by
    rcases List.mem_append.1 (D.cov i hi) with h | h
    · have := D.xin i h (by rcases cl_cases (opAt l i) with e | e | e <;> simp_all)
      rw [Array.getElem?_replicate] at this
      split at this <;> simp at this
    · exact h
  rcases hh with rfl | ⟨x, s, rfl, hf⟩
  · cases hm
  · have hx : isX (opAt l x) = true := by have := noA_at hA x; rcases cl_cases (opAt l x) with e | e | e <;> simp_all
    rcases List.mem_cons.1 hm with rfl | hm
    · exact ⟨s, rfl, hf⟩
    · exfalso
      have hxl : x < l.length := D.bnd x (by simp)
      have hps := (pairs2_app D.pairs).2.2
      simp only [pairs2, Bool.and_eq_true, List.all_eq_true] at hps
      have hb := (pairP (hps.1 i hm)).xj hx (noA_at hA i)
      rcases h3 x (hts x hxl) hx with rfl | h
      · have hnd := D.nd
        have := (List.nodup_append.1 hnd).2.1
        exact (List.nodup_cons.1 this).1 hm
      · rcases (pairP h).nx with this | ⟨h4, _⟩
        · rw [hb] at this; cases this
        · rw [noA_at hA] at h4; cases h4
def roundsI (rd : Option Nat) (P : Program) (c : Code) (Q : Exit → Act → World → Prop) : Nat → Act → World → Prop
  | 0, _, _ => False
  | n + 1, a, w => c.wpIn (FW rd) 0 P (Exit.then (roundsI rd P c Q n) Q) a w
theorem wpIn_loop_rounds {rd : Option Nat} {P : Program} {c : Code} {Q : Exit → Act → World → Prop} {a : Act} {w : World} (n : Nat) (h : roundsI rd P c Q n a w) : (Code.loop c).wpIn (FW rd) 0 P Q a w := by
  intro b k cs hro hb hr
  have key : ∀ n a w, roundsI rd P c Q n a w →
      ∃ e a' w', Q e a' w' ∧ ArrivesIn (Machine.fenced P (FW rd)) P (lone (b.atR a (.code c :: .inLoop c :: k)) cs w) b k cs e a' w' := by
    intro n
    induction n with
    | zero => intro a w h; exact h.elim
    | succ n ih =>
      intro a w h
      obtain ⟨e, a₁, w₁, hq, harr⟩ := h b (.inLoop c :: k) cs hro hb hr
      cases e with
      | normal =>
        obtain ⟨e₂, a₂, w₂, hq₂, harr₂⟩ := ih a₁ w₁ hq
        exact ⟨e₂, a₂, w₂, hq₂, .of_steps (StepsIn.trans harr (.one (fenced_calm hb hr rfl) stepR_inLoop)) harr₂⟩
      | exit id => exact ⟨_, a₁, w₁, hq, .pass (x := .inLoop c) rfl (fun _ _ => .inl (by simp)) harr⟩
      | goto l => exact ⟨_, a₁, w₁, hq, .pass (x := .inLoop c) rfl (fun _ _ => .inl (by simp)) harr⟩
      | ret => exact ⟨_, a₁, w₁, hq, .pass (x := .inLoop c) rfl (fun _ _ => .inl (by simp)) harr⟩
      | panic ch => exact ⟨_, a₁, w₁, hq, .pass (x := .inLoop c) rfl (fun _ _ => .inl (by simp)) harr⟩
      | outgrown => exact ⟨_, a₁, w₁, hq, .pass (x := .inLoop c) rfl (fun _ _ => .inl (by simp)) harr⟩
  obtain ⟨e, a', w', hq, harr⟩ := key n a w h
  exact ⟨e, a', w', hq, .of_steps (.one (fenced_calm hb hr rfl) stepR_loop) harr⟩
theorem vcD_ok {rd : Option Nat} (hc : CallOk C.P C.gl call) (hqk : QuietK C.q call) {id : Nat} {ops : Array Oper} {R : List Blk} {ms : List Nat} {w0 w : World} {Q : Exit → Act → World → Prop} {k : FrK G} {ids : List Nat} {bl : List VB} {ch : List G} {fr : List V}
    (hg : Gl C.gl ids) (hl : ids.length = bl.length) (S : St ms w0 (lits ids ids bl ++ nestB ch R) w) (h : vcD C call ops.toList (masks ops.toList []) fr bl ch k)
    (hk : ∀ fr' more bl' ch' w', (ids ++ more).length = bl'.length → St ms w0 (lits (ids ++ more) (ids ++ more) bl' ++ nestB ch' R) w' → k fr' bl' ch' → Q .normal (act (ids ++ more) fr') w') :
    (Code.region id ops true).wpIn (FW rd) 0 C.P Q (act ids fr) w := by
  unfold vcD vcD2 at h
  generalize hl0 : ops.toList = l at h
  generalize masks l [] = pm at h
  generalize schedOf l pm = ts at h
  have hops : ops = l.toArray := by rw [← hl0]
  subst hops
  cases hd : drawOk C C.q l pm ts fr.length && wfL bl.length fr with
  | true =>
    rw [hd] at h
    simp only [Bool.and_eq_true] at hd
    obtain ⟨⟨D, d1, d2⟩, d3⟩ := DI.start hg hl S hd.1 hd.2 h
    refine wpIn_region_any d3 ?_
    obtain ⟨absd, r, fr', D', hh⟩ := D.absorbFs ts
    exact drawn_any hc hqk d1 d2 hk _ D' hh (by simp [List.count_replicate_self])
  | false =>
    rw [hd] at h
    simp only [cond_false] at h
    unfold vcS at h
    split at h
    · rename_i i r1 hf1
      split at h
      · rename_i j r2 hf2
        unfold vcS2 vcS3 at h
        generalize masksU (addE l i j) [] pm = pm1 at h
        generalize masksU (addE l j i) [] pm = pm2 at h
        generalize schedOf (addE l i j) pm1 = ts1 at h
        generalize schedOf (addE l j i) pm2 = ts2 at h
        cases hq : okS C (addE l i j) pm1 ts1 i fr.length && (okS C (addE l j i) pm2 ts2 j fr.length && (!(Nat.beq i j) && wfL bl.length fr)) with
        | false => rw [hq] at h; exact h.elim
        | true =>
          rw [hq] at h
          simp only [Bool.and_eq_true, Bool.not_eq_true'] at hq
          obtain ⟨q1, q2, q3, q4⟩ := hq
          have hij : i ≠ j := fun e => by rw [e, Nat.beq_refl] at q3; cases q3
          unfold okS at q1 q2
          simp only [Bool.and_eq_true] at q1 q2
          obtain ⟨⟨a1, a2⟩, a3⟩ := q1
          obtain ⟨⟨c1, c2⟩, c3⟩ := q2
          obtain ⟨⟨D1, d1, d2⟩, d3⟩ := DI.start hg hl S a1 q4 h.1
          obtain ⟨⟨D2, e1, e2⟩, _⟩ := DI.start hg hl S c1 q4 h.2
          rw [addE_len] at D1 D2
          split at a3
          · rename_i x1 y1 g1
            obtain rfl := Nat.eq_of_beq_eq_true a3
            split at c3
            · rename_i x2 y2 g2
              obtain rfl := Nat.eq_of_beq_eq_true c3
              obtain ⟨ab1, rs1, f1, D1', h1⟩ := D1.absorbFs ts1
              obtain ⟨ab2, rs2, f2, D2', h2⟩ := D2.absorbFs ts2
              have p1 := firstX_ok D1.pairs g1
              have p2 := firstX_ok D2.pairs g2
              obtain ⟨s1, rfl, hn1⟩ := D1'.head a2 h1 D1.pairs (fun x hx => by simpa using D1.cov x hx) g1 (D1.bnd _ (by simpa using p1.1))
              obtain ⟨s2, rfl, hn2⟩ := D2'.head c2 h2 D2.pairs (fun x hx => by simpa using D2.cov x hx) g2 (D2.bnd _ (by simpa using p2.1))
              refine wpIn_region_any d3 ?_
              exact drawn_two hc hqk hij d1 d2 e1 e2 a2 c2 hk _ D1' hn1 D2' hn2 (by simp [List.count_replicate_self])
            · cases c3
          · cases a3
      · exact h.elim
    · exact h.elim
def QuietT (C : Ctx G) : Prop := ∀ f, C.q f = true → ∃ c, C.T f = some c ∧ ∀ args bl ch K, c args bl ch K → c args bl ch fun v bl' ch' => K v bl' ch' ∧ ∃ e, bl' = bl ++ e
theorem callF_quiet (hQ : QuietT C) {rec : CodeK G} : QuietK C.q (callF C rec) := by
  intro f hf args bl ch K h
  obtain ⟨c, hc, hq⟩ := hQ f hf
  unfold callF at h ⊢
  rw [hc] at h ⊢
  exact hq args bl ch K h
theorem denM_repU {ids : List Nat} (n : Nat) : denM ids (repU n) = List.replicate n undef := by
  induction n with
  | zero => rfl
  | succ n ih => simp [repU, denM, ih, List.replicate_succ, undefV, den]
theorem denM_app2 {ids : List Nat} (a b : List V) : denM ids (a ++ b) = denM ids a ++ denM ids b := by simp [denM_eq]
theorem resV_ok {P : Program} {ids : List Nat} {fr : List V} {bl : List VB} {R : List Blk} {ms : List Nat} {w0 w : World} (hl : ids.length = bl.length) (S : St ms w0 (lits ids ids bl ++ R) w) :
    ∀ (rs : List ResultVar) {vs : List V}, resV P fr bl rs = some vs → resAll P w (denM ids fr).toArray rs (denM ids vs)
  | [], vs, h => by simp only [resV, Option.some.injEq] at h; subst h; exact trivial
  | .tmp t :: l, vs, h => by
    simp only [resV] at h
    split at h
    · rename_i r hr
      simp only [Option.some.injEq] at h
      subst h
      refine ⟨?_, resV_ok hl S l hr⟩
      simp only [resOne, ← den_nth]
      rfl
    · cases h
  | .cell a t :: l, vs, h => by
    simp only [resV] at h
    split at h
    · rename_i v r hv hr
      simp only [Option.some.injEq] at h
      subst h
      refine ⟨?_, resV_ok hl S l hr⟩
      have h1 := ldV_ok (P := P) hl S hv
      have h2 : ∃ x, den ids (nth fr a) = .pointer (some x) := by
        unfold ldV at hv
        split at hv
        · rename_i i off hx; exact ⟨⟨ids.getD i 0, off, none⟩, by rw [hx]; simp only [den]⟩
        · cases hv
      obtain ⟨x, hx⟩ := h2
      rw [hx] at h1
      simp only [Instr.loadAt, Instr.sureAddr, Sem.run_bind, Sem.run_pure, Result.andThen_ok] at h1
      simp only [resOne, ← den_nth, hx, asAddr, Sem.run_bind, Sem.run_pure, Result.andThen_ok, h1]
    · cases h
theorem wrapV_ok {ids : List Nat} (vs : List V) : wrapUp (denM ids vs) = den ids (wrapV vs) := by
  match vs with
  | [] => rfl
  | [v] => rfl
  | _ :: _ :: _ => simp [denM, wrapUp, wrapV, den]
theorem retK_ok {P : Program} {fn : Func} {K : VK G} {e : Exit} {fr : List V} {bl : List VB} {ch : List G} {ids : List Nat} {R : List Blk} {ms : List Nat} {w0 w : World} (hl : ids.length = bl.length) (S : St ms w0 (lits ids ids bl ++ R) w)
    (h : retK P fn K e fr bl ch) {R' : Value → World → Prop} (hk : ∀ x, K x bl ch → R' (den ids x) w) : bodyPost P fn (fun e w' => ∃ v, e = .returned v ∧ R' v w') e (act ids fr) w := by
  have main : (match resV P fr bl fn.results.toList with | some vs => K (wrapV vs) bl ch | none => False) → ∃ v, (results fn (act ids fr).tmps).run P w = .ok v w ∧ R' v w := by
    intro h
    split at h
    · rename_i vs hvs
      exact ⟨_, res_ (fn := fn) fn.results.toList _ _ (resV_ok hl S _ hvs) (by simp) (wrapV_ok vs), hk _ h⟩
    · exact h.elim
  unfold retK at h
  split at h
  · obtain ⟨v, h1, h2⟩ := main h; exact ⟨rfl, v, h1, v, rfl, h2⟩
  · obtain ⟨v, h1, h2⟩ := main h; exact ⟨rfl, v, h1, v, rfl, h2⟩
  · exact h.elim
theorem frM_den {ids more : List Nat} : ∀ (l : List (Option V)) (fr : List V) (i : Nat) (g : Nat → Value), frM ids.length l fr → (∀ t, g (i + t) = den (ids ++ more) (nth fr t)) → denM (ids ++ more) fr = denM ids (fill l g i)
  | [], [], _, _, _, _ => by simp [fill, denM]
  | some v :: l, u :: fr, i, g, h, hg => by
    obtain ⟨rfl, hw, h⟩ := h
    simp only [fill, denM]
    rw [den_app u hw, frM_den l fr (i + 1) g h (fun t => by have := hg (t + 1); simp only [nth_nil, nth_zero, nth_succ] at this; rw [← this]; congr 1; omega)]
  | none :: l, u :: fr, i, g, h, hg => by
    simp only [fill, denM, den]
    rw [frM_den l fr (i + 1) g h (fun t => by have := hg (t + 1); simp only [nth_nil, nth_zero, nth_succ] at this; rw [← this]; congr 1; omega)]
    have := hg 0
    simp only [nth_nil, nth_zero, nth_succ, Nat.add_zero] at this
    rw [this]
  | [], _ :: _, _, _, h, _ => h.elim
  | some _ :: _, [], _, _, h, _ => h.elim
  | none :: _, [], _, _, h, _ => h.elim
theorem lits_cut (ids more : List Nat) (bl j : List VB) (hl : bl.length = ids.length) (hw : wfB ids.length bl = true) : lits (ids ++ more) (ids ++ more) (bl ++ j) = lits ids ids bl ++ lits (ids ++ more) more j := by
  rw [lits_app _ _ _ _ hl.symm, lits_ids _ _ hw]
theorem cutB {ms : List Nat} {w0 w : World} {A B R : List Blk} (S : St ms w0 ((A ++ B) ++ R) w) : St ms w0 (A ++ R) w := S.sub (List.Sublist.append_right (List.sublist_append_left A B) R)
def SoundN (C : Ctx G) (n : Nat) : Prop := ∀ (rd : Option Nat) (c : Code) {fr : List V} {bl : List VB} {ch : List G} {K : ExK G} {ids : List Nat} {R : List Blk} {ms : List Nat} {w0 w : World} {Q : Exit → Act → World → Prop},
  Gl C.gl ids → ids.length = bl.length → St ms w0 (lits ids ids bl ++ nestB ch R) w → vcC C n c fr bl ch K →
  (∀ e fr' more bl' ch' w', (ids ++ more).length = bl'.length → St ms w0 (lits (ids ++ more) (ids ++ more) bl' ++ nestB ch' R) w' → K e fr' bl' ch' → Q e (act (ids ++ more) fr') w') →
  c.wpIn (FW rd) 0 C.P Q (act ids fr) w ∧ (∀ b, c = .loop b → roundsI rd C.P b Q n (act ids fr) w)
theorem fn_ok {n : Nat} (ih : SoundN C n) {f : Nat} {fn : Func} {c : Code} (hf : C.P.funcs[f]? = some fn) (hb : fn.body = some c) {args : List V} {ids : List Nat} {bl : List VB} {ch : List G} {R : List Blk} {ms : List Nat} {w0 w : World} {K : VK G}
    (hg : Gl C.gl ids) (hl : ids.length = bl.length) (S : St ms w0 (lits ids ids bl ++ nestB ch R) w) (h : vcC C n c (args ++ repU (fn.ntmps - args.length)) bl ch (retK C.P fn K)) :
    Gives C.P f (denM ids args).toArray w fun v w' => ∃ x more bl' ch', v = den (ids ++ more) x ∧ (ids ++ more).length = bl'.length ∧ St ms w0 (lits (ids ++ more) (ids ++ more) bl' ++ nestB ch' R) w' ∧ K x bl' ch' := by
  refine calls_of_wp hf hb ?_
  have e : ({ tmps := (denM ids args).toArray ++ Array.replicate (fn.ntmps - (denM ids args).toArray.size) undef, defers := [] } : Act) = act ids (args ++ repU (fn.ntmps - args.length)) := by
    simp only [act, denM_app2, denM_repU]
    congr 1
    apply Array.ext'
    simp [denM_eq]
  rw [e]
  refine wpIn_wide (n := 0) |>.1 (ih none c hg hl S h ?_).1
  intro e fr' more bl' ch' w' g1 g2 g3
  refine retK_ok g1 g2 g3 ?_
  intro x hx
  exact ⟨x, more, bl', ch', rfl, g1, g2, hx⟩
theorem callF_ok {n : Nat} (hT : ∀ f c, C.T f = some c → Sound C.P C.gl f c) (ih : SoundN C n) : CallOk C.P C.gl (callF C (vcC C n)) := by
  intro f hf args ids bl ch R ms w0 w K hg hl S h
  unfold callF at h
  split at h
  · rename_i c hc
    exact hT f c hc args ids bl ch R ms w0 w K hg hl S h
  · split at h
    · rename_i fn hfn
      split at h
      · rename_i c hc
        exact fn_ok ih hfn hc hg hl S h
      · exact h.elim
    · exact h.elim
theorem nth_eval {ids : List Nat} {fr : List V} (i : Nat) : (act ids fr).eval (.tmp i) = den ids (nth fr i) := by simp only [Act.eval, act, den_nth]
theorem sound (hT : ∀ f c, C.T f = some c → Sound C.P C.gl f c) (hQ : QuietT C) : ∀ n, SoundN C n := by
  intro n
  induction n with
  | zero => intro rd c fr bl ch K ids R ms w0 w Q hg hl S h; exact h.elim
  | succ n ih =>
    intro rd c fr bl ch K ids R ms w0 w Q hg hl S h hk
    replace h : stepC C (vcC C n) c fr bl ch K := h
    generalize hrec : vcC C n = rec at h
    have ih' : ∀ (c : Code) {fr : List V} {bl : List VB} {ch : List G} {K : ExK G} {ids : List Nat} {R : List Blk} {ms : List Nat} {w0 w : World} {Q : Exit → Act → World → Prop}, Gl C.gl ids → ids.length = bl.length → St ms w0 (lits ids ids bl ++ nestB ch R) w → rec c fr bl ch K → (∀ e fr' more bl' ch' w', (ids ++ more).length = bl'.length → St ms w0 (lits (ids ++ more) (ids ++ more) bl' ++ nestB ch' R) w' → K e fr' bl' ch' → Q e (act (ids ++ more) fr') w') → c.wpIn (FW rd) 0 C.P Q (act ids fr) w ∧ (∀ b, c = .loop b → roundsI rd C.P b Q n (act ids fr) w) := by rw [← hrec]; exact ih rd
    have hk0 : ∀ e, K e fr bl ch → Q e (act ids fr) w := fun e he => by
      have := hk e fr [] bl ch w (by simpa using hl) (by simpa using S) he
      simpa using this
    have trans : ∀ {more : List Nat} {e : Exit} {fr' : List V} {bl' : List VB} {ch' : List G} {w' : World}, (∀ e fr2 more2 bl2 ch2 w2, ((ids ++ more) ++ more2).length = bl2.length → St ms w0 (lits ((ids ++ more) ++ more2) ((ids ++ more) ++ more2) bl2 ++ nestB ch2 R) w2 → K e fr2 bl2 ch2 → Q e (act ((ids ++ more) ++ more2) fr2) w2) := by
      intro more e fr' bl' ch' w' e fr2 more2 bl2 ch2 w2 g1 g2 g3
      rw [List.append_assoc] at g1 g2 ⊢
      exact hk e fr2 (more ++ more2) bl2 ch2 w2 g1 g2 g3
    cases c with
    | skip => exact ⟨wpIn_skip (hk0 _ h), fun b e => nomatch e⟩
    | seq a b =>
      refine ⟨?_, fun b e => nomatch e⟩
      refine wpIn_seq ((ih' a hg hl S h ?_).1)
      intro e fr' more bl' ch' w' g1 g2 g3
      cases e with
      | normal => exact (ih' b (hg.app more) g1 g2 g3 (trans (e := .normal) (fr' := fr') (bl' := bl') (ch' := ch') (w' := w'))).1
      | _ => exact hk _ fr' more bl' ch' w' g1 g2 g3
    | cond x t f =>
      refine ⟨?_, fun b e => nomatch e⟩
      unfold stepC at h
      dsimp only at h
      split at h
      · rename_i i
        split at h
        · rename_i b hb
          have hs := setV_nth fr i
          rw [hb] at hs
          have hev : (act ids fr).eval (.tmp i) = .bool b := by rw [nth_eval, hb]; simp only [den]
          cases b with
          | true => rw [hs] at h; exact wpIn_cond_true hev (ih' t hg hl S h hk).1
          | false => rw [hs] at h; exact wpIn_cond_false hev (ih' f hg hl S h hk).1
        · exact h.elim
      · rename_i b
        cases b with
        | true => exact wpIn_cond_true rfl (ih' t hg hl S h hk).1
        | false => exact wpIn_cond_false rfl (ih' f hg hl S h hk).1
      · exact h.elim
    | block id b =>
      refine ⟨?_, fun b e => nomatch e⟩
      have fin : ∀ e fr' more bl' ch' w', (ids ++ more).length = bl'.length → St ms w0 (lits (ids ++ more) (ids ++ more) bl' ++ nestB ch' R) w' → blkK id K e fr' bl' ch' → Exit.inBlock id Q e (act (ids ++ more) fr') w' := by
        intro e fr' more bl' ch' w' g1 g2 g3
        cases e with
        | exit j =>
          simp only [blkK] at g3
          unfold Exit.inBlock
          by_cases hj : j = id
          · subst hj
            rw [Nat.beq_refl] at g3
            simp only [if_true]
            exact hk _ _ _ _ _ _ g1 g2 g3
          · have : Nat.beq j id = false := by
              cases hb : Nat.beq j id with
              | true => exact absurd (Nat.eq_of_beq_eq_true hb) hj
              | false => rfl
            rw [this] at g3
            simp only [if_neg hj]
            exact hk _ _ _ _ _ _ g1 g2 g3
        | _ => exact hk _ _ _ _ _ _ g1 g2 g3
      unfold stepC at h
      dsimp only at h
      split at h
      · rename_i I hI
        split at h
        · rename_i c hc
          obtain rfl : b = .loop c := by
            unfold lpB at hc
            split at hc
            · cases hc; rfl
            · cases hc
          obtain ⟨h0, hx⟩ := h
          have key : ∀ N (x : I.X) (g : Nat → Value) w', I.m x < N → (I.bl x).length = ids.length → St ms w0 (lits ids ids (I.bl x) ++ nestB (I.ch x) R) w' → roundsI rd C.P c (Exit.inBlock id Q) N (act ids (fill (I.fr x) g 0)) w' := by
            intro N
            induction N with
            | zero => intro x g w' hN; omega
            | succ N ihN =>
              intro x g w' hN hlx Sx
              refine (ih' c hg hlx.symm Sx (hx x g) ?_).1
              intro e fr' more bl' ch' w2 g1 g2 g3
              cases e with
              | normal =>
                obtain ⟨y, hm, hf, hly, hwf, ⟨j, rfl⟩, rfl⟩ := I.ok x fr' bl' ch' g3
                have e1 : act (ids ++ more) fr' = act ids (fill (I.fr y) (fun t => den (ids ++ more) (nth fr' t)) 0) := by
                  simp only [act]
                  rw [frM_den (I.fr y) fr' 0 (fun t => den (ids ++ more) (nth fr' t)) (by rw [← hlx]; exact hf) (fun t => by simp)]
                show roundsI rd C.P c _ N (act (ids ++ more) fr') w2
                rw [e1]
                refine ihN y _ w2 (by omega) (hly.trans hlx) ?_
                rw [hlx] at hwf hly
                rw [lits_cut ids more (I.bl y) j hly hwf] at g2
                exact cutB g2
              | _ => exact fin _ fr' more bl' ch' w2 g1 g2 (by first | exact g3 | (unfold lpK at g3; exact g3))
          obtain ⟨x0, hf, rfl, rfl⟩ := I.ok0 fr bl ch h0
          refine wpIn_block (wpIn_loop_rounds (I.m x0 + 1) ?_)
          have e1 : act ids fr = act ids (fill (I.fr x0) (fun t => den ids (nth fr t)) 0) := by
            have := frM_den (ids := ids) (more := []) (I.fr x0) fr 0 (fun t => den ids (nth fr t)) (by rw [hl]; exact hf) (fun t => by simp)
            simp only [act]
            simp only [List.append_nil] at this
            rw [this]
          rw [e1]
          exact key _ x0 _ w (Nat.lt_succ_self _) hl.symm S
        · exact wpIn_block ((ih' b hg hl S h fin).1)
      · exact wpIn_block ((ih' b hg hl S h fin).1)
    | loop b =>
      have key : roundsI rd C.P b Q (n + 1) (act ids fr) w := by
        refine (ih' b hg hl S h ?_).1
        intro e fr' more bl' ch' w' g1 g2 g3
        cases e with
        | normal => exact (ih' (.loop b) (hg.app more) g1 g2 g3 (trans (e := .normal) (fr' := fr') (bl' := bl') (ch' := ch') (w' := w'))).2 b rfl
        | _ => exact hk _ fr' more bl' ch' w' g1 g2 g3
      exact ⟨wpIn_loop_rounds (n + 1) key, fun b' e => by cases e; exact key⟩
    | exit id => exact ⟨wpIn_exit (hk0 _ h), fun b e => nomatch e⟩
    | label l => exact ⟨wpIn_label (hk0 _ h), fun b e => nomatch e⟩
    | ret => exact ⟨wpIn_ret (hk0 _ h), fun b e => nomatch e⟩
    | region id ops d =>
      refine ⟨?_, fun b e => nomatch e⟩
      cases d with
      | true => exact vcD_ok (hrec ▸ callF_ok hT ih) (callF_quiet hQ) hg hl S h (fun fr' more bl' ch' w' g1 g2 g3 => hk _ _ _ _ _ _ g1 g2 g3)
      | false =>
        refine wpIn_region_list ?_
        exact (vcL_ok (callF_ok hT ih) ops.toList hg hl S (by rw [hrec]; exact h) (fun fr' more bl' ch' w' g1 g2 g3 => hk _ _ _ _ _ _ g1 g2 g3)).out
    | _ => exact h.elim
theorem vcF_ok (hT : ∀ f c, C.T f = some c → Sound C.P C.gl f c) (hQ : QuietT C) (n : Nat) {f : Nat} {args : List V} {ids : List Nat} {bl : List VB} {ch : List G} {R : List Blk} {ms : List Nat} {w0 w : World} {K : VK G}
    (hg : Gl C.gl ids) (hl : ids.length = bl.length) (S : St ms w0 (lits ids ids bl ++ nestB ch R) w) (h : vcF C n f args bl ch K) :
    Gives C.P f (denM ids args).toArray w fun v w' => ∃ x more bl' ch', v = den (ids ++ more) x ∧ (ids ++ more).length = bl'.length ∧ St ms w0 (lits (ids ++ more) (ids ++ more) bl' ++ nestB ch' R) w' ∧ K x bl' ch' := by
  unfold vcF at h
  split at h
  · rename_i fn hf
    split at h
    · rename_i c hb
      exact fn_ok (sound hT hQ n) hf hb hg hl S h
    · exact h.elim
  · exact h.elim
end
end Vx
noncomputable section
namespace Vx
open Go Go.RowKit Go.BigFrame Sx
variable {G : Type} [Bl G]
structure Ent (G : Type) where
  f : FuncId
  q : Bool
  c : CTr G
def lkT : List (Ent G) → FuncId → Option (CTr G)
  | [], _ => none
  | e :: l, f => bif Nat.beq e.f f then some e.c else lkT l f
def lkQ : List (Ent G) → FuncId → Bool
  | [], _ => false
  | e :: l, f => bif Nat.beq e.f f then e.q else lkQ l f
def mkC (P : Program) (gl : Nat → Option Nat) (L : List (Ent G)) : Ctx G := ⟨P, lkT L, gl, lkQ L, noH, noH_ok, fun _ _ => none, noY, noY_ok⟩
def QuietC (c : CTr G) : Prop := ∀ args bl ch K, c args bl ch K → c args bl ch fun v bl' ch' => K v bl' ch' ∧ ∃ e, bl' = bl ++ e
def EntOk (P : Program) (gl : Nat → Option Nat) (e : Ent G) : Prop := Sound P gl e.f e.c ∧ (e.q = true → QuietC e.c)
def AllOk (P : Program) (gl : Nat → Option Nat) (L : List (Ent G)) : Prop := ∀ e ∈ L, EntOk P gl e
theorem AllOk.nil {P : Program} {gl : Nat → Option Nat} : AllOk (G := G) P gl [] := fun e h => nomatch h
theorem AllOk.cons {P : Program} {gl : Nat → Option Nat} {e : Ent G} {L : List (Ent G)} (h : EntOk P gl e) (k : AllOk P gl L) : AllOk P gl (e :: L) := fun x hx => by
  rcases List.mem_cons.1 hx with rfl | hx
  · exact h
  · exact k x hx
theorem AllOk.app {P : Program} {gl : Nat → Option Nat} {L M : List (Ent G)} (h : AllOk P gl L) (k : AllOk P gl M) : AllOk P gl (L ++ M) := fun x hx => by
  rcases List.mem_append.1 hx with hx | hx
  · exact h x hx
  · exact k x hx
theorem AllOk.T {P : Program} {gl : Nat → Option Nat} {L : List (Ent G)} (h : AllOk P gl L) : ∀ f c, (mkC P gl L).T f = some c → Sound (mkC P gl L).P (mkC P gl L).gl f c := by
  intro f c hc
  replace hc : lkT L f = some c := hc
  show Sound P gl f c
  induction L with
  | nil => cases hc
  | cons e L ih =>
    unfold lkT at hc
    cases hb : Nat.beq e.f f with
    | true =>
      rw [hb] at hc
      obtain rfl : e.c = c := by simpa using hc
      obtain rfl := Nat.eq_of_beq_eq_true hb
      exact (h e (by simp)).1
    | false =>
      rw [hb] at hc
      exact ih (fun x hx => h x (by simp [hx])) hc
theorem AllOk.Q {P : Program} {gl : Nat → Option Nat} {L : List (Ent G)} (h : AllOk P gl L) : QuietT (mkC P gl L) := by
  intro f hf
  replace hf : lkQ L f = true := hf
  show ∃ c, lkT L f = some c ∧ _
  induction L with
  | nil => cases hf
  | cons e L ih =>
    unfold lkQ at hf
    unfold lkT
    cases hb : Nat.beq e.f f with
    | true =>
      rw [hb] at hf
      exact ⟨e.c, rfl, (h e (by simp)).2 (by simpa using hf)⟩
    | false =>
      rw [hb] at hf
      exact ih (fun x hx => h x (by simp [hx])) hf
def qC (F : List V → List VB → Option (Prop × V)) : CTr G := fun args bl ch K => match F args bl with
  | some (p, v) => p ∧ K v bl ch
  | none => False
theorem qC_quiet (F : List V → List VB → Option (Prop × V)) : QuietC (G := G) (qC F) := by
  intro args bl ch K h
  unfold qC at h ⊢
  split at h
  · exact ⟨h.1, h.2, [], by simp⟩
  · exact h
def Mem (ids : List Nat) (bl : List VB) (w : World) : Prop := ids.length = bl.length ∧ ∀ (i : Nat) (b : VB), bl[i]? = some b → w.heap[ids.getD i 0]? = some (.cells (denC ids b.c).toArray b.ty.t b.ty.fz)
structure QF where
  f : FuncId
  F : List V → List VB → Option (Prop × V)
def QF.Ok (P : Program) (gl : Nat → Option Nat) (q : QF) : Prop := ∀ args bl p v, q.F args bl = some (p, v) → p → ∀ ids w, Gl gl ids → Mem ids bl w → Gives P q.f (denM ids args).toArray w fun x w' => x = den ids v ∧ Ch [] w w'
theorem qC_sound {P : Program} {gl : Nat → Option Nat} {q : QF} (h : q.Ok P gl) : Sound P gl q.f (qC (G := G) q.F) := by
  intro args ids bl ch R ms w0 w K hg hl S hc
  unfold qC at hc
  split at hc
  · rename_i p v hF
    refine (h args bl p v hF hc.1 ids w hg ⟨hl, fun i b hb => (at_lit hl S hb).2⟩).mono ?_
    rintro x w' ⟨rfl, hch⟩
    exact ⟨v, [], bl, ch, by simp, by simpa using hl, by simpa using S.quiet hch, hc.2⟩
  · exact hc.elim
def qE (G : Type) [Bl G] (q : QF) : Ent G := ⟨q.f, true, qC q.F⟩
def qL (G : Type) [Bl G] : List QF → List (Ent G)
  | [] => []
  | q :: l => qE G q :: qL G l
def QAll (P : Program) (gl : Nat → Option Nat) (L : List QF) : Prop := ∀ q ∈ L, QF.Ok P gl q
theorem qL_ok {P : Program} {gl : Nat → Option Nat} : ∀ {L : List QF}, QAll P gl L → AllOk (G := G) P gl (qL G L)
  | [], _ => AllOk.nil
  | q :: l, h => AllOk.cons ⟨qC_sound (h q (by simp)), fun _ => qC_quiet q.F⟩ (qL_ok fun x hx => h x (by simp [hx]))
theorem QAll.nil {P : Program} {gl : Nat → Option Nat} : QAll P gl [] := fun e h => nomatch h
theorem QAll.cons {P : Program} {gl : Nat → Option Nat} {e : QF} {L : List QF} (h : e.Ok P gl) (k : QAll P gl L) : QAll P gl (e :: L) := fun x hx => by
  rcases List.mem_cons.1 hx with rfl | hx
  · exact h
  · exact k x hx
theorem QAll.app {P : Program} {gl : Nat → Option Nat} {L M : List QF} (h : QAll P gl L) (k : QAll P gl M) : QAll P gl (L ++ M) := fun x hx => by
  rcases List.mem_append.1 hx with hx | hx
  · exact h x hx
  · exact k x hx
instance : Bl Empty := ⟨fun _ => []⟩
def vcQ (P : Program) (L : List QF) (n : Nat) (f : FuncId) (args : List V) (X : V → Prop) : Prop := vcF (mkC P (fun _ => none) (qL Empty L)) n f args [] [] fun v _ _ => X v
theorem Gl.no {ids : List Nat} : Gl (fun _ => none) ids := fun g i h => nomatch h
theorem vcQ_ok {P : Program} {L : List QF} (hL : QAll P (fun _ => none) L) (n : Nat) {f : Nat} {args : List V} {v : V} (h : vcQ P L n f args (· = v)) (ha : wfL 0 args = true) (hv : wfV 0 v = true) (ids : List Nat) (w : World) :
    Gives P f (denM ids args).toArray w fun x w' => x = den ids v ∧ Ch [] w w' := by
  have e1 : denM ids args = denM [] args := by have := denM_app (ids := []) (more := ids) args ha; simpa using this
  have e2 : ∀ is, den is v = den [] v := fun is => by have := den_app (ids := []) (more := is) v hv; simpa using this
  rw [e1]
  refine (vcF_ok (qL_ok hL).T (qL_ok hL).Q n (C := mkC P (fun _ => none) (qL Empty L)) (ids := []) (bl := []) (ch := []) (R := []) (ms := []) (w0 := w) (w := w) Gl.no rfl (St.nil [] w) h).mono ?_
  rintro x w' ⟨y, more, bl', ch', rfl, h1, S, rfl⟩
  exact ⟨by rw [e2 ids, e2], S.ch⟩
theorem cnd {b : Bool} {X Y : Prop} (h : b = true → X) (k : b = false → Y) : cond b X Y := by cases b; exact k rfl; exact h rfl
theorem by_eq {X Y : (V → Prop) → Prop} (h : X = Y) {K : V → Prop} (k : Y K) : X K := by rw [h]; exact k
end Vx
noncomputable section
namespace Vx
open Go Go.RowKit Go.BigFrame Sx
structure RowG where
  T : TypeId
  z : Nat
  os : List Value
  x : Option Addr
  n : Nat
  c : Nat
  bl : List Blk
  h : rowv z T os x n c bl
instance : Bl RowG := ⟨fun g => g.bl⟩
def RowG.v (g : RowG) : V := .raw (.slice g.x g.n g.c)
def RowG.nil (T z : Nat) : RowG := ⟨T, z, [], none, 0, 0, [], rowv_nil z T⟩
def rowInfo (P : Program) (T : TypeId) : Option (Nat × Nat) := match P.info? T with
  | some i => (match i.zero with
    | some v => bif Nat.beq v.cells.size i.size then some (i.size, i.bytes) else none
    | none => none)
  | none => none
def appR (T z : Nat) (s : V) (m : Nat) (news : List Value) (bl : List VB) (K : VK RowG) : List RowG → List RowG → Prop
  | _, [] => False
  | pre, g :: l => bif Nat.beq g.T T then cond (Nat.beq g.z z) ((s = g.v ∧ g.n + m ≤ 1000000) ∧ ∀ (x : Option Addr) (c : Nat) (bk : List Blk) (h : rowv g.z g.T (g.os ++ news) x (g.n + m) c bk), K (.raw (.slice x (g.n + m) c)) bl (pre ++ ⟨g.T, g.z, g.os ++ news, x, g.n + m, c, bk, h⟩ :: l)) False
      else appR T z s m news bl K (pre ++ [g]) l
def appH (P : Program) : (Operand → V) → Op → List VB → List RowG → VK RowG → Prop := fun e op bl ch K => match op with
  | .call c => (match c.callee, c.args.toList, c.argTypes.toList with
    | .builtin .append, [s, xs], [t, tx] => (match P.underlying t, P.underlying tx with
      | some (.slice T), some (.slice _) => (match rowInfo P T, e xs with
        | some (z, by_), .sl i 0 m _ => (match bl[i]? with
          | some b => cond (Nat.beq (szL b.c) (m * z) && (wfL 0 b.c && (oneL b.c && Nat.ble by_ 10000000))) (appR T z (e s) m (denC [] b.c) bl K [] ch) False
          | none => False)
        | _, _ => False)
      | _, _ => False)
    | _, _, _ => False)
  | _ => False
theorem nestB_app {G : Type} [Bl G] (R : List Blk) : ∀ (a b : List G), nestB (a ++ b) R = nestB a (nestB b R)
  | [], b => rfl
  | g :: a, b => by simp only [List.cons_append, nestB, nestB_app R a b]
theorem nestB_flat {G : Type} [Bl G] (R : List Blk) : ∀ (a : List G), nestB a R = nestB a [] ++ R
  | [] => rfl
  | g :: a => by simp only [nestB, nestB_flat R a, List.append_assoc]
theorem appR_get {T z : Nat} {s : V} {m : Nat} {news : List Value} {bl : List VB} {K : VK RowG} : ∀ (ch pre : List RowG), appR T z s m news bl K pre ch → ∃ (l1 : List RowG) (g : RowG) (l2 : List RowG), ch = l1 ++ g :: l2 ∧ g.T = T ∧ g.z = z ∧ s = g.v ∧ g.n + m ≤ 1000000 ∧
    ∀ (x : Option Addr) (c : Nat) (bk : List Blk) (h : rowv g.z g.T (g.os ++ news) x (g.n + m) c bk), K (.raw (.slice x (g.n + m) c)) bl ((pre ++ l1) ++ ⟨g.T, g.z, g.os ++ news, x, g.n + m, c, bk, h⟩ :: l2)
  | [], pre, h => h.elim
  | g :: l, pre, h => by
    unfold appR at h
    cases hb : Nat.beq g.T T with
    | true =>
      rw [hb] at h
      simp only [cond_true] at h
      cases hz : Nat.beq g.z z with
      | false => rw [hz] at h; exact h.elim
      | true =>
        rw [hz] at h
        exact ⟨[], g, l, rfl, Nat.eq_of_beq_eq_true hb, Nat.eq_of_beq_eq_true hz, h.1.1, h.1.2, by simpa using h.2⟩
    | false =>
      rw [hb] at h
      obtain ⟨l1, g', l2, rfl, h1, h2, h3, h4, h5⟩ := appR_get l _ h
      refine ⟨g :: l1, g', l2, rfl, h1, h2, h3, h4, ?_⟩
      intro x c bk hh
      have := h5 x c bk hh
      simpa [List.append_assoc] using this
theorem appH_ok {P : Program} {gl : Nat → Option Nat} : HOk P gl (appH P) := by
  intro e op ids bl ch R ms w0 w K ρ o hg hl S hρ ho h
  unfold appH at h
  split at h
  · rename_i c
    split at h
    · rename_i s xs t tx hcal hargs hts
      split at h
      · rename_i T T' ht htx
        split at h
        · rename_i z by_ i m cc hinfo hxs
          split at h
          · rename_i b hb
            cases hq : Nat.beq (szL b.c) (m * z) && (wfL 0 b.c && (oneL b.c && Nat.ble by_ 10000000)) with
            | false => rw [hq] at h; exact h.elim
            | true =>
              rw [hq] at h
              simp only [cond_true] at h
              simp only [Bool.and_eq_true] at hq
              obtain ⟨q1, q2, q3, q4⟩ := hq
              have q1 := Nat.eq_of_beq_eq_true q1
              have q4 := Nat.le_of_ble_eq_true q4
              obtain ⟨l1, g, l2, rfl, rfl, rfl, hs, hn, hK⟩ := appR_get _ _ h
              have hi : (P.info? g.T).map (fun i => (i.zero.map (·.cells.size), i.size, i.bytes)) = some (some g.z, g.z, by_) := by
                unfold rowInfo at hinfo
                split at hinfo
                · rename_i inf hinf
                  split at hinfo
                  · rename_i v hv
                    cases hbq : Nat.beq v.cells.size inf.size with
                    | false => rw [hbq] at hinfo; simp at hinfo
                    | true =>
                      rw [hbq] at hinfo
                      simp only [cond_true, Option.some.injEq, Prod.mk.injEq] at hinfo
                      have := Nat.eq_of_beq_eq_true hbq
                      simp [hinf, hv, this, hinfo.1, hinfo.2]
                  · cases hinfo
                · cases hinfo
              have hd : denC ids b.c = denC [] b.c := by have := denC_app (ids := []) (more := ids) b.c q2; simpa using this
              have hat := (at_lit hl S hb).2
              have hlen : (denC [] b.c).length = m * g.z := by rw [← q1]; exact denC_len b.c
              have hsrc : Src P g.z tx (.slice (some ⟨ids.getD i 0, 0, none⟩) m cc) m (denC [] b.c) w := by
                refine Src.ofSlice w htx ⟨ids.getD i 0, 0, none⟩ m cc _ hlen (fun j u hj => ?_) (fun u hu => oneL_ok q3 u hu)
                rw [Addr.add_lit, cell_of hat, hd]
                simpa using hj
              have e1 : lits ids ids bl ++ nestB (l1 ++ g :: l2) R = (lits ids ids bl ++ nestB l1 []) ++ (g.bl ++ nestB l2 R) := by
                rw [nestB_app, nestB_flat (nestB (g :: l2) R) l1]; simp only [nestB, List.append_assoc]; rfl
              rw [e1] at S
              have hb1 : (g.n + m) * by_ ≤ 140737488355328 := Nat.le_trans (Nat.mul_le_mul hn q4) (by decide)
              obtain ⟨v, w', hrun, hc, x', c', bl', rfl, hr', hat'⟩ := run_appendR (P := P) (ty := o.type) g.h (fun y hy => S.at' (by simp [hy])) by_ hsrc ht hi hb1 (Nat.le_trans hn (by decide))
              have S2 := S.redo g.h.wr hc (fun y hy => (hat' y hy).1) (fun y hy => (hat' y hy).2) hr'.pw
              refine ⟨_, [], bl, _, w', .inl ?_, by simpa using hl, ?_, hK x' c' bl' hr'⟩
              · obtain ⟨cal, ar, ats⟩ := c
                simp only at hcal hargs hts
                have e2 : ar = #[s, xs] := by rw [← hargs]
                have e3 : ats = #[t, tx] := by rw [← hts]
                subst hcal e2 e3
                have := append_op (P := P) (ρ := ρ) (o := o) ho (sv := .slice g.x g.n g.c) (xv := .slice (some ⟨ids.getD i 0, 0, none⟩) m cc) (by rw [hρ, hs]; simp only [RowG.v, den]) (by rw [hρ, hxs]; simp only [den]) hrun
                simpa [den] using this
              · rw [List.append_nil]
                have e4 : lits ids ids bl ++ nestB (([] ++ l1) ++ ⟨g.T, g.z, g.os ++ denC [] b.c, x', g.n + m, c', bl', hr'⟩ :: l2) R = (lits ids ids bl ++ nestB l1 []) ++ (bl' ++ nestB l2 R) := by
                  rw [List.nil_append, nestB_app, nestB_flat (nestB (_ :: l2) R) l1]; simp only [nestB, List.append_assoc]; rfl
                rw [e4]; exact S2
          · exact h.elim
        · exact h.elim
      · exact h.elim
    · exact h.elim
  · exact h.elim
def mkR (P : Program) (gl : Nat → Option Nat) (L : List (Ent RowG)) : Ctx RowG := ⟨P, lkT L, gl, lkQ L, appH P, appH_ok, fun _ _ => none, noY, noY_ok⟩
theorem AllOk.TR {P : Program} {gl : Nat → Option Nat} {L : List (Ent RowG)} (h : AllOk P gl L) : ∀ f c, (mkR P gl L).T f = some c → Sound (mkR P gl L).P (mkR P gl L).gl f c := h.T
theorem AllOk.QR {P : Program} {gl : Nat → Option Nat} {L : List (Ent RowG)} (h : AllOk P gl L) : QuietT (mkR P gl L) := h.Q
end Vx
noncomputable section
namespace Vx
open Go Go.RowKit Go.BigFrame Sx
theorem run_append_at {P : Program} {w : World} {z T n c m b : Nat} {olds tail news : List Value} (hlen : olds.length = n * z) (hcl : (olds ++ tail).length = c * z) (hnc : n ≤ c) (hat : w.heap[b]? = some (.cells (olds ++ tail).toArray T (0, 0)))
    {t tx ty : TypeId} {xv : Value} (bytes : Nat) (hs : Src P z tx xv m news w) (hm0 : 0 < m) (ht : P.underlying t = some (.slice T)) (hi : (P.info? T).map (fun i => (i.zero.map (·.cells.size), i.size, i.bytes)) = some (some z, z, bytes))
    (hb : (n + m) * bytes ≤ 140737488355328) (h63 : n + m ≤ maxLen) :
    (∃ w', (Builtin.append_ #[t, tx] ty #[.slice (some ⟨b, 0, none⟩) n c, xv]).run P w = .ok (.slice (some ⟨b, 0, none⟩) (n + m) c) w' ∧ Ch [b] w w' ∧ w'.heap[b]? = some (.cells ((olds ++ news) ++ tail.drop news.length).toArray T (0, 0)) ∧ n + m ≤ c) ∨
    (∃ b' c' tail' w', (Builtin.append_ #[t, tx] ty #[.slice (some ⟨b, 0, none⟩) n c, xv]).run P w = .ok (.slice (some ⟨b', 0, none⟩) (n + m) c') w' ∧ Ch [] w w' ∧ w.heap.size ≤ b' ∧ w'.heap[b']? = some (.cells ((olds ++ news) ++ tail').toArray T (0, 0)) ∧
      ((olds ++ news) ++ tail').length = c' * z ∧ n + m ≤ c') := by
  obtain ⟨i, hinfo, hi⟩ := Option.map_eq_some_iff.1 hi
  simp only [Prod.mk.injEq] at hi
  obtain ⟨hz, hsz, hby⟩ := hi
  obtain ⟨z0, hz0, hzs⟩ := Option.map_eq_some_iff.1 hz
  have hnl := hs.newsLen
  have hs' : Src P i.size tx xv m news w := by rw [hsz]; exact hs
  by_cases hroom : n + m ≤ c
  · left
    have hbd : n * z + news.length ≤ (olds ++ tail).length := by
      rw [hcl, hnl, ← Nat.add_mul]; exact Nat.mul_le_mul_right _ hroom
    have hst := run_storeCells_at (P := P) b (n * z) T news 0 (olds ++ tail).toArray w hat (by simpa using hbd) hs.one
    simp only [Nat.add_zero] at hst
    have hrun : (Builtin.append_ #[t, tx] ty #[.slice (some ⟨b, 0, none⟩) n c, xv]).run P w = .ok (.slice (some ⟨b, 0, none⟩) (n + m) c) (w.setRow b ((olds ++ tail).take (n * z) ++ news ++ (olds ++ tail).drop (n * z + news.length)).toArray) := by
      rcases hs'.kind with ⟨e', hk⟩ | hk <;> simp [Builtin.append_, run_underlying ht, run_underlying hk, Go.sizeOf, typeInfo, hinfo, hs'.len, hroom, hs.cells, Addr.add_lit, hsz, hst, Result.andThen]
    refine ⟨_, hrun, by simpa using Ch.setRow w b _, ?_, hroom⟩
    have := setRow_heap w b (olds ++ tail).toArray ((olds ++ tail).take (n * z) ++ news ++ (olds ++ tail).drop (n * z + news.length)).toArray T (0, 0) hat
    rw [this]
    congr 3
    rw [← hlen, List.take_left, List.drop_append, List.drop_eq_nil_of_le (by omega)]
    simp
  · right
    have hg : c < n + m := by omega
    have hold : (Builtin.firstCells i.size n (.slice (some ⟨b, 0, none⟩) n c)).run P w.drew = .ok olds.toArray w.drew := by
      refine run_firstCells_some (P := P) w.drew i.size n ⟨b, 0, none⟩ n c olds (by rw [hlen, hsz]) (fun j v hj => ?_)
      rw [Addr.add_lit]
      have : w.drew.cell? ⟨b, 0 + j, none⟩ = w.cell? ⟨b, j, none⟩ := by simp
      rw [this, cell_of hat]
      have hj' : j < olds.length := by
        rcases Nat.lt_or_ge j olds.length with h | h
        · exact h
        · simp [h] at hj
      simp [List.getElem?_append_left hj', hj]
    have hrun := run_append_grow_src (P := P) w t tx ty T i z0 ht hinfo hz0 (some ⟨b, 0, none⟩) n c olds hold xv m news hs' hg (by simp only [maxLen] at h63; omega) (by rw [hby]; exact growslice_fits hg hb)
    have hge := grownCap_ge w (n + m) c T
    refine ⟨w.heap.size, grownCap w (n + m) c T, (Builtin.zeroCells z0.cells (grownCap w (n + m) c T - (n + m))).toList, _, hrun, ?_, Nat.le_refl _, ?_, ?_, hge⟩
    · exact ((Ch.refl [] w).drew).trans (Ch.alloc [] w.drew _) (fun x hx => .inl hx)
    · have := heap_alloc_new w.drew (.cells ((olds ++ news).toArray ++ Builtin.zeroCells z0.cells (grownCap w (n + m) c T - (n + m))) T)
      refine Eq.trans this ?_
      congr 2
      apply Array.ext'
      simp
    · rw [List.length_append, List.length_append, hlen, hnl, Array.length_toList, size_zeroCells, hzs, ← Nat.add_mul, ← Nat.add_mul]
      congr 1; omega
variable {G : Type} [Bl G]
def appS (P : Program) : (Operand → V) → Op → List VB → List G → VK G → Prop := fun e op bl ch K => match op with
  | .call c => (match c.callee, c.args.toList, c.argTypes.toList with
    | .builtin .append, [s, xs], [t, tx] => (match P.underlying t, P.underlying tx with
      | some (.slice T), some (.slice _) => (match rowInfo P T, e s, e xs with
        | some (z, by_), .sl j 0 n c, .sl i 0 (m + 1) _ => (match bl[j]?, bl[i]? with
          | some ⟨wr, ⟨Ta, (0, 0)⟩, ac⟩, some b => (match getN ac 0 (n * z) with
            | some C => cond (Nat.beq Ta T && (wr && (Nat.beq (szL b.c) ((m + 1) * z) && (oneL b.c && (Nat.ble by_ 10000000 && (Nat.ble (n + (m + 1)) 1000000 && (wfL bl.length C && (wfL bl.length b.c && wfB bl.length bl))))))))
                ((n ≤ c ∧ szL ac = c * z) ∧ (∀ (c' : Nat) (u : List Value), n + (m + 1) ≤ c' → szL (C ++ (b.c ++ [.rest u])) = c' * z → K (.sl j 0 (n + (m + 1)) c') (bl.set j ⟨true, T, C ++ (b.c ++ [.rest u])⟩) ch) ∧
                  (∀ (c' : Nat) (u : List Value), n + (m + 1) ≤ c' → szL (C ++ (b.c ++ [.rest u])) = c' * z → K (.sl bl.length 0 (n + (m + 1)) c') (bl ++ [⟨true, T, C ++ (b.c ++ [.rest u])⟩]) ch)) False
            | none => False)
          | _, _ => False)
        | _, _, _ => False)
      | _, _ => False)
    | _, _, _ => False)
  | _ => False
theorem rowInfo_ok {P : Program} {T z by_ : Nat} (hinfo : rowInfo P T = some (z, by_)) : (P.info? T).map (fun i => (i.zero.map (·.cells.size), i.size, i.bytes)) = some (some z, z, by_) := by
  unfold rowInfo at hinfo
  split at hinfo
  · rename_i inf hinf
    split at hinfo
    · rename_i v hv
      cases hbq : Nat.beq v.cells.size inf.size with
      | false => rw [hbq] at hinfo; simp at hinfo
      | true =>
        rw [hbq] at hinfo
        simp only [cond_true, Option.some.injEq, Prod.mk.injEq] at hinfo
        have := Nat.eq_of_beq_eq_true hbq
        simp [hinf, hv, this, hinfo.1, hinfo.2]
    · cases hinfo
  · cases hinfo
theorem appS_ok {P : Program} {gl : Nat → Option Nat} : HOk (G := G) P gl (appS P) := by
  intro e op ids bl ch R ms w0 w K ρ o hg hl S hρ ho h
  unfold appS at h
  split at h
  · rename_i c
    split at h
    · rename_i s xs t tx hcal hargs hts
      split at h
      · rename_i T T' ht htx
        split at h
        · rename_i z by_ j n cc i m cc2 hinfo hes hxs
          split at h
          · rename_i wr Ta ac b ha hb
            split at h
            · rename_i C hC
              cases hq : Nat.beq Ta T && (wr && (Nat.beq (szL b.c) ((m + 1) * z) && (oneL b.c && (Nat.ble by_ 10000000 && (Nat.ble (n + (m + 1)) 1000000 && (wfL bl.length C && (wfL bl.length b.c && wfB bl.length bl))))))) with
              | false => rw [hq] at h; exact h.elim
              | true =>
                rw [hq] at h
                simp only [cond_true] at h
                simp only [Bool.and_eq_true] at hq
                obtain ⟨q1, q2, q3, q4, q5, q6, q8, q9, q10⟩ := hq
                have q1 := Nat.eq_of_beq_eq_true q1
                have q3 := Nat.eq_of_beq_eq_true q3
                have q5 := Nat.le_of_ble_eq_true q5
                have q6 := Nat.le_of_ble_eq_true q6
                obtain ⟨⟨q7, hsz⟩, hin, hnew⟩ := h
                subst q1 q2
                have hat := (at_lit hl S hb).2
                obtain ⟨hj, hatj⟩ := at_lit hl S ha
                obtain ⟨g1, g2, g3⟩ := getN_ok (ids := ids) hC
                rw [List.drop_zero] at g1
                have hnews : (denC ids b.c).length = (m + 1) * z := by rw [denC_len, q3]
                have hsrc : Src P z tx (.slice (some ⟨ids.getD i 0, 0, none⟩) (m + 1) cc2) (m + 1) (denC ids b.c) w := by
                  refine Src.ofSlice w htx ⟨ids.getD i 0, 0, none⟩ (m + 1) cc2 _ hnews (fun j u hj => ?_) (fun u hu => oneL_ok q4 u hu)
                  rw [Addr.add_lit, cell_of hat]
                  simpa using hj
                have hcl : (denC ids C ++ (denC ids ac).drop (n * z)).length = cc * z := by
                  rw [← g1, List.take_append_drop, denC_len, hsz]
                have hatj' : w.heap[ids.getD j 0]? = some (.cells (denC ids C ++ (denC ids ac).drop (n * z)).toArray Ta (0, 0)) := by
                  rw [← g1, List.take_append_drop]; exact hatj
                have hb1 : (n + (m + 1)) * by_ ≤ 140737488355328 := Nat.le_trans (Nat.mul_le_mul q6 q5) (by decide)
                have dd : ∀ (is : List Nat) (u : List Value), denC is (C ++ (b.c ++ [.rest u])) = (denC is C ++ denC is b.c) ++ u := fun is u => by
                  rw [denC_app2, denC_app2]; simp [denC, cl]
                have sz : ∀ (is : List Nat) (u : List Value) (c' : Nat), ((denC is C ++ denC is b.c) ++ u).length = c' * z → szL (C ++ (b.c ++ [.rest u])) = c' * z := fun is u c' hh => by
                  rw [← denC_len (ids := is), dd, hh]
                obtain ⟨cal, ar, ats⟩ := c
                simp only at hcal hargs hts
                have e2 : ar = #[s, xs] := by rw [← hargs]
                have e3 : ats = #[t, tx] := by rw [← hts]
                subst hcal e2 e3
                have run : ∀ {v w'}, (Builtin.append_ #[t, tx] o.type #[.slice (some ⟨ids.getD j 0, 0, none⟩) n cc, .slice (some ⟨ids.getD i 0, 0, none⟩) (m + 1) cc2]).run P w = .ok v w' → (execOp ρ o).run P w = .ok (.value v) w' := fun hrun =>
                  append_op (P := P) (ρ := ρ) (o := o) ho (by rw [hρ, hes]; simp only [den]) (by rw [hρ, hxs]; simp only [den]) hrun
                rcases run_append_at (P := P) (ty := o.type) g2 hcl q7 hatj' by_ hsrc (Nat.succ_pos m) ht (rowInfo_ok hinfo) hb1 (Nat.le_trans q6 (by decide)) with ⟨w', hrun, hc, hh, hroom⟩ | ⟨b', c', tail', w', hrun, hc, hsize, hh, hlen', hroom⟩
                · refine ⟨_, [], _, ch, w', .inl ?_, by simpa using hl, ?_, hin cc (((denC ids ac).drop (n * z)).drop (denC ids b.c).length) hroom (sz ids _ _ ?_)⟩
                  · have := run hrun
                    simpa [den] using this
                  · simp only [List.append_nil]
                    have hst := S.step hj rfl hc hh
                    have hj' : j < (lits ids ids bl).length := by rw [lits_len ids bl hl]; rcases Nat.lt_or_ge j bl.length with h' | h'; exact h'; simp [h'] at ha
                    rw [← lits_set (ids := ids) ids bl j _ hl, ← List.set_append_left _ _ hj']
                    simp only [mkB, dd]
                    exact hst
                  · rw [← hcl]
                    simp only [List.length_append, List.length_drop]
                    have : (denC ids C).length + (denC ids b.c).length ≤ (denC ids C ++ (denC ids ac).drop (n * z)).length := by
                      rw [hcl, g2, hnews, ← Nat.add_mul]; exact Nat.mul_le_mul_right _ hroom
                    simp only [List.length_append, List.length_drop] at this
                    omega
                · have hwfn : wfL ids.length (C ++ (b.c ++ [.rest tail'])) = true := by
                    rw [hl]
                    have wapp : ∀ (x y : List V), wfL bl.length x = true → wfL bl.length y = true → wfL bl.length (x ++ y) = true := by
                      intro x y
                      induction x with
                      | nil => intro _ h; simpa using h
                      | cons v x ih => intro h1 h2; simp only [List.cons_append, wfL, Bool.and_eq_true] at h1 ⊢; exact ⟨h1.1, ih h1.2 h2⟩
                    exact wapp _ _ q8 (wapp _ _ q9 rfl)
                  refine ⟨_, [b'], _, ch, w', .inl ?_, by simp [hl], ?_, hnew c' tail' hroom (sz ids _ _ hlen')⟩
                  · have := run hrun
                    rw [this]
                    simp only [den]
                    rw [← hl, getD_last]
                  · rw [lits_app _ _ _ _ hl, lits_ids _ _ (by rw [hl]; exact q10)]
                    simp only [lits, mkB]
                    rw [denC_app _ hwfn, dd]
                    have := S.new hc hsize hh
                    refine this.perm ?_
                    rw [List.append_assoc (lits ids ids bl)]
                    exact (List.perm_middle).symm
            · exact h.elim
          · exact h.elim
        · exact h.elim
      · exact h.elim
    · exact h.elim
  · exact h.elim
def mkA (P : Program) (gl : Nat → Option Nat) (L : List (Ent G)) : Ctx G := ⟨P, lkT L, gl, lkQ L, appS P, appS_ok, fun _ _ => none, noY, noY_ok⟩
theorem AllOk.TS {P : Program} {gl : Nat → Option Nat} {L : List (Ent G)} (h : AllOk P gl L) : ∀ f c, (mkA P gl L).T f = some c → Sound (mkA P gl L).P (mkA P gl L).gl f c := h.T
theorem AllOk.QS {P : Program} {gl : Nat → Option Nat} {L : List (Ent G)} (h : AllOk P gl L) : QuietT (mkA P gl L) := h.Q
end Vx
noncomputable section
namespace Vx
open Go Go.RowKit Go.BigFrame Sx
def posN (i : Nat) : List Nat → Nat → Option Nat
  | [], _ => none
  | j :: l, k => bif Nat.beq j i then some k else posN i l (k + 1)
def vbz : VB := ⟨false, ⟨0, (0, 0)⟩, []⟩
mutual
def refV : V → List Nat
  | .ptr i _ => [i]
  | .sl i _ _ _ => [i]
  | .osl i _ _ _ _ => [i]
  | .pe i _ _ _ _ => [i]
  | .fn _ a b => refL a ++ refL b
  | .ifc _ v => refV v
  | .agg l => refL l
  | .tup l => refL l
  | _ => []
def refL : List V → List Nat
  | [] => []
  | v :: l => refV v ++ refL l
end
mutual
def renV (keep : List Nat) : V → Option V
  | .ptr i off => match posN i keep 0 with | some k => some (.ptr k off) | none => none
  | .sl i off n c => match posN i keep 0 with | some k => some (.sl k off n c) | none => none
  | .osl i off n c x => match posN i keep 0 with | some k => some (.osl k off n c x) | none => none
  | .pe i o j z q => match posN i keep 0 with | some k => some (.pe k o j z q) | none => none
  | .fn f a b => match renL keep a, renL keep b with | some a', some b' => some (.fn f a' b') | _, _ => none
  | .ifc t v => match renV keep v with | some v' => some (.ifc t v') | none => none
  | .agg l => match renL keep l with | some l' => some (.agg l') | none => none
  | .tup l => match renL keep l with | some l' => some (.tup l') | none => none
  | v => some v
def renL (keep : List Nat) : List V → Option (List V)
  | [] => some []
  | v :: l => match renV keep v, renL keep l with | some v', some l' => some (v' :: l') | _, _ => none
end
def renB (bl : List VB) (keep : List Nat) : List Nat → Option (List VB)
  | [] => some []
  | i :: is => match bl[i]? with
    | some b => (match renL keep b.c, renB bl keep is with
      | some c, some l => some (⟨b.wr, b.ty, c⟩ :: l)
      | _, _ => none)
    | none => none
def addN (keep : List Nat) : List Nat → List Nat
  | [] => keep
  | i :: l => match posN i keep 0 with | some _ => addN keep l | none => addN (keep ++ [i]) l
def gcN (bl : List VB) : Nat → Nat → List Nat → List Nat
  | 0, _, keep => keep
  | n + 1, k, keep => match keep[k]? with
    | some i => (match bl[i]? with
      | some b => gcN bl n (k + 1) (addN keep (refL b.c))
      | none => keep)
    | none => keep
def rangeN : Nat → List Nat
  | 0 => []
  | n + 1 => rangeN n ++ [n]
def gcR (n0 : Nat) (v : V) (bl : List VB) (keep : List Nat) : Option (V × List VB) := bif nodupN keep && isPre (rangeN n0) keep then (match renV keep v, renB bl keep keep with | some v', some bl' => some (v', bl') | _, _ => none) else none
where isPre : List Nat → List Nat → Bool
  | [], _ => true
  | i :: a, j :: b => Nat.beq i j && isPre a b
  | _ :: _, [] => false
def gcK {G : Type} (n0 : Nat) (K : VK G) : VK G := fun v bl ch => match gcR n0 v bl (gcN bl bl.length 0 (addN (rangeN n0) (refV v))) with
  | some (v', bl') => K v' bl' ch
  | none => False
theorem posN_ok {i : Nat} : ∀ {l : List Nat} {k m : Nat}, posN i l k = some m → k ≤ m ∧ l[m - k]? = some i
  | [], k, m, h => by cases h
  | j :: l, k, m, h => by
    unfold posN at h
    cases hb : Nat.beq j i with
    | true =>
      rw [hb] at h
      obtain rfl : k = m := by simpa using h
      exact ⟨Nat.le_refl _, by simp [Nat.eq_of_beq_eq_true hb]⟩
    | false =>
      rw [hb] at h
      obtain ⟨h1, h2⟩ := posN_ok (l := l) h
      refine ⟨by omega, ?_⟩
      rw [show m - k = (m - (k + 1)) + 1 by omega]
      simpa using h2
theorem pos_get {ids keep : List Nat} {i k : Nat} (h : posN i keep 0 = some k) : (keep.map fun j => ids.getD j 0).getD k 0 = ids.getD i 0 := by
  have := (posN_ok h).2
  simp only [Nat.sub_zero] at this
  simp [List.getD, this]
mutual
theorem renV_den {ids keep : List Nat} : ∀ (v : V) {v' : V}, renV keep v = some v' → den (keep.map fun j => ids.getD j 0) v' = den ids v
  | .ptr i off, v', h => by
    simp only [renV] at h
    split at h
    · rename_i k hk; cases h; simp only [den, pos_get hk]
    · cases h
  | .sl i off n c, v', h => by
    simp only [renV] at h
    split at h
    · rename_i k hk; cases h; simp only [den, pos_get hk]
    · cases h
  | .osl i off n c x, v', h => by
    simp only [renV] at h
    split at h
    · rename_i k hk; cases h; simp only [den, pos_get hk]
    · cases h
  | .fn f a b, v', h => by
    simp only [renV] at h
    split at h
    · rename_i a' b' ha hb; cases h; simp only [den, renL_denM a ha, renL_denM b hb]
    · cases h
  | .ifc t v, v', h => by
    simp only [renV] at h
    split at h
    · rename_i u hu; cases h; simp only [den, renV_den v hu]
    · cases h
  | .agg l, v', h => by
    simp only [renV] at h
    split at h
    · rename_i u hu; cases h; simp only [den, renL_denC l hu]
    · cases h
  | .tup l, v', h => by
    simp only [renV] at h
    split at h
    · rename_i u hu; cases h; simp only [den, renL_denM l hu]
    · cases h
  | .int _ _, v', h => by cases h; simp [den]
  | .bool _, v', h => by cases h; simp [den]
  | .byt _ _ _, v', h => by cases h; simp [den]
  | .arr _ _ _, v', h => by cases h; simp [den]
  | .pol _ _ _ _, v', h => by cases h; simp [den]
  | .rest _, v', h => by cases h; simp [den]
  | .rowp _ _ _, v', h => by cases h; simp [den]
  | .pe i o j z q, v', h => by
    simp only [renV] at h
    split at h
    · rename_i k hk; cases h; simp only [den, pos_get hk]
    · cases h
  | .raw _, v', h => by cases h; simp [den]
theorem renL_denM {ids keep : List Nat} : ∀ (l : List V) {l' : List V}, renL keep l = some l' → denM (keep.map fun j => ids.getD j 0) l' = denM ids l
  | [], l', h => by cases h; rfl
  | v :: l, l', h => by
    simp only [renL] at h
    split at h
    · rename_i v1 l1 hv hl; cases h; simp only [denM, renV_den v hv, renL_denM l hl]
    · cases h
theorem renL_denC {ids keep : List Nat} : ∀ (l : List V) {l' : List V}, renL keep l = some l' → denC (keep.map fun j => ids.getD j 0) l' = denC ids l
  | [], l', h => by cases h; rfl
  | v :: l, l', h => by
    simp only [renL] at h
    split at h
    · rename_i v1 l1 hv hl
      cases h
      simp only [denC, renV_den v hv, renL_denC l hl]
      congr 1
      cases v <;> simp only [renV] at hv <;> (try split at hv) <;> first | (cases hv; rfl) | (cases hv; done)
    · cases h
end
theorem renB_ok {ids keep : List Nat} {bl : List VB} (hl : ids.length = bl.length) : ∀ (is : List Nat) {bl' : List VB}, renB bl keep is = some bl' → (is.map fun j => ids.getD j 0).length = bl'.length ∧
    lits (keep.map fun j => ids.getD j 0) (is.map fun j => ids.getD j 0) bl' = (is.map fun j => mkB ids (ids.getD j 0) (bl.getD j vbz)) ∧ ∀ j ∈ is, j < bl.length
  | [], bl', h => by cases h; simp [lits]
  | i :: is, bl', h => by
    unfold renB at h
    split at h
    · rename_i b hb
      split at h
      · rename_i c l hc hL
        cases h
        obtain ⟨h1, h2, h3⟩ := renB_ok hl is hL
        have hlt : i < bl.length := by rcases Nat.lt_or_ge i bl.length with h' | h'; exact h'; simp [h'] at hb
        refine ⟨by simpa using h1, ?_, ?_⟩
        · simp only [List.map_cons, lits, h2]
          congr 1
          simp only [mkB, renL_denC _ hc]
          simp [List.getD, hb]
        · intro j hj
          rcases List.mem_cons.1 hj with rfl | hj
          · exact hlt
          · exact h3 j hj
      · cases h
    · cases h
theorem lits_mapz (ids : List Nat) : ∀ (is : List Nat) (bl : List VB), is.length = bl.length → lits ids is bl = (List.range bl.length).map fun j => mkB ids (is.getD j 0) (bl.getD j vbz)
  | [], [], _ => rfl
  | i :: is, b :: bl, h => by
    rw [List.length_cons, List.range_succ_eq_map, List.map_cons, List.map_map]
    simp only [lits]
    rw [lits_mapz ids is bl (by simpa using h)]
    rfl
theorem isPre_ok : ∀ {a b : List Nat}, gcR.isPre a b = true → ∃ c, b = a ++ c
  | [], b, _ => ⟨b, rfl⟩
  | i :: a, j :: b, h => by
    simp only [gcR.isPre, Bool.and_eq_true] at h
    obtain ⟨c, rfl⟩ := isPre_ok h.2
    exact ⟨c, by simp [Nat.eq_of_beq_eq_true h.1]⟩
  | _ :: _, [], h => by cases h
theorem rangeN_map (ids : List Nat) : ∀ n, n ≤ ids.length → (rangeN n).map (fun j => ids.getD j 0) = ids.take n
  | 0, _ => by simp [rangeN]
  | n + 1, h => by
    simp only [rangeN, List.map_append, List.map_cons, List.map_nil, rangeN_map ids n (by omega)]
    rw [List.take_add_one]
    congr 1
    have : n < ids.length := by omega
    simp [List.getD, List.getElem?_eq_getElem this]
theorem gcK_ok {G : Type} {n0 : Nat} {K : VK G} {v : V} {bl : List VB} {ch : List G} {ids : List Nat} {X : List Blk} {ms : List Nat} {w0 w : World} (hl : ids.length = bl.length) (hn : n0 ≤ ids.length) (S : St ms w0 (lits ids ids bl ++ X) w) (h : gcK n0 K v bl ch) :
    ∃ v' more bl', den ids v = den (ids.take n0 ++ more) v' ∧ (ids.take n0 ++ more).length = bl'.length ∧ St ms w0 (lits (ids.take n0 ++ more) (ids.take n0 ++ more) bl' ++ X) w ∧ K v' bl' ch := by
  unfold gcK at h
  generalize gcN bl bl.length 0 (addN (rangeN n0) (refV v)) = keep at h
  unfold gcR at h
  cases hq : nodupN keep && gcR.isPre (rangeN n0) keep with
  | false => rw [hq] at h; exact h.elim
  | true =>
    rw [hq] at h
    simp only [cond_true] at h
    simp only [Bool.and_eq_true] at hq
    have hnd := nodupN_iff hq.1
    obtain ⟨c, hc⟩ := isPre_ok hq.2
    split at h
    · rename_i v' bl' hv
      split at hv
      · rename_i v1 bl1 hv1 hb1
        cases hv
        obtain ⟨h1, h2, h3⟩ := renB_ok hl keep hb1
        have e : keep.map (fun j => ids.getD j 0) = ids.take n0 ++ c.map fun j => ids.getD j 0 := by
          rw [hc, List.map_append, rangeN_map ids n0 hn]
        refine ⟨_, c.map fun j => ids.getD j 0, _, ?_, ?_, ?_, h⟩
        · rw [← e]; exact (renV_den v hv1).symm
        · rw [← e]; exact h1
        · rw [← e, h2]
          obtain ⟨r, hr⟩ := sub_perm keep (List.range bl.length) hnd (fun x hx => List.mem_range.2 (h3 x hx))
          rw [lits_mapz ids ids bl hl] at S
          have S1 := S.perm ((hr.map _).append_right X)
          rw [List.map_append] at S1
          exact S1.sub (List.Sublist.append_right (List.sublist_append_left _ _) _)
      · cases hv
    · exact h.elim
end Vx
noncomputable section
namespace Vx
open Go Go.RowKit Go.BigFrame Sx
theorem run_mapUpd {P : Program} {w : World} {b : Nat} {kd : IntKind} {l : List (Int × Value)} {kv : Int} {vv : Value} {mt kt et : TypeId} (hu : P.underlying mt = some (.map kt et)) (hk : P.underlying kt = some (.int kd)) (hat : w.heap[b]? = some (mapE kd l)) (hn : l.all (fun x => x.1 != kv) = true) :
    (Instr.mapUpdate mt (.map (some b)) (.int kd kv) vv).run P w = .ok () { w with heap := w.heap.setIfInBounds b (mapE kd (l ++ [(kv, vv)])) } := by
  have hat2 : w.heap[b]? = some (.map ((l.zipIdx.map fun x => (⟨.int kd x.1.1, x.1.2, x.2⟩ : MapEntry)).toArray) l.length) := hat
  have hf : Instr.findNow (.int kd) (.int kd kv) ((l.zipIdx.map fun x => (⟨.int kd x.1.1, x.1.2, x.2⟩ : MapEntry)).toArray).toList 0 = some none := findN_none kd kv _ 0 (find_all hn)
  have hc : (Instr.checkKey false 10000 kt (.int kd kv)).run P w = .ok () w := MapKept.run_checkKey (k := .int kd kv) hk (by simp [MapKept.IsKey]) false 9999
  have hrun0 : (Instr.mapUpdate mt (.map (some b)) (.int kd kv) vv).run P w = .ok () { w with heap := w.heap.setIfInBounds b (Obj.map (((l.zipIdx.map fun x => (⟨.int kd x.1.1, x.1.2, x.2⟩ : MapEntry)).toArray).push ⟨.int kd kv, vv, l.length⟩) (l.length + 1)) } := by
    generalize ((l.zipIdx.map fun x => (⟨.int kd x.1.1, x.1.2, x.2⟩ : MapEntry)).toArray) = es at *
    simp [Instr.mapUpdate, run_underlying hu, MapKept.run_getObj_map hat2, hc, MapKept.run_findKey hk hf, MapKept.run_setObj_map _ hat2, Result.andThen]
  rw [hrun0, mapE_push]
theorem run_lookup {P : Program} {w : World} {b : Nat} {kd : IntKind} {l : List (Int × Value)} {kv : Int} {v : Value} {mt kt et : TypeId} (hu : P.underlying mt = some (.map kt et)) (hk : P.underlying kt = some (.int kd)) (hat : w.heap[b]? = some (mapE kd l))
    (hn : ∃ j, Instr.findNow (.int kd) (.int kd kv) ((l.zipIdx.map fun x => (⟨.int kd x.1.1, x.1.2, x.2⟩ : MapEntry)).toArray).toList 0 = some (some (j, v))) : (Instr.lookup mt (.map (some b)) (.int kd kv) true).run P w = .ok (.tuple #[v, .bool true]) w := by
  obtain ⟨j, hf⟩ := hn
  have hat2 : w.heap[b]? = some (.map ((l.zipIdx.map fun x => (⟨.int kd x.1.1, x.1.2, x.2⟩ : MapEntry)).toArray) l.length) := hat
  have hc : ∀ e, (Instr.checkKey e 10000 kt (.int kd kv)).run P w = .ok () w := fun e => MapKept.run_checkKey (k := .int kd kv) hk (by simp [MapKept.IsKey]) e 9999
  simp [Instr.lookup, run_underlying hu, MapKept.run_getObj_map hat2, hc, MapKept.run_findKey hk hf, Result.andThen]
structure MapG where
  id : Nat
  tb : List (Int × Value)
instance : Bl MapG := ⟨fun g => [⟨g.id, true, mapE .i64 g.tb⟩]⟩
def mapH (P : Program) : (Operand → V) → Op → List VB → List MapG → VK MapG → Prop := fun e op bl ch K => match op with
  | .makeMap t none => (match ch with
    | [] => ∀ id, K (.raw (.map (some id))) bl [⟨id, []⟩]
    | _ => False)
  | .insert mt m k x => (match ch, e m, e k with
    | [g], .raw mv, .int .i64 kv => (match P.underlying mt with
      | some (.map kt _) => (match P.underlying kt with
        | some (.int .i64) => cond (g.tb.all (fun x => x.1 != kv) && wfV 0 (e x)) (mv = .map (some g.id) ∧ K undefV bl [⟨g.id, g.tb ++ [(kv, den [] (e x))]⟩]) False
        | _ => False)
      | _ => False)
    | _, _, _ => False)
  | _ => False
theorem mapH_ok {P : Program} {gl : Nat → Option Nat} : HOk P gl (mapH P) := by
  intro e op ids bl ch R ms w0 w K ρ o hg hl S hρ ho h
  unfold mapH at h
  split at h
  · rename_i t
    split at h
    · refine ⟨_, [], bl, _, w.alloc (.map #[] 0), .inl ?_, by simpa using hl, ?_, h w.heap.size⟩
      · unfold execOp
        simp [ho, run_makeMap, Result.andThen, den]
      · have := S.new (Ch.alloc [] w (.map #[] 0)) (Nat.le_refl _) (heap_alloc_new w _)
        rw [List.append_nil]
        refine this.perm ?_
        exact List.perm_middle.symm
    · exact h.elim
  · rename_i mt m k x
    split at h
    · rename_i g mv kv hm hk
      split at h
      · rename_i kt et hu
        split at h
        · rename_i hkt
          cases hq : g.tb.all (fun x => x.1 != kv) && wfV 0 (e x) with
          | false => rw [hq] at h; exact h.elim
          | true =>
            rw [hq] at h
            simp only [cond_true] at h
            simp only [Bool.and_eq_true] at hq
            obtain ⟨rfl, hK⟩ := h
            have e0 : lits ids ids bl ++ nestB [g] R = lits ids ids bl ++ (⟨g.id, true, mapE .i64 g.tb⟩ :: R) := rfl
            rw [e0] at S
            have hat := S.at' (x := ⟨g.id, true, mapE .i64 g.tb⟩) (by simp)
            have hx : den ids (e x) = den [] (e x) := by have := den_app (ids := []) (more := ids) (e x) hq.2; simpa using this
            have hrun := run_mapUpd (P := P) (vv := den ids (e x)) hu hkt hat hq.1
            refine ⟨undefV, [], bl, _, { w with heap := w.heap.setIfInBounds g.id (mapE .i64 (g.tb ++ [(kv, den ids (e x))])) }, .inr ⟨?_, rfl⟩, by simpa using hl, ?_, hK⟩
            · unfold execOp
              simp only [ho, hρ, hm, hk, den] at hrun ⊢
              simp only [Sem.run_bind, hrun, Result.andThen_ok]
              rfl
            · rw [List.append_nil, ← hx]
              have hi : (lits ids ids bl ++ (⟨g.id, true, mapE .i64 g.tb⟩ :: R))[(lits ids ids bl).length]? = some ⟨g.id, true, mapE .i64 g.tb⟩ := by simp
              have := S.step hi rfl (Ch.setIf w g.id (mapE .i64 (g.tb ++ [(kv, den ids (e x))]))) (MapKept.heap_set hat).1
              rw [List.set_append_right _ _ (Nat.le_refl _), Nat.sub_self] at this
              exact this
        · exact h.elim
      · exact h.elim
    · exact h.elim
  · exact h.elim
def mkMp (P : Program) (gl : Nat → Option Nat) (L : List (Ent MapG)) : Ctx MapG := ⟨P, lkT L, gl, lkQ L, mapH P, mapH_ok, fun _ _ => none, noY, noY_ok⟩
def mkH {G : Type} [Bl G] (P : Program) (gl : Nat → Option Nat) (L : List (Ent G)) (h : (Operand → V) → Op → List VB → List G → VK G → Prop) (hok : HOk P gl h) : Ctx G := ⟨P, lkT L, gl, lkQ L, h, hok, fun _ _ => none, noY, noY_ok⟩
theorem Sound.gl {G : Type} [Bl G] {P : Program} {gl gl' : Nat → Option Nat} {f : Nat} {c : CTr G} (h : Sound P gl f c) (hg : ∀ ids, Gl gl' ids → Gl gl ids) : Sound P gl' f c :=
  fun args ids bl ch R ms w0 w K h1 h2 S hc => h args ids bl ch R ms w0 w K (hg ids h1) h2 S hc
inductive Sm (G : Type) where
  | g (x : G)
  | m (x : MapG)
instance {G : Type} [Bl G] : Bl (Sm G) := ⟨fun x => match x with | .g x => Bl.B x | .m x => Bl.B x⟩
def gs {G : Type} : List G → List (Sm G)
  | [] => []
  | x :: l => .g x :: gs l
theorem nest_gs {G : Type} [Bl G] (R : List Blk) : ∀ (l : List G) (r : List (Sm G)), nestB (gs l ++ r) R = nestB l (nestB r R)
  | [], r => rfl
  | x :: l, r => by
    simp only [gs, List.cons_append, nestB, nest_gs R l r]
    rfl
def liftC {G : Type} (c : CTr G) : CTr (Sm G) := fun args bl ch K => match ch with
  | .g x :: rest => c args bl [x] fun v bl' ch' => K v bl' (gs ch' ++ rest)
  | _ => False
theorem lift_sound {G : Type} [Bl G] {P : Program} {gl : Nat → Option Nat} {f : Nat} {c : CTr G} (h : Sound P gl f c) : Sound P gl f (liftC c) := by
  intro args ids bl ch R ms w0 w K hg hl S hc
  unfold liftC at hc
  split at hc
  · rename_i x rest
    have e : nestB (.g x :: rest : List (Sm G)) R = nestB [x] (nestB rest R) := rfl
    rw [e] at S
    refine (h args ids bl [x] (nestB rest R) ms w0 w _ hg hl S hc).mono ?_
    rintro v w' ⟨y, more, bl', ch', rfl, h1, S1, hK⟩
    exact ⟨y, more, bl', _, rfl, h1, by rw [nest_gs]; exact S1, hK⟩
  · exact hc.elim
theorem lift_quiet {G : Type} {c : CTr G} (h : QuietC c) : QuietC (liftC c) := by
  intro args bl ch K hc
  unfold liftC at hc ⊢
  split at hc
  · exact h _ _ _ _ hc
  · exact hc.elim
def liftL {G : Type} : List (Ent G) → List (Ent (Sm G))
  | [] => []
  | e :: l => ⟨e.f, e.q, liftC e.c⟩ :: liftL l
theorem lift_all {G : Type} [Bl G] {P : Program} {gl gl' : Nat → Option Nat} (hg : ∀ ids, Gl gl' ids → Gl gl ids) : ∀ {L : List (Ent G)}, AllOk P gl L → AllOk P gl' (liftL L)
  | [], _ => AllOk.nil
  | e :: l, h => AllOk.cons ⟨lift_sound ((h e (by simp)).1.gl hg), fun hq => lift_quiet ((h e (by simp)).2 hq)⟩ (lift_all hg fun x hx => h x (by simp [hx]))
end Vx
noncomputable section
namespace Vx
open Go Go.RowKit Go.BigFrame Sx
variable {G : Type} [Bl G]
def appN (P : Program) : (Operand → V) → Op → List VB → List G → VK G → Prop := fun e op bl ch K => match op with
  | .call c => (match c.callee, c.args.toList, c.argTypes.toList with
    | .builtin .append, [s, xs], [t, tx] => (match P.underlying t, P.underlying tx with
      | some (.slice T), some (.slice _) => (match rowInfo P T, e s, e xs with
        | some (z, by_), .raw (.slice none 0 0), .sl i 0 (m + 1) _ => (match bl[i]? with
          | some b => cond (Nat.beq (szL b.c) ((m + 1) * z) && (oneL b.c && (Nat.ble by_ 10000000 && (Nat.ble (m + 1) 1000000 && (wfL bl.length b.c && wfB bl.length bl)))))
              (∀ (c' : Nat) (u : List Value), m + 1 ≤ c' → szL (b.c ++ [.rest u]) = c' * z → K (.sl bl.length 0 (m + 1) c') (bl ++ [⟨true, T, b.c ++ [.rest u]⟩]) ch) False
          | none => False)
        | _, _, _ => False)
      | _, _ => False)
    | _, _, _ => False)
  | _ => False
theorem appN_ok {P : Program} {gl : Nat → Option Nat} : HOk (G := G) P gl (appN P) := by
  intro e op ids bl ch R ms w0 w K ρ o hg hl S hρ ho h
  unfold appN at h
  split at h
  · rename_i c
    split at h
    · rename_i s xs t tx hcal hargs hts
      split at h
      · rename_i T T' ht htx
        split at h
        · rename_i z by_ i m cc2 hinfo hes hxs
          split at h
          · rename_i b hb
            cases hq : Nat.beq (szL b.c) ((m + 1) * z) && (oneL b.c && (Nat.ble by_ 10000000 && (Nat.ble (m + 1) 1000000 && (wfL bl.length b.c && wfB bl.length bl)))) with
            | false => rw [hq] at h; exact h.elim
            | true =>
              rw [hq] at h
              simp only [cond_true] at h
              simp only [Bool.and_eq_true] at hq
              obtain ⟨q3, q4, q5, q6, q9, q10⟩ := hq
              have q3 := Nat.eq_of_beq_eq_true q3
              have q5 := Nat.le_of_ble_eq_true q5
              have q6 := Nat.le_of_ble_eq_true q6
              have hat := (at_lit hl S hb).2
              have hnews : (denC ids b.c).length = (m + 1) * z := by rw [denC_len, q3]
              have hsrc : Src P z tx (.slice (some ⟨ids.getD i 0, 0, none⟩) (m + 1) cc2) (m + 1) (denC ids b.c) w := by
                refine Src.ofSlice w htx ⟨ids.getD i 0, 0, none⟩ (m + 1) cc2 _ hnews (fun j u hj => ?_) (fun u hu => oneL_ok q4 u hu)
                rw [Addr.add_lit, cell_of hat]
                simpa using hj
              have hb1 : (0 + (m + 1)) * by_ ≤ 140737488355328 := Nat.le_trans (Nat.mul_le_mul (by omega : 0 + (m + 1) ≤ 1000000) q5) (by decide)
              obtain ⟨cal, ar, ats⟩ := c
              simp only at hcal hargs hts
              have e2 : ar = #[s, xs] := by rw [← hargs]
              have e3 : ats = #[t, tx] := by rw [← hts]
              subst hcal e2 e3
              obtain ⟨v, w', hrun, hc, x', c', bl', rfl, ⟨r1, r2, r3⟩, hat'⟩ := run_appendR (P := P) (ty := o.type) (rowv_nil z T) (by simp) by_ hsrc ht (rowInfo_ok hinfo) hb1 (Nat.le_trans (by omega : 0 + (m + 1) ≤ 1000000) (by decide))
              rcases r3 with ⟨_, h0, _⟩ | ⟨b', tail, rfl, rfl, hlen⟩
              · omega
              · obtain ⟨hh, hid⟩ := hat' _ (List.mem_singleton.2 rfl)
                have hge : w.heap.size ≤ b' := by
                  rcases hid with ⟨u, hu, _⟩ | h
                  · cases hu
                  · exact h
                simp only [List.nil_append, Nat.zero_add] at hh hlen r2 hrun
                have dd : ∀ (is : List Nat) (u : List Value), denC is (b.c ++ [.rest u]) = denC is b.c ++ u := fun is u => by
                  rw [denC_app2]; simp [denC, cl]
                have hwfn : wfL ids.length (b.c ++ [.rest tail]) = true := by
                  rw [hl]
                  have wapp : ∀ (x y : List V), wfL bl.length x = true → wfL bl.length y = true → wfL bl.length (x ++ y) = true := by
                    intro x y
                    induction x with
                    | nil => intro _ h; simpa using h
                    | cons v x ih => intro h1 h2; simp only [List.cons_append, wfL, Bool.and_eq_true] at h1 ⊢; exact ⟨h1.1, ih h1.2 h2⟩
                  exact wapp _ _ q9 rfl
                refine ⟨_, [b'], _, ch, w', .inl ?_, by simp [hl], ?_, h c' tail r2 ?_⟩
                · have := append_op (P := P) (ρ := ρ) (o := o) ho (sv := .slice none 0 0) (xv := .slice (some ⟨ids.getD i 0, 0, none⟩) (m + 1) cc2) (by rw [hρ, hes]; simp only [den]) (by rw [hρ, hxs]; simp only [den]) hrun
                  rw [this]
                  simp only [den]
                  rw [← hl, getD_last]
                · rw [lits_app _ _ _ _ hl, lits_ids _ _ (by rw [hl]; exact q10)]
                  simp only [lits, mkB]
                  rw [denC_app _ hwfn, dd]
                  have := S.new hc hge hh
                  refine this.perm ?_
                  rw [List.append_assoc (lits ids ids bl)]
                  exact (List.perm_middle).symm
                · rw [← denC_len (ids := ids), dd, hlen]
          · exact h.elim
        · exact h.elim
      · exact h.elim
    · exact h.elim
  · exact h.elim
theorem hor_ok {P : Program} {gl : Nat → Option Nat} {a b : (Operand → V) → Op → List VB → List G → VK G → Prop} (t : (Operand → V) → Op → Bool) (ha : HOk P gl a) (hb : HOk P gl b) : HOk P gl (fun e op bl ch K => cond (t e op) (a e op bl ch K) (b e op bl ch K)) := by
  intro e op ids bl ch R ms w0 w K ρ o hg hl S hρ ho h
  cases ht : t e op with
  | true => simp only [ht] at h; exact ha e op ids bl ch R ms w0 w K ρ o hg hl S hρ ho h
  | false => simp only [ht] at h; exact hb e op ids bl ch R ms w0 w K ρ o hg hl S hρ ho h
def isSl (e : Operand → V) (op : Op) : Bool := match op with
  | .call c => (match c.args.toList with
    | s :: _ => (match e s with | .sl _ _ _ _ => true | _ => false)
    | _ => false)
  | _ => false
def appA (P : Program) : (Operand → V) → Op → List VB → List G → VK G → Prop := fun e op bl ch K => cond (isSl e op) (appS P e op bl ch K) (appN P e op bl ch K)
theorem appA_ok {P : Program} {gl : Nat → Option Nat} : HOk (G := G) P gl (appA P) := hor_ok isSl appS_ok appN_ok
end Vx
noncomputable section
namespace Vx
open Go Sx
section
variable {ids : List Nat} {P : Program} {w : World}
theorem iw0 {n : Nat} (h : n ≤ 1000000) : IntKind.i64.wrap (n : Int) = n := by simp [IntKind.wrap, IntKind.bits, IntKind.signed]; omega
theorem run_mk {t el : TypeId} {n z : Nat} {zc : List V} {inf : TypeInfo} {k1 k2 : IntKind} (hu : P.underlying t = some (.slice el)) (hi : P.info? el = some inf) (hz : szT P el = some (z + 1)) (h0 : zeroT P el = some zc) (hl : szL zc = z + 1) (h1 : 1 ≤ n) (hn : n ≤ 1000000) (hb : inf.bytes ≤ 100) :
    (Instr.makeSlice t (.int k1 (n : Int)) (.int k2 (n : Int))).run P w = .ok (.slice (some ⟨w.heap.size, 0, none⟩) n n) (w.alloc (.cells (denC ids (repL zc n)).toArray el)) := by
  obtain ⟨v0, z1, z2⟩ := run_zero (P := P) (w := w) (ids := ids) h0
  have hv : v0.cells.size = z + 1 := by rw [← Array.length_toList, z2, denC_len, hl]
  have hrep : (Array.range (n * (z + 1))).map (fun i => v0.cells[i % v0.cells.size]!) = (denC ids (repL zc n)).toArray := by
    apply Array.ext'
    rw [range_rep v0.cells z hv, z2, denC_rep]
  have hm : inf.bytes * n ≤ 100000000 := Nat.le_trans (Nat.mul_le_mul hb hn) (by decide)
  have e1 : (decide ((n : Int) < 0) || decide ((inf.bytes : Int) * (n : Int) > 2 ^ 48)) = false := by
    have : (inf.bytes : Int) * (n : Int) ≤ 100000000 := by
      have q := Int.ofNat_le.2 hm
      rw [Int.natCast_mul] at q
      exact q
    rw [decide_eq_false (by omega), decide_eq_false (by omega)]; rfl
  have e2 : ¬ (n * inf.bytes > roomBytes) := by
    have : n * inf.bytes ≤ 100000000 := by rw [Nat.mul_comm]; exact hm
    show ¬ (n * inf.bytes > _)
    unfold roomBytes
    omega
  have e3 : ¬ n * (z + 1) = 0 := by
    intro h
    rcases Nat.mul_eq_zero.1 h with h | h <;> omega
  simp only [Instr.makeSlice, Sem.run_bind, run_underlying hu, Result.andThen_ok, asInt, asIntOf, Sem.run_pure, run_info hi, iw0 hn, e1, Bool.false_or, askRoom, if_neg e2, Int.toNat_natCast, run_size hz, if_neg e3, z1]
  simp only [show decide ((n : Int) < 0) = false by simp, show decide ((n : Int) > (n : Int)) = false by simp, Bool.or_self, Bool.false_eq_true, if_false, Sem.run_bind, Sem.run_pure, Result.andThen_ok, run_size hz, if_neg e3, z1]
  rw [hrep]
  rfl
end
variable {G : Type} [Bl G]
def mkS (P : Program) : (Operand → V) → Op → List VB → List G → VK G → Prop := fun e op bl ch K => match op with
  | .makeSlice t l c => (match P.underlying t, e l, e c with
    | some (.slice el), .int _ (.ofNat n), .int _ (.ofNat m) => (match P.info? el, szT P el, zeroT P el with
      | some inf, some (z + 1), some zc => cond (Nat.beq n m && (Nat.beq (szL zc) (z + 1) && (Nat.ble 1 n && (Nat.ble n 1000000 && (Nat.ble inf.bytes 100 && (wfB bl.length bl && wfL bl.length (repL zc n))))))) (K (.sl bl.length 0 n n) (bl ++ [⟨true, el, repL zc n⟩]) ch) False
      | _, _, _ => False)
    | _, _, _ => False)
  | _ => False
theorem mkS_ok {P : Program} {gl : Nat → Option Nat} : HOk (G := G) P gl (mkS P) := by
  intro e op ids bl ch R ms w0 w K ρ o hg hl S hρ ho h
  unfold mkS at h
  split at h
  · rename_i t l c
    split at h
    · rename_i el k1 n k2 m hu hel hec
      split at h
      · rename_i inf z zc hi hz h0
        cases hq : Nat.beq n m && (Nat.beq (szL zc) (z + 1) && (Nat.ble 1 n && (Nat.ble n 1000000 && (Nat.ble inf.bytes 100 && (wfB bl.length bl && wfL bl.length (repL zc n)))))) with
        | false => rw [hq] at h; exact h.elim
        | true =>
          rw [hq] at h
          simp only [Bool.and_eq_true] at hq
          obtain ⟨q1, q2, q3, q4, q5, q6, q7⟩ := hq
          obtain rfl := Nat.eq_of_beq_eq_true q1
          have hrun := run_mk (ids := ids) (w := w) (k1 := k1) (k2 := k2) hu hi hz h0 (Nat.eq_of_beq_eq_true q2) (Nat.le_of_ble_eq_true q3) (Nat.le_of_ble_eq_true q4) (Nat.le_of_ble_eq_true q5)
          obtain ⟨g1, g2⟩ := grow hl S ⟨true, el, repL zc n⟩ rfl rfl (by rw [hl]; exact q6) (by rw [hl]; exact q7)
          refine ⟨_, [w.heap.size], _, ch, _, .inl ?_, g2, g1, h⟩
          unfold execOp
          rw [ho]
          simp only [hρ, hel, hec, den]
          have e1 : Int.ofNat n = (n : Int) := rfl
          rw [e1, Sem.run_bind, hrun, Result.andThen_ok, Sem.run_pure, ← hl, getD_last]
      · exact h.elim
    · exact h.elim
  · exact h.elim
def isMk (e : Operand → V) (op : Op) : Bool := match op with
  | .makeSlice _ _ _ => true
  | _ => false
def appM (P : Program) : (Operand → V) → Op → List VB → List G → VK G → Prop := fun e op bl ch K => cond (isMk e op) (mkS P e op bl ch K) (appA P e op bl ch K)
theorem appM_ok {P : Program} {gl : Nat → Option Nat} : HOk (G := G) P gl (appM P) := hor_ok isMk mkS_ok appA_ok
end Vx
noncomputable section
namespace Vx
open Go Go.RowKit Go.BigFrame Sx
theorem run_append_e {P : Program} {w : World} {z T m : Nat} {x : Option Addr} {news : List Value} {t tx ty : TypeId} {xv : Value} (bytes : Nat) (hs : Src P z tx xv m news w) (hm0 : 0 < m) (ht : P.underlying t = some (.slice T))
    (hi : (P.info? T).map (fun i => (i.zero.map (·.cells.size), i.size, i.bytes)) = some (some z, z, bytes)) (hb : m * bytes ≤ 140737488355328) (h63 : m ≤ maxLen) :
    ∃ b' c' tail' w', (Builtin.append_ #[t, tx] ty #[.slice x 0 0, xv]).run P w = .ok (.slice (some ⟨b', 0, none⟩) m c') w' ∧ Ch [] w w' ∧ w.heap.size ≤ b' ∧ w'.heap[b']? = some (.cells (news ++ tail').toArray T (0, 0)) ∧ (news ++ tail').length = c' * z ∧ m ≤ c' := by
  obtain ⟨i, hinfo, hi⟩ := Option.map_eq_some_iff.1 hi
  simp only [Prod.mk.injEq] at hi
  obtain ⟨hz, hsz, hby⟩ := hi
  obtain ⟨z0, hz0, hzs⟩ := Option.map_eq_some_iff.1 hz
  have hnl := hs.newsLen
  have hs' : Src P i.size tx xv m news w := by rw [hsz]; exact hs
  have hold : (Builtin.firstCells i.size 0 (.slice x 0 0)).run P w.drew = .ok ([] : List Value).toArray w.drew := by
    cases x with
    | none => exact run_firstCells_none (P := P) w.drew i.size 0 0 0
    | some a => exact run_firstCells_some (P := P) w.drew i.size 0 a 0 0 [] (by simp) (fun j v hj => by simp at hj)
  have hrun := run_append_grow_src (P := P) w t tx ty T i z0 ht hinfo hz0 x 0 0 [] hold xv m news hs' (by omega) (by simp only [maxLen] at h63; omega) (by rw [hby]; exact growslice_fits (by omega) (by rw [Nat.zero_add]; exact hb))
  simp only [Nat.zero_add] at hrun
  have hge := grownCap_ge w m 0 T
  refine ⟨w.heap.size, grownCap w m 0 T, (Builtin.zeroCells z0.cells (grownCap w m 0 T - m)).toList, _, hrun, ?_, Nat.le_refl _, ?_, ?_, hge⟩
  · exact ((Ch.refl [] w).drew).trans (Ch.alloc [] w.drew _) (fun x hx => .inl hx)
  · have := heap_alloc_new w.drew (.cells ((([] : List Value) ++ news).toArray ++ Builtin.zeroCells z0.cells (grownCap w m 0 T - m)) T)
    refine Eq.trans this ?_
    congr 2
    apply Array.ext'
    simp
  · rw [List.length_append, hnl, Array.length_toList, size_zeroCells, hzs, ← Nat.add_mul]
    congr 1; omega
variable {G : Type} [Bl G]
def appE (P : Program) : (Operand → V) → Op → List VB → List G → VK G → Prop := fun e op bl ch K => match op with
  | .call c => (match c.callee, c.args.toList, c.argTypes.toList with
    | .builtin .append, [s, xs], [t, tx] => (match P.underlying t, P.underlying tx with
      | some (.slice T), some (.slice _) => (match rowInfo P T, e s, e xs with
        | some (z, by_), .sl _ _ 0 0, .sl i 0 (m + 1) _ => (match bl[i]? with
          | some b => (match getN b.c 0 ((m + 1) * z) with
            | some C => cond (oneL C && (Nat.ble by_ 10000000 && (Nat.ble (m + 1) 1000000 && (wfL bl.length C && wfB bl.length bl))))
              (∀ (c' : Nat) (u : List Value), m + 1 ≤ c' → szL (C ++ [.rest u]) = c' * z → K (.sl bl.length 0 (m + 1) c') (bl ++ [⟨true, T, C ++ [.rest u]⟩]) ch) False
            | none => False)
          | none => False)
        | _, _, _ => False)
      | _, _ => False)
    | _, _, _ => False)
  | _ => False
theorem appE_ok {P : Program} {gl : Nat → Option Nat} : HOk (G := G) P gl (appE P) := by
  intro e op ids bl ch R ms w0 w K ρ o hg hl S hρ ho h
  unfold appE at h
  split at h
  · rename_i c
    split at h
    · rename_i s xs t tx hcal hargs hts
      split at h
      · rename_i T T' ht htx
        split at h
        · rename_i z by_ j0 o0 i m cc2 hinfo hes hxs
          split at h
          · rename_i b hb
            split at h
            · rename_i C hC
              cases hq : oneL C && (Nat.ble by_ 10000000 && (Nat.ble (m + 1) 1000000 && (wfL bl.length C && wfB bl.length bl))) with
              | false => rw [hq] at h; exact h.elim
              | true =>
                rw [hq] at h
                simp only [cond_true] at h
                simp only [Bool.and_eq_true] at hq
                obtain ⟨q4, q5, q6, q9, q10⟩ := hq
                have q5 := Nat.le_of_ble_eq_true q5
                have q6 := Nat.le_of_ble_eq_true q6
                have hat := (at_lit hl S hb).2
                obtain ⟨g1, g2, g3⟩ := getN_ok (ids := ids) hC
                rw [List.drop_zero] at g1
                have hnews : (denC ids C).length = (m + 1) * z := by rw [← g1, List.length_take]; omega
                have hsrc : Src P z tx (.slice (some ⟨ids.getD i 0, 0, none⟩) (m + 1) cc2) (m + 1) (denC ids C) w := by
                  refine Src.ofSlice w htx ⟨ids.getD i 0, 0, none⟩ (m + 1) cc2 _ hnews (fun j u hj => ?_) (fun u hu => oneL_ok q4 u hu)
                  rw [Addr.add_lit, cell_of hat]
                  rw [← g1] at hj
                  have hj2 : j < (m + 1) * z := by
                    rcases Nat.lt_or_ge j ((m + 1) * z) with h | h
                    · exact h
                    · rw [List.getElem?_eq_none (by rw [List.length_take]; omega)] at hj; cases hj
                  rw [List.getElem?_take_of_lt hj2] at hj
                  simpa using hj
                have hb1 : (m + 1) * by_ ≤ 140737488355328 := Nat.le_trans (Nat.mul_le_mul q6 q5) (by decide)
                obtain ⟨cal, ar, ats⟩ := c
                simp only at hcal hargs hts
                have e2 : ar = #[s, xs] := by rw [← hargs]
                have e3 : ats = #[t, tx] := by rw [← hts]
                subst hcal e2 e3
                obtain ⟨b', c', tail, w', hrun, hc, hge, hh, hlen, r2⟩ := run_append_e (P := P) (ty := o.type) (x := some ⟨ids.getD j0 0, o0, none⟩) by_ hsrc (by omega) ht (rowInfo_ok hinfo) hb1 (Nat.le_trans q6 (by decide))
                have dd : ∀ (is : List Nat) (u : List Value), denC is (C ++ [.rest u]) = denC is C ++ u := fun is u => by
                  rw [denC_app2]; simp [denC, cl]
                have hwfn : wfL ids.length (C ++ [.rest tail]) = true := by
                  rw [hl]
                  have wapp : ∀ (x y : List V), wfL bl.length x = true → wfL bl.length y = true → wfL bl.length (x ++ y) = true := by
                    intro x y
                    induction x with
                    | nil => intro _ h; simpa using h
                    | cons v x ih => intro h1 h2; simp only [List.cons_append, wfL, Bool.and_eq_true] at h1 ⊢; exact ⟨h1.1, ih h1.2 h2⟩
                  exact wapp _ _ q9 rfl
                refine ⟨_, [b'], _, ch, w', .inl ?_, by simp [hl], ?_, h c' tail r2 ?_⟩
                · have := append_op (P := P) (ρ := ρ) (o := o) ho (sv := .slice (some ⟨ids.getD j0 0, o0, none⟩) 0 0) (xv := .slice (some ⟨ids.getD i 0, 0, none⟩) (m + 1) cc2) (by rw [hρ, hes]; simp only [den]) (by rw [hρ, hxs]; simp only [den]) hrun
                  rw [this]
                  simp only [den]
                  rw [← hl, getD_last]
                · rw [lits_app _ _ _ _ hl, lits_ids _ _ (by rw [hl]; exact q10)]
                  simp only [lits, mkB]
                  rw [denC_app _ hwfn, dd]
                  have := S.new hc hge hh
                  refine this.perm ?_
                  rw [List.append_assoc (lits ids ids bl)]
                  exact (List.perm_middle).symm
                · rw [← denC_len (ids := ids), dd, hlen]
            · exact h.elim
          · exact h.elim
        · exact h.elim
      · exact h.elim
    · exact h.elim
  · exact h.elim
def appO (P : Program) : (Operand → V) → Op → List VB → List G → VK G → Prop := fun e op bl ch K => match op with
  | .call c => (match c.callee, c.args.toList, c.argTypes.toList with
    | .builtin .append, [s, xs], [t, tx] => (match P.underlying t, P.underlying tx with
      | some (.slice T), some (.slice _) => (match P.info? T, e s, e xs with
        | some _, .sl j o n c, .sl _ _ 0 _ => cond (Nat.ble n c) (K (.sl j o n c) bl ch) False
        | some _, .raw (.slice none 0 0), .raw (.slice none 0 0) => K (.raw (.slice none 0 0)) bl ch
        | _, _, _ => False)
      | _, _ => False)
    | _, _, _ => False)
  | .typeAssert x _ t true => (match e x, P.underlying t with
    | .ifc t' v, some (.struct _) => cond (Nat.beq t' t) (K (.tup [v, .bool true]) bl ch) False
    | _, _ => False)
  | _ => False
theorem appO_ok {P : Program} {gl : Nat → Option Nat} : HOk (G := G) P gl (appO P) := by
  intro e op ids bl ch R ms w0 w K ρ o hg hl S hρ ho h
  unfold appO at h
  split at h
  · rename_i c
    split at h
    · rename_i s xs t tx hcal hargs hts
      split at h
      · rename_i T T' ht htx
        obtain ⟨cal, ar, ats⟩ := c
        simp only at hcal hargs hts
        have e2 : ar = #[s, xs] := by rw [← hargs]
        have e3 : ats = #[t, tx] := by rw [← hts]
        subst hcal e2 e3
        split at h
        · rename_i inf j o0 n c i o1 c1 hinfo hes hxs
          cases hq : Nat.ble n c with
          | false => rw [hq] at h; exact h.elim
          | true =>
            rw [hq] at h
            have hrun := run_append_nothing (P := P) w t tx o.type T inf ht hinfo (some ⟨ids.getD j 0, o0, none⟩) n c (Nat.le_of_ble_eq_true hq) (.slice (some ⟨ids.getD i 0, o1, none⟩) 0 c1) (Src.ofSlice w htx _ 0 c1 [] (by simp) (fun j u hj => by simp at hj) (fun u hu => by simp at hu))
            refine ⟨_, [], bl, ch, w, .inl ?_, by simpa using hl, by simpa using S, h⟩
            have := append_op (P := P) (ρ := ρ) (o := o) ho (by rw [hρ, hes]; simp only [den]) (by rw [hρ, hxs]; simp only [den]) hrun
            rw [this]
            simp only [den, List.append_nil]
        · rename_i inf hinfo hes hxs
          have hrun := run_append_nothing (P := P) w t tx o.type T inf ht hinfo none 0 0 (Nat.le_refl _) (.slice none 0 0) (Src.ofNil w htx 0)
          refine ⟨_, [], bl, ch, w, .inl ?_, by simpa using hl, by simpa using S, h⟩
          have := append_op (P := P) (ρ := ρ) (o := o) ho (by rw [hρ, hes]; simp only [den]) (by rw [hρ, hxs]; simp only [den]) hrun
          rw [this]
          simp only [den]
        · exact h.elim
      · exact h.elim
    · exact h.elim
  · rename_i x xt t
    split at h
    · rename_i t' v fs hx hu
      cases hq : Nat.beq t' t with
      | false => rw [hq] at h; exact h.elim
      | true =>
        rw [hq] at h
        obtain rfl := Nat.eq_of_beq_eq_true hq
        refine ⟨_, [], bl, ch, w, .inl ?_, by simpa using hl, by simpa using S, h⟩
        unfold execOp
        simp only [ho, hρ, hx, den, denM, Instr.typeAssert, Sem.run_bind, run_underlying hu, Result.andThen_ok, if_true, Sem.run_pure, List.append_nil]
        try rfl
    · exact h.elim
  · exact h.elim
def isO (e : Operand → V) (op : Op) : Bool := match op with
  | .call c => (match c.args.toList with
    | [_, x] => (match e x with | .sl _ _ 0 _ => true | .raw (.slice none 0 0) => true | _ => false)
    | _ => false)
  | .typeAssert .. => true
  | _ => false
def isE (e : Operand → V) (op : Op) : Bool := match op with
  | .call c => (match c.args.toList with
    | s :: _ => (match e s with | .sl _ _ 0 0 => true | _ => false)
    | _ => false)
  | _ => false
def appT (P : Program) : (Operand → V) → Op → List VB → List G → VK G → Prop := fun e op bl ch K => cond (isO e op) (appO P e op bl ch K) (cond (isE e op) (appE P e op bl ch K) (appM P e op bl ch K))
theorem appT_ok {P : Program} {gl : Nat → Option Nat} : HOk (G := G) P gl (appT P) := hor_ok isO appO_ok (hor_ok isE appE_ok appM_ok)
end Vx
