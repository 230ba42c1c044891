/- A region that draws its order, in which one operation calls a function that changes some blocks, and others lay new blocks. Over any program. -/
import Derived.Test.YtgbgjbjlblcpaaaGreatDoorSSG
namespace Sx
open Go Go.RowKit Go.BigFrame
set_option linter.unusedVariables false
set_option linter.unusedSimpArgs false

def tyO : Obj → Option TypeId
  | .cells _ t _ => some t
  | _ => none
/-- a new block, pointed to -/
def sA (obj : Obj) : Sp := ⟨1, fun ids => .pointer (some ⟨ids.getD 0 0, 0, none⟩), fun ids => [(ids.getD 0 0, obj)]⟩
inductive VX where
  | v (x : Value)
  | a (obj : Obj)
def VX.sp : VX → Sp
  | .v x => s0 x
  | .a o => sA o
def VX.val (id : Nat) : VX → Value
  | .v x => x
  | .a _ => .pointer (some ⟨id, 0, none⟩)
def valsX (ids : Nat → Nat) : Nat → List VX → List Value
  | _, [] => []
  | i, x :: xs => x.val (ids i) :: valsX ids (i + 1) xs
def newX (ids : Nat → Nat) : Nat → List VX → List Blk
  | _, [] => []
  | i, .v _ :: xs => newX ids (i + 1) xs
  | i, .a o :: xs => ⟨ids i, true, o⟩ :: newX ids (i + 1) xs
def tysX : List VX → List (Option TypeId)
  | [] => []
  | .v _ :: xs => tysX xs
  | .a o :: xs => tyO o :: tysX xs
def tyNd : List (Option TypeId) → Bool
  | [] => true
  | none :: _ => false
  | some t :: l => (l.all fun x => match x with | some u => !(Nat.beq u t) | none => false) && tyNd l
theorem tyNd_some : ∀ {l : List (Option TypeId)}, tyNd l = true → ∀ x ∈ l, x ≠ none
  | none :: _, h, _, _ => by simp [tyNd] at h
  | some t :: l, h, x, hx => by
    simp only [tyNd, Bool.and_eq_true] at h
    rcases List.mem_cons.1 hx with rfl | hx
    · simp
    · exact tyNd_some h.2 x hx
theorem tyNd_head {t : TypeId} {l : List (Option TypeId)} (h : tyNd (some t :: l) = true) : ∀ x ∈ l, x ≠ some t := by
  simp only [tyNd, Bool.and_eq_true] at h
  intro x hx e
  have := List.all_eq_true.1 h.1 x hx
  subst e
  simp at this
theorem mem_newX {ids : Nat → Nat} : ∀ {xs : List VX} {i : Nat} {y : Blk}, y ∈ newX ids i xs → ∃ j o, xs[j]? = some (.a o) ∧ y = ⟨ids (i + j), true, o⟩
  | [], _, y, h => by simp [newX] at h
  | .v _ :: xs, i, y, h => by
    obtain ⟨j, o, h1, h2⟩ := mem_newX (show y ∈ newX ids (i + 1) xs from h)
    exact ⟨j + 1, o, by simpa using h1, by rw [h2, show i + 1 + j = i + (j + 1) by omega]⟩
  | .a o :: xs, i, y, h => by
    rcases List.mem_cons.1 (show y ∈ ⟨ids i, true, o⟩ :: newX ids (i + 1) xs from h) with rfl | h
    · exact ⟨0, o, rfl, rfl⟩
    · obtain ⟨j, o, h1, h2⟩ := mem_newX h
      exact ⟨j + 1, o, by simpa using h1, by rw [h2, show i + 1 + j = i + (j + 1) by omega]⟩
theorem ty_newX {ids : Nat → Nat} {xs : List VX} : ∀ {i : Nat} {y : Blk}, y ∈ newX ids i xs → tyO y.obj ∈ tysX xs := by
  induction xs with
  | nil => intro i y h; simp [newX] at h
  | cons x xs ih =>
    intro i y h
    cases x with
    | v x => exact ih (show y ∈ newX ids (i + 1) xs from h)
    | a o =>
      rcases List.mem_cons.1 (show y ∈ ⟨ids i, true, o⟩ :: newX ids (i + 1) xs from h) with rfl | h
      · simp [tysX]
      · simp [tysX, ih h]
theorem get_valsX {ids : Nat → Nat} (xs : List VX) : ∀ {i k : Nat} {u : Value}, (valsX ids i xs)[k]? = some u → ∃ x, xs[k]? = some x ∧ u = x.val (ids (i + k)) := by
  induction xs with
  | nil => intro i k u h; simp [valsX] at h
  | cons x xs ih =>
    intro i k u h
    cases k with
    | zero => exact ⟨x, rfl, by simpa [valsX] using h.symm⟩
    | succ k =>
      obtain ⟨y, h1, h2⟩ := ih (show (valsX ids (i + 1) xs)[k]? = some u by simpa [valsX] using h)
      exact ⟨y, by simpa using h1, by rw [h2, show i + 1 + k = i + (k + 1) by omega]⟩
theorem len_valsX {ids : Nat → Nat} : ∀ {xs : List VX} {i : Nat}, (valsX ids i xs).length = xs.length
  | [], _ => rfl
  | x :: xs, i => by simp [valsX, len_valsX (xs := xs)]
section
variable {ms : List Nat} {w0 w : World} {bs : List Blk}
/-- new blocks of types that no other one has -/
theorem St.addX (S : St ms w0 bs w) (xs : List VX) (ids : Nat → Nat) (i : Nat) (hnd : tyNd (tysX xs) = true) {B : Nat} (hB : w0.heap.size ≤ B)
    (hat : ∀ (j : Nat) o, xs[j]? = some (.a o) → B ≤ ids (i + j) ∧ w.heap[ids (i + j)]? = some o) (hold : ∀ x ∈ bs, (x.id < B ∨ ∀ y ∈ newX ids i xs, tyO x.obj ≠ tyO y.obj)) : St ms w0 (newX ids i xs ++ bs) w := by
  have hn : ∀ y ∈ newX ids i xs, B ≤ y.id ∧ w.heap[y.id]? = some y.obj := fun y hy => by
    obtain ⟨j, o, h1, rfl⟩ := mem_newX hy
    exact hat j o h1
  refine St.mk' S.ch (fun x hx => ?_) (fun x hx hw => ?_) ?_
  · rcases List.mem_append.1 hx with h | h
    · exact (hn x h).2
    · exact S.at' h
  · rcases List.mem_append.1 hx with h | h
    · exact .inr (Nat.le_trans hB (hn x h).1)
    · exact S.own' h hw
  · rw [List.pairwise_append]
    refine ⟨?_, S.pw, fun x hx y hy _ e => ?_⟩
    · have key : ∀ (xs : List VX) (i : Nat), tyNd (tysX xs) = true → (∀ y ∈ newX ids i xs, w.heap[y.id]? = some y.obj) → (newX ids i xs).Pairwise clash := by
        intro xs
        induction xs with
        | nil => intro i _ _; simp [newX]
        | cons x xs ih =>
          intro i hnd hat
          cases x with
          | v x => exact ih (i + 1) hnd hat
          | a o =>
            refine List.pairwise_cons.2 ⟨fun y hy _ e => ?_, ?_⟩
            · have h1 := hat ⟨ids i, true, o⟩ (by simp [newX])
              have h2 := hat y (by simp [newX, hy])
              simp only at h1 e
              rw [e] at h1
              have h3 : o = y.obj := by rw [h1] at h2; simpa using h2
              have ht := ty_newX hy
              cases hto : tyO o with
              | none => exact tyNd_some hnd _ (by simp [tysX, hto]) rfl
              | some t =>
                simp only [tysX, hto] at hnd
                exact tyNd_head hnd _ ht (by rw [← h3, hto])
            · refine ih (i + 1) ?_ (fun y hy => hat y (by simp [newX, hy]))
              cases hto : tyO o with
              | none => simp [tysX, hto, tyNd] at hnd
              | some t => simp only [tysX, hto, tyNd, Bool.and_eq_true] at hnd; exact hnd.2
      exact key xs i hnd (fun y hy => (hn y hy).2)
    · have h1 := hn x hx
      have h2 := S.at' hy
      rcases hold y hy with h | h
      · omega
      · rw [e] at h1
        have h3 : x.obj = y.obj := by rw [h1.2] at h2; simpa using h2
        exact h x hx (by rw [h3])
end
section
variable {P : Program} {lf l : List Oper} {sp : Nat → Sp} {a0 : Act} {w : World} {i k0 : Nat} {pre : List (List Nat)} {o : Oper} {es : List Nat} {pv : Value → World → Prop}
theorem gA_ (zk : ∀ v w, pv v w → v = (sp k0).f []) (obj : Obj) (hsp : sp i = sA obj := by rfl) (hne : Nat.beq i k0 = false := by kernel_rfl) (hs : slotsG l sp i o = true := by kernel_rfl)
    (h : (fun w => (execOp (envE (envOf l sp a0 o)) o).run P w) = (fun w => .ok (.value (.pointer (some ⟨w.heap.size, 0, none⟩))) (w.alloc obj)) := by kernel_rfl) :
    EStepOk P k0 pre es (HQ k0 pv sp w.heap.size) lf l (yof a0) w i o := by
  intro y w' _ hc hfree hpre
  obtain ⟨hag, hin, hg⟩ := g_env zk hs hfree hpre
  have hik : i ≠ k0 := fun e => by rw [e] at hne; simp at hne
  refine ⟨fun _ => ?_, fun hw => by simp [wantedY, hg] at hw⟩
  refine yenv _ hag ?_ hin
  have h2 : (execOp (envE (envOf l sp a0 o)) o).run P w' = _ := congrFun h w'
  unfold Yields
  rw [h2]
  refine ⟨fun e => absurd e hik, fun _ => Ch.alloc _ _ _, ?_⟩
  unfold HQ
  rw [hne, hsp]
  refine ⟨[w'.heap.size], rfl, rfl, fun p hp => ?_⟩
  obtain rfl := List.mem_singleton.1 hp
  exact ⟨hc.size, heap_alloc_new w' _⟩
theorem g_stepP (zk : ∀ v w, pv v w → v = (sp k0).f []) (hp : preB pre i = true) (hs : okG k0 l sp i o = true) (h : ∀ w', Ch [] w w' → Yields P o (envE (envOf l sp a0 o)) w' fun v w'' => Ch [] w' w'' ∧ v = (sp i).f []) :
    EStepOk P k0 pre es (HQ k0 pv sp w.heap.size) lf l (yof a0) w i o := by
  intro y w' hc0 hc hfree hpre
  obtain ⟨hne, hk, hb, hs⟩ := okG_out hs
  obtain ⟨hag, hin, hg⟩ := g_env zk hs hfree hpre
  have hik : i ≠ k0 := fun e => by rw [e] at hne; simp at hne
  have hH : ∀ v w'', v = (sp i).f [] → HQ k0 pv sp w.heap.size i v w'' := fun v w'' e => by
    unfold HQ; rw [hne]; exact ⟨[], by simp [hk], e, by rw [hb]; simp⟩
  refine ⟨fun _ => ?_, fun hw => by simp [wantedY, hg] at hw⟩
  refine yenv _ hag ?_ hin
  have := h w' (hc0 (.inr hp))
  unfold Yields at this ⊢
  split at this
  · exact ⟨fun e' => absurd e' hik, fun _ => this.1, hH _ _ this.2⟩
  · exact ⟨fun e' => absurd e' hik, fun _ => this.1, hH _ _ this.2⟩
  · exact this.mono fun v w'' h => ⟨fun e' => absurd e' hik, fun _ => h.1, hH _ _ h.2⟩
  · exact this.elim
variable {ms : List Nat} {w0 : World} {bs : List Blk}
/-- ahead of the call: all blocks are as they were -/
theorem gLp_ (zk : ∀ v w, pv v w → v = (sp k0).f []) (S : St ms w0 bs w) (j b off : Nat) {x : Operand} {ty : TypeId} (ho : o.op = .load ty x := by rfl) (hp : preB pre i = true := by kernel_rfl) (hs : okG k0 l sp i o = true := by kernel_rfl) (hx : envE (envOf l sp a0 o) x = .pointer (some ⟨b, off, none⟩) := by kernel_rfl)
    (ha : (P.underlying ty).map aggD = some false := by kernel_rfl) (hb : lk bs j off = some (b, (sp i).f []) := by kernel_rfl) : EStepOk P k0 pre es (HQ k0 pv sp w.heap.size) lf l (yof a0) w i o :=
  g_stepP zk hp hs fun w' hc => Y.load1_ (S.quiet hc) j _ b off ⟨Ch.refl _ _, rfl⟩ ho hx ha hb
theorem gNp_ (zk : ∀ v w, pv v w → v = (sp k0).f []) (S : St ms w0 bs w) (j b off n : Nat) (vs : Array Value) {x : Operand} {ty : TypeId} (ho : o.op = .load ty x := by rfl) (hp : preB pre i = true := by kernel_rfl) (hv : (sp i).f [] = .agg vs := by kernel_rfl) (hs : okG k0 l sp i o = true := by kernel_rfl) (hx : envE (envOf l sp a0 o) x = .pointer (some ⟨b, off, none⟩) := by kernel_rfl)
    (ha : (P.underlying ty).map aggD = some true := by kernel_rfl) (hn : (P.info? ty).map (·.size) = some n := by kernel_rfl) (hb : lkN bs j off n = some (b, vs) := by kernel_rfl) : EStepOk P k0 pre es (HQ k0 pv sp w.heap.size) lf l (yof a0) w i o :=
  g_stepP zk hp hs fun w' hc => Y.loadN_ (S.quiet hc) j n vs b off ⟨Ch.refl _ _, hv.symm⟩ ho hx ha hn hb
/-- ahead of the call: a call that only returns, and reads -/
theorem gCp_ (zk : ∀ v w, pv v w → v = (sp k0).f []) (f : FuncId) (args : Array Value) (hg : ∀ w', Ch [] w w' → Gives P f args w' fun v w'' => v = (sp i).f [] ∧ Ch [] w' w'') (hp : preB pre i = true := by kernel_rfl) (hs : okG k0 l sp i o = true := by kernel_rfl) (h : (fun w => (execOp (envE (envOf l sp a0 o)) o).run P w) = (fun w => .ok (.enter f args) w) := by kernel_rfl) : EStepOk P k0 pre es (HQ k0 pv sp w.heap.size) lf l (yof a0) w i o := by
  refine g_stepP zk hp hs fun w' hc => ?_
  have h2 : (execOp (envE (envOf l sp a0 o)) o).run P w' = .ok (.enter f args) w' := congrFun h w'
  unfold Yields
  rw [h2]
  exact (hg w' hc).mono fun v w'' h => ⟨h.2, h.1⟩
/-- the call -/
theorem gKX_ {A bl R : List Blk} {val : Value} {Q : List Blk → Prop} (S : St ms w0 (A ++ (bl ++ R)) w) (f : FuncId) (args : Array Value)
    (hg : ∀ w', Ch [] w w' → St (bl.map Blk.id) w' bl w' → Gives P f args w' fun v w'' => ∃ bl', v = val ∧ Q bl' ∧ St (bl.map Blk.id) w' bl' w'')
    (he : Nat.beq i k0 = true := by kernel_rfl) (hs : slotsE k0 l sp i o = true := by kernel_rfl) (h : (fun w => (execOp (envE (envOf l sp a0 o)) o).run P w) = (fun w => .ok (.enter f args) w) := by kernel_rfl) :
    EStepOk P k0 pre (bl.map Blk.id) (HQ k0 (pvC val Q bl w.heap.size) sp w.heap.size) lf l (yof a0) w i o := by
  refine e_step0 he hs fun w' hc => ?_
  have h2 : (execOp (envE (envOf l sp a0 o)) o).run P w' = .ok (.enter f args) w' := congrFun h w'
  unfold Yields
  rw [h2]
  have Sq := S.quiet hc
  have S1 : St (bl.map Blk.id) w' bl w' := St.mk' (Ch.refl _ _) (fun x hx => Sq.at' (by simp [hx])) (fun x hx _ => .inl (List.mem_map_of_mem hx)) (by
    have := Sq.pw
    rw [List.pairwise_append, List.pairwise_append] at this
    exact this.2.1.1)
  refine (hg w' hc S1).mono fun v w'' ⟨bl', hv, hQ, S2⟩ => ⟨S2.ch, hv, bl', hQ, fun y hy => ⟨S2.at' hy, fun hw => ?_⟩, S2.pw⟩
  rcases S2.own' hy hw with h | h
  · obtain ⟨u, hu, e⟩ := List.mem_map.1 h
    exact .inl ⟨u, hu, e.symm⟩
  · exact .inr (Nat.le_trans hc.size h)
end
section
variable {P : Program} {a0 : Act} {w w0 : World} {Q : Exit → Act → World → Prop} {id : Nat} {L : List Oper} {ms : List Nat}
theorem callX_ {A bl R : List Blk} (S : St ms w0 (A ++ (bl ++ R)) w) (hwr : ∀ x ∈ bl, x.wr = true) (C : List Blk → Prop) (hC : ∀ bl', C bl' → ∀ x ∈ bl', x.wr = true) (val : Value) (m k0 : Nat) (pre : List (List Nat)) (xs : List VX)
    (hT : ∀ bl', C bl' → ∀ x ∈ bl', ∀ t ∈ tysX xs, tyO x.obj ≠ t) (paths : List (List Nat))
    (hs : ∀ (zk : ∀ v w', pvC val C bl w.heap.size v w' → v = (spl (xs.map VX.sp) k0).f []) (zD : ∀ w', Ch (bl.map Blk.id) w w' → St ms w0 (A ++ R) w'), EStepAll P k0 pre (bl.map Blk.id) (HQ k0 (pvC val C bl w.heap.size) (spl (xs.map VX.sp)) w.heap.size) L (L.take m) (yof a0) w 0 (L.take m))
    (hq : ∀ (ids : Nat → Nat) bl' w', C bl' → St ms w0 (newX ids 0 xs ++ (A ++ (bl' ++ R))) w' → WL P L.toArray Q (L.drop m) (putsL (valsX ids 0 xs) (L.take m) a0) w')
    (hv : xs[k0]? = some (.v val) := by rfl) (hvl : xs.length = m := by kernel_rfl) (hnd : tyNd (tysX xs) = true := by kernel_rfl) (hpre : preOk (L.take m) k0 pre = true := by kernel_rfl)
    (hm : P.follows .mixedOrders = true := by kernel_rfl) (hl : Nat.ble m L.length = true := by kernel_rfl) (ht : tailOk L m paths = true := by kernel_rfl) (hdst : dstsOkE a0.tmps.size (L.take m) = true := by kernel_rfl) (hedge : edgesOk 0 L = true := by kernel_rfl) : (Code.region id L.toArray true).wp P Q a0 w := by
  have hml : (L.take m).length = m := by have := Nat.le_of_ble_eq_true hl; simp; omega
  have hk0 : k0 < m := by
    rcases Nat.lt_or_ge k0 xs.length with h | h
    · omega
    · simp [h] at hv
  have hspv : ∀ i u, xs[i]? = some u → spl (xs.map VX.sp) i = u.sp := fun i u hu => by
    unfold spl
    rw [List.getD_eq_getElem?_getD, List.getElem?_map, hu]; rfl
  have zk : ∀ v w', pvC val C bl w.heap.size v w' → v = (spl (xs.map VX.sp) k0).f [] := fun v w' h => by rw [hspv k0 _ hv]; exact h.1
  refine quietE_ m k0 pre (bl.map Blk.id) (pvC val C bl w.heap.size) [] paths _ hpre (fun v w1 w2 hc h => pvC.stab h hc) ?_ (hs zk (fun w' hc => S.less hwr hc)) ?_ hm hl ht hdst hedge
  · intro x hx
    obtain ⟨y, hy, rfl⟩ := List.mem_map.1 hx
    exact S.ge (by simp [hy])
  · intro vs w' hc hall
    have hK := hall k0 hk0
    unfold HQ at hK
    rw [show Nat.beq k0 k0 = true from Nat.beq_refl k0] at hK
    obtain ⟨hv0, bl', hCb, hat, hpw⟩ := hK
    have S2 := S.redo hwr hc (fun y hy => (hat y hy).1) (fun y hy => (hat y hy).2 (hC bl' hCb y hy)) hpw
    have hid : ∀ i : Nat, ∃ d : Nat, ∀ o, xs[i]? = some (.a o) → vs i = .pointer (some ⟨d, 0, none⟩) ∧ w.heap.size ≤ d ∧ w'.heap[d]? = some o := by
      intro i
      cases hx : xs[i]? with
      | none => exact ⟨0, fun o h => by cases h⟩
      | some x =>
        cases x with
        | v x => exact ⟨0, fun o h => by cases h⟩
        | a o =>
          have hi : i < m := by
            rcases Nat.lt_or_ge i xs.length with h | h
            · omega
            · simp [h] at hx
          have hH := hall i hi
          unfold HQ at hH
          have hne : Nat.beq i k0 = false := by
            cases hb : Nat.beq i k0
            · rfl
            · have := Nat.eq_of_beq_eq_true hb; subst this; rw [hv] at hx; cases hx
          rw [hne] at hH
          obtain ⟨l, h1, h2, h3⟩ := hH
          rw [hspv i _ hx] at h1 h2 h3
          refine ⟨l.getD 0 0, fun o' ho' => ?_⟩
          obtain rfl : o = o' := by simpa using ho'
          have h4 := h3 (l.getD 0 0, o) (by simp [VX.sp, sA])
          exact ⟨h2, h4.1, h4.2⟩
    have hids : ∃ ids : Nat → Nat, ∀ i o, xs[i]? = some (.a o) → vs i = .pointer (some ⟨ids i, 0, none⟩) ∧ w.heap.size ≤ ids i ∧ w'.heap[ids i]? = some o := by
      refine ⟨fun i => Classical.choose (hid i), fun i o ho => ?_⟩
      exact Classical.choose_spec (hid i) o ho
    obtain ⟨ids, hids⟩ := hids
    have S3 : St ms w0 (newX ids 0 xs ++ (A ++ (bl' ++ R))) w' := by
      refine S2.addX xs ids 0 hnd (B := w.heap.size) S.ch.size (fun j o hj => by rw [Nat.zero_add]; exact (hids j o hj).2) (fun x hx => ?_)
      have hlt : ∀ x, x ∈ A ∨ x ∈ R → x.id < w.heap.size := fun x h => S.ge (by rcases h with h | h <;> simp [h])
      rcases List.mem_append.1 hx with h | h
      · exact .inl (hlt x (.inl h))
      · rcases List.mem_append.1 h with h | h
        · exact .inr fun y hy => hT bl' hCb x h _ (ty_newX hy)
        · exact .inl (hlt x (.inr h))
    have hp : putsAll vs 0 (L.take m) a0 = putsL (valsX ids 0 xs) (L.take m) a0 := putsE_eq (by rw [len_valsX]; omega) fun i o u ho hu => by
      obtain ⟨x, hx, rfl⟩ := get_valsX xs hu
      have hi : i < m := by
        rcases Nat.lt_or_ge i xs.length with h | h
        · omega
        · simp [h] at hx
      refine .inr ?_
      rw [Nat.zero_add]
      cases x with
      | a o => exact (hids i o hx).1
      | v x =>
        by_cases hik : i = k0
        · subst hik
          rw [hv] at hx
          rw [hv0]; simpa [VX.val] using hx
        · have hH := hall i hi
          unfold HQ at hH
          have hne : Nat.beq i k0 = false := by
            cases hb : Nat.beq i k0
            · rfl
            · exact absurd (Nat.eq_of_beq_eq_true hb) hik
          rw [hne] at hH
          obtain ⟨l, h1, h2, _⟩ := hH
          rw [hspv i _ hx] at h1 h2
          obtain rfl : l = [] := List.eq_nil_of_length_eq_zero (by simpa [VX.sp, s0] using h1)
          rw [h2]; rfl
    rw [hp]
    exact hq ids bl' w' hCb S3
end
end Sx
