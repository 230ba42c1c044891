/- A region that draws its order, in which one operation appends the elements of a slice that is made there. Over any program. -/
import Derived.Test.YtbjanfgipcniiaaGreatDoorSQE
namespace Sx
open Go Go.RowKit Go.BigFrame
set_option linter.unusedVariables false
set_option linter.unusedSimpArgs false

theorem Rowed.le {z T olds n bl B B' v} {w : World} (h : Rowed z T olds n bl B v w) (hb : B' ≤ B) : Rowed z T olds n bl B' v w := by
  obtain ⟨x, c, bl', h1, h2, h3⟩ := h
  exact ⟨x, c, bl', h1, h2, fun y hy => ⟨(h3 y hy).1, (h3 y hy).2.imp id (fun h => Nat.le_trans hb h)⟩⟩
/-- a new slice of m elements -/
def sB (m : Nat) (news : List Value) (T : TypeId) : Sp := ⟨1, fun ids => .slice (some ⟨ids.getD 0 0, 0, none⟩) m m, fun ids => [(ids.getD 0 0, .cells news.toArray T (0, 0))]⟩
section
variable {P : Program} {lf l : List Oper} {sp : Nat → Sp} {a0 : Act} {w : World} {i k0 : Nat} {pre : List (List Nat)} {o : Oper} {es : List Nat} {pv : Value → World → Prop}
theorem eB_ (m : Nat) (news : List Value) (T : TypeId) (hsp : sp i = sB m news T := by rfl) (hne : Nat.beq i k0 = false := by kernel_rfl) (hs : slotsE k0 l sp i o = true := by kernel_rfl)
    (h : (fun w => (execOp (envE (envOf l sp a0 o)) o).run P w) = (fun w => .ok (.value (.slice (some ⟨w.heap.size, 0, none⟩) m m)) (w.alloc (.cells news.toArray T (0, 0)))) := by kernel_rfl) :
    EStepOk P k0 pre es (HQ k0 pv sp w.heap.size) lf l (yof a0) w i o := by
  intro y w' _ hc hfree hpre
  obtain ⟨hag, hin, hg⟩ := e_env (H := fun _ _ _ => True) hs hfree hpre
  have hik : i ≠ k0 := fun e => by rw [e] at hne; simp at hne
  refine ⟨fun _ => ?_, fun hw => by simp [wantedY, hg] at hw⟩
  refine yenv _ hag ?_ hin
  have h2 : (execOp (envE (envOf l sp a0 o)) o).run P w' = _ := congrFun h w'
  unfold Yields
  rw [h2]
  refine ⟨fun e => absurd e hik, fun _ => Ch.alloc _ _ _, ?_⟩
  unfold HQ
  rw [hne, hsp]
  refine ⟨[w'.heap.size], rfl, rfl, fun p hp => ?_⟩
  obtain rfl := List.mem_singleton.1 hp
  exact ⟨hc.size, heap_alloc_new w' _⟩
variable {ms : List Nat} {w0 : World}
theorem eA_ {A bl R : List Blk} {xs : Option Addr} {z n c : Nat} {T T' : TypeId} {olds : List Value} (S : St ms w0 (A ++ (bl ++ R)) w) (hr : rowv z T olds xs n c bl) (d1 d2 j2 m : Nat) (news : List Value) (bytes : Nat) {t tx e' : TypeId}
    (hbd : (n + m) * bytes ≤ 140737488355328) (h63 : n + m ≤ maxLen) (ho : o.op = .call ⟨.builtin .append, #[.tmp d1, .tmp d2], #[t, tx]⟩ := by rfl) (hnl : news.length = m * z := by rfl) (h1 : news.all (·.oneCell') = true := by kernel_rfl)
    (hg : o.guard.isNone = true := by kernel_rfl) (he : Nat.beq i k0 = true := by kernel_rfl)
    (hs1 : (match srcOf l o d1 with | some j => !(Nat.beq j k0) && Nat.beq (sp j).k 0 | none => freeB l i d1) = true := by kernel_rfl) (hv1 : valOf l sp a0 o d1 = .slice xs n c := by kernel_rfl)
    (hs2 : srcOf l o d2 = some j2 := by kernel_rfl) (hj2 : Nat.beq j2 k0 = false := by kernel_rfl) (hsp : sp j2 = sB m news T' := by rfl)
    (ht : P.underlying t = some (.slice T) := by kernel_rfl) (htx : P.underlying tx = some (.slice e') := by kernel_rfl) (hinfo : (P.info? T).map (fun i => (i.zero.map (·.cells.size), i.size, i.bytes)) = some (some z, z, bytes) := by kernel_rfl) :
    EStepOk P k0 pre (bl.map Blk.id) (HQ k0 (Rowed z T (olds ++ news) (n + m) bl w.heap.size) sp w.heap.size) lf l (yof a0) w i o := by
  intro y w' hc0 hc hfree hpre
  have hik : i = k0 := Nat.eq_of_beq_eq_true he
  have hg' : o.guard = none := by cases hx : o.guard <;> simp_all
  have hy1 : y d1 = .slice xs n c := by
    unfold valOf at hv1
    cases hsrc : srcOf l o d1 with
    | some j =>
      rw [hsrc] at hv1 hs1
      obtain ⟨hed, hd⟩ := srcOf_edge hsrc
      simp only [Bool.and_eq_true, Bool.not_eq_true'] at hs1
      have h2 := hpre j d1 hed hd
      unfold HQ at h2
      rw [hs1.1] at h2
      obtain ⟨ids, h3, h4, _⟩ := h2
      have h5 : (sp j).k = 0 := Nat.eq_of_beq_eq_true hs1.2
      obtain rfl : ids = [] := List.eq_nil_of_length_eq_zero (by rw [h3, h5])
      rw [h4]; exact hv1
    | none =>
      rw [hsrc] at hv1 hs1
      rw [hfree d1 hs1]; exact hv1
  obtain ⟨b, hy2, hb⟩ : ∃ b, y d2 = .slice (some ⟨b, 0, none⟩) m m ∧ w'.heap[b]? = some (.cells news.toArray T' (0, 0)) := by
    obtain ⟨hed, hd⟩ := srcOf_edge hs2
    have h2 := hpre j2 d2 hed hd
    unfold HQ at h2
    rw [hj2, hsp] at h2
    obtain ⟨ids, h3, h4, h5⟩ := h2
    match ids, h3 with
    | [b], _ => exact ⟨b, h4, (h5 (b, .cells news.toArray T' (0, 0)) (List.mem_singleton.2 rfl)).2⟩
  have hsrc : Src P z tx (.slice (some ⟨b, 0, none⟩) m m) m news w' := by
    refine Src.ofSlice w' htx ⟨b, 0, none⟩ m m news hnl (fun j u hj => ?_) (fun u hu => List.all_eq_true.1 h1 u hu)
    rw [Addr.add_lit, cell_of hb]
    simpa using hj
  have Sq := S.quiet (hc0 (.inl hik))
  obtain ⟨v, w'', hrun, hc2, hR⟩ := run_appendR (P := P) (ty := o.type) (w := w') hr (fun y hy => Sq.at' (by simp [hy])) bytes hsrc ht hinfo hbd h63
  refine ⟨fun _ => ?_, fun hw => by simp [wantedY, hg'] at hw⟩
  unfold Yields
  rw [append_op (ρ := rho y) ho (sv := .slice xs n c) (xv := .slice (some ⟨b, 0, none⟩) m m) hy1 hy2 hrun]
  refine ⟨fun _ => hc2, fun e => absurd hik e, ?_⟩
  unfold HQ
  rw [he]
  exact hR.le hc.size
end
section
variable {P : Program} {a0 : Act} {w w0 : World} {Q : Exit → Act → World → Prop} {id : Nat} {L : List Oper} {ms : List Nat}
/-- the region: k0 appends what i1 makes; u: the slice that i1 made -/
theorem appL_ {A bl R : List Blk} {xs : Option Addr} {z n c : Nat} {T T' : TypeId} {olds : List Value} (S : St ms w0 (A ++ (bl ++ R)) w) (hr : rowv z T olds xs n c bl) (m k0 i1 mm : Nat) (news : List Value) (pre : List (List Nat)) (vals : List Value) (paths : List (List Nat))
    (hs : EStepAll P k0 pre (bl.map Blk.id) (HQ k0 (Rowed z T (olds ++ news) (n + mm) bl w.heap.size) (spl ((vals.map s0).set i1 (sB mm news T'))) w.heap.size) L (L.take m) (yof a0) w 0 (L.take m))
    (hq : ∀ x' c' bl' u w', rowv z T (olds ++ news) x' (n + mm) c' bl' → St ms w0 (A ++ (bl' ++ R)) w' → WL P L.toArray Q (L.drop m) (putsL ((vals.set k0 (.slice x' (n + mm) c')).set i1 u) (L.take m) a0) w')
    (hk : Nat.blt k0 m = true := by kernel_rfl) (hi : Nat.blt i1 m = true := by kernel_rfl) (hik : Nat.beq i1 k0 = false := by kernel_rfl) (hvl : vals.length = m := by kernel_rfl) (hpre : preOk (L.take m) k0 pre = true := by kernel_rfl)
    (hm : P.follows .mixedOrders = true := by kernel_rfl) (hl : Nat.ble m L.length = true := by kernel_rfl) (ht : tailOk L m paths = true := by kernel_rfl) (hdst : dstsOkE a0.tmps.size (L.take m) = true := by kernel_rfl) (hedge : edgesOk 0 L = true := by kernel_rfl) : (Code.region id L.toArray true).wp P Q a0 w := by
  have hml : (L.take m).length = m := by have := Nat.le_of_ble_eq_true hl; simp; omega
  have hk' : k0 < m := by simpa [Nat.blt_eq] using hk
  have hi' : i1 < m := by simpa [Nat.blt_eq] using hi
  have hne : i1 ≠ k0 := fun e => by rw [e] at hik; simp at hik
  refine quietE_ m k0 pre (bl.map Blk.id) (Rowed z T (olds ++ news) (n + mm) bl w.heap.size) vals paths _ hpre (fun v w1 w2 hc h => Rowed.stab h hc) ?_ hs ?_ hm hl ht hdst hedge
  · intro x hx
    obtain ⟨y, hy, rfl⟩ := List.mem_map.1 hx
    exact S.ge (by simp [hy])
  · intro vs w' hc hall
    have hK := hall k0 hk'
    unfold HQ at hK
    rw [show Nat.beq k0 k0 = true from Nat.beq_refl k0] at hK
    obtain ⟨x', c', bl', hv, hr', hat⟩ := hK
    have S2 := S.redo hr.wr hc (fun y hy => (hat y hy).1) (fun y hy => (hat y hy).2) hr'.pw
    have hp : putsAll vs 0 (L.take m) a0 = putsL ((vals.set k0 (.slice x' (n + mm) c')).set i1 (vs i1)) (L.take m) a0 := putsE_eq (by rw [List.length_set, List.length_set]; omega) fun i o u ho hu => by
      have hi2 : i < m := by
        rcases Nat.lt_or_ge i m with h | h
        · exact h
        · rw [List.getElem?_eq_none (by simp; omega)] at hu; simp at hu
      refine .inr ?_
      rw [Nat.zero_add]
      by_cases h1 : i = i1
      · subst h1
        rw [List.getElem?_set_self (by simp; omega)] at hu
        exact Option.some.inj hu
      · rw [List.getElem?_set_ne (fun e => h1 e.symm)] at hu
        by_cases h2 : i = k0
        · subst h2
          rw [List.getElem?_set_self (by omega)] at hu
          rw [hv]; exact Option.some.inj hu
        · rw [List.getElem?_set_ne (fun e => h2 e.symm)] at hu
          have hH := hall i hi2
          unfold HQ at hH
          have hb : Nat.beq i k0 = false := by
            cases hx : Nat.beq i k0
            · rfl
            · exact absurd (Nat.eq_of_beq_eq_true hx) h2
          rw [hb] at hH
          obtain ⟨ids, g1, g2, _⟩ := hH
          have h3 : spl ((vals.map s0).set i1 (sB mm news T')) i = s0 u := by
            unfold spl
            rw [List.getD_eq_getElem?_getD, List.getElem?_set_ne (fun e => h1 e.symm), List.getElem?_map, hu]; rfl
          rw [h3] at g1 g2
          obtain rfl : ids = [] := List.eq_nil_of_length_eq_zero (by simpa [s0] using g1)
          rw [g2]; rfl
    rw [hp]
    exact hq x' c' bl' (vs i1) w' hr' S2
/-- .. onto nothing -/
theorem appLZ_ {bs : List Blk} (S : St ms w0 bs w) {z : Nat} {T T' : TypeId} (m k0 i1 mm : Nat) (news : List Value) (pre : List (List Nat)) (vals : List Value) (paths : List (List Nat))
    (hs : ∀ (S : St ms w0 ([] ++ ([] ++ bs)) w) (hr : rowv z T [] none 0 0 []) (zD : ∀ w', Ch [] w w' → St ms w0 bs w'), EStepAll P k0 pre (List.map Blk.id []) (HQ k0 (Rowed z T ([] ++ news) (0 + mm) [] w.heap.size) (spl ((vals.map s0).set i1 (sB mm news T'))) w.heap.size) L (L.take m) (yof a0) w 0 (L.take m))
    (hq : ∀ b' c' tail' u w', (news ++ tail').length = c' * z → mm ≤ c' → St ms w0 (⟨b', true, .cells (news ++ tail').toArray T (0, 0)⟩ :: bs) w' → WL P L.toArray Q (L.drop m) (putsL ((vals.set k0 (.slice (some ⟨b', 0, none⟩) mm c')).set i1 u) (L.take m) a0) w')
    (hmm : 0 < mm := by decide)
    (hk : Nat.blt k0 m = true := by kernel_rfl) (hi : Nat.blt i1 m = true := by kernel_rfl) (hik : Nat.beq i1 k0 = false := by kernel_rfl) (hvl : vals.length = m := by kernel_rfl) (hpre : preOk (L.take m) k0 pre = true := by kernel_rfl)
    (hm : P.follows .mixedOrders = true := by kernel_rfl) (hl : Nat.ble m L.length = true := by kernel_rfl) (ht : tailOk L m paths = true := by kernel_rfl) (hdst : dstsOkE a0.tmps.size (L.take m) = true := by kernel_rfl) (hedge : edgesOk 0 L = true := by kernel_rfl) : (Code.region id L.toArray true).wp P Q a0 w := by
  have hr : rowv z T [] none 0 0 [] := rowv_nil z T
  refine appL_ (A := []) (bl := []) S hr m k0 i1 mm news pre vals paths (hs S hr (fun w' hc => S.quiet hc)) ?_ hk hi hik hvl hpre hm hl ht hdst hedge
  intro x' c' bl' u w' ⟨_, hle, hrow⟩ S2
  rw [Nat.zero_add] at hle ⊢
  rcases hrow with ⟨_, h0, _⟩ | ⟨b', tail', rfl, rfl, hl'⟩
  · omega
  · exact hq b' c' tail' u w' hl' hle S2
end
end Sx
