/- What the walks of the queue laws stand on. Conditions: none beyond those that each lemma names. -/
import Derived.Test.YtciiaficfmbimaaB3
import Derived.Test.YtciiaficfmbimaaProg
import Derived.Sort.AssemblyPlain
set_option linter.unusedVariables false
set_option linter.unusedSimpArgs false
noncomputable section
namespace Go.Proofs.Ytciiaficfmbimaa
open Go Go.RowKit Go.BigFrame Sx Vx
set_option maxRecDepth 100000
def lkS : List Nat → List V → Nat → Option V
  | i :: is, v :: vs, t => bif Nat.beq i t then some v else lkS is vs t
  | _, _, _ => none
def lpFr (ix : List Nat) (vs : List V) : Nat → Nat → List (Option V)
  | 0, _ => []
  | n + 1, i => lkS ix vs i :: lpFr ix vs n (i + 1)
def picks : List Nat → List V → List V
  | [], _ => []
  | i :: is, fr => nth fr i :: picks is fr
theorem picks_lk {n : Nat} {fr : List V} : ∀ (ix : List Nat) (vs : List V), picks ix fr = vs → wfL n vs = true → ∀ t v, lkS ix vs t = some v → nth fr t = v ∧ wfV n v = true
  | [], vs, _, _, t, v, h => by cases vs <;> cases h
  | i :: is, [], h, _, t, v, _ => by cases h
  | i :: is, u :: vs, h, hw, t, v, hl => by
    simp only [picks, List.cons.injEq] at h
    simp only [wfL, Bool.and_eq_true] at hw
    unfold lkS at hl
    cases hb : Nat.beq i t with
    | true =>
      rw [hb] at hl
      cases hl
      obtain rfl := Nat.eq_of_beq_eq_true hb
      exact ⟨h.1, hw.1⟩
    | false =>
      rw [hb] at hl
      exact picks_lk is vs h.2 hw.2 t v hl
theorem lpFr_ok {n : Nat} {fr0 : List V} {ix : List Nat} {vs : List V} (h : ∀ t v, lkS ix vs t = some v → nth fr0 t = v ∧ wfV n v = true) : ∀ (N i : Nat) (fr : List V), fr.length = N → (∀ k, nth fr0 (i + k) = nth fr k) → frM n (lpFr ix vs N i) fr
  | 0, _, [], _, _ => trivial
  | 0, _, _ :: _, hl, _ => by simp at hl
  | N + 1, i, [], hl, _ => by simp at hl
  | N + 1, i, v :: fr, hl, hn => by
    unfold lpFr
    have ih := lpFr_ok h N (i + 1) fr (by simpa using hl) (fun k => by have := hn (k + 1); simp only [nth_nil, nth_zero, nth_succ] at this; rw [← this]; congr 1; omega)
    have h0 := hn 0
    simp only [nth_nil, nth_zero, nth_succ, Nat.add_zero] at h0
    cases hk : lkS ix vs i with
    | none => exact ih
    | some u =>
      obtain ⟨h1, h2⟩ := h i u hk
      exact ⟨h0.symm.trans h1, h2, ih⟩
section
variable {G : Type} {X : Type}
def enD0 (vals : X → List V) (bl : X → List VB) (ch : X → List G) (vs : List V) (b : List VB) (c : List G) : Prop := ∃ x, vs = vals x ∧ b = bl x ∧ c = ch x
def enD (m : X → Nat) (vals : X → List V) (bl : X → List VB) (ch : X → List G) (x : X) (vs : List V) (b : List VB) (c : List G) : Prop := ∃ y, m y < m x ∧ vs = vals y ∧ b = bl y ∧ c = ch y
def mkLp (m : X → Nat) (N n0 : Nat) (ix : List Nat) (vals : X → List V) (bl : X → List VB) (ch : X → List G) (h1 : ∀ x, (bl x).length = n0) (h2 : ∀ x, wfB n0 (bl x) = true) (h3 : ∀ x, wfL n0 (vals x) = true) : Lp G where
  X := X
  m := m
  fr x := lpFr ix (vals x) N 0
  bl := bl
  ch := ch
  en0 fr b c := Nat.beq fr.length N = true ∧ enD0 vals bl ch (picks ix fr) b c
  en x fr b c := Nat.beq fr.length N = true ∧ enD m vals bl ch x (picks ix fr) (b.take n0) c
  ok0 := by
    rintro fr b c ⟨hl, x, hv, rfl, rfl⟩
    refine ⟨x, ?_, rfl, rfl⟩
    rw [h1]
    exact lpFr_ok (picks_lk ix _ hv (h3 x)) N 0 fr (Nat.eq_of_beq_eq_true hl) (fun k => by rw [Nat.zero_add])
  ok := by
    rintro x fr b c ⟨hl, y, hm, hv, hb, rfl⟩
    refine ⟨y, hm, ?_, by rw [h1, h1], by rw [h1]; exact h2 y, ⟨b.drop n0, ?_⟩, rfl⟩
    · rw [h1]
      exact lpFr_ok (picks_lk ix _ hv (h3 y)) N 0 fr (Nat.eq_of_beq_eq_true hl) (fun k => by rw [Nat.zero_add])
    · rw [← hb, List.take_append_drop]
end
def mkL {G : Type} [Bl G] (P : Program) (gl : Nat → Option Nat) (L : List (Ent G)) (lp : Nat → Option (Lp G)) : Ctx G := ⟨P, lkT L, gl, lkQ L, noH, noH_ok, fun i _ => lp i, noY, noY_ok⟩
theorem AllOk.TL {G : Type} [Bl G] {P : Program} {gl : Nat → Option Nat} {L : List (Ent G)} {lp : Nat → Option (Lp G)} (h : AllOk P gl L) : ∀ f c, (mkL P gl L lp).T f = some c → Sound (mkL P gl L lp).P (mkL P gl L lp).gl f c := h.T
theorem AllOk.QL {G : Type} [Bl G] {P : Program} {gl : Nat → Option Nat} {L : List (Ent G)} {lp : Nat → Option (Lp G)} (h : AllOk P gl L) : QuietT (mkL P gl L lp) := h.Q
def gN0 : Nat → Option Nat := fun _ => none
theorem emp_ok : AllOk (G := Empty) Try.prog gN0 [] := AllOk.nil
def lp1 {G : Type} (i : Nat) (I : Lp G) : Nat → Option (Lp G) := fun j => bif Nat.beq j i then some I else none
end Go.Proofs.Ytciiaficfmbimaa
noncomputable section
structure Sd.Wt where
  src : Int
  rank : Int
  at_ : Int
  most : Int
  came : Int
instance : Inhabited Sd.Wt := ⟨⟨0, 0, 0, 0, 0⟩⟩
def Sd.Wt.lt (x y : Sd.Wt) : Bool := cond (x.rank != y.rank) (decide (x.rank < y.rank)) (decide (x.came < y.came))
namespace Go.Proofs.Ytciiaficfmbimaa
open Go Go.RowKit Go.BigFrame Sx Vx
set_option maxRecDepth 100000
def wtG (d : Array Sd.Wt) (j : Nat) : List Value := [.int .i64 d[j]!.src, .int .i64 d[j]!.rank, .int .i64 d[j]!.at_, .int .i64 d[j]!.most, .int .u64 d[j]!.came]
def wtB (d : Array Sd.Wt) (us : List Value) : VB := ⟨true, ⟨51, (0, 0)⟩, [.rowp 5 d.size (wtG d), .rest us]⟩
def rowAt (bl : List VB) (i : Nat) : Option (Nat × (Nat → List Value) × List Value) := match bl[i]? with
  | some ⟨true, ⟨51, (0, 0)⟩, [.rowp 5 m g, .rest us]⟩ => some (m, g, us)
  | _ => none
theorem rowAt_ok {bl : List VB} {i m : Nat} {g : Nat → List Value} {us : List Value} (h : rowAt bl i = some (m, g, us)) : bl[i]? = some ⟨true, ⟨51, (0, 0)⟩, [.rowp 5 m g, .rest us]⟩ := by
  unfold rowAt at h
  split at h
  · rename_i h2
    simp only [Option.some.injEq, Prod.mk.injEq] at h
    obtain ⟨rfl, rfl, rfl⟩ := h
    exact h2
  · cases h
abbrev SM := List V → Array Sd.Wt → (V → Array Sd.Wt → Prop) → Prop
def unW (w : Bool) (v : V) : Option (Nat × Nat × Nat) := match w, v with
  | false, .sl i 0 n c => some (i, n, c)
  | true, .ifc 43 (.sl i 0 n c) => some (i, n, c)
  | _, _ => none
def toW (w : Bool) (v : V) : V := bif w then .ifc 43 v else v
theorem unW_ok {w : Bool} {v : V} {i n c : Nat} (h : unW w v = some (i, n, c)) : v = toW w (.sl i 0 n c) := by
  unfold unW at h
  split at h
  · cases h; rfl
  · cases h; rfl
  · cases h
theorem perm_at {α : Type} {l : List α} {i : Nat} (h : i < l.length) : (l[i] :: l.eraseIdx i).Perm l := by
  rw [List.eraseIdx_eq_take_drop_succ]
  conv => rhs; rw [← List.take_append_drop i l, List.drop_eq_getElem_cons h]
  exact List.perm_middle.symm
def sC {G : Type} (w : Bool) (M : SM) : CTr G := fun args bl ch K => match args with
  | a :: ar => (match unW w a with
    | some (i, n, c) => (match rowAt bl i with
      | some (m, g, us) => cond (wfL 0 ar) (∃ d : Array Sd.Wt, (g = wtG d ∧ m = d.size ∧ n = d.size) ∧ M ar d fun v d' => K v (bl.set i (wtB d' us)) ch) False
      | none => False)
    | none => False)
  | _ => False
def SBody (w : Bool) (f : FuncId) (M : SM) : Prop := ∀ (ar : List V) (d : Array Sd.Wt) (us : List Value) (c b : Nat) (Kb : V → Array Sd.Wt → Prop) (R : List Blk) (ms : List Nat) (w0 wd : World), M ar d Kb → St ms w0 (mkB [b] b (wtB d us) :: R) wd →
  Gives Try.prog f (denM [b] (toW w (.sl 0 0 d.size c) :: ar)).toArray wd fun v w' => ∃ vv d', v = den [] vv ∧ wfV 0 vv = true ∧ Kb vv d' ∧ St ms w0 (mkB [b] b (wtB d' us) :: R) w'
def sK (us : List Value) (Kb : V → Array Sd.Wt → Prop) : VK Empty := fun v b _ => ∃ d', wfV 0 v = true ∧ b = [wtB d' us] ∧ Kb v d'
theorem s_run {C : Ctx Empty} {w : Bool} {f : FuncId} {ar : List V} {d : Array Sd.Wt} {us : List Value} {c b : Nat} {Kb : V → Array Sd.Wt → Prop} {R : List Blk} {ms : List Nat} {w0 wd : World} (hT : ∀ f c, C.T f = some c → Sound C.P C.gl f c) (hQ : QuietT C) (hg : C.gl = gN0) (S : St ms w0 (mkB [b] b (wtB d us) :: R) wd)
    (hvc : vcF C 60 f (toW w (.sl 0 0 d.size c) :: ar) [wtB d us] [] (gcK 1 (sK us Kb))) :
    Gives C.P f (denM [b] (toW w (.sl 0 0 d.size c) :: ar)).toArray wd fun v w' => ∃ vv d', v = den [] vv ∧ wfV 0 vv = true ∧ Kb vv d' ∧ St ms w0 (mkB [b] b (wtB d' us) :: R) w' := by
  have S0 : St ms w0 (lits [b] [b] [wtB d us] ++ nestB ([] : List Empty) R) wd := S
  refine (vcF_ok hT hQ 60 (by rw [hg]; exact fun g i h => nomatch h) rfl S0 hvc).mono ?_
  rintro v w' ⟨x, more, bl', ch', rfl, h1, S', hK⟩
  obtain ⟨v2, more2, bl2, hv, hl2, S2, d', hw, rfl, hK2⟩ := gcK_ok (n0 := 1) h1 (by simp) S' hK
  obtain rfl : more2 = [] := List.eq_nil_of_length_eq_zero (by simpa using hl2)
  have htk : ([b] ++ more).take 1 = [b] := rfl
  rw [htk, List.append_nil] at S2 hv
  cases ch' with
  | nil => exact ⟨v2, d', by rw [hv]; have := den_app (ids := []) (more := [b]) v2 hw; simpa using this, hw, hK2, S2⟩
  | cons e _ => exact nomatch e
theorem s_frame {G : Type} [Bl G] {gl : Nat → Option Nat} {w : Bool} {f : FuncId} {M : SM} (h : SBody w f M) : Sound (G := G) Try.prog gl f (sC w M) := by
  intro args ids bl ch R ms w0 wd K hg hl S hc
  unfold sC at hc
  split at hc
  · rename_i a ar
    split at hc
    · rename_i i n c ha
      split at hc
      · rename_i m g us hr
        cases hq : wfL 0 ar with
        | false => rw [hq] at hc; exact hc.elim
        | true =>
          rw [hq] at hc
          obtain ⟨d, ⟨rfl, rfl, rfl⟩, hM⟩ := hc
          have hb := rowAt_ok hr
          obtain rfl := unW_ok ha
          have hi : i < (lits ids ids bl).length := by
            rw [lits_len ids bl hl]
            rcases Nat.lt_or_ge i bl.length with h | h
            · exact h
            · rw [List.getElem?_eq_none h] at hb; cases hb
          have hat : (lits ids ids bl)[i]? = some (mkB ids (ids.getD i 0) (wtB d us)) := lits_at (ids := ids) ids bl hl hb
          have e1 : ∀ d' : Array Sd.Wt, mkB ids (ids.getD i 0) (wtB d' us) = mkB [ids.getD i 0] (ids.getD i 0) (wtB d' us) := fun d' => by simp only [mkB, wtB, denC, cl]
          have eg : (lits ids ids bl)[i] = mkB [ids.getD i 0] (ids.getD i 0) (wtB d us) := by
            rw [← e1]
            rw [List.getElem?_eq_getElem hi] at hat
            exact Option.some.inj hat
          have S1 : St ms w0 (mkB [ids.getD i 0] (ids.getD i 0) (wtB d us) :: ((lits ids ids bl).eraseIdx i ++ nestB ch R)) wd := by
            refine S.perm ?_
            have := perm_at hi
            rw [eg] at this
            exact List.Perm.append_right _ this.symm
          have hargs : denM ids (toW w (.sl i 0 d.size c) :: ar) = denM [ids.getD i 0] (toW w (.sl 0 0 d.size c) :: ar) := by
            have ea : denM ids ar = denM [ids.getD i 0] ar := by
              have h1 := denM_app (ids := []) (more := ids) ar hq
              have h2 := denM_app (ids := []) (more := [ids.getD i 0]) ar hq
              simp only [List.nil_append] at h1 h2
              rw [h1, h2]
            simp only [denM, ea]
            cases w <;> simp [toW, den]
          rw [hargs]
          refine (h ar d us c (ids.getD i 0) _ _ ms w0 wd hM S1).mono ?_
          rintro v w' ⟨vv, d', rfl, hw, hK, S2⟩
          refine ⟨vv, [], bl.set i (wtB d' us), ch, by have := den_app (ids := []) (more := ids) vv hw; simpa using this.symm, by simpa using hl, ?_, hK⟩
          rw [List.append_nil]
          refine S2.perm ?_
          have h3 := lits_set (ids := ids) ids bl i (wtB d' us) hl
          rw [← h3, ← e1]
          have hi2 : i < ((lits ids ids bl).set i (mkB ids (ids.getD i 0) (wtB d' us))).length := by simpa using hi
          have := perm_at hi2
          rw [List.getElem_set_self, List.eraseIdx_set_eq] at this
          exact List.Perm.append_right _ this
      · exact hc.elim
    · exact hc.elim
  · exact hc.elim
def inR (d : Array Sd.Wt) (a : Int) : Prop := 0 ≤ a ∧ a < d.size
def lessM : SM := fun ar d Kb => match ar with
  | [.int .i64 a, .int .i64 b] => (inR d a ∧ inR d b) ∧ Kb (.bool (d[a.toNat]!.lt d[b.toNat]!)) d
  | _ => False
def swapM : SM := fun ar d Kb => match ar with
  | [.int .i64 a, .int .i64 b] => (inR d a ∧ inR d b) ∧ Kb (.tup []) (Sort.swp d a.toNat b.toNat)
  | _ => False
def lenM : SM := fun ar d Kb => match ar with
  | [] => Kb (.int .i64 (d.size : Int)) d
  | _ => False
section
variable (d : Array Sd.Wt) (us : List Value) (n c : Nat) (a b : Int) (K : VK Empty)
def inP (d : Array Sd.Wt) (g : Nat → List Value) (n : Nat) (a : Int) (N : Prop) : Prop := (0 ≤ a ∧ a < (n : Int)) ∧ (a.toNat < d.size ∧ ∀ j, (g j).length = 5) ∧ N
theorem inP_ok {d : Array Sd.Wt} {g : Nat → List Value} {a : Int} {N : Prop} (h : inR d a) (hg : ∀ j, (g j).length = 5) (hN : N) : inP d g d.size a N := ⟨h, ⟨by have := h.1; have := h.2; omega, hg⟩, hN⟩
theorem less_vc : vcF (mkC Try.prog gN0 []) 60 61 [.sl 0 0 n c, .int .i64 a, .int .i64 b] [wtB d us] [] (gcK 1 K) = inP d (wtG d) n a (inP d (wtG d) n b (cond (d[a.toNat]!.rank != d[b.toNat]!.rank)
  (inP d (wtG d) n a (inP d (wtG d) n b (K (.bool (decide (d[a.toNat]!.rank < d[b.toNat]!.rank))) [wtB d us] []))) (inP d (wtG d) n a (inP d (wtG d) n b (K (.bool (decide (d[a.toNat]!.came < d[b.toNat]!.came))) [wtB d us] []))))) := by kernel_rfl
def upB (g : Nat → List Value) : VB := ⟨true, ⟨51, (0, 0)⟩, [.rowp 5 d.size g, .rest us]⟩
theorem swap_vc : vcF (mkC Try.prog gN0 []) 60 62 [.sl 0 0 n c, .int .i64 a, .int .i64 b] [wtB d us] [] (gcK 1 K) = inP d (wtG d) n b (inP d (wtG d) n a (inP d (wtG d) n a (inP d (upG (wtG d) a.toNat (wtG d b.toNat)) n b
  (K (.tup []) [upB d us (upG (upG (wtG d) a.toNat (wtG d b.toNat)) b.toNat (wtG d a.toNat))] [])))) := by kernel_rfl
theorem len_vc : vcF (mkC Try.prog gN0 []) 60 60 [.sl 0 0 n c] [wtB d us] [] (gcK 1 K) = K (.int .i64 (n : Int)) [wtB d us] [] := by kernel_rfl
end
theorem wtG_len (d : Array Sd.Wt) (j : Nat) : (wtG d j).length = 5 := rfl
theorem swp_size (d : Array Sd.Wt) (i j : Nat) : (Sort.swp d i j).size = d.size := by simp [Sort.swp]
theorem swp_at (d : Array Sd.Wt) {i j : Nat} (hi : i < d.size) (hj : j < d.size) (k : Nat) : (Sort.swp d i j)[k]! = if k = j then d[i]! else if k = i then d[j]! else d[k]! := by
  unfold Sort.swp
  by_cases h1 : k = j
  · subst h1
    simp [hj]
  · rw [if_neg h1]
    by_cases h2 : k = i
    · subst h2
      rw [if_pos rfl]
      simp [Array.getElem!_eq_getD, Array.getD_eq_getD_getElem?, Array.getElem?_setIfInBounds, hi, hj, Ne.symm h1]
    · rw [if_neg h2]
      simp [Array.getElem!_eq_getD, Array.getD_eq_getD_getElem?, Array.getElem?_setIfInBounds, Ne.symm h1, Ne.symm h2]
theorem wtG_swp (d : Array Sd.Wt) {a b : Nat} (ha : a < d.size) (hb : b < d.size) : upG (upG (wtG d) a (wtG d b)) b (wtG d a) = wtG (Sort.swp d a b) := by
  funext k
  unfold upG
  have hB : ∀ i j : Nat, Nat.beq i j = decide (i = j) := fun i j => by
    cases h : Nat.beq i j with
    | true => simp [Nat.eq_of_beq_eq_true h]
    | false => simp [Nat.ne_of_beq_eq_false h]
  rw [hB, hB]
  unfold wtG
  rw [swp_at d ha hb]
  by_cases h1 : k = b
  · simp [h1]
  · by_cases h2 : k = a
    · have h3 : ¬ a = b := h2 ▸ h1
      simp [h2, h3]
    · simp [h1, h2]
theorem less_body : SBody false 61 lessM := by
  intro ar d us c b Kb R ms w0 wd hM S
  unfold lessM at hM
  split at hM
  · rename_i x y
    obtain ⟨⟨hx, hy⟩, hK⟩ := hM
    refine s_run (C := mkC Try.prog gN0 []) AllOk.nil.T AllOk.nil.Q rfl S ?_
    show vcF _ 60 _ [.sl 0 0 d.size c, _, _] _ _ _
    rw [less_vc]
    have e : ∀ t : Bool, t = d[x.toNat]!.lt d[y.toNat]! → sK us Kb (.bool t) [wtB d us] [] := fun t ht => ⟨d, rfl, rfl, by rw [ht]; exact hK⟩
    exact inP_ok hx (wtG_len d) (inP_ok hy (wtG_len d) (cnd (fun h => inP_ok hx (wtG_len d) (inP_ok hy (wtG_len d) (e _ (by unfold Sd.Wt.lt; rw [h]; rfl)))) fun h => inP_ok hx (wtG_len d) (inP_ok hy (wtG_len d) (e _ (by unfold Sd.Wt.lt; rw [h]; rfl)))))
  · exact hM.elim
theorem swap_body : SBody false 62 swapM := by
  intro ar d us c b Kb R ms w0 wd hM S
  unfold swapM at hM
  split at hM
  · rename_i x y
    obtain ⟨⟨hx, hy⟩, hK⟩ := hM
    refine s_run (C := mkC Try.prog gN0 []) AllOk.nil.T AllOk.nil.Q rfl S ?_
    show vcF _ 60 _ [.sl 0 0 d.size c, _, _] _ _ _
    rw [swap_vc]
    have h1 : x.toNat < d.size := by have := hx.1; have := hx.2; omega
    have h2 : y.toNat < d.size := by have := hy.1; have := hy.2; omega
    refine inP_ok hy (wtG_len d) (inP_ok hx (wtG_len d) (inP_ok hx (wtG_len d) (inP_ok hy (fun j => ?_) ⟨Sort.swp d x.toNat y.toNat, rfl, ?_, hK⟩)))
    · unfold upG
      cases Nat.beq j x.toNat <;> rfl
    · unfold upB wtB
      rw [wtG_swp d h1 h2, swp_size]
  · exact hM.elim
theorem len_body : SBody false 60 lenM := by
  intro ar d us c b Kb R ms w0 wd hM S
  unfold lenM at hM
  split at hM
  · refine s_run (C := mkC Try.prog gN0 []) AllOk.nil.T AllOk.nil.Q rfl S ?_
    show vcF _ 60 _ [.sl 0 0 d.size c] _ _ _
    rw [len_vc]
    exact ⟨d, rfl, rfl, hM⟩
  · exact hM.elim
def LLn (G : Type) [Bl G] : List (Ent G) := [⟨61, false, sC false lessM⟩, ⟨62, false, sC false swapM⟩, ⟨60, false, sC false lenM⟩]
theorem LLn_ok {G : Type} [Bl G] {gl : Nat → Option Nat} : AllOk Try.prog gl (LLn G) :=
  have n : ∀ {c : CTr G}, (false = true → QuietC c) := fun e => by cases e
  AllOk.cons ⟨s_frame less_body, n⟩ (AllOk.cons ⟨s_frame swap_body, n⟩ (AllOk.cons ⟨s_frame len_body, n⟩ AllOk.nil))
def mkW (P : Program) (L : List (Ent Empty)) (lp : Nat → List V → Option (Lp Empty)) : Ctx Empty := ⟨P, lkT L, gN0, lkQ L, noH, noH_ok, lp, noY, noY_ok⟩
abbrev AW := Array Sd.Wt
abbrev ltW : Sd.Wt → Sd.Wt → Bool := Sd.Wt.lt
abbrev dtV (N c : Nat) : V := .ifc 43 (.sl 0 0 N c)
def lessP (N : Nat) (d0 : AW) (i j : Int) (X : AW → Bool → Prop) : Prop := ∃ d : AW, (wtG d0 = wtG d ∧ d0.size = d.size ∧ N = d.size) ∧ (inR d i ∧ inR d j) ∧ X d (d[i.toNat]!.lt d[j.toNat]!)
def swapP (N : Nat) (d0 : AW) (i j : Int) (X : AW → Prop) : Prop := ∃ d : AW, (wtG d0 = wtG d ∧ d0.size = d.size ∧ N = d.size) ∧ (inR d i ∧ inR d j) ∧ X (Sort.swp d i.toNat j.toNat)
theorem lessP_ok {N : Nat} {d : AW} {i j : Nat} {x y : Int} {X : AW → Bool → Prop} (hN : d.size = N) (ex : x = i) (ey : y = j) (hi : i < N) (hj : j < N) (h : X d (d[i]!.lt d[j]!)) : lessP N d x y X := by
  subst ex ey hN
  exact ⟨d, ⟨rfl, rfl, rfl⟩, ⟨⟨by omega, by omega⟩, ⟨by omega, by omega⟩⟩, h⟩
theorem swapP_ok {N : Nat} {d : AW} {i j : Nat} {x y : Int} {X : AW → Prop} (hN : d.size = N) (ex : x = i) (ey : y = j) (hi : i < N) (hj : j < N) (h : X (Sort.swp d i j)) : swapP N d x y X := by
  subst ex ey hN
  exact ⟨d, ⟨rfl, rfl, rfl⟩, ⟨⟨by omega, by omega⟩, ⟨by omega, by omega⟩⟩, h⟩
theorem swoW : Sort.SWO ltW where
  irrefl x := by simp [Sd.Wt.lt]
  trans x y z h1 h2 := by
    simp only [Sd.Wt.lt] at *
    by_cases a1 : x.rank = y.rank <;> by_cases a2 : y.rank = z.rank <;> by_cases a3 : x.rank = z.rank <;> simp_all <;> omega
  ntrans x y z h1 h2 := by
    simp only [Sd.Wt.lt] at *
    by_cases a1 : x.rank = y.rank <;> by_cases a2 : y.rank = z.rank <;> by_cases a3 : x.rank = z.rank <;> simp_all <;> omega
theorem wrapI {x : Int} (h : -9223372036854775808 ≤ x ∧ x ≤ 9223372036854775807) : IntKind.i64.wrap x = x := by simp [IntKind.wrap, IntKind.bits, IntKind.signed]; omega
end Go.Proofs.Ytciiaficfmbimaa
noncomputable section
namespace Go.Proofs.Ytciiaficfmbimaa
open Go Go.RowKit Go.BigFrame Sx Vx
set_option maxRecDepth 100000
section
variable (N c : Nat) (us : List Value) (a b : Nat) (T : AW)
def isX := { z : Nat × AW // a + 1 ≤ z.1 ∧ z.2.size = N ∧ Sort.insOuter ltW a b z.1 z.2 = T }
def isV (i : Int) : List V := [dtV N c, .int .i64 a, .int .i64 b, .int .i64 i]
def isLp : Lp Empty := mkLp (X := isX N a b T) (fun z => b - z.1.1) 33 1 [0, 1, 2, 6] (fun z => isV N c a b z.1.1) (fun z => [wtB z.1.2 us]) (fun _ => []) (fun _ => rfl) (fun _ => by kernel_rfl) (fun _ => rfl)
def iiX (jv : Int) := { z : isX N a b T × Nat × AW // (z.1.1.1 : Int) = jv ∧ z.1.1.1 < b ∧ z.2.1 ≤ z.1.1.1 ∧ z.2.2.size = N ∧ Sort.insInner ltW a z.2.1 z.2.2 = Sort.insInner ltW a z.1.1.1 z.1.1.2 }
def iiV (jv : Int) (z : iiX N a b T jv) (j : Int) : List V := [dtV N c, .int .i64 a, .int .i64 b, .int .i64 z.1.1.1.1, .int .i64 j]
def iiLp (jv : Int) : Lp Empty := mkLp (X := iiX N a b T jv) (fun z => z.1.2.1) 33 1 [0, 1, 2, 6, 7] (fun z => iiV N c a b T jv z z.1.2.1) (fun z => [wtB z.1.2.2 us]) (fun _ => []) (fun _ => rfl) (fun _ => by kernel_rfl) (fun _ => rfl)
def isLps : Nat → List V → Option (Lp Empty) := fun i w => bif Nat.beq i 0 then some (isLp N c us a b T) else bif Nat.beq i 2 then (match nth w 6 with | .int .i64 jv => some (iiLp N c us a b T jv) | _ => none) else none
variable (d : AW) (K : VK Empty)
def isEn (y : isX N a b T) (i : Int) (d : AW) : Prop := true = true ∧ enD (fun z : isX N a b T => b - z.1.1) (fun z => isV N c a b z.1.1) (fun z => [wtB z.1.2 us]) (fun _ => ([] : List Empty)) y (isV N c a b i) [wtB d us] []
def isIn (y : isX N a b T) (z : iiX N a b T (y.1.1 : Int)) : Prop :=
  let j : Int := z.1.2.1
  let j' := IntKind.i64.wrap (j - 1)
  let out := isEn N c us a b T y (IntKind.i64.wrap ((z.1.1.1.1 : Int) + 1))
  cond (decide (j > a)) (lessP N z.1.2.2 j j' fun d1 r => cond r (swapP N d1 j j' fun d2 => true = true ∧ enD (fun z : iiX N a b T (y.1.1 : Int) => z.1.2.1) (fun z => iiV N c a b T (y.1.1 : Int) z z.1.2.1) (fun z => [wtB z.1.2.2 us]) (fun _ => ([] : List Empty)) z (iiV N c a b T (y.1.1 : Int) z j') [wtB d2 us] []) (out d1)) (out z.1.2.2)
def isXX : Prop := (true = true ∧ enD0 (fun z : isX N a b T => isV N c a b z.1.1) (fun z => [wtB z.1.2 us]) (fun _ => ([] : List Empty)) (isV N c a b (IntKind.i64.wrap ((a : Int) + 1))) [wtB d us] []) ∧
  ∀ (y : isX N a b T) (g : Nat → Value), cond (decide ((y.1.1 : Int) < b)) ((true = true ∧ enD0 (fun z : iiX N a b T (y.1.1 : Int) => iiV N c a b T (y.1.1 : Int) z z.1.2.1) (fun z => [wtB z.1.2.2 us]) (fun _ => ([] : List Empty)) [dtV N c, .int .i64 a, .int .i64 b, .int .i64 y.1.1, .int .i64 y.1.1] [wtB y.1.2 us] []) ∧ ∀ (z : iiX N a b T (y.1.1 : Int)) (g : Nat → Value), isIn N c us a b T y z) (K (.tup []) [wtB y.1.2 us] [])
theorem ins_vc : vcF (mkW Try.prog (LLn Empty) (isLps N c us a b T)) 60 30 [dtV N c, .int .i64 a, .int .i64 b] [wtB d us] [] (gcK 1 K) = isXX N c us a b T d K := by kernel_rfl
variable {N c us a b T d K}
theorem isEn_ok {y : isX N a b T} {i : Nat} {d : AW} (hb : b ≤ 1000000) (hi : (i : Int) = y.1.1) (hlt : i < b) (ha : a + 1 ≤ i) (hN : d.size = N) (hT : Sort.insOuter ltW a b (i + 1) d = T) : isEn N c us a b T y (IntKind.i64.wrap ((i : Int) + 1)) d := by
  refine ⟨rfl, ⟨(i + 1, d), by omega, hN, hT⟩, by show b - (i + 1) < b - y.1.1; omega, ?_, rfl, rfl⟩
  rw [wrapI (by omega)]
  rfl
theorem isIn_ok (hb : b ≤ 1000000) (hbN : b ≤ N) (y : isX N a b T) (z : iiX N a b T (y.1.1 : Int)) : isIn N c us a b T y z := by
  obtain ⟨⟨z0, j, d⟩, e1, e2, e3, e4, e5⟩ := z
  obtain ⟨⟨i, d0⟩, f1, f2, f3⟩ := z0
  simp only at e1 e2 e3 e4 e5 f1 f2 f3
  unfold isIn
  dsimp only
  have hout : Sort.insInner ltW a j d = d → isEn N c us a b T y (IntKind.i64.wrap ((i : Int) + 1)) d := fun h => isEn_ok hb e1 e2 f1 e4 (by
    rw [Sort.insOuter, if_pos e2] at f3
    rw [← f3, ← e5, h])
  refine cnd (fun h => ?_) fun h => hout ?_
  · have hj : a < j := by simpa using h
    obtain ⟨j, rfl⟩ : ∃ k, j = k + 1 := ⟨j - 1, by omega⟩
    have hw : IntKind.i64.wrap (((j + 1 : Nat) : Int) - 1) = (j : Int) := by rw [wrapI (by omega)]; omega
    rw [hw]
    refine lessP_ok e4 rfl rfl (by omega) (by omega) (cnd (fun hl => swapP_ok e4 rfl rfl (by omega) (by omega) ⟨rfl, ⟨⟨⟨(i, d0), f1, f2, f3⟩, j, Sort.swp d (j + 1) j⟩, e1, e2, by show j ≤ i; omega, by rw [swp_size]; exact e4, ?_⟩, by show j < j + 1; omega, rfl, rfl, rfl⟩) fun hl => hout ?_)
    · rw [← e5, Sort.insInner, if_pos (by simp [hl]; omega)]
    · rw [Sort.insInner, if_neg (by simp [hl])]
  · have hj : ¬ a < j := by simpa using h
    cases j with
    | zero => rfl
    | succ j => rw [Sort.insInner, if_neg (by simp; omega)]
theorem ins_ok (hb : b ≤ 1000000) (hbN : b ≤ N) (hN : d.size = N) (ha : a ≤ 1000000) (hK : K (.tup []) [wtB (Sort.insertionSort ltW d a b) us] []) : isXX N c us a b (Sort.insertionSort ltW d a b) d K := by
  refine ⟨⟨rfl, ⟨(a + 1, d), Nat.le_refl _, hN, rfl⟩, ?_, rfl, rfl⟩, fun y g => cnd (fun e => ?_) fun e => ?_⟩
  · rw [wrapI (by omega)]
    rfl
  · have hlt : y.1.1 < b := by simpa using e
    exact ⟨⟨rfl, ⟨⟨y, y.1.1, y.1.2⟩, rfl, hlt, Nat.le_refl _, y.2.2.1, rfl⟩, rfl, rfl, rfl⟩, fun z g => isIn_ok hb hbN y z⟩
  · have hlt : ¬ y.1.1 < b := by simpa using e
    have := y.2.2.2
    rw [Sort.insOuter, if_neg hlt] at this
    rw [this]
    exact hK
end
def sortsM (pre : AW → Nat → Nat → Prop) : SM := fun ar d Kb => match ar with
  | [.int .i64 x, .int .i64 y] => ∃ a b : Nat, (x = a ∧ y = b ∧ a ≤ b ∧ b ≤ d.size ∧ d.size ≤ 100 ∧ pre d a b) ∧ ∀ d', Sort.PermIn a b d d' → Sort.SortedIn ltW a b d' → Kb (.tup []) d'
  | _ => False
theorem ins_body : SBody true 30 (sortsM fun _ _ _ => True) := by
  intro ar d us c bk Kb R ms w0 wd hM S
  unfold sortsM at hM
  split at hM
  · rename_i x y
    obtain ⟨a, b, ⟨rfl, rfl, h1, h2, h3, -⟩, hK⟩ := hM
    have hok := LLn_ok (G := Empty) (gl := gN0)
    refine s_run (C := mkW Try.prog (LLn Empty) (isLps d.size c us a b (Sort.insertionSort ltW d a b))) hok.T hok.Q rfl S ?_
    show vcF _ 60 _ [dtV d.size c, _, _] _ _ _
    rw [ins_vc]
    obtain ⟨p1, p2⟩ := Sort.insertionSort_holds (lt := ltW) swoW d a b h1 h2
    exact ins_ok (by omega) h2 rfl (by omega) ⟨_, rfl, rfl, hK _ p1 p2⟩
  · exact hM.elim
end Go.Proofs.Ytciiaficfmbimaa
noncomputable section
namespace Go.Proofs.Ytciiaficfmbimaa
open Go Go.RowKit Go.BigFrame Sx Vx
set_option maxRecDepth 100000
section
variable (N c : Nat) (us : List Value) (hi fi : Nat) (T : AW)
abbrev wI (x : Int) : Int := IntKind.i64.wrap x
def sdX := { z : Nat × AW // z.1 ≤ 100 ∧ z.2.size = N ∧ Sort.siftDown ltW hi fi z.1 z.2 = T }
def sdV (r : Int) : List V := [dtV N c, .int .i64 hi, .int .i64 fi, .int .i64 r]
def sdLp : Lp Empty := mkLp (X := sdX N hi fi T) (fun z => hi - z.1.1) 52 1 [0, 2, 3, 8] (fun z => sdV N c hi fi z.1.1) (fun z => [wtB z.1.2 us]) (fun _ => []) (fun _ => rfl) (fun _ => by kernel_rfl) (fun _ => rfl)
variable (lo : Nat) (d : AW) (K : VK Empty)
def sdRest (y : sdX N hi fi T) (d : AW) (ch : Int) : Prop := lessP N d (wI (fi + y.1.1)) (wI (fi + ch)) fun d r => cond (!r) (K (.tup []) [wtB d us] []) (swapP N d (wI (fi + y.1.1)) (wI (fi + ch)) fun d =>
  true = true ∧ enD (fun z : sdX N hi fi T => hi - z.1.1) (fun z => sdV N c hi fi z.1.1) (fun z => [wtB z.1.2 us]) (fun _ => ([] : List Empty)) y (sdV N c hi fi ch) [wtB d us] [])
def sdIn (y : sdX N hi fi T) : Prop :=
  let ch := wI (wI (2 * y.1.1) + 1)
  cond (decide (ch ≥ hi)) (K (.tup []) [wtB y.1.2 us] []) (cond (decide (wI (ch + 1) < hi)) (lessP N y.1.2 (wI (fi + ch)) (wI (wI (fi + ch) + 1)) fun d r => cond r (sdRest N c us hi fi T K y d (wI (ch + 1))) (sdRest N c us hi fi T K y d ch)) (sdRest N c us hi fi T K y y.1.2 ch))
def sdXX : Prop := (true = true ∧ enD0 (fun z : sdX N hi fi T => sdV N c hi fi z.1.1) (fun z => [wtB z.1.2 us]) (fun _ => ([] : List Empty)) (sdV N c hi fi lo) [wtB d us] []) ∧ ∀ (y : sdX N hi fi T) (g : Nat → Value), sdIn N c us hi fi T K y
theorem sd_vc : vcF (mkW Try.prog (LLn Empty) (fun i _ => lp1 0 (sdLp N c us hi fi T) i)) 60 38 [dtV N c, .int .i64 lo, .int .i64 hi, .int .i64 fi] [wtB d us] [] (gcK 1 K) = sdXX N c us hi fi T lo d K := by kernel_rfl
variable {N c us hi fi T lo d K}
theorem sdRest_ok (hN : fi + hi ≤ N) (h9 : N ≤ 100) {y : sdX N hi fi T} {d : AW} {ch : Nat} (hd : d.size = N) (h1 : y.1.1 < ch) (h2 : ch < hi) (hT : (if !ltW d[fi + y.1.1]! d[fi + ch]! then d else Sort.siftDown ltW hi fi ch (Sort.swp d (fi + y.1.1) (fi + ch))) = T) (hK : K (.tup []) [wtB T us] []) : sdRest N c us hi fi T K y d (ch : Int) := by
  unfold sdRest
  refine lessP_ok hd (wrapI (by omega)) (wrapI (by omega)) (by omega) (by omega) (cnd (fun h => ?_) fun h => swapP_ok hd (wrapI (by omega)) (wrapI (by omega)) (by omega) (by omega) ⟨rfl, ⟨(ch, Sort.swp d (fi + y.1.1) (fi + ch)), by omega, by rw [swp_size]; exact hd, ?_⟩, by show hi - ch < hi - y.1.1; omega, rfl, rfl, rfl⟩)
  · rw [if_pos h] at hT
    rw [hT]
    exact hK
  · rw [if_neg (by rw [h]; simp)] at hT
    exact hT
theorem sdIn_ok (hN : fi + hi ≤ N) (h9 : N ≤ 100) (y : sdX N hi fi T) (hK : K (.tup []) [wtB T us] []) : sdIn N c us hi fi T K y := by
  obtain ⟨⟨r, d⟩, h1, h2, h3⟩ := y
  simp only at h1 h2 h3
  unfold sdIn
  dsimp only
  have e1 : wI (wI (2 * (r : Int)) + 1) = ((2 * r + 1 : Nat) : Int) := by
    unfold wI
    rw [wrapI (x := 2 * (r : Int)) (by omega), wrapI (by omega)]
    omega
  rw [e1]
  have e2 : wI (((2 * r + 1 : Nat) : Int) + 1) = ((2 * r + 2 : Nat) : Int) := by
    unfold wI
    rw [wrapI (by omega)]
    omega
  rw [e2]
  have h0 := h3
  rw [Sort.siftDown] at h3
  refine cnd (fun h => ?_) fun h => ?_
  · have h : 2 * r + 1 ≥ hi := by simp at h; omega
    rw [dif_pos h] at h3
    rw [h3]
    exact hK
  · have h : ¬ 2 * r + 1 ≥ hi := by simp at h; omega
    rw [dif_neg h] at h3
    refine cnd (fun h4 => ?_) fun h4 => ?_
    · have h4 : 2 * r + 2 < hi := by simp at h4; omega
      refine lessP_ok h2 (i := fi + (2 * r + 1)) (j := fi + (2 * r + 1) + 1) (wrapI (by omega)) (by
        unfold wI
        rw [wrapI (x := (fi : Int) + _) (by omega), wrapI (by omega)]
        omega) (by omega) (by omega) (cnd (fun hl => ?_) fun hl => ?_)
      · rw [if_pos (by simp [hl]; omega)] at h3
        rw [dif_pos h4] at h3
        exact sdRest_ok hN h9 (y := ⟨(r, d), h1, h2, h0⟩) h2 (by show r < _; omega) h4 h3 hK
      · rw [if_neg (by simp [hl])] at h3
        exact sdRest_ok hN h9 (y := ⟨(r, d), h1, h2, h0⟩) h2 (by show r < _; omega) (by omega) h3 hK
    · have h4 : ¬ 2 * r + 1 + 1 < hi := by simp at h4; omega
      rw [if_neg (by simp; omega)] at h3
      exact sdRest_ok hN h9 (y := ⟨(r, d), h1, h2, h0⟩) h2 (by show r < _; omega) (by omega) h3 hK
theorem sd_ok (hN : fi + hi ≤ N) (h9 : N ≤ 100) (hl : lo ≤ 100) (hd : d.size = N) (hK : K (.tup []) [wtB (Sort.siftDown ltW hi fi lo d) us] []) : sdXX N c us hi fi (Sort.siftDown ltW hi fi lo d) lo d K :=
  ⟨⟨rfl, ⟨(lo, d), hl, hd, rfl⟩, rfl, rfl, rfl⟩, fun y g => sdIn_ok hN h9 y hK⟩
end
def siftM : SM := fun ar d Kb => match ar with
  | [.int .i64 x, .int .i64 y, .int .i64 z] => ∃ lo hi fi : Nat, (x = lo ∧ y = hi ∧ z = fi ∧ lo ≤ 100 ∧ fi + hi ≤ d.size ∧ d.size ≤ 100) ∧ Kb (.tup []) (Sort.siftDown ltW hi fi lo d)
  | _ => False
theorem sift_body : SBody true 38 siftM := by
  intro ar d us c bk Kb R ms w0 wd hM S
  unfold siftM at hM
  split at hM
  · rename_i x y z
    obtain ⟨lo, hi, fi, ⟨rfl, rfl, rfl, h1, h2, h3⟩, hK⟩ := hM
    have hok := LLn_ok (G := Empty) (gl := gN0)
    refine s_run (C := mkW Try.prog (LLn Empty) (fun i _ => lp1 0 (sdLp d.size c us hi fi (Sort.siftDown ltW hi fi lo d)) i)) hok.T hok.Q rfl S ?_
    show vcF _ 60 _ [dtV d.size c, _, _, _] _ _ _
    rw [sd_vc]
    exact sd_ok h2 h3 h1 rfl ⟨_, rfl, rfl, hK⟩
  · exact hM.elim
def LSf : List (Ent Empty) := ⟨38, false, sC true siftM⟩ :: LLn Empty
theorem LSf_ok : AllOk Try.prog gN0 LSf := AllOk.cons ⟨s_frame sift_body, fun e => by cases e⟩ LLn_ok
theorem sift_size (hi fi : Nat) : ∀ (k lo : Nat) (d : AW), hi - lo ≤ k → (Sort.siftDown ltW hi fi lo d).size = d.size
  | k, lo, d, h => by
    rw [Sort.siftDown]
    split
    · rfl
    · rename_i h1
      cases k with
      | zero => omega
      | succ k =>
        split
        · split
          · rfl
          · split
            · rw [sift_size hi fi k _ _ (by omega), swp_size]
            · rfl
        · split
          · rfl
          · rw [sift_size hi fi k _ _ (by omega), swp_size]
section
variable (N c : Nat) (us : List Value) (a b : Nat) (T : AW)
def siftP (N : Nat) (d0 : AW) (x y z : Int) (X : AW → Prop) : Prop := ∃ d : AW, (wtG d0 = wtG d ∧ d0.size = d.size ∧ N = d.size) ∧ ∃ lo hi fi : Nat, (x = lo ∧ y = hi ∧ z = fi ∧ lo ≤ 100 ∧ fi + hi ≤ d.size ∧ d.size ≤ 100) ∧ X (Sort.siftDown ltW hi fi lo d)
theorem siftP_ok {N : Nat} {d : AW} {x y z : Int} {lo hi fi : Nat} {X : AW → Prop} (hN : d.size = N) (e1 : x = lo) (e2 : y = hi) (e3 : z = fi) (h1 : lo ≤ 100) (h2 : fi + hi ≤ N) (h3 : N ≤ 100) (h : X (Sort.siftDown ltW hi fi lo d)) : siftP N d x y z X := by
  subst e1 e2 e3 hN
  exact ⟨d, ⟨rfl, rfl, rfl⟩, lo, hi, fi, ⟨rfl, rfl, rfl, h1, h2, h3⟩, h⟩
def hbX := { z : Nat × AW // z.2.size = N ∧ z.1 ≤ 100 ∧ Sort.heapPop ltW a (b - a) (Sort.heapBuild ltW (b - a) a z.1 z.2) = T }
def hsV (h i : Int) : List V := [dtV N c, .int .i64 a, .int .i64 0, .int .i64 h, .int .i64 i]
def hbLp : Lp Empty := mkLp (X := hbX N a b T) (fun z => z.1.1) 44 1 [0, 6, 7, 8, 9] (fun z => hsV N c a (b - a : Nat) ((z.1.1 : Int) - 1)) (fun z => [wtB z.1.2 us]) (fun _ => []) (fun _ => rfl) (fun _ => by kernel_rfl) (fun _ => rfl)
def hpX := { z : Nat × AW // z.2.size = N ∧ z.1 ≤ b - a ∧ Sort.heapPop ltW a z.1 z.2 = T }
def hpLp : Lp Empty := mkLp (X := hpX N a b T) (fun z => z.1.1) 44 1 [0, 6, 7, 8, 10] (fun z => hsV N c a (b - a : Nat) ((z.1.1 : Int) - 1)) (fun z => [wtB z.1.2 us]) (fun _ => []) (fun _ => rfl) (fun _ => by kernel_rfl) (fun _ => rfl)
def hsLps : Nat → List V → Option (Lp Empty) := fun i w => bif Nat.beq i 0 then some (hbLp N c us a b T) else bif Nat.beq i 2 then some (hpLp N c us a b T) else none
variable (d : AW) (K : VK Empty)
def hpIn (y : hpX N a b T) : Prop := cond (decide ((y.1.1 : Int) - 1 ≥ 0)) (swapP N y.1.2 a (wI (a + ((y.1.1 : Int) - 1))) fun d => siftP N d 0 ((y.1.1 : Int) - 1) a fun d =>
  true = true ∧ enD (fun z : hpX N a b T => z.1.1) (fun z => hsV N c a (b - a : Nat) ((z.1.1 : Int) - 1)) (fun z => [wtB z.1.2 us]) (fun _ => ([] : List Empty)) y (hsV N c a (b - a : Nat) (wI (((y.1.1 : Int) - 1) - 1))) [wtB d us] []) (K (.tup []) [wtB y.1.2 us] [])
def hbIn (y : hbX N a b T) : Prop := cond (decide ((y.1.1 : Int) - 1 ≥ 0)) (siftP N y.1.2 ((y.1.1 : Int) - 1) (b - a : Nat) a fun d =>
  true = true ∧ enD (fun z : hbX N a b T => z.1.1) (fun z => hsV N c a (b - a : Nat) ((z.1.1 : Int) - 1)) (fun z => [wtB z.1.2 us]) (fun _ => ([] : List Empty)) y (hsV N c a (b - a : Nat) (wI (((y.1.1 : Int) - 1) - 1))) [wtB d us] [])
  ((true = true ∧ enD0 (fun z : hpX N a b T => hsV N c a (b - a : Nat) ((z.1.1 : Int) - 1)) (fun z => [wtB z.1.2 us]) (fun _ => ([] : List Empty)) (hsV N c a (b - a : Nat) (wI (((b - a : Nat) : Int) - 1))) [wtB y.1.2 us] []) ∧ ∀ (y : hpX N a b T) (g : Nat → Value), hpIn N c us a b T K y)
def hsXX : Prop := (true = true ∧ enD0 (fun z : hbX N a b T => hsV N c a (b - a : Nat) ((z.1.1 : Int) - 1)) (fun z => [wtB z.1.2 us]) (fun _ => ([] : List Empty)) (hsV N c a (wI ((b : Int) - a)) (wI (Int.tdiv (wI (wI ((b : Int) - a) - 1)) 2))) [wtB d us] []) ∧ ∀ (y : hbX N a b T) (g : Nat → Value), hbIn N c us a b T K y
theorem hs_vc : vcF (mkW Try.prog LSf (hsLps N c us a b T)) 60 31 [dtV N c, .int .i64 a, .int .i64 b] [wtB d us] [] (gcK 1 K) = hsXX N c us a b T d K := by kernel_rfl
variable {N c us a b T d K}
theorem hpIn_ok (hab : a ≤ b) (hbN : b ≤ N) (h9 : N ≤ 100) (y : hpX N a b T) (hK : K (.tup []) [wtB T us] []) : hpIn N c us a b T K y := by
  obtain ⟨⟨k, d⟩, h1, h2, h3⟩ := y
  simp only at h1 h2 h3
  unfold hpIn
  dsimp only
  refine cnd (fun h => ?_) fun h => ?_
  · obtain ⟨k, rfl⟩ : ∃ q, k = q + 1 := ⟨k - 1, by simp at h; omega⟩
    rw [show ((k + 1 : Nat) : Int) - 1 = (k : Int) by omega]
    refine swapP_ok h1 rfl (j := a + k) (by unfold wI; rw [wrapI (by omega)]; omega) (by omega) (by omega) (siftP_ok (lo := 0) (by rw [swp_size]; exact h1) rfl (hi := k) rfl (fi := a) rfl (by omega) (by omega) h9 ⟨rfl, ⟨(k, _), ?_, by omega, h3⟩, by show k < k + 1; omega, ?_, rfl, rfl⟩)
    · show (Sort.siftDown ltW k a 0 (Sort.swp d a (a + k))).size = N
      rw [sift_size _ _ _ _ _ (Nat.le_refl _), swp_size]
      exact h1
    · unfold wI
      rw [wrapI (by omega)]
  · obtain rfl : k = 0 := by simp at h; omega
    rw [show d = T from h3]
    exact hK
theorem hbIn_ok (hab : a ≤ b) (hbN : b ≤ N) (h9 : N ≤ 100) (y : hbX N a b T) (hK : K (.tup []) [wtB T us] []) : hbIn N c us a b T K y := by
  obtain ⟨⟨k, d⟩, h1, h2, h3⟩ := y
  simp only at h1 h2 h3
  unfold hbIn
  dsimp only
  refine cnd (fun h => ?_) fun h => ?_
  · obtain ⟨k, rfl⟩ : ∃ q, k = q + 1 := ⟨k - 1, by simp at h; omega⟩
    rw [show ((k + 1 : Nat) : Int) - 1 = (k : Int) by omega]
    refine siftP_ok h1 rfl rfl (fi := a) rfl (by omega) (by omega) h9 ⟨rfl, ⟨(k, _), ?_, by omega, h3⟩, by show k < k + 1; omega, ?_, rfl, rfl⟩
    · show (Sort.siftDown ltW (b - a) a k d).size = N
      rw [sift_size _ _ _ _ _ (Nat.le_refl _)]
      exact h1
    · unfold wI
      rw [wrapI (by omega)]
  · obtain rfl : k = 0 := by simp at h; omega
    refine ⟨⟨rfl, ⟨(b - a, d), h1, Nat.le_refl _, h3⟩, ?_, rfl, rfl⟩, fun y g => hpIn_ok hab hbN h9 y hK⟩
    unfold wI
    rw [wrapI (by omega)]
theorem hs_ok (hab : a ≤ b) (hbN : b ≤ N) (h9 : N ≤ 100) (hd : d.size = N) (hK : K (.tup []) [wtB (Sort.heapSort ltW d a b) us] []) : hsXX N c us a b (Sort.heapSort ltW d a b) d K := by
  refine ⟨⟨rfl, ⟨((b - a - 1) / 2 + 1, d), hd, by omega, rfl⟩, ?_, rfl, rfl⟩, fun y g => hbIn_ok hab hbN h9 y hK⟩
  unfold wI
  rw [wrapI (x := (b : Int) - a) (by omega), wrapI (x := (b : Int) - a - 1) (by omega)]
  unfold hsV
  have e1 : (b : Int) - a = ((b - a : Nat) : Int) := by omega
  have e2 : ((b : Int) - a - 1).tdiv 2 = ((((b - a - 1) / 2 + 1 : Nat)) : Int) - 1 := by
    by_cases h : a = b
    · subst h
      simp
    · rw [Int.tdiv_eq_ediv_of_nonneg (by omega)]
      omega
  rw [e2, wrapI (by omega), e1]
end
theorem heap_body : SBody true 31 (sortsM fun _ _ _ => True) := by
  intro ar d us c bk Kb R ms w0 wd hM S
  unfold sortsM at hM
  split at hM
  · rename_i x y
    obtain ⟨a, b, ⟨rfl, rfl, h1, h2, h3, -⟩, hK⟩ := hM
    refine s_run (C := mkW Try.prog LSf (hsLps d.size c us a b (Sort.heapSort ltW d a b))) LSf_ok.T LSf_ok.Q rfl S ?_
    show vcF _ 60 _ [dtV d.size c, _, _] _ _ _
    rw [hs_vc]
    obtain ⟨p1, p2⟩ := Sort.heapSort_holds (lt := ltW) swoW d a b h1 h2
    exact hs_ok h1 h2 h3 rfl ⟨_, rfl, rfl, hK _ p1 p2⟩
  · exact hM.elim
end Go.Proofs.Ytciiaficfmbimaa
noncomputable section
namespace Go.Proofs.Ytciiaficfmbimaa
open Go Go.RowKit Go.BigFrame Sx Vx
set_option maxRecDepth 100000
section
variable (N c : Nat) (us : List Value) (b : Nat) (T : AW)
def rvX := { z : Nat × Nat × AW // z.2.2.size = N ∧ z.1 ≤ 100 ∧ z.2.1 < b ∧ Sort.reverseLoop z.1 z.2.1 z.2.2 = T }
def rvV (i j : Int) : List V := [dtV N c, .int .i64 i, .int .i64 j]
def rvLp : Lp Empty := mkLp (X := rvX N b T) (fun z => z.1.2.1 - z.1.1) 22 1 [0, 6, 7] (fun z => rvV N c z.1.1 z.1.2.1) (fun z => [wtB z.1.2.2 us]) (fun _ => []) (fun _ => rfl) (fun _ => by kernel_rfl) (fun _ => rfl)
variable (a : Nat) (d : AW) (K : VK Empty)
def rvIn (y : rvX N b T) : Prop := cond (decide ((y.1.1 : Int) < y.1.2.1)) (swapP N y.1.2.2 y.1.1 y.1.2.1 fun d => true = true ∧ enD (fun z : rvX N b T => z.1.2.1 - z.1.1) (fun z => rvV N c z.1.1 z.1.2.1) (fun z => [wtB z.1.2.2 us]) (fun _ => ([] : List Empty)) y (rvV N c (wI ((y.1.1 : Int) + 1)) (wI ((y.1.2.1 : Int) - 1))) [wtB d us] [])
  (K (.tup []) [wtB y.1.2.2 us] [])
def rvXX : Prop := (true = true ∧ enD0 (fun z : rvX N b T => rvV N c z.1.1 z.1.2.1) (fun z => [wtB z.1.2.2 us]) (fun _ => ([] : List Empty)) (rvV N c a (wI ((b : Int) - 1))) [wtB d us] []) ∧ ∀ (y : rvX N b T) (g : Nat → Value), rvIn N c us b T K y
theorem rv_vc : vcF (mkW Try.prog (LLn Empty) (fun i _ => lp1 0 (rvLp N c us b T) i)) 60 34 [dtV N c, .int .i64 a, .int .i64 b] [wtB d us] [] (gcK 1 K) = rvXX N c us b T a d K := by kernel_rfl
variable {N c us b T a d K}
theorem rv_ok (hab : a < b) (hbN : b ≤ N) (h9 : N ≤ 100) (hd : d.size = N) (hK : K (.tup []) [wtB (Sort.reverseRange d a b) us] []) : rvXX N c us b (Sort.reverseRange d a b) a d K := by
  refine ⟨⟨rfl, ⟨(a, b - 1, d), hd, by show a ≤ 100; omega, by show b - 1 < b; omega, rfl⟩, ?_, rfl, rfl⟩, fun y g => ?_⟩
  · unfold wI
    rw [wrapI (by omega), show (b : Int) - 1 = ((b - 1 : Nat) : Int) by omega]
  · obtain ⟨⟨i, j, d'⟩, h1, h2, h3, h4⟩ := y
    simp only at h1 h2 h3 h4
    unfold rvIn
    dsimp only
    rw [Sort.reverseLoop] at h4
    refine cnd (fun h => ?_) fun h => ?_
    · have h : i < j := by simpa using h
      rw [if_pos h] at h4
      refine swapP_ok h1 rfl rfl (by omega) (by omega) ⟨rfl, ⟨(i + 1, j - 1, Sort.swp d' i j), by rw [swp_size]; exact h1, by show i + 1 ≤ 100; omega, by show j - 1 < b; omega, h4⟩, by show j - 1 - (i + 1) < j - i; omega, ?_, rfl, rfl⟩
      unfold wI
      rw [wrapI (by omega), wrapI (by omega), show (j : Int) - 1 = ((j - 1 : Nat) : Int) by omega]
      rfl
    · have h : ¬ i < j := by simpa using h
      rw [if_neg h] at h4
      rw [h4]
      exact hK
end
def permsM : SM := fun ar d Kb => match ar with
  | [.int .i64 x, .int .i64 y] => ∃ a b : Nat, (x = a ∧ y = b ∧ a < b ∧ b ≤ d.size ∧ d.size ≤ 100) ∧ ∀ d', Sort.PermIn a b d d' → Kb (.tup []) d'
  | _ => False
theorem rev_body : SBody true 34 permsM := by
  intro ar d us c bk Kb R ms w0 wd hM S
  unfold permsM at hM
  split at hM
  · rename_i x y
    obtain ⟨a, b, ⟨rfl, rfl, h1, h2, h3⟩, hK⟩ := hM
    have hok := LLn_ok (G := Empty) (gl := gN0)
    refine s_run (C := mkW Try.prog (LLn Empty) (fun i _ => lp1 0 (rvLp d.size c us b (Sort.reverseRange d a b)) i)) hok.T hok.Q rfl S ?_
    show vcF _ 60 _ [dtV d.size c, _, _] _ _ _
    rw [rv_vc]
    exact rv_ok h1 h2 h3 rfl ⟨_, rfl, rfl, hK _ (Sort.reverseRange_holds d a b (by omega) h2)⟩
  · exact hM.elim
def cntB (s : Int) : VB := ⟨true, ⟨3, (0, 0)⟩, [.int .i64 s]⟩
def lsP (N : Nat) (d0 : AW) (i j : Int) (X : AW → Bool → Prop) : Prop := lessP N d0 i j X
section
variable (N c : Nat) (us : List Value) (d : AW) (x y z s : Int) (K : VK Empty)
def md3 (d : AW) (i j s m1 m2 : Int) : Prop := lessP N d i j fun d r => cond r (K (.int .i64 m1) [wtB d us, cntB (wI (s + 1))] []) (K (.int .i64 m2) [wtB d us, cntB s] [])
theorem md_vc : vcF (mkW Try.prog (LLn Empty) (fun _ _ => none)) 60 42 [dtV N c, .int .i64 x, .int .i64 y, .int .i64 z, .ptr 1 0] [wtB d us, cntB s] [] (gcK 2 K) =
  lessP N d y x fun d r => cond r
    (lessP N d z x fun d r => cond r (md3 N us K d z y (wI (wI (s + 1) + 1)) y z) (md3 N us K d x y (wI (s + 1)) y x))
    (lessP N d z y fun d r => cond r (md3 N us K d z x (wI (s + 1)) x z) (md3 N us K d y x s x y)) := by kernel_rfl
end
def mdP (n : Nat) (g : Nat → List Value) (m : Nat) (us : List Value) (x y z : Int) (X : Int → AW → Int → Prop) : Prop := ∃ d : AW, (g = wtG d ∧ m = d.size ∧ n = d.size) ∧ (inR d x ∧ inR d y ∧ inR d z) ∧ ∀ p s' : Int, (p = x ∨ p = y ∨ p = z) → X p d s'
def mdC : CTr Empty := fun args bl ch K => match args, bl with
  | [.ifc 43 (.sl 0 0 n c), .int .i64 x, .int .i64 y, .int .i64 z, .ptr 1 0], [⟨true, ⟨51, (0, 0)⟩, [.rowp 5 m g, .rest us]⟩, ⟨true, ⟨3, (0, 0)⟩, [.int .i64 s]⟩] => mdP n g m us x y z fun p d s' => K (.int .i64 p) [wtB d us, cntB s'] ch
  | _, _ => False
theorem md_sound : Sound Try.prog gN0 42 mdC := by
  intro args ids bl ch R ms w0 w K hg hl S hc
  unfold mdC at hc
  split at hc
  · rename_i n c x y z m g us s
    obtain ⟨d, ⟨rfl, rfl, rfl⟩, ⟨hx, hy, hz⟩, hK⟩ := hc
    have hok := LLn_ok (G := Empty) (gl := gN0)
    cases ch with
    | cons e _ => exact nomatch e
    | nil =>
    refine (vcF_ok (C := mkW Try.prog (LLn Empty) (fun _ _ => none)) hok.T hok.Q 60 hg hl S (K := gcK 2 K) ?_).mono ?_
    · show vcF _ 60 _ [dtV d.size c, _, _, _, _] [wtB d us, cntB s] _ _
      rw [md_vc]
      have h3 : ∀ {i j s m1 m2 : Int}, inR d i → inR d j → (m1 = x ∨ m1 = y ∨ m1 = z) → (m2 = x ∨ m2 = y ∨ m2 = z) → md3 d.size us K d i j s m1 m2 := fun h1 h2 q1 q2 => ⟨d, ⟨rfl, rfl, rfl⟩, ⟨h1, h2⟩, cnd (fun _ => hK _ _ q1) fun _ => hK _ _ q2⟩
      exact ⟨d, ⟨rfl, rfl, rfl⟩, ⟨hy, hx⟩, cnd (fun _ => ⟨d, ⟨rfl, rfl, rfl⟩, ⟨hz, hx⟩, cnd (fun _ => h3 hz hy (.inr (.inl rfl)) (.inr (.inr rfl))) fun _ => h3 hx hy (.inr (.inl rfl)) (.inl rfl)⟩) fun _ => ⟨d, ⟨rfl, rfl, rfl⟩, ⟨hz, hy⟩, cnd (fun _ => h3 hz hx (.inl rfl) (.inr (.inr rfl))) fun _ => h3 hy hx (.inl rfl) (.inr (.inl rfl))⟩⟩
    · rintro v w' ⟨x', more, bl', ch', rfl, h1, S', hK0⟩
      obtain ⟨v2, more2, bl2, hv, hl2, S2, hK2⟩ := gcK_ok (n0 := 2) h1 (by simp at hl; simp [hl]) S' hK0
      have htk : (ids ++ more).take 2 = ids := by rw [show 2 = ids.length from hl.symm]; exact List.take_left
      rw [htk] at hv hl2 S2
      exact ⟨v2, more2, bl2, ch', hv, hl2, S2, hK2⟩
  · exact hc.elim
def LMd : List (Ent Empty) := ⟨42, false, mdC⟩ :: LLn Empty
theorem LMd_ok : AllOk Try.prog gN0 LMd := AllOk.cons ⟨md_sound, fun e => by cases e⟩ LLn_ok
section
variable (N c : Nat) (us : List Value) (d : AW) (a b : Nat) (K : VK Empty)
def cpQ (k : Int) : Int := wI ((a : Int) + wI (wI ((wI ((b : Int) - a)).tdiv 4) * k))
def cpEnd (p : Int) (d : AW) (s : Int) : Prop := cond (s == 0) (K (.tup [.int .i64 p, .int .i64 1]) [wtB d us] []) (cond (s == 12) (K (.tup [.int .i64 p, .int .i64 2]) [wtB d us] []) (K (.tup [.int .i64 p, .int .i64 0]) [wtB d us] []))
def cpXX : Prop := cond (decide (wI ((b : Int) - a) ≥ 8)) (cond (decide (wI ((b : Int) - a) ≥ 50))
  (mdP N (wtG d) d.size us (wI (cpQ a b 1 - 1)) (cpQ a b 1) (wI (cpQ a b 1 + 1)) fun p1 d _ => mdP N (wtG d) d.size us (wI (cpQ a b 2 - 1)) (cpQ a b 2) (wI (cpQ a b 2 + 1)) fun p2 d _ => mdP N (wtG d) d.size us (wI (cpQ a b 3 - 1)) (cpQ a b 3) (wI (cpQ a b 3 + 1)) fun p3 d _ => mdP N (wtG d) d.size us p1 p2 p3 (cpEnd us K))
  (mdP N (wtG d) d.size us (cpQ a b 1) (cpQ a b 2) (cpQ a b 3) (cpEnd us K))) (K (.tup [.int .i64 (cpQ a b 2), .int .i64 1]) [wtB d us] [])
theorem cp_vc : vcF (mkW Try.prog LMd (fun _ _ => none)) 60 33 [dtV N c, .int .i64 a, .int .i64 b] [wtB d us] [] (gcK 1 K) = cpXX N us d a b K := by kernel_rfl
variable {N us d a b K}
theorem mdP_ok {N : Nat} {d : AW} {us : List Value} {x y z : Int} {lo hi : Nat} {X : Int → AW → Int → Prop} (hd : d.size = N) (hh : hi ≤ N) (hx : (lo : Int) ≤ x ∧ x < hi) (hy : (lo : Int) ≤ y ∧ y < hi) (hz : (lo : Int) ≤ z ∧ z < hi) (h : ∀ p s : Int, (lo : Int) ≤ p ∧ p < hi → X p d s) : mdP N (wtG d) d.size us x y z X := by
  refine ⟨d, ⟨rfl, rfl, hd.symm⟩, ⟨⟨by omega, by omega⟩, ⟨by omega, by omega⟩, ⟨by omega, by omega⟩⟩, fun p s hp => h p s ?_⟩
  rcases hp with rfl | rfl | rfl
  · exact hx
  · exact hy
  · exact hz
theorem cp_ok (hab : a < b) (hbN : b ≤ N) (h9 : N ≤ 100) (hd : d.size = N) (hK : ∀ (p : Nat) (h : Int), a ≤ p → p < b → (h = 0 ∨ h = 1 ∨ h = 2) → K (.tup [.int .i64 p, .int .i64 h]) [wtB d us] []) : cpXX N us d a b K := by
  have e0 : wI ((b : Int) - a) = (b : Int) - a := wrapI (by omega)
  have e1 : ((b : Int) - a).tdiv 4 = ((b : Int) - a) / 4 := Int.tdiv_eq_ediv_of_nonneg (by omega)
  have e2 : ∀ k : Int, 0 ≤ k → k ≤ 3 → cpQ a b k = (a : Int) + ((b : Int) - a) / 4 * k := fun k h0 h3 => by
    have : ((b : Int) - a) / 4 * k ≤ 100 * 3 ∧ 0 ≤ ((b : Int) - a) / 4 * k := by
      have h4 : 0 ≤ ((b : Int) - a) / 4 ∧ ((b : Int) - a) / 4 ≤ 100 := by omega
      exact ⟨Int.mul_le_mul h4.2 h3 h0 (by omega), Int.mul_nonneg h4.1 h0⟩
    unfold cpQ wI
    rw [wrapI (x := (b : Int) - a) (by omega), e1, wrapI (x := ((b : Int) - a) / 4) (by omega), wrapI (x := ((b : Int) - a) / 4 * k) (by omega), wrapI (by omega)]
  have q1 := e2 1 (by decide) (by decide)
  have q2 := e2 2 (by decide) (by decide)
  have q3 := e2 3 (by decide) (by decide)
  have hK' : ∀ p h : Int, (a : Int) ≤ p ∧ p < b → (h = 0 ∨ h = 1 ∨ h = 2) → K (.tup [.int .i64 p, .int .i64 h]) [wtB d us] [] := fun p h hp hh => by
    obtain ⟨k, rfl⟩ := Int.eq_ofNat_of_zero_le (show 0 ≤ p by omega)
    exact hK k h (by omega) (by omega) hh
  have hE : ∀ p s : Int, (a : Int) ≤ p ∧ p < b → cpEnd us K p d s := fun p s hp => cnd (fun _ => hK' _ _ hp (.inr (.inl rfl))) fun _ => cnd (fun _ => hK' _ _ hp (.inr (.inr rfl))) fun _ => hK' _ _ hp (.inl rfl)
  unfold cpXX
  rw [q1, q2, q3, e0]
  refine cnd (fun h => cnd (fun h5 => ?_) fun h5 => ?_) fun h => hK' _ _ (by omega) (.inr (.inl rfl))
  · have h5 : (b : Int) - a ≥ 50 := by simpa using h5
    have w : ∀ x : Int, 0 ≤ x → x ≤ 5000 → wI (x - 1) = x - 1 ∧ wI (x + 1) = x + 1 := fun x h1 h2 => ⟨wrapI (by omega), wrapI (by omega)⟩
    have w1 := w ((a : Int) + ((b : Int) - a) / 4 * 1) (by omega) (by omega)
    have w2 := w ((a : Int) + ((b : Int) - a) / 4 * 2) (by omega) (by omega)
    have w3 := w ((a : Int) + ((b : Int) - a) / 4 * 3) (by omega) (by omega)
    rw [w1.1, w1.2, w2.1, w2.2, w3.1, w3.2]
    exact mdP_ok hd hbN (by omega) (by omega) (by omega) fun p1 _ g1 => mdP_ok hd hbN (by omega) (by omega) (by omega) fun p2 _ g2 => mdP_ok hd hbN (by omega) (by omega) (by omega) fun p3 _ g3 => mdP_ok hd hbN g1 g2 g3 hE
  · have h8 : (b : Int) - a ≥ 8 := by simpa using h
    exact mdP_ok hd hbN (by omega) (by omega) (by omega) hE
end
def pivM : SM := fun ar d Kb => match ar with
  | [.int .i64 x, .int .i64 y] => ∃ a b : Nat, (x = a ∧ y = b ∧ a < b ∧ b ≤ d.size ∧ d.size ≤ 100) ∧ ∀ (p : Nat) (h : Int), a ≤ p → p < b → (h = 0 ∨ h = 1 ∨ h = 2) → Kb (.tup [.int .i64 p, .int .i64 h]) d
  | _ => False
theorem piv_body : SBody true 33 pivM := by
  intro ar d us c bk Kb R ms w0 wd hM S
  unfold pivM at hM
  split at hM
  · rename_i x y
    obtain ⟨a, b, ⟨rfl, rfl, h1, h2, h3⟩, hK⟩ := hM
    refine s_run (C := mkW Try.prog LMd (fun _ _ => none)) LMd_ok.T LMd_ok.Q rfl S ?_
    show vcF _ 60 _ [dtV d.size c, _, _] _ _ _
    rw [cp_vc]
    exact cp_ok h1 h2 h3 rfl fun p h q1 q2 q3 => ⟨d, rfl, rfl, hK p h q1 q2 q3⟩
  · exact hM.elim
end Go.Proofs.Ytciiaficfmbimaa
noncomputable section
namespace Go.Proofs.Ytciiaficfmbimaa
open Go Go.RowKit Go.BigFrame Sx Vx
set_option maxRecDepth 100000
abbrev PT := Nat × Bool × AW
abbrev PF := Nat → Nat → Nat → AW → PT
def ptFin (a : Nat) (r : Nat × AW) : PT := (r.1, false, Sort.swp r.2 r.1 a)
def ptUp (a : Nat) (d : AW) (j i : Nat) : Nat := Sort.scanUp (fun x => ltW x d[a]!) d j i
def ptDn (a : Nat) (d : AW) (i j : Nat) : Nat := Sort.scanDown (fun x => !ltW x d[a]!) d i j
def pt4 : PF := fun a i j d => ptFin a (Sort.partLoop ltW a i j d)
def pt9 : PF := fun a i j d => if i > j then ptFin a (j, d) else pt4 a (i + 1) (j - 1) (Sort.swp d i j)
def pt8 : PF := fun a i j d => pt9 a i (ptDn a d i j) d
def pt6 : PF := fun a i j d => pt8 a (ptUp a d j i) j d
def pt3 : PF := fun a i j d => if i > j then (j, true, Sort.swp d j a) else pt4 a (i + 1) (j - 1) (Sort.swp d i j)
def pt2 : PF := fun a i j d => pt3 a i (ptDn a d i j) d
def pt0 : PF := fun a i j d => pt2 a (ptUp a d j i) j d
structure PtS where
  i : Nat
  j : Nat
  d : AW
section
variable (N c : Nat) (us : List Value) (a b : Nat) (T : PT)
structure PtP (z : PtS) : Prop where
  i : a + 1 ≤ z.i
  i2 : z.i ≤ z.j + 2
  j : z.j < b
  d : z.d.size = N
def ptV (i j : Int) : List V := [dtV N c, .int .i64 a, .int .i64 i, .int .i64 j]
abbrev ptX (F : PF) (i0 j0 : Int) := { z : PtS // PtP N a b z ∧ F a z.i z.j z.d = T ∧ i0 ≤ z.i ∧ (z.j : Int) ≤ j0 }
abbrev upX (F : PF) (i0 j0 : Int) := { z : ptX N a b T F i0 j0 // (z.1.j : Int) = j0 }
abbrev dnX (F : PF) (i0 j0 : Int) := { z : ptX N a b T F i0 j0 // (z.1.i : Int) = i0 }
def upLp (F : PF) (i0 j0 : Int) : Lp Empty := mkLp (X := upX N a b T F i0 j0) (fun z => z.1.1.j + 1 - z.1.1.i) 98 1 [0, 1, 10, 11] (fun z => ptV N c a z.1.1.i z.1.1.j) (fun z => [wtB z.1.1.d us]) (fun _ => []) (fun _ => rfl) (fun _ => by kernel_rfl) (fun _ => rfl)
def dnLp (F : PF) (i0 j0 : Int) : Lp Empty := mkLp (X := dnX N a b T F i0 j0) (fun z => z.1.1.j) 98 1 [0, 1, 10, 11] (fun z => ptV N c a z.1.1.i z.1.1.j) (fun z => [wtB z.1.1.d us]) (fun _ => []) (fun _ => rfl) (fun _ => by kernel_rfl) (fun _ => rfl)
abbrev mnX := ptX N a b T pt4 0 100
def mnLp : Lp Empty := mkLp (X := mnX N a b T) (fun z => z.1.j + 1 - z.1.i) 98 1 [0, 1, 10, 11] (fun z => ptV N c a z.1.i z.1.j) (fun z => [wtB z.1.d us]) (fun _ => []) (fun _ => rfl) (fun _ => by kernel_rfl) (fun _ => rfl)
def ijW (w : List V) (X : Int → Int → Lp Empty) : Option (Lp Empty) := match nth w 10, nth w 11 with | .int .i64 iv, .int .i64 jv => some (X iv jv) | _, _ => none
def ptLps : Nat → List V → Option (Lp Empty) := fun i w => bif Nat.beq i 0 then ijW w (upLp N c us a b T pt0) else bif Nat.beq i 2 then ijW w (dnLp N c us a b T pt2) else bif Nat.beq i 4 then some (mnLp N c us a b T) else bif Nat.beq i 6 then ijW w (upLp N c us a b T pt6) else bif Nat.beq i 8 then ijW w (dnLp N c us a b T pt8) else none
def upP (F : PF) (i0 j0 : Int) (vs : List V) (d : AW) (X : upX N a b T F i0 j0 → AW → Prop) : Prop := (true = true ∧ enD0 (fun z : upX N a b T F i0 j0 => ptV N c a z.1.1.i z.1.1.j) (fun z => [wtB z.1.1.d us]) (fun _ => ([] : List Empty)) vs [wtB d us] []) ∧
  ∀ (z : upX N a b T F i0 j0) (g : Nat → Value), cond (decide ((z.1.1.i : Int) ≤ z.1.1.j)) (lessP N z.1.1.d z.1.1.i a fun d r => cond r (true = true ∧ enD (fun z : upX N a b T F i0 j0 => z.1.1.j + 1 - z.1.1.i) (fun z => ptV N c a z.1.1.i z.1.1.j) (fun z => [wtB z.1.1.d us]) (fun _ => ([] : List Empty)) z (ptV N c a (wI ((z.1.1.i : Int) + 1)) z.1.1.j) [wtB d us] []) (X z d)) (X z z.1.1.d)
def dnP (F : PF) (i0 j0 : Int) (vs : List V) (d : AW) (X : dnX N a b T F i0 j0 → AW → Prop) : Prop := (true = true ∧ enD0 (fun z : dnX N a b T F i0 j0 => ptV N c a z.1.1.i z.1.1.j) (fun z => [wtB z.1.1.d us]) (fun _ => ([] : List Empty)) vs [wtB d us] []) ∧
  ∀ (z : dnX N a b T F i0 j0) (g : Nat → Value), cond (decide ((z.1.1.i : Int) ≤ z.1.1.j)) (lessP N z.1.1.d z.1.1.j a fun d r => cond (!r) (true = true ∧ enD (fun z : dnX N a b T F i0 j0 => z.1.1.j) (fun z => ptV N c a z.1.1.i z.1.1.j) (fun z => [wtB z.1.1.d us]) (fun _ => ([] : List Empty)) z (ptV N c a z.1.1.i (wI ((z.1.1.j : Int) - 1))) [wtB d us] []) (X z d)) (X z z.1.1.d)
variable (pv : Nat) (d : AW) (K : VK Empty)
def ptXX : Prop := swapP N d a pv fun d => upP N c us a b T pt0 (wI ((a : Int) + 1)) (wI ((b : Int) - 1)) (ptV N c a (wI ((a : Int) + 1)) (wI ((b : Int) - 1))) d fun y d => dnP N c us a b T pt2 y.1.1.i y.1.1.j (ptV N c a y.1.1.i y.1.1.j) d fun z d =>
  cond (decide ((z.1.1.i : Int) > z.1.1.j)) (swapP N d z.1.1.j a fun d => K (.tup [.int .i64 z.1.1.j, .bool true]) [wtB d us] []) (swapP N d z.1.1.i z.1.1.j fun d =>
    (true = true ∧ enD0 (fun z : mnX N a b T => ptV N c a z.1.i z.1.j) (fun z => [wtB z.1.d us]) (fun _ => ([] : List Empty)) (ptV N c a (wI ((z.1.1.i : Int) + 1)) (wI ((z.1.1.j : Int) - 1))) [wtB d us] []) ∧
    ∀ (m : mnX N a b T) (g : Nat → Value), upP N c us a b T pt6 m.1.i m.1.j (ptV N c a m.1.i m.1.j) m.1.d fun y d => dnP N c us a b T pt8 y.1.1.i y.1.1.j (ptV N c a y.1.1.i y.1.1.j) d fun z d =>
      cond (decide ((z.1.1.i : Int) > z.1.1.j)) (swapP N d z.1.1.j a fun d => K (.tup [.int .i64 z.1.1.j, .bool false]) [wtB d us] []) (swapP N d z.1.1.i z.1.1.j fun d =>
        true = true ∧ enD (fun z : mnX N a b T => z.1.j + 1 - z.1.i) (fun z => ptV N c a z.1.i z.1.j) (fun z => [wtB z.1.d us]) (fun _ => ([] : List Empty)) m (ptV N c a (wI ((z.1.1.i : Int) + 1)) (wI ((z.1.1.j : Int) - 1))) [wtB d us] []))
set_option maxHeartbeats 0
theorem pt_vc : vcF (mkW Try.prog (LLn Empty) (ptLps N c us a b T)) 60 37 [dtV N c, .int .i64 a, .int .i64 b, .int .i64 pv] [wtB d us] [] (gcK 1 K) = ptXX N c us a b T pv d K := by kernel_rfl
variable {N c us a b T pv d K}
theorem pt46 (i j : Nat) (d : AW) : pt4 a i j d = pt6 a i j d := by
  show ptFin a (Sort.partLoop ltW a i j d) = pt9 a (ptUp a d j i) (ptDn a d (ptUp a d j i) j) d
  rw [Sort.partLoop_eq]
  unfold pt9 pt4 ptUp ptDn
  split <;> rfl
theorem ptUp_yes {i j : Nat} {d : AW} (h : i ≤ j) (hl : ltW d[i]! d[a]! = true) : ptUp a d j i = ptUp a d j (i + 1) := by
  unfold ptUp
  conv => lhs; rw [Sort.scanUp]
  rw [if_pos (by simp [h, hl])]
theorem ptUp_no {i j : Nat} {d : AW} (h : ¬ (i ≤ j ∧ ltW d[i]! d[a]! = true)) : ptUp a d j i = i := by
  unfold ptUp
  rw [Sort.scanUp, if_neg (by simpa using h)]
theorem ptDn_yes {i j : Nat} {d : AW} (h : i ≤ j + 1) (hl : ltW d[j + 1]! d[a]! = false) : ptDn a d i (j + 1) = ptDn a d i j := by
  unfold ptDn
  rw [Sort.scanDown, if_pos (by simp [h, hl])]
theorem ptDn_no {i j : Nat} {d : AW} (h : ¬ (i ≤ j ∧ ltW d[j]! d[a]! = false)) : ptDn a d i j = j := by
  unfold ptDn
  cases j with
  | zero => rfl
  | succ j => rw [Sort.scanDown, if_neg (by simpa using h)]
theorem upP_ok {F G : PF} (hFG : ∀ i j d, F a i j d = G a (ptUp a d j i) j d) (hbN : b ≤ N) (h9 : N ≤ 100) {i0 j0 : Nat} {d : AW} {X : upX N a b T F i0 j0 → AW → Prop} (h0 : PtP N a b ⟨i0, j0, d⟩) (hT : F a i0 j0 d = T) (hX : ∀ z : upX N a b T F i0 j0, G a z.1.1.i z.1.1.j z.1.1.d = T → X z z.1.1.d) : upP N c us a b T F i0 j0 (ptV N c a i0 j0) d X := by
  refine ⟨⟨rfl, ⟨⟨⟨i0, j0, d⟩, h0, hT, Int.le_refl _, Int.le_refl _⟩, rfl⟩, rfl, rfl, rfl⟩, fun z g => ?_⟩
  have hP := z.1.2.1
  have h1 := hP.i
  have h2 := hP.j
  have hz := z.1.2.2.1
  rw [hFG] at hz
  refine cnd (fun h => ?_) fun h => hX z (by rw [ptUp_no (fun q => by have := q.1; simp at h; omega)] at hz; exact hz)
  have hij : z.1.1.i ≤ z.1.1.j := by simpa using h
  refine lessP_ok hP.d rfl rfl (by omega) (by omega) (cnd (fun hl => ?_) fun hl => hX z (by rw [ptUp_no (fun q => by have q2 : Sd.Wt.lt _ _ = true := q.2; rw [q2] at hl; cases hl)] at hz; exact hz))
  rw [ptUp_yes hij hl, ← hFG] at hz
  have h3 := z.1.2.2.2.1
  refine ⟨rfl, ⟨⟨⟨z.1.1.i + 1, z.1.1.j, z.1.1.d⟩, ⟨by show a + 1 ≤ z.1.1.i + 1; omega, by show z.1.1.i + 1 ≤ z.1.1.j + 2; omega, h2, hP.d⟩, hz, by show (i0 : Int) ≤ ((z.1.1.i + 1 : Nat) : Int); omega, z.1.2.2.2.2⟩, z.2⟩, by show z.1.1.j + 1 - (z.1.1.i + 1) < z.1.1.j + 1 - z.1.1.i; omega, ?_, rfl, rfl⟩
  unfold wI
  rw [wrapI (by omega)]
  rfl
theorem dnP_ok {F G : PF} (hFG : ∀ i j d, F a i j d = G a i (ptDn a d i j) d) (hbN : b ≤ N) (h9 : N ≤ 100) {i0 j0 : Nat} {d : AW} {X : dnX N a b T F i0 j0 → AW → Prop} (h0 : PtP N a b ⟨i0, j0, d⟩) (hT : F a i0 j0 d = T) (hX : ∀ z : dnX N a b T F i0 j0, G a z.1.1.i z.1.1.j z.1.1.d = T → X z z.1.1.d) : dnP N c us a b T F i0 j0 (ptV N c a i0 j0) d X := by
  refine ⟨⟨rfl, ⟨⟨⟨i0, j0, d⟩, h0, hT, Int.le_refl _, Int.le_refl _⟩, rfl⟩, rfl, rfl, rfl⟩, fun z g => ?_⟩
  have hP := z.1.2.1
  have h1 := hP.i
  have h2 := hP.j
  have hz := z.1.2.2.1
  rw [hFG] at hz
  refine cnd (fun h => ?_) fun h => hX z (by rw [ptDn_no (fun q => by have := q.1; simp at h; omega)] at hz; exact hz)
  have hij : z.1.1.i ≤ z.1.1.j := by simpa using h
  refine lessP_ok hP.d rfl rfl (by omega) (by omega) (cnd (fun hl => ?_) fun hl => hX z (by rw [ptDn_no (fun q => by have q2 : Sd.Wt.lt _ _ = false := q.2; rw [q2] at hl; cases hl)] at hz; exact hz))
  obtain ⟨k, hk⟩ : ∃ k, z.1.1.j = k + 1 := ⟨z.1.1.j - 1, by omega⟩
  have h3 := z.1.2.2.2.2
  rw [hk] at hz hij hl
  rw [ptDn_yes hij (by simpa using hl), ← hFG] at hz
  refine ⟨rfl, ⟨⟨⟨z.1.1.i, k, z.1.1.d⟩, ⟨h1, by show z.1.1.i ≤ k + 2; omega, by show k < b; omega, hP.d⟩, hz, z.1.2.2.2.1, by show (k : Int) ≤ _; omega⟩, z.2⟩, by show k < z.1.1.j; omega, ?_, rfl, rfl⟩
  unfold wI
  rw [wrapI (by omega)]
  show ptV N c a z.1.1.i ((z.1.1.j : Int) - 1) = ptV N c a z.1.1.i (k : Int)
  rw [show (z.1.1.j : Int) - 1 = (k : Int) by omega]
theorem pt_ok (ha : a ≤ pv) (hpb : pv < b) (hbN : b ≤ N) (h9 : N ≤ 100) (hd : d.size = N) (hT : Sort.partition ltW d a b pv = T) (hK : K (.tup [.int .i64 T.1, .bool T.2.1]) [wtB T.2.2 us] []) : ptXX N c us a b T pv d K := by
  have e1 : wI ((a : Int) + 1) = ((a + 1 : Nat) : Int) := by unfold wI; rw [wrapI (by omega)]; rfl
  have e2 : wI ((b : Int) - 1) = ((b - 1 : Nat) : Int) := by unfold wI; rw [wrapI (by omega)]; omega
  have hq : ∀ {i j : Nat}, i ≤ 100 → j ≤ 100 → 1 ≤ j → wI ((i : Int) + 1) = ((i + 1 : Nat) : Int) ∧ wI ((j : Int) - 1) = ((j - 1 : Nat) : Int) := fun h1 h2 h3 => by
    unfold wI
    rw [wrapI (by omega), wrapI (by omega)]
    exact ⟨rfl, by omega⟩
  unfold ptXX
  rw [e1, e2]
  refine swapP_ok hd rfl rfl (by omega) (by omega) (upP_ok (G := pt2) (fun _ _ _ => rfl) hbN h9 ⟨Nat.le_refl _, by show a + 1 ≤ b - 1 + 2; omega, by show b - 1 < b; omega, by rw [swp_size]; exact hd⟩ hT fun y hy => dnP_ok (G := pt3) (fun _ _ _ => rfl) hbN h9 y.1.2.1 hy fun z hz => ?_)
  have hP := z.1.2.1
  have h1 := hP.i
  have h2 := hP.j
  refine cnd (fun h => ?_) fun h => ?_
  · have h : z.1.1.i > z.1.1.j := by simpa using h
    refine swapP_ok hP.d rfl rfl (by omega) (by omega) ?_
    unfold pt3 at hz
    rw [if_pos h] at hz
    rw [← hz] at hK
    exact hK
  · have h : ¬ z.1.1.i > z.1.1.j := by simpa using h
    unfold pt3 at hz
    rw [if_neg h] at hz
    have e := hq (i := z.1.1.i) (j := z.1.1.j) (by omega) (by omega) (by omega)
    rw [e.1, e.2]
    refine swapP_ok hP.d rfl rfl (by omega) (by omega) ⟨⟨rfl, ⟨⟨z.1.1.i + 1, z.1.1.j - 1, Sort.swp z.1.1.d z.1.1.i z.1.1.j⟩, ⟨by show a + 1 ≤ z.1.1.i + 1; omega, by show z.1.1.i + 1 ≤ z.1.1.j - 1 + 2; omega, by show z.1.1.j - 1 < b; omega, by rw [swp_size]; exact hP.d⟩, hz, by show (0 : Int) ≤ ((z.1.1.i + 1 : Nat) : Int); omega, by show ((z.1.1.j - 1 : Nat) : Int) ≤ 100; omega⟩, rfl, rfl, rfl⟩, fun m g => ?_⟩
    refine upP_ok (G := pt8) (fun _ _ _ => rfl) hbN h9 m.2.1 (by rw [← pt46]; exact m.2.2.1) fun y hy => dnP_ok (G := pt9) (fun _ _ _ => rfl) hbN h9 y.1.2.1 hy fun w hw => ?_
    have hP := w.1.2.1
    have h1 := hP.i
    have h2 := hP.j
    have m1 := y.1.2.2.2.1
    have m2 := y.2
    have m3 := w.1.2.2.2.2
    have m4 := w.2
    refine cnd (fun h => ?_) fun h => ?_
    · have h : w.1.1.i > w.1.1.j := by simpa using h
      refine swapP_ok hP.d rfl rfl (by omega) (by omega) ?_
      unfold pt9 at hw
      rw [if_pos h] at hw
      rw [← hw] at hK
      exact hK
    · have h : ¬ w.1.1.i > w.1.1.j := by simpa using h
      unfold pt9 at hw
      rw [if_neg h] at hw
      have e := hq (i := w.1.1.i) (j := w.1.1.j) (by omega) (by omega) (by omega)
      rw [e.1, e.2]
      exact swapP_ok hP.d rfl rfl (by omega) (by omega) ⟨rfl, ⟨⟨w.1.1.i + 1, w.1.1.j - 1, Sort.swp w.1.1.d w.1.1.i w.1.1.j⟩, ⟨by show a + 1 ≤ w.1.1.i + 1; omega, by show w.1.1.i + 1 ≤ w.1.1.j - 1 + 2; omega, by show w.1.1.j - 1 < b; omega, by rw [swp_size]; exact hP.d⟩, hw, by show (0 : Int) ≤ ((w.1.1.i + 1 : Nat) : Int); omega, by show ((w.1.1.j - 1 : Nat) : Int) ≤ 100; omega⟩, by show w.1.1.j - 1 + 1 - (w.1.1.i + 1) < m.1.j + 1 - m.1.i; omega, rfl, rfl, rfl⟩
end
def partM : SM := fun ar d Kb => match ar with
  | [.int .i64 x, .int .i64 y, .int .i64 z] => ∃ a b p : Nat, (x = a ∧ y = b ∧ z = p ∧ a ≤ p ∧ p < b ∧ b ≤ d.size ∧ d.size ≤ 100) ∧ ∀ (m : Nat) (al : Bool) (d' : AW), a ≤ m → m < b → Sort.PermIn a b d d' → (∀ i, a ≤ i → i < m → ltW d'[i]! d'[m]! = true) → (∀ i, m < i → i < b → ltW d'[i]! d'[m]! = false) → Kb (.tup [.int .i64 m, .bool al]) d'
  | _ => False
theorem part_body : SBody true 37 partM := by
  intro ar d us c bk Kb R ms w0 wd hM S
  unfold partM at hM
  split at hM
  · rename_i x y z
    obtain ⟨a, b, p, ⟨rfl, rfl, rfl, h1, h2, h3, h4⟩, hK⟩ := hM
    have hok := LLn_ok (G := Empty) (gl := gN0)
    refine s_run (C := mkW Try.prog (LLn Empty) (ptLps d.size c us a b (Sort.partition ltW d a b p))) hok.T hok.Q rfl S ?_
    show vcF _ 60 _ [dtV d.size c, _, _, _] _ _ _
    rw [pt_vc]
    obtain ⟨q1, q2, q3, q4, q5⟩ := Sort.partition_holds ltW swoW d a b p h1 h2 h3
    exact pt_ok h1 h2 h3 h4 rfl rfl ⟨_, rfl, rfl, hK _ _ _ q1 q2 q3 q4 q5⟩
  · exact hM.elim
end Go.Proofs.Ytciiaficfmbimaa
noncomputable section
namespace Go.Proofs.Ytciiaficfmbimaa
open Go Go.RowKit Go.BigFrame Sx Vx
set_option maxRecDepth 100000
abbrev PEF := Nat → Nat → Nat → AW → Nat × AW
def eqUp (a : Nat) (d : AW) (j i : Nat) : Nat := Sort.scanUp (fun x => !ltW d[a]! x) d j i
def eqDn (a : Nat) (d : AW) (i j : Nat) : Nat := Sort.scanDown (fun x => ltW d[a]! x) d i j
def pe0 : PEF := fun a i j d => Sort.partEqLoop ltW a i j d
def pe9 : PEF := fun a i j d => if i > j then (i, d) else pe0 a (i + 1) (j - 1) (Sort.swp d i j)
def pe4 : PEF := fun a i j d => pe9 a i (eqDn a d i j) d
def pe2 : PEF := fun a i j d => pe4 a (eqUp a d j i) j d
section
variable (N c : Nat) (us : List Value) (a b : Nat) (T : Nat × AW)
abbrev peX (F : PEF) (i0 j0 : Int) := { z : PtS // PtP N a b z ∧ F a z.i z.j z.d = T ∧ i0 ≤ z.i ∧ (z.j : Int) ≤ j0 }
abbrev peuX (F : PEF) (i0 j0 : Int) := { z : peX N a b T F i0 j0 // (z.1.j : Int) = j0 }
abbrev pedX (F : PEF) (i0 j0 : Int) := { z : peX N a b T F i0 j0 // (z.1.i : Int) = i0 }
def peuLp (F : PEF) (i0 j0 : Int) : Lp Empty := mkLp (X := peuX N a b T F i0 j0) (fun z => z.1.1.j + 1 - z.1.1.i) 54 1 [0, 1, 9, 10] (fun z => ptV N c a z.1.1.i z.1.1.j) (fun z => [wtB z.1.1.d us]) (fun _ => []) (fun _ => rfl) (fun _ => by kernel_rfl) (fun _ => rfl)
def pedLp (F : PEF) (i0 j0 : Int) : Lp Empty := mkLp (X := pedX N a b T F i0 j0) (fun z => z.1.1.j) 54 1 [0, 1, 9, 10] (fun z => ptV N c a z.1.1.i z.1.1.j) (fun z => [wtB z.1.1.d us]) (fun _ => []) (fun _ => rfl) (fun _ => by kernel_rfl) (fun _ => rfl)
abbrev pemX := peX N a b T pe0 0 100
def pemLp : Lp Empty := mkLp (X := pemX N a b T) (fun z => z.1.j + 1 - z.1.i) 54 1 [0, 1, 9, 10] (fun z => ptV N c a z.1.i z.1.j) (fun z => [wtB z.1.d us]) (fun _ => []) (fun _ => rfl) (fun _ => by kernel_rfl) (fun _ => rfl)
def ijE (w : List V) (X : Int → Int → Lp Empty) : Option (Lp Empty) := match nth w 9, nth w 10 with | .int .i64 iv, .int .i64 jv => some (X iv jv) | _, _ => none
def peLps : Nat → List V → Option (Lp Empty) := fun i w => bif Nat.beq i 0 then some (pemLp N c us a b T) else bif Nat.beq i 2 then ijE w (peuLp N c us a b T pe2) else bif Nat.beq i 4 then ijE w (pedLp N c us a b T pe4) else none
def peuP (F : PEF) (i0 j0 : Int) (vs : List V) (d : AW) (X : peuX N a b T F i0 j0 → AW → Prop) : Prop := (true = true ∧ enD0 (fun z : peuX N a b T F i0 j0 => ptV N c a z.1.1.i z.1.1.j) (fun z => [wtB z.1.1.d us]) (fun _ => ([] : List Empty)) vs [wtB d us] []) ∧
  ∀ (z : peuX N a b T F i0 j0) (g : Nat → Value), cond (decide ((z.1.1.i : Int) ≤ z.1.1.j)) (lessP N z.1.1.d a z.1.1.i fun d r => cond (!r) (true = true ∧ enD (fun z : peuX N a b T F i0 j0 => z.1.1.j + 1 - z.1.1.i) (fun z => ptV N c a z.1.1.i z.1.1.j) (fun z => [wtB z.1.1.d us]) (fun _ => ([] : List Empty)) z (ptV N c a (wI ((z.1.1.i : Int) + 1)) z.1.1.j) [wtB d us] []) (X z d)) (X z z.1.1.d)
def pedP (F : PEF) (i0 j0 : Int) (vs : List V) (d : AW) (X : pedX N a b T F i0 j0 → AW → Prop) : Prop := (true = true ∧ enD0 (fun z : pedX N a b T F i0 j0 => ptV N c a z.1.1.i z.1.1.j) (fun z => [wtB z.1.1.d us]) (fun _ => ([] : List Empty)) vs [wtB d us] []) ∧
  ∀ (z : pedX N a b T F i0 j0) (g : Nat → Value), cond (decide ((z.1.1.i : Int) ≤ z.1.1.j)) (lessP N z.1.1.d a z.1.1.j fun d r => cond r (true = true ∧ enD (fun z : pedX N a b T F i0 j0 => z.1.1.j) (fun z => ptV N c a z.1.1.i z.1.1.j) (fun z => [wtB z.1.1.d us]) (fun _ => ([] : List Empty)) z (ptV N c a z.1.1.i (wI ((z.1.1.j : Int) - 1))) [wtB d us] []) (X z d)) (X z z.1.1.d)
variable (pv : Nat) (d : AW) (K : VK Empty)
def peXX : Prop := swapP N d a pv fun d => (true = true ∧ enD0 (fun z : pemX N a b T => ptV N c a z.1.i z.1.j) (fun z => [wtB z.1.d us]) (fun _ => ([] : List Empty)) (ptV N c a (wI ((a : Int) + 1)) (wI ((b : Int) - 1))) [wtB d us] []) ∧
  ∀ (m : pemX N a b T) (g : Nat → Value), peuP N c us a b T pe2 m.1.i m.1.j (ptV N c a m.1.i m.1.j) m.1.d fun y d => pedP N c us a b T pe4 y.1.1.i y.1.1.j (ptV N c a y.1.1.i y.1.1.j) d fun z d =>
    cond (decide ((z.1.1.i : Int) > z.1.1.j)) (K (.int .i64 z.1.1.i) [wtB d us] []) (swapP N d z.1.1.i z.1.1.j fun d =>
      true = true ∧ enD (fun z : pemX N a b T => z.1.j + 1 - z.1.i) (fun z => ptV N c a z.1.i z.1.j) (fun z => [wtB z.1.d us]) (fun _ => ([] : List Empty)) m (ptV N c a (wI ((z.1.1.i : Int) + 1)) (wI ((z.1.1.j : Int) - 1))) [wtB d us] [])
set_option maxHeartbeats 0
theorem pe_vc : vcF (mkW Try.prog (LLn Empty) (peLps N c us a b T)) 60 36 [dtV N c, .int .i64 a, .int .i64 b, .int .i64 pv] [wtB d us] [] (gcK 1 K) = peXX N c us a b T pv d K := by kernel_rfl
variable {N c us a b T pv d K}
theorem pe02 (i j : Nat) (d : AW) : pe0 a i j d = pe2 a i j d := by
  show Sort.partEqLoop ltW a i j d = pe9 a (eqUp a d j i) (eqDn a d (eqUp a d j i) j) d
  rw [Sort.partEqLoop_eq]
  rfl
theorem eqUp_yes {i j : Nat} {d : AW} (h : i ≤ j) (hl : ltW d[a]! d[i]! = false) : eqUp a d j i = eqUp a d j (i + 1) := by
  unfold eqUp
  conv => lhs; rw [Sort.scanUp]
  rw [if_pos (by simp [h, hl])]
theorem eqUp_no {i j : Nat} {d : AW} (h : ¬ (i ≤ j ∧ ltW d[a]! d[i]! = false)) : eqUp a d j i = i := by
  unfold eqUp
  rw [Sort.scanUp, if_neg (by simpa using h)]
theorem eqDn_yes {i j : Nat} {d : AW} (h : i ≤ j + 1) (hl : ltW d[a]! d[j + 1]! = true) : eqDn a d i (j + 1) = eqDn a d i j := by
  unfold eqDn
  rw [Sort.scanDown, if_pos (by simp [h, hl])]
theorem eqDn_no {i j : Nat} {d : AW} (h : ¬ (i ≤ j ∧ ltW d[a]! d[j]! = true)) : eqDn a d i j = j := by
  unfold eqDn
  cases j with
  | zero => rfl
  | succ j => rw [Sort.scanDown, if_neg (by simpa using h)]
theorem peuP_ok {F G : PEF} (hFG : ∀ i j d, F a i j d = G a (eqUp a d j i) j d) (hbN : b ≤ N) (h9 : N ≤ 100) {i0 j0 : Nat} {d : AW} {X : peuX N a b T F i0 j0 → AW → Prop} (h0 : PtP N a b ⟨i0, j0, d⟩) (hT : F a i0 j0 d = T) (hX : ∀ z : peuX N a b T F i0 j0, G a z.1.1.i z.1.1.j z.1.1.d = T → X z z.1.1.d) : peuP N c us a b T F i0 j0 (ptV N c a i0 j0) d X := by
  refine ⟨⟨rfl, ⟨⟨⟨i0, j0, d⟩, h0, hT, Int.le_refl _, Int.le_refl _⟩, rfl⟩, rfl, rfl, rfl⟩, fun z g => ?_⟩
  have hP := z.1.2.1
  have h1 := hP.i
  have h2 := hP.j
  have hz := z.1.2.2.1
  rw [hFG] at hz
  refine cnd (fun h => ?_) fun h => hX z (by rw [eqUp_no (fun q => by have := q.1; simp at h; omega)] at hz; exact hz)
  have hij : z.1.1.i ≤ z.1.1.j := by simpa using h
  refine lessP_ok hP.d rfl rfl (by omega) (by omega) (cnd (fun hl => ?_) fun hl => hX z (by rw [eqUp_no (fun q => by have q2 : Sd.Wt.lt _ _ = false := q.2; rw [q2] at hl; cases hl)] at hz; exact hz))
  rw [eqUp_yes hij (by simpa using hl), ← hFG] at hz
  have h3 := z.1.2.2.2.1
  refine ⟨rfl, ⟨⟨⟨z.1.1.i + 1, z.1.1.j, z.1.1.d⟩, ⟨by show a + 1 ≤ z.1.1.i + 1; omega, by show z.1.1.i + 1 ≤ z.1.1.j + 2; omega, h2, hP.d⟩, hz, by show (i0 : Int) ≤ ((z.1.1.i + 1 : Nat) : Int); omega, z.1.2.2.2.2⟩, z.2⟩, by show z.1.1.j + 1 - (z.1.1.i + 1) < z.1.1.j + 1 - z.1.1.i; omega, ?_, rfl, rfl⟩
  unfold wI
  rw [wrapI (by omega)]
  rfl
theorem pedP_ok {F G : PEF} (hFG : ∀ i j d, F a i j d = G a i (eqDn a d i j) d) (hbN : b ≤ N) (h9 : N ≤ 100) {i0 j0 : Nat} {d : AW} {X : pedX N a b T F i0 j0 → AW → Prop} (h0 : PtP N a b ⟨i0, j0, d⟩) (hT : F a i0 j0 d = T) (hX : ∀ z : pedX N a b T F i0 j0, G a z.1.1.i z.1.1.j z.1.1.d = T → X z z.1.1.d) : pedP N c us a b T F i0 j0 (ptV N c a i0 j0) d X := by
  refine ⟨⟨rfl, ⟨⟨⟨i0, j0, d⟩, h0, hT, Int.le_refl _, Int.le_refl _⟩, rfl⟩, rfl, rfl, rfl⟩, fun z g => ?_⟩
  have hP := z.1.2.1
  have h1 := hP.i
  have h2 := hP.j
  have hz := z.1.2.2.1
  rw [hFG] at hz
  refine cnd (fun h => ?_) fun h => hX z (by rw [eqDn_no (fun q => by have := q.1; simp at h; omega)] at hz; exact hz)
  have hij : z.1.1.i ≤ z.1.1.j := by simpa using h
  refine lessP_ok hP.d rfl rfl (by omega) (by omega) (cnd (fun hl => ?_) fun hl => hX z (by rw [eqDn_no (fun q => by have q2 : Sd.Wt.lt _ _ = true := q.2; rw [q2] at hl; cases hl)] at hz; exact hz))
  obtain ⟨k, hk⟩ : ∃ k, z.1.1.j = k + 1 := ⟨z.1.1.j - 1, by omega⟩
  have h3 := z.1.2.2.2.2
  rw [hk] at hz hij hl
  rw [eqDn_yes hij hl, ← hFG] at hz
  refine ⟨rfl, ⟨⟨⟨z.1.1.i, k, z.1.1.d⟩, ⟨h1, by show z.1.1.i ≤ k + 2; omega, by show k < b; omega, hP.d⟩, hz, z.1.2.2.2.1, by show (k : Int) ≤ _; omega⟩, z.2⟩, by show k < z.1.1.j; omega, ?_, rfl, rfl⟩
  unfold wI
  rw [wrapI (by omega)]
  show ptV N c a z.1.1.i ((z.1.1.j : Int) - 1) = ptV N c a z.1.1.i (k : Int)
  rw [show (z.1.1.j : Int) - 1 = (k : Int) by omega]
theorem pe_ok (ha : a ≤ pv) (hpb : pv < b) (hbN : b ≤ N) (h9 : N ≤ 100) (hd : d.size = N) (hT : Sort.partitionEqual ltW d a b pv = T) (hK : K (.int .i64 T.1) [wtB T.2 us] []) : peXX N c us a b T pv d K := by
  have e1 : wI ((a : Int) + 1) = ((a + 1 : Nat) : Int) := by unfold wI; rw [wrapI (by omega)]; rfl
  have e2 : wI ((b : Int) - 1) = ((b - 1 : Nat) : Int) := by unfold wI; rw [wrapI (by omega)]; omega
  have hq : ∀ {i j : Nat}, i ≤ 100 → j ≤ 100 → 1 ≤ j → wI ((i : Int) + 1) = ((i + 1 : Nat) : Int) ∧ wI ((j : Int) - 1) = ((j - 1 : Nat) : Int) := fun h1 h2 h3 => by
    unfold wI
    rw [wrapI (by omega), wrapI (by omega)]
    exact ⟨rfl, by omega⟩
  unfold peXX
  rw [e1, e2]
  refine swapP_ok hd rfl rfl (by omega) (by omega) ⟨⟨rfl, ⟨⟨a + 1, b - 1, Sort.swp d a pv⟩, ⟨Nat.le_refl _, by show a + 1 ≤ b - 1 + 2; omega, by show b - 1 < b; omega, by rw [swp_size]; exact hd⟩, hT, by show (0 : Int) ≤ ((a + 1 : Nat) : Int); omega, by show ((b - 1 : Nat) : Int) ≤ 100; omega⟩, rfl, rfl, rfl⟩, fun m g => ?_⟩
  refine peuP_ok (G := pe4) (fun _ _ _ => rfl) hbN h9 m.2.1 (by rw [← pe02]; exact m.2.2.1) fun y hy => pedP_ok (G := pe9) (fun _ _ _ => rfl) hbN h9 y.1.2.1 hy fun w hw => ?_
  have hP := w.1.2.1
  have h1 := hP.i
  have h2 := hP.j
  have m1 := y.1.2.2.2.1
  have m2 := y.2
  have m3 := w.1.2.2.2.2
  have m4 := w.2
  refine cnd (fun h => ?_) fun h => ?_
  · have h : w.1.1.i > w.1.1.j := by simpa using h
    unfold pe9 at hw
    rw [if_pos h] at hw
    rw [← hw] at hK
    exact hK
  · have h : ¬ w.1.1.i > w.1.1.j := by simpa using h
    unfold pe9 at hw
    rw [if_neg h] at hw
    have e := hq (i := w.1.1.i) (j := w.1.1.j) (by omega) (by omega) (by omega)
    rw [e.1, e.2]
    exact swapP_ok hP.d rfl rfl (by omega) (by omega) ⟨rfl, ⟨⟨w.1.1.i + 1, w.1.1.j - 1, Sort.swp w.1.1.d w.1.1.i w.1.1.j⟩, ⟨by show a + 1 ≤ w.1.1.i + 1; omega, by show w.1.1.i + 1 ≤ w.1.1.j - 1 + 2; omega, by show w.1.1.j - 1 < b; omega, by rw [swp_size]; exact hP.d⟩, hw, by show (0 : Int) ≤ ((w.1.1.i + 1 : Nat) : Int); omega, by show ((w.1.1.j - 1 : Nat) : Int) ≤ 100; omega⟩, by show w.1.1.j - 1 + 1 - (w.1.1.i + 1) < m.1.j + 1 - m.1.i; omega, rfl, rfl, rfl⟩
end
def parteM : SM := fun ar d Kb => match ar with
  | [.int .i64 x, .int .i64 y, .int .i64 z] => ∃ a b p : Nat, (x = a ∧ y = b ∧ z = p ∧ a ≤ p ∧ p < b ∧ b ≤ d.size ∧ d.size ≤ 100 ∧ ∀ i, a ≤ i → i < b → ltW d[i]! d[p]! = false) ∧ ∀ (m : Nat) (d' : AW), a < m → m ≤ b → Sort.PermIn a b d d' → (∀ i, a ≤ i → i < m → ltW d[p]! d'[i]! = false) → (∀ i, m ≤ i → i < b → ltW d[p]! d'[i]! = true) → Kb (.int .i64 m) d'
  | _ => False
theorem parte_body : SBody true 36 parteM := by
  intro ar d us c bk Kb R ms w0 wd hM S
  unfold parteM at hM
  split at hM
  · rename_i x y z
    obtain ⟨a, b, p, ⟨rfl, rfl, rfl, h1, h2, h3, h4, h5⟩, hK⟩ := hM
    have hok := LLn_ok (G := Empty) (gl := gN0)
    refine s_run (C := mkW Try.prog (LLn Empty) (peLps d.size c us a b (Sort.partitionEqual ltW d a b p))) hok.T hok.Q rfl S ?_
    show vcF _ 60 _ [dtV d.size c, _, _, _] _ _ _
    rw [pe_vc]
    obtain ⟨q1, q2, q3, q4, q5⟩ := Sort.partitionEqual_holds ltW swoW d a b p h1 h2 h3 h5
    exact pe_ok h1 h2 h3 h4 rfl rfl ⟨_, rfl, rfl, hK _ _ q1 q2 q3 q4 q5⟩
  · exact hM.elim
end Go.Proofs.Ytciiaficfmbimaa
noncomputable section
namespace Go.Proofs.Ytciiaficfmbimaa
open Go Go.RowKit Go.BigFrame Sx Vx
set_option maxRecDepth 100000
section
variable (N c : Nat) (us : List Value) (a b : Nat) (T : AW × Bool)
def pi6 (s i k : Nat) (d : AW) : AW × Bool := Sort.partialIns ltW a b s i (Sort.shiftUp ltW b k d)
def pi5 (s i : Nat) (d : AW) : AW × Bool := Sort.partialIns ltW a b s i (if b - i ≥ 2 then Sort.shiftUp ltW b (i + 1) d else d)
def pi4 (s i k : Nat) (d : AW) : AW × Bool := pi5 a b s i (Sort.shiftDown ltW k d)
def pi3 (s i : Nat) (d : AW) : AW × Bool := pi5 a b s i (if i - a ≥ 2 then Sort.shiftDown ltW (i - 1) d else d)
def pi1 (s i : Nat) (d : AW) : AW × Bool := if i = b then (d, true) else if b - a < 50 then (d, false) else pi3 a b s i (Sort.swp d i (i - 1))
def pi2 (s i : Nat) (d : AW) : AW × Bool := pi1 a b s (Sort.scanSorted ltW d b i) d
structure PiS where
  s : Nat
  i : Nat
  k : Nat
  d : AW
structure PiP (z : PiS) : Prop where
  s : z.s ≤ 5
  i : a + 1 ≤ z.i
  i2 : z.i ≤ b
  d : z.d.size = N
def piV (s i : Int) : List V := [dtV N c, .int .i64 a, .int .i64 b, .int .i64 i, .int .i64 (5 - s)]
abbrev piX0 := { z : PiS // PiP N a b z ∧ Sort.partialIns ltW a b z.s z.i z.d = T }
abbrev piX2 (jv : Int) := { z : PiS // PiP N a b z ∧ (5 - (z.s : Int) = jv ∧ 0 < z.s) ∧ pi2 a b (z.s - 1) z.i z.d = T }
abbrev piX4 (jv : Int) := { z : PiS // PiP N a b z ∧ (5 - (z.s : Int) = jv ∧ 0 < z.s) ∧ z.k < z.i ∧ z.i < b ∧ pi4 a b (z.s - 1) z.i z.k z.d = T }
abbrev piX6 (jv : Int) := { z : PiS // PiP N a b z ∧ (5 - (z.s : Int) = jv ∧ 0 < z.s) ∧ z.i < z.k ∧ z.k ≤ b ∧ pi6 a b (z.s - 1) z.i z.k z.d = T }
def piLp0 : Lp Empty := mkLp (X := piX0 N a b T) (fun z => z.1.s) 85 1 [0, 1, 2, 7, 8] (fun z => piV N c a b z.1.s z.1.i) (fun z => [wtB z.1.d us]) (fun _ => []) (fun _ => rfl) (fun _ => by kernel_rfl) (fun _ => rfl)
def piLp2 (jv : Int) : Lp Empty := mkLp (X := piX2 N a b T jv) (fun z => b - z.1.i) 85 1 [0, 1, 2, 7, 8] (fun z => piV N c a b z.1.s z.1.i) (fun z => [wtB z.1.d us]) (fun _ => []) (fun _ => rfl) (fun _ => by kernel_rfl) (fun _ => rfl)
def piLp4 (jv : Int) : Lp Empty := mkLp (X := piX4 N a b T jv) (fun z => z.1.k) 85 1 [0, 1, 2, 7, 8, 9] (fun z => piV N c a b z.1.s z.1.i ++ [.int .i64 z.1.k]) (fun z => [wtB z.1.d us]) (fun _ => []) (fun _ => rfl) (fun _ => by kernel_rfl) (fun _ => rfl)
def piLp6 (jv : Int) : Lp Empty := mkLp (X := piX6 N a b T jv) (fun z => b - z.1.k) 85 1 [0, 1, 2, 7, 8, 10] (fun z => piV N c a b z.1.s z.1.i ++ [.int .i64 z.1.k]) (fun z => [wtB z.1.d us]) (fun _ => []) (fun _ => rfl) (fun _ => by kernel_rfl) (fun _ => rfl)
def jW8 (w : List V) (X : Int → Lp Empty) : Option (Lp Empty) := match nth w 8 with | .int .i64 jv => some (X jv) | _ => none
def piLps : Nat → List V → Option (Lp Empty) := fun i w => bif Nat.beq i 0 then some (piLp0 N c us a b T) else bif Nat.beq i 2 then jW8 w (piLp2 N c us a b T) else bif Nat.beq i 4 then jW8 w (piLp4 N c us a b T) else bif Nat.beq i 6 then jW8 w (piLp6 N c us a b T) else none
variable (d : AW) (K : VK Empty)
def piEn (x : piX0 N a b T) (s i : Nat) (d : AW) : Prop := true = true ∧ enD (fun z : piX0 N a b T => z.1.s) (fun z => piV N c a b z.1.s z.1.i) (fun z => [wtB z.1.d us]) (fun _ => ([] : List Empty)) x [dtV N c, .int .i64 a, .int .i64 b, .int .i64 i, .int .i64 (wI ((5 - (s : Int)) + 1))] [wtB d us] []
def piUp (x : piX0 N a b T) (s i : Nat) (d : AW) : Prop := cond (decide (wI ((b : Int) - i) ≥ 2))
  ((true = true ∧ enD0 (fun z : piX6 N a b T (5 - (s : Int)) => piV N c a b z.1.s z.1.i ++ [.int .i64 z.1.k]) (fun z => [wtB z.1.d us]) (fun _ => ([] : List Empty)) (piV N c a b s i ++ [.int .i64 (wI ((i : Int) + 1))]) [wtB d us] []) ∧
    ∀ (z : piX6 N a b T (5 - (s : Int))) (g : Nat → Value), cond (decide ((z.1.k : Int) < b)) (lessP N z.1.d z.1.k (wI ((z.1.k : Int) - 1)) fun d r => cond (!r) (piEn N c us a b T x z.1.s z.1.i d) (swapP N d z.1.k (wI ((z.1.k : Int) - 1)) fun d =>
      true = true ∧ enD (fun z : piX6 N a b T (5 - (s : Int)) => b - z.1.k) (fun z => piV N c a b z.1.s z.1.i ++ [.int .i64 z.1.k]) (fun z => [wtB z.1.d us]) (fun _ => ([] : List Empty)) z (piV N c a b z.1.s z.1.i ++ [.int .i64 (wI ((z.1.k : Int) + 1))]) [wtB d us] [])) (piEn N c us a b T x z.1.s z.1.i z.1.d))
  (piEn N c us a b T x s i d)
def piDn (x : piX0 N a b T) (s i : Nat) (d : AW) : Prop := cond (decide (wI ((i : Int) - a) ≥ 2))
  ((true = true ∧ enD0 (fun z : piX4 N a b T (5 - (s : Int)) => piV N c a b z.1.s z.1.i ++ [.int .i64 z.1.k]) (fun z => [wtB z.1.d us]) (fun _ => ([] : List Empty)) (piV N c a b s i ++ [.int .i64 (wI ((i : Int) - 1))]) [wtB d us] []) ∧
    ∀ (z : piX4 N a b T (5 - (s : Int))) (g : Nat → Value), cond (decide ((z.1.k : Int) ≥ 1)) (lessP N z.1.d z.1.k (wI ((z.1.k : Int) - 1)) fun d r => cond (!r) (piUp N c us a b T x z.1.s z.1.i d) (swapP N d z.1.k (wI ((z.1.k : Int) - 1)) fun d =>
      true = true ∧ enD (fun z : piX4 N a b T (5 - (s : Int)) => z.1.k) (fun z => piV N c a b z.1.s z.1.i ++ [.int .i64 z.1.k]) (fun z => [wtB z.1.d us]) (fun _ => ([] : List Empty)) z (piV N c a b z.1.s z.1.i ++ [.int .i64 (wI ((z.1.k : Int) - 1))]) [wtB d us] [])) (piUp N c us a b T x z.1.s z.1.i z.1.d))
  (piUp N c us a b T x s i d)
def piAf (x : piX0 N a b T) (s i : Nat) (d : AW) : Prop := cond ((i : Int) == b) (K (.bool true) [wtB d us] []) (cond (decide (wI ((b : Int) - a) < 50)) (K (.bool false) [wtB d us] []) (swapP N d i (wI ((i : Int) - 1)) fun d => piDn N c us a b T x s i d))
def piXX : Prop := (true = true ∧ enD0 (fun z : piX0 N a b T => piV N c a b z.1.s z.1.i) (fun z => [wtB z.1.d us]) (fun _ => ([] : List Empty)) [dtV N c, .int .i64 a, .int .i64 b, .int .i64 (wI ((a : Int) + 1)), .int .i64 0] [wtB d us] []) ∧
  ∀ (x : piX0 N a b T) (g : Nat → Value), cond (decide (5 - (x.1.s : Int) < 5)) ((true = true ∧ enD0 (fun z : piX2 N a b T (5 - (x.1.s : Int)) => piV N c a b z.1.s z.1.i) (fun z => [wtB z.1.d us]) (fun _ => ([] : List Empty)) (piV N c a b x.1.s x.1.i) [wtB x.1.d us] []) ∧
    ∀ (z : piX2 N a b T (5 - (x.1.s : Int))) (g : Nat → Value), cond (decide ((z.1.i : Int) < b)) (lessP N z.1.d z.1.i (wI ((z.1.i : Int) - 1)) fun d r => cond (!r) (true = true ∧ enD (fun z : piX2 N a b T (5 - (x.1.s : Int)) => b - z.1.i) (fun z => piV N c a b z.1.s z.1.i) (fun z => [wtB z.1.d us]) (fun _ => ([] : List Empty)) z (piV N c a b z.1.s (wI ((z.1.i : Int) + 1))) [wtB d us] [])
      (piAf N c us a b T K x z.1.s z.1.i d)) (piAf N c us a b T K x z.1.s z.1.i z.1.d)) (K (.bool false) [wtB x.1.d us] [])
set_option maxHeartbeats 0
theorem pi_vc : vcF (mkW Try.prog (LLn Empty) (piLps N c us a b T)) 60 35 [dtV N c, .int .i64 a, .int .i64 b] [wtB d us] [] (gcK 1 K) = piXX N c us a b T d K := by kernel_rfl
variable {N c us a b T d K}
theorem piEn_ok {x : piX0 N a b T} {s i : Nat} {d : AW} (hs : s = x.1.s) (h0 : 0 < s) (h1 : a + 1 ≤ i) (h2 : i ≤ b) (hd : d.size = N) (hT : Sort.partialIns ltW a b (s - 1) i d = T) : piEn N c us a b T x s i d := by
  have := x.2.1.s
  refine ⟨rfl, ⟨⟨s - 1, i, 0, d⟩, ⟨by show s - 1 ≤ 5; omega, h1, h2, hd⟩, hT⟩, by show s - 1 < x.1.s; omega, ?_, rfl, rfl⟩
  unfold wI
  rw [wrapI (by omega), show (5 : Int) - s + 1 = 5 - ((s - 1 : Nat) : Int) by omega]
  rfl
theorem piUp_ok (hbN : b ≤ N) (h9 : N ≤ 100) {x : piX0 N a b T} {s i : Nat} {d : AW} (hs : s = x.1.s) (h0 : 0 < s) (h1 : a + 1 ≤ i) (h2 : i < b) (hd : d.size = N) (hT : pi5 a b (s - 1) i d = T) : piUp N c us a b T x s i d := by
  have hx := x.2.1.s
  unfold piUp
  rw [show wI ((b : Int) - i) = (b : Int) - i from wrapI (by omega), show wI ((i : Int) + 1) = ((i + 1 : Nat) : Int) from (wrapI (by omega)).trans rfl]
  unfold pi5 at hT
  refine cnd (fun h => ?_) fun h => ?_
  · have h : b - i ≥ 2 := by simp at h; omega
    rw [if_pos h] at hT
    refine ⟨⟨rfl, ⟨⟨s, i, i + 1, d⟩, ⟨by show s ≤ 5; omega, h1, by show i ≤ b; omega, hd⟩, ⟨rfl, h0⟩, by show i < i + 1; omega, by show i + 1 ≤ b; omega, hT⟩, rfl, rfl, rfl⟩, fun z g => ?_⟩
    have hP := z.2.1
    have q1 := hP.i
    have q2 := hP.i2
    obtain ⟨⟨e1, e2⟩, e3, e4, hz⟩ := z.2.2
    have hsz : z.1.s = x.1.s := by omega
    unfold pi6 at hz
    rw [Sort.shiftUp] at hz
    have ek : wI ((z.1.k : Int) - 1) = ((z.1.k - 1 : Nat) : Int) := (wrapI (by omega)).trans (by omega)
    rw [ek]
    refine cnd (fun h => ?_) fun h => piEn_ok hsz e2 q1 q2 hP.d (by rw [if_neg (by simpa using h)] at hz; exact hz)
    have hk : z.1.k < b := by simpa using h
    rw [if_pos hk] at hz
    refine lessP_ok hP.d rfl rfl (by omega) (by omega) (cnd (fun hl => piEn_ok hsz e2 q1 q2 hP.d (by rw [if_pos hl] at hz; exact hz)) fun hl => swapP_ok hP.d rfl rfl (by omega) (by omega) ⟨rfl, ⟨⟨z.1.s, z.1.i, z.1.k + 1, Sort.swp z.1.d z.1.k (z.1.k - 1)⟩, ⟨hP.s, q1, q2, by rw [swp_size]; exact hP.d⟩, ⟨e1, e2⟩, by show z.1.i < z.1.k + 1; omega, by show z.1.k + 1 ≤ b; omega, ?_⟩, by show b - (z.1.k + 1) < b - z.1.k; omega, ?_, rfl, rfl⟩)
    · rw [if_neg (by rw [show (!ltW z.1.d[z.1.k]! z.1.d[z.1.k - 1]!) = false from hl]; simp)] at hz
      exact hz
    · rw [show wI ((z.1.k : Int) + 1) = ((z.1.k + 1 : Nat) : Int) from (wrapI (by omega)).trans rfl]
  · have h : ¬ b - i ≥ 2 := by simp at h; omega
    rw [if_neg h] at hT
    exact piEn_ok hs h0 h1 (by omega) hd hT
theorem piDn_ok (hbN : b ≤ N) (h9 : N ≤ 100) {x : piX0 N a b T} {s i : Nat} {d : AW} (hs : s = x.1.s) (h0 : 0 < s) (h1 : a + 1 ≤ i) (h2 : i < b) (hd : d.size = N) (hT : pi3 a b (s - 1) i d = T) : piDn N c us a b T x s i d := by
  have hx := x.2.1.s
  unfold piDn
  rw [show wI ((i : Int) - a) = (i : Int) - a from wrapI (by omega), show wI ((i : Int) - 1) = ((i - 1 : Nat) : Int) from (wrapI (by omega)).trans (by omega)]
  unfold pi3 at hT
  refine cnd (fun h => ?_) fun h => ?_
  · have h : i - a ≥ 2 := by simp at h; omega
    rw [if_pos h] at hT
    refine ⟨⟨rfl, ⟨⟨s, i, i - 1, d⟩, ⟨by show s ≤ 5; omega, h1, by show i ≤ b; omega, hd⟩, ⟨rfl, h0⟩, by show i - 1 < i; omega, h2, hT⟩, rfl, rfl, rfl⟩, fun z g => ?_⟩
    have hP := z.2.1
    have q1 := hP.i
    obtain ⟨⟨e1, e2⟩, e3, e4, hz⟩ := z.2.2
    have hsz : z.1.s = x.1.s := by omega
    unfold pi4 at hz
    refine cnd (fun h => ?_) fun h => piUp_ok hbN h9 hsz e2 q1 e4 hP.d (by
      have h : z.1.k = 0 := by simp at h; omega
      rw [h] at hz
      exact hz)
    obtain ⟨k, hk⟩ : ∃ k, z.1.k = k + 1 := ⟨z.1.k - 1, by simp at h; omega⟩
    have ek : wI ((z.1.k : Int) - 1) = (k : Int) := (wrapI (by omega)).trans (by omega)
    rw [ek]
    rw [hk, Sort.shiftDown] at hz
    refine lessP_ok hP.d (i := k + 1) (by rw [hk]) rfl (by omega) (by omega) (cnd (fun hl => piUp_ok hbN h9 hsz e2 q1 e4 hP.d (by rw [if_pos hl] at hz; exact hz)) fun hl => swapP_ok (i := k + 1) hP.d (by rw [hk]) rfl (by omega) (by omega) ⟨rfl, ⟨⟨z.1.s, z.1.i, k, Sort.swp z.1.d (k + 1) k⟩, ⟨hP.s, q1, hP.i2, by rw [swp_size]; exact hP.d⟩, ⟨e1, e2⟩, by show k < z.1.i; omega, e4, ?_⟩, by show k < z.1.k; omega, rfl, rfl, rfl⟩)
    rw [if_neg (by rw [show (!ltW z.1.d[k + 1]! z.1.d[k]!) = false from hl]; simp)] at hz
    exact hz
  · have h : ¬ i - a ≥ 2 := by simp at h; omega
    rw [if_neg h] at hT
    exact piUp_ok hbN h9 hs h0 h1 h2 hd hT
theorem piAf_ok (hbN : b ≤ N) (h9 : N ≤ 100) {x : piX0 N a b T} {s i : Nat} {d : AW} (hs : s = x.1.s) (h0 : 0 < s) (h1 : a + 1 ≤ i) (h2 : i ≤ b) (hd : d.size = N) (hT : pi1 a b (s - 1) i d = T) (hK : K (.bool T.2) [wtB T.1 us] []) : piAf N c us a b T K x s i d := by
  unfold piAf
  rw [show wI ((b : Int) - a) = (b : Int) - a from wrapI (by omega), show wI ((i : Int) - 1) = ((i - 1 : Nat) : Int) from (wrapI (by omega)).trans (by omega)]
  unfold pi1 at hT
  refine cnd (fun h => ?_) fun h => cnd (fun h5 => ?_) fun h5 => ?_
  · have h : i = b := by simp at h; omega
    rw [if_pos h] at hT
    rw [← hT] at hK
    exact hK
  · have h : ¬ i = b := by simp at h; omega
    have h5 : b - a < 50 := by simp at h5; omega
    rw [if_neg h, if_pos h5] at hT
    rw [← hT] at hK
    exact hK
  · have h : ¬ i = b := by simp at h; omega
    have h5 : ¬ b - a < 50 := by simp at h5; omega
    rw [if_neg h, if_neg h5] at hT
    exact swapP_ok hd rfl rfl (by omega) (by omega) (piDn_ok hbN h9 hs h0 h1 (by omega) (by rw [swp_size]; exact hd) hT)
theorem pi_ok (hab : a < b) (hbN : b ≤ N) (h9 : N ≤ 100) (hd : d.size = N) (hT : Sort.partialInsertionSort ltW d a b = T) (hK : K (.bool T.2) [wtB T.1 us] []) : piXX N c us a b T d K := by
  refine ⟨⟨rfl, ⟨⟨5, a + 1, 0, d⟩, ⟨Nat.le_refl _, Nat.le_refl _, hab, hd⟩, hT⟩, ?_, rfl, rfl⟩, fun x g => cnd (fun h => ?_) fun h => ?_⟩
  · rw [show wI ((a : Int) + 1) = ((a + 1 : Nat) : Int) from (wrapI (by omega)).trans rfl]
    rfl
  · have h0 : 0 < x.1.s := by simp at h; omega
    have hx := x.2.2
    obtain ⟨q, hq⟩ : ∃ q, x.1.s = q + 1 := ⟨x.1.s - 1, by omega⟩
    have hx2 : pi2 a b (x.1.s - 1) x.1.i x.1.d = T := by
      rw [hq] at hx ⊢
      exact hx
    refine ⟨⟨rfl, ⟨x.1, x.2.1, ⟨rfl, h0⟩, hx2⟩, rfl, rfl, rfl⟩, fun z g => ?_⟩
    have hP := z.2.1
    have q1 := hP.i
    have q2 := hP.i2
    obtain ⟨⟨e1, e2⟩, hz⟩ := z.2.2
    have hsz : z.1.s = x.1.s := by omega
    have hno : ∀ {P : Prop}, ¬ (z.1.i < b ∧ (!ltW z.1.d[z.1.i]! z.1.d[z.1.i - 1]!) = true) → pi1 a b (z.1.s - 1) z.1.i z.1.d = T := fun {P} hn => by
      unfold pi2 at hz
      rw [Sort.scanSorted, if_neg (by simpa using hn)] at hz
      exact hz
    rw [show wI ((z.1.i : Int) - 1) = ((z.1.i - 1 : Nat) : Int) from (wrapI (by omega)).trans (by omega)]
    refine cnd (fun h => ?_) fun h => piAf_ok hbN h9 hsz e2 q1 q2 hP.d (hno (P := True) fun q => by have := q.1; simp at h; omega) hK
    have hi : z.1.i < b := by simpa using h
    refine lessP_ok hP.d rfl rfl (by omega) (by omega) (cnd (fun hl => ⟨rfl, ⟨⟨z.1.s, z.1.i + 1, 0, z.1.d⟩, ⟨hP.s, by show a + 1 ≤ z.1.i + 1; omega, hi, hP.d⟩, ⟨e1, e2⟩, ?_⟩, by show b - (z.1.i + 1) < b - z.1.i; omega, ?_, rfl, rfl⟩) fun hl => piAf_ok hbN h9 hsz e2 q1 q2 hP.d (hno (P := True) fun q => by have q2 := q.2; rw [show (!ltW z.1.d[z.1.i]! z.1.d[z.1.i - 1]!) = false from hl] at q2; cases q2) hK)
    · unfold pi2 at hz
      rw [Sort.scanSorted, if_pos (by rw [show (!ltW z.1.d[z.1.i]! z.1.d[z.1.i - 1]!) = true from hl]; simpa using hi)] at hz
      exact hz
    · rw [show wI ((z.1.i : Int) + 1) = ((z.1.i + 1 : Nat) : Int) from (wrapI (by omega)).trans rfl]
  · have h0 : x.1.s = 0 := by simp at h; omega
    have hx := x.2.2
    rw [h0] at hx
    have hx : (x.1.d, false) = T := hx
    rw [← hx] at hK
    exact hK
end
def pisM : SM := fun ar d Kb => match ar with
  | [.int .i64 x, .int .i64 y] => ∃ a b : Nat, (x = a ∧ y = b ∧ a < b ∧ b ≤ d.size ∧ d.size ≤ 100 ∧ Sort.Below ltW a b d) ∧ ∀ (r : Bool) (d' : AW), Sort.PermIn a b d d' → (r = true → Sort.SortedIn ltW a b d') → Kb (.bool r) d'
  | _ => False
theorem pis_body : SBody true 35 pisM := by
  intro ar d us c bk Kb R ms w0 wd hM S
  unfold pisM at hM
  split at hM
  · rename_i x y
    obtain ⟨a, b, ⟨rfl, rfl, h1, h2, h3, h4⟩, hK⟩ := hM
    have hok := LLn_ok (G := Empty) (gl := gN0)
    refine s_run (C := mkW Try.prog (LLn Empty) (piLps d.size c us a b (Sort.partialInsertionSort ltW d a b))) hok.T hok.Q rfl S ?_
    show vcF _ 60 _ [dtV d.size c, _, _] _ _ _
    rw [pi_vc]
    obtain ⟨q1, q2⟩ := Sort.partialInsertionSort_holds (lt := ltW) swoW d a b h1 h2 h4
    exact pi_ok h1 h2 h3 rfl rfl ⟨_, rfl, rfl, hK _ _ q1 q2⟩
  · exact hM.elim
end Go.Proofs.Ytciiaficfmbimaa
noncomputable section
namespace Go.Proofs.Ytciiaficfmbimaa
open Go Go.RowKit Go.BigFrame Sx Vx
set_option maxRecDepth 100000
def ctP (N : Nat) (M : SM) (ar : List V) (d0 : AW) (X : V → AW → Prop) : Prop := ∃ d : AW, (wtG d0 = wtG d ∧ d0.size = d.size ∧ N = d.size) ∧ M ar d X
def pdqM (k : Nat) : SM := fun ar d Kb => match ar with
  | [.int .i64 x, .int .i64 y, .int .i64 l] => ∃ a b : Nat, (x = a ∧ y = b ∧ a ≤ b ∧ b ≤ d.size ∧ d.size ≤ 100 ∧ b - a < k ∧ (0 ≤ l ∧ l ≤ 100) ∧ Sort.Below ltW a b d) ∧ ∀ d', Sort.PermIn a b d d' → Sort.SortedIn ltW a b d' → Kb (.tup []) d'
  | _ => False
def LPq (k : Nat) : List (Ent Empty) := ⟨30, false, sC true (sortsM fun _ _ _ => True)⟩ :: ⟨31, false, sC true (sortsM fun _ _ _ => True)⟩ :: ⟨32, false, sC true permsM⟩ :: ⟨33, false, sC true pivM⟩ :: ⟨34, false, sC true permsM⟩ :: ⟨35, false, sC true pisM⟩ :: ⟨36, false, sC true parteM⟩ :: ⟨37, false, sC true partM⟩ :: ⟨27, false, sC true (pdqM k)⟩ :: LLn Empty
structure PqS where
  a : Nat
  b : Nat
  l : Int
  wb : Bool
  wp : Bool
  d : AW
section
variable (N c : Nat) (us : List Value) (k a0 b0 : Nat) (d0 : AW)
structure PqI (z : PqS) : Prop where
  lo : a0 ≤ z.a
  ab : z.a ≤ z.b
  hi : z.b ≤ b0
  l : 0 ≤ z.l ∧ z.l ≤ 100
  sz : z.d.size = N
  pm : Sort.PermIn a0 b0 d0 z.d
  out : ∀ i j, a0 ≤ i → i < j → j < b0 → (i < z.a ∨ z.b ≤ j) → ltW z.d[j]! z.d[i]! = false
  bel : Sort.Below ltW z.a z.b z.d
abbrev PqX := { z : PqS // PqI N a0 b0 d0 z }
def pqV (a b l : Int) (wb wp : Bool) : List V := [dtV N c, .int .i64 a, .int .i64 b, .int .i64 l, .bool wb, .bool wp]
def pqLp : Lp Empty := mkLp (X := PqX N a0 b0 d0) (fun z => z.1.b - z.1.a) 129 1 [0, 1, 2, 3, 8, 9] (fun z => pqV N c z.1.a z.1.b z.1.l z.1.wb z.1.wp) (fun z => [wtB z.1.d us]) (fun _ => []) (fun _ => rfl) (fun _ => by kernel_rfl) (fun _ => rfl)
variable (l0 : Int) (K : VK Empty)
def pqEn (x : PqX N a0 b0 d0) (a b l : Int) (wb wp : Bool) (d : AW) : Prop := true = true ∧ enD (fun z : PqX N a0 b0 d0 => z.1.b - z.1.a) (fun z => pqV N c z.1.a z.1.b z.1.l z.1.wb z.1.wp) (fun z => [wtB z.1.d us]) (fun _ => ([] : List Empty)) x (pqV N c a b l wb wp) [wtB d us] []
def pqPart (x : PqX N a0 b0 d0) (l p : Int) (d : AW) : Prop := ctP N partM [.int .i64 x.1.a, .int .i64 x.1.b, .int .i64 p] d fun v d => match v with
  | .tup [.int .i64 m, .bool al] =>
    let u := wI (m - x.1.a)
    let w := wI (x.1.b - m)
    let q := wI ((wI ((x.1.b : Int) - x.1.a)).tdiv 8)
    cond (decide (u < w)) (ctP N (pdqM k) [.int .i64 x.1.a, .int .i64 m, .int .i64 l] d fun _ d => pqEn N c us a0 b0 d0 x (wI (m + 1)) x.1.b l (decide (u ≥ q)) al d)
      (ctP N (pdqM k) [.int .i64 (wI (m + 1)), .int .i64 x.1.b, .int .i64 l] d fun _ d => pqEn N c us a0 b0 d0 x x.1.a m l (decide (w ≥ q)) al d)
  | _ => False
def pqEq (x : PqX N a0 b0 d0) (l p : Int) (d : AW) : Prop := ctP N parteM [.int .i64 x.1.a, .int .i64 x.1.b, .int .i64 p] d fun v d => match v with
  | .int .i64 m => pqEn N c us a0 b0 d0 x m x.1.b l x.1.wb x.1.wp d
  | _ => False
def pq3 (x : PqX N a0 b0 d0) (l p : Int) (d : AW) : Prop := cond (decide ((x.1.a : Int) > 0)) (lessP N d (wI ((x.1.a : Int) - 1)) p fun d r => cond (!r) (pqEq N c us a0 b0 d0 x l p d) (pqPart N c us k a0 b0 d0 x l p d)) (pqPart N c us k a0 b0 d0 x l p d)
def pq2 (x : PqX N a0 b0 d0) (l p h : Int) (d : AW) : Prop := cond x.1.wb (cond x.1.wp (cond (h == 1) (ctP N pisM [.int .i64 x.1.a, .int .i64 x.1.b] d fun v d => match v with
  | .bool r => cond r (K (.tup []) [wtB d us] []) (pq3 N c us k a0 b0 d0 x l p d)
  | _ => False) (pq3 N c us k a0 b0 d0 x l p d)) (pq3 N c us k a0 b0 d0 x l p d)) (pq3 N c us k a0 b0 d0 x l p d)
def pq1 (x : PqX N a0 b0 d0) (l : Int) (d : AW) : Prop := ctP N pivM [.int .i64 x.1.a, .int .i64 x.1.b] d fun v d => match v with
  | .tup [.int .i64 p, .int .i64 h] => cond (h == 2) (ctP N permsM [.int .i64 x.1.a, .int .i64 x.1.b] d fun _ d => pq2 N c us k a0 b0 d0 K x l (wI (wI ((x.1.b : Int) - 1) - wI (p - x.1.a))) 1 d) (pq2 N c us k a0 b0 d0 K x l p h d)
  | _ => False
def pqIn (x : PqX N a0 b0 d0) : Prop := cond (decide (wI ((x.1.b : Int) - x.1.a) ≤ 12)) (ctP N (sortsM fun _ _ _ => True) [.int .i64 x.1.a, .int .i64 x.1.b] x.1.d fun _ d => K (.tup []) [wtB d us] [])
  (cond (x.1.l == 0) (ctP N (sortsM fun _ _ _ => True) [.int .i64 x.1.a, .int .i64 x.1.b] x.1.d fun _ d => K (.tup []) [wtB d us] [])
    (cond (!x.1.wb) (ctP N permsM [.int .i64 x.1.a, .int .i64 x.1.b] x.1.d fun _ d => pq1 N c us k a0 b0 d0 K x (wI (x.1.l - 1)) d) (pq1 N c us k a0 b0 d0 K x x.1.l x.1.d)))
def pqXX : Prop := (true = true ∧ enD0 (fun z : PqX N a0 b0 d0 => pqV N c z.1.a z.1.b z.1.l z.1.wb z.1.wp) (fun z => [wtB z.1.d us]) (fun _ => ([] : List Empty)) (pqV N c a0 b0 l0 true true) [wtB d0 us] []) ∧ ∀ (x : PqX N a0 b0 d0) (g : Nat → Value), pqIn N c us k a0 b0 d0 K x
set_option maxHeartbeats 0
theorem pq_vc : vcF (mkW Try.prog (LPq k) (fun i _ => lp1 0 (pqLp N c us a0 b0 d0) i)) 60 27 [dtV N c, .int .i64 a0, .int .i64 b0, .int .i64 l0] [wtB d0 us] [] (gcK 1 K) = pqXX N c us k a0 b0 d0 l0 K := by kernel_rfl
end
end Go.Proofs.Ytciiaficfmbimaa
noncomputable section
namespace Go.Proofs.Ytciiaficfmbimaa
open Go Go.RowKit Go.BigFrame Sx Vx
set_option maxRecDepth 100000
section
variable {N c : Nat} {us : List Value} {k a0 b0 : Nat} {d0 : AW} {K : VK Empty}
theorem ctP_ok {N : Nat} {M : SM} {ar : List V} {d0 : AW} {X : V → AW → Prop} (hN : d0.size = N) (h : M ar d0 X) : ctP N M ar d0 X := ⟨d0, ⟨rfl, rfl, hN.symm⟩, h⟩
theorem ltW_as {x y : Sd.Wt} (h : ltW x y = true) : ltW y x = false := by
  cases e : ltW y x with
  | false => rfl
  | true => have := swoW.trans _ _ _ h e; rw [swoW.irrefl] at this; cases this
theorem below_perm {a b : Nat} {d d' : AW} (hb : b ≤ d.size) (h : Sort.Below ltW a b d) (p : Sort.PermIn a b d d') : Sort.Below ltW a b d' := by
  rcases h with h | h
  · exact .inl h
  · by_cases h0 : a = 0
    · exact .inl h0
    · refine .inr ?_
      rw [p.2.1 (a - 1) (.inl (by omega))]
      exact Sort.permIn_all d d' a b (fun x => ltW x d[a - 1]! = false) hb p h
theorem PqI.perm {z : PqS} (h : PqI N a0 b0 d0 z) (hb : b0 ≤ N) {d' : AW} (l : Int) (hl : 0 ≤ l ∧ l ≤ 100) (wb wp : Bool) (p : Sort.PermIn z.a z.b z.d d') : PqI N a0 b0 d0 ⟨z.a, z.b, l, wb, wp, d'⟩ := by
  have hs := h.sz
  have h1 := h.lo
  have h2 := h.ab
  have h3 := h.hi
  refine ⟨h.lo, h.ab, h.hi, hl, p.1.trans hs, Sort.permIn_trans _ _ _ a0 b0 h.pm (Sort.permIn_mono _ _ _ _ _ _ h.lo h.hi (by omega) p), fun i j hi hij hj ho => ?_, below_perm (by show z.b ≤ z.d.size; omega) h.bel p⟩
  show ltW d'[j]! d'[i]! = false
  have ho : i < z.a ∨ z.b ≤ j := ho
  have hall := fun P => Sort.permIn_all z.d d' z.a z.b P (by omega) p
  rcases ho with ho | ho
  · rw [p.2.1 i (.inl ho)]
    by_cases hj1 : z.a ≤ j ∧ j < z.b
    · exact hall (fun x => ltW x z.d[i]! = false) (fun q q1 q2 => h.out i q hi (by omega) (by omega) (.inl ho)) j hj1.1 hj1.2
    · rw [p.2.1 j (by omega)]
      exact h.out i j hi hij hj (.inl ho)
  · rw [p.2.1 j (.inr ho)]
    by_cases hi1 : z.a ≤ i ∧ i < z.b
    · exact hall (fun x => ltW z.d[j]! x = false) (fun q q1 q2 => h.out q j (by omega) (by omega) hj (.inr ho)) i hi1.1 hi1.2
    · rw [p.2.1 i (by omega)]
      exact h.out i j hi hij hj (.inr ho)
theorem PqI.fin {z : PqS} (h : PqI N a0 b0 d0 z) (s : Sort.SortedIn ltW z.a z.b z.d) : Sort.SortedIn ltW a0 b0 z.d := fun i j h1 h2 h3 => by
  by_cases ho : i < z.a ∨ z.b ≤ j
  · exact h.out i j h1 h2 h3 ho
  · exact s i j (by omega) h2 (by omega)
variable (x : PqX N a0 b0 d0)
theorem pqEn_ok {x : PqX N a0 b0 d0} {a b : Nat} {ai bi l : Int} {wb wp : Bool} {d : AW} (ea : ai = a) (eb : bi = b) (h : PqI N a0 b0 d0 ⟨a, b, l, wb, wp, d⟩) (hm : b - a < x.1.b - x.1.a) : pqEn N c us a0 b0 d0 x ai bi l wb wp d := by
  subst ea eb
  exact ⟨rfl, ⟨_, h⟩, hm, rfl, rfl, rfl⟩
def PqJ (x : PqX N a0 b0 d0) (l : Int) (d : AW) : Prop := PqI N a0 b0 d0 ⟨x.1.a, x.1.b, l, x.1.wb, x.1.wp, d⟩ ∧ x.1.a < x.1.b
theorem pqEq_ok {x : PqX N a0 b0 d0} (hb : b0 ≤ N) (h9 : N ≤ 100) {l : Int} {d : AW} {p : Nat} (h : PqJ x l d) (h1 : x.1.a ≤ p) (h2 : p < x.1.b) (hp : ∀ i, x.1.a ≤ i → i < x.1.b → ltW d[i]! d[p]! = false) : pqEq N c us a0 b0 d0 x l p d := by
  obtain ⟨hI, hab⟩ := h
  have hs : d.size = N := hI.sz
  have hhi : x.1.b ≤ b0 := hI.hi
  have hlo : a0 ≤ x.1.a := hI.lo
  refine ctP_ok hs ⟨x.1.a, x.1.b, p, ⟨rfl, rfl, rfl, h1, h2, by omega, by omega, hp⟩, fun m d' q1 q2 q3 q4 q5 => ?_⟩
  have hI2 := hI.perm hb l hI.l x.1.wb x.1.wp q3
  have hge : ∀ j, x.1.a ≤ j → j < x.1.b → ltW d'[j]! d[p]! = false := Sort.permIn_all d d' x.1.a x.1.b (fun y => ltW y d[p]! = false) (by omega) q3 hp
  have hin : ∀ i j, x.1.a ≤ i → i < m → i < j → j < x.1.b → ltW d'[j]! d'[i]! = false := fun i j g1 g2 g3 g4 => swoW.ntrans _ _ _ (hge j (by omega) g4) (q4 i g1 g2)
  refine pqEn_ok rfl rfl ⟨by show a0 ≤ m; omega, q2, hhi, hI.l, hI2.sz, hI2.pm, fun i j g1 g2 g3 g4 => ?_, .inr fun i g1 g2 => hin (m - 1) i (by omega) (by omega) (by have : m ≤ i := g1; omega) g2⟩ (by show x.1.b - m < x.1.b - x.1.a; omega)
  show ltW d'[j]! d'[i]! = false
  by_cases ho : i < x.1.a ∨ x.1.b ≤ j
  · exact hI2.out i j g1 g2 g3 ho
  · have g4 : i < m ∨ x.1.b ≤ j := g4
    exact hin i j (by omega) (by omega) g2 (by omega)
theorem pqPart_ok {x : PqX N a0 b0 d0} (hb : b0 ≤ N) (h9 : N ≤ 100) (hk : b0 - a0 ≤ k) {l : Int} {d : AW} {p : Nat} (h : PqJ x l d) (h1 : x.1.a ≤ p) (h2 : p < x.1.b) : pqPart N c us k a0 b0 d0 x l p d := by
  obtain ⟨hI, hab⟩ := h
  have hs : d.size = N := hI.sz
  have hhi : x.1.b ≤ b0 := hI.hi
  have hlo : a0 ≤ x.1.a := hI.lo
  refine ctP_ok hs ⟨x.1.a, x.1.b, p, ⟨rfl, rfl, rfl, h1, h2, by omega, by omega⟩, fun m al d' q1 q2 q3 q4 q5 => ?_⟩
  have hI2 := hI.perm hb l hI.l x.1.wb x.1.wp q3
  have hs2 : d'.size = N := hI2.sz
  have em : wI ((m : Int) + 1) = ((m + 1 : Nat) : Int) := (wrapI (by omega)).trans rfl
  dsimp only
  rw [em]
  have hbel := hI2.bel
  refine cnd (fun _ => ctP_ok hs2 ⟨x.1.a, m, ⟨rfl, rfl, q1, by omega, by omega, by omega, hI.l, ?_⟩, fun d2 r1 r2 => ?_⟩) fun _ => ctP_ok hs2 ⟨m + 1, x.1.b, ⟨rfl, rfl, by omega, by omega, by omega, by omega, hI.l, .inr fun i g1 g2 => q5 i (by omega) g2⟩, fun d2 r1 r2 => ?_⟩
  · rcases hbel with e | e
    · exact .inl e
    · exact .inr fun i g1 g2 => e i g1 (by show i < x.1.b; omega)
  · have hI3 := hI2.perm hb l hI.l x.1.wb x.1.wp (Sort.permIn_mono _ _ _ _ _ _ (Nat.le_refl _) (by show m ≤ x.1.b; omega) (by show x.1.b ≤ d'.size; omega) r1)
    have hlt : ∀ i, x.1.a ≤ i → i < m → ltW d'[m]! d2[i]! = false := Sort.permIn_all d' d2 x.1.a m (fun y => ltW d'[m]! y = false) (by omega) r1 fun i g1 g2 => ltW_as (q4 i g1 g2)
    have hm2 : ∀ j, m ≤ j → d2[j]! = d'[j]! := fun j g => r1.2.1 j (.inr g)
    refine pqEn_ok rfl rfl ⟨by show a0 ≤ m + 1; omega, by show m + 1 ≤ x.1.b; omega, hhi, hI.l, hI3.sz, hI3.pm, fun i j g1 g2 g3 g4 => ?_, .inr fun i g1 g2 => ?_⟩ (by show x.1.b - (m + 1) < x.1.b - x.1.a; omega)
    · show ltW d2[j]! d2[i]! = false
      by_cases ho : i < x.1.a ∨ x.1.b ≤ j
      · exact hI3.out i j g1 g2 g3 ho
      · have g4 : i < m + 1 ∨ x.1.b ≤ j := g4
        by_cases hj : j < m
        · exact r2 i j (by omega) g2 hj
        · rw [hm2 j (by omega)]
          by_cases hi : i = m
          · rw [hi, hm2 m (Nat.le_refl _)]
            exact q5 j (by omega) (by omega)
          · by_cases hj2 : j = m
            · rw [hj2]
              exact hlt i (by omega) (by omega)
            · exact swoW.ntrans _ _ _ (q5 j (by omega) (by omega)) (hlt i (by omega) (by omega))
    · show ltW d2[i]! d2[m + 1 - 1]! = false
      have g1 : m + 1 ≤ i := g1
      have g2 : i < x.1.b := g2
      rw [Nat.add_sub_cancel, hm2 i (by omega), hm2 m (Nat.le_refl _)]
      exact q5 i (by omega) g2
  · have hI3 := hI2.perm hb l hI.l x.1.wb x.1.wp (Sort.permIn_mono _ _ _ _ _ _ (by show x.1.a ≤ m + 1; omega) (Nat.le_refl _) (by show x.1.b ≤ d'.size; omega) r1)
    have hgt : ∀ j, m + 1 ≤ j → j < x.1.b → ltW d2[j]! d'[m]! = false := Sort.permIn_all d' d2 (m + 1) x.1.b (fun y => ltW y d'[m]! = false) (by omega) r1 fun i g1 g2 => q5 i (by omega) g2
    have hm2 : ∀ j, j < m + 1 → d2[j]! = d'[j]! := fun j g => r1.2.1 j (.inl g)
    refine pqEn_ok rfl rfl ⟨hlo, q1, by show m ≤ b0; omega, hI.l, hI3.sz, hI3.pm, fun i j g1 g2 g3 g4 => ?_, ?_⟩ (by show m - x.1.a < x.1.b - x.1.a; omega)
    · show ltW d2[j]! d2[i]! = false
      by_cases ho : i < x.1.a ∨ x.1.b ≤ j
      · exact hI3.out i j g1 g2 g3 ho
      · have g4 : i < x.1.a ∨ m ≤ j := g4
        by_cases hi : m + 1 ≤ i
        · exact r2 i j hi g2 (by omega)
        · rw [hm2 i (by omega)]
          by_cases hj : j = m
          · rw [hj, hm2 m (by omega)]
            exact ltW_as (q4 i (by omega) (by omega))
          · by_cases hi2 : i = m
            · rw [hi2]
              exact hgt j (by omega) (by omega)
            · exact swoW.ntrans _ _ _ (hgt j (by omega) (by omega)) (ltW_as (q4 i (by omega) (by omega)))
    · rcases hI3.bel with e | e
      · exact .inl e
      · exact .inr fun i g1 g2 => e i g1 (by have : i < m := g2; show i < x.1.b; omega)
theorem pq3_ok {x : PqX N a0 b0 d0} (hb : b0 ≤ N) (h9 : N ≤ 100) (hk : b0 - a0 ≤ k) {l : Int} {d : AW} {p : Nat} (h : PqJ x l d) (h1 : x.1.a ≤ p) (h2 : p < x.1.b) : pq3 N c us k a0 b0 d0 x l p d := by
  have hhi : x.1.b ≤ b0 := h.1.hi
  unfold pq3
  refine cnd (fun e => ?_) fun _ => pqPart_ok hb h9 hk h h1 h2
  have ha : 0 < x.1.a := by simp at e; omega
  have e1 : wI ((x.1.a : Int) - 1) = ((x.1.a - 1 : Nat) : Int) := (wrapI (by omega)).trans (by omega)
  refine lessP_ok h.1.sz e1 rfl (by omega) (by omega) (cnd (fun hl => ?_) fun _ => pqPart_ok hb h9 hk h h1 h2)
  have hl : ltW d[x.1.a - 1]! d[p]! = false := by simpa using hl
  refine pqEq_ok hb h9 h h1 h2 fun i g1 g2 => ?_
  rcases h.1.bel with e | e
  · have e : x.1.a = 0 := e
    omega
  · exact swoW.ntrans _ _ _ (e i g1 g2) hl
theorem PqJ.perm {x : PqX N a0 b0 d0} (hb : b0 ≤ N) {l : Int} {d d' : AW} (h : PqJ x l d) (p : Sort.PermIn x.1.a x.1.b d d') : PqJ x l d' := ⟨h.1.perm hb l h.1.l x.1.wb x.1.wp p, h.2⟩
theorem pq2_ok {x : PqX N a0 b0 d0} (hb : b0 ≤ N) (h9 : N ≤ 100) (hk : b0 - a0 ≤ k) (hK : ∀ d', Sort.PermIn a0 b0 d0 d' → Sort.SortedIn ltW a0 b0 d' → K (.tup []) [wtB d' us] []) {l : Int} {d : AW} {p : Nat} {h : Int} (hJ : PqJ x l d) (h1 : x.1.a ≤ p) (h2 : p < x.1.b) : pq2 N c us k a0 b0 d0 K x l p h d := by
  have hhi : x.1.b ≤ b0 := hJ.1.hi
  have hs : d.size = N := hJ.1.sz
  have h3 : pq3 N c us k a0 b0 d0 x l p d := pq3_ok hb h9 hk hJ h1 h2
  refine cnd (fun _ => cnd (fun _ => cnd (fun _ => ctP_ok hs ⟨x.1.a, x.1.b, ⟨rfl, rfl, hJ.2, by omega, by omega, hJ.1.bel⟩, fun r d' q1 q2 => ?_⟩) fun _ => h3) fun _ => h3) fun _ => h3
  have hJ2 := hJ.perm hb q1
  exact cnd (fun hr => hK d' hJ2.1.pm (hJ2.1.fin (q2 hr))) fun _ => pq3_ok hb h9 hk hJ2 h1 h2
theorem pq1_ok {x : PqX N a0 b0 d0} (hb : b0 ≤ N) (h9 : N ≤ 100) (hk : b0 - a0 ≤ k) (hK : ∀ d', Sort.PermIn a0 b0 d0 d' → Sort.SortedIn ltW a0 b0 d' → K (.tup []) [wtB d' us] []) {l : Int} {d : AW} (hJ : PqJ x l d) : pq1 N c us k a0 b0 d0 K x l d := by
  have hhi : x.1.b ≤ b0 := hJ.1.hi
  have hs : d.size = N := hJ.1.sz
  refine ctP_ok hs ⟨x.1.a, x.1.b, ⟨rfl, rfl, hJ.2, by omega, by omega⟩, fun p h h1 h2 h3 => ?_⟩
  dsimp only
  refine cnd (fun _ => ctP_ok hs ⟨x.1.a, x.1.b, ⟨rfl, rfl, hJ.2, by omega, by omega⟩, fun d' q => ?_⟩) fun _ => pq2_ok hb h9 hk hK hJ h1 h2
  have e : wI (wI ((x.1.b : Int) - 1) - wI ((p : Int) - x.1.a)) = ((x.1.b - 1 - (p - x.1.a) : Nat) : Int) := by
    unfold wI
    rw [wrapI (x := (x.1.b : Int) - 1) (by omega), wrapI (x := (p : Int) - x.1.a) (by omega), wrapI (by omega)]
    omega
  rw [e]
  exact pq2_ok hb h9 hk hK (hJ.perm hb q) (by omega) (by omega)
theorem pqIn_ok {x : PqX N a0 b0 d0} (hb : b0 ≤ N) (h9 : N ≤ 100) (hk : b0 - a0 ≤ k) (hK : ∀ d', Sort.PermIn a0 b0 d0 d' → Sort.SortedIn ltW a0 b0 d' → K (.tup []) [wtB d' us] []) : pqIn N c us k a0 b0 d0 K x := by
  have hI := x.2
  have hhi := hI.hi
  have hab := hI.ab
  have hs := hI.sz
  have hsort : ctP N (sortsM fun _ _ _ => True) [.int .i64 x.1.a, .int .i64 x.1.b] x.1.d fun _ d => K (.tup []) [wtB d us] [] :=
    ctP_ok hs ⟨x.1.a, x.1.b, ⟨rfl, rfl, hab, by omega, by omega, trivial⟩, fun d' q1 q2 => by
      have h2 := hI.perm hb x.1.l hI.l x.1.wb x.1.wp q1
      exact hK d' h2.pm (h2.fin q2)⟩
  unfold pqIn
  rw [show wI ((x.1.b : Int) - x.1.a) = (x.1.b : Int) - x.1.a from wrapI (by omega)]
  refine cnd (fun _ => hsort) fun e1 => cnd (fun _ => hsort) fun e2 => ?_
  have hlt : x.1.a < x.1.b := by simp at e1; omega
  have hl := hI.l
  have hl0 : x.1.l ≠ 0 := by simpa using e2
  refine cnd (fun _ => ctP_ok hs ⟨x.1.a, x.1.b, ⟨rfl, rfl, hlt, by omega, by omega⟩, fun d' q => ?_⟩) fun _ => pq1_ok hb h9 hk hK ⟨hI, hlt⟩
  rw [show wI (x.1.l - 1) = x.1.l - 1 from wrapI (by omega)]
  exact pq1_ok hb h9 hk hK ⟨hI.perm hb _ (by omega) _ _ q, hlt⟩
theorem pq_ok {l0 : Int} (hab : a0 ≤ b0) (hb : b0 ≤ N) (h9 : N ≤ 100) (hd : d0.size = N) (hl : 0 ≤ l0 ∧ l0 ≤ 100) (hbel : Sort.Below ltW a0 b0 d0) (hk : b0 - a0 ≤ k) (hK : ∀ d', Sort.PermIn a0 b0 d0 d' → Sort.SortedIn ltW a0 b0 d' → K (.tup []) [wtB d' us] []) : pqXX N c us k a0 b0 d0 l0 K :=
  ⟨⟨rfl, ⟨⟨a0, b0, l0, true, true, d0⟩, ⟨Nat.le_refl _, hab, Nat.le_refl _, hl, hd, Sort.permIn_refl _ _ _, fun i j h1 h2 h3 h4 => by rcases h4 with h4 | h4 <;> (have h4 := h4; simp only at h4; omega), hbel⟩⟩, rfl, rfl, rfl⟩, fun x g => pqIn_ok hb h9 hk hK⟩
end
theorem LPq_ok {k : Nat} (hB : SBody true 32 permsM) (hP : SBody true 27 (pdqM k)) : AllOk Try.prog gN0 (LPq k) :=
  have n : ∀ {c : CTr Empty}, (false = true → QuietC c) := fun e => by cases e
  AllOk.cons ⟨s_frame ins_body, n⟩ (AllOk.cons ⟨s_frame heap_body, n⟩ (AllOk.cons ⟨s_frame hB, n⟩ (AllOk.cons ⟨s_frame piv_body, n⟩ (AllOk.cons ⟨s_frame rev_body, n⟩ (AllOk.cons ⟨s_frame pis_body, n⟩ (AllOk.cons ⟨s_frame parte_body, n⟩ (AllOk.cons ⟨s_frame part_body, n⟩ (AllOk.cons ⟨s_frame hP, n⟩ LLn_ok))))))))
theorem pdq_body (hB : SBody true 32 permsM) : ∀ k, SBody true 27 (pdqM k)
  | 0 => by
    intro ar d us c bk Kb R ms w0 wd hM S
    unfold pdqM at hM
    split at hM
    · obtain ⟨a, b, ⟨_, _, _, _, _, h, _⟩, _⟩ := hM
      omega
    · exact hM.elim
  | k + 1 => by
    have hok := LPq_ok hB (pdq_body hB k)
    intro ar d us c bk Kb R ms w0 wd hM S
    unfold pdqM at hM
    split at hM
    · rename_i x y l
      obtain ⟨a, b, ⟨rfl, rfl, h1, h2, h3, h4, h5, h6⟩, hK⟩ := hM
      refine s_run (C := mkW Try.prog (LPq k) (fun i _ => lp1 0 (pqLp d.size c us a b d) i)) hok.T hok.Q rfl S ?_
      show vcF _ 60 _ [dtV d.size c, _, _, _] _ _ _
      rw [pq_vc]
      exact pq_ok h1 h2 h3 rfl h5 h6 (by omega) fun d' q1 q2 => ⟨_, rfl, rfl, hK _ q1 q2⟩
    · exact hM.elim
end Go.Proofs.Ytciiaficfmbimaa
noncomputable section
namespace Go.Proofs.Ytciiaficfmbimaa
open Go Go.RowKit Go.BigFrame Sx Vx
set_option maxRecDepth 100000
def rndB (r : Int) : VB := ⟨true, ⟨85, (0, 0)⟩, [.int .u64 r]⟩
def nxE (r : Int) : Int :=
  let r1 := bits .xor .u64 r (IntKind.u64.wrap (r * 2 ^ 13))
  let r2 := bits .xor .u64 r1 (r1.fdiv (2 ^ 7))
  bits .xor .u64 r2 (IntKind.u64.wrap (r2 * 2 ^ 17))
theorem nx_vc (d : AW) (us : List Value) (r : Int) (K : VK Empty) : vcF (mkW Try.prog (LLn Empty) (fun _ _ => none)) 60 40 [.ptr 1 0] [wtB d us, rndB r] [] (gcK 2 K) = K (.int .u64 (nxE r)) [wtB d us, rndB (nxE r)] [] := by kernel_rfl
def nxC : CTr Empty := fun args bl ch K => match args, bl with
  | [.ptr 1 0], [⟨true, ⟨51, (0, 0)⟩, [.rowp 5 m g, .rest us]⟩, ⟨true, ⟨85, (0, 0)⟩, [.int .u64 r]⟩] => ∃ d : AW, (g = wtG d ∧ m = d.size) ∧ ∀ r' : Int, K (.int .u64 r') [wtB d us, rndB r'] ch
  | _, _ => False
theorem nx_sound : Sound Try.prog gN0 40 nxC := by
  intro args ids bl ch R ms w0 w K hg hl S hc
  unfold nxC at hc
  split at hc
  · rename_i m g us r
    obtain ⟨d, ⟨rfl, rfl⟩, hK⟩ := hc
    have hok := LLn_ok (G := Empty) (gl := gN0)
    cases ch with
    | cons e _ => exact nomatch e
    | nil =>
    refine (vcF_ok (C := mkW Try.prog (LLn Empty) (fun _ _ => none)) hok.T hok.Q 60 hg hl S (K := gcK 2 K) ?_).mono ?_
    · show vcF _ 60 _ [.ptr 1 0] [wtB d us, rndB r] _ _
      rw [nx_vc]
      exact hK _
    · rintro v w' ⟨x', more, bl', ch', rfl, h1, S', hK0⟩
      obtain ⟨v2, more2, bl2, hv, hl2, S2, hK2⟩ := gcK_ok (n0 := 2) h1 (by simp at hl; simp [hl]) S' hK0
      have htk : (ids ++ more).take 2 = ids := by rw [show 2 = ids.length from hl.symm]; exact List.take_left
      rw [htk] at hv hl2 S2
      exact ⟨v2, more2, bl2, ch', hv, hl2, S2, hK2⟩
  · exact hc.elim
def allN (P : Nat → Prop) : Nat → Prop
  | 0 => True
  | n + 1 => allN P n ∧ P n
theorem allN_at {P : Nat → Prop} : ∀ {n : Nat}, allN P n → ∀ k, k < n → P k
  | n + 1, h, k, hk => by
    by_cases e : k = n
    · subst e; exact h.2
    · exact allN_at h.1 k (by omega)
def bl7 (n : Nat) : Nat := bif Nat.ble 64 n then 7 else bif Nat.ble 32 n then 6 else bif Nat.ble 16 n then 5 else bif Nat.ble 8 n then 4 else bif Nat.ble 4 n then 3 else bif Nat.ble 2 n then 2 else bif Nat.ble 1 n then 1 else 0
def npP (n : Nat) : Prop := ∀ K : VK Empty, vcF (mkW Try.prog (LLn Empty) (fun _ _ => none)) 60 39 [.int .i64 (n : Int)] [] [] (gcK 0 K) = K (.int .u64 ((2 ^ bl7 n : Nat) : Int)) [] []
theorem np13 : npP 13 := fun K => by kernel_rfl
set_option maxHeartbeats 0 in
theorem np_all : allN npP 101 := by
  repeat (first | exact trivial | refine ⟨?_, fun K => by kernel_rfl⟩)
def npC : CTr Empty := fun args bl ch K => match args with
  | [.int .i64 n] => ∃ k : Nat, (n = k ∧ k ≤ 100) ∧ K (.int .u64 ((2 ^ bl7 k : Nat) : Int)) bl ch
  | _ => False
theorem np_sound : Sound Try.prog gN0 39 npC := by
  intro args ids bl ch R ms w0 w K hg hl S hc
  unfold npC at hc
  split at hc
  · obtain ⟨k, ⟨rfl, hk⟩, hK⟩ := hc
    have hok := LLn_ok (G := Empty) (gl := gN0)
    have S0 : St ms w0 (lits [] [] [] ++ nestB ([] : List Empty) (lits ids ids bl ++ nestB ch R)) w := S
    have hargs : denM ids [.int .i64 (k : Int)] = denM [] [.int .i64 (k : Int)] := by simp only [denM, den]
    rw [hargs]
    refine (vcF_ok (C := mkW Try.prog (LLn Empty) (fun _ _ => none)) hok.T hok.Q 60 (fun g i h => nomatch h) rfl S0 (K := gcK 0 fun v b _ => v = .int .u64 ((2 ^ bl7 k : Nat) : Int) ∧ b = []) ?_).mono ?_
    · rw [allN_at np_all k (by omega)]
      exact ⟨rfl, rfl⟩
    · rintro v w' ⟨x', more, bl', ch', rfl, h1, S', hK0⟩
      obtain ⟨v2, more2, bl2, hv, hl2, S2, rfl, rfl⟩ := gcK_ok (n0 := 0) h1 (by simp) S' hK0
      obtain rfl : more2 = [] := List.eq_nil_of_length_eq_zero (by simpa using hl2)
      cases ch' with
      | cons e _ => exact nomatch e
      | nil => exact ⟨_, [], bl, ch, by rw [hv]; simp only [den], by simpa using hl, by rw [List.append_nil]; exact S2, hK⟩
  · exact hc.elim
def LBp : List (Ent Empty) := ⟨40, false, nxC⟩ :: ⟨39, false, npC⟩ :: LLn Empty
theorem LBp_ok : AllOk Try.prog gN0 LBp :=
  have n : ∀ {c : CTr Empty}, (false = true → QuietC c) := fun e => by cases e
  AllOk.cons ⟨nx_sound, n⟩ (AllOk.cons ⟨np_sound, n⟩ LLn_ok)
structure BpS where
  i : Nat
  r : Int
  d : AW
section
variable (N c : Nat) (us : List Value) (a b : Nat) (d0 : AW)
structure BpI (M : Int) (z : BpS) : Prop where
  i : a ≤ z.i
  d : z.d.size = N
  p : Sort.PermIn a b d0 z.d
  m : ∃ e : Nat, M = (2 : Int) ^ e ∧ e < 63 ∧ (b : Int) - a < M ∧ M ≤ 2 * ((b : Int) - a)
abbrev BpX (M : Int) := { z : BpS // BpI N a b d0 M z }
def bpL : Int := wI ((b : Int) - a)
def bpT : Int := wI ((a : Int) + wI (wI ((bpL a b).tdiv 4) * 2))
def bpV (M i : Int) : List V := [dtV N c, .int .i64 a, .int .i64 (bpL a b), .ptr 1 0, .int .u64 M, .int .i64 i]
def bpLp (M : Int) : Lp Empty := mkLp (X := BpX N a b d0 M) (fun z => b - z.1.i) 53 2 [0, 1, 6, 7, 8, 9] (fun z => bpV N c a b M z.1.i) (fun z => [wtB z.1.d us, rndB z.1.r]) (fun _ => []) (fun _ => rfl) (fun _ => by kernel_rfl) (fun _ => rfl)
def bpLps : Nat → List V → Option (Lp Empty) := fun i w => bif Nat.beq i 0 then (match nth w 8 with | .int .u64 M => some (bpLp N c us a b d0 M) | _ => none) else none
variable (K : VK Empty)
def bpSw (M : Int) (z : BpX N a b d0 M) (r : Int) (d : AW) (o : Int) : Prop := swapP N d z.1.i (wI ((a : Int) + o)) fun d => true = true ∧ enD (fun z : BpX N a b d0 M => b - z.1.i) (fun z => bpV N c a b M z.1.i) (fun z => [wtB z.1.d us, rndB z.1.r]) (fun _ => ([] : List Empty)) z (bpV N c a b M (wI ((z.1.i : Int) + 1))) [wtB d us, rndB r] []
def bpLoop (M : Int) : Prop := (true = true ∧ enD0 (fun z : BpX N a b d0 M => bpV N c a b M z.1.i) (fun z => [wtB z.1.d us, rndB z.1.r]) (fun _ => ([] : List Empty)) (bpV N c a b M (wI (bpT a b - 1))) [wtB d0 us, rndB (IntKind.u64.wrap (bpL a b))] []) ∧
  ∀ (z : BpX N a b d0 M) (g : Nat → Value), cond (decide ((z.1.i : Int) ≤ wI (bpT a b + 1))) (∃ d : AW, (wtG z.1.d = wtG d ∧ z.1.d.size = d.size) ∧ ∀ r : Int,
    let o := IntKind.i64.wrap (bits .and .u64 r (IntKind.u64.wrap (M - 1)))
    cond (decide (o ≥ bpL a b)) (bpSw N c us a b d0 M z r d (wI (o - bpL a b))) (bpSw N c us a b d0 M z r d o)) (K (.tup []) [wtB z.1.d us] [])
def bpXX : Prop := cond (decide (bpL a b ≥ 8)) (∃ k : Nat, (bpL a b = k ∧ k ≤ 100) ∧ bpLoop N c us a b d0 K ((2 ^ bl7 k : Nat) : Int)) (K (.tup []) [wtB d0 us] [])
set_option maxHeartbeats 0
theorem bp_vc : vcF (mkW Try.prog LBp (bpLps N c us a b d0)) 60 32 [dtV N c, .int .i64 a, .int .i64 b] [wtB d0 us] [] (gcK 1 K) = bpXX N c us a b d0 K := by kernel_rfl
variable {N c us a b d0 K}
theorem bl7_ok : ∀ k, k < 101 → 8 ≤ k → k < 2 ^ bl7 k ∧ 2 ^ bl7 k ≤ 2 * k ∧ bl7 k < 63 := by decide
theorem bpSw_ok (hbN : b ≤ N) (h9 : N ≤ 100) {M : Int} {z : BpX N a b d0 M} {r : Int} {o : Nat} (hi : z.1.i < b) (ho : a + o < b) : bpSw N c us a b d0 M z r z.1.d o := by
  have hP := z.2
  have h1 := hP.i
  refine swapP_ok hP.d rfl (j := a + o) ((wrapI (by omega)).trans (by omega)) (by omega) (by omega) ⟨rfl, ⟨⟨z.1.i + 1, r, Sort.swp z.1.d z.1.i (a + o)⟩, ⟨by show a ≤ z.1.i + 1; omega, by rw [swp_size]; exact hP.d, Sort.permIn_trans _ _ _ a b hP.p (Sort.swp_permIn _ a b _ _ h1 hi (by omega) ho (by have := hP.d; omega)), hP.m⟩⟩, by show b - (z.1.i + 1) < b - z.1.i; omega, ?_, rfl, rfl⟩
  rw [show wI ((z.1.i : Int) + 1) = ((z.1.i + 1 : Nat) : Int) from (wrapI (by omega)).trans rfl]
theorem bp_ok (hab : a < b) (hbN : b ≤ N) (h9 : N ≤ 100) (hd : d0.size = N) (hK : ∀ d', Sort.PermIn a b d0 d' → K (.tup []) [wtB d' us] []) : bpXX N c us a b d0 K := by
  have eL : bpL a b = ((b - a : Nat) : Int) := (wrapI (by omega)).trans (by omega)
  unfold bpXX
  refine cnd (fun h => ?_) fun _ => hK _ (Sort.permIn_refl _ _ _)
  rw [eL] at h
  have h8 : 8 ≤ b - a := by simp at h; omega
  obtain ⟨k1, k2, k3⟩ := bl7_ok (b - a) (by omega) h8
  have eT : bpT a b = ((a + (b - a) / 4 * 2 : Nat) : Int) := by
    unfold bpT
    rw [eL, Int.tdiv_eq_ediv_of_nonneg (by omega)]
    unfold wI
    rw [wrapI (x := ((b - a : Nat) : Int) / 4) (by omega), wrapI (x := ((b - a : Nat) : Int) / 4 * 2) (by omega), wrapI (by omega)]
    omega
  refine ⟨b - a, ⟨eL, by omega⟩, ⟨rfl, ⟨⟨a + (b - a) / 4 * 2 - 1, _, d0⟩, ⟨by show a ≤ a + (b - a) / 4 * 2 - 1; omega, hd, Sort.permIn_refl _ _ _, bl7 (b - a), by rw [Int.natCast_pow]; rfl, k3, by omega, by omega⟩⟩, ?_, rfl, rfl⟩, fun z g => cnd (fun h => ?_) fun _ => hK _ z.2.p⟩
  · rw [eT, show wI (((a + (b - a) / 4 * 2 : Nat) : Int) - 1) = ((a + (b - a) / 4 * 2 - 1 : Nat) : Int) from (wrapI (by omega)).trans (by omega)]
  · rw [eT, show wI (((a + (b - a) / 4 * 2 : Nat) : Int) + 1) = ((a + (b - a) / 4 * 2 + 1 : Nat) : Int) from (wrapI (by omega)).trans rfl] at h
    have hi : z.1.i < b := by simp at h; omega
    refine ⟨z.1.d, ⟨rfl, rfl⟩, fun r => ?_⟩
    have hM : ((2 ^ bl7 (b - a) : Nat) : Int) = (2 : Int) ^ bl7 (b - a) := by rw [Int.natCast_pow]; rfl
    have hM1 : (9 : Int) ≤ ((2 ^ bl7 (b - a) : Nat) : Int) ∧ ((2 ^ bl7 (b - a) : Nat) : Int) ≤ 200 := by omega
    have hw : IntKind.u64.wrap (((2 ^ bl7 (b - a) : Nat) : Int) - 1) = ((2 ^ bl7 (b - a) : Nat) : Int) - 1 := by
      simp only [IntKind.wrap, IntKind.bits, IntKind.signed]
      simp
      omega
    have ha := Sx.and_mask .u64 r (((2 ^ bl7 (b - a) : Nat) : Int) - 1) _ (bl7 (b - a)) (by rw [hM]) hM (by show bl7 (b - a) < 64; omega)
    have hr : 0 ≤ r % ((2 ^ bl7 (b - a) : Nat) : Int) ∧ r % ((2 ^ bl7 (b - a) : Nat) : Int) < ((2 ^ bl7 (b - a) : Nat) : Int) := ⟨Int.emod_nonneg _ (by omega), Int.emod_lt_of_pos _ (by omega)⟩
    dsimp only
    rw [hw, ha, eL, wrapI (by omega)]
    obtain ⟨q, hq⟩ := Int.eq_ofNat_of_zero_le hr.1
    rw [hq] at hr ⊢
    refine cnd (fun h2 => ?_) fun h2 => ?_
    · have h2 : b - a ≤ q := by simp at h2; omega
      rw [show wI ((q : Int) - ((b - a : Nat) : Int)) = ((q - (b - a) : Nat) : Int) from (wrapI (by omega)).trans (by omega)]
      exact bpSw_ok hbN h9 hi (by omega)
    · have h2 : q < b - a := by simp at h2; omega
      exact bpSw_ok hbN h9 hi (by omega)
end
theorem brk_body : SBody true 32 permsM := by
  intro ar d us c bk Kb R ms w0 wd hM S
  unfold permsM at hM
  split at hM
  · rename_i x y
    obtain ⟨a, b, ⟨rfl, rfl, h1, h2, h3⟩, hK⟩ := hM
    refine s_run (C := mkW Try.prog LBp (bpLps d.size c us a b d)) LBp_ok.T LBp_ok.Q rfl S ?_
    show vcF _ 60 _ [dtV d.size c, _, _] _ _ _
    rw [bp_vc]
    exact bp_ok h1 h2 h3 rfl fun d' q => ⟨d', rfl, rfl, hK d' q⟩
  · exact hM.elim
end Go.Proofs.Ytciiaficfmbimaa
noncomputable section
namespace Go.Proofs.Ytciiaficfmbimaa
open Go Go.RowKit Go.BigFrame Sx Vx
set_option maxRecDepth 100000
def blP (n : Nat) : Prop := ∀ K : VK Empty, vcF (mkW Try.prog (LLn Empty) (fun _ _ => none)) 60 26 [.int .u64 (n : Int)] [] [] (gcK 0 K) = K (.int .i64 (bl7 n : Int)) [] []
set_option maxHeartbeats 0 in
theorem bl_all : allN blP 101 := by
  repeat (first | exact trivial | refine ⟨?_, fun K => by kernel_rfl⟩)
def blC : CTr Empty := fun args bl ch K => match args with
  | [.int .u64 n] => ∃ k : Nat, (n = k ∧ k ≤ 100) ∧ K (.int .i64 (bl7 k : Int)) bl ch
  | _ => False
theorem bl_sound : Sound Try.prog gN0 26 blC := by
  intro args ids bl ch R ms w0 w K hg hl S hc
  unfold blC at hc
  split at hc
  · obtain ⟨k, ⟨rfl, hk⟩, hK⟩ := hc
    have hok := LLn_ok (G := Empty) (gl := gN0)
    have S0 : St ms w0 (lits [] [] [] ++ nestB ([] : List Empty) (lits ids ids bl ++ nestB ch R)) w := S
    have hargs : denM ids [.int .u64 (k : Int)] = denM [] [.int .u64 (k : Int)] := by simp only [denM, den]
    rw [hargs]
    refine (vcF_ok (C := mkW Try.prog (LLn Empty) (fun _ _ => none)) hok.T hok.Q 60 (fun g i h => nomatch h) rfl S0 (K := gcK 0 fun v b _ => v = .int .i64 (bl7 k : Int) ∧ b = []) ?_).mono ?_
    · rw [allN_at bl_all k (by omega)]
      exact ⟨rfl, rfl⟩
    · rintro v w' ⟨x', more, bl', ch', rfl, h1, S', hK0⟩
      obtain ⟨v2, more2, bl2, hv, hl2, S2, rfl, rfl⟩ := gcK_ok (n0 := 0) h1 (by simp) S' hK0
      obtain rfl : more2 = [] := List.eq_nil_of_length_eq_zero (by simpa using hl2)
      cases ch' with
      | cons e _ => exact nomatch e
      | nil => exact ⟨_, [], bl, ch, by rw [hv]; simp only [den], by simpa using hl, by rw [List.append_nil]; exact S2, hK⟩
  · exact hc.elim
def LSo : List (Ent Empty) := ⟨26, false, blC⟩ :: ⟨27, false, sC true (pdqM 101)⟩ :: LLn Empty
theorem LSo_ok : AllOk Try.prog gN0 LSo :=
  have n : ∀ {c : CTr Empty}, (false = true → QuietC c) := fun e => by cases e
  AllOk.cons ⟨bl_sound, n⟩ (AllOk.cons ⟨s_frame (pdq_body brk_body 101), n⟩ LLn_ok)
section
variable (N c : Nat) (us : List Value) (d0 : AW) (K : VK Empty)
def soXX : Prop := ctP N lenM [] d0 fun v d => match v with
  | .int .i64 n => cond (decide (n ≤ 1)) (K (.tup []) [wtB d us] []) (∃ k : Nat, (IntKind.u64.wrap n = k ∧ k ≤ 100) ∧ ctP N (pdqM 101) [.int .i64 0, .int .i64 n, .int .i64 (bl7 k : Int)] d fun _ d => K (.tup []) [wtB d us] [])
  | _ => False
theorem so_vc : vcF (mkW Try.prog LSo (fun _ _ => none)) 60 24 [dtV N c] [wtB d0 us] [] (gcK 1 K) = soXX N us d0 K := by kernel_rfl
end
def sortM : SM := fun ar d Kb => match ar with
  | [] => d.size ≤ 100 ∧ ∀ d', Sort.PermIn 0 d.size d d' → Sort.SortedIn ltW 0 d.size d' → Kb (.tup []) d'
  | _ => False
theorem sort_body : SBody true 24 sortM := by
  intro ar d us c bk Kb R ms w0 wd hM S
  unfold sortM at hM
  split at hM
  · obtain ⟨h1, hK⟩ := hM
    refine s_run (C := mkW Try.prog LSo (fun _ _ => none)) LSo_ok.T LSo_ok.Q rfl S ?_
    show vcF _ 60 _ [dtV d.size c] _ _ _
    rw [so_vc]
    refine ctP_ok rfl ?_
    show cond _ _ _
    refine cnd (fun h => ⟨d, rfl, rfl, hK d (Sort.permIn_refl _ _ _) fun i j _ h2 h3 => ?_⟩) fun h => ⟨d.size, ⟨?_, h1⟩, ctP_ok rfl ⟨0, d.size, ⟨rfl, rfl, Nat.zero_le _, Nat.le_refl _, h1, by omega, ?_, .inl rfl⟩, fun d' q1 q2 => ⟨d', rfl, rfl, hK d' q1 q2⟩⟩⟩
    · simp at h
      omega
    · simp only [IntKind.wrap, IntKind.bits, IntKind.signed]
      simp
      omega
    · have : bl7 d.size ≤ 7 := by
        unfold bl7
        repeat (first | omega | (cases Nat.ble _ d.size <;> simp only [cond_true, cond_false]))
      omega
  · exact hM.elim
end Go.Proofs.Ytciiaficfmbimaa
noncomputable section
namespace Hp
open Go.Sort
def gtF {α : Type} (lt : α → α → Bool) : α → α → Bool := fun x y => lt y x
theorem gtF_swo {α : Type} {lt : α → α → Bool} (h : SWO lt) : SWO (gtF lt) := ⟨h.irrefl, fun x y z a b => h.trans z y x b a, fun x y z a b => h.ntrans z y x b a⟩
variable {α : Type} [Inhabited α] {lt : α → α → Bool}
def hup (lt : α → α → Bool) (j : Nat) (d : Array α) : Array α := match j with
  | 0 => d
  | j + 1 => if lt d[j + 1]! d[j / 2]! then hup lt (j / 2) (swp d (j / 2) (j + 1)) else d
  termination_by j
def hdn (lt : α → α → Bool) (n i : Nat) (d : Array α) : Array α × Nat :=
  if _h : 2 * i + 1 ≥ n then (d, i) else
    if 2 * i + 2 < n && lt d[2 * i + 2]! d[2 * i + 1]! then
      if lt d[2 * i + 2]! d[i]! then (if _h2 : 2 * i + 2 < n then hdn lt n (2 * i + 2) (swp d i (2 * i + 2)) else (d, i)) else (d, i)
    else
      if lt d[2 * i + 1]! d[i]! then hdn lt n (2 * i + 1) (swp d i (2 * i + 1)) else (d, i)
  termination_by n - i
theorem hdn_sift (n : Nat) : ∀ (k i : Nat) (d : Array α), n - i ≤ k → (hdn lt n i d).1 = siftDown (gtF lt) n 0 i d := by
  intro k
  induction k with
  | zero => intro i d h; rw [hdn, dif_pos (by omega), siftDown, dif_pos (by omega)]
  | succ k ih =>
    intro i d h
    rw [hdn, siftDown]
    by_cases h0 : 2 * i + 1 ≥ n
    · rw [dif_pos h0, dif_pos h0]
    · rw [dif_neg h0, dif_neg h0]
      simp only [Nat.zero_add, gtF]
      by_cases h1 : (decide (2 * i + 2 < n) && lt d[2 * i + 2]! d[2 * i + 1]!) = true
      · rw [if_pos h1, if_pos h1]
        have h2 : 2 * i + 2 < n := by simp only [Bool.and_eq_true, decide_eq_true_eq] at h1; exact h1.1
        rw [dif_pos h2]
        cases lt d[2 * i + 2]! d[i]! with
        | true => simp only [if_true, Bool.not_true, Bool.false_eq_true, if_false]; rw [dif_pos h2]; exact ih _ _ (by omega)
        | false => simp
      · rw [if_neg h1, if_neg h1]
        cases lt d[2 * i + 1]! d[i]! with
        | true => simp only [if_true, Bool.not_true, Bool.false_eq_true, if_false]; exact ih _ _ (by omega)
        | false => simp
theorem hdn_le (n : Nat) : ∀ (k i : Nat) (d : Array α), n - i ≤ k → i ≤ (hdn lt n i d).2 := by
  intro k
  induction k with
  | zero => intro i d h; rw [hdn, dif_pos (by omega)]; exact Nat.le_refl _
  | succ k ih =>
    intro i d h
    rw [hdn]
    split
    · exact Nat.le_refl _
    · split
      · split
        · split
          · exact Nat.le_trans (by omega) (ih (2 * i + 2) _ (by omega))
          · exact Nat.le_refl _
        · exact Nat.le_refl _
      · split
        · exact Nat.le_trans (by omega) (ih (2 * i + 1) _ (by omega))
        · exact Nat.le_refl _
theorem hdn_stay (h : SWO lt) (n i : Nat) (d : Array α) : ((hdn lt n i d).2 = i ∧ (hdn lt n i d).1 = d ∧ Ok (gtF lt) 0 n d i) ∨ (i < (hdn lt n i d).2 ∧ ∃ c, (c = 2 * i + 1 ∨ c = 2 * i + 2) ∧ c < n ∧ lt d[c]! d[i]! = true) := by
  rw [hdn]
  by_cases h0 : 2 * i + 1 ≥ n
  · rw [dif_pos h0]
    exact .inl ⟨rfl, rfl, fun k hk hn => by omega⟩
  · rw [dif_neg h0]
    by_cases h1 : (decide (2 * i + 2 < n) && lt d[2 * i + 2]! d[2 * i + 1]!) = true
    · rw [if_pos h1]
      simp only [Bool.and_eq_true, decide_eq_true_eq] at h1
      cases h2 : lt d[2 * i + 2]! d[i]! with
      | true =>
        rw [if_pos rfl, dif_pos h1.1]
        exact .inr ⟨Nat.lt_of_lt_of_le (by omega) (hdn_le n _ (2 * i + 2) _ (Nat.le_refl _)), _, .inr rfl, h1.1, h2⟩
      | false =>
        rw [if_neg (by simp)]
        refine .inl ⟨rfl, rfl, fun k hk hn => ?_⟩
        simp only [gtF, Nat.zero_add]
        rcases hk with rfl | rfl
        · cases h3 : lt d[2 * i + 1]! d[i]! with
          | false => rfl
          | true => have := h.trans _ _ _ h1.2 h3; rw [h2] at this; cases this
        · exact h2
    · rw [if_neg h1]
      cases h2 : lt d[2 * i + 1]! d[i]! with
      | true =>
        rw [if_pos rfl]
        exact .inr ⟨Nat.lt_of_lt_of_le (by omega) (hdn_le n _ (2 * i + 1) _ (Nat.le_refl _)), _, .inl rfl, by omega, h2⟩
      | false =>
        rw [if_neg (by simp)]
        refine .inl ⟨rfl, rfl, fun k hk hn => ?_⟩
        simp only [gtF, Nat.zero_add]
        rcases hk with rfl | rfl
        · exact h2
        · have h3 : lt d[2 * i + 2]! d[2 * i + 1]! = false := by
            cases h3 : lt d[2 * i + 2]! d[2 * i + 1]! with
            | false => rfl
            | true => exact absurd (by simp [hn, h3]) h1
          exact h.ntrans _ _ _ h3 h2
def Heap (lt : α → α → Bool) (n : Nat) (d : Array α) : Prop := ∀ i, i < n → Ok (gtF lt) 0 n d i
theorem up_ok (h : SWO lt) (n : Nat) : ∀ (j : Nat) (d : Array α), j < n → n ≤ d.size →
    (∀ p k, (k = 2 * p + 1 ∨ k = 2 * p + 2) → k < n → k ≠ j → lt d[k]! d[p]! = false) → (∀ p, (j = 2 * p + 1 ∨ j = 2 * p + 2) → ∀ c, (c = 2 * j + 1 ∨ c = 2 * j + 2) → c < n → lt d[c]! d[p]! = false) →
    Heap lt n (hup lt j d) ∧ PermIn 0 n d (hup lt j d) := by
  intro j
  induction j using Nat.strongRecOn with
  | ind j ih =>
    intro d hj hn P O
    cases j with
    | zero =>
      rw [hup]
      exact ⟨fun i hi k hk hkn => by simp only [gtF, Nat.zero_add]; exact P i k hk hkn (by omega), permIn_refl d _ _⟩
    | succ j =>
      rw [hup]
      have hp : j + 1 = 2 * (j / 2) + 1 ∨ j + 1 = 2 * (j / 2) + 2 := by omega
      have hpn : j / 2 < n := by omega
      cases hl : lt d[j + 1]! d[j / 2]! with
      | false =>
        rw [if_neg (by simp)]
        refine ⟨fun i hi k hk hkn => ?_, permIn_refl d _ _⟩
        simp only [gtF, Nat.zero_add]
        by_cases hkj : k = j + 1
        · subst hkj
          obtain rfl : i = j / 2 := by omega
          exact hl
        · exact P i k hk hkn hkj
      | true =>
        rw [if_pos rfl]
        have gP : (swp d (j / 2) (j + 1))[j / 2]! = d[j + 1]! := swp_left d _ _ (by omega) (by omega)
        have gJ : (swp d (j / 2) (j + 1))[j + 1]! = d[j / 2]! := swp_right d _ _ (by omega)
        have gO : ∀ k, k ≠ j / 2 → k ≠ j + 1 → (swp d (j / 2) (j + 1))[k]! = d[k]! := fun k h1 h2 => swp_other d _ _ _ h1 h2
        suffices hh : (∀ p k, (k = 2 * p + 1 ∨ k = 2 * p + 2) → k < n → k ≠ j / 2 → lt (swp d (j / 2) (j + 1))[k]! (swp d (j / 2) (j + 1))[p]! = false) ∧ (∀ p, (j / 2 = 2 * p + 1 ∨ j / 2 = 2 * p + 2) → ∀ c, (c = 2 * (j / 2) + 1 ∨ c = 2 * (j / 2) + 2) → c < n → lt (swp d (j / 2) (j + 1))[c]! (swp d (j / 2) (j + 1))[p]! = false) by
          obtain ⟨R1, R2⟩ := ih (j / 2) (by omega) (swp d (j / 2) (j + 1)) hpn (by rw [size_swp]; exact hn) hh.1 hh.2
          exact ⟨R1, permIn_trans _ _ _ _ _ (swp_permIn d 0 n (j / 2) (j + 1) (Nat.zero_le _) hpn (Nat.zero_le _) hj hn) R2⟩
        refine ⟨fun q k hk hkn hkp => ?_, fun gp hgp c hc hcn => ?_⟩
        · by_cases hkj : k = j + 1
          · subst hkj
            obtain rfl : q = j / 2 := by omega
            rw [gJ, gP]
            exact h.asym hl
          · rw [gO k hkp hkj]
            by_cases hqp : q = j / 2
            · subst hqp
              rw [gP]
              have h1 := P (j / 2) k hk hkn hkj
              cases h3 : lt d[k]! d[j + 1]! with
              | false => rfl
              | true => have := h.trans _ _ _ h3 hl; rw [h1] at this; cases this
            · by_cases hqj : q = j + 1
              · subst hqj
                rw [gJ]
                exact O (j / 2) hp k hk hkn
              · rw [gO q hqp hqj]
                exact P q k hk hkn hkj
        · have h1 : lt d[j / 2]! d[gp]! = false := P gp (j / 2) hgp hpn (by omega)
          rw [gO gp (by omega) (by omega)]
          by_cases hcj : c = j + 1
          · subst hcj
            rw [gJ]
            exact h1
          · rw [gO c (by omega) hcj]
            exact h.ntrans _ _ _ (P (j / 2) c hc hcn hcj) h1
theorem dn_ok (h : SWO lt) {n i : Nat} {d : Array α} (hn : n ≤ d.size) (P : ∀ q, q < n → q ≠ i → Ok (gtF lt) 0 n d q) (O : Over (gtF lt) 0 n 0 d i) : Heap lt n (hdn lt n i d).1 ∧ PermIn 0 n d (hdn lt n i d).1 := by
  rw [hdn_sift n _ i d (Nat.le_refl _)]
  obtain ⟨h1, h2⟩ := sift (gtF_swo h) n 0 0 (n - i) i d (Nat.le_refl _) (by omega) (Nat.zero_le _) (fun q _ hq hqi => P q hq hqi) O
  exact ⟨fun q hq => h1 q (Nat.zero_le _) hq, by simpa using h2⟩
theorem heap_min (h : SWO lt) {n : Nat} {d : Array α} (hH : Heap lt n d) {i : Nat} (hi : i < n) : lt d[i]! d[0]! = false := by
  have := root_max (F := 0) (gtF_swo h) (fun i hi => hH i hi) i i (Nat.le_refl _) hi
  simpa [gtF] using this
def rmv (lt : α → α → Bool) (n i : Nat) (d : Array α) : Array α :=
  if n = i then d else
    if i < (hdn lt n i (swp d i n)).2 then (hdn lt n i (swp d i n)).1 else hup lt i (hdn lt n i (swp d i n)).1
theorem rmv_ok (h : SWO lt) {n i : Nat} {d : Array α} (hn : n + 1 = d.size) (hi : i ≤ n) (hH : Heap lt (n + 1) d) : Heap lt n (rmv lt n i d) ∧ PermIn 0 n (swp d i n) (rmv lt n i d) := by
  unfold rmv
  by_cases he : n = i
  · subst he
    rw [if_pos rfl]
    refine ⟨fun q hq k hk hkn => hH q (by omega) k hk (by omega), ?_⟩
    have : swp d n n = d := by
      apply Array.ext (by rw [size_swp])
      intro k h1 h2
      have e := swp_other d n n k
      by_cases hk : k = n
      · subst hk
        have := swp_right d k k (by omega)
        simpa [h1, h2] using this
      · have := e hk hk
        simpa [h1, h2, getElem!_pos] using this
    rw [this]
    exact permIn_refl d _ _
  · rw [if_neg he]
    have hin : i < n := by omega
    have hs : n ≤ (swp d i n).size := by rw [size_swp]; omega
    have gO : ∀ k, k ≠ i → k ≠ n → (swp d i n)[k]! = d[k]! := fun k h1 h2 => swp_other d _ _ _ h1 h2
    have P0 : ∀ q k, (k = 2 * q + 1 ∨ k = 2 * q + 2) → k < n → q ≠ i → k ≠ i → lt (swp d i n)[k]! (swp d i n)[q]! = false := fun q k hk hkn hq hki => by
      rw [gO k hki (by omega), gO q hq (by omega)]
      simpa [gtF] using hH q (by omega) k hk (by omega)
    have O0 : ∀ p, (i = 2 * p + 1 ∨ i = 2 * p + 2) → ∀ c, (c = 2 * i + 1 ∨ c = 2 * i + 2) → c < n → lt (swp d i n)[c]! (swp d i n)[p]! = false := fun p hp c hc hcn => by
      rw [gO c (by omega) (by omega), gO p (by omega) (by omega)]
      have a1 := hH i (by omega) c hc (by omega)
      have a2 := hH p (by omega) i hp (by omega)
      simp only [gtF, Nat.zero_add] at a1 a2
      exact h.ntrans _ _ _ a1 a2
    rcases hdn_stay h n i (swp d i n) with ⟨e1, e2, e3⟩ | ⟨e1, c, hc, hcn, hl⟩
    · rw [if_neg (by omega), e2]
      exact up_ok h n i _ hin hs (fun p k hk hkn hki => by
        by_cases hp : p = i
        · subst hp
          simpa [gtF] using e3 k hk hkn
        · exact P0 p k hk hkn hp hki) O0
    · rw [if_pos e1]
      refine dn_ok h hs (fun q hq hqi k hk hkn => ?_) fun p _ hp c hc hcn => by simpa [gtF] using O0 p hp c hc hcn
      simp only [gtF, Nat.zero_add]
      by_cases hki : k = i
      · subst hki
        have := O0 q hk c hc hcn
        cases h3 : lt (swp d k n)[k]! (swp d k n)[q]! with
        | false => rfl
        | true => have h4 := h.trans _ _ _ hl h3; rw [this] at h4; cases h4
      · exact P0 q k hk hkn hqi hki
theorem pop_ok (h : SWO lt) {n : Nat} {d : Array α} (hn : n + 1 = d.size) (hH : Heap lt (n + 1) d) : Heap lt n (hdn lt n 0 (swp d 0 n)).1 ∧ PermIn 0 n (swp d 0 n) (hdn lt n 0 (swp d 0 n)).1 := by
  have hs : n ≤ (swp d 0 n).size := by rw [size_swp]; omega
  refine dn_ok h hs (fun q hq hqi k hk hkn => ?_) fun p _ hp c hc hcn => by omega
  have gO : ∀ k, k ≠ 0 → k ≠ n → (swp d 0 n)[k]! = d[k]! := fun k h1 h2 => swp_other d _ _ _ h1 h2
  simp only [gtF, Nat.zero_add]
  rw [gO k (by omega) (by omega), gO q hqi (by omega)]
  simpa [gtF] using hH q (by omega) k hk (by omega)
theorem hup_size : ∀ (j : Nat) (d : Array α), (hup lt j d).size = d.size := by
  intro j
  induction j using Nat.strongRecOn with
  | ind j ih =>
    intro d
    cases j with
    | zero => rw [hup]
    | succ j =>
      rw [hup]
      split
      · rw [ih _ (by omega), size_swp]
      · rfl
theorem hdn_size (n : Nat) : ∀ (k i : Nat) (d : Array α), n - i ≤ k → (hdn lt n i d).1.size = d.size := by
  intro k
  induction k with
  | zero => intro i d h; rw [hdn, dif_pos (by omega)]
  | succ k ih =>
    intro i d h
    rw [hdn]
    repeat' split
    all_goals first | rfl | (rw [ih _ _ (by omega), size_swp])
end Hp
noncomputable section
namespace Go.Proofs.Ytciiaficfmbimaa
open Go Go.RowKit Go.BigFrame Sx Vx
set_option maxRecDepth 100000
theorem wrapW {x : Int} (h : -9223372036854775808 ≤ x ∧ x ≤ 9223372036854775807) : wI x = x := wrapI h
def qB (n c : Nat) (most came : Int) : VB := ⟨true, ⟨46, (0, 0)⟩, [.sl 1 0 n c, .int .i64 most, .int .u64 came]⟩
abbrev hpV : V := .ifc 49 (.ptr 0 0)
def recH (w : Bool) : V := bif w then hpV else .ptr 0 0
def isH (w : Bool) (v : V) : Bool := match w, v with
  | true, .ifc 49 (.ptr 0 0) => true
  | false, .ptr 0 0 => true
  | _, _ => false
theorem isH_ok {w : Bool} {v : V} (h : isH w v = true) : v = recH w := by
  unfold isH at h
  split at h
  · rfl
  · rfl
  · cases h
def HBody (w : Bool) (f : FuncId) (M : SM) : Prop := ∀ (ar : List V) (d : AW) (us : List Value) (c : Nat) (most came : Int) (q b : Nat) (Kb : V → AW → Prop) (R : List Blk) (ms : List Nat) (w0 wd : World), M ar d Kb →
  St ms w0 (lits [q, b] [q, b] [qB d.size c most came, wtB d us] ++ R) wd → Gives Try.prog f (denM [q, b] (recH w :: ar)).toArray wd fun v w' => ∃ vv d', v = den [] vv ∧ wfV 0 vv = true ∧ Kb vv d' ∧ St ms w0 (lits [q, b] [q, b] [qB d.size c most came, wtB d' us] ++ R) w'
def hK (N c : Nat) (most came : Int) (us : List Value) (Kb : V → AW → Prop) : VK Empty := fun v b _ => ∃ d', wfV 0 v = true ∧ b = [qB N c most came, wtB d' us] ∧ Kb v d'
theorem h_run {C : Ctx Empty} {w : Bool} {f : FuncId} {ar : List V} {d : AW} {us : List Value} {c : Nat} {most came : Int} {q b : Nat} {Kb : V → AW → Prop} {R : List Blk} {ms : List Nat} {w0 wd : World} (hT : ∀ f c, C.T f = some c → Sound C.P C.gl f c) (hQ : QuietT C) (hg : C.gl = gN0)
    (S : St ms w0 (lits [q, b] [q, b] [qB d.size c most came, wtB d us] ++ R) wd) (hvc : vcF C 60 f (recH w :: ar) [qB d.size c most came, wtB d us] [] (gcK 2 (hK d.size c most came us Kb))) :
    Gives C.P f (denM [q, b] (recH w :: ar)).toArray wd fun v w' => ∃ vv d', v = den [] vv ∧ wfV 0 vv = true ∧ Kb vv d' ∧ St ms w0 (lits [q, b] [q, b] [qB d.size c most came, wtB d' us] ++ R) w' := by
  have S0 : St ms w0 (lits [q, b] [q, b] [qB d.size c most came, wtB d us] ++ nestB ([] : List Empty) R) wd := S
  refine (vcF_ok hT hQ 60 (by rw [hg]; exact fun g i h => nomatch h) rfl S0 hvc).mono ?_
  rintro v w' ⟨x, more, bl', ch', rfl, h1, S', hK⟩
  obtain ⟨v2, more2, bl2, hv, hl2, S2, d', hw, rfl, hK2⟩ := gcK_ok (n0 := 2) h1 (by simp) S' hK
  obtain rfl : more2 = [] := List.eq_nil_of_length_eq_zero (by simpa using hl2)
  have htk : ([q, b] ++ more).take 2 = [q, b] := rfl
  rw [htk, List.append_nil] at S2 hv
  cases ch' with
  | nil => exact ⟨v2, d', by rw [hv]; have := den_app (ids := []) (more := [q, b]) v2 hw; simpa using this, hw, hK2, S2⟩
  | cons e _ => exact nomatch e
def hC {G : Type} (w : Bool) (M : SM) : CTr G := fun args bl ch K => match args, bl with
  | a :: ar, ⟨true, ⟨46, (0, 0)⟩, [.sl 1 0 n c, .int .i64 most, .int .u64 came]⟩ :: ⟨true, ⟨51, (0, 0)⟩, [.rowp 5 m g, .rest us]⟩ :: rest =>
    cond (isH w a && wfL 0 ar) (∃ d : AW, (g = wtG d ∧ m = d.size ∧ n = d.size) ∧ M ar d fun v d' => K v (qB n c most came :: wtB d' us :: rest) ch) False
  | _, _ => False
theorem h_frame {G : Type} [Bl G] {gl : Nat → Option Nat} {wh : Bool} {f : FuncId} {M : SM} (h : HBody wh f M) : Sound (G := G) Try.prog gl f (hC wh M) := by
  intro args ids bl ch R ms w0 w K hg hl S hc
  unfold hC at hc
  split at hc
  · rename_i a ar n c most came m g us rest
    cases hq0 : isH wh a && wfL 0 ar with
    | false => rw [hq0] at hc; exact hc.elim
    | true =>
      rw [hq0] at hc
      simp only [Bool.and_eq_true] at hq0
      obtain ⟨hr, hq⟩ := hq0
      obtain rfl := isH_ok hr
      obtain ⟨d, ⟨rfl, rfl, rfl⟩, hM⟩ := hc
      match ids, hl with
      | q :: b :: more, hl =>
        have e1 : ∀ d' : AW, lits (q :: b :: more) (q :: b :: more) (qB d.size c most came :: wtB d' us :: rest) = lits [q, b] [q, b] [qB d.size c most came, wtB d' us] ++ lits (q :: b :: more) more rest := fun d' => rfl
        have S1 : St ms w0 (lits [q, b] [q, b] [qB d.size c most came, wtB d us] ++ (lits (q :: b :: more) more rest ++ nestB ch R)) w := by
          rw [← List.append_assoc, ← e1]; exact S
        have hargs : denM (q :: b :: more) (recH wh :: ar) = denM [q, b] (recH wh :: ar) := by
          have ea : denM (q :: b :: more) ar = denM [q, b] ar := by
            have h1 := denM_app (ids := []) (more := q :: b :: more) ar hq
            have h2 := denM_app (ids := []) (more := [q, b]) ar hq
            simp only [List.nil_append] at h1 h2
            rw [h1, h2]
          simp only [denM, ea]
          cases wh <;> rfl
        rw [hargs]
        refine (h ar d us c most came q b _ _ ms w0 w hM S1).mono ?_
        rintro v w' ⟨vv, d', rfl, hw, hK, S2⟩
        refine ⟨vv, [], _, ch, by have := den_app (ids := []) (more := q :: b :: more) vv hw; simpa using this.symm, by simpa using hl, ?_, hK⟩
        rw [List.append_nil, e1, List.append_assoc]
        exact S2
  · exact hc.elim
section
variable (N c : Nat) (us : List Value) (most came : Int) (T : AW)
def zuX := { z : Nat × AW // z.1 < N ∧ z.2.size = N ∧ Hp.hup ltW z.1 z.2 = T }
def zuV (j : Int) : List V := [hpV, .int .i64 j]
def zuLp : Lp Empty := mkLp (X := zuX N T) (fun z => z.1.1) 23 2 [0, 1] (fun z => zuV z.1.1) (fun z => [qB N c most came, wtB z.1.2 us]) (fun _ => []) (fun _ => rfl) (fun _ => by kernel_rfl) (fun _ => rfl)
variable (d : AW) (K : VK Empty)
def zuOut (d : AW) : Prop := K (.tup []) [qB N c most came, wtB d us] []
def zuIn (y : zuX N T) : Prop :=
  let j : Int := y.1.1
  let i := wI (Int.tdiv (wI (j - 1)) 2)
  cond (i == j) (zuOut N c us most came K y.1.2) (lessP N y.1.2 j i fun d1 r => cond (!r) (zuOut N c us most came K d1) (swapP N d1 i j fun d2 => true = true ∧ enD (fun z : zuX N T => z.1.1) (fun z => zuV z.1.1) (fun z => [qB N c most came, wtB z.1.2 us]) (fun _ => ([] : List Empty)) y (zuV i) [qB N c most came, wtB d2 us] []))
def zuXX (j : Int) : Prop := (true = true ∧ enD0 (fun z : zuX N T => zuV z.1.1) (fun z => [qB N c most came, wtB z.1.2 us]) (fun _ => ([] : List Empty)) (zuV j) [qB N c most came, wtB d us] []) ∧ ∀ (y : zuX N T) (g : Nat → Value), zuIn N c us most came T K y
theorem zu_vc (j : Int) : vcF (mkW Try.prog (LLn Empty) (fun i _ => lp1 0 (zuLp N c us most came T) i)) 60 22 [hpV, .int .i64 j] [qB N c most came, wtB d us] [] (gcK 2 K) = zuXX N c us most came T d K j := by kernel_rfl
end
section
variable (N c : Nat) (us : List Value) (most came : Int) (i0 n : Nat) (T : AW × Nat)
def zdX := { z : Nat × AW // z.1 < N ∧ n ≤ N ∧ z.2.size = N ∧ Hp.hdn ltW n z.1 z.2 = T }
def zdV (i : Int) : List V := [hpV, .int .i64 i0, .int .i64 n, .int .i64 i]
def zdLp : Lp Empty := mkLp (X := zdX N n T) (fun z => N - z.1.1) 48 2 [0, 1, 2, 7] (fun z => zdV i0 n z.1.1) (fun z => [qB N c most came, wtB z.1.2 us]) (fun _ => []) (fun _ => rfl) (fun _ => by kernel_rfl) (fun _ => rfl)
variable (d : AW) (K : VK Empty)
def zdOut (i : Int) (d : AW) : Prop := K (.bool (decide (i > (i0 : Int)))) [qB N c most came, wtB d us] []
def zdRest (y : zdX N n T) (d : AW) (j : Int) : Prop := lessP N d j y.1.1 fun d1 r => cond (!r) (zdOut N c us most came i0 K y.1.1 d1) (swapP N d1 y.1.1 j fun d2 => true = true ∧ enD (fun z : zdX N n T => N - z.1.1) (fun z => zdV i0 n z.1.1) (fun z => [qB N c most came, wtB z.1.2 us]) (fun _ => ([] : List Empty)) y (zdV i0 n j) [qB N c most came, wtB d2 us] [])
def zdIn (y : zdX N n T) : Prop :=
  let i : Int := y.1.1
  let j1 := wI (wI (2 * i) + 1)
  let j2 := wI (j1 + 1)
  cond (decide (j1 ≥ (n : Int))) (zdOut N c us most came i0 K i y.1.2) (cond (decide (j1 < 0)) (zdOut N c us most came i0 K i y.1.2) (cond (decide (j2 < (n : Int)))
    (lessP N y.1.2 j2 j1 fun d1 r => cond r (zdRest N c us most came i0 n T K y d1 j2) (zdRest N c us most came i0 n T K y d1 j1)) (zdRest N c us most came i0 n T K y y.1.2 j1)))
def zdXX : Prop := (true = true ∧ enD0 (fun z : zdX N n T => zdV i0 n z.1.1) (fun z => [qB N c most came, wtB z.1.2 us]) (fun _ => ([] : List Empty)) (zdV i0 n i0) [qB N c most came, wtB d us] []) ∧ ∀ (y : zdX N n T) (g : Nat → Value), zdIn N c us most came i0 n T K y
theorem zd_vc : vcF (mkW Try.prog (LLn Empty) (fun i _ => lp1 0 (zdLp N c us most came i0 n T) i)) 60 25 [hpV, .int .i64 i0, .int .i64 n] [qB N c most came, wtB d us] [] (gcK 2 K) = zdXX N c us most came i0 n T d K := by kernel_rfl
end
variable {N c : Nat} {us : List Value} {most came : Int} {d : AW} {K : VK Empty}
theorem zu_ok (h9 : N ≤ 100) {T : AW} {j : Nat} (hj : j < N) (hd : d.size = N) (hT : Hp.hup ltW j d = T) (hK : K (.tup []) [qB N c most came, wtB T us] []) : zuXX N c us most came T d K j := by
  refine ⟨⟨rfl, ⟨(j, d), hj, hd, hT⟩, rfl, rfl, rfl⟩, ?_⟩
  rintro ⟨⟨j, d⟩, h1, h2, h3⟩ -
  simp only at h1 h2 h3
  unfold zuIn
  dsimp only
  cases j with
  | zero =>
    rw [Hp.hup] at h3
    subst h3
    exact hK
  | succ j =>
    rw [Hp.hup] at h3
    have e1 : wI (Int.tdiv (wI (((j + 1 : Nat) : Int) - 1)) 2) = ((j / 2 : Nat) : Int) := by
      rw [wrapW (x := ((j + 1 : Nat) : Int) - 1) (by omega)]
      have : (((j + 1 : Nat) : Int) - 1) = (j : Int) := by omega
      rw [this, Int.tdiv_eq_ediv_of_nonneg (by omega)]
      exact wrapW (by omega)
    rw [e1]
    refine cnd (fun e => ?_) fun _ => lessP_ok h2 rfl rfl h1 (by omega) (cnd (fun hl => ?_) fun hl => swapP_ok h2 rfl rfl (by omega) h1 ⟨rfl, ⟨(j / 2, Sort.swp d (j / 2) (j + 1)), by show j / 2 < N; omega, by rw [swp_size]; exact h2, ?_⟩, by show j / 2 < j + 1; omega, rfl, rfl, rfl⟩)
    · simp at e; omega
    · have hl : ltW d[j + 1]! d[j / 2]! = false := by simpa using hl
      rw [if_neg (by rw [hl]; simp)] at h3
      subst h3
      exact hK
    · have hl : ltW d[j + 1]! d[j / 2]! = true := by simpa using hl
      rw [if_pos hl] at h3
      exact h3
theorem zdRest_ok (h9 : N ≤ 100) {i0 n : Nat} {T : AW × Nat} {y : zdX N n T} {j : Nat} (hj : j < N) (hi : y.1.1 < j) (hT : (if ltW y.1.2[j]! y.1.2[y.1.1]! then Hp.hdn ltW n j (Sort.swp y.1.2 y.1.1 j) else (y.1.2, y.1.1)) = T) (hK : K (.bool (decide (i0 < T.2))) [qB N c most came, wtB T.1 us] []) : zdRest N c us most came i0 n T K y y.1.2 j := by
  obtain ⟨⟨i, d⟩, h1, h0, h2, h3⟩ := y
  simp only at *
  have ed : ∀ i : Nat, decide ((i : Int) > (i0 : Int)) = decide (i0 < i) := fun i => decide_eq_decide.2 (by omega)
  refine lessP_ok h2 rfl rfl hj h1 (cnd (fun hl => ?_) fun hl => swapP_ok h2 rfl rfl h1 hj ⟨rfl, ⟨(j, Sort.swp d i j), hj, h0, by rw [swp_size]; exact h2, ?_⟩, by show N - j < N - i; omega, rfl, rfl, rfl⟩)
  · have hl : ltW d[j]! d[i]! = false := by simpa using hl
    rw [hl, if_neg (by simp)] at hT
    subst hT
    show K (.bool (decide ((i : Int) > (i0 : Int)))) _ _
    rw [ed]
    exact hK
  · have hl : ltW d[j]! d[i]! = true := by simpa using hl
    rw [if_pos hl] at hT
    exact hT
theorem zd_ok (h9 : N ≤ 100) {i0 n : Nat} {T : AW × Nat} (hi : i0 < N) (hn : n ≤ N) (hd : d.size = N) (hT : Hp.hdn ltW n i0 d = T) (hK : K (.bool (decide (i0 < T.2))) [qB N c most came, wtB T.1 us] []) : zdXX N c us most came i0 n T d K := by
  refine ⟨⟨rfl, ⟨(i0, d), hi, hn, hd, hT⟩, rfl, rfl, rfl⟩, ?_⟩
  intro y g
  obtain ⟨⟨i, d⟩, h1, h0, h2, h3⟩ := y
  simp only at h1 h2 h3
  have ed : ∀ i : Nat, decide ((i : Int) > (i0 : Int)) = decide (i0 < i) := fun i => decide_eq_decide.2 (by omega)
  have e1 : wI (wI (2 * (i : Int)) + 1) = ((2 * i + 1 : Nat) : Int) := by rw [wrapW (x := 2 * (i : Int)) (by omega), wrapW (by omega)]; omega
  have e2 : wI (((2 * i + 1 : Nat) : Int) + 1) = ((2 * i + 2 : Nat) : Int) := by rw [wrapW (by omega)]; omega
  unfold zdIn
  dsimp only
  rw [e1, e2]
  rw [Hp.hdn] at h3
  refine cnd (fun e => ?_) fun e => ?_
  · have e : n ≤ 2 * i + 1 := by have := of_decide_eq_true e; omega
    rw [dif_pos e] at h3
    subst h3
    show K (.bool (decide ((i : Int) > (i0 : Int)))) _ _
    rw [ed]
    exact hK
  · have e : ¬ n ≤ 2 * i + 1 := by have := of_decide_eq_false e; omega
    rw [dif_neg (by omega)] at h3
    refine cnd (fun e => by simp at e; omega) fun _ => cnd (fun e2 => ?_) fun e2 => ?_
    · have e2 : 2 * i + 2 < n := by
        have := of_decide_eq_true e2
        omega
      refine lessP_ok h2 rfl rfl (by omega) (by omega) (cnd (fun hl => ?_) fun hl => ?_)
      · have hl : ltW d[2 * i + 2]! d[2 * i + 1]! = true := by simpa using hl
        rw [if_pos (by simp [e2, hl])] at h3
        exact zdRest_ok (y := ⟨(i, d), h1, h0, h2, by rw [Hp.hdn, dif_neg (by omega), if_pos (by simp [e2, hl])]; exact h3⟩) h9 (by omega) (by show i < _; omega) (by rw [dif_pos e2] at h3; exact h3) hK
      · have hl : ltW d[2 * i + 2]! d[2 * i + 1]! = false := by simpa using hl
        rw [if_neg (by simp [hl])] at h3
        exact zdRest_ok (y := ⟨(i, d), h1, h0, h2, by rw [Hp.hdn, dif_neg (by omega), if_neg (by simp [hl])]; exact h3⟩) h9 (by omega) (by show i < _; omega) h3 hK
    · have e2 : ¬ 2 * i + 2 < n := by
        have := of_decide_eq_false e2
        omega
      rw [if_neg (by simp; omega)] at h3
      exact zdRest_ok (y := ⟨(i, d), h1, h0, h2, by rw [Hp.hdn, dif_neg (by omega), if_neg (by simp; omega)]; exact h3⟩) h9 (by omega) (by show i < _; omega) h3 hK
def upM : SM := fun ar d Kb => match ar with
  | [.int .i64 x] => ∃ j : Nat, (x = j ∧ j < d.size ∧ d.size ≤ 100) ∧ Kb (.tup []) (Hp.hup ltW j d)
  | _ => False
def dnM : SM := fun ar d Kb => match ar with
  | [.int .i64 x, .int .i64 y] => ∃ i n : Nat, (x = i ∧ y = n ∧ i < d.size ∧ n ≤ d.size ∧ d.size ≤ 100) ∧ Kb (.bool (decide (i < (Hp.hdn ltW n i d).2))) (Hp.hdn ltW n i d).1
  | _ => False
theorem up_body : HBody true 22 upM := by
  intro ar d us c most came q b Kb R ms w0 wd hM S
  unfold upM at hM
  split at hM
  · obtain ⟨j, ⟨rfl, h1, h2⟩, hKb⟩ := hM
    have hok := LLn_ok (G := Empty) (gl := gN0)
    refine h_run (C := mkW Try.prog (LLn Empty) (fun i _ => lp1 0 (zuLp d.size c us most came (Hp.hup ltW j d)) i)) hok.T hok.Q rfl S ?_
    show vcF _ 60 _ [hpV, _] _ _ _
    rw [zu_vc]
    exact zu_ok h2 h1 rfl rfl ⟨_, rfl, rfl, hKb⟩
  · exact hM.elim
theorem dn_body : HBody true 25 dnM := by
  intro ar d us c most came q b Kb R ms w0 wd hM S
  unfold dnM at hM
  split at hM
  · obtain ⟨i, n, ⟨rfl, rfl, h1, h0, h2⟩, hKb⟩ := hM
    have hok := LLn_ok (G := Empty) (gl := gN0)
    refine h_run (C := mkW Try.prog (LLn Empty) (fun k _ => lp1 0 (zdLp d.size c us most came i n (Hp.hdn ltW n i d)) k)) hok.T hok.Q rfl S ?_
    show vcF _ 60 _ [hpV, _, _] _ _ _
    rw [zd_vc]
    exact zd_ok h2 h1 h0 rfl rfl ⟨_, rfl, rfl, hKb⟩
  · exact hM.elim
section
variable (N c : Nat) (us : List Value) (most came : Int) (s : Int) (d : AW)
def zfX := { j : Nat // j ≤ N ∧ ∀ k, k < j → d[k]!.src ≠ s }
def zfV (j : Int) : List V := [.sl 1 0 N c, .fn 21 [] [.ptr 2 0], .int .i64 N, .int .i64 j]
def zfB : List VB := [qB N c most came, wtB d us, ⟨true, ⟨3, (0, 0)⟩, [.int .i64 s]⟩]
def zfLp : Lp Empty := mkLp (X := zfX N s d) (fun z => N - z.1) 19 3 [0, 1, 7, 8] (fun z => zfV N c z.1) (fun z => zfB N c us most came s d) (fun _ => []) (fun _ => rfl) (fun _ => by kernel_rfl) (fun _ => rfl)
variable (K : VK Empty)
def zfXX : Prop := (true = true ∧ enD0 (fun z : zfX N s d => zfV N c z.1) (fun z => zfB N c us most came s d) (fun _ => ([] : List Empty)) (zfV N c 0) (zfB N c us most came s d) []) ∧ ∀ (y : zfX N s d) (g : Nat → Value),
  cond (decide ((y.1 : Int) < N)) (inP d (wtG d) N y.1 (cond (d[(y.1 : Int).toNat]!.src == s) (K (.int .i64 y.1) [qB N c most came, wtB d us] [])
    (true = true ∧ enD (fun z : zfX N s d => N - z.1) (fun z => zfV N c z.1) (fun z => zfB N c us most came s d) (fun _ => ([] : List Empty)) y (zfV N c (wI (y.1 + 1))) (zfB N c us most came s d) []))) (K (.int .i64 (-1)) [qB N c most came, wtB d us] [])
theorem zf_vc : vcF (mkW Try.prog (LLn Empty) (fun i _ => lp1 0 (zfLp N c us most came s d) i)) 60 15 [.ptr 0 0, .int .i64 s] [qB N c most came, wtB d us] [] (gcK 2 K) = zfXX N c us most came s d K := by kernel_rfl
end
def fdR (d : AW) (s r : Int) : Prop := (r = -1 ∧ ∀ k, k < d.size → d[k]!.src ≠ s) ∨ ∃ j : Nat, r = j ∧ j < d.size ∧ d[j]!.src = s
def fdM : SM := fun ar d Kb => match ar with
  | [.int .i64 s] => d.size ≤ 100 ∧ ∀ r, fdR d s r → Kb (.int .i64 r) d
  | _ => False
theorem fd_body : HBody false 15 fdM := by
  intro ar d us c most came q b Kb R ms w0 wd hM S
  unfold fdM at hM
  split at hM
  · rename_i s
    obtain ⟨h1, hKb⟩ := hM
    have hok := LLn_ok (G := Empty) (gl := gN0)
    refine h_run (C := mkW Try.prog (LLn Empty) (fun i _ => lp1 0 (zfLp d.size c us most came s d) i)) hok.T hok.Q rfl S ?_
    show vcF _ 60 _ [.ptr 0 0, _] _ _ _
    rw [zf_vc]
    refine ⟨⟨rfl, ⟨0, Nat.zero_le _, fun k hk => by omega⟩, rfl, rfl, rfl⟩, ?_⟩
    rintro ⟨j, hj, hk⟩ -
    refine cnd (fun e => ?_) fun e => ?_
    · have hlt : j < d.size := by have := of_decide_eq_true e; exact Int.ofNat_lt.1 this
      refine ⟨⟨Int.natCast_nonneg _, Int.ofNat_lt.2 hlt⟩, ⟨by simpa using hlt, fun _ => rfl⟩, cnd (fun e2 => ?_) fun e2 => ?_⟩
      · exact ⟨d, rfl, rfl, hKb _ (.inr ⟨j, rfl, hlt, by simpa using e2⟩)⟩
      · refine ⟨rfl, ⟨j + 1, hlt, fun k hk2 => ?_⟩, by show d.size - (j + 1) < d.size - j; omega, ?_, rfl, rfl⟩
        · by_cases h : k = j
          · subst h; simpa using e2
          · exact hk k (by omega)
        · show zfV d.size c (wI ((j : Int) + 1)) = zfV d.size c ((j + 1 : Nat) : Int)
          rw [wrapW (by omega)]
          rfl
    · have hlt : ¬ j < d.size := fun h => of_decide_eq_false e (Int.ofNat_lt.2 h)
      obtain rfl : j = d.size := by omega
      exact ⟨d, rfl, rfl, hKb _ (.inl ⟨rfl, hk⟩)⟩
  · exact hM.elim
def LHp : List (Ent Empty) := ⟨22, false, hC true upM⟩ :: ⟨25, false, hC true dnM⟩ :: ⟨15, false, hC false fdM⟩ :: LLn Empty
theorem LHp_ok : AllOk Try.prog gN0 LHp :=
  have n : ∀ {c : CTr Empty}, (false = true → QuietC c) := fun e => by cases e
  AllOk.cons ⟨h_frame up_body, n⟩ (AllOk.cons ⟨h_frame dn_body, n⟩ (AllOk.cons ⟨h_frame fd_body, n⟩ LLn_ok))
end Go.Proofs.Ytciiaficfmbimaa
