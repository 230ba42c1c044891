/- What the walks of the queue laws stand on. Conditions: none beyond those that each lemma names. -/
import Derived.Test.YtciiaficfmbimaaB4
set_option linter.unusedVariables false
set_option linter.unusedSimpArgs false
set_option linter.unusedSectionVars false
noncomputable section
namespace Go.Proofs.Ytciiaficfmbimaa
open Go Go.RowKit Go.BigFrame Sx Vx
set_option maxRecDepth 100000
noncomputable abbrev CHp : Ctx Empty := mkH Try.prog gN0 LHp (appO Try.prog) appO_ok
noncomputable abbrev CHz : Ctx Empty := mkH Try.prog gN0 [] (appO Try.prog) appO_ok
def askW (x : Sd.Wt) : List V := [.int .i64 x.src, .int .i64 x.rank, .int .i64 x.at_, .int .i64 x.most]
def noneW : V := .tup [.agg [.int .i64 0, .int .i64 0, .int .i64 0, .int .i64 0], .int .i64 2]
section
variable (N c : Nat) (us : List Value) (most came s : Int) (d : AW) (K : VK Empty)
def qB2 (n : Int) (d : AW) : List VB := [qB n.toNat c most came, wtB d us]
def lastP (N c : Nat) (us : List Value) (most came : Int) (d : AW) (X : V → List VB → Prop) : Prop :=
  let n := wI ((N : Int) - 1)
  (0 ≤ n ∧ n < (N : Int)) ∧ (n.toNat < d.size ∧ ∀ j, (wtG d j).length = 5) ∧ (0 ≤ n ∧ n ≤ (c : Int)) ∧ X (.agg (askW d[n.toNat]!)) (qB2 c us most came n d)
def popXX : Prop := cond ((N : Int) == 0) (K noneW [qB N c most came, wtB d us] []) (ctP N lenM [] d fun v d => match v with
  | .int .i64 n => swapP N d 0 (wI (n - 1)) fun d => ctP N dnM [.int .i64 0, .int .i64 (wI (n - 1))] d fun _ d => lastP N c us most came d fun x b => K (.tup [x, .int .i64 0]) b []
  | _ => False)
theorem pop_vc : vcF CHp 60 11 [.ptr 0 0] [qB N c most came, wtB d us] [] (gcK 2 K) = popXX N c us most came d K := by kernel_rfl
def headXX : Prop := cond ((N : Int) == 0) (K noneW [qB N c most came, wtB d us] []) ((0 ≤ (0 : Int) ∧ 0 < (N : Int)) ∧ ((0 : Int).toNat < d.size ∧ ∀ j, (wtG d j).length = 5) ∧ K (.tup [.agg (askW d[(0 : Int).toNat]!), .int .i64 0]) [qB N c most came, wtB d us] [])
theorem head_vc : vcF CHp 60 12 [.ptr 0 0] [qB N c most came, wtB d us] [] (gcK 2 K) = headXX N c us most came d K := by kernel_rfl
def dropXX : Prop := ctP N fdM [.int .i64 s] d fun v d => match v with
  | .int .i64 r => cond (decide (r < 0)) (K (.bool false) [qB N c most came, wtB d us] []) (ctP N lenM [] d fun v d => match v with
    | .int .i64 n => cond (wI (n - 1) != r) (swapP N d r (wI (n - 1)) fun d => ctP N dnM [.int .i64 r, .int .i64 (wI (n - 1))] d fun v d => match v with
        | .bool b => cond (!b) (ctP N upM [.int .i64 r] d fun _ d => lastP N c us most came d fun x b => K (.bool true) b []) (lastP N c us most came d fun x b => K (.bool true) b [])
        | _ => False) (lastP N c us most came d fun x b => K (.bool true) b [])
    | _ => False)
  | _ => False
theorem drop_vc : vcF CHp 60 14 [.ptr 0 0, .int .i64 s] [qB N c most came, wtB d us] [] (gcK 2 K) = dropXX N c us most came s d K := by kernel_rfl
def qZ : VB := ⟨true, ⟨46, (0, 0)⟩, [.raw (.slice none 0 0), .int .i64 most, .int .u64 came]⟩
theorem pop_z : vcF CHz 60 11 [.ptr 0 0] [qZ most came] [] (gcK 1 K) = K noneW [qZ most came] [] := by kernel_rfl
theorem head_z : vcF CHz 60 12 [.ptr 0 0] [qZ most came] [] (gcK 1 K) = K noneW [qZ most came] [] := by kernel_rfl
theorem drop_z : vcF CHz 60 14 [.ptr 0 0, .int .i64 s] [qZ most came] [] (gcK 1 K) = K (.bool false) [qZ most came] [] := by kernel_rfl
theorem find_z : vcF (mkW Try.prog (LLn Empty) (fun _ _ => none)) 60 15 [.ptr 0 0, .int .i64 s] [qZ most came] [] (gcK 1 K) = K (.int .i64 (-1)) [qZ most came] [] := by kernel_rfl
end
end Go.Proofs.Ytciiaficfmbimaa
noncomputable section
namespace Hp
open Go.Sort
abbrev AV := Array Sd.Wt
abbrev lw : Sd.Wt → Sd.Wt → Bool := Sd.Wt.lt
theorem swo_lw : SWO lw where
  irrefl x := by simp [Sd.Wt.lt]
  trans x y z h1 h2 := by
    simp only [Sd.Wt.lt] at *
    by_cases a1 : x.rank = y.rank <;> by_cases a2 : y.rank = z.rank <;> by_cases a3 : x.rank = z.rank <;> simp_all <;> omega
  ntrans x y z h1 h2 := by
    simp only [Sd.Wt.lt] at *
    by_cases a1 : x.rank = y.rank <;> by_cases a2 : y.rank = z.rank <;> by_cases a3 : x.rank = z.rank <;> simp_all <;> omega
structure Inv (d : AV) (L : List Sd.Wt) : Prop where
  heap : Heap lw d.size d
  perm : d.toList.Perm L
  ord : L.Pairwise fun x y => x.lt y = true
theorem Inv.len {d : AV} {L : List Sd.Wt} (h : Inv d L) : L.length = d.size := by rw [← h.perm.length_eq]; simp
theorem Inv.nil : Inv #[] [] := ⟨fun i h => by simp at h, List.Perm.refl _, List.Pairwise.nil⟩
theorem heap_congr {n : Nat} {d e : AV} (h : ∀ i, i < n → d[i]! = e[i]!) (hH : Heap lw n d) : Heap lw n e := fun i hi k hk hkn => by
  have := hH i hi k hk hkn
  simp only [Nat.zero_add, gtF] at this ⊢
  rw [← h k hkn, ← h i hi]
  exact this
theorem ext_get (d : AV) (n i : Nat) (hn : n ≤ d.size) (hi : i < n) : (d.extract 0 n)[i]! = d[i]! := by
  have h1 : i < (d.extract 0 n).size := by simp; omega
  rw [getElem!_pos (d.extract 0 n) i h1, getElem!_pos d i (by omega)]
  simp
theorem ext_size (d : AV) (n : Nat) (hn : n ≤ d.size) : (d.extract 0 n).size = n := by simp; omega
theorem ext_all (d : AV) : d.extract 0 d.size = d := by
  apply Array.ext
  · simp
  · intro i h1 h2; simp
theorem ext_perm (d : AV) {n : Nat} (hn : n + 1 = d.size) : d.toList.Perm (d[n]! :: (d.extract 0 n).toList) := by
  have e1 : d.toList = (d.extract 0 n).toList ++ [d[n]!] := by
    have e0 : d.toList = (d.extract 0 d.size).toList := by rw [ext_all]
    rw [e0, extract_toList d 0 d.size (Nat.le_refl _), extract_toList d 0 n (by omega), ← hn]
    simp only [Nat.sub_zero]
    rw [← List.map_singleton (f := fun i => d[i]!), ← List.map_append]
    congr 1
    rw [List.range'_concat]
    simp
  rw [e1]
  exact List.perm_append_comm
theorem mem_get {d : AV} {x : Sd.Wt} (h : x ∈ d.toList) : ∃ i, i < d.size ∧ d[i]! = x := by
  obtain ⟨i, hi, e⟩ := List.mem_iff_getElem.1 h
  have hi : i < d.size := by simpa using hi
  exact ⟨i, hi, by rw [getElem!_pos d i hi]; simpa using e⟩
theorem get_mem {d : AV} {i : Nat} (h : i < d.size) : d[i]! ∈ d.toList := by
  rw [getElem!_pos d i h]
  simp
theorem Inv.head {d : AV} {x : Sd.Wt} {L : List Sd.Wt} (h : Inv d (x :: L)) : d[0]! = x := by
  have hl := h.len
  simp only [List.length_cons] at hl
  obtain ⟨i, hi, he⟩ := mem_get (h.perm.mem_iff.2 (List.mem_cons_self (a := x)))
  have h1 := heap_min swo_lw h.heap hi
  rw [he] at h1
  have h2 : d[0]! ∈ x :: L := h.perm.mem_iff.1 (get_mem (by omega))
  rcases List.mem_cons.1 h2 with h2 | h2
  · exact h2
  · have := (List.pairwise_cons.1 h.ord).1 _ h2
    rw [show lw x d[0]! = Sd.Wt.lt x d[0]! from rfl, this] at h1
    cases h1
theorem cut_perm {n i : Nat} {d D : AV} (hn : n + 1 = d.size) (hi : i ≤ n) (hP : PermIn 0 n (swp d i n) D) : D.size = d.size ∧ D[n]! = d[i]! ∧ d.toList.Perm (d[i]! :: (D.extract 0 n).toList) := by
  have h1 : D.size = d.size := by rw [hP.1, size_swp]
  have h2 : D[n]! = d[i]! := by rw [hP.2.1 n (.inr (Nat.le_refl _)), swp_right d i n (by omega)]
  refine ⟨h1, h2, ?_⟩
  have h3 : d.toList.Perm (swp d i n).toList := by
    have := (swp_permIn d 0 d.size i n (Nat.zero_le _) (by omega) (Nat.zero_le _) (by omega) (Nat.le_refl _)).2.2
    have e1 : (swp d i n).extract 0 d.size = swp d i n := by rw [← size_swp d i n]; exact ext_all _
    rw [ext_all, e1] at this
    exact this.symm
  refine h3.trans ((ext_perm (swp d i n) (by rw [size_swp]; exact hn)).trans ?_)
  rw [swp_right d i n (by omega)]
  exact List.Perm.cons _ hP.2.2.symm
theorem Inv.pop {d : AV} {x : Sd.Wt} {L : List Sd.Wt} {n : Nat} (h : Inv d (x :: L)) (hn : n + 1 = d.size) : (hdn lw n 0 (swp d 0 n)).1.size = d.size ∧ (hdn lw n 0 (swp d 0 n)).1[n]! = x ∧ Inv ((hdn lw n 0 (swp d 0 n)).1.extract 0 n) L := by
  obtain ⟨h1, h2⟩ := pop_ok swo_lw hn (by rw [hn]; exact h.heap)
  obtain ⟨g1, g2, g3⟩ := cut_perm hn (Nat.zero_le _) h2
  rw [h.head] at g2 g3
  refine ⟨g1, g2, ?_, ?_, (List.pairwise_cons.1 h.ord).2⟩
  · rw [ext_size _ _ (by omega)]
    exact heap_congr (fun i hi => (ext_get _ _ _ (by omega) hi).symm) h1
  · exact (List.perm_cons x).1 (g3.symm.trans h.perm)
def dropS (L : List Sd.Wt) (s : Int) : List Sd.Wt := L.filter fun y => y.src != s
theorem drop_no {L : List Sd.Wt} {s : Int} (h : ∀ y ∈ L, y.src ≠ s) : dropS L s = L := by
  unfold dropS
  rw [List.filter_eq_self]
  intro y hy
  simpa using h y hy
theorem drop_one {L M : List Sd.Wt} {x : Sd.Wt} (hp : L.Perm (x :: M)) (hs : (L.map (·.src)).Nodup) : (dropS L x.src).Perm M := by
  have h1 : (dropS L x.src).Perm (dropS (x :: M) x.src) := hp.filter _
  have h2 : ((x :: M).map (·.src)).Nodup := (hp.map _).nodup_iff.1 hs
  have e : dropS (x :: M) x.src = M := by
    unfold dropS
    rw [List.filter_cons_of_neg (by simp), List.filter_eq_self]
    intro y hy
    simp only [List.map_cons, List.nodup_cons, List.mem_map, not_exists, not_and] at h2
    simpa using h2.1 y hy
  rw [e] at h1
  exact h1
theorem Inv.drop {d : AV} {L : List Sd.Wt} {n i : Nat} (h : Inv d L) (hn : n + 1 = d.size) (hi : i ≤ n) (hs : (L.map (·.src)).Nodup) : (rmv lw n i d).size = d.size ∧ Inv ((rmv lw n i d).extract 0 n) (dropS L d[i]!.src) := by
  obtain ⟨h1, h2⟩ := rmv_ok swo_lw hn hi (by rw [hn]; exact h.heap)
  obtain ⟨g1, g2, g3⟩ := cut_perm hn hi h2
  refine ⟨g1, ?_, ?_, h.ord.filter _⟩
  · rw [ext_size _ _ (by omega)]
    exact heap_congr (fun i hi => (ext_get _ _ _ (by omega) hi).symm) h1
  · exact (drop_one (h.perm.symm.trans g3) hs).symm
def insW (x : Sd.Wt) : List Sd.Wt → List Sd.Wt
  | [] => [x]
  | y :: l => bif y.lt x then y :: insW x l else x :: y :: l
theorem ins_perm (x : Sd.Wt) : ∀ L, (insW x L).Perm (x :: L)
  | [] => List.Perm.refl _
  | y :: l => by
    unfold insW
    cases y.lt x with
    | true => exact ((ins_perm x l).cons y).trans (List.Perm.swap _ _ _)
    | false => exact List.Perm.refl _
theorem lt_total {x y : Sd.Wt} (h : y.came < x.came) (h2 : y.lt x = false) : x.lt y = true := by
  simp only [Sd.Wt.lt] at *
  by_cases a : x.rank = y.rank <;> simp_all <;> omega
theorem ins_ord (x : Sd.Wt) : ∀ L : List Sd.Wt, (∀ y ∈ L, y.came < x.came) → L.Pairwise (fun a b => a.lt b = true) → (insW x L).Pairwise fun a b => a.lt b = true
  | [], _, _ => List.pairwise_singleton _ _
  | y :: l, hc, ho => by
    obtain ⟨h1, h2⟩ := List.pairwise_cons.1 ho
    unfold insW
    cases h : y.lt x with
    | true =>
      refine List.pairwise_cons.2 ⟨fun z hz => ?_, ins_ord x l (fun z hz => hc z (List.mem_cons_of_mem _ hz)) h2⟩
      rcases List.mem_cons.1 ((ins_perm x l).mem_iff.1 hz) with rfl | hz
      · exact h
      · exact h1 z hz
    | false =>
      have hx := lt_total (hc y List.mem_cons_self) h
      refine List.pairwise_cons.2 ⟨fun z hz => ?_, ho⟩
      rcases List.mem_cons.1 hz with rfl | hz
      · exact hx
      · exact swo_lw.trans _ _ _ hx (h1 z hz)
theorem push_get {d : AV} {x : Sd.Wt} {i : Nat} (hi : i < d.size) : (d.push x)[i]! = d[i]! := by
  rw [getElem!_pos (d.push x) i (by simp; omega), getElem!_pos d i hi]
  simp [Array.getElem_push, hi]
theorem Inv.push {d : AV} {L : List Sd.Wt} (h : Inv d L) (x : Sd.Wt) (hc : ∀ y ∈ L, y.came < x.came) : (hup lw d.size (d.push x)).size = d.size + 1 ∧ Inv (hup lw d.size (d.push x)) (insW x L) := by
  have hs : (hup lw d.size (d.push x)).size = d.size + 1 := by rw [hup_size]; simp
  have hk := up_ok swo_lw (d.size + 1) d.size (d.push x) (by omega) (by simp) (fun p k hk hkn hki => by
    rw [push_get (by omega), push_get (by omega)]
    have := h.heap p (by omega) k (by omega) (by omega)
    simpa [gtF] using this) (fun p hp c hc hcn => by omega)
  obtain ⟨h1, h2⟩ := hk
  refine ⟨hs, by rw [hs]; exact h1, ?_, ins_ord x L hc h.ord⟩
  have e1 : (hup lw d.size (d.push x)).toList.Perm (d.push x).toList := by
    have := h2.2.2
    have a1 : (d.push x).extract 0 (d.size + 1) = d.push x := by have := ext_all (d.push x); rwa [Array.size_push] at this
    have a2 : (hup lw d.size (d.push x)).extract 0 (d.size + 1) = hup lw d.size (d.push x) := by have := ext_all (hup lw d.size (d.push x)); rwa [hs] at this
    rw [a1, a2] at this
    exact this
  refine e1.trans (List.Perm.trans ?_ (ins_perm x L).symm)
  rw [Array.toList_push]
  exact List.perm_append_comm.trans (h.perm.cons x)
theorem sorted_eq {L : List Sd.Wt} {d d' : AV} (h : Inv d L) (hP : PermIn 0 d.size d d') (hS : SortedIn lw 0 d.size d') : d'.toList = L := by
  have e0 : d'.size = d.size := hP.1
  have hp : d'.toList.Perm L := by
    have := hP.2.2
    have a2 : d'.extract 0 d.size = d' := by have := ext_all d'; rwa [e0] at this
    rw [ext_all, a2] at this
    exact this.trans h.perm
  refine hp.eq_of_pairwise (le := fun x y => y.lt x = false) (fun a b _ _ h1 h2 => ?_) ?_ ?_
  · have ha : a ∈ L := by first | assumption | exact hp.mem_iff.1 (by assumption)
    have hb : b ∈ L := by assumption
    refine Classical.byContradiction fun hne => ?_
    obtain ⟨i, hi, rfl⟩ := List.mem_iff_getElem.1 ha
    obtain ⟨j, hj, rfl⟩ := List.mem_iff_getElem.1 hb
    rcases Nat.lt_trichotomy i j with g | g | g
    · have := List.pairwise_iff_getElem.1 h.ord i j hi hj (by omega)
      simp_all
    · subst g; exact hne rfl
    · have := List.pairwise_iff_getElem.1 h.ord j i hj hi (by omega)
      simp_all
  · rw [List.pairwise_iff_getElem]
    intro i j hi hj hij
    have hi : i < d'.size := by simpa using hi
    have hj : j < d'.size := by simpa using hj
    have := hS i j (Nat.zero_le _) hij (by omega)
    rw [getElem!_pos d' i hi, getElem!_pos d' j hj] at this
    simpa using this
  · exact h.ord.imp fun {a b} hab => by
      cases hb : b.lt a with
      | false => rfl
      | true => have := swo_lw.trans _ _ _ hab hb; rw [show lw a a = false from swo_lw.irrefl a] at this; cases this
end Hp
noncomputable section
namespace Go.Proofs.Ytciiaficfmbimaa
open Go Go.RowKit Go.BigFrame Sx Vx
set_option maxRecDepth 100000
theorem run_c {C : Ctx Empty} {f : FuncId} {args : List V} {bl : List VB} {ids : List Nat} {K : V → List VB → Prop} {R : List Blk} {ms : List Nat} {w0 wd : World} (hT : ∀ f c, C.T f = some c → Sound C.P C.gl f c) (hQ : QuietT C) (hg : C.gl = gN0) (hl : ids.length = bl.length)
    (hvc : vcF C 60 f args bl [] (gcK bl.length fun v b _ => wfV 0 v = true ∧ b.length = bl.length ∧ K v b)) (S : St ms w0 (lits ids ids bl ++ R) wd) :
    Gives C.P f (denM ids args).toArray wd fun v w' => ∃ x b, v = den [] x ∧ St ms w0 (lits ids ids b ++ R) w' ∧ K x b := by
  have S0 : St ms w0 (lits ids ids bl ++ nestB ([] : List Empty) R) wd := S
  refine (vcF_ok hT hQ 60 (by rw [hg]; exact fun g i h => nomatch h) hl S0 hvc).mono ?_
  rintro v w' ⟨x, more, bl', ch', rfl, h1, S', hK⟩
  obtain ⟨v2, more2, bl2, hv, hl2, S2, hw, hb, hK2⟩ := gcK_ok (n0 := bl.length) h1 (by simp; omega) S' hK
  have htk : (ids ++ more).take bl.length = ids := by rw [← hl]; simp
  rw [htk] at S2 hv hl2
  obtain rfl : more2 = [] := List.eq_nil_of_length_eq_zero (by simp at hl2; omega)
  rw [List.append_nil] at S2 hv
  cases ch' with
  | nil => exact ⟨v2, bl2, by rw [hv]; have := den_app (ids := []) (more := ids) v2 hw; simpa using this, S2, hK2⟩
  | cons e _ => exact nomatch e
def QSt (q : Nat) (most came : Int) (d : AW) (bl : List Blk) : Prop := ∃ x c rows, bl = ⟨q, true, .cells #[.slice x d.size c, .int .i64 most, .int .u64 came] 46 (0, 0)⟩ :: rows ∧ rowv 5 51 ((List.range d.size).flatMap (wtG d)) x d.size c rows
theorem wtG_flat (d : AW) : ∀ n, ((List.range n).flatMap (wtG d)).length = n * 5
  | 0 => rfl
  | n + 1 => by rw [List.range_succ, List.flatMap_append, List.length_append, wtG_flat d n, Nat.add_mul]; rfl
theorem q_lits (q b n c : Nat) (most came : Int) (us : List Value) (d : AW) : lits [q, b] [q, b] [qB n c most came, wtB d us] = ⟨q, true, .cells #[.slice (some ⟨b, 0, none⟩) n c, .int .i64 most, .int .u64 came] 46 (0, 0)⟩ :: [⟨b, true, .cells ((List.range d.size).flatMap (wtG d) ++ us).toArray 51 (0, 0)⟩] := by
  have e : denC [q, b] [.rowp 5 d.size (wtG d), .rest us] = (List.range d.size).flatMap (wtG d) ++ us := by simp [denC, cl]
  simp only [lits, mkB, qB, wtB, e]
  rfl
theorem qst_of {q b n c : Nat} {most came : Int} {us : List Value} {d : AW} (hn : n ≤ d.size) (hc : d.size ≤ c) (hl : d.size * 5 + us.length = c * 5) : QSt q most came (d.extract 0 n) (lits [q, b] [q, b] [qB n c most came, wtB d us]) := by
  have hs := Hp.ext_size d n hn
  rw [q_lits]
  refine ⟨some ⟨b, 0, none⟩, c, _, by rw [hs], ?_⟩
  rw [hs]
  have e1 : (List.range n).flatMap (wtG (d.extract 0 n)) = (List.range n).flatMap (wtG d) := by
    have : ∀ l : List Nat, (∀ i ∈ l, i < n) → l.flatMap (wtG (d.extract 0 n)) = l.flatMap (wtG d) := by
      intro l
      induction l with
      | nil => intro _; rfl
      | cons i l ih =>
        intro h
        rw [List.flatMap_cons, List.flatMap_cons, ih fun k hk => h k (List.mem_cons_of_mem _ hk)]
        congr 1
        simp only [wtG]
        rw [Hp.ext_get d n i hn (h i List.mem_cons_self)]
    exact this _ fun i hi => List.mem_range.1 hi
  rw [e1]
  have e2 : (List.range d.size).flatMap (wtG d) = (List.range n).flatMap (wtG d) ++ ((List.range' n (d.size - n)).flatMap (wtG d)) := by
    rw [← List.flatMap_append]
    congr 1
    rw [List.range_eq_range', List.range_eq_range']
    have := List.range'_append (s := 0) (m := n) (n := d.size - n) (step := 1)
    simp only [Nat.zero_add, Nat.one_mul] at this
    rw [this]
    congr 1
    omega
  have h5 := wtG_flat d d.size
  refine ⟨wtG_flat d n, by omega, .inr ⟨b, (List.range' n (d.size - n)).flatMap (wtG d) ++ us, rfl, ?_, ?_⟩⟩
  · rw [e2, List.append_assoc]
  · rw [← List.append_assoc, ← e2, List.length_append]
    omega
def askA (x : Sd.Wt) : Value := .agg (denC [] (askW x)).toArray
def noneA : Value := den [] noneW
theorem q_run {f : FuncId} {ar : List V} {most came : Int} {d : AW} {q : Nat} {bl R : List Blk} {ms : List Nat} {w0 w : World} {Q : Value → Int → AW → Prop} (har : wfL 0 ar = true) (hQ : QSt q most came d bl) (S : St ms w0 (bl ++ R) w)
    (hz : d.size = 0 → vcF CHz 60 f (.ptr 0 0 :: ar) [qZ most came] [] (gcK 1 fun v b _ => wfV 0 v = true ∧ b.length = 1 ∧ b = [qZ most came] ∧ Q (den [] v) came #[]))
    (h : ∀ (c : Nat) (us : List Value), d.size ≤ c → d.size * 5 + us.length = c * 5 → vcF CHp 60 f (.ptr 0 0 :: ar) [qB d.size c most came, wtB d us] [] (gcK 2 fun v b _ => wfV 0 v = true ∧ b.length = 2 ∧ ∃ (n : Nat) (d' : AW), b = [qB n c most came, wtB d' us] ∧ n ≤ d'.size ∧ d'.size = d.size ∧ Q (den [] v) came (d'.extract 0 n))) :
    Gives Try.prog f (.pointer (some ⟨q, 0, none⟩) :: denM [] ar).toArray w fun v w1 => ∃ d' bl', Q v came d' ∧ QSt q most came d' bl' ∧ St ms w0 (bl' ++ R) w1 := by
  obtain ⟨x, c, rows, rfl, hr⟩ := hQ
  have ea : ∀ ids : List Nat, denM ids ar = denM [] ar := fun ids => by have := denM_app (ids := []) (more := ids) ar har; simpa using this
  obtain ⟨_, hle, hrow⟩ := hr
  rcases hrow with ⟨rfl, h0, rfl, rfl⟩ | ⟨b, t, rfl, rfl, hlen⟩
  · have hd : d = #[] := Array.eq_empty_of_size_eq_zero h0
    subst hd
    have S1 : St ms w0 (lits [q] [q] [qZ most came] ++ R) w := S
    have hg := run_c (C := CHz) (AllOk.nil (G := Empty) (P := Try.prog) (gl := gN0)).T (AllOk.nil (G := Empty) (P := Try.prog) (gl := gN0)).Q rfl (ids := [q]) (bl := [qZ most came]) rfl (K := fun v b => b = [qZ most came] ∧ Q (den [] v) came #[]) (hz rfl) S1
    have e0 : denM [q] (.ptr 0 0 :: ar) = .pointer (some ⟨q, 0, none⟩) :: denM [] ar := by simp only [denM, ea]; rfl
    rw [e0] at hg
    refine hg.mono ?_
    rintro v w1 ⟨x, b, rfl, S2, rfl, hq⟩
    exact ⟨#[], _, hq, ⟨none, 0, [], rfl, rowv_nil _ _⟩, S2⟩
  · have hl2 : d.size * 5 + t.length = c * 5 := by rw [← hlen, List.length_append, wtG_flat]
    have S1 : St ms w0 (lits [q, b] [q, b] [qB d.size c most came, wtB d t] ++ R) w := by rw [q_lits]; exact S
    have hg := run_c (C := CHp) LHp_ok.T LHp_ok.Q rfl (ids := [q, b]) (bl := [qB d.size c most came, wtB d t]) rfl (K := fun v b => ∃ (n : Nat) (d' : AW), b = [qB n c most came, wtB d' t] ∧ n ≤ d'.size ∧ d'.size = d.size ∧ Q (den [] v) came (d'.extract 0 n)) (h c t hle hl2) S1
    have e0 : denM [q, b] (.ptr 0 0 :: ar) = .pointer (some ⟨q, 0, none⟩) :: denM [] ar := by simp only [denM, ea]; rfl
    rw [e0] at hg
    refine hg.mono ?_
    rintro v w1 ⟨x, b, rfl, S2, n, d', rfl, h1, h2, hq⟩
    exact ⟨d'.extract 0 n, _, hq, qst_of h1 (by omega) (by omega), S2⟩
theorem lastP_ok {N c n : Nat} {us : List Value} {most came : Int} {d : AW} {X : V → List VB → Prop} (hN : n + 1 = N) (hd : d.size = N) (hc : N ≤ c) (hs : N ≤ 100) (h : X (.agg (askW d[n]!)) [qB n c most came, wtB d us]) : lastP N c us most came d X := by
  have e : wI ((N : Int) - 1) = (n : Int) := by rw [wrapW (by omega)]; omega
  unfold lastP
  dsimp only
  rw [e]
  refine ⟨⟨by omega, by omega⟩, ⟨by simp; omega, fun j => rfl⟩, ⟨by omega, by omega⟩, ?_⟩
  simpa [qB2] using h
theorem lastI {N n : Nat} (hN : n + 1 = N) (hs : N ≤ 100) : wI ((N : Int) - 1) = (n : Int) := by rw [wrapW (by omega)]; omega
def popV (L : List Sd.Wt) : Value := match L with
  | [] => noneA
  | x :: _ => .tuple #[askA x, .int .i64 0]
theorem inv_zero {d : AW} {L : List Sd.Wt} (h : Hp.Inv d L) (h0 : d.size = 0) : L = [] := List.eq_nil_of_length_eq_zero (by rw [h.len]; exact h0)
theorem q_pop {q : Nat} {most came : Int} {d : AW} {L : List Sd.Wt} {bl R : List Blk} {ms : List Nat} {w0 w : World} (hI : Hp.Inv d L) (h100 : d.size ≤ 100) (hQ : QSt q most came d bl) (S : St ms w0 (bl ++ R) w) :
    Gives Try.prog 11 #[.pointer (some ⟨q, 0, none⟩)] w fun v w1 => ∃ d' bl', (v = popV L ∧ Hp.Inv d' L.tail) ∧ QSt q most came d' bl' ∧ St ms w0 (bl' ++ R) w1 := by
  refine q_run (ar := []) (Q := fun v _ d' => v = popV L ∧ Hp.Inv d' L.tail) rfl hQ S (fun h0 => ?_) fun c us hc hl => ?_
  · rw [pop_z]
    have := inv_zero hI h0
    subst this
    exact ⟨rfl, rfl, rfl, rfl, Hp.Inv.nil⟩
  · rw [pop_vc]
    unfold popXX
    refine cnd (fun h0 => ?_) fun h0 => ?_
    · have h0 : d.size = 0 := by simpa using h0
      have hL := inv_zero hI h0
      subst hL
      refine ⟨rfl, rfl, d.size, d, rfl, Nat.le_refl _, rfl, rfl, ?_⟩
      rw [Hp.ext_all]
      exact hI
    · have h0 : d.size ≠ 0 := by simpa using h0
      obtain ⟨n, hn⟩ : ∃ n, n + 1 = d.size := ⟨d.size - 1, by omega⟩
      match L, hI with
      | [], hI => have := hI.len; simp at this; omega
      | x :: L, hI =>
        obtain ⟨g1, g2, g3⟩ := hI.pop hn
        have hsz : (Sort.swp d 0 n).size = d.size := Sort.swp_size d 0 n
        refine ctP_ok rfl ?_
        unfold lenM
        dsimp only
        rw [lastI hn h100]
        refine swapP_ok (i := 0) (j := n) rfl rfl rfl (by omega) (by omega) (ctP_ok hsz ⟨0, n, ⟨rfl, rfl, by omega, by omega, by omega⟩, lastP_ok hn g1 hc h100 ?_⟩)
        exact ⟨rfl, rfl, n, _, rfl, by rw [show (Hp.hdn ltW n 0 (Sort.swp d 0 n)).1.size = d.size from g1]; omega, g1, by rw [show (Hp.hdn ltW n 0 (Sort.swp d 0 n)).1[n]! = x from g2]; rfl, g3⟩
theorem q_head {q : Nat} {most came : Int} {d : AW} {L : List Sd.Wt} {bl R : List Blk} {ms : List Nat} {w0 w : World} (hI : Hp.Inv d L) (h100 : d.size ≤ 100) (hQ : QSt q most came d bl) (S : St ms w0 (bl ++ R) w) :
    Gives Try.prog 12 #[.pointer (some ⟨q, 0, none⟩)] w fun v w1 => ∃ d' bl', (v = popV L ∧ Hp.Inv d' L) ∧ QSt q most came d' bl' ∧ St ms w0 (bl' ++ R) w1 := by
  refine q_run (ar := []) (Q := fun v _ d' => v = popV L ∧ Hp.Inv d' L) rfl hQ S (fun h0 => ?_) fun c us hc hl => ?_
  · rw [head_z]
    have := inv_zero hI h0
    subst this
    exact ⟨rfl, rfl, rfl, rfl, Hp.Inv.nil⟩
  · rw [head_vc]
    unfold headXX
    refine cnd (fun h0 => ?_) fun h0 => ?_
    · have h0 : d.size = 0 := by simpa using h0
      have hL := inv_zero hI h0
      subst hL
      refine ⟨rfl, rfl, d.size, d, rfl, Nat.le_refl _, rfl, rfl, ?_⟩
      rw [Hp.ext_all]
      exact hI
    · have h0 : d.size ≠ 0 := by simpa using h0
      match L, hI with
      | [], hI => have := hI.len; simp at this; omega
      | x :: L, hI =>
        refine ⟨⟨Int.le_refl _, by omega⟩, ⟨by simp; omega, fun j => rfl⟩, rfl, rfl, d.size, d, rfl, Nat.le_refl _, rfl, ?_, by rw [Hp.ext_all]; exact hI⟩
        rw [show d[(0 : Int).toNat]! = x from hI.head]
        rfl
theorem q_drop {q : Nat} {most came s : Int} {d : AW} {L : List Sd.Wt} {bl R : List Blk} {ms : List Nat} {w0 w : World} (hI : Hp.Inv d L) (h100 : d.size ≤ 100) (hs : (L.map (·.src)).Nodup) (hQ : QSt q most came d bl) (S : St ms w0 (bl ++ R) w) :
    Gives Try.prog 14 #[.pointer (some ⟨q, 0, none⟩), .int .i64 s] w fun v w1 => ∃ d' bl', (v = .bool (L.any fun y => y.src == s) ∧ Hp.Inv d' (Hp.dropS L s)) ∧ QSt q most came d' bl' ∧ St ms w0 (bl' ++ R) w1 := by
  refine q_run (ar := [.int .i64 s]) (Q := fun v _ d' => v = .bool (L.any fun y => y.src == s) ∧ Hp.Inv d' (Hp.dropS L s)) rfl hQ S (fun h0 => ?_) fun c us hc hl => ?_
  · rw [drop_z]
    have := inv_zero hI h0
    subst this
    exact ⟨rfl, rfl, rfl, rfl, Hp.Inv.nil⟩
  · rw [drop_vc]
    unfold dropXX
    refine ctP_ok rfl ⟨h100, fun r hr => ?_⟩
    show cond _ _ _
    rcases hr with ⟨rfl, hno⟩ | ⟨j, rfl, hj, hjs⟩
    · have hall : ∀ y ∈ L, y.src ≠ s := fun y hy => by
        obtain ⟨i, hi, rfl⟩ := Hp.mem_get (hI.perm.mem_iff.2 hy)
        exact hno i hi
      have e1 : (L.any fun y => y.src == s) = false := by
        rw [List.any_eq_false]
        intro y hy
        simpa using hall y hy
      refine cnd (fun _ => ⟨rfl, rfl, d.size, d, rfl, Nat.le_refl _, rfl, by rw [e1]; rfl, ?_⟩) fun h => by simp at h
      rw [Hp.ext_all, Hp.drop_no hall]
      exact hI
    · have e1 : (L.any fun y => y.src == s) = true := by
        rw [List.any_eq_true]
        exact ⟨d[j]!, hI.perm.mem_iff.1 (Hp.get_mem hj), by simpa using hjs⟩
      obtain ⟨n, hn⟩ : ∃ n, n + 1 = d.size := ⟨d.size - 1, by omega⟩
      obtain ⟨g1, g3⟩ := hI.drop hn (i := j) (by omega) hs
      rw [hjs] at g3
      refine cnd (fun h => by simp at h; omega) fun _ => ctP_ok rfl ?_
      show cond (wI ((d.size : Int) - 1) != (j : Int)) _ _
      rw [lastI hn h100]
      have hsz : (Sort.swp d j n).size = d.size := Sort.swp_size d j n
      have fin : ∀ D : AW, D = Hp.rmv ltW n j d → lastP d.size c us most came D fun x b => wfV 0 (V.bool true) = true ∧ b.length = 2 ∧ ∃ (n : Nat) (d' : AW), b = [qB n c most came, wtB d' us] ∧ n ≤ d'.size ∧ d'.size = d.size ∧ (den [] (V.bool true) = .bool (L.any fun y => y.src == s) ∧ Hp.Inv (d'.extract 0 n) (Hp.dropS L s)) := by
        rintro D rfl
        exact lastP_ok hn g1 hc h100 ⟨rfl, rfl, n, _, rfl, by rw [show (Hp.rmv ltW n j d).size = d.size from g1]; omega, g1, by rw [e1]; rfl, g3⟩
      refine cnd (fun hne => ?_) fun he => ?_
      · have hne : n ≠ j := by
          intro h
          subst h
          simp at hne
        have hD : Hp.rmv ltW n j d = if j < (Hp.hdn ltW n j (Sort.swp d j n)).2 then (Hp.hdn ltW n j (Sort.swp d j n)).1 else Hp.hup ltW j (Hp.hdn ltW n j (Sort.swp d j n)).1 := by unfold Hp.rmv; rw [if_neg hne]
        have hsz2 : (Hp.hdn ltW n j (Sort.swp d j n)).1.size = d.size := by rw [Hp.hdn_size n _ _ _ (Nat.le_refl _), hsz]
        refine swapP_ok rfl rfl rfl hj (by omega) (ctP_ok hsz ⟨j, n, ⟨rfl, rfl, by omega, by omega, by omega⟩, ?_⟩)
        show cond _ _ _
        refine cnd (fun h => ctP_ok hsz2 ⟨j, ⟨rfl, by omega, by omega⟩, fin _ ?_⟩) fun h => fin _ ?_
        · rw [hD, if_neg (by simpa using h)]
        · rw [hD, if_pos (by simpa using h)]
      · have he : n = j := by
          have : (n : Int) = (j : Int) := by simpa using he
          omega
        subst he
        exact fin d (by unfold Hp.rmv; rw [if_pos rfl])
end Go.Proofs.Ytciiaficfmbimaa
noncomputable section
namespace Go.Proofs.Ytciiaficfmbimaa
open Go Go.RowKit Go.BigFrame Sx Vx
set_option maxRecDepth 100000
theorem permB {a b : List Blk} (h : ∀ f : Blk → Bool, a.countP f = b.countP f) : a.Perm b := by
  classical
  rw [List.perm_iff_count]
  intro x
  exact h (· == x)
def qR (g : RowG) (most came : Int) : VB := ⟨true, ⟨46, (0, 0)⟩, [.raw (.slice g.x g.n g.c), .int .i64 most, .int .u64 came]⟩
def isW (g : RowG) (d : AW) : Prop := g.T = 51 ∧ g.z = 5 ∧ g.os = (List.range d.size).flatMap (wtG d) ∧ g.n = d.size
def fdG : CTr RowG := fun args bl ch K => match args, bl, ch with
  | [.ptr 0 0, .int .i64 s], ⟨true, ⟨46, (0, 0)⟩, [.raw (.slice x n c), .int .i64 most, .int .u64 came]⟩ :: rest, [g] => ∃ d : AW, ((x = g.x ∧ n = g.n ∧ c = g.c) ∧ isW g d ∧ d.size ≤ 100) ∧ ∀ r, fdR d s r → K (.int .i64 r) bl ch
  | _, _, _ => False
def upG : CTr RowG := fun args bl ch K => match args, bl, ch with
  | [.ifc 49 (.ptr 0 0), .int .i64 j], ⟨true, ⟨46, (0, 0)⟩, [.raw (.slice x n c), .int .i64 most, .int .u64 came]⟩ :: rest, [g] => ∃ (d : AW) (i : Nat), ((x = g.x ∧ n = g.n ∧ c = g.c) ∧ isW g d ∧ j = i ∧ i < d.size ∧ d.size ≤ 100) ∧ ∀ g2 : RowG, isW g2 (Hp.hup ltW i d) → g2.x = x → g2.n = n → g2.c = c → K (.tup []) bl [g2]
  | _, _, _ => False
theorem row_two {g : RowG} {d : AW} {q : Nat} {most came : Int} (hW : isW g d) (h : g.x ≠ none) : ∃ b us, g.x = some ⟨b, 0, none⟩ ∧ g.bl = [⟨b, true, .cells ((List.range d.size).flatMap (wtG d) ++ us).toArray 51 (0, 0)⟩] ∧ d.size * 5 + us.length = g.c * 5 ∧ d.size ≤ g.c := by
  obtain ⟨h1, h2, h3, h4⟩ := hW
  have hr := g.h
  rw [h1, h2, h3, h4] at hr
  rcases hr.2.2 with ⟨h0, _⟩ | ⟨b, t, e1, e2, e3⟩
  · exact absurd h0 h
  · exact ⟨b, t, e1, e2, by rw [← e3, List.length_append, wtG_flat], hr.2.1⟩
theorem row_zero {g : RowG} {d : AW} (hW : isW g d) (h : g.x = none) : d = #[] ∧ g.bl = [] ∧ g.n = 0 ∧ g.c = 0 := by
  obtain ⟨h1, h2, h3, h4⟩ := hW
  rcases g.h.2.2 with ⟨_, e1, e2, e3⟩ | ⟨b, t, e1, e2, e3⟩
  · exact ⟨Array.eq_empty_of_size_eq_zero (by rw [← h4]; exact e1), e3, e1, e2⟩
  · rw [h] at e1; cases e1
theorem fdG_sound {gl : Nat → Option Nat} : Sound (G := RowG) Try.prog gl 15 fdG := by
  intro args ids bl ch R ms w0 w K hg hl S hc
  unfold fdG at hc
  split at hc
  · rename_i s x n c most came rest g
    obtain ⟨d, ⟨⟨rfl, rfl, rfl⟩, hW, h100⟩, hK⟩ := hc
    match ids, hl with
    | q :: more, hl =>
      have eS : lits (q :: more) (q :: more) (qR g most came :: rest) ++ nestB [g] R = ⟨q, true, .cells #[.slice g.x g.n g.c, .int .i64 most, .int .u64 came] 46 (0, 0)⟩ :: (lits (q :: more) more rest ++ (g.bl ++ R)) := rfl
      have S0 := S
      rw [show (⟨true, ⟨46, (0, 0)⟩, [.raw (.slice g.x g.n g.c), .int .i64 most, .int .u64 came]⟩ : VB) = qR g most came from rfl, eS] at S0
      cases hx : g.x with
      | none =>
        obtain ⟨rfl, hb, hn, hcc⟩ := row_zero hW hx
        rw [hx, hn, hcc, hb] at S0
        have S1 : St ms w0 (lits [q] [q] [qZ most came] ++ (lits (q :: more) more rest ++ ([] ++ R))) w := S0
        have hgv := run_c (C := mkW Try.prog (LLn Empty) (fun _ _ => none)) (LLn_ok (G := Empty) (gl := gN0)).T (LLn_ok (G := Empty) (gl := gN0)).Q rfl (f := 15) (args := [.ptr 0 0, .int .i64 s]) (ids := [q]) (bl := [qZ most came]) rfl (K := fun v b => v = .int .i64 (-1) ∧ b = [qZ most came]) (by
          show vcF _ 60 _ _ _ _ (gcK 1 _)
          rw [find_z]
          exact ⟨rfl, rfl, rfl, rfl⟩) S1
        refine hgv.mono ?_
        rintro v w1 ⟨y, b, rfl, S2, rfl, rfl⟩
        refine ⟨.int .i64 (-1), [], _, [g], rfl, by simpa using hl, ?_, hK (-1) (.inl ⟨rfl, fun k hk => by simp at hk⟩)⟩
        rw [List.append_nil, show (⟨true, ⟨46, (0, 0)⟩, [.raw (.slice g.x g.n g.c), .int .i64 most, .int .u64 came]⟩ : VB) = qR g most came from rfl, eS, hx, hn, hcc, hb]
        exact S2
      | some a =>
        obtain ⟨b, us, hx2, hb, hl2, hle⟩ := row_two (q := q) (most := most) (came := came) hW (by rw [hx]; simp)
        have hn := hW.2.2.2
        have e1 : ⟨q, true, .cells #[.slice g.x g.n g.c, .int .i64 most, .int .u64 came] 46 (0, 0)⟩ :: g.bl = lits [q, b] [q, b] [qB d.size g.c most came, wtB d us] := by rw [q_lits, hb, hx2, hn]
        have S1 : St ms w0 (lits [q, b] [q, b] [qB d.size g.c most came, wtB d us] ++ (lits (q :: more) more rest ++ R)) w := by
          rw [← e1]
          refine S0.perm (permB fun f => ?_)
          simp only [List.countP_append, List.countP_cons]
          omega
        refine (fd_body [.int .i64 s] d us g.c most came q b (fun v d' => (∃ r, v = .int .i64 r ∧ fdR d s r) ∧ d' = d) _ ms w0 w ⟨h100, fun r hr => ⟨⟨r, rfl, hr⟩, rfl⟩⟩ S1).mono ?_
        rintro v w1 ⟨vv, d', rfl, hw, ⟨⟨r, rfl, hr⟩, rfl⟩, S2⟩
        refine ⟨.int .i64 r, [], _, [g], rfl, by simpa using hl, ?_, hK r hr⟩
        rw [List.append_nil, show (⟨true, ⟨46, (0, 0)⟩, [.raw (.slice g.x g.n g.c), .int .i64 most, .int .u64 came]⟩ : VB) = qR g most came from rfl, eS]
        rw [← e1] at S2
        refine S2.perm (permB fun f => ?_)
        simp only [List.countP_append, List.countP_cons]
        omega
  · exact hc.elim
theorem upG_sound {gl : Nat → Option Nat} : Sound (G := RowG) Try.prog gl 22 upG := by
  intro args ids bl ch R ms w0 w K hg hl S hc
  unfold upG at hc
  split at hc
  · rename_i j x n c most came rest g
    obtain ⟨d, i, ⟨⟨rfl, rfl, rfl⟩, hW, rfl, hi, h100⟩, hK⟩ := hc
    match ids, hl with
    | q :: more, hl =>
      have eS : ∀ g2 : RowG, g2.x = g.x → g2.n = g.n → g2.c = g.c → lits (q :: more) (q :: more) (qR g most came :: rest) ++ nestB [g2] R = ⟨q, true, .cells #[.slice g2.x g2.n g2.c, .int .i64 most, .int .u64 came] 46 (0, 0)⟩ :: (lits (q :: more) more rest ++ (g2.bl ++ R)) := fun g2 e1 e2 e3 => by rw [e1, e2, e3]; rfl
      have S0 := S
      rw [show (⟨true, ⟨46, (0, 0)⟩, [.raw (.slice g.x g.n g.c), .int .i64 most, .int .u64 came]⟩ : VB) = qR g most came from rfl, eS g rfl rfl rfl] at S0
      have hxn : g.x ≠ none := fun h0 => by
        obtain ⟨rfl, _⟩ := row_zero hW h0
        simp at hi
      obtain ⟨b, us, hx2, hb, hl2, hle⟩ := row_two (q := q) (most := most) (came := came) hW hxn
      have hn := hW.2.2.2
      have e1 : ⟨q, true, .cells #[.slice g.x g.n g.c, .int .i64 most, .int .u64 came] 46 (0, 0)⟩ :: g.bl = lits [q, b] [q, b] [qB d.size g.c most came, wtB d us] := by rw [q_lits, hb, hx2, hn]
      have S1 : St ms w0 (lits [q, b] [q, b] [qB d.size g.c most came, wtB d us] ++ (lits (q :: more) more rest ++ R)) w := by
        rw [← e1]
        refine S0.perm (permB fun f => ?_)
        simp only [List.countP_append, List.countP_cons]
        omega
      refine (up_body [.int .i64 i] d us g.c most came q b (fun v d' => v = .tup [] ∧ d' = Hp.hup ltW i d) _ ms w0 w ⟨i, ⟨rfl, hi, h100⟩, rfl, rfl⟩ S1).mono ?_
      rintro v w1 ⟨vv, d', rfl, hw, ⟨rfl, rfl⟩, S2⟩
      have hsz : (Hp.hup ltW i d).size = d.size := Hp.hup_size i d
      let g2 : RowG := ⟨51, 5, (List.range (Hp.hup ltW i d).size).flatMap (wtG (Hp.hup ltW i d)), g.x, g.n, g.c, [⟨b, true, .cells ((List.range (Hp.hup ltW i d).size).flatMap (wtG (Hp.hup ltW i d)) ++ us).toArray 51 (0, 0)⟩], by
        rw [hn]
        exact ⟨by rw [wtG_flat, hsz], hle, .inr ⟨b, us, hx2, rfl, by rw [List.length_append, wtG_flat, hsz]; exact hl2⟩⟩⟩
      refine ⟨.tup [], [], _, [g2], rfl, by simpa using hl, ?_, hK g2 ⟨rfl, rfl, rfl, by show g.n = _; rw [hsz, hn]⟩ rfl rfl rfl⟩
      rw [List.append_nil, show (⟨true, ⟨46, (0, 0)⟩, [.raw (.slice g.x g.n g.c), .int .i64 most, .int .u64 came]⟩ : VB) = qR g most came from rfl, eS g2 rfl rfl rfl]
      have e2 : ⟨q, true, .cells #[.slice g2.x g2.n g2.c, .int .i64 most, .int .u64 came] 46 (0, 0)⟩ :: g2.bl = lits [q, b] [q, b] [qB d.size g.c most came, wtB (Hp.hup ltW i d) us] := by
        rw [q_lits]
        show [(⟨q, true, .cells #[.slice g.x g.n g.c, .int .i64 most, .int .u64 came] 46 (0, 0)⟩ : Blk), _] = _
        rw [hx2, hn]
      rw [← e2] at S2
      refine S2.perm (permB fun f => ?_)
      simp only [List.countP_append, List.countP_cons]
      omega
  · exact hc.elim
def LPu : List (Ent RowG) := [⟨15, false, fdG⟩, ⟨22, false, upG⟩]
theorem LPu_ok : AllOk Try.prog gN0 LPu :=
  have n : ∀ {c : CTr RowG}, (false = true → QuietC c) := fun e => by cases e
  AllOk.cons ⟨fdG_sound, n⟩ (AllOk.cons ⟨upG_sound, n⟩ AllOk.nil)
def puH : (Operand → V) → Op → List VB → List RowG → VK RowG → Prop := fun e op bl ch K => cond (isO e op) (appO Try.prog e op bl ch K) (appH Try.prog e op bl ch K)
theorem puH_ok {gl : Nat → Option Nat} : HOk Try.prog gl puH := hor_ok isO appO_ok appH_ok
noncomputable abbrev CPu : Ctx RowG := mkH Try.prog gN0 LPu puH puH_ok
section
variable (os : List Value) (x : Option Addr) (n c : Nat) (bk : List Blk) (h : rowv 5 51 os x n c bk) (most came : Int) (a : Sd.Wt) (K : VK RowG)
def rowW : RowG := ⟨51, 5, os, x, n, c, bk, h⟩
def oneW (a : Sd.Wt) (came : Int) : List V := askW a ++ [.int .u64 came]
def puXX : Prop := ∃ d : AW, ((x = x ∧ n = n ∧ c = c) ∧ isW (rowW os x n c bk h) d ∧ d.size ≤ 100) ∧ ∀ r, fdR d a.src r → cond (decide (r ≥ 0)) (K (.int .i64 27) [qR (rowW os x n c bk h) most came] [rowW os x n c bk h])
  (cond (decide ((n : Int) ≥ most)) (K (.int .i64 3) [qR (rowW os x n c bk h) most came] [rowW os x n c bk h])
    (((rowW os x n c bk h).v = (rowW os x n c bk h).v ∧ n + 1 ≤ 1000000) ∧ ∀ (x2 : Option Addr) (c2 : Nat) (bk2 : List Blk) (h2 : rowv 5 51 (os ++ denC [] (oneW a came)) x2 (n + 1) c2 bk2),
      ∃ (d : AW) (i : Nat), ((x2 = x2 ∧ n + 1 = n + 1 ∧ c2 = c2) ∧ isW (rowW (os ++ denC [] (oneW a came)) x2 (n + 1) c2 bk2 h2) d ∧ wI (((n + 1 : Nat) : Int) - 1) = i ∧ i < d.size ∧ d.size ≤ 100) ∧
        ∀ g2 : RowG, isW g2 (Hp.hup ltW i d) → g2.x = x2 → g2.n = n + 1 → g2.c = c2 →
          K (.int .i64 0) [⟨true, ⟨46, (0, 0)⟩, [.raw (.slice x2 (n + 1) c2), .int .i64 most, .int .u64 (IntKind.u64.wrap (came + 1))]⟩] [g2]))
theorem pu_vc : vcF CPu 60 8 [.ptr 0 0, .agg (askW a)] [qR (rowW os x n c bk h) most came] [rowW os x n c bk h] (gcK 1 K) = puXX os x n c bk h most came a K := by kernel_rfl
end
end Go.Proofs.Ytciiaficfmbimaa
noncomputable section
namespace Go.Proofs.Ytciiaficfmbimaa
open Go Go.RowKit Go.BigFrame Sx Vx
set_option maxRecDepth 100000
def pushW (most : Int) (L : List Sd.Wt) (a : Sd.Wt) : Int × List Sd.Wt := bif L.any fun y => y.src == a.src then (27, L) else bif decide (most ≤ L.length) then (3, L) else (0, Hp.insW a L)
def pushC (c : Int) (came : Int) : Int := bif c == 0 then IntKind.u64.wrap (came + 1) else came
theorem q_push {q : Nat} {most came : Int} {d : AW} {L : List Sd.Wt} {bl R : List Blk} {ms : List Nat} {w0 w : World} (a : Sd.Wt) (ha : a.came = came) (hI : Hp.Inv d L) (h100 : d.size < 100) (hc : ∀ y ∈ L, y.came < came) (hQ : QSt q most came d bl) (S : St ms w0 (bl ++ R) w) :
    Gives Try.prog 8 #[.pointer (some ⟨q, 0, none⟩), askA a] w fun v w1 => ∃ d' bl', (v = .int .i64 (pushW most L a).1 ∧ Hp.Inv d' (pushW most L a).2) ∧ QSt q most (pushC (pushW most L a).1 came) d' bl' ∧ St ms w0 (bl' ++ R) w1 := by
  obtain ⟨x, c, rows, rfl, hr⟩ := hQ
  have S0 : St ms w0 (lits [q] [q] [qR (rowW _ x d.size c rows hr) most came] ++ nestB [rowW _ x d.size c rows hr] R) w := S
  have hlen := hI.len
  let KK : VK RowG := fun v b ch => ∃ (g2 : RowG) (d' : AW) (cm : Int), v = .int .i64 (pushW most L a).1 ∧ b = [qR g2 most cm] ∧ ch = [g2] ∧ isW g2 d' ∧ Hp.Inv d' (pushW most L a).2 ∧ cm = pushC (pushW most L a).1 came
  have hvc : vcF CPu 60 8 [.ptr 0 0, .agg (askW a)] [qR (rowW _ x d.size c rows hr) most came] [rowW _ x d.size c rows hr] (gcK 1 KK) := by
    rw [pu_vc]
    refine ⟨d, ⟨⟨rfl, rfl, rfl⟩, ⟨rfl, rfl, rfl, rfl⟩, by omega⟩, fun r hfd => ?_⟩
    have hany : (L.any fun y => y.src == a.src) = decide (0 ≤ r) := by
      rcases hfd with ⟨rfl, hno⟩ | ⟨j, rfl, hj, hjs⟩
      · rw [show decide ((0 : Int) ≤ -1) = false from rfl, List.any_eq_false]
        intro y hy
        obtain ⟨i, hi, rfl⟩ := Hp.mem_get (hI.perm.mem_iff.2 hy)
        simpa using hno i hi
      · rw [show decide ((0 : Int) ≤ (j : Int)) = true by simp, List.any_eq_true]
        exact ⟨d[j]!, hI.perm.mem_iff.1 (Hp.get_mem hj), by simpa using hjs⟩
    refine cnd (fun h => ?_) fun h => cnd (fun h2 => ?_) fun h2 => ?_
    · have e : pushW most L a = (27, L) := by
        unfold pushW
        rw [hany, show decide (0 ≤ r) = true from h]
        rfl
      exact ⟨_, d, came, by rw [e], rfl, rfl, ⟨rfl, rfl, rfl, rfl⟩, by rw [e]; exact hI, by rw [e]; rfl⟩
    · have e : pushW most L a = (3, L) := by
        unfold pushW
        rw [hany, show decide (0 ≤ r) = false from h, hlen, show decide (most ≤ (d.size : Int)) = true from h2]
        rfl
      exact ⟨_, d, came, by rw [e], rfl, rfl, ⟨rfl, rfl, rfl, rfl⟩, by rw [e]; exact hI, by rw [e]; rfl⟩
    · have e : pushW most L a = (0, Hp.insW a L) := by
        unfold pushW
        rw [hany, show decide (0 ≤ r) = false from h, hlen, show decide (most ≤ (d.size : Int)) = false from h2]
        rfl
      obtain ⟨g1, g2⟩ := hI.push a (fun y hy => by rw [ha]; exact hc y hy)
      refine ⟨⟨rfl, by omega⟩, fun x2 c2 bk2 h3 => ⟨d.push a, d.size, ⟨⟨rfl, rfl, rfl⟩, ⟨rfl, rfl, ?_, by simp [rowW]⟩, by rw [wrapW (by omega)]; omega, by simp, by simp; omega⟩, fun g hg e1 e2 e3 => ?_⟩⟩
      · show _ ++ _ = _
        rw [Array.size_push, List.range_succ, List.flatMap_append]
        congr 1
        · have : ∀ l : List Nat, (∀ i ∈ l, i < d.size) → l.flatMap (wtG d) = l.flatMap (wtG (d.push a)) := by
            intro l
            induction l with
            | nil => intro _; rfl
            | cons i l ih =>
              intro hh
              rw [List.flatMap_cons, List.flatMap_cons, ih fun k hk => hh k (List.mem_cons_of_mem _ hk)]
              congr 1
              simp only [wtG]
              rw [Hp.push_get (hh i List.mem_cons_self)]
          exact this _ fun i hi => List.mem_range.1 hi
        · have e5 : (d.push a)[d.size]! = a := by simp
          simp only [List.flatMap_cons, List.flatMap_nil, List.append_nil, wtG, e5, ha]
          rfl
      · refine ⟨g, _, IntKind.u64.wrap (came + 1), by rw [e], ?_, rfl, hg, by rw [e]; exact g2, by rw [e]; rfl⟩
        rw [← e1, ← e2, ← e3]
        rfl
  refine (vcF_ok LPu_ok.T LPu_ok.Q 60 (C := CPu) (fun g i h => nomatch h) rfl S0 hvc).mono ?_
  rintro v w1 ⟨y, more, bl', ch', rfl, h1, S', hK⟩
  obtain ⟨v2, more2, bl2, hv, hl2, S2, g2, d', cm, rfl, rfl, rfl, hg, hI2, rfl⟩ := gcK_ok (n0 := 1) h1 (by simp) S' hK
  have htk : ([q] ++ more).take 1 = [q] := rfl
  rw [htk] at S2 hv hl2
  obtain rfl : more2 = [] := List.eq_nil_of_length_eq_zero (by simpa using hl2)
  obtain ⟨t1, t2, t3, t4⟩ := hg
  refine ⟨d', _ :: g2.bl, ⟨by rw [hv]; rfl, hI2⟩, ⟨g2.x, g2.c, g2.bl, rfl, ?_⟩, ?_⟩
  · have := g2.h
    rw [t1, t2, t3, t4] at this
    exact this
  · have e : lits ([q] ++ []) ([q] ++ []) [qR g2 most (pushC (pushW most L a).1 came)] ++ nestB [g2] R = ⟨q, true, .cells #[.slice g2.x g2.n g2.c, .int .i64 most, .int .u64 (pushC (pushW most L a).1 came)] 46 (0, 0)⟩ :: (g2.bl ++ R) := rfl
    rw [e, t4] at S2
    exact S2
end Go.Proofs.Ytciiaficfmbimaa
noncomputable section
namespace Vx
open Go Go.RowKit Go.BigFrame Sx
variable {G : Type} [Bl G]
theorem flatL {z : Nat} {f : Nat → List Value} (h : ∀ j, (f j).length = z) : ∀ m, ((List.range m).flatMap f).length = m * z
  | 0 => by simp
  | m + 1 => by rw [List.range_succ, List.flatMap_append, List.length_append, flatL h m]; simp [h, Nat.add_mul]
def appC (P : Program) : (Operand → V) → Op → List VB → List G → VK G → Prop := fun e op bl ch K => match op with
  | .call c => (match c.callee, c.args.toList, c.argTypes.toList with
    | .builtin .append, [s, xs], [t, tx] => (match P.underlying t, P.underlying tx with
      | some (.slice T), some (.slice _) => (match rowInfo P T, e s, e xs with
        | some (z, by_), .sl _ _ 0 0, .sl i 0 m _ => (match bl[i]? with
          | some ⟨_, _, [.rowp z' m' g, .rest _]⟩ => cond (Nat.beq z z' && (Nat.ble by_ 10000000 && wfB bl.length bl))
              ((m' = m ∧ 0 < m ∧ m ≤ 1000000 ∧ (∀ j, (g j).length = z) ∧ (∀ j u, u ∈ g j → u.oneCell' = true)) ∧
                ∀ (c' : Nat) (u : List Value), m ≤ c' → m * z + u.length = c' * z → K (.sl bl.length 0 m c') (bl ++ [⟨true, ⟨T, (0, 0)⟩, [.rowp z m g, .rest u]⟩]) ch) False
          | _ => False)
        | _, _, _ => False)
      | _, _ => False)
    | _, _, _ => False)
  | _ => False
theorem appC_ok {P : Program} {gl : Nat → Option Nat} : HOk (G := G) P gl (appC P) := by
  intro e op ids bl ch R ms w0 w K ρ o hg hl S hρ ho h
  unfold appC at h
  split at h
  · rename_i c
    split at h
    · rename_i s xs t tx hcal hargs hts
      split at h
      · rename_i T T' ht htx
        split at h
        · rename_i z by_ j0 o0 i m cc2 hinfo hes hxs
          split at h
          · rename_i wr ty z' m' g us hb
            cases hq : Nat.beq z z' && (Nat.ble by_ 10000000 && wfB bl.length bl) with
            | false => rw [hq] at h; exact h.elim
            | true =>
              rw [hq] at h
              simp only [cond_true] at h
              simp only [Bool.and_eq_true] at hq
              obtain ⟨q1, q5, q10⟩ := hq
              obtain rfl := Nat.eq_of_beq_eq_true q1
              have q5 := Nat.le_of_ble_eq_true q5
              obtain ⟨⟨rfl, hm0, q6, hgl, hone⟩, h⟩ := h
              have hat := (at_lit hl S hb).2
              have hnews : ((List.range m').flatMap g).length = m' * z := flatL hgl m'
              have hcells : ∀ is : List Nat, denC is [V.rowp z m' g, .rest us] = (List.range m').flatMap g ++ us := fun is => by simp [denC, cl]
              have hsrc : Src P z tx (.slice (some ⟨ids.getD i 0, 0, none⟩) m' cc2) m' ((List.range m').flatMap g) w := by
                refine Src.ofSlice w htx ⟨ids.getD i 0, 0, none⟩ m' cc2 _ hnews (fun j u hj => ?_) (fun u hu => ?_)
                · rw [Addr.add_lit, cell_of hat]
                  simp only [hcells]
                  have hj2 : j < ((List.range m').flatMap g).length := by
                    rcases Nat.lt_or_ge j ((List.range m').flatMap g).length with h | h
                    · exact h
                    · rw [List.getElem?_eq_none h] at hj; cases hj
                  rw [List.getElem?_toArray, Nat.zero_add, List.getElem?_append_left hj2]
                  exact hj
                · obtain ⟨j, _, hj⟩ := List.mem_flatMap.1 hu
                  exact hone j u hj
              have hb1 : m' * by_ ≤ 140737488355328 := Nat.le_trans (Nat.mul_le_mul q6 q5) (by decide)
              obtain ⟨cal, ar, ats⟩ := c
              simp only at hcal hargs hts
              have e2 : ar = #[s, xs] := by rw [← hargs]
              have e3 : ats = #[t, tx] := by rw [← hts]
              subst hcal e2 e3
              obtain ⟨b', c', tail, w', hrun, hc, hge, hh, hlen, r2⟩ := run_append_e (P := P) (ty := o.type) (x := some ⟨ids.getD j0 0, o0, none⟩) by_ hsrc hm0 ht (rowInfo_ok hinfo) hb1 (Nat.le_trans q6 (by decide))
              refine ⟨_, [b'], _, ch, w', .inl ?_, by simp [hl], ?_, h c' tail r2 ?_⟩
              · have := append_op (P := P) (ρ := ρ) (o := o) ho (sv := .slice (some ⟨ids.getD j0 0, o0, none⟩) 0 0) (xv := .slice (some ⟨ids.getD i 0, 0, none⟩) m' cc2) (by rw [hρ, hes]; simp only [den]) (by rw [hρ, hxs]; simp only [den]) hrun
                rw [this]
                simp only [den]
                rw [← hl, getD_last]
              · rw [lits_app _ _ _ _ hl, lits_ids _ _ (by rw [hl]; exact q10)]
                have e4 : denC (ids ++ [b']) [V.rowp z m' g, .rest tail] = (List.range m').flatMap g ++ tail := by simp [denC, cl]
                simp only [lits, mkB]
                rw [e4]
                have := S.new hc hge hh
                refine this.perm ?_
                rw [List.append_assoc (lits ids ids bl)]
                exact (List.perm_middle).symm
              · rw [← hlen, List.length_append, hnews]
          · exact h.elim
        · exact h.elim
      · exact h.elim
    · exact h.elim
  · exact h.elim
end Vx
namespace Go.Proofs.Ytciiaficfmbimaa
open Go Go.RowKit Go.BigFrame Sx Vx
set_option maxRecDepth 100000
def cpH {G : Type} [Bl G] : (Operand → V) → Op → List VB → List G → VK G → Prop := fun e op bl ch K => cond (isO e op) (appO Try.prog e op bl ch K) (appC Try.prog e op bl ch K)
theorem cpH_ok {G : Type} [Bl G] {gl : Nat → Option Nat} : HOk (G := G) Try.prog gl cpH := hor_ok isO appO_ok appC_ok
def LSt : List (Ent Empty) := [⟨24, false, sC true sortM⟩]
theorem LSt_ok : AllOk Try.prog gN0 LSt := AllOk.cons ⟨s_frame sort_body, fun e => by cases e⟩ AllOk.nil
noncomputable abbrev CSt : Ctx Empty := mkH Try.prog gN0 LSt cpH cpH_ok
noncomputable abbrev CS0 : Ctx Empty := mkH Try.prog gN0 [] cpH cpH_ok
section
variable (M c : Nat) (us : List Value) (most came : Int) (d : AW) (K : VK Empty)
def oneF (d : AW) (z : Nat) : Prop := (∀ j, (wtG d j).length = z) ∧ (∀ (j : Nat) (u : Value), u ∈ wtG d j → u.oneCell' = true)
def stXX : Prop := (d.size = M + 1 ∧ 0 < M + 1 ∧ M + 1 ≤ 1000000 ∧ oneF d 5) ∧ ∀ (c' : Nat) (u : List Value), M + 1 ≤ c' → (M + 1) * 5 + u.length = c' * 5 →
  ∃ d1 : AW, (wtG d = wtG d1 ∧ M + 1 = d1.size ∧ M + 1 = d1.size) ∧ d1.size ≤ 100 ∧ ∀ d' : AW, Sort.PermIn 0 d1.size d1 d' → Sort.SortedIn ltW 0 d1.size d' → K (.sl 2 0 (M + 1) c') [qB (M + 1) c most came, wtB d us, wtB d' u] []
theorem st_vc : vcF CSt 60 17 [.ptr 0 0] [qB (M + 1) c most came, wtB d us] [] (gcK 2 K) = stXX M c us most came d K := by kernel_rfl
theorem ls_vc0 : vcF CS0 60 9 [.ptr 0 0] [qB 0 c most came, wtB #[] us] [] (gcK 2 K) = K (.raw (.slice none 0 0)) [qB 0 c most came, wtB #[] us] [] := by kernel_rfl
theorem ls_vcz : vcF CS0 60 9 [.ptr 0 0] [qZ most came] [] (gcK 1 K) = K (.raw (.slice none 0 0)) [qZ most came] [] := by kernel_rfl
end
theorem oneF_ok (d : AW) : oneF d 5 := ⟨fun j => rfl, fun j u hu => by
  simp only [wtG, List.mem_cons, List.not_mem_nil, or_false] at hu
  rcases hu with rfl | rfl | rfl | rfl | rfl <;> rfl⟩
def stC : CTr RowG := fun args bl ch K => match args, bl with
  | [.ptr 0 0], ⟨true, ⟨46, (0, 0)⟩, [.sl 1 0 (m + 1) c, .int .i64 most, .int .u64 came]⟩ :: ⟨true, ⟨51, (0, 0)⟩, [.rowp 5 m' g, .rest us]⟩ :: rest =>
    cond (wfB bl.length bl) (∃ d : AW, (g = wtG d ∧ m' = d.size ∧ m + 1 = d.size ∧ d.size ≤ 100) ∧ ∀ (d' : AW) (c' : Nat) (u : List Value), Sort.PermIn 0 d.size d d' → Sort.SortedIn ltW 0 d.size d' → K (.sl bl.length 0 (m + 1) c') (bl ++ [wtB d' u]) ch) False
  | _, _ => False
theorem stC_sound {gl : Nat → Option Nat} : Sound (G := RowG) Try.prog gl 17 stC := by
  intro args ids bl ch R ms w0 w K hg hl S hc
  unfold stC at hc
  split at hc
  · rename_i m c most came m' g us rest
    cases hq : wfB (⟨true, ⟨46, (0, 0)⟩, [.sl 1 0 (m + 1) c, .int .i64 most, .int .u64 came]⟩ :: ⟨true, ⟨51, (0, 0)⟩, [.rowp 5 m' g, .rest us]⟩ :: rest : List VB).length (⟨true, ⟨46, (0, 0)⟩, [.sl 1 0 (m + 1) c, .int .i64 most, .int .u64 came]⟩ :: ⟨true, ⟨51, (0, 0)⟩, [.rowp 5 m' g, .rest us]⟩ :: rest : List VB) with
    | false => rw [hq] at hc; exact hc.elim
    | true =>
      rw [hq] at hc
      obtain ⟨d, ⟨rfl, rfl, hm, h100⟩, hK⟩ := hc
      match ids, hl with
      | q :: b :: more, hl =>
        have e1 : lits (q :: b :: more) (q :: b :: more) (qB (m + 1) c most came :: wtB d us :: rest) = lits [q, b] [q, b] [qB (m + 1) c most came, wtB d us] ++ lits (q :: b :: more) more rest := rfl
        have S1 : St ms w0 (lits [q, b] [q, b] [qB (m + 1) c most came, wtB d us] ++ nestB ([] : List Empty) (lits (q :: b :: more) more rest ++ nestB ch R)) w := by
          simp only [nestB]
          rw [← List.append_assoc, ← e1]; exact S
        let KK : VK Empty := fun v bb _ => ∃ (d' : AW) (c' : Nat) (u : List Value), v = .sl 2 0 (m + 1) c' ∧ bb = [qB (m + 1) c most came, wtB d us, wtB d' u] ∧ Sort.PermIn 0 d.size d d' ∧ Sort.SortedIn ltW 0 d.size d'
        have hvc : vcF CSt 60 17 [.ptr 0 0] [qB (m + 1) c most came, wtB d us] [] (gcK 2 KK) := by
          rw [st_vc]
          exact ⟨⟨hm.symm, by omega, by omega, oneF_ok d⟩, fun c' u hc' hl' => ⟨d, ⟨rfl, hm, hm⟩, h100, fun d' h1 h2 => ⟨d', c', u, rfl, rfl, h1, h2⟩⟩⟩
        refine (vcF_ok LSt_ok.T LSt_ok.Q 60 (C := CSt) (ids := [q, b]) (fun g i h => nomatch h) rfl S1 hvc).mono ?_
        rintro v w1 ⟨y, mm, bl', ch', rfl, h1, S', hK'⟩
        obtain ⟨v2, more2, bl2, hv, hl2, S2, d', c', u, rfl, rfl, p1, p2⟩ := gcK_ok (n0 := 2) h1 (by simp) S' hK'
        have htk : ([q, b] ++ mm).take 2 = [q, b] := rfl
        rw [htk] at S2 hv hl2
        cases ch' with
        | cons e _ => exact nomatch e
        | nil =>
        match more2, hl2 with
        | [k], hl2 =>
          refine ⟨.sl (rest.length + 2) 0 (m + 1) c', [k], _, ch, ?_, by simp at hl ⊢; omega, ?_, hK d' c' u p1 p2⟩
          · rw [hv]
            have hl3 : (q :: b :: more).length = rest.length + 2 := by simpa using hl
            simp only [den]
            rw [← hl3, getD_last]
            rfl
          · have hl0 : (q :: b :: more).length = (qB (m + 1) c most came :: wtB d us :: rest).length := hl
            rw [show (⟨true, ⟨46, (0, 0)⟩, [.sl 1 0 (m + 1) c, .int .i64 most, .int .u64 came]⟩ :: ⟨true, ⟨51, (0, 0)⟩, [.rowp 5 d.size (wtG d), .rest us]⟩ :: rest : List VB) = qB (m + 1) c most came :: wtB d us :: rest from rfl, lits_app _ _ _ _ hl0, lits_ids _ _ (by rw [hl0]; exact hq), e1]
            have e2 : lits ([q, b] ++ [k]) ([q, b] ++ [k]) [qB (m + 1) c most came, wtB d us, wtB d' u] = lits [q, b] [q, b] [qB (m + 1) c most came, wtB d us] ++ [⟨k, true, .cells (denC [] [.rowp 5 d'.size (wtG d'), .rest u]).toArray 51 (0, 0)⟩] := by
              rw [show ([qB (m + 1) c most came, wtB d us, wtB d' u] : List VB) = [qB (m + 1) c most came, wtB d us] ++ [wtB d' u] from rfl, lits_app _ _ _ _ (show [q, b].length = [qB (m + 1) c most came, wtB d us].length from rfl), lits_ids (ids := [q, b]) (more := [k]) [q, b] [qB (m + 1) c most came, wtB d us] rfl]
              congr 1
            have e3 : lits ((q :: b :: more) ++ [k]) [k] [wtB d' u] = [⟨k, true, .cells (denC [] [.rowp 5 d'.size (wtG d'), .rest u]).toArray 51 (0, 0)⟩] := by
              simp only [lits, mkB, wtB, denC, cl]
            rw [e2] at S2
            rw [e3]
            refine S2.perm (permB fun f => ?_)
            simp only [List.countP_append, List.countP_cons, nestB]
            omega
  · exact hc.elim
end Go.Proofs.Ytciiaficfmbimaa
noncomputable section
namespace Go.Proofs.Ytciiaficfmbimaa
open Go Go.RowKit Go.BigFrame Sx Vx
set_option maxRecDepth 100000
def akG (d : AW) (j : Nat) : List Value := [.int .i64 d[j]!.src, .int .i64 d[j]!.rank, .int .i64 d[j]!.at_, .int .i64 d[j]!.most]
def mkHL {G : Type} [Bl G] (P : Program) (gl : Nat → Option Nat) (L : List (Ent G)) (h : (Operand → V) → Op → List VB → List G → VK G → Prop) (hok : HOk P gl h) (lp : Nat → List V → Option (Lp G)) : Ctx G := ⟨P, lkT L, gl, lkQ L, h, hok, lp, noY, noY_ok⟩
structure LsX (d : AW) where
  d' : AW
  c' : Nat
  u : List Value
  hP : Sort.PermIn 0 d.size d d'
  hS : Sort.SortedIn ltW 0 d.size d'
  j : Nat
  hj : j ≤ d.size
  x : Option Addr
  c : Nat
  bk : List Blk
  h : rowv 4 32 ((List.range j).flatMap (akG d')) x j c bk
def LsX.r {d : AW} (y : LsX d) : RowG := ⟨32, 4, (List.range y.j).flatMap (akG y.d'), y.x, y.j, y.c, y.bk, y.h⟩
def LSo1 : List (Ent RowG) := [⟨17, false, stC⟩]
theorem LSo1_ok : AllOk Try.prog gN0 LSo1 := AllOk.cons ⟨stC_sound, fun e => by cases e⟩ AllOk.nil
section
variable (M c : Nat) (us : List Value) (most came : Int) (d : AW)
def lsV (y : LsX d) : List V := [y.r.v, .sl 2 0 (M + 1) y.c', .int .i64 (M + 1 : Nat), .int .i64 y.j]
def lsB (y : LsX d) : List VB := [qB (M + 1) c most came, wtB d us, wtB y.d' y.u]
def lsLp : Lp RowG := mkLp (X := LsX d) (fun y => d.size - y.j) 20 3 [3, 7, 8, 9] (lsV M d) (lsB M c us most came d) (fun y => [y.r]) (fun _ => rfl) (fun _ => rfl) (fun _ => rfl)
variable (K : VK RowG)
def lsBody (y : LsX d) : Prop := (0 ≤ (y.j : Int) ∧ (y.j : Int) < ((M + 1 : Nat) : Int)) ∧ ((y.j : Int).toNat < y.d'.size ∧ ∀ j, (wtG y.d' j).length = 5) ∧ (y.r.v = y.r.v ∧ y.j + 1 ≤ 1000000) ∧
  ∀ (x : Option Addr) (c2 : Nat) (bk : List Blk) (h : rowv 4 32 (y.r.os ++ denC [] (askW y.d'[(y.j : Int).toNat]!)) x (y.j + 1) c2 bk),
    true = true ∧ enD (fun y : LsX d => d.size - y.j) (lsV M d) (lsB M c us most came d) (fun y => [y.r]) y [.raw (.slice x (y.j + 1) c2), .sl 2 0 (M + 1) y.c', .int .i64 (M + 1 : Nat), .int .i64 (wI ((y.j : Int) + 1))] (lsB M c us most came d y) [⟨32, 4, y.r.os ++ denC [] (askW y.d'[(y.j : Int).toNat]!), x, y.j + 1, c2, bk, h⟩]
def lsXX : Prop := ∃ d1 : AW, (wtG d = wtG d1 ∧ d.size = d1.size ∧ M + 1 = d1.size ∧ d1.size ≤ 100) ∧ ∀ (d' : AW) (c' : Nat) (u : List Value), Sort.PermIn 0 d1.size d1 d' → Sort.SortedIn ltW 0 d1.size d' →
  (true = true ∧ enD0 (lsV M d) (lsB M c us most came d) (fun y => [y.r]) [.raw (.slice none 0 0), .sl 2 0 (M + 1) c', .int .i64 (M + 1 : Nat), .int .i64 0] [qB (M + 1) c most came, wtB d us, wtB d' u] [RowG.nil 32 4]) ∧
  ∀ (y : LsX d) (g : Nat → Value), cond (decide ((y.j : Int) < ((M + 1 : Nat) : Int))) (lsBody M c us most came d y) (K y.r.v [qB (M + 1) c most came, wtB d us] [y.r])
theorem ls_vc : vcF (mkHL Try.prog gN0 LSo1 (appH Try.prog) appH_ok (fun i fr => lp1 0 (lsLp M c us most came d) i)) 60 9 [.ptr 0 0] [qB (M + 1) c most came, wtB d us] [RowG.nil 32 4] (gcK 2 K) = lsXX M c us most came d K := by kernel_rfl
end
theorem q_list {q : Nat} {most came : Int} {d : AW} {L : List Sd.Wt} {bl R : List Blk} {ms : List Nat} {w0 w : World} (hI : Hp.Inv d L) (h100 : d.size ≤ 100) (hQ : QSt q most came d bl) (S : St ms w0 (bl ++ R) w) :
    Gives Try.prog 9 #[.pointer (some ⟨q, 0, none⟩)] w fun v w1 => ∃ x c1 rows bl', v = .slice x L.length c1 ∧ rowv 4 32 ((List.range L.length).flatMap (akG L.toArray)) x L.length c1 rows ∧ QSt q most came d bl' ∧ St ms w0 (rows ++ (bl' ++ R)) w1 := by
  have hlen := hI.len
  have hnil : rowv 4 32 ((List.range 0).flatMap (akG #[])) none 0 0 [] := rowv_nil 4 32
  obtain ⟨x, c, rows, rfl, hr⟩ := hQ
  obtain ⟨_, hle, hrow⟩ := hr
  rcases hrow with ⟨rfl, h0, rfl, rfl⟩ | ⟨b, t, rfl, rfl, hl5⟩
  · have hd : d = #[] := Array.eq_empty_of_size_eq_zero h0
    have hL := inv_zero hI h0
    subst hd hL
    have S1 : St ms w0 (lits [q] [q] [qZ most came] ++ R) w := S
    have hg := run_c (C := CS0) (AllOk.nil (G := Empty) (P := Try.prog) (gl := gN0)).T (AllOk.nil (G := Empty) (P := Try.prog) (gl := gN0)).Q rfl (f := 9) (args := [.ptr 0 0]) (ids := [q]) (bl := [qZ most came]) rfl (K := fun v b => v = .raw (.slice none 0 0) ∧ b = [qZ most came]) (by
      show vcF _ 60 _ _ _ _ (gcK 1 _)
      rw [ls_vcz]
      exact ⟨rfl, rfl, rfl, rfl⟩) S1
    refine hg.mono ?_
    rintro v w1 ⟨y, bb, rfl, S2, rfl, rfl⟩
    exact ⟨none, 0, [], _, rfl, hnil, ⟨none, 0, [], rfl, rowv_nil _ _⟩, S2⟩
  · have hl2 : d.size * 5 + t.length = c * 5 := by rw [← hl5, List.length_append, wtG_flat]
    have hq := q_lits q b d.size c most came t d
    have S1 : St ms w0 (lits [q, b] [q, b] [qB d.size c most came, wtB d t] ++ R) w := by rw [hq]; exact S
    have hqs : QSt q most came d (lits [q, b] [q, b] [qB d.size c most came, wtB d t]) := by
      have := qst_of (q := q) (b := b) (c := c) (most := most) (came := came) (us := t) (d := d) (n := d.size) (Nat.le_refl _) hle hl2
      rwa [Hp.ext_all] at this
    cases hn : d.size with
    | zero =>
      have hd : d = #[] := Array.eq_empty_of_size_eq_zero hn
      have hL := inv_zero hI hn
      subst hd hL
      have hg := run_c (C := CS0) (AllOk.nil (G := Empty) (P := Try.prog) (gl := gN0)).T (AllOk.nil (G := Empty) (P := Try.prog) (gl := gN0)).Q rfl (f := 9) (args := [.ptr 0 0]) (ids := [q, b]) (bl := [qB 0 c most came, wtB #[] t]) rfl (K := fun v bb => v = .raw (.slice none 0 0) ∧ bb = [qB 0 c most came, wtB #[] t]) (by
        show vcF _ 60 _ _ _ _ (gcK 2 _)
        rw [ls_vc0]
        exact ⟨rfl, rfl, rfl, rfl⟩) S1
      refine hg.mono ?_
      rintro v w1 ⟨y, bb, rfl, S2, rfl, rfl⟩
      exact ⟨none, 0, [], _, rfl, hnil, hqs, S2⟩
    | succ M =>
      have S2 : St ms w0 (lits [q, b] [q, b] [qB (M + 1) c most came, wtB d t] ++ nestB [RowG.nil 32 4] R) w := by rw [← hn]; exact S1
      let KK : VK RowG := fun v bb ch => ∃ y : LsX d, y.j = d.size ∧ v = y.r.v ∧ bb = [qB (M + 1) c most came, wtB d t] ∧ ch = [y.r]
      have hvc : vcF (mkHL Try.prog gN0 LSo1 (appH Try.prog) appH_ok (fun i fr => lp1 0 (lsLp M c t most came d) i)) 60 9 [.ptr 0 0] [qB (M + 1) c most came, wtB d t] [RowG.nil 32 4] (gcK 2 KK) := by
        rw [ls_vc]
        refine ⟨d, ⟨rfl, rfl, hn.symm, h100⟩, fun d' c' u hP hS => ⟨⟨rfl, ⟨d', c', u, hP, hS, 0, Nat.zero_le _, none, 0, [], rowv_nil 4 32⟩, rfl, rfl, rfl⟩, fun y g => cnd (fun h => ?_) fun h => ?_⟩⟩
        · have hj : y.j < d.size := by have := of_decide_eq_true h; omega
          have hds : y.d'.size = d.size := y.hP.1
          refine ⟨⟨by omega, by omega⟩, ⟨by simp; omega, fun j => rfl⟩, ⟨rfl, by omega⟩, fun x c2 bk hh => ⟨rfl, ⟨y.d', y.c', y.u, y.hP, y.hS, y.j + 1, hj, x, c2, bk, ?_⟩, by show d.size - (y.j + 1) < d.size - y.j; omega, ?_, rfl, ?_⟩⟩
          · rw [List.range_succ, List.flatMap_append]
            simpa [LsX.r, akG, askW, denC, cl, den] using hh
          · have e : wI ((y.j : Int) + 1) = ((y.j + 1 : Nat) : Int) := by rw [wrapW (by omega)]; rfl
            rw [e]
            rfl
          · simp only [LsX.r, List.cons.injEq, and_true, RowG.mk.injEq, true_and]
            rw [List.range_succ, List.flatMap_append]
            simp [akG, askW, denC, cl, den]
        · have hj : y.j = d.size := by
            have := of_decide_eq_false h
            have := y.hj
            omega
          exact ⟨y, hj, rfl, rfl, rfl⟩
      refine (vcF_ok (AllOk.T LSo1_ok) (AllOk.Q LSo1_ok) 60 (C := mkHL Try.prog gN0 LSo1 (appH Try.prog) appH_ok (fun i fr => lp1 0 (lsLp M c t most came d) i)) (ids := [q, b]) (fun g i h => nomatch h) rfl S2 hvc).mono ?_
      rintro v w1 ⟨y0, mm, bl', ch', rfl, h1, S', hK'⟩
      obtain ⟨v2, more2, bl2, hv, hl3, S3, y, hj, rfl, rfl, rfl⟩ := gcK_ok (n0 := 2) h1 (by simp) S' hK'
      have htk : ([q, b] ++ mm).take 2 = [q, b] := rfl
      rw [htk] at S3 hv hl3
      obtain rfl : more2 = [] := List.eq_nil_of_length_eq_zero (by simpa using hl3)
      have hdl : y.d' = L.toArray := by
        apply Array.ext'
        simpa using Hp.sorted_eq hI y.hP y.hS
      have hh := y.h
      rw [hj, hdl, ← hlen] at hh
      refine ⟨y.x, y.c, y.bk, _, by rw [hv]; simp only [LsX.r, RowG.v, den]; rw [hj, hlen], hh, hqs, ?_⟩
      rw [List.append_nil] at S3
      refine S3.perm (permB fun f => ?_)
      rw [hn]
      simp only [nestB, List.countP_append]
      show _ + (_ + _) = _
      rw [show (Bl.B y.r : List Blk) = y.bk from rfl]
      omega
end Go.Proofs.Ytciiaficfmbimaa
noncomputable section
namespace Sx
open Go Go.RowKit Go.BigFrame
theorem St.allRo {w : World} {bs : List Blk} (h : ∀ y ∈ bs, y.wr = false ∧ w.heap[y.id]? = some y.obj) : St [] w bs w := by
  refine St.mk' (Ch.refl _ _) (fun y hy => (h y hy).2) (fun y hy e => by rw [(h y hy).1] at e; cases e) ?_
  refine List.pairwise_of_forall_mem_list (fun x hx y hy hc => ?_)
  rcases hc with hc | hc
  · rw [(h x hx).1] at hc; cases hc
  · rw [(h y hy).1] at hc; cases hc
theorem St.roQ {ms : List Nat} {w0 w : World} {b : Nat} {o : Obj} {R : List Blk} (S : St ms w0 (⟨b, true, o⟩ :: R) w) : St ms w0 (⟨b, false, o⟩ :: R) w := by
  refine St.mk' S.ch (fun x hx => ?_) (fun x hx hw => ?_) ?_
  · rcases List.mem_cons.1 hx with rfl | hx
    · exact S.at' (x := ⟨b, true, o⟩) List.mem_cons_self
    · exact S.at' (List.mem_cons_of_mem _ hx)
  · rcases List.mem_cons.1 hx with rfl | hx
    · cases hw
    · exact S.own' (List.mem_cons_of_mem _ hx) hw
  · have h := List.pairwise_cons.1 S.pw
    exact List.pairwise_cons.2 ⟨fun y hy hw => h.1 y hy (.inl rfl), h.2⟩
theorem St.dupQ {ms : List Nat} {w0 w : World} {x : Blk} {R : List Blk} (S : St ms w0 R w) (hx : x ∈ R) (hw : x.wr = false) : St ms w0 (x :: R) w := by
  refine St.mk' S.ch (fun y hy => ?_) (fun y hy h => ?_) (List.pairwise_cons.2 ⟨fun y hy h => ?_, S.pw⟩)
  · rcases List.mem_cons.1 hy with rfl | hy
    · exact S.at' hx
    · exact S.at' hy
  · rcases List.mem_cons.1 hy with rfl | hy
    · rw [hw] at h; cases h
    · exact S.own' hy h
  · obtain ⟨i, hi⟩ := List.getElem?_of_mem hx
    obtain ⟨j, hj⟩ := List.getElem?_of_mem hy
    rcases h with h | h
    · rw [hw] at h; cases h
    · by_cases hij : j = i
      · subst hij
        rw [hi] at hj
        obtain rfl := Option.some.inj hj
        rw [hw] at h; cases h
      · exact fun e => (S.apart j i y x hj hi hij h) e.symm
end Sx
namespace Go.Proofs.Ytciiaficfmbimaa
open Go Go.RowKit Go.BigFrame Sx Vx
set_option maxRecDepth 100000
structure QM where
  q : Nat
  most : Int
  came : Int
  L : List Sd.Wt
  d : AW
  B : List Blk
  hQ : QSt q most came d B
  hI : Hp.Inv d L
  hc : ∀ y ∈ L, y.came < came
  h0 : 0 ≤ came
  hs : (L.map (·.src)).Nodup
  h64 : d.size ≤ 64
  hm : most ≤ 64
inductive QL where
  | qu (m : QM)
  | row (r : RowG)
instance : Bl QL := ⟨fun g => match g with | .qu m => m.B | .row r => r.bl⟩
def QM.v (m : QM) : V := .raw (.pointer (some ⟨m.q, 0, none⟩))
abbrev XM := List V → QM → (V → QM → Prop) → Prop
def quC (X : XM) : CTr QL := fun args bl ch K => match args, ch with
  | .raw v :: ar, .qu m :: rest => cond (wfL 0 ar) (v = .pointer (some ⟨m.q, 0, none⟩) ∧ X ar m fun x m' => m'.q = m.q → m'.most = m.most → K x bl (.qu m' :: rest)) False
  | _, _ => False
def QOp (f : FuncId) (X : XM) : Prop := ∀ (ar : List V) (m : QM) (R : List Blk) (ms : List Nat) (w0 w : World) (Kx : V → QM → Prop), X ar m Kx → St ms w0 (m.B ++ R) w →
  Gives Try.prog f (.pointer (some ⟨m.q, 0, none⟩) :: denM [] ar).toArray w fun v w' => ∃ x m', v = den [] x ∧ wfV 0 x = true ∧ m'.q = m.q ∧ m'.most = m.most ∧ Kx x m' ∧ St ms w0 (m'.B ++ R) w'
theorem quC_sound {gl : Nat → Option Nat} {f : FuncId} {X : XM} (h : QOp f X) : Sound Try.prog gl f (quC X) := by
  intro args ids bl ch R ms w0 w K hg hl S hc
  unfold quC at hc
  split at hc
  · rename_i v ar m rest
    cases hq : wfL 0 ar with
    | false => rw [hq] at hc; exact hc.elim
    | true =>
      rw [hq] at hc
      obtain ⟨rfl, hX⟩ := hc
      have ea : denM ids (.raw (.pointer (some ⟨m.q, 0, none⟩)) :: ar) = .pointer (some ⟨m.q, 0, none⟩) :: denM [] ar := by
        have := denM_app (ids := []) (more := ids) ar hq
        simp only [List.nil_append] at this
        simp only [denM, den, this]
      have e0 : ∀ m : QM, lits ids ids bl ++ nestB (QL.qu m :: rest) R = lits ids ids bl ++ (m.B ++ nestB rest R) := fun m => rfl
      rw [e0] at S
      rw [ea]
      refine (h ar m (lits ids ids bl ++ nestB rest R) ms w0 w _ hX (S.perm (permB fun f => by simp only [List.countP_append]; omega))).mono ?_
      rintro v w' ⟨x, m', rfl, hw, h1, h2, hK, S2⟩
      refine ⟨x, [], bl, _, by have := den_app (ids := []) (more := ids) x hw; simpa using this.symm, by simpa using hl, ?_, hK h1 h2⟩
      rw [List.append_nil, e0]
      exact S2.perm (permB fun f => by simp only [List.countP_append]; omega)
  · exact hc.elim
def hdW (L : List Sd.Wt) : Sd.Wt := match L with | [] => ⟨0, 0, 0, 0, 0⟩ | x :: _ => x
def cdW (L : List Sd.Wt) : Int := match L with | [] => 2 | _ :: _ => 0
def popW (L : List Sd.Wt) : V := .tup [.agg (askW (hdW L)), .int .i64 (cdW L)]
theorem popW_den : ∀ L, den [] (popW L) = popV L
  | [] => rfl
  | _ :: _ => rfl
def popX : XM := fun ar m K => match ar with
  | [] => ∀ m' : QM, m'.L = m.L.tail → m'.came = m.came → K (popW m.L) m'
  | _ => False
def headX : XM := fun ar m K => match ar with
  | [] => ∀ m' : QM, m'.L = m.L → m'.came = m.came → K (popW m.L) m'
  | _ => False
def dropX : XM := fun ar m K => match ar with
  | [.int .i64 s] => ∀ m' : QM, m'.L = Hp.dropS m.L s → m'.came = m.came → K (.bool (m.L.any fun y => y.src == s)) m'
  | _ => False
def pushX : XM := fun ar m K => match ar with
  | [.agg [.int .i64 s, .int .i64 r, .int .i64 a, .int .i64 t]] => m.came < 1000000 ∧ ∀ m' : QM, m'.L = (pushW m.most m.L ⟨s, r, a, t, m.came⟩).2 → m'.came = m.came + (bif (pushW m.most m.L ⟨s, r, a, t, m.came⟩).1 == 0 then 1 else 0) → K (.int .i64 (pushW m.most m.L ⟨s, r, a, t, m.came⟩).1) m'
  | _ => False
theorem pop_op : QOp 11 popX := by
  intro ar m R ms w0 w Kx hX S
  unfold popX at hX
  split at hX
  · refine (q_pop m.hI (by have := m.h64; omega) m.hQ S).mono ?_
    rintro v w1 ⟨d', bl', ⟨rfl, hI⟩, hQ, S2⟩
    have hsub : ∀ y ∈ m.L.tail, y ∈ m.L := fun y hy => List.mem_of_mem_tail hy
    let m' : QM := ⟨m.q, m.most, m.came, m.L.tail, d', bl', hQ, hI, fun y hy => m.hc y (hsub y hy), m.h0, m.hs.sublist ((List.tail_sublist _).map _), by have h1 := hI.len; have h2 := m.hI.len; have := m.h64; simp at h1; omega, m.hm⟩
    exact ⟨popW m.L, m', (popW_den _).symm, by cases m.L <;> rfl, rfl, rfl, hX m' rfl rfl, S2⟩
  · exact hX.elim
theorem head_op : QOp 12 headX := by
  intro ar m R ms w0 w Kx hX S
  unfold headX at hX
  split at hX
  · refine (q_head m.hI (by have := m.h64; omega) m.hQ S).mono ?_
    rintro v w1 ⟨d', bl', ⟨rfl, hI⟩, hQ, S2⟩
    let m' : QM := ⟨m.q, m.most, m.came, m.L, d', bl', hQ, hI, m.hc, m.h0, m.hs, by have h1 := hI.len; have h2 := m.hI.len; have := m.h64; omega, m.hm⟩
    exact ⟨popW m.L, m', (popW_den _).symm, by cases m.L <;> rfl, rfl, rfl, hX m' rfl rfl, S2⟩
  · exact hX.elim
theorem drop_op : QOp 14 dropX := by
  intro ar m R ms w0 w Kx hX S
  unfold dropX at hX
  split at hX
  · rename_i s
    refine (q_drop m.hI (by have := m.h64; omega) m.hs m.hQ S).mono ?_
    rintro v w1 ⟨d', bl', ⟨rfl, hI⟩, hQ, S2⟩
    have hsub : (Hp.dropS m.L s).Sublist m.L := List.filter_sublist
    let m' : QM := ⟨m.q, m.most, m.came, Hp.dropS m.L s, d', bl', hQ, hI, fun y hy => m.hc y (hsub.mem hy), m.h0, m.hs.sublist (hsub.map _), by have h1 := hI.len; have h2 := m.hI.len; have := m.h64; have := hsub.length_le; omega, m.hm⟩
    exact ⟨.bool (m.L.any fun y => y.src == s), m', rfl, rfl, rfl, rfl, hX m' rfl rfl, S2⟩
  · exact hX.elim
theorem push_op : QOp 8 pushX := by
  intro ar m R ms w0 w Kx hX S
  unfold pushX at hX
  split at hX
  · rename_i s r a t
    obtain ⟨hm, hX⟩ := hX
    have h64 := m.h64
    have hlen := m.hI.len
    refine (q_push ⟨s, r, a, t, m.came⟩ rfl m.hI (by omega) m.hc m.hQ S).mono ?_
    rintro v w1 ⟨d', bl', ⟨rfl, hI⟩, hQ, S2⟩
    have h0 := m.h0
    have hmm := m.hm
    have hcm : pushC (pushW m.most m.L ⟨s, r, a, t, m.came⟩).1 m.came = m.came + (bif (pushW m.most m.L ⟨s, r, a, t, m.came⟩).1 == 0 then 1 else 0) := by
      unfold pushC
      cases (pushW m.most m.L ⟨s, r, a, t, m.came⟩).1 == 0 with
      | false => simp
      | true => simp only [cond_true]; simp [IntKind.wrap, IntKind.bits, IntKind.signed]; omega
    rw [hcm] at hQ
    have hall : ((pushW m.most m.L ⟨s, r, a, t, m.came⟩).2 = m.L) ∨ ((pushW m.most m.L ⟨s, r, a, t, m.came⟩).2 = Hp.insW ⟨s, r, a, t, m.came⟩ m.L ∧ (pushW m.most m.L ⟨s, r, a, t, m.came⟩).1 = 0 ∧ (m.L.any fun y => y.src == s) = false ∧ m.L.length < m.most) := by
      unfold pushW
      cases h1 : m.L.any fun y => y.src == s with
      | true => exact .inl rfl
      | false =>
        cases h2 : decide (m.most ≤ m.L.length) with
        | true => exact .inl rfl
        | false => exact .inr ⟨rfl, rfl, rfl, by have := of_decide_eq_false h2; omega⟩
    generalize hP : pushW m.most m.L ⟨s, r, a, t, m.came⟩ = P at hall hI hQ hX ⊢
    obtain ⟨e, L'⟩ := P
    simp only at hall hI hQ hX ⊢
    have hge : m.came ≤ m.came + (bif e == 0 then 1 else 0) := by cases e == 0 <;> simp <;> omega
    have hprop : (∀ y ∈ L', y.came < m.came + (bif e == 0 then 1 else 0)) ∧ (L'.map (·.src)).Nodup ∧ L'.length ≤ 64 := by
      rcases hall with rfl | ⟨rfl, rfl, h1, h2⟩
      · exact ⟨fun y hy => by have := m.hc y hy; omega, m.hs, by omega⟩
      · have hp := Hp.ins_perm ⟨s, r, a, t, m.came⟩ m.L
        refine ⟨fun y hy => ?_, ?_, ?_⟩
        · rcases List.mem_cons.1 (hp.mem_iff.1 hy) with rfl | hy
          · simp; omega
          · have := m.hc y hy
            simp; omega
        · refine (hp.map (·.src)).nodup_iff.2 ?_
          rw [List.map_cons, List.nodup_cons]
          refine ⟨fun hmem => ?_, m.hs⟩
          obtain ⟨y, hy, he⟩ := List.mem_map.1 hmem
          rw [List.any_eq_false] at h1
          exact h1 y hy (by simpa using he)
        · rw [hp.length_eq, List.length_cons]; omega
    let m' : QM := ⟨m.q, m.most, _, L', d', bl', hQ, hI, hprop.1, by omega, hprop.2.1, by rw [← hI.len]; exact hprop.2.2, m.hm⟩
    exact ⟨.int .i64 e, m', rfl, rfl, rfl, rfl, hX m' rfl rfl, S2⟩
  · exact hX.elim
end Go.Proofs.Ytciiaficfmbimaa
noncomputable section
namespace Go.Proofs.Ytciiaficfmbimaa
open Go Go.RowKit Go.BigFrame Sx Vx
set_option maxRecDepth 100000
def rowA (wr : Bool) (ty : BT) (n : Nat) (d : AW) (us : List Value) : VB := ⟨wr, ty, [.rowp 4 n (akG d), .rest us]⟩
theorem ro_run {C : Ctx Empty} {f : FuncId} {args : List V} {bl : List VB} {ids : List Nat} {w : World} {v0 : V} (hT : ∀ f c, C.T f = some c → Sound C.P C.gl f c) (hQ : QuietT C) (hg : C.gl = gN0) (hl : ids.length = bl.length) (hw : wfV 0 v0 = true)
    (hb : ∀ y ∈ lits ids ids bl, y.wr = false ∧ w.heap[y.id]? = some y.obj) (hvc : vcF C 60 f args bl [] (gcK bl.length fun v _ _ => v = v0)) : Gives C.P f (denM ids args).toArray w fun v w' => v = den [] v0 ∧ Ch [] w w' := by
  have S : St [] w (lits ids ids bl ++ nestB ([] : List Empty) []) w := St.allRo fun y hy => hb y (by simpa [nestB] using hy)
  refine (vcF_ok hT hQ 60 (by rw [hg]; exact fun g i h => nomatch h) hl S hvc).mono ?_
  rintro v w' ⟨x, more, bl', ch', rfl, h1, S', hK⟩
  obtain ⟨v2, more2, bl2, hv, hl2, S2, rfl⟩ := gcK_ok (n0 := bl.length) h1 (by simp; omega) S' hK
  refine ⟨?_, S2.ch⟩
  rw [hv]
  have := den_app (ids := []) (more := (ids ++ more).take bl.length ++ more2) v2 hw
  simpa using this
def eqA (x y : Sd.Wt) : Bool := x.src == y.src && (x.rank == y.rank && (x.at_ == y.at_ && (x.most == y.most && true) && true))
def inA (o : Prop) (n : Nat) (d : AW) (j : Nat) (N : Prop) : Prop := (0 ≤ (j : Int) ∧ (j : Int) < (n : Int)) ∧ o ∧ N
def ldA (n : Nat) (d : AW) (j : Nat) : Prop := (j : Int).toNat < n ∧ ∀ i, (akG d i).length = 4
theorem ldA_ok {n j : Nat} {d : AW} (h : j < n) : ldA n d j := ⟨by simpa using h, fun _ => rfl⟩
section
variable (wr : Bool) (ty : BT) (n c : Nat) (d : AW) (us : List Value) (k : Nat) (s r a t : Int)
def plX := { j : Nat // j ≤ k ∧ k < n }
def plB : List VB := [rowA wr ty n d us, ⟨true, ⟨32, (0, 0)⟩, [.int .i64 s, .int .i64 r, .int .i64 a, .int .i64 t]⟩]
def plV (j : Int) : List V := [.sl 0 0 n c, .ptr 1 0, .int .i64 j]
def plLp : Lp Empty := mkLp (X := plX n k) (fun z => k - z.1) 19 2 [0, 3, 5] (fun z => plV n c z.1) (fun z => plB wr ty n d us s r a t) (fun _ => []) (fun _ => rfl) (fun _ => by kernel_rfl) (fun _ => rfl)
variable (K : VK Empty)
def plXX : Prop := (true = true ∧ enD0 (fun z : plX n k => plV n c z.1) (fun z => plB wr ty n d us s r a t) (fun _ => ([] : List Empty)) (plV n c 0) (plB wr ty n d us s r a t) []) ∧ ∀ (y : plX n k) (g : Nat → Value),
  cond (decide ((y.1 : Int) < (n : Int))) (inA (ldA n d y.1) n d y.1 (cond (eqA d[(y.1 : Int).toNat]! ⟨s, r, a, t, 0⟩) (K (.int .i64 (y.1 : Int)) [rowA wr ty n d us] [])
    (true = true ∧ enD (fun z : plX n k => k - z.1) (fun z => plV n c z.1) (fun z => plB wr ty n d us s r a t) (fun _ => ([] : List Empty)) y (plV n c (wI ((y.1 : Int) + 1))) (plB wr ty n d us s r a t) []))) (K (.int .i64 (-1)) [rowA wr ty n d us] [])
theorem pl_vc : vcF (mkW Try.prog [] (fun i _ => lp1 0 (plLp wr ty n c d us k s r a t) i)) 60 10 [.sl 0 0 n c, .agg [.int .i64 s, .int .i64 r, .int .i64 a, .int .i64 t]] [rowA wr ty n d us] [] (gcK 1 K) = plXX wr ty n c d us k s r a t K := by kernel_rfl
end
section
variable (w1 w2 : Bool) (t1 t2 : BT) (n c1 c2 : Nat) (x1 x2 : Option Addr) (A B : AW) (u1 u2 : List Value)
def saX := { j : Nat // j ≤ n }
def saV (j : Int) : List V := [.osl 0 0 n c1 x1, .osl 1 0 n c2 x2, .int .i64 j]
def saB : List VB := [rowA w1 t1 n A u1, rowA w2 t2 n B u2]
def saLp : Lp Empty := mkLp (X := saX n) (fun z => n - z.1) 26 2 [0, 1, 5] (fun z => saV n c1 c2 x1 x2 z.1) (fun z => saB w1 w2 t1 t2 n A B u1 u2) (fun _ => []) (fun _ => rfl) (fun _ => by kernel_rfl) (fun _ => rfl)
variable (K : VK Empty)
def saXX : Prop := cond ((n : Int) != n) (K (.bool false) (saB w1 w2 t1 t2 n A B u1 u2) []) ((true = true ∧ enD0 (fun z : saX n => saV n c1 c2 x1 x2 z.1) (fun z => saB w1 w2 t1 t2 n A B u1 u2) (fun _ => ([] : List Empty)) (saV n c1 c2 x1 x2 0) (saB w1 w2 t1 t2 n A B u1 u2) []) ∧ ∀ (y : saX n) (g : Nat → Value),
  cond (decide ((y.1 : Int) < (n : Int))) (inA (ldA n A y.1) n A y.1 (inA (ldA n B y.1) n B y.1 (cond (!eqA A[(y.1 : Int).toNat]! B[(y.1 : Int).toNat]!) (K (.bool false) (saB w1 w2 t1 t2 n A B u1 u2) [])
    (true = true ∧ enD (fun z : saX n => n - z.1) (fun z => saV n c1 c2 x1 x2 z.1) (fun z => saB w1 w2 t1 t2 n A B u1 u2) (fun _ => ([] : List Empty)) y (saV n c1 c2 x1 x2 (wI ((y.1 : Int) + 1))) (saB w1 w2 t1 t2 n A B u1 u2) [])))) (K (.bool true) (saB w1 w2 t1 t2 n A B u1 u2) []))
theorem sa_vc : vcF (mkW Try.prog [] (fun i _ => lp1 0 (saLp w1 w2 t1 t2 n c1 c2 x1 x2 A B u1 u2) i)) 60 13 [.osl 0 0 n c1 x1, .osl 1 0 n c2 x2] (saB w1 w2 t1 t2 n A B u1 u2) [] (gcK 2 K) = saXX w1 w2 t1 t2 n c1 c2 x1 x2 A B u1 u2 K := by kernel_rfl
variable (pre : List Value) (off : Nat)
def sbV (j : Int) : List V := [.osl 0 0 n c1 x1, .sl 1 off n c2, .int .i64 j]
def sbB : List VB := [rowA w1 t1 n A u1, ⟨w2, t2, [.rest pre, .rowp 4 n (akG B), .rest u2]⟩]
def sbLp : Lp Empty := mkLp (X := saX n) (fun z => n - z.1) 26 2 [0, 1, 5] (fun z => sbV n c1 c2 x1 off z.1) (fun z => sbB w1 w2 t1 t2 n A B u1 u2 pre) (fun _ => []) (fun _ => rfl) (fun _ => by kernel_rfl) (fun _ => rfl)
def sbXX : Prop := cond ((n : Int) != n) (K (.bool false) (sbB w1 w2 t1 t2 n A B u1 u2 pre) []) ((true = true ∧ enD0 (fun z : saX n => sbV n c1 c2 x1 off z.1) (fun z => sbB w1 w2 t1 t2 n A B u1 u2 pre) (fun _ => ([] : List Empty)) (sbV n c1 c2 x1 off 0) (sbB w1 w2 t1 t2 n A B u1 u2 pre) []) ∧ ∀ (y : saX n) (g : Nat → Value),
  cond (decide ((y.1 : Int) < (n : Int))) (inA (ldA n A y.1) n A y.1 (inA (off = pre.length ∧ ldA n B y.1) n B y.1 (cond (!eqA A[(y.1 : Int).toNat]! B[(y.1 : Int).toNat]!) (K (.bool false) (sbB w1 w2 t1 t2 n A B u1 u2 pre) [])
    (true = true ∧ enD (fun z : saX n => n - z.1) (fun z => sbV n c1 c2 x1 off z.1) (fun z => sbB w1 w2 t1 t2 n A B u1 u2 pre) (fun _ => ([] : List Empty)) y (sbV n c1 c2 x1 off (wI ((y.1 : Int) + 1))) (sbB w1 w2 t1 t2 n A B u1 u2 pre) [])))) (K (.bool true) (sbB w1 w2 t1 t2 n A B u1 u2 pre) []))
theorem sb_vc : vcF (mkW Try.prog [] (fun i _ => lp1 0 (sbLp w1 w2 t1 t2 n c1 c2 x1 A B u1 u2 pre off) i)) 60 13 [.osl 0 0 n c1 x1, .sl 1 off n c2] (sbB w1 w2 t1 t2 n A B u1 u2 pre) [] (gcK 2 K) = sbXX w1 w2 t1 t2 n c1 c2 x1 A B u1 u2 K pre off := by kernel_rfl
end
theorem new_vc (k : Int) (K : VK Empty) : vcF (mkW Try.prog [] (fun _ _ => none)) 60 7 [.int .i64 k] [] [] (gcK 0 K) = cond (decide (k < 1)) (K (.tup [.raw (.pointer none), .int .i64 1]) [] []) (cond (bif false then true else decide (k > 64)) (K (.tup [.raw (.pointer none), .int .i64 1]) [] []) (K (.tup [.ptr 0 0, .int .i64 0]) [qZ k 0] [])) := by kernel_rfl
end Go.Proofs.Ytciiaficfmbimaa
noncomputable section
namespace Go.Proofs.Ytciiaficfmbimaa
open Go Go.RowKit Go.BigFrame Sx Vx
set_option maxRecDepth 100000
def jnk : VB := ⟨false, ⟨30, (0, 0)⟩, [.int .i64 0, .int .i64 9]⟩
def akF (L : List Sd.Wt) : Nat → List Value := akG L.toArray
theorem akF_succ (a : Sd.Wt) (A : List Sd.Wt) (k : Nat) : (a :: A).toArray[k + 1]! = A.toArray[k]! := by simp
theorem akF_cons (a : Sd.Wt) (A : List Sd.Wt) (m : Nat) : (List.range (m + 1)).flatMap (akF (a :: A)) = akF (a :: A) 0 ++ (List.range m).flatMap (akF A) := by
  rw [List.range_succ_eq_map, List.flatMap_cons, List.flatMap_map]
  congr 1
  have e : (fun k => akF (a :: A) (Nat.succ k)) = akF A := by
    funext k
    unfold akF akG
    rw [akF_succ]
  exact congrArg (fun f => List.flatMap f (List.range m)) e
def newC : CTr QL := fun args bl ch K => match args with
  | [.int .i64 k] => (1 ≤ k ∧ k ≤ 64) ∧ ∀ m : QM, m.most = k → m.came = 0 → m.L = [] → K (.tup [m.v, .int .i64 0]) bl (.qu m :: ch)
  | _ => False
theorem newC_sound {gl : Nat → Option Nat} : Sound Try.prog gl 7 newC := by
  intro args ids bl ch R ms w0 w K hg hl S hc
  unfold newC at hc
  split at hc
  · rename_i k
    obtain ⟨⟨h1, h2⟩, hK⟩ := hc
    have S1 : St ms w0 (lits [] [] [] ++ nestB ([] : List Empty) (lits ids ids bl ++ nestB ch R)) w := S
    have hargs : denM ids [.int .i64 k] = denM [] [.int .i64 k] := by simp only [denM, den]
    have hvc : vcF (mkW Try.prog [] (fun _ _ => none)) 60 7 [.int .i64 k] [] [] (gcK 0 fun v b _ => v = .tup [.ptr 0 0, .int .i64 0] ∧ b = [qZ k 0]) := by
      rw [new_vc]
      refine cnd (fun h => by simp at h; omega) fun _ => cnd (fun h => by simp at h; omega) fun _ => ⟨rfl, rfl⟩
    rw [hargs]
    refine (vcF_ok (AllOk.nil (G := Empty) (P := Try.prog) (gl := gN0)).T (AllOk.nil (G := Empty) (P := Try.prog) (gl := gN0)).Q 60 (C := mkW Try.prog [] (fun _ _ => none)) (fun g i h => nomatch h) rfl S1 hvc).mono ?_
    rintro v w' ⟨x, more, bl', ch', rfl, hl1, S', hK'⟩
    obtain ⟨v2, more2, bl2, hv, hl2, S2, rfl, rfl⟩ := gcK_ok (n0 := 0) hl1 (by simp) S' hK'
    cases ch' with
    | cons e _ => exact nomatch e
    | nil =>
    match more2, hl2 with
    | [q], hl2 =>
      let m : QM := ⟨q, k, 0, [], #[], [⟨q, true, .cells #[.slice none 0 0, .int .i64 k, .int .u64 0] 46 (0, 0)⟩], ⟨none, 0, [], rfl, rowv_nil _ _⟩, Hp.Inv.nil, (fun y hy => by cases hy), Int.le_refl _, List.nodup_nil, by simp, h2⟩
      refine ⟨.tup [m.v, .int .i64 0], [], bl, .qu m :: ch, by rw [hv]; rfl, by simpa using hl, ?_, hK m rfl rfl rfl⟩
      have e1 : lits ([] ++ [q]) ([] ++ [q]) [qZ k 0] = m.B := rfl
      have e2 : lits (ids ++ []) (ids ++ []) bl ++ nestB (.qu m :: ch) R = lits ids ids bl ++ (m.B ++ nestB ch R) := by rw [List.append_nil]; rfl
      have e0 : List.take 0 ([] ++ more) = ([] : List Nat) := rfl
      rw [e0, e1] at S2
      rw [e2]
      exact S2.perm (permB fun f => by simp only [List.countP_append, nestB]; omega)
  · exact hc.elim
def listC : CTr QL := fun args bl ch K => match args, ch with
  | [.raw v], .qu m :: rest => cond (wfB bl.length bl) ((v = .pointer (some ⟨m.q, 0, none⟩) ∧ ∃ k : Nat, bl[k]? = some jnk) ∧
      ∀ (m' : QM) (wr : Bool) (ty : TypeId) (fz : Nat × Nat) (c : Nat) (x : Option Addr) (us : List Value), m'.L = m.L → m'.came = m.came → m'.q = m.q → m'.most = m.most → (0 < m.L.length → wr = true ∧ fz = (0, 0)) → m.L.length ≤ c →
        K (.osl bl.length 0 m.L.length c x) (bl ++ [⟨wr, ⟨ty, fz⟩, [.rowp 4 m.L.length (akF m.L), .rest us]⟩]) (.qu m' :: rest)) False
  | _, _ => False
theorem jnk_at {ids : List Nat} {bl : List VB} {ms : List Nat} {w0 w : World} {R : List Blk} {k : Nat} (hl : ids.length = bl.length) (S : St ms w0 (lits ids ids bl ++ R) w) (hk : bl[k]? = some jnk) :
    (⟨ids.getD k 0, false, .cells #[.int .i64 0, .int .i64 9] 30 (0, 0)⟩ : Blk) ∈ lits ids ids bl ++ R := List.mem_of_getElem? (at_lit hl S hk).1
theorem listC_sound {gl : Nat → Option Nat} : Sound Try.prog gl 9 listC := by
  intro args ids bl ch R ms w0 w K hg hl S hc
  unfold listC at hc
  split at hc
  · rename_i v m rest
    cases hq : wfB bl.length bl with
    | false => rw [hq] at hc; exact hc.elim
    | true =>
      rw [hq] at hc
      obtain ⟨⟨rfl, k, hk⟩, hK⟩ := hc
      have e0 : ∀ m : QM, lits ids ids bl ++ nestB (QL.qu m :: rest) R = lits ids ids bl ++ (m.B ++ nestB rest R) := fun m => rfl
      rw [e0] at S
      have hargs : (denM ids [.raw (.pointer (some ⟨m.q, 0, none⟩))]).toArray = #[.pointer (some ⟨m.q, 0, none⟩)] := rfl
      rw [hargs]
      refine (q_list m.hI (by have := m.h64; omega) m.hQ (S.perm (bs' := m.B ++ (lits ids ids bl ++ nestB rest R)) (permB fun f => by simp only [List.countP_append]; omega))).mono ?_
      rintro v w' ⟨x, c, rows, bl', rfl, hrow, hQ, S2⟩
      let m' : QM := ⟨m.q, m.most, m.came, m.L, m.d, bl', hQ, m.hI, m.hc, m.h0, m.hs, m.h64, m.hm⟩
      have S3 : St ms w0 (rows ++ (lits ids ids bl ++ nestB (QL.qu m' :: rest) R)) w' := by
        rw [e0, show m'.B = bl' from rfl]
        exact S2.perm (permB fun f => by simp only [List.countP_append]; omega)
      have key : ∀ (b : Nat) (wr : Bool) (ty : TypeId) (fz : Nat × Nat) (us : List Value), (0 < m.L.length → wr = true ∧ fz = (0, 0)) → m.L.length ≤ c → (m.L.length ≠ 0 → x = some ⟨b, 0, none⟩) →
          St ms w0 (⟨b, wr, .cells ((List.range m.L.length).flatMap (akF m.L) ++ us).toArray ty fz⟩ :: (lits ids ids bl ++ nestB (QL.qu m' :: rest) R)) w' →
          ∃ y more bl2 ch', Value.slice x m.L.length c = den (ids ++ more) y ∧ (ids ++ more).length = bl2.length ∧ St ms w0 (lits (ids ++ more) (ids ++ more) bl2 ++ nestB ch' R) w' ∧ K y bl2 ch' := by
        intro b wr ty fz us h1 h2 h3 S4
        refine ⟨.osl bl.length 0 m.L.length c x, [b], _, _, ?_, by simp [hl], ?_, hK m' wr ty fz c x us rfl rfl rfl rfl h1 h2⟩
        · simp only [den]
          rw [← hl, getD_last]
          cases hn : m.L.length with
          | zero => rfl
          | succ n => rw [h3 (by omega)]; rfl
        · rw [lits_app _ _ _ _ hl, lits_ids _ _ (by rw [hl]; exact hq)]
          have hb : lits (ids ++ [b]) [b] [⟨wr, ⟨ty, fz⟩, [.rowp 4 m.L.length (akF m.L), .rest us]⟩] = [⟨b, wr, .cells ((List.range m.L.length).flatMap (akF m.L) ++ us).toArray ty fz⟩] := by
            simp only [lits, mkB, denC, cl, List.append_nil]
          rw [hb]
          exact S4.perm (permB fun f => by simp only [List.countP_append, List.countP_cons, List.countP_nil]; omega)
      rcases hrow.2.2 with ⟨rfl, h0, rfl, rfl⟩ | ⟨b, t, rfl, rfl, h5⟩
      · have hj := jnk_at hl (R := nestB (QL.qu m' :: rest) R) (by simpa using S3) hk
        refine key (ids.getD k 0) false 30 (0, 0) [.int .i64 0, .int .i64 9] (fun h => by omega) (by omega) (fun h => absurd h0 h) ?_
        rw [h0]
        exact (St.dupQ (by simpa using S3) hj rfl)
      · exact key b true 32 (0, 0) t (fun _ => ⟨rfl, rfl⟩) hrow.2.1 (fun _ => rfl) S3
  · exact hc.elim
def isAk (g : RowG) (I : AW) : Prop := g.T = 32 ∧ g.z = 4 ∧ g.os = (List.range I.size).flatMap (akG I) ∧ g.n = I.size
def placeC : CTr QL := fun args bl ch K => match args, ch with
  | [.raw (.slice x n c), .agg [.int .i64 s, .int .i64 r, .int .i64 a, .int .i64 t]], .qu m :: .row g :: rest =>
    ∃ (I : AW) (k : Nat), ((x = g.x ∧ n = g.n ∧ c = g.c) ∧ isAk g I ∧ k < I.size ∧ I.size ≤ 100 ∧ eqA I[k]! ⟨s, r, a, t, 0⟩ = true ∧ ∀ j, j < k → I[j]!.src ≠ s) ∧ K (.int .i64 k) bl (.qu m :: .row g :: rest)
  | _, _ => False
theorem placeC_quiet : QuietC placeC := by
  intro args bl ch K h
  unfold placeC at h ⊢
  split at h
  · obtain ⟨I, k, h1, h2⟩ := h
    exact ⟨I, k, h1, h2, [], (List.append_nil _).symm⟩
  · exact h.elim
theorem eqA_src {x y : Sd.Wt} (h : eqA x y = true) : x.src = y.src := by
  unfold eqA at h
  simp at h
  exact h.1
theorem pl_ok {wr : Bool} {ty : BT} {n c : Nat} {d : AW} {us : List Value} {k : Nat} {s r a t : Int} {K : VK Empty} (hk : k < n) (hn : n ≤ 100) (he : eqA d[k]! ⟨s, r, a, t, 0⟩ = true) (hno : ∀ j, j < k → d[j]!.src ≠ s) (hK : K (.int .i64 k) [rowA wr ty n d us] []) : plXX wr ty n c d us k s r a t K := by
  refine ⟨⟨rfl, ⟨0, Nat.zero_le _, hk⟩, rfl, rfl, rfl⟩, fun ⟨j, hj, _⟩ g => cnd (fun h => ⟨⟨Int.natCast_nonneg _, of_decide_eq_true h⟩, ldA_ok (by have := of_decide_eq_true h; exact Int.ofNat_lt.1 this), cnd (fun h2 => ?_) fun h2 => ?_⟩) fun h => ?_⟩
  · have h2 : eqA d[j]! ⟨s, r, a, t, 0⟩ = true := h2
    have : j = k := by
      rcases Nat.lt_or_ge j k with h3 | h3
      · exact absurd (eqA_src h2) (hno j h3)
      · omega
    subst this
    exact hK
  · have h2 : eqA d[j]! ⟨s, r, a, t, 0⟩ = false := h2
    have hne : j ≠ k := by
      rintro rfl
      exact Bool.noConfusion (he.symm.trans h2)
    refine ⟨rfl, ⟨j + 1, by omega, hk⟩, by show k - (j + 1) < k - j; omega, ?_, rfl, rfl⟩
    show plV n c (wI ((j : Int) + 1)) = plV n c ((j + 1 : Nat) : Int)
    rw [wrapW (by omega)]
    rfl
  · have := of_decide_eq_false h
    exact absurd hk (by simp only at this; omega)
theorem placeC_sound {gl : Nat → Option Nat} : Sound Try.prog gl 10 placeC := by
  intro args ids bl ch R ms w0 w K hg hl S hc
  unfold placeC at hc
  split at hc
  · rename_i x n c s r a t m g rest
    obtain ⟨I, k, ⟨⟨rfl, rfl, rfl⟩, ⟨h1, h2, h3, h4⟩, hk, h100, he, hno⟩, hK⟩ := hc
    have hr := g.h
    rw [h1, h2, h3, h4] at hr
    rcases hr.2.2 with ⟨-, h0, -⟩ | ⟨b, us, e1, e2, -⟩
    · omega
    · have hat : w.heap[b]? = some (.cells ((List.range I.size).flatMap (akG I) ++ us).toArray 32 (0, 0)) := S.at' (x := ⟨b, true, _⟩) (by
        refine List.mem_append_right _ ?_
        show _ ∈ m.B ++ (g.bl ++ nestB rest R)
        rw [e2]
        simp)
      have hargs : denM ids [.raw (.slice g.x g.n g.c), .agg [.int .i64 s, .int .i64 r, .int .i64 a, .int .i64 t]] = denM [b] [.sl 0 0 I.size g.c, .agg [.int .i64 s, .int .i64 r, .int .i64 a, .int .i64 t]] := by
        rw [e1, h4]
        simp only [denM, den, denC, cl]
        rfl
      rw [hargs]
      refine (ro_run (C := mkW Try.prog [] (fun i _ => lp1 0 (plLp false ⟨32, (0, 0)⟩ I.size g.c I us k s r a t) i)) (ids := [b]) (bl := [rowA false ⟨32, (0, 0)⟩ I.size I us]) (v0 := .int .i64 k) (AllOk.nil (G := Empty) (P := Try.prog) (gl := gN0)).T (AllOk.nil (G := Empty) (P := Try.prog) (gl := gN0)).Q rfl rfl rfl ?_ ?_).mono ?_
      · intro y hy
        have hb : lits [b] [b] [rowA false ⟨32, (0, 0)⟩ I.size I us] = [⟨b, false, .cells ((List.range I.size).flatMap (akG I) ++ us).toArray 32 (0, 0)⟩] := by simp only [lits, mkB, rowA, denC, cl, List.append_nil]
        rw [hb] at hy
        obtain rfl := List.mem_singleton.1 hy
        exact ⟨rfl, hat⟩
      · show vcF _ 60 _ _ _ _ (gcK 1 _)
        rw [pl_vc]
        exact pl_ok hk h100 he hno rfl
      · rintro v w' ⟨rfl, hch⟩
        exact ⟨.int .i64 k, [], bl, _, rfl, by simpa using hl, by simpa using S.quiet hch, hK⟩
  · exact hc.elim
end Go.Proofs.Ytciiaficfmbimaa
noncomputable section
namespace Go.Proofs.Ytciiaficfmbimaa
open Go Go.RowKit Go.BigFrame Sx Vx
set_option maxRecDepth 100000
def rwA (bl : List VB) (i : Nat) : Option (Nat × (Nat → List Value)) := match bl[i]? with
  | some ⟨_, _, [.rowp 4 n g, .rest _]⟩ => some (n, g)
  | _ => none
theorem rwA_ok {bl : List VB} {i n : Nat} {g : Nat → List Value} (h : rwA bl i = some (n, g)) : ∃ wr ty us, bl[i]? = some ⟨wr, ty, [.rowp 4 n g, .rest us]⟩ := by
  unfold rwA at h
  split at h
  · rename_i h2
    simp only [Option.some.injEq, Prod.mk.injEq] at h
    obtain ⟨rfl, rfl⟩ := h
    exact ⟨_, _, _, h2⟩
  · cases h
def sameC : CTr QL := fun args bl ch K => match args with
  | [.osl i 0 n c x, .osl j 0 m c' x'] => (match rwA bl i, rwA bl j with
    | some (n1, g1), some (n2, g2) => (∃ A : List Sd.Wt, g1 = akF A ∧ g2 = akF A ∧ n1 = n ∧ n2 = m ∧ n = m ∧ n ≤ 100) ∧ K (.bool true) bl ch
    | _, _ => False)
  | [.osl i 0 n c x, .sl j off m c'] => (match rwA bl i, rwA bl j with
    | some (n1, g1), some (n2, g2) => (∃ (a : Sd.Wt) (A : List Sd.Wt), g1 = akF A ∧ g2 = akF (a :: A) ∧ n1 = n ∧ n2 = m + 1 ∧ n = m ∧ n ≤ 100 ∧ (0 < n → off = 4)) ∧ K (.bool true) bl ch
    | _, _ => False)
  | _ => False
theorem eqA_self (x : Sd.Wt) : eqA x x = true := by unfold eqA; simp
theorem sa_ok {n c1 c2 : Nat} {w1 w2 : Bool} {t1 t2 : BT} {x1 x2 : Option Addr} {A : AW} {u1 u2 : List Value} {K : VK Empty} (hn : n ≤ 100) (hK : K (.bool true) (saB w1 w2 t1 t2 n A A u1 u2) []) : saXX w1 w2 t1 t2 n c1 c2 x1 x2 A A u1 u2 K := by
  refine cnd (fun h => by simp at h) fun _ => ⟨⟨rfl, ⟨0, Nat.zero_le _⟩, rfl, rfl, rfl⟩, fun ⟨j, hj⟩ g => cnd (fun h => ?_) fun h => hK⟩
  have hlt : j < n := Int.ofNat_lt.1 (of_decide_eq_true h)
  refine ⟨⟨Int.natCast_nonneg _, of_decide_eq_true h⟩, ldA_ok hlt, ⟨Int.natCast_nonneg _, of_decide_eq_true h⟩, ldA_ok hlt, cnd (fun h2 => ?_) fun h2 => ?_⟩
  · rw [eqA_self] at h2; cases h2
  · refine ⟨rfl, ⟨j + 1, hlt⟩, by show n - (j + 1) < n - j; omega, ?_, rfl, rfl⟩
    show saV n c1 c2 x1 x2 (wI ((j : Int) + 1)) = saV n c1 c2 x1 x2 ((j + 1 : Nat) : Int)
    rw [wrapW (by omega)]
    rfl
theorem sb_ok {n c1 c2 : Nat} {w1 w2 : Bool} {t1 t2 : BT} {x1 : Option Addr} {A : AW} {u1 u2 pre : List Value} {off : Nat} {K : VK Empty} (hn : n ≤ 100) (hp : 0 < n → off = pre.length) (hK : K (.bool true) (sbB w1 w2 t1 t2 n A A u1 u2 pre) []) : sbXX w1 w2 t1 t2 n c1 c2 x1 A A u1 u2 K pre off := by
  refine cnd (fun h => by simp at h) fun _ => ⟨⟨rfl, ⟨0, Nat.zero_le _⟩, rfl, rfl, rfl⟩, fun ⟨j, hj⟩ g => cnd (fun h => ?_) fun h => hK⟩
  have hlt : j < n := Int.ofNat_lt.1 (of_decide_eq_true h)
  refine ⟨⟨Int.natCast_nonneg _, of_decide_eq_true h⟩, ldA_ok hlt, ⟨Int.natCast_nonneg _, of_decide_eq_true h⟩, ⟨hp (by omega), ldA_ok hlt⟩, cnd (fun h2 => ?_) fun h2 => ?_⟩
  · rw [eqA_self] at h2; cases h2
  · refine ⟨rfl, ⟨j + 1, hlt⟩, by show n - (j + 1) < n - j; omega, ?_, rfl, rfl⟩
    show sbV n c1 c2 x1 off (wI ((j : Int) + 1)) = sbV n c1 c2 x1 off ((j + 1 : Nat) : Int)
    rw [wrapW (by omega)]
    rfl
theorem sameC_sound {gl : Nat → Option Nat} : Sound Try.prog gl 13 sameC := by
  intro args ids bl ch R ms w0 w K hg hl S hc
  unfold sameC at hc
  split at hc
  · rename_i i n c x j m c' x'
    split at hc
    · rename_i n1 g1 n2 g2 hi hj
      obtain ⟨⟨A, rfl, rfl, rfl, rfl, rfl, h100⟩, hK⟩ := hc
      obtain ⟨wr1, ty1, us1, hi⟩ := rwA_ok hi
      obtain ⟨wr2, ty2, us2, hj⟩ := rwA_ok hj
      have a1 := (at_lit hl S hi).2
      have a2 := (at_lit hl S hj).2
      have hc : ∀ (is : List Nat) (us : List Value), denC is [.rowp 4 n1 (akF A), .rest us] = (List.range n1).flatMap (akF A) ++ us := fun is us => by simp [denC, cl]
      simp only [hc] at a1 a2
      have hargs : denM ids [.osl i 0 n1 c x, .osl j 0 n1 c' x'] = denM [ids.getD i 0, ids.getD j 0] [.osl 0 0 n1 c x, .osl 1 0 n1 c' x'] := rfl
      rw [hargs]
      refine (ro_run (C := mkW Try.prog [] (fun k _ => lp1 0 (saLp false false ty1 ty2 n1 c c' x x' A.toArray A.toArray us1 us2) k)) (ids := [ids.getD i 0, ids.getD j 0]) (bl := saB false false ty1 ty2 n1 A.toArray A.toArray us1 us2) (v0 := .bool true) (AllOk.nil (G := Empty) (P := Try.prog) (gl := gN0)).T (AllOk.nil (G := Empty) (P := Try.prog) (gl := gN0)).Q rfl rfl rfl ?_ ?_).mono ?_
      · intro y hy
        have hb : lits [ids.getD i 0, ids.getD j 0] [ids.getD i 0, ids.getD j 0] (saB false false ty1 ty2 n1 A.toArray A.toArray us1 us2) = [⟨ids.getD i 0, false, .cells ((List.range n1).flatMap (akF A) ++ us1).toArray ty1.t ty1.fz⟩, ⟨ids.getD j 0, false, .cells ((List.range n1).flatMap (akF A) ++ us2).toArray ty2.t ty2.fz⟩] := by
          simp only [saB, rowA, lits, mkB, denC, cl, List.append_nil]
          rfl
        rw [hb] at hy
        simp only [List.mem_cons, List.not_mem_nil, or_false] at hy
        rcases hy with rfl | rfl
        · exact ⟨rfl, a1⟩
        · exact ⟨rfl, a2⟩
      · show vcF _ 60 _ _ _ _ (gcK 2 _)
        rw [sa_vc]
        exact sa_ok h100 rfl
      · rintro v w' ⟨rfl, hch⟩
        exact ⟨.bool true, [], bl, _, rfl, by simpa using hl, by simpa using S.quiet hch, hK⟩
    · exact hc.elim
  · rename_i i n c x j off m c'
    split at hc
    · rename_i n1 g1 n2 g2 hi hj
      obtain ⟨⟨a, A, rfl, rfl, rfl, rfl, rfl, h100, hoff⟩, hK⟩ := hc
      obtain ⟨wr1, ty1, us1, hi⟩ := rwA_ok hi
      obtain ⟨wr2, ty2, us2, hj⟩ := rwA_ok hj
      have a1 := (at_lit hl S hi).2
      have a2 := (at_lit hl S hj).2
      have hc1 : ∀ (is : List Nat) (us : List Value), denC is [.rowp 4 n1 (akF A), .rest us] = (List.range n1).flatMap (akF A) ++ us := fun is us => by simp [denC, cl]
      have hc2 : ∀ (is : List Nat) (us : List Value), denC is [.rowp 4 (n1 + 1) (akF (a :: A)), .rest us] = akF (a :: A) 0 ++ ((List.range n1).flatMap (akF A) ++ us) := fun is us => by
        simp only [denC, cl, List.append_nil]
        rw [akF_cons, List.append_assoc]
      simp only [hc1] at a1
      simp only [hc2] at a2
      have hargs : denM ids [.osl i 0 n1 c x, .sl j off n1 c'] = denM [ids.getD i 0, ids.getD j 0] [.osl 0 0 n1 c x, .sl 1 off n1 c'] := rfl
      rw [hargs]
      refine (ro_run (C := mkW Try.prog [] (fun k _ => lp1 0 (sbLp false false ty1 ty2 n1 c c' x A.toArray A.toArray us1 us2 (akF (a :: A) 0) off) k)) (ids := [ids.getD i 0, ids.getD j 0]) (bl := sbB false false ty1 ty2 n1 A.toArray A.toArray us1 us2 (akF (a :: A) 0)) (v0 := .bool true) (AllOk.nil (G := Empty) (P := Try.prog) (gl := gN0)).T (AllOk.nil (G := Empty) (P := Try.prog) (gl := gN0)).Q rfl rfl rfl ?_ ?_).mono ?_
      · intro y hy
        have hb : lits [ids.getD i 0, ids.getD j 0] [ids.getD i 0, ids.getD j 0] (sbB false false ty1 ty2 n1 A.toArray A.toArray us1 us2 (akF (a :: A) 0)) = [⟨ids.getD i 0, false, .cells ((List.range n1).flatMap (akF A) ++ us1).toArray ty1.t ty1.fz⟩, ⟨ids.getD j 0, false, .cells (akF (a :: A) 0 ++ ((List.range n1).flatMap (akF A) ++ us2)).toArray ty2.t ty2.fz⟩] := by
          simp only [sbB, rowA, lits, mkB, denC, cl, List.append_nil]
          rfl
        rw [hb] at hy
        simp only [List.mem_cons, List.not_mem_nil, or_false] at hy
        rcases hy with rfl | rfl
        · exact ⟨rfl, a1⟩
        · exact ⟨rfl, a2⟩
      · show vcF _ 60 _ _ _ _ (gcK 2 _)
        rw [sb_vc]
        exact sb_ok h100 (fun h => (hoff h).trans rfl) rfl
      · rintro v w' ⟨rfl, hch⟩
        exact ⟨.bool true, [], bl, _, rfl, by simpa using hl, by simpa using S.quiet hch, hK⟩
    · exact hc.elim
  · exact hc.elim
def LQ : List (Ent QL) := [⟨7, false, newC⟩, ⟨8, false, quC pushX⟩, ⟨11, false, quC popX⟩, ⟨12, false, quC headX⟩, ⟨14, false, quC dropX⟩, ⟨9, false, listC⟩, ⟨10, true, placeC⟩, ⟨13, false, sameC⟩]
theorem LQ_ok {gl : Nat → Option Nat} : AllOk Try.prog gl LQ :=
  have n : ∀ {c : CTr QL}, (false = true → QuietC c) := fun e => by cases e
  AllOk.cons ⟨newC_sound, n⟩ (AllOk.cons ⟨quC_sound push_op, n⟩ (AllOk.cons ⟨quC_sound pop_op, n⟩ (AllOk.cons ⟨quC_sound head_op, n⟩ (AllOk.cons ⟨quC_sound drop_op, n⟩ (AllOk.cons ⟨listC_sound, n⟩ (AllOk.cons ⟨placeC_sound, fun _ => placeC_quiet⟩ (AllOk.cons ⟨sameC_sound, n⟩ AllOk.nil)))))))
def ptE (m0 m : QM) : Prop := (Value.pointer (some ⟨m0.q, 0, none⟩)) = Value.pointer (some ⟨m.q, 0, none⟩)
theorem ptE_ok {m0 m : QM} (h : m.q = m0.q) : ptE m0 m := by unfold ptE; rw [h]
def qE (m : QM) (s r a t : Int) : Int := (pushW m.most m.L ⟨s, r, a, t, m.came⟩).1
def qL (m : QM) (s r a t : Int) : List Sd.Wt := (pushW m.most m.L ⟨s, r, a, t, m.came⟩).2
def pushQ (m0 m : QM) (s r a t : Int) (N : QM → Prop) : Prop := ptE m0 m ∧ m.came < 1000000 ∧ ∀ m' : QM, m'.L = qL m s r a t → m'.came = m.came + (bif qE m s r a t == 0 then 1 else 0) → m'.q = m.q → m'.most = m.most → N m'
def popQ (m0 m : QM) (N : QM → Prop) : Prop := ptE m0 m ∧ ∀ m' : QM, m'.L = m.L.tail → m'.came = m.came → m'.q = m.q → m'.most = m.most → N m'
theorem pushQ_ok {m0 m : QM} {s r a t : Int} {N : QM → Prop} (hq : m.q = m0.q) (hc : m.came < 1000000) (h : ∀ m' : QM, m'.L = qL m s r a t → m'.came = m.came + (bif qE m s r a t == 0 then 1 else 0) → m'.q = m0.q → m'.most = m.most → N m') : pushQ m0 m s r a t N :=
  ⟨ptE_ok hq, hc, fun m' h1 h2 h3 h4 => h m' h1 h2 (h3.trans hq) h4⟩
theorem popQ_ok {m0 m : QM} {N : QM → Prop} (hq : m.q = m0.q) (h : ∀ m' : QM, m'.L = m.L.tail → m'.came = m.came → m'.q = m0.q → m'.most = m.most → N m') : popQ m0 m N :=
  ⟨ptE_ok hq, fun m' h1 h2 h3 h4 => h m' h1 h2 (h3.trans hq) h4⟩
def tmB : VB := ⟨true, ⟨30, (0, 0)⟩, [.int .i64 0, .int .i64 9]⟩
section
variable (K : VK QL)
def an (b : Bool) : Bool := bif true then b else false
def shXX : Prop := ((1 : Int) ≤ 2 ∧ (2 : Int) ≤ 64) ∧ ∀ m0 : QM, m0.most = 2 → m0.came = 0 → m0.L = [] → pushQ m0 m0 1 2 0 9 fun m1 => pushQ m0 m1 2 1 0 9 fun m2 => pushQ m0 m2 1 0 0 9 fun m3 => pushQ m0 m3 3 0 0 9 fun m4 => popQ m0 m4 fun m5 =>
  let no := K (.bool false) [tmB] [.qu m5]
  cond (qE m0 1 2 0 9 == 0) (cond (an (qE m1 2 1 0 9 == 0)) (cond (an (qE m2 1 0 0 9 == 27)) (cond (an (qE m3 3 0 0 9 == 3)) (cond (an ((hdW m4.L).src == 2)) (K (.bool (an (cdW m4.L == 0))) [tmB] [.qu m5]) no) no) no) no) no
theorem sh_vc : vcF (mkHL Try.prog gN0 LQ noH noH_ok (fun _ _ => none)) 60 6 [] [] [] (gcK 1 K) = shXX K := by kernel_rfl
end
theorem shXX_ok {K : VK QL} (hK : ∀ m : QM, K (.bool true) [tmB] [.qu m]) : shXX K := by
  refine ⟨⟨by decide, by decide⟩, fun m0 a1 a2 a3 => pushQ_ok rfl (by omega) fun m1 b1 b2 b3 b4 => ?_⟩
  have e0 : pushW m0.most m0.L ⟨1, 2, 0, 9, m0.came⟩ = (0, [⟨1, 2, 0, 9, 0⟩]) := by rw [a1, a2, a3]; rfl
  have f0 : qE m0 1 2 0 9 = 0 := by unfold qE; rw [e0]
  rw [f0, a2] at b2
  rw [show qL m0 1 2 0 9 = [⟨1, 2, 0, 9, 0⟩] by unfold qL; rw [e0]] at b1
  rw [a1] at b4
  have b2 : m1.came = 1 := b2
  refine pushQ_ok b3 (by omega) fun m2 c1 c2 c3 c4 => ?_
  have e1 : pushW m1.most m1.L ⟨2, 1, 0, 9, m1.came⟩ = (0, [⟨2, 1, 0, 9, 1⟩, ⟨1, 2, 0, 9, 0⟩]) := by rw [b1, b2, b4]; rfl
  have f1 : qE m1 2 1 0 9 = 0 := by unfold qE; rw [e1]
  rw [f1, b2] at c2
  rw [show qL m1 2 1 0 9 = [⟨2, 1, 0, 9, 1⟩, ⟨1, 2, 0, 9, 0⟩] by unfold qL; rw [e1]] at c1
  rw [b4] at c4
  have c2 : m2.came = 2 := c2
  refine pushQ_ok c3 (by omega) fun m3 d1 d2 d3 d4 => ?_
  have e2 : pushW m2.most m2.L ⟨1, 0, 0, 9, m2.came⟩ = (27, [⟨2, 1, 0, 9, 1⟩, ⟨1, 2, 0, 9, 0⟩]) := by rw [c1, c2, c4]; rfl
  have f2 : qE m2 1 0 0 9 = 27 := by unfold qE; rw [e2]
  rw [f2, c2] at d2
  rw [show qL m2 1 0 0 9 = [⟨2, 1, 0, 9, 1⟩, ⟨1, 2, 0, 9, 0⟩] by unfold qL; rw [e2]] at d1
  rw [c4] at d4
  have d2 : m3.came = 2 := d2
  refine pushQ_ok d3 (by omega) fun m4 g1 g2 g3 g4 => ?_
  have e3 : pushW m3.most m3.L ⟨3, 0, 0, 9, m3.came⟩ = (3, [⟨2, 1, 0, 9, 1⟩, ⟨1, 2, 0, 9, 0⟩]) := by rw [d1, d2, d4]; rfl
  have f3 : qE m3 3 0 0 9 = 3 := by unfold qE; rw [e3]
  rw [show qL m3 3 0 0 9 = [⟨2, 1, 0, 9, 1⟩, ⟨1, 2, 0, 9, 0⟩] by unfold qL; rw [e3]] at g1
  refine popQ_ok g3 fun m5 _ _ _ _ => ?_
  dsimp only
  rw [f0, f1, f2, f3, g1]
  exact hK m5
theorem gcK_none {K : VK QL} {v : V} {ch : List QL} (h : gcK 1 K v [] ch) : False := by
  unfold gcK at h
  generalize gcN [] ([] : List VB).length 0 (addN (rangeN 1) (refV v)) = keep at h
  unfold gcR at h
  cases keep with
  | nil =>
    have e : gcR.isPre (rangeN 1) [] = false := rfl
    simp only [e, Bool.and_false, cond_false] at h
  | cons i is =>
    have e : ∀ k, renB [] k (i :: is) = none := fun k => by simp [renB]
    simp only [e] at h
    cases hq : nodupN (i :: is) && gcR.isPre (rangeN 1) (i :: is) <;> simp only [hq, cond_true, cond_false] at h
    split at h <;> rename_i hh
    · split at hh
      · rename_i h2; cases h2
      · cases hh
    · exact h
def shC : CTr QL := fun args bl ch K => match args with
  | [] => cond (wfB bl.length bl) (K (.bool true) (bl ++ [jnk]) ch) False
  | _ => False
theorem shC_sound : Sound Try.prog gN0 6 shC := by
  intro args ids bl ch R ms w0 w K hg hl S hc
  unfold shC at hc
  split at hc
  · cases hq : wfB bl.length bl with
    | false => rw [hq] at hc; exact hc.elim
    | true =>
      rw [hq] at hc
      have S1 : St ms w0 (lits [] [] [] ++ nestB ([] : List QL) (lits ids ids bl ++ nestB ch R)) w := S
      have hvc : vcF (mkHL Try.prog gN0 LQ noH noH_ok (fun _ _ => none)) 60 6 [] [] [] (gcK 1 fun v b c => v = .bool true ∧ b = [tmB] ∧ ∃ m, c = [.qu m]) := by
        rw [sh_vc]
        exact shXX_ok fun m => ⟨rfl, rfl, m, rfl⟩
      refine (vcF_ok (AllOk.T (gl := gN0) LQ_ok) (AllOk.Q (gl := gN0) LQ_ok) 60 (C := mkHL Try.prog gN0 LQ noH noH_ok (fun _ _ => none)) (ids := []) (fun g i h => nomatch h) rfl S1 hvc).mono ?_
      rintro v w' ⟨x, more, bl', ch', rfl, hl1, S', hK'⟩
      have hm1 : 1 ≤ ([] ++ more : List Nat).length := by
        rcases Nat.eq_zero_or_pos ([] ++ more : List Nat).length with h0 | h0
        · exfalso
          obtain rfl : more = [] := List.eq_nil_of_length_eq_zero (by simpa using h0)
          obtain rfl : bl' = [] := List.eq_nil_of_length_eq_zero (by simpa using hl1.symm)
          exact gcK_none hK'
        · exact h0
      obtain ⟨v2, more2, bl2, hv, hl2, S2, rfl, rfl, m, rfl⟩ := gcK_ok (n0 := 1) hl1 hm1 S' hK'
      have hlen : (([] ++ more : List Nat).take 1 ++ more2).length = 1 := hl2
      generalize (([] ++ more : List Nat).take 1 ++ more2) = zs at hv hlen S2
      match zs, hlen with
      | [k], _ =>
        refine ⟨.bool true, [k], bl ++ [jnk], ch, by rw [hv]; rfl, by simp [hl], ?_, hc⟩
        rw [lits_app _ _ _ _ hl, lits_ids _ _ (by rw [hl]; exact hq)]
        have e1 : lits (ids ++ [k]) [k] [jnk] = [⟨k, false, .cells #[.int .i64 0, .int .i64 9] 30 (0, 0)⟩] := rfl
        have e2 : lits [k] [k] [tmB] = [⟨k, true, .cells #[.int .i64 0, .int .i64 9] 30 (0, 0)⟩] := rfl
        rw [e2] at S2
        rw [e1]
        have S3 : St ms w0 (⟨k, true, .cells #[.int .i64 0, .int .i64 9] 30 (0, 0)⟩ :: (lits ids ids bl ++ nestB ch R)) w' := by
          refine S2.sub ?_
          exact List.Sublist.cons_cons _ (List.sublist_append_right m.B _)
        exact (St.roQ S3).perm (permB fun f => by simp only [List.countP_append, List.countP_cons, List.countP_nil]; omega)
  · exact hc.elim
end Go.Proofs.Ytciiaficfmbimaa
noncomputable section
namespace Go.Proofs.Ytciiaficfmbimaa
open Go Go.RowKit Go.BigFrame Sx Vx
set_option maxRecDepth 100000
noncomputable def fnL (f : FuncId) : Func := match Try.prog.funcs[f]? with | some fn => fn | none => default
noncomputable def cA (f : FuncId) : Code := match (fnL f).body with | some (.seq a _) => a | _ => .skip
noncomputable def cB (f : FuncId) : Code := match (fnL f).body with | some (.seq _ (.seq b _)) => b | _ => .skip
noncomputable def cC (f : FuncId) : Code := match (fnL f).body with | some (.seq _ (.seq _ c)) => c | _ => .skip
theorem law_run {C : Ctx QL} {n : Nat} {f : FuncId} (hP : C.P = Try.prog) (hT : ∀ f c, C.T f = some c → Sound C.P C.gl f c) (hQ : QuietT C) (hg : C.gl = gN0)
    (hf : Try.prog.funcs[f]? = some (fnL f)) (hb : (fnL f).body = some (.seq (cA f) (.seq (cB f) (cC f)))) {args : List V} {w : World} {ids0 : List Nat} {bl0 bl3 : List VB} {fr1 fr2 fr3 : List V} (hl0 : ids0.length = bl0.length)
    (S0 : St [] w (lits ids0 ids0 bl0 ++ nestB ([] : List QL) []) w)
    (hA : ∀ K, vcC C n (cA f) (args ++ repU ((fnL f).ntmps - args.length)) bl0 [] K = K .normal fr1 bl0 []) (hB : ∀ K, vcC C n (cB f) fr1 bl0 [] K = K .normal fr2 (bl0 ++ [jnk]) [])
    (hR : ∀ (ids : List Nat) (w' : World), ids.length = (bl0 ++ [jnk]).length → St [] w (lits ids ids (bl0 ++ [jnk]) ++ nestB ([] : List QL) []) w' → ∃ ids3 : List Nat, ids3.length = bl3.length ∧ denM ids3 fr3 = denM ids fr2 ∧ St [] w (lits ids3 ids3 bl3 ++ nestB ([] : List QL) []) w')
    (hC : vcC C n (cC f) fr3 bl3 [] (retK Try.prog (fnL f) fun v _ _ => v = .bool true)) : Gives Try.prog f (denM ids0 args).toArray w fun v w' => v = .bool true ∧ Ch [] w w' := by
  have hG : ∀ ids, Gl C.gl ids := fun ids => by rw [hg]; exact fun g i h => nomatch h
  refine calls_of_wp hf hb ?_
  have e : ({ tmps := (denM ids0 args).toArray ++ Array.replicate ((fnL f).ntmps - (denM ids0 args).toArray.size) undef, defers := [] } : Act) = act ids0 (args ++ repU ((fnL f).ntmps - args.length)) := by
    simp only [act, denM_app2, denM_repU]
    congr 1
    apply Array.ext'
    simp [denM_eq]
  rw [e]
  rw [← hP]
  refine wp_seq (wpIn_wide (n := 0) |>.1 (sound hT hQ n none (cA f) (K := fun e fr bl ch => e = .normal ∧ fr = fr1 ∧ bl = bl0 ∧ ch = []) (hG _) hl0 S0 (by rw [hA]; exact ⟨rfl, rfl, rfl, rfl⟩) ?_).1)
  rintro e1 fr' more bl1 ch1 w1 g1 g2 ⟨rfl, rfl, rfl, rfl⟩
  obtain rfl : more = [] := List.eq_nil_of_length_eq_zero (by simp at g1; omega)
  rw [List.append_nil] at g1 g2 ⊢
  refine wp_seq (wpIn_wide (n := 0) |>.1 (sound hT hQ n none (cB f) (K := fun e fr bl ch => e = .normal ∧ fr = fr2 ∧ bl = bl1 ++ [jnk] ∧ ch = []) (hG _) g1 g2 (by rw [hB]; exact ⟨rfl, rfl, rfl, rfl⟩) ?_).1)
  rintro e2 fr'' more2 bl2 ch2 w2 k1 k2 ⟨rfl, rfl, rfl, rfl⟩
  obtain ⟨ids3, l3, hd, S3⟩ := hR _ w2 k1 k2
  have ea : act (ids0 ++ more2) fr'' = act ids3 fr3 := by simp only [act, hd]
  rw [ea]
  refine wpIn_wide (n := 0) |>.1 (sound hT hQ n none (cC f) (hG _) l3 S3 hC ?_).1
  intro e4 fr4 more4 bl4 ch4 w4 q1 q2 q3
  rw [hP]
  refine retK_ok q1 q2 q3 ?_
  rintro x rfl
  exact ⟨rfl, q2.ch⟩
def akI (fs : Nat → Sd.Wt) (j : Nat) : List Value := [.int .i64 (fs j).src, .int .i64 (fs j).rank, .int .i64 (fs j).at_, .int .i64 (fs j).most]
def inB (ty : BT) (pre : List Value) (n : Nat) (fs : Nat → Sd.Wt) (post : List Value) : VB := ⟨false, ty, [.rest pre, .rowp 4 n (akI fs), .rest post]⟩
def LLw : List (Ent QL) := ⟨6, false, shC⟩ :: LQ
theorem LLw_ok : AllOk Try.prog gN0 LLw := AllOk.cons ⟨shC_sound, fun e => by cases e⟩ LQ_ok
def rwB (wr : Bool) (ty : TypeId) (fz : Nat × Nat) (L : List Sd.Wt) (us : List Value) : VB := ⟨wr, ⟨ty, fz⟩, [.rowp 4 L.length (akF L), .rest us]⟩
def lstQ (m0 m : QM) (bl : List VB) (N : QM → Bool → TypeId → Nat × Nat → Nat → Option Addr → List Value → Prop) : Prop := (ptE m0 m ∧ ∃ k : Nat, bl[k]? = some jnk) ∧
  ∀ (m' : QM) (wr : Bool) (ty : TypeId) (fz : Nat × Nat) (c : Nat) (x : Option Addr) (us : List Value), m'.L = m.L → m'.came = m.came → m'.q = m.q → m'.most = m.most → (0 < m.L.length → wr = true ∧ fz = (0, 0)) → m.L.length ≤ c → N m' wr ty fz c x us
theorem lstQ_ok {m0 m : QM} {bl : List VB} {N : QM → Bool → TypeId → Nat × Nat → Nat → Option Addr → List Value → Prop} (hq : m.q = m0.q) (k : Nat) (hk : bl[k]? = some jnk)
    (h : ∀ (m' : QM) (wr : Bool) (ty : TypeId) (fz : Nat × Nat) (c : Nat) (x : Option Addr) (us : List Value), m'.L = m.L → m'.came = m.came → m'.q = m0.q → m'.most = m.most → (0 < m.L.length → wr = true ∧ fz = (0, 0)) → m.L.length ≤ c → N m' wr ty fz c x us) : lstQ m0 m bl N :=
  ⟨⟨ptE_ok hq, k, hk⟩, fun m' wr ty fz c x us h1 h2 h3 h4 h5 h6 => h m' wr ty fz c x us h1 h2 (h3.trans hq) h4 h5 h6⟩
def headQ (m0 m : QM) (N : QM → Prop) : Prop := ptE m0 m ∧ ∀ m' : QM, m'.L = m.L → m'.came = m.came → m'.q = m.q → m'.most = m.most → N m'
theorem headQ_ok {m0 m : QM} {N : QM → Prop} (hq : m.q = m0.q) (h : ∀ m' : QM, m'.L = m.L → m'.came = m.came → m'.q = m0.q → m'.most = m.most → N m') : headQ m0 m N :=
  ⟨ptE_ok hq, fun m' h1 h2 h3 h4 => h m' h1 h2 (h3.trans hq) h4⟩
def dropQ (m0 m : QM) (s : Int) (N : QM → Prop) : Prop := ptE m0 m ∧ ∀ m' : QM, m'.L = Hp.dropS m.L s → m'.came = m.came → m'.q = m.q → m'.most = m.most → N m'
theorem dropQ_ok {m0 m : QM} {s : Int} {N : QM → Prop} (hq : m.q = m0.q) (h : ∀ m' : QM, m'.L = Hp.dropS m.L s → m'.came = m.came → m'.q = m0.q → m'.most = m.most → N m') : dropQ m0 m s N :=
  ⟨ptE_ok hq, fun m' h1 h2 h3 h4 => h m' h1 h2 (h3.trans hq) h4⟩
def idx (k n : Nat) : Prop := 0 ≤ (k : Int) ∧ (k : Int) < (n : Int)
theorem idx_ok {k n : Nat} (h : k < n) : idx k n := ⟨by omega, by omega⟩
def ldF (L : List Sd.Wt) (k : Nat) : Prop := (k : Int).toNat < L.length ∧ ∀ j, (akF L j).length = 4
theorem ldF_ok {L : List Sd.Wt} {k : Nat} (h : k < L.length) : ldF L k := ⟨by simpa using h, fun _ => rfl⟩
end Go.Proofs.Ytciiaficfmbimaa
noncomputable section
namespace Go.Proofs.Ytciiaficfmbimaa
open Go Go.RowKit Go.BigFrame Sx Vx
set_option maxRecDepth 100000
structure DpA (n : Nat) where
  j : Nat
  hj : j ≤ n
  h2 : j ≤ 20
  m : QM
  hm : m.most = 64
  hc : m.came ≤ j
structure DpB where
  m : QM
  k : Nat
  hk : k ≤ m.L.length
  wr : Bool
  ty' : TypeId
  fz : Nat × Nat
  c' : Nat
  x : Option Addr
  us : List Value
structure DpC where
  L : List Sd.Wt
  m : QM
  k : Nat
  hk : k ≤ L.length
  hl : L.length ≤ 64
  wr : Bool
  ty' : TypeId
  fz : Nat × Nat
  c' : Nat
  x : Option Addr
  us : List Value
  wr2 : Bool
  ty2 : TypeId
  fz2 : Nat × Nat
  c2 : Nat
  x2 : Option Addr
  us2 : List Value
def thW (L : List Sd.Wt) (s : Int) (k : Nat) : Bool := (L.take k).any fun y => y.src == s
def anW (L : List Sd.Wt) (s : Int) : Bool := L.any fun y => y.src == s
def cnW (L : List Sd.Wt) (s : Int) (k : Nat) : Nat := (Hp.dropS (L.take k) s).length
section
variable (ty : BT) (pre post : List Value) (n o c : Nat) (a : Option Addr) (fs : Nat → Sd.Wt) (s : Int)
def dpV (m : QM) (j : Int) : List V := [.osl 0 o n c a, .int .i64 s, m.v, .int .i64 j]
def dpB : List VB := [inB ty pre n fs post, jnk]
def dpLp : Lp QL := mkLp (X := DpA n) (fun y => 20 - y.j) 117 2 [0, 1, 6, 8] (fun y => dpV n o c a s y.m y.j) (fun _ => dpB ty pre post n fs) (fun y => [.qu y.m]) (fun _ => rfl) (fun _ => by kernel_rfl) (fun _ => rfl)
def dbV (m : QM) (L : List Sd.Wt) (c' : Nat) (x : Option Addr) (b : Bool) (k : Int) : List V := [.int .i64 s, m.v, .osl 2 0 L.length c' x, .bool b, .int .i64 k]
def dbV' (y : DpB) : List V := dbV s y.m y.m.L y.c' y.x (thW y.m.L s y.k) y.k
def dbB (y : DpB) : List VB := [inB ty pre n fs post, jnk, rwB y.wr y.ty' y.fz y.m.L y.us]
def dbLp : Lp QL := mkLp (X := DpB) (fun y => y.m.L.length - y.k) 117 3 [1, 6, 9, 10, 11] (dbV' s) (dbB ty pre post n fs) (fun y => [.qu y.m]) (fun _ => rfl) (fun _ => by kernel_rfl) (fun _ => rfl)
def dcV (L L2 : List Sd.Wt) (c' c2 : Nat) (x x2 : Option Addr) (b1 b2 b3 : Bool) (cn k : Int) : List V := [.int .i64 s, .osl 2 0 L.length c' x, .bool b1, .bool b2, .bool b3, .osl 3 0 L2.length c2 x2, .int .i64 cn, .int .i64 k]
def dcV' (y : DpC) : List V := dcV s y.L (Hp.dropS y.L s) y.c' y.c2 y.x y.x2 (anW y.L s) (anW y.L s) false (cnW y.L s y.k) y.k
def dcB (y : DpC) : List VB := [inB ty pre n fs post, jnk, rwB y.wr y.ty' y.fz y.L y.us, rwB y.wr2 y.ty2 y.fz2 (Hp.dropS y.L s) y.us2]
def dcLp : Lp QL := mkLp (X := DpC) (fun y => y.L.length - y.k) 117 4 [1, 9, 10, 12, 13, 14, 15, 16] (dcV' s) (dcB ty pre post n fs s) (fun y => [.qu y.m]) (fun _ => rfl) (fun _ => by kernel_rfl) (fun _ => rfl)
def dpL : Nat → Option (Lp QL) := fun i => match i with
  | 0 => some (dpLp ty pre post n o c a fs s)
  | 2 => some (dbLp ty pre post n fs s)
  | 4 => some (dcLp ty pre post n fs s)
  | _ => none
variable (P : V → Prop)
def dcEn (u : DpC) (cn k : Int) : Prop := true = true ∧ enD (fun y : DpC => y.L.length - y.k) (dcV' s) (dcB ty pre post n fs s) (fun y => [QL.qu y.m]) u (dcV s u.L (Hp.dropS u.L s) u.c' u.c2 u.x u.x2 (anW u.L s) (anW u.L s) false cn k) (dcB ty pre post n fs s u) [.qu u.m]
def dcX (u : DpC) : Prop :=
  let cn := cnW u.L s u.k
  cond (decide ((u.k : Int) < (u.L.length : Int)))
    (idx u.k u.L.length ∧ ldF u.L u.k ∧ cond (u.L.toArray[(u.k : Int).toNat]!.src == s) (dcEn ty pre post n fs s u cn (wI ((u.k : Int) + 1)))
      (cond (decide ((cn : Int) ≥ ((Hp.dropS u.L s).length : Int))) (P (.bool false))
        (idx cn (Hp.dropS u.L s).length ∧ ldF (Hp.dropS u.L s) cn ∧ idx u.k u.L.length ∧ ldF u.L u.k ∧
          cond (bif false then true else !eqA (Hp.dropS u.L s).toArray[(cn : Int).toNat]! u.L.toArray[(u.k : Int).toNat]!) (P (.bool false)) (dcEn ty pre post n fs s u (wI ((cn : Int) + 1)) (wI ((u.k : Int) + 1))))))
    (cond (anW u.L s == anW u.L s) (P (.bool (an ((cn : Int) == ((Hp.dropS u.L s).length : Int))))) (P (.bool false)))
def dbT (z : DpB) : Prop := dropQ z.m z.m s fun m1 => dropQ z.m m1 s fun m2 => lstQ z.m m2 (dbB ty pre post n fs z) fun m3 wr ty2 fz c2 x us =>
  (true = true ∧ enD0 (dcV' s) (dcB ty pre post n fs s) (fun y : DpC => [QL.qu y.m]) (dcV s z.m.L m2.L z.c' c2 z.x x (thW z.m.L s z.k) (anW z.m.L s) (anW m1.L s) 0 0) [inB ty pre n fs post, jnk, rwB z.wr z.ty' z.fz z.m.L z.us, rwB wr ty2 fz m2.L us] [.qu m3]) ∧
  ∀ (u : DpC) (g : Nat → Value), dcX ty pre post n fs s P u
def dbEn (z : DpB) (b : Bool) (k : Int) : Prop := true = true ∧ enD (fun y : DpB => y.m.L.length - y.k) (dbV' s) (dbB ty pre post n fs) (fun y => [QL.qu y.m]) z (dbV s z.m z.m.L z.c' z.x b k) (dbB ty pre post n fs z) [.qu z.m]
def dpT (y : DpA n) : Prop := lstQ y.m y.m (dpB ty pre post n fs) fun m wr ty2 fz c2 x us =>
  (true = true ∧ enD0 (dbV' s) (dbB ty pre post n fs) (fun y : DpB => [QL.qu y.m]) (dbV s y.m y.m.L c2 x false 0) [inB ty pre n fs post, jnk, rwB wr ty2 fz y.m.L us] [.qu m]) ∧
  ∀ (z : DpB) (g : Nat → Value), cond (decide ((z.k : Int) < (z.m.L.length : Int)))
    (cond (thW z.m.L s z.k) (dbEn ty pre post n fs s z true (wI ((z.k : Int) + 1))) (idx z.k z.m.L.length ∧ ldF z.m.L z.k ∧ dbEn ty pre post n fs s z (z.m.L.toArray[(z.k : Int).toNat]!.src == s) (wI ((z.k : Int) + 1)))) (dbT ty pre post n fs s P z)
def dpBody (y : DpA n) : Prop :=
  let x := fs (y.j : Int).toNat
  idx y.j n ∧ (o = pre.length ∧ (y.j : Int).toNat < n ∧ ∀ i, (akI fs i).length = 4) ∧ pushQ y.m y.m x.src x.rank x.at_ x.most fun m' =>
    true = true ∧ enD (fun y : DpA n => 20 - y.j) (fun y => dpV n o c a s y.m y.j) (fun _ => dpB ty pre post n fs) (fun y => [QL.qu y.m]) y (dpV n o c a s y.m (wI ((y.j : Int) + 1))) (dpB ty pre post n fs) [.qu m']
def dpXX : Prop := ((1 : Int) ≤ 64 ∧ (64 : Int) ≤ 64) ∧ ∀ m0 : QM, m0.most = 64 → m0.came = 0 → m0.L = [] →
  (true = true ∧ enD0 (fun y : DpA n => dpV n o c a s y.m y.j) (fun _ => dpB ty pre post n fs) (fun y => [QL.qu y.m]) (dpV n o c a s m0 0) (dpB ty pre post n fs) [.qu m0]) ∧
  ∀ (y : DpA n) (g : Nat → Value), cond (decide ((y.j : Int) < (n : Int))) (cond (an (decide ((y.j : Int) < 20))) (dpBody ty pre post n o c a fs s y) (dpT ty pre post n fs s P y)) (dpT ty pre post n fs s P y)
noncomputable abbrev Cdp : Ctx QL := mkHL Try.prog gN0 LLw noH noH_ok (fun i _ => dpL ty pre post n o c a fs s i)
def dpFr (l : V) : List V := put (put (put ([l, .int .i64 s] ++ repU 115) (some 4) (.bool false)) (some 17) (.bool true)) (some 5) (.bool true)
theorem dp_vc : vcC (Cdp ty pre post n o c a fs s) 60 (cC 5) (dpFr s (.osl 0 o n c a)) [inB ty pre n fs post, jnk] [] (retK Try.prog (fnL 5) fun v _ _ => P v) = dpXX ty pre post n o c a fs s P := by kernel_rfl
end
end Go.Proofs.Ytciiaficfmbimaa
noncomputable section
namespace Go.Proofs.Ytciiaficfmbimaa
open Go Go.RowKit Go.BigFrame Sx Vx
set_option maxRecDepth 100000
theorem getL {L : List Sd.Wt} {k : Nat} (h : k < L.length) : L.toArray[k]! = L[k] := by
  rw [getElem!_pos L.toArray k (by simpa using h)]
  simp
theorem split_at_k {L : List Sd.Wt} {k : Nat} (h : k < L.length) : L = L.take k ++ L.toArray[k]! :: L.drop (k + 1) := by
  rw [getL h, List.getElem_cons_drop, List.take_append_drop]
theorem take_succ_k {L : List Sd.Wt} {k : Nat} (h : k < L.length) : L.take (k + 1) = L.take k ++ [L.toArray[k]!] := by
  rw [getL h, List.take_succ_eq_append_getElem h]
theorem thW_succ {L : List Sd.Wt} {s : Int} {k : Nat} (h : k < L.length) : thW L s (k + 1) = (thW L s k || L.toArray[k]!.src == s) := by
  unfold thW
  rw [take_succ_k h, List.any_append]
  simp
theorem thW_all {L : List Sd.Wt} {s : Int} {k : Nat} (h : L.length ≤ k) : thW L s k = anW L s := by
  unfold thW anW
  rw [List.take_of_length_le h]
theorem drop_app (A B : List Sd.Wt) (s : Int) : Hp.dropS (A ++ B) s = Hp.dropS A s ++ Hp.dropS B s := List.filter_append _ _
theorem drop_drop (L : List Sd.Wt) (s : Int) : Hp.dropS (Hp.dropS L s) s = Hp.dropS L s := by
  unfold Hp.dropS
  rw [List.filter_filter]
  simp
theorem an_drop (L : List Sd.Wt) (s : Int) : anW (Hp.dropS L s) s = false := by
  unfold anW Hp.dropS
  rw [List.any_eq_false]
  intro y hy
  have := (List.mem_filter.1 hy).2
  simpa using this
theorem cn_hit {L : List Sd.Wt} {s : Int} {k : Nat} (h : k < L.length) (he : L.toArray[k]!.src = s) : cnW L s (k + 1) = cnW L s k := by
  have hb : (L.toArray[k]!.src != s) = false := by rw [he]; simp
  unfold cnW
  rw [take_succ_k h, drop_app, List.length_append]
  unfold Hp.dropS
  rw [List.filter_cons, if_neg (by rw [hb]; simp)]
  rfl
theorem cn_miss {L : List Sd.Wt} {s : Int} {k : Nat} (h : k < L.length) (he : L.toArray[k]!.src ≠ s) : cnW L s (k + 1) = cnW L s k + 1 ∧ cnW L s k < (Hp.dropS L s).length ∧ (Hp.dropS L s).toArray[cnW L s k]! = L.toArray[k]! := by
  have hb : (L.toArray[k]!.src != s) = true := by simpa using he
  have e1 : Hp.dropS L s = Hp.dropS (L.take k) s ++ L.toArray[k]! :: Hp.dropS (L.drop (k + 1)) s := by
    conv => lhs; rw [split_at_k h, drop_app]
    congr 1
    unfold Hp.dropS
    rw [List.filter_cons, if_pos hb]
  refine ⟨?_, ?_, ?_⟩
  · unfold cnW
    rw [take_succ_k h, drop_app, List.length_append]
    unfold Hp.dropS
    rw [List.filter_cons, if_pos hb]
    rfl
  · unfold cnW
    rw [e1, List.length_append, List.length_cons]
    omega
  · have hlt : cnW L s k < (Hp.dropS L s).length := by unfold cnW; rw [e1, List.length_append, List.length_cons]; omega
    rw [getL hlt]
    have e2 : (Hp.dropS L s)[cnW L s k]? = some (L.toArray[k]!) := by
      unfold cnW
      rw [e1, List.getElem?_append_right (Nat.le_refl _), Nat.sub_self, List.getElem?_cons_zero]
    rw [List.getElem?_eq_getElem hlt] at e2
    exact Option.some.inj e2
theorem QM.v_eq {m m' : QM} (h : m'.q = m.q) : m.v = m'.v := by unfold QM.v; rw [h]
theorem len64 (m : QM) : m.L.length ≤ 64 := by have := m.h64; have := m.hI.len; omega
section
variable {ty : BT} {pre post : List Value} {n o c : Nat} {a : Option Addr} {fs : Nat → Sd.Wt} {s : Int}
def okP (v : V) : Prop := v = .bool true
theorem dcX_ok (u : DpC) : dcX ty pre post n fs s okP u := by
  unfold dcX
  dsimp only
  have hl := u.hl
  have hle : cnW u.L s u.k ≤ u.k := by
    unfold cnW Hp.dropS
    refine Nat.le_trans (List.length_filter_le _ _) ?_
    rw [List.length_take]
    omega
  refine cnd (fun h => ?_) fun h => ?_
  · have hk : u.k < u.L.length := Int.ofNat_lt.1 (of_decide_eq_true h)
    have en : ∀ (cn : Int), cn = (cnW u.L s (u.k + 1) : Nat) → dcEn ty pre post n fs s u cn (wI ((u.k : Int) + 1)) := by
      rintro cn rfl
      refine ⟨rfl, { u with k := u.k + 1, hk := hk }, by show u.L.length - (u.k + 1) < u.L.length - u.k; omega, ?_, rfl, rfl⟩
      rw [wrapW (by omega)]
      rfl
    refine ⟨idx_ok hk, ldF_ok hk, cnd (fun h2 => ?_) fun h2 => ?_⟩
    · have h2 : u.L.toArray[u.k]!.src = s := by simpa using h2
      exact en _ (by rw [cn_hit hk h2])
    · have h2 : u.L.toArray[u.k]!.src ≠ s := by simpa using h2
      obtain ⟨g1, g2, g3⟩ := cn_miss hk h2
      refine cnd (fun h3 => ?_) fun h3 => ⟨idx_ok g2, ldF_ok g2, idx_ok hk, ldF_ok hk, cnd (fun h4 => ?_) fun h4 => ?_⟩
      · have := of_decide_eq_true h3
        omega
      · have h4 : (!eqA (Hp.dropS u.L s).toArray[cnW u.L s u.k]! u.L.toArray[u.k]!) = true := h4
        rw [g3, eqA_self] at h4
        cases h4
      · refine en _ ?_
        rw [wrapW (by omega), g1]
        rfl
  · have hk : u.k = u.L.length := by
      have := of_decide_eq_false h
      have := u.hk
      omega
    refine cnd (fun h2 => ?_) fun h2 => ?_
    · show V.bool (an _) = _
      have e : cnW u.L s u.k = (Hp.dropS u.L s).length := by
        unfold cnW
        rw [hk, List.take_length]
      rw [e]
      simp [an]
    · simp at h2
theorem dbT_ok (z : DpB) (hk : z.k = z.m.L.length) : dbT ty pre post n fs s okP z := by
  refine dropQ_ok rfl fun m1 b1 b2 b3 b4 => dropQ_ok b3 fun m2 c1 c2 c3 c4 => lstQ_ok c3 1 rfl fun m3 wr ty2 fz cc x us h1 h2 h3 h4 h5 h6 => ⟨⟨rfl, ?_⟩, fun u g => dcX_ok u⟩
  have e1 : m2.L = Hp.dropS z.m.L s := by rw [c1, b1, drop_drop]
  have e2 : anW m1.L s = false := by rw [b1, an_drop]
  refine ⟨⟨z.m.L, m3, 0, Nat.zero_le _, len64 z.m, z.wr, z.ty', z.fz, z.c', z.x, z.us, wr, ty2, fz, cc, x, us⟩, ?_, ?_, rfl⟩
  · rw [e1, e2, thW_all (by omega)]
    rfl
  · rw [e1]
    rfl
theorem dpT_ok (y : DpA n) : dpT ty pre post n fs s okP y := by
  refine lstQ_ok rfl 1 rfl fun m wr ty2 fz cc x us h1 h2 h3 h4 h5 h6 => ⟨⟨rfl, ⟨m, 0, Nat.zero_le _, wr, ty2, fz, cc, x, us⟩, ?_, ?_, rfl⟩, fun z g => cnd (fun h => ?_) fun h => ?_⟩
  · show dbV s y.m y.m.L cc x false 0 = dbV s m m.L cc x false 0
    unfold dbV
    rw [QM.v_eq h3, h1]
  · rw [← h1]
    rfl
  · have hk : z.k < z.m.L.length := Int.ofNat_lt.1 (of_decide_eq_true h)
    have h64 := len64 z.m
    have en : ∀ b, b = thW z.m.L s (z.k + 1) → dbEn ty pre post n fs s z b (wI ((z.k : Int) + 1)) := by
      rintro b rfl
      refine ⟨rfl, { z with k := z.k + 1, hk := hk }, by show z.m.L.length - (z.k + 1) < z.m.L.length - z.k; omega, ?_, rfl, rfl⟩
      rw [wrapW (by omega)]
      rfl
    refine cnd (fun h2 => en _ ?_) fun h2 => ⟨idx_ok hk, ldF_ok hk, en _ ?_⟩
    · rw [thW_succ hk, h2]; rfl
    · rw [thW_succ hk, h2]; rfl
  · refine dbT_ok z ?_
    have := of_decide_eq_false h
    have := z.hk
    omega
theorem dpXX_ok (ho : ∀ j, j < n → o = pre.length) : dpXX ty pre post n o c a fs s okP := by
  refine ⟨⟨by decide, by decide⟩, fun m0 a1 a2 a3 => ⟨⟨rfl, ⟨0, Nat.zero_le _, Nat.zero_le _, m0, a1, by omega⟩, rfl, rfl, rfl⟩, fun y g => cnd (fun h => cnd (fun h2 => ?_) fun h2 => dpT_ok y) fun h => dpT_ok y⟩⟩
  have hj : y.j < n := Int.ofNat_lt.1 (of_decide_eq_true h)
  have hj2 : y.j < 20 := by
    have h2 : decide ((y.j : Int) < 20) = true := h2
    have := of_decide_eq_true h2
    omega
  have hc := y.hc
  refine ⟨idx_ok hj, ⟨ho _ hj, by simpa using hj, fun _ => rfl⟩, pushQ_ok rfl (by omega) fun m' b1 b2 b3 b4 => ⟨rfl, ⟨y.j + 1, hj, hj2, m', by rw [b4, y.hm], ?_⟩, by show 20 - (y.j + 1) < 20 - y.j; omega, ?_, rfl, rfl⟩⟩
  · rw [b2]
    have : ∀ b : Bool, (bif b then (1 : Int) else 0) ≤ 1 := fun b => by cases b <;> decide
    have := this (qE y.m (fs (y.j : Int).toNat).src (fs (y.j : Int).toNat).rank (fs (y.j : Int).toNat).at_ (fs (y.j : Int).toNat).most == 0)
    omega
  · show dpV n o c a s y.m _ = dpV n o c a s m' ((y.j + 1 : Nat) : Int)
    rw [wrapW (by omega)]
    unfold dpV
    rw [QM.v_eq b3]
    rfl
end
end Go.Proofs.Ytciiaficfmbimaa
noncomputable section
namespace Go.Proofs.Ytciiaficfmbimaa
open Go Go.RowKit Go.BigFrame Sx Vx
set_option maxRecDepth 100000
theorem rows_cut {cs : List Value} {off z : Nat} (g : Nat → List Value) (hz : ∀ j, (g j).length = z) : ∀ n, (∀ k, k < n → ∀ j, j < z → cs[off + k * z + j]? = (g k)[j]?) → cs.drop off = (List.range n).flatMap g ++ cs.drop (off + n * z)
  | 0, _ => by simp
  | n + 1, h => by
    rw [rows_cut g hz n (fun k hk => h k (by omega)), List.range_succ, List.flatMap_append, List.append_assoc]
    congr 1
    have e : (cs.drop (off + n * z)).take z = g n := by
      apply List.ext_getElem?
      intro j
      by_cases hj : j < z
      · rw [List.getElem?_take_of_lt hj, List.getElem?_drop]
        exact h n (by omega) j hj
      · rw [List.getElem?_eq_none (by simp; omega), List.getElem?_eq_none (by rw [hz]; omega)]
    have e2 := List.take_append_drop z (cs.drop (off + n * z))
    rw [e, List.drop_drop] at e2
    rw [List.flatMap_cons, List.flatMap_nil, List.append_nil, ← e2]
    congr 2
    rw [Nat.add_mul]; omega
structure AskIn (W : World) (v : Value) (fs : Nat → Sd.Wt) (i o n c : Nat) (a : Option Addr) (ty : BT) (pre post : List Value) : Prop where
  v : v = .slice (bif Nat.beq n 0 then a else some ⟨i, o, none⟩) n c
  po : ∀ j, j < n → o = pre.length
  at_ : W.heap[i]? = some (.cells (pre ++ ((List.range n).flatMap (akI fs) ++ post)).toArray ty.t ty.fz)
theorem AskIn.so {W : World} {b o n c : Nat} {fs : Nat → Sd.Wt} {cs : Array Value} {t : TypeId} {f : Nat × Nat} (hat : W.heap[b]? = some (.cells cs t f)) (h : ∀ k, k < n → ∀ j, j < 4 → W.cell? ⟨b, o + k * 4 + j, none⟩ = (akI fs k)[j]?) :
    ∃ pre post, AskIn W (.slice (some ⟨b, o, none⟩) n c) fs b o n c (some ⟨b, o, none⟩) ⟨t, f⟩ pre post := by
  have hc : ∀ k, k < n → ∀ j, j < 4 → cs.toList[o + k * 4 + j]? = (akI fs k)[j]? := fun k hk j hj => by
    have := h k hk j hj
    rw [cell_of hat] at this
    simpa using this
  have hz : ∀ j, (akI fs j).length = 4 := fun _ => rfl
  have hs := rows_cut (akI fs) hz n hc
  by_cases hn : n = 0
  · subst hn
    exact ⟨[], cs.toList, by cases Nat.beq 0 0 <;> rfl, (fun j hj => absurd hj (by omega)), by simpa using hat⟩
  · refine ⟨cs.toList.take o, cs.toList.drop (o + n * 4), by cases Nat.beq n 0 <;> rfl, fun j hj => ?_, ?_⟩
    · have h0 := hc 0 (by omega) 0 (by omega)
      have : o < cs.toList.length := by
        rcases Nat.lt_or_ge o cs.toList.length with h1 | h1
        · exact h1
        · exfalso
          rw [List.getElem?_eq_none (by omega)] at h0
          have h2 := hz 0
          rw [List.getElem?_eq_getElem (by omega)] at h0
          cases h0
      rw [List.length_take]; omega
    · rw [← hs, List.take_append_drop]; exact hat
theorem in_lits (i : Nat) (is : List Nat) (ty : BT) (pre post : List Value) (n : Nat) (fs : Nat → Sd.Wt) : lits is [i] [inB ty pre n fs post] = [⟨i, false, .cells (pre ++ ((List.range n).flatMap (akI fs) ++ post)).toArray ty.t ty.fz⟩] := by
  simp only [lits, mkB, inB, denC, cl, List.append_nil]
theorem in_st {W : World} {v : Value} {fs : Nat → Sd.Wt} {i o n c : Nat} {a : Option Addr} {ty : BT} {pre post : List Value} (h : AskIn W v fs i o n c a ty pre post) : St [] W (lits [i] [i] [inB ty pre n fs post] ++ nestB ([] : List QL) []) W := by
  refine St.allRo fun y hy => ?_
  rw [in_lits] at hy
  obtain rfl : y = _ := List.mem_singleton.1 (by simpa [nestB] using hy)
  exact ⟨rfl, h.at_⟩
def nlB : VB := inB ⟨30, (0, 0)⟩ [] 0 (fun _ => ⟨0, 0, 0, 0, 0⟩) [.int .i64 0, .int .i64 9]
theorem nl_st {W w' : World} {k : Nat} (S : St [] W (lits [k] [k] ([] ++ [jnk]) ++ nestB ([] : List QL) []) w') : St [] W (lits [k, k] [k, k] [nlB, jnk] ++ nestB ([] : List QL) []) w' := by
  have e1 : lits [k] [k] ([] ++ [jnk]) ++ nestB ([] : List QL) [] = [⟨k, false, .cells #[.int .i64 0, .int .i64 9] 30 (0, 0)⟩] := rfl
  have e2 : lits [k, k] [k, k] [nlB, jnk] ++ nestB ([] : List QL) [] = [⟨k, false, .cells #[.int .i64 0, .int .i64 9] 30 (0, 0)⟩, ⟨k, false, .cells #[.int .i64 0, .int .i64 9] 30 (0, 0)⟩] := rfl
  rw [e1] at S
  rw [e2]
  exact S.dupQ List.mem_cons_self rfl
theorem drops_so {W : World} {v : Value} {fs : Nat → Sd.Wt} {i o n c : Nat} {a : Option Addr} {ty : BT} {pre post : List Value} (s : Int) (h : AskIn W v fs i o n c a ty pre post) :
    Gives Try.prog 5 #[v, .int .i64 s] W fun v w' => v = .bool true ∧ Ch [] W w' := by
  have e : #[v, .int .i64 s] = (denM [i] [.osl 0 o n c a, .int .i64 s]).toArray := by rw [h.v]; rfl
  rw [e]
  exact law_run (C := Cdp ty pre post n o c a fs s) (n := 60) rfl (AllOk.T LLw_ok) (AllOk.Q LLw_ok) rfl (by kernel_rfl) (by kernel_rfl) (bl0 := [inB ty pre n fs post]) rfl (in_st h)
    (fr1 := put ([.osl 0 o n c a, .int .i64 s] ++ repU 115) (some 4) (.bool false)) (fr2 := dpFr s (.osl 0 o n c a)) (fun K => by kernel_rfl) (fun K => by kernel_rfl) (bl3 := [inB ty pre n fs post, jnk]) (fr3 := dpFr s (.osl 0 o n c a)) (fun ids w' hl S => ⟨ids, hl, rfl, S⟩)
    (by have := dp_vc ty pre post n o c a fs s okP; rw [show (fun v _ _ => v = .bool true : VK QL) = fun v _ _ => okP v from rfl, this]; exact dpXX_ok h.po)
theorem drops_nil (W : World) (s : Int) : Gives Try.prog 5 #[.slice none 0 0, .int .i64 s] W fun v w' => v = .bool true ∧ Ch [] W w' := by
  have e : #[.slice none 0 0, .int .i64 s] = (denM [] [.raw (.slice none 0 0), .int .i64 s]).toArray := rfl
  rw [e]
  refine law_run (C := Cdp ⟨30, (0, 0)⟩ [] [.int .i64 0, .int .i64 9] 0 0 0 none (fun _ => ⟨0, 0, 0, 0, 0⟩) s) (n := 60) rfl (AllOk.T LLw_ok) (AllOk.Q LLw_ok) rfl (by kernel_rfl) (by kernel_rfl) (bl0 := []) (ids0 := []) rfl (St.nil [] W)
    (fr1 := put ([.raw (.slice none 0 0), .int .i64 s] ++ repU 115) (some 4) (.bool false)) (fr2 := dpFr s (.raw (.slice none 0 0))) (fun K => by kernel_rfl) (fun K => by kernel_rfl) (bl3 := [nlB, jnk]) (fr3 := dpFr s (.osl 0 0 0 0 none)) (fun ids w' hl S => ?_)
    (by have := dp_vc ⟨30, (0, 0)⟩ [] [.int .i64 0, .int .i64 9] 0 0 0 none (fun _ => ⟨0, 0, 0, 0, 0⟩) s okP; rw [show (fun v _ _ => v = .bool true : VK QL) = fun v _ _ => okP v from rfl]; exact this ▸ dpXX_ok (fun j hj => absurd hj (by omega)))
  match ids, hl with
  | [k], _ => exact ⟨[k, k], rfl, rfl, nl_st S⟩
end Go.Proofs.Ytciiaficfmbimaa
namespace Go.Proofs.Ytciiaficfmbimaa
open Go Go.RowKit Go.BigFrame Go.WideShapes Go.ChangeShapes Sd Sx Vx
set_option maxRecDepth 100000
theorem cell_slice {W : World} {v : Value} {t e : TypeId} (hu : Try.prog.underlying t = some (.slice e)) (h : Cell.okWide Try.prog W .any 0 t v) :
    ∃ a n c, v = .slice a n c ∧ n ≤ c ∧ ((a = none ∧ n = 0 ∧ c = 0) ∨ ∃ x, a = some x ∧ (c : Int) ≤ IntKind.i64.max ∧ W.has Try.prog .any 0 x e c) := by
  unfold Cell.okWide at h
  rw [hu] at h
  cases v with
  | slice a n c =>
    unfold Cell.ok at h
    rw [hu] at h
    cases a with
    | none =>
      cases n <;> cases c <;> first | exact ⟨_, _, _, rfl, by omega, Or.inl ⟨rfl, rfl, rfl⟩⟩ | (simp at h)
    | some a => exact ⟨_, _, _, rfl, h.1, Or.inr ⟨a, rfl, h.2⟩⟩
  | _ => unfold Cell.ok at h; rw [hu] at h; simp at h
theorem open_asks {W : World} {v : Value} (hcell : Cell.okWide Try.prog W .any 0 22 v) (hrd : ∀ k, Rd Try.prog W k 22 [v]) :
    v = .slice none 0 0 ∨ ∃ (fs : Nat → Sd.Wt) (i o n c : Nat) (a : Option Addr) (ty : BT) (pre post : List Value), AskIn W v fs i o n c a ty pre post := by
  obtain ⟨a, m, c, rfl, hmc, ho⟩ := cell_slice Try.underlying22 hcell
  rcases ho with ⟨rfl, rfl, rfl⟩ | ⟨x, rfl, hc63, hhas⟩
  · exact .inl rfl
  refine .inr ?_
  obtain ⟨bk, off, spot⟩ := x
  obtain rfl : spot = none := hhas.2.1
  obtain ⟨row, cells, hsh, _⟩ := hhas.2.2
  have hobj : ∃ cs t f, W.heap[bk]? = some (.cells cs t f) := by
    unfold World.shape? at hsh
    split at hsh
    · rename_i cs t f hh; exact ⟨cs, t, f, hh⟩
    · cases hsh
  obtain ⟨cs, t, f, hat⟩ := hobj
  rcases rd_slice Try.underlying22 hrd (z := 4) rfl 5 (ts := [3, 3, 3, 3]) with h0' | ⟨a', len', cap', h0', _, _, C, hC⟩
  · simp at h0'
  simp only [Value.slice.injEq, Option.some.injEq] at h0'
  obtain ⟨rfl, rfl, rfl⟩ := h0'
  let num : Value → Int := fun v => match v with | .int _ n => n | _ => 0
  have hI : ∀ k, k < c → ∀ j, j < 4 → C k j = .int .i64 (num (C k j)) := fun k hk j hj => by
    have ht : ([3, 3, 3, 3] : List Nat)[j]? = some 3 := by
      have : j = 0 ∨ j = 1 ∨ j = 2 ∨ j = 3 := by omega
      rcases this with rfl | rfl | rfl | rfl <;> rfl
    obtain ⟨n, h1, h2⟩ := rd_int Try.underlying3 ((hC k hk j hj).2 _ ht)
    rw [h1]
  let fs : Nat → Sd.Wt := fun k => ⟨num (C k 0), num (C k 1), num (C k 2), num (C k 3), 0⟩
  have hadd : ∀ q : Nat, (⟨bk, off, none⟩ : Addr).add q = ⟨bk, off + q, none⟩ := fun q => by
    by_cases hq : q = 0
    · subst hq; rfl
    · simp [Addr.add, hq]
  have hcl : ∀ k, k < m → ∀ j, j < 4 → W.cell? ⟨bk, off + k * 4 + j, none⟩ = (akI fs k)[j]? := by
    intro k hk j hj
    have hk' : k < c := by omega
    have h1 : W.cell? ⟨bk, off + k * 4 + j, none⟩ = some (C k j) := by
      have := (hC k hk' j hj).1
      rw [hadd] at this
      rw [Nat.add_assoc]; exact this
    rw [h1, hI k hk' j hj]
    match j, hj with
    | 0, _ => rfl
    | 1, _ => rfl
    | 2, _ => rfl
    | 3, _ => rfl
    | j + 4, h => omega
  obtain ⟨pre, post, hR⟩ := AskIn.so (c := c) hat hcl
  exact ⟨fs, bk, off, m, c, _, _, pre, post, hR⟩
end Go.Proofs.Ytciiaficfmbimaa
