/- What is known of an input's cells, off their being read as data: each cell is such as its type says, and so are those behind a slice. Over any program. -/
import Derived.Test.YtbjanfgipcniiaaGreatDoorSE
import Derived.ChangeArms
import Derived.OpenShut
import Derived.Deep.Slices
namespace Sx
open Go Go.RowKit

def Rd (P : Program) (w : World) : Nat → TypeId → List Value → Prop
  | 0, _, _ => True
  | d + 1, t, cs =>
    match P.underlying t with
    | some .bool => ∃ b, cs = [.bool b]
    | some (.int k) => ∃ n, cs = [.int k n] ∧ k.min ≤ n ∧ n ≤ k.max
    | some (.slice e) => cs = [.slice none 0 0] ∨ ∃ a len cap, cs = [.slice (some a) len cap] ∧ len ≤ cap ∧ cap ≤ maxLen ∧ ∀ i, i < cap → ∃ cs', w.cells? 0 (a.add (i * P.cellsOf e)) (P.cellsOf e) = some cs' ∧ Rd P w d e cs'
    | some (.struct fs) => cs.length = P.cellsOf t ∧ ∀ (i : Nat) f, fs[i]? = some f → Rd P w d f.type ((cs.drop f.offset).take (P.cellsOf f.type))
    | some (.array n e) => cs.length = P.cellsOf t ∧ ∀ i, i < n → Rd P w d e ((cs.drop (i * P.cellsOf e)).take (P.cellsOf e))
    | _ => True

section
variable {H : Type} {enc : TypeId × Value → H} {P : Program} {w : World} {held : Bool}
theorem rd_of_trod : ∀ (d : Nat) {fuel : Nat} {t : TypeId} {cs : List Value} {x : DataW H × List MemPlace}, DataW.trod enc P w 0 (fun _ => true) held fuel t cs = some x → Rd P w d t cs
  | 0, _, _, _, _, _ => trivial
  | d + 1, fuel, t, cs, x, h => by
    unfold Rd
    split
    · rename_i hu
      obtain ⟨b, hb, _⟩ := DataW.trod_bool hu h
      exact ⟨b, hb⟩
    · rename_i k hu
      obtain ⟨n, hn, _, hw⟩ := DataW.trod_int hu h
      refine ⟨n, hn, ?_⟩
      unfold Lit.wf at hw
      simpa using hw
    · rename_i e hu
      rcases Deep.open_slice hu h with ⟨h0, _⟩ | ⟨a, len, cap, m, n, D, Pl, hc, _, hl, hm, hmm, _, hx⟩
      · exact .inl h0
      · refine .inr ⟨a, len, cap, hc, hl, hm, fun i hi => ?_⟩
        obtain ⟨cs', h1, h2⟩ := hx i (by rw [hmm]; simpa using hi)
        exact ⟨cs', h1, rd_of_trod d h2⟩
    · rename_i fs hu
      obtain ⟨xs, n, _, _, hl, hs, hx⟩ := DataW.trod_struct hu h
      refine ⟨hl, fun i f hf => ?_⟩
      have h1 := hx i f hf
      have hi : i < fs.size := by
        rcases Nat.lt_or_ge i fs.size with h2 | h2
        · exact h2
        · simp [h2] at hf
      rw [List.getElem?_eq_getElem (by rw [hs]; exact hi)] at h1
      exact rd_of_trod d h1
    · rename_i n e hu
      obtain ⟨xs, m, _, _, hl, hs, hx⟩ := DataW.trod_array hu h
      refine ⟨hl, fun i hi => ?_⟩
      have h1 := hx i hi
      rw [List.getElem?_eq_getElem (by rw [hs]; exact hi)] at h1
      exact rd_of_trod d h1
    · trivial

/-- which type the j-th cell of a type has -/
def cellAt (P : Program) : Nat → TypeId → Nat → Option TypeId
  | 0, _, _ => none
  | d + 1, t, j =>
    match P.underlying t with
    | some (.struct fs) => fs.toList.findSome? fun f => bif Nat.ble f.offset j && Nat.blt j (f.offset + P.cellsOf f.type) then cellAt P d f.type (j - f.offset) else none
    | some (.array n e) => bif Nat.blt (j / P.cellsOf e) n && Nat.blt 0 (P.cellsOf e) then cellAt P d e (j % P.cellsOf e) else none
    | _ => bif Nat.beq j 0 then some t else none

theorem rd_cell : ∀ (d : Nat) {t : TypeId} {cs : List Value} {j : Nat} {u : TypeId} {v : Value}, (∀ n, Rd P w n t cs) → cellAt P d t j = some u → cs[j]? = some v → ∀ n, Rd P w n u [v]
  | 0, _, _, _, _, _, _, h, _ => by simp [cellAt] at h
  | d + 1, t, cs, j, u, v, hr, h, hv => by
    unfold cellAt at h
    split at h
    · rename_i fs hu
      obtain ⟨f, hf, h⟩ := List.exists_of_findSome?_eq_some h
      obtain ⟨i, hi⟩ := List.getElem?_of_mem hf
      have hfi : fs[i]? = some f := by simpa using hi
      rw [Bool.cond_eq_ite] at h
      split at h
      · rename_i hc
        simp only [Bool.and_eq_true] at hc
        have h1 := Nat.le_of_ble_eq_true hc.1
        have h2 : j < f.offset + P.cellsOf f.type := by
          have := hc.2; unfold Nat.blt at this; exact Nat.le_of_ble_eq_true this
        refine rd_cell d (cs := (cs.drop f.offset).take (P.cellsOf f.type)) (fun n => ?_) h ?_
        · have := hr (n + 1)
          unfold Rd at this
          rw [hu] at this
          exact this.2 i f hfi
        · rw [List.getElem?_take_of_lt (by omega), List.getElem?_drop]
          rw [show f.offset + (j - f.offset) = j by omega]; exact hv
      · simp at h
    · rename_i n0 e hu
      rw [Bool.cond_eq_ite] at h
      split at h
      · rename_i hc
        simp only [Bool.and_eq_true] at hc
        have h1 : j / P.cellsOf e < n0 := by
          have := hc.1; unfold Nat.blt at this; exact Nat.le_of_ble_eq_true this
        have h2 : 0 < P.cellsOf e := by
          have := hc.2; unfold Nat.blt at this; exact Nat.le_of_ble_eq_true this
        refine rd_cell d (cs := (cs.drop (j / P.cellsOf e * P.cellsOf e)).take (P.cellsOf e)) (fun n => ?_) h ?_
        · have := hr (n + 1)
          unfold Rd at this
          rw [hu] at this
          exact this.2 _ h1
        · rw [List.getElem?_take_of_lt (Nat.mod_lt _ h2), List.getElem?_drop]
          rw [show j / P.cellsOf e * P.cellsOf e + j % P.cellsOf e = j by rw [Nat.mul_comm]; exact Nat.div_add_mod _ _]; exact hv
      · simp at h
    · rename_i hns hna
      rw [Bool.cond_eq_ite] at h
      split at h
      · rename_i hj
        obtain rfl : j = 0 := Nat.eq_of_beq_eq_true hj
        obtain rfl : t = u := by simpa using h
        intro n
        have h1 := hr n
        cases n with
        | zero => trivial
        | succ n =>
          unfold Rd at h1 ⊢
          split at h1
          · obtain ⟨b, rfl⟩ := h1; simp at hv; subst hv; exact ⟨b, rfl⟩
          · obtain ⟨k, rfl, h2⟩ := h1; simp at hv; subst hv; exact ⟨k, rfl, h2⟩
          · rcases h1 with rfl | ⟨a, len, cap, rfl, h2⟩
            · simp at hv; subst hv; exact .inl rfl
            · simp at hv; subst hv; exact .inr ⟨a, len, cap, rfl, h2⟩
          · rename_i fs hu; exact absurd hu (hns fs)
          · rename_i k e hu; exact absurd hu (hna k e)
          · trivial
      · simp at h
theorem rd_int {u : TypeId} {v : Value} {k : IntKind} (hu : P.underlying u = some (.int k)) (h : ∀ n, Rd P w n u [v]) : ∃ n, v = .int k n ∧ k.min ≤ n ∧ n ≤ k.max := by
  have := h 1
  unfold Rd at this
  rw [hu] at this
  obtain ⟨b, hb, h2⟩ := this
  exact ⟨b, by simpa using hb, h2⟩
/-- a slice, its cells by two indices -/
theorem rd_slice {u e : TypeId} {v : Value} {z : Nat} {ts : List TypeId} (hu : P.underlying u = some (.slice e)) (h : ∀ n, Rd P w n u [v]) (hz : P.cellsOf e = z := by kernel_rfl) (d : Nat) (hts : (List.range z).map (cellAt P d e) = ts.map some := by kernel_rfl) :
    v = .slice none 0 0 ∨ ∃ a len cap, v = .slice (some a) len cap ∧ len ≤ cap ∧ cap ≤ maxLen ∧ ∃ c : Nat → Nat → Value, ∀ i, i < cap → ∀ j, j < z → w.cell? (a.add (i * z + j)) = some (c i j) ∧ ∀ u', ts[j]? = some u' → ∀ n, Rd P w n u' [c i j] := by
  have h1 := h 1
  unfold Rd at h1
  rw [hu] at h1
  rcases h1 with h1 | ⟨a, len, cap, h1, h2, h3, _⟩
  · exact .inl (by simpa using h1)
  · obtain rfl : v = _ := by simpa using h1
    refine .inr ⟨a, len, cap, rfl, h2, h3, ?_⟩
    subst hz
    have key : ∀ i, i < cap → ∃ cs', w.cells? 0 (a.add (i * P.cellsOf e)) (P.cellsOf e) = some cs' ∧ ∀ n, Rd P w n e cs' := by
      intro i hi
      have hat : ∀ n, ∃ cs', w.cells? 0 (a.add (i * P.cellsOf e)) (P.cellsOf e) = some cs' ∧ Rd P w n e cs' := by
        intro n
        have h4 := h (n + 1)
        unfold Rd at h4
        rw [hu] at h4
        rcases h4 with h4 | ⟨a', len', cap', h4, _, _, h5⟩
        · simp at h4
        · simp at h4
          obtain ⟨rfl, rfl, rfl⟩ := h4
          exact h5 i hi
      obtain ⟨cs', hc, _⟩ := hat 0
      refine ⟨cs', hc, fun n => ?_⟩
      obtain ⟨cs'', hc', hr⟩ := hat n
      rw [hc] at hc'
      obtain rfl : cs' = cs'' := by simpa using hc'
      exact hr
    obtain ⟨C, hC⟩ := Deep.choose_lt key
    refine ⟨fun i j => (C i).getD j undef, fun i hi j hj => ?_⟩
    obtain ⟨h5, h6⟩ := hC i hi
    obtain ⟨_, hl, hcell⟩ := World.cells?_some h5
    have h7 : (C i)[j]? = some ((C i).getD j undef) := by
      have hlt : j < (C i).length := by omega
      simp [List.getD, List.getElem?_eq_getElem hlt]
    refine ⟨?_, fun u' hu' => ?_⟩
    · have := hcell j hj
      rw [h7] at this
      have e1 : (a.add (i * P.cellsOf e)).add j = a.add (i * P.cellsOf e + j) := by
        unfold Addr.add
        split <;> split <;> split <;> simp_all <;> omega
      rw [e1] at this
      exact this
    · have hjt : cellAt P d e j = some u' := by
        have h8 : ((List.range (P.cellsOf e)).map (cellAt P d e))[j]? = some (some u') := by rw [hts]; simp [hu']
        simp [hj] at h8
        exact h8
      exact rd_cell d h6 hjt h7
end
end Sx
