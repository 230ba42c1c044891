/- Lists of blocks in segments: taken in another order, or fewer. Over any program. -/
import Derived.Test.YtbjanfgipcniiaaGreatDoorSCE
namespace Sx
open Go Go.RowKit Go.BigFrame
set_option linter.unusedVariables false
set_option linter.unusedSimpArgs false
/-- segments, one behind the other, and the rest -/
def cat (segs : List (List Blk)) (R : List Blk) : List Blk := segs.foldr (· ++ ·) R
theorem cat_eq (segs : List (List Blk)) (R : List Blk) : cat segs R = segs.flatten ++ R := by
  induction segs with
  | nil => rfl
  | cons a l ih => simp [cat] at ih ⊢; exact ih
/-- the segments with the numbers is, then the others -/
def segP (n : Nat) (is : List Nat) : Bool := is.all (fun i => Nat.blt i n) && natNodup is
where natNodup : List Nat → Bool
  | [] => true
  | i :: l => !(l.any (Nat.beq i)) && natNodup l
theorem natNodup_iff : ∀ {l : List Nat}, segP.natNodup l = true → l.Nodup
  | [], _ => List.nodup_nil
  | i :: l, h => by
    simp only [segP.natNodup, Bool.and_eq_true, Bool.not_eq_true'] at h
    refine List.nodup_cons.2 ⟨fun hm => ?_, natNodup_iff h.2⟩
    have : l.any (Nat.beq i) = true := List.any_eq_true.2 ⟨i, hm, by simp⟩
    rw [this] at h; exact absurd h.1 (by simp)
section
variable {ms : List Nat} {w0 w : World}
theorem sub_perm : ∀ (is l : List Nat), is.Nodup → (∀ i ∈ is, i ∈ l) → ∃ r, l.Perm (is ++ r)
  | [], l, _, _ => ⟨l, List.Perm.refl _⟩
  | i :: is, l, hn, hm => by
    have hn' := List.nodup_cons.1 hn
    obtain ⟨r, hr⟩ := sub_perm is (l.erase i) hn'.2 (fun j hj => (List.mem_erase_of_ne (fun e => hn'.1 (by rw [← e]; exact hj))).2 (hm j (by simp [hj])))
    exact ⟨r, (List.perm_cons_erase (hm i (by simp))).trans (by simpa using hr.cons i)⟩
theorem sub_idx {α : Type} (segs : List α) (d : α) (is : List Nat) (hn : is.Nodup) (hlt : ∀ i ∈ is, i < segs.length) : ∃ rest, segs.Perm (is.map (fun i => segs.getD i d) ++ rest) := by
  have hr : (List.range segs.length).map (fun i => segs.getD i d) = segs := by
    apply List.ext_getElem
    · simp
    · intro i h1 h2
      simp [List.getD_eq_getElem?_getD, h2]
  obtain ⟨r, hr2⟩ := sub_perm is (List.range segs.length) hn (fun i hi => List.mem_range.2 (hlt i hi))
  refine ⟨r.map fun i => segs.getD i d, ?_⟩
  rw [← List.map_append]
  have := hr2.map (fun i => segs.getD i d)
  rwa [hr] at this
/-- segments taken in another order, or fewer -/
theorem St.re {bs bs' R : List Blk} (S : St ms w0 bs w) (segs : List (List Blk)) (is : List Nat) (h1 : bs = cat segs R := by kernel_rfl) (h2 : segP segs.length is = true := by kernel_rfl) (h3 : cat (is.map fun i => segs.getD i []) R = bs' := by kernel_rfl) : St ms w0 bs' w := by
  subst h1 h3
  simp only [segP, Bool.and_eq_true] at h2
  obtain ⟨rest, hp⟩ := sub_idx segs [] is (natNodup_iff h2.2) (fun i hi => by have := List.all_eq_true.1 h2.1 i hi; unfold Nat.blt at this; exact Nat.le_of_ble_eq_true this)
  rw [cat_eq] at S ⊢
  have h4 : St ms w0 ((is.map fun i => segs.getD i []).flatten ++ (rest.flatten ++ R)) w := S.perm (by
    rw [← List.append_assoc, ← List.flatten_append]
    exact List.Perm.append_right R hp.flatten)
  exact h4.sub (List.Sublist.append_left (List.sublist_append_right _ _) _)
end
end Sx
