/- A region that draws its order, in which one operation calls a function that changes some blocks, and others lay new blocks. Over any program. -/
import Derived.Test.YtbjanfgipcniiaaGreatDoorSSG
namespace Sx
open Go Go.RowKit Go.BigFrame
set_option linter.unusedVariables false
set_option linter.unusedSimpArgs false

def tyO : Obj → Option TypeId
  | .cells _ t _ => some t
  | _ => none
/-- a new block, pointed to -/
def sA (obj : Obj) : Sp := ⟨1, fun ids => .pointer (some ⟨ids.getD 0 0, 0, none⟩), fun ids => [(ids.getD 0 0, obj)]⟩
inductive VX where
  | v (x : Value)
  | a (obj : Obj)
def VX.sp : VX → Sp
  | .v x => s0 x
  | .a o => sA o
def VX.val (id : Nat) : VX → Value
  | .v x => x
  | .a _ => .pointer (some ⟨id, 0, none⟩)
def valsX (ids : Nat → Nat) : Nat → List VX → List Value
  | _, [] => []
  | i, x :: xs => x.val (ids i) :: valsX ids (i + 1) xs
def newX (ids : Nat → Nat) : Nat → List VX → List Blk
  | _, [] => []
  | i, .v _ :: xs => newX ids (i + 1) xs
  | i, .a o :: xs => ⟨ids i, true, o⟩ :: newX ids (i + 1) xs
def tysX : List VX → List (Option TypeId)
  | [] => []
  | .v _ :: xs => tysX xs
  | .a o :: xs => tyO o :: tysX xs
def tyNd : List (Option TypeId) → Bool
  | [] => true
  | none :: _ => false
  | some t :: l => (l.all fun x => match x with | some u => !(Nat.beq u t) | none => false) && tyNd l
theorem tyNd_some : ∀ {l : List (Option TypeId)}, tyNd l = true → ∀ x ∈ l, x ≠ none
  | none :: _, h, _, _ => by simp [tyNd] at h
  | some t :: l, h, x, hx => by
    simp only [tyNd, Bool.and_eq_true] at h
    rcases List.mem_cons.1 hx with rfl | hx
    · simp
    · exact tyNd_some h.2 x hx
theorem tyNd_head {t : TypeId} {l : List (Option TypeId)} (h : tyNd (some t :: l) = true) : ∀ x ∈ l, x ≠ some t := by
  simp only [tyNd, Bool.and_eq_true] at h
  intro x hx e
  have := List.all_eq_true.1 h.1 x hx
  subst e
  simp at this
theorem mem_newX {ids : Nat → Nat} : ∀ {xs : List VX} {i : Nat} {y : Blk}, y ∈ newX ids i xs → ∃ j o, xs[j]? = some (.a o) ∧ y = ⟨ids (i + j), true, o⟩
  | [], _, y, h => by simp [newX] at h
  | .v _ :: xs, i, y, h => by
    obtain ⟨j, o, h1, h2⟩ := mem_newX (show y ∈ newX ids (i + 1) xs from h)
    exact ⟨j + 1, o, by simpa using h1, by rw [h2, show i + 1 + j = i + (j + 1) by omega]⟩
  | .a o :: xs, i, y, h => by
    rcases List.mem_cons.1 (show y ∈ ⟨ids i, true, o⟩ :: newX ids (i + 1) xs from h) with rfl | h
    · exact ⟨0, o, rfl, rfl⟩
    · obtain ⟨j, o, h1, h2⟩ := mem_newX h
      exact ⟨j + 1, o, by simpa using h1, by rw [h2, show i + 1 + j = i + (j + 1) by omega]⟩
theorem ty_newX {ids : Nat → Nat} {xs : List VX} : ∀ {i : Nat} {y : Blk}, y ∈ newX ids i xs → tyO y.obj ∈ tysX xs := by
  induction xs with
  | nil => intro i y h; simp [newX] at h
  | cons x xs ih =>
    intro i y h
    cases x with
    | v x => exact ih (show y ∈ newX ids (i + 1) xs from h)
    | a o =>
      rcases List.mem_cons.1 (show y ∈ ⟨ids i, true, o⟩ :: newX ids (i + 1) xs from h) with rfl | h
      · simp [tysX]
      · simp [tysX, ih h]
theorem get_valsX {ids : Nat → Nat} (xs : List VX) : ∀ {i k : Nat} {u : Value}, (valsX ids i xs)[k]? = some u → ∃ x, xs[k]? = some x ∧ u = x.val (ids (i + k)) := by
  induction xs with
  | nil => intro i k u h; simp [valsX] at h
  | cons x xs ih =>
    intro i k u h
    cases k with
    | zero => exact ⟨x, rfl, by simpa [valsX] using h.symm⟩
    | succ k =>
      obtain ⟨y, h1, h2⟩ := ih (show (valsX ids (i + 1) xs)[k]? = some u by simpa [valsX] using h)
      exact ⟨y, by simpa using h1, by rw [h2, show i + 1 + k = i + (k + 1) by omega]⟩
theorem len_valsX {ids : Nat → Nat} : ∀ {xs : List VX} {i : Nat}, (valsX ids i xs).length = xs.length
  | [], _ => rfl
  | x :: xs, i => by simp [valsX, len_valsX (xs := xs)]
section
variable {ms : List Nat} {w0 w : World} {bs : List Blk}
/-- new blocks of types that no other one has -/
theorem St.addX (S : St ms w0 bs w) (xs : List VX) (ids : Nat → Nat) (i : Nat) (hnd : tyNd (tysX xs) = true) {B : Nat} (hB : w0.heap.size ≤ B)
    (hat : ∀ (j : Nat) o, xs[j]? = some (.a o) → B ≤ ids (i + j) ∧ w.heap[ids (i + j)]? = some o) (hold : ∀ x ∈ bs, (x.id < B ∨ ∀ y ∈ newX ids i xs, tyO x.obj ≠ tyO y.obj)) : St ms w0 (newX ids i xs ++ bs) w := by
  have hn : ∀ y ∈ newX ids i xs, B ≤ y.id ∧ w.heap[y.id]? = some y.obj := fun y hy => by
    obtain ⟨j, o, h1, rfl⟩ := mem_newX hy
    exact hat j o h1
  refine St.mk' S.ch (fun x hx => ?_) (fun x hx hw => ?_) ?_
  · rcases List.mem_append.1 hx with h | h
    · exact (hn x h).2
    · exact S.at' h
  · rcases List.mem_append.1 hx with h | h
    · exact .inr (Nat.le_trans hB (hn x h).1)
    · exact S.own' h hw
  · rw [List.pairwise_append]
    refine ⟨?_, S.pw, fun x hx y hy _ e => ?_⟩
    · have key : ∀ (xs : List VX) (i : Nat), tyNd (tysX xs) = true → (∀ y ∈ newX ids i xs, w.heap[y.id]? = some y.obj) → (newX ids i xs).Pairwise clash := by
        intro xs
        induction xs with
        | nil => intro i _ _; simp [newX]
        | cons x xs ih =>
          intro i hnd hat
          cases x with
          | v x => exact ih (i + 1) hnd hat
          | a o =>
            refine List.pairwise_cons.2 ⟨fun y hy _ e => ?_, ?_⟩
            · have h1 := hat ⟨ids i, true, o⟩ (by simp [newX])
              have h2 := hat y (by simp [newX, hy])
              simp only at h1 e
              rw [e] at h1
              have h3 : o = y.obj := by rw [h1] at h2; simpa using h2
              have ht := ty_newX hy
              cases hto : tyO o with
              | none => exact tyNd_some hnd _ (by simp [tysX, hto]) rfl
              | some t =>
                simp only [tysX, hto] at hnd
                exact tyNd_head hnd _ ht (by rw [← h3, hto])
            · refine ih (i + 1) ?_ (fun y hy => hat y (by simp [newX, hy]))
              cases hto : tyO o with
              | none => simp [tysX, hto, tyNd] at hnd
              | some t => simp only [tysX, hto, tyNd, Bool.and_eq_true] at hnd; exact hnd.2
      exact key xs i hnd (fun y hy => (hn y hy).2)
    · have h1 := hn x hx
      have h2 := S.at' hy
      rcases hold y hy with h | h
      · omega
      · rw [e] at h1
        have h3 : x.obj = y.obj := by rw [h1.2] at h2; simpa using h2
        exact h x hx (by rw [h3])
end
section
variable {P : Program} {lf l : List Oper} {sp : Nat → Sp} {a0 : Act} {w : World} {i k0 : Nat} {pre : List (List Nat)} {o : Oper} {es : List Nat} {pv : Value → World → Prop}
variable {ms : List Nat} {w0 : World} {bs : List Blk}
end
section
variable {P : Program} {a0 : Act} {w w0 : World} {Q : Exit → Act → World → Prop} {id : Nat} {L : List Oper} {ms : List Nat}
end
end Sx
