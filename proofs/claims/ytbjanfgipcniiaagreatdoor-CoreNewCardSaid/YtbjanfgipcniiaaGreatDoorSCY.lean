/- Frames in segments, for calls; rows of numbers told by a function; steps at an index that is not told. Over any program. -/
import Derived.Test.YtbjanfgipcniiaaGreatDoorSCX
namespace Sx
open Go Go.RowKit Go.BigFrame
set_option linter.unusedVariables false
set_option linter.unusedSimpArgs false
theorem cat_split (segs : List (List Blk)) (R : List Blk) : cat segs R = cat segs [] ++ R := by
  induction segs with
  | nil => rfl
  | cons a l ih => show a ++ cat l R = (a ++ cat l []) ++ R; rw [ih, List.append_assoc]
section
variable {ms : List Nat} {w0 w : World}
theorem St.split {A B R bs : List Blk} (S : St ms w0 bs w) (segs : List (List Blk)) (h1 : bs = A ++ cat segs R := by kernel_rfl) (h2 : cat segs [] = B := by kernel_rfl) : St ms w0 (A ++ (B ++ R)) w := by
  subst h2; rw [← cat_split, ← h1]; exact S
end
section
variable {P : Program} {lf l : List Oper} {sp : Nat → Sp} {a0 : Act} {w : World} {i k0 : Nat} {pre : List (List Nat)} {o : Oper} {es : List Nat} {pv : Value → World → Prop}
variable {ms : List Nat} {w0 : World} {bs : List Blk}
end
/-! ### rows of numbers told by a function -/
def rowF (kd : IntKind) (n : Nat) (f : Nat → Int) : Array Value := ((List.range n).map fun i => Value.int kd (f i)).toArray
def updF (f : Nat → Int) (i : Nat) (v : Int) : Nat → Int := fun j => bif Nat.beq j i then v else f j
theorem rowF_size (kd : IntKind) (n : Nat) (f : Nat → Int) : (rowF kd n f).size = n := by simp [rowF]
theorem rowF_at (kd : IntKind) {n : Nat} (f : Nat → Int) {i : Nat} (h : i < n) : (rowF kd n f)[i]? = some (.int kd (f i)) := by simp [rowF, h]
theorem updF_eq (f : Nat → Int) (i : Nat) (v : Int) : updF f i v i = v := by simp [updF]
theorem updF_ne (f : Nat → Int) {i j : Nat} (v : Int) (h : j ≠ i) : updF f i v j = f j := by
  have : Nat.beq j i = false := by
    cases hb : Nat.beq j i
    · rfl
    · exact absurd (Nat.eq_of_beq_eq_true hb) h
  simp [updF, this]
theorem rowF_set (kd : IntKind) {n : Nat} (f : Nat → Int) {i : Nat} (h : i < n) (v : Int) : splice (rowF kd n f) i [.int kd v] = rowF kd n (updF f i v) := by
  apply Array.ext'
  show ((rowF kd n f).toList.take i ++ [Value.int kd v] ++ (rowF kd n f).toList.drop (i + 1)) = _
  simp only [rowF]
  apply List.ext_getElem
  · simp; omega
  · intro j h1 h2
    simp only [List.length_append, List.length_take, List.length_map, List.length_range, List.length_drop, List.length_cons, List.length_nil] at h1 h2
    rcases Nat.lt_trichotomy j i with hj | hj | hj
    · rw [List.getElem_append_left (by simp; omega), List.getElem_append_left (by simp; omega)]
      simp [updF_ne _ _ (Nat.ne_of_lt hj)]
    · subst hj
      rw [List.getElem_append_left (by simp; omega), List.getElem_append_right (by simp; omega)]
      simp [updF_eq]
    · rw [List.getElem_append_right (by simp; omega)]
      simp only [List.length_append, List.length_take, List.length_map, List.length_range, List.length_cons, List.length_nil, List.getElem_drop, List.getElem_map, List.getElem_range]
      rw [updF_ne _ _ (by omega)]
      congr 2
      omega
theorem rowF_congr (kd : IntKind) {n : Nat} {f g : Nat → Int} (h : ∀ i, i < n → f i = g i) : rowF kd n f = rowF kd n g := by
  unfold rowF
  congr 1
  apply List.map_congr_left
  intro i hi
  rw [h i (List.mem_range.1 hi)]
section
variable {ms : List Nat} {w0 w : World} {bs : List Blk}
theorem ckF {kd : IntKind} {n : Nat} {f : Nat → Int} {i off b : Nat} {t : TypeId} (ho : off < n) (hb : bs[i]? = some ⟨b, true, .cells (rowF kd n f) t (0, 0)⟩ := by kernel_rfl) : ckS bs i off 1 = some b := by
  have h2 : Nat.ble (off + 1) (rowF kd n f).size = true := by rw [rowF_size]; exact Nat.ble_eq_true_of_le ho
  unfold ckS
  rw [hb]
  simp only [h2]
/-- one number stored at an index that is not told -/
theorem St.stF {kd : IntKind} {n : Nat} {f : Nat → Int} {i off b : Nat} {t : TypeId} {v : Int} (S : St ms w0 (stb bs i off [.int kd v]) w) (ho : off < n) {bs' : List Blk} (hb : bs[i]? = some ⟨b, true, .cells (rowF kd n f) t (0, 0)⟩ := by kernel_rfl)
    (h2 : bs.set i ⟨b, true, .cells (rowF kd n (updF f off v)) t (0, 0)⟩ = bs' := by kernel_rfl) : St ms w0 bs' w := by
  unfold stb at S
  rw [hb] at S
  simp only at S
  rw [rowF_set kd f ho, h2] at S
  exact S
end
section
variable {P : Program} {lf l : List Oper} {sp : Nat → Sp} {a0 : Act} {w : World} {i k0 : Nat} {pre : List (List Nat)} {o : Oper} {es : List Nat} {pv : Value → World → Prop}
variable {ms : List Nat} {w0 : World} {bs : List Blk}
theorem qLh_ (S : St ms w0 bs w) (j b off : Nat) (hb : lk bs j off = some (b, (sp i).f [])) {x : Operand} {ty : TypeId} (ho : o.op = .load ty x := by rfl) (hs : slotsOk l sp i o = true := by kernel_rfl) (hx : envE (envOf l sp a0 o) x = .pointer (some ⟨b, off, none⟩) := by kernel_rfl)
    (ha : (P.underlying ty).map aggD = some false := by kernel_rfl) : StepOk P lf l sp (yof a0) w i o := qL_ S j b off ho hs hx ha hb
end
end Sx
namespace Sx
open Go Go.RowKit Go.BigFrame
/-! ### what a list of blocks is of: all writable; their types -/
def Wr (bl : List Blk) : Prop := ∀ x ∈ bl, x.wr = true
theorem Wr.nil : Wr [] := fun x h => by cases h
theorem Wr.cons {b : Blk} {l : List Blk} (h : b.wr = true) (k : Wr l) : Wr (b :: l) := fun x hx => by
  rcases List.mem_cons.1 hx with rfl | hx
  · exact h
  · exact k x hx
theorem Wr.app {a b : List Blk} (h : Wr a) (k : Wr b) : Wr (a ++ b) := fun x hx => by
  rcases List.mem_append.1 hx with hx | hx
  · exact h x hx
  · exact k x hx
def Ty (L : List Nat) (bl : List Blk) : Prop := ∀ x ∈ bl, ∃ t, tyO x.obj = some t ∧ t ∈ L
theorem Ty.nil : Ty [] [] := fun x h => by cases h
theorem Ty.cons {b : Blk} {l : List Blk} {t : Nat} {L : List Nat} (h : tyO b.obj = some t) (k : Ty L l) : Ty (t :: L) (b :: l) := fun x hx => by
  rcases List.mem_cons.1 hx with rfl | hx
  · exact ⟨t, h, by simp⟩
  · obtain ⟨u, h1, h2⟩ := k x hx; exact ⟨u, h1, by simp [h2]⟩
theorem Ty.app {a b : List Blk} {L M : List Nat} (h : Ty L a) (k : Ty M b) : Ty (L ++ M) (a ++ b) := fun x hx => by
  rcases List.mem_append.1 hx with hx | hx
  · obtain ⟨u, h1, h2⟩ := h x hx; exact ⟨u, h1, by simp [h2]⟩
  · obtain ⟨u, h1, h2⟩ := k x hx; exact ⟨u, h1, by simp [h2]⟩
def disjT (L : List Nat) (ys : List (Option TypeId)) : Bool := ys.all fun y => match y with | some t => L.all fun u => !(Nat.beq u t) | none => true
theorem Ty.ne {L : List Nat} {bl : List Blk} {ys : List (Option TypeId)} (h : Ty L bl) (hd : disjT L ys = true := by kernel_rfl) : ∀ x ∈ bl, ∀ t ∈ ys, tyO x.obj ≠ t := fun x hx t ht e => by
  obtain ⟨u, h1, h2⟩ := h x hx
  have h3 := List.all_eq_true.1 hd t ht
  rw [h1] at e
  subst e
  simp only at h3
  have h4 := List.all_eq_true.1 h3 u h2
  simp at h4
theorem rowv.ty {z T olds x n c bl} (h : rowv z T olds x n c bl) : Ty [T] bl := by
  rcases h.2.2 with ⟨_, _, _, rfl⟩ | ⟨b, tail, _, rfl, _⟩
  · intro x hx; cases hx
  · exact Ty.cons rfl Ty.nil
end Sx
namespace Sx
open Go Go.RowKit Go.BigFrame
section
variable {P : Program} {a : Act} {w : World} {Q : Exit → Act → World → Prop}
theorem then_j {K : Act → World → Prop} (h : ∀ a', a' = a → K a' w) : Exit.then K Q .normal a w := h a rfl
theorem loopJ_ {c : Code} (I : Nat → Act → World → Prop) (n : Nat) (h : ∀ a', a' = a → I n a' w)
    (hs : ∀ m a w, I m a w → c.wp P (Exit.then (fun a' w' => ∃ k, k < m ∧ I k a' w') Q) a w) : (Code.loop c).wp P Q a w := loopI_ I n (h a rfl) hs
end
end Sx
namespace Sx
open Go
end Sx
