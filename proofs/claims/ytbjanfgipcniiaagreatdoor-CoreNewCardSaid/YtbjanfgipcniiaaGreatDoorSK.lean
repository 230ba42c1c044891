/- Rows of bytes: copied, cut, appended, indexed. Over any program. -/
import Derived.Test.YtbjanfgipcniiaaGreatDoorSCY
namespace Sx
open Go Go.RowKit Go.BigFrame
set_option linter.unusedVariables false
set_option linter.unusedSimpArgs false
def bvF (n : Nat) (f : Nat → Int) : List Value := (List.range n).map fun i => Value.int .u8 (f i)
theorem bvF_len (n : Nat) (f : Nat → Int) : (bvF n f).length = n := by simp [bvF]
theorem bvF_at {n : Nat} (f : Nat → Int) {j : Nat} (h : j < n) : (bvF n f)[j]? = some (.int .u8 (f j)) := by simp [bvF, h]
theorem bvF_one {n : Nat} {f : Nat → Int} : ∀ v ∈ bvF n f, v.oneCell' = true := fun v h => by
  simp only [bvF, List.mem_map] at h
  obtain ⟨j, _, rfl⟩ := h; rfl
theorem bvF_get {n : Nat} {f : Nat → Int} {j : Nat} {v : Value} (h : (bvF n f)[j]? = some v) : j < n ∧ v = .int .u8 (f j) := by
  have hj : j < n := by
    rcases Nat.lt_or_ge j n with h1 | h1
    · exact h1
    · rw [List.getElem?_eq_none (by rw [bvF_len]; exact h1)] at h; cases h
  rw [bvF_at f hj] at h
  exact ⟨hj, (Option.some.inj h).symm⟩
def catF (n : Nat) (f g : Nat → Int) : Nat → Int := fun j => bif Nat.blt j n then f j else g (j - n)
theorem blt_t {a b : Nat} (h : a < b) : Nat.blt a b = true := by unfold Nat.blt; exact Nat.ble_eq_true_of_le h
theorem blt_f {a b : Nat} (h : ¬ a < b) : Nat.blt a b = false := by
  cases hb : Nat.blt a b
  · rfl
  · unfold Nat.blt at hb; exact absurd (Nat.le_of_ble_eq_true hb) h
theorem ble_f {a b : Nat} (h : ¬ a ≤ b) : Nat.ble a b = false := by
  cases hb : Nat.ble a b
  · rfl
  · exact absurd (Nat.le_of_ble_eq_true hb) h
theorem bvF_cat (n m : Nat) (f g : Nat → Int) : bvF n f ++ bvF m g = bvF (n + m) (catF n f g) := by
  apply List.ext_getElem?
  intro j
  by_cases h : j < n
  · rw [List.getElem?_append_left (by rw [bvF_len]; exact h), bvF_at f h, bvF_at _ (by omega)]
    simp [catF, blt_t h]
  · rw [List.getElem?_append_right (by rw [bvF_len]; omega), bvF_len]
    by_cases h2 : j < n + m
    · rw [bvF_at g (by omega), bvF_at _ h2]; simp [catF, blt_f h]
    · rw [List.getElem?_eq_none (by rw [bvF_len]; omega), List.getElem?_eq_none (by rw [bvF_len]; omega)]
theorem bvF_congr {n : Nat} {f g : Nat → Int} (h : ∀ i, i < n → f i = g i) : bvF n f = bvF n g := by
  unfold bvF
  apply List.map_congr_left
  intro i hi
  rw [h i (List.mem_range.1 hi)]
/-- m numbers put over others, from o on -/
def ovF (f : Nat → Int) (o m : Nat) (g : Nat → Int) : Nat → Int := fun j => bif Nat.ble o j && Nat.blt j (o + m) then g (j - o) else f j
theorem rowF_over (kd : IntKind) {n : Nat} (f : Nat → Int) {o m : Nat} (h : o + m ≤ n) (g : Nat → Int) : ((rowF kd n f).toList.take o ++ (List.range m).map (fun i => Value.int kd (g i)) ++ (rowF kd n f).toList.drop (o + m)).toArray = rowF kd n (ovF f o m g) := by
  apply Array.ext'
  simp only [rowF]
  apply List.ext_getElem
  · simp; omega
  · intro j h1 h2
    simp only [List.length_append, List.length_take, List.length_map, List.length_range, List.length_drop] at h1 h2
    by_cases ha : j < o
    · rw [List.getElem_append_left (by simp; omega), List.getElem_append_left (by simp; omega)]
      simp [ovF, ble_f (show ¬ o ≤ j by omega)]
    · by_cases hb : j < o + m
      · rw [List.getElem_append_left (by simp; omega), List.getElem_append_right (by simp; omega)]
        have : min o n = o := by omega
        simp [ovF, Nat.ble_eq_true_of_le (show o ≤ j by omega), blt_t hb, this]
      · rw [List.getElem_append_right (by simp; omega)]
        have : min o n = o := by omega
        simp only [List.length_append, List.length_take, List.length_map, List.length_range, List.getElem_drop, List.getElem_map, List.getElem_range, this]
        have e : o + m + (j - (o + m)) = j := by omega
        simp [ovF, blt_f hb, e]
/-- bytes that stand in memory -/
def At8 (w : World) (b o n : Nat) (f : Nat → Int) : Prop := ∀ j, j < n → w.cell? ⟨b, o + j, none⟩ = some (.int .u8 (f j))
theorem At8.cut {w : World} {b o n : Nat} {f : Nat → Int} (h : At8 w b o n f) {m : Nat} (hm : m ≤ n) : At8 w b o m f := fun j hj => h j (by omega)
theorem At8.drop {w : World} {b o n : Nat} {f : Nat → Int} (h : At8 w b o n f) (k : Nat) : At8 w b (o + k) (n - k) (fun j => f (k + j)) := fun j hj => by
  rw [Nat.add_assoc]; exact h (k + j) (by omega)
section
variable {ms : List Nat} {w0 w : World} {bs : List Blk}
theorem St.old8 (S : St ms w0 bs w) {b o n : Nat} {f : Nat → Int} (h : At8 w0 b o n f) (hm : b ∉ ms) : At8 w b o n f := fun j hj => S.oldAt (h j hj) hm
theorem St.row8 (S : St ms w0 bs w) (i : Nat) {b N : Nat} {wr : Bool} {f : Nat → Int} {t : TypeId} {fr : Nat × Nat} (hb : bs[i]? = some ⟨b, wr, .cells (rowF .u8 N f) t fr⟩ := by kernel_rfl) : At8 w b 0 N f := fun j hj => by
  rw [cell_of (S.at_ i _ hb), Nat.zero_add, rowF_at _ f hj]
end
section
variable {P : Program} {w : World}
theorem src8 {b o n c : Nat} {f : Nat → Int} {tx e' : TypeId} (h : At8 w b o n f) (hk : P.underlying tx = some (.slice e') := by kernel_rfl) : Src P 1 tx (.slice (some ⟨b, o, none⟩) n c) n (bvF n f) w :=
  Src.ofSlice w hk _ n c _ (by rw [bvF_len, Nat.mul_one]) (fun j u hj => by
    obtain ⟨h1, rfl⟩ := bvF_get hj
    rw [Addr.add_lit]; exact h j h1) bvF_one
theorem copy_op {ρ : Operand → Value} {o : Oper} {w' : World} {s x : Operand} {t tx : TypeId} {sv xv v : Value} (ho : o.op = .call ⟨.builtin .copy, #[s, x], #[t, tx]⟩) (hs : ρ s = sv) (hx : ρ x = xv)
    (hrun : (Builtin.copy_ #[t, tx] o.type #[sv, xv]).run P w = .ok v w') : (execOp ρ o).run P w = .ok (.value v) w' := by
  simp [execOp, ho, resolve, invoke, builtin, hs, hx, hrun, Result.andThen]
end
section
variable {P : Program} {ops : Array Oper} {rest : List Oper} {o : Oper} {a : Act} {w w0 : World} {ms : List Nat} {bs : List Blk} {Q : Exit → Act → World → Prop}
/-- bytes copied into a row -/
theorem copy_ (S : St ms w0 bs w) (i : Nat) (b N off n c : Nat) (f : Nat → Int) (sb so m sc : Nat) (g : Nat → Int) {t : TypeId} {s x : Operand} {tt tx elem : TypeId} (h8 : At8 w sb so m g) (hm : m ≤ n) (hn : off + m ≤ N)
    (hb : bs[i]? = some ⟨b, true, .cells (rowF .u8 N f) t (0, 0)⟩) {bs' : List Blk} (h2 : bs.set i ⟨b, true, .cells (rowF .u8 N (ovF f off m g)) t (0, 0)⟩ = bs')
    (k : ∀ w', St ms w0 bs' w' → WL P ops Q rest (a.put o.dst (.int .i64 m)) w')
    (hw : Region.wanted o (yielded ops a.tmps) = true := by kernel_rfl) (ho : o.op = .call ⟨.builtin .copy, #[s, x], #[tt, tx]⟩ := by rfl) (hs : a.eval s = .slice (some ⟨b, off, none⟩) n c := by kernel_rfl) (hx : a.eval x = .slice (some ⟨sb, so, none⟩) m sc := by kernel_rfl)
    (hu : P.underlying tt = some (.slice elem) := by kernel_rfl) (hz : (P.info? elem).map (·.size) = some 1 := by kernel_rfl) : WL P ops Q (o :: rest) a w :=
  WL.want hw fun K hK => by
    have hat := S.at_ i _ hb
    have hmin : Nat.min m n = m := Nat.min_eq_left hm
    have hrun := run_copy_row (P := P) w tt tx o.type elem b off n c ⟨sb, so, none⟩ m sc (rowF .u8 N f) t (bvF m g) hu hz hat (by rw [bvF_len, hmin]) (fun j v hj => by
      obtain ⟨h1, rfl⟩ := bvF_get hj
      rw [Addr.add_lit]; exact h8 j h1) (by rw [bvF_len, rowF_size]; exact hn) bvF_one
    unfold Oper.wp
    rw [copy_op ho hs hx hrun]
    rw [bvF_len]
    have he : (goInt m : Value) = .int .i64 m := rfl
    rw [he]
    refine hK _ _ (k _ ?_)
    have hS := S.step hb rfl (Ch.setRow w b _) (setRow_heap w b (rowF .u8 N f) ((rowF .u8 N f).toList.take off ++ bvF m g ++ (rowF .u8 N f).toList.drop (off + m)).toArray t (0, 0) hat)
    have e2 : ((rowF .u8 N f).toList.take off ++ bvF m g ++ (rowF .u8 N f).toList.drop (off + m)).toArray = rowF .u8 N (ovF f off m g) := rowF_over .u8 f hn g
    rw [e2, h2] at hS
    rw [e2]
    exact hS
end
section
variable {P : Program} {ρ : Operand → Value} {o : Oper} {w : World}
/-- a slice's rest -/
theorem run_rest {t e : TypeId} {x lo : Operand} {b off n c k : Nat} {kd : IntKind} (hk : k ≤ n) (hc : n ≤ c) (off' : Nat) (ho' : off' = (if c = k then off else off + k)) (ho : o.op = .slice t x (some lo) none none := by rfl) (hu : P.underlying t = some (.slice e) := by kernel_rfl) (hs : (P.info? e).map (·.size) = some 1 := by kernel_rfl)
    (hx : ρ x = .slice (some ⟨b, off, none⟩) n c := by kernel_rfl) (hh : ρ lo = .int kd ((k : Nat) : Int) := by kernel_rfl) : (execOp ρ o).run P w = .ok (.value (.slice (some ⟨b, off', none⟩) (n - k) (c - k))) w := by
  obtain ⟨i, hi', hsz⟩ := Option.map_eq_some_iff.1 hs
  unfold execOp
  simp only [ho, Option.map_none, Option.map_some, hx, hh]
  unfold Instr.sliceAt
  simp only [Sem.run_bind, run_underlying hu, Result.andThen_ok]
  unfold Instr.slice
  simp only [Sem.run_bind, run_underlying hu, Result.andThen_ok, Instr.sliceBounds, Instr.sliceBound, asIntOf, Sem.run_pure]
  have h1 : (0 : Int) ≤ (k : Int) ∧ (k : Int) ≤ (n : Int) := by omega
  have h3 : (⟨b, off, none⟩ : Addr).add k = ⟨b, off + k, none⟩ := Addr.add_lit ..
  by_cases hck : c = k
  · rw [if_pos hck] at ho'
    simp [h1, Go.sizeOf, typeInfo, hi', hsz, hck, ho']
  · rw [if_neg hck] at ho'
    simp [h1, Go.sizeOf, typeInfo, hi', hsz, hck, ho', h3]
end
end Sx
namespace Sx
open Go Go.RowKit Go.BigFrame
section
variable {P : Program} {lf l : List Oper} {sp : Nat → Sp} {a0 : Act} {w : World} {i : Nat} {o : Oper}
theorem qI_ (b off off' n z : Nat) (kd : IntKind) (iv : Int) {t e : TypeId} {x y : Operand} (h0 : 0 ≤ iv) (h1 : iv < n) (he : off' = off + iv.toNat * z) (hv : (sp i).f [] = .pointer (some ⟨b, off', none⟩) := by kernel_rfl) (hs : slotsOk l sp i o = true := by kernel_rfl)
    (ho : o.op = .indexAddr t x y := by rfl) (hu : P.underlying t = some (.array n e) := by kernel_rfl) (hz : (P.info? e).map (·.size) = some z := by kernel_rfl)
    (hx : envE (envOf l sp a0 o) x = .pointer (some ⟨b, off, none⟩) := by kernel_rfl) (hy : envE (envOf l sp a0 o) y = .int kd iv := by kernel_rfl) : StepOk P lf l sp (yof a0) w i o :=
  q_step hs fun _ _ => Y.idxA_ b off off' n z kd iv h0 h1 he ⟨Ch.refl _ _, hv.symm⟩ ho hu hz hx hy
end
section
variable {P : Program} {ops : Array Oper} {rest : List Oper} {o : Oper} {a : Act} {w : World} {Q : Exit → Act → World → Prop}
/-- an array's element, at an index that is not told -/
theorem indexV_ (vk : IntKind) (n : Nat) (f : Nat → Int) (kd : IntKind) (iv : Int) {t e : TypeId} {x y : Operand} (h0 : 0 ≤ iv) (h1 : iv < n) (k : WL P ops Q rest (a.put o.dst (.int vk (f iv.toNat))) w) (hw : Region.wanted o (yielded ops a.tmps) = true := by kernel_rfl)
    (ho : o.op = .index t x y := by rfl) (hu : P.underlying t = some (.array n e) := by kernel_rfl) (hz : (P.info? e).map (·.size) = some 1 := by kernel_rfl) (ha : (P.underlying e).map aggD = some false := by kernel_rfl)
    (hx : a.eval x = .agg (rowF vk n f) := by kernel_rfl) (hy : a.eval y = .int kd iv := by kernel_rfl) : WL P ops Q (o :: rest) a w :=
  pure_ (.int vk (f iv.toNat)) k hw (by
    obtain ⟨inf, hq, hsz⟩ := Option.map_eq_some_iff.1 hz
    have hlt : iv.toNat < n := by omega
    have hget : (rowF vk n f)[iv.toNat]? = some (.int vk (f iv.toNat)) := rowF_at vk f hlt
    unfold execOp
    simp only [ho, hx, hy]
    unfold Instr.index
    simp only [Sem.run_bind, run_underlying hu, Result.andThen_ok, asIntOf, Sem.run_pure]
    simp [h0, h1, Go.sizeOf, typeInfo, hq, hsz, part, run_isAgg ha, hget])
end
end Sx
namespace Sx
open Go Go.RowKit Go.BigFrame
/-- bytes, and nought up to the capacity -/
def bvZ (n : Nat) (f : Nat → Int) (c : Nat) : Array Value := (bvF n f ++ List.replicate (c - n) (Value.int .u8 0)).toArray
theorem zeroCells8 (k : Nat) : (Builtin.zeroCells #[Value.int .u8 0] k).toList = List.replicate k (Value.int .u8 0) := by
  apply List.ext_getElem
  · simp [Builtin.zeroCells]
  · intro i h1 h2
    simp [Builtin.zeroCells, Nat.mod_one]
/-- a slice of bytes that the call made -/
def row8 (T : TypeId) (n : Nat) (f : Nat → Int) (x : Option Addr) (c : Nat) (bl : List Blk) : Prop :=
  n ≤ c ∧ ((x = none ∧ n = 0 ∧ c = 0 ∧ bl = []) ∨ ∃ b, x = some ⟨b, 0, none⟩ ∧ bl = [⟨b, true, .cells (bvZ n f c) T (0, 0)⟩])
theorem row8.wr {T n f x c bl} (h : row8 T n f x c bl) : Wr bl := by
  rcases h.2 with ⟨_, _, _, rfl⟩ | ⟨b, _, rfl⟩
  · exact Wr.nil
  · exact Wr.cons rfl Wr.nil
theorem row8.ty {T n f x c bl} (h : row8 T n f x c bl) : Ty [T] bl := by
  rcases h.2 with ⟨_, _, _, rfl⟩ | ⟨b, _, rfl⟩
  · intro x hx; cases hx
  · exact Ty.cons rfl Ty.nil
theorem row8_nil (T : TypeId) : row8 T 0 (fun _ => 0) none 0 [] := ⟨Nat.le_refl _, .inl ⟨rfl, rfl, rfl, rfl⟩⟩
theorem bvZ_size {n c : Nat} (f : Nat → Int) (h : n ≤ c) : (bvZ n f c).size = c := by simp [bvZ, bvF_len]; omega
section
variable {P : Program}
theorem run_append8 {w : World} {T n c m : Nat} {f g : Nat → Int} {x : Option Addr} {bl : List Blk} (hr : row8 T n f x c bl) (hat : ∀ y ∈ bl, w.heap[y.id]? = some y.obj)
    {t tx ty : TypeId} {xv : Value} (hs : Src P 1 tx xv m (bvF m g) w) (ht : P.underlying t = some (.slice T)) (hi : (P.info? T).map (fun i => (i.zero.map (·.cells), i.size, i.bytes)) = some (some #[.int .u8 0], 1, 1))
    (hb : n + m ≤ 140737488355328) :
    ∃ v w', (Builtin.append_ #[t, tx] ty #[.slice x n c, xv]).run P w = .ok v w' ∧ Ch (bl.map Blk.id) w w' ∧ ∃ x' c' bl', v = .slice x' (n + m) c' ∧ row8 T (n + m) (catF n f g) x' c' bl' ∧ ∀ y ∈ bl', w'.heap[y.id]? = some y.obj ∧ ((∃ u ∈ bl, y.id = u.id) ∨ w.heap.size ≤ y.id) := by
  obtain ⟨i, hinfo, hi⟩ := Option.map_eq_some_iff.1 hi
  simp only [Prod.mk.injEq] at hi
  obtain ⟨hz, hsz, hby⟩ := hi
  obtain ⟨z0, hz0, hzs⟩ := Option.map_eq_some_iff.1 hz
  obtain ⟨hnc, hrow⟩ := hr
  have hs' : Src P i.size tx xv m (bvF m g) w := by rw [hsz]; exact hs
  have h63 : n + m ≤ maxLen := by unfold maxLen; omega
  by_cases hroom : n + m ≤ c
  · rcases Nat.eq_zero_or_pos m with hm0 | hm0
    · subst hm0
      refine ⟨_, _, run_append_nothing (P := P) w t tx ty T i ht hinfo x n c hnc xv hs', Ch.refl _ _, x, c, bl, rfl, ⟨hnc, ?_⟩, fun y hy => ⟨hat y hy, .inl ⟨y, hy, rfl⟩⟩⟩
      rcases hrow with h | ⟨b, rfl, rfl⟩
      · exact .inl h
      · refine .inr ⟨b, rfl, ?_⟩
        have e : bvF (n + 0) (catF n f g) = bvF n f := bvF_congr fun j hj => by simp [catF, blt_t (show j < n by omega)]
        show [(⟨b, true, .cells (bvZ n f c) T (0, 0)⟩ : Blk)] = [⟨b, true, .cells ((bvF (n + 0) (catF n f g) ++ List.replicate (c - (n + 0)) (Value.int .u8 0)).toArray) T (0, 0)⟩]
        rw [e]; rfl
    · rcases hrow with ⟨_, rfl, rfl, _⟩ | ⟨b, rfl, rfl⟩
      · omega
      · have hat1 := hat _ (List.mem_singleton.2 rfl)
        have hst := run_storeCells_at (P := P) b n T (bvF m g) 0 (bvZ n f c) w hat1 (by rw [bvZ_size f hnc, bvF_len]; omega) hs.one
        simp only [Nat.add_zero, bvF_len] at hst
        have hrun : (Builtin.append_ #[t, tx] ty #[.slice (some ⟨b, 0, none⟩) n c, xv]).run P w = .ok (.slice (some ⟨b, 0, none⟩) (n + m) c) (w.setRow b ((bvZ n f c).toList.take n ++ bvF m g ++ (bvZ n f c).toList.drop (n + m)).toArray) := by
          rcases hs'.kind with ⟨e', hk⟩ | hk <;> simp [Builtin.append_, run_underlying ht, run_underlying hk, Go.sizeOf, typeInfo, hinfo, hs'.len, hroom, hs.cells, Addr.add_lit, hsz, hst, Result.andThen]
        refine ⟨_, _, hrun, by simpa using Ch.setRow w b _, some ⟨b, 0, none⟩, c, [⟨b, true, .cells (bvZ (n + m) (catF n f g) c) T (0, 0)⟩], rfl, ⟨hroom, .inr ⟨b, rfl, rfl⟩⟩, ?_⟩
        intro y hy
        obtain rfl := List.mem_singleton.1 hy
        refine ⟨?_, .inl ⟨_, List.mem_singleton.2 rfl, rfl⟩⟩
        have := setRow_heap w b (bvZ n f c) ((bvZ n f c).toList.take n ++ bvF m g ++ (bvZ n f c).toList.drop (n + m)).toArray T (0, 0) hat1
        rw [this]
        congr 2
        unfold bvZ
        congr 1
        show (bvF n f ++ _).take n ++ _ ++ (bvF n f ++ _).drop (n + m) = _
        rw [List.take_left' (bvF_len n f), ← List.drop_drop, List.drop_left' (bvF_len n f), List.drop_replicate, ← bvF_cat]
        congr 2; omega
  · have hg : c < n + m := by omega
    have hold : (Builtin.firstCells i.size n (.slice x n c)).run P w.drew = .ok (bvF n f).toArray w.drew := by
      rcases hrow with ⟨rfl, rfl, rfl, _⟩ | ⟨b, rfl, rfl⟩
      · exact run_firstCells_none (P := P) w.drew i.size 0 0 0
      · have hat1 := hat _ (List.mem_singleton.2 rfl)
        refine run_firstCells_some (P := P) w.drew i.size n ⟨b, 0, none⟩ n c (bvF n f) (by rw [bvF_len, hsz, Nat.mul_one]) (fun j v hj => ?_)
        obtain ⟨hj', rfl⟩ := bvF_get hj
        rw [Addr.add_lit]
        have : w.drew.cell? ⟨b, 0 + j, none⟩ = w.cell? ⟨b, j, none⟩ := by simp
        rw [this, cell_of hat1]
        simp only [bvZ, List.getElem?_toArray]
        rw [List.getElem?_append_left (by rw [bvF_len]; exact hj'), bvF_at f hj']
    have hrun := run_append_grow_src (P := P) w t tx ty T i z0 ht hinfo hz0 x n c (bvF n f) hold xv m (bvF m g) hs' hg (by simp only [maxLen] at h63; omega) (by rw [hby]; exact growslice_fits hg (by omega))
    have hge := grownCap_ge w (n + m) c T
    refine ⟨_, _, hrun, ?_, some ⟨w.heap.size, 0, none⟩, grownCap w (n + m) c T, [⟨w.heap.size, true, .cells (bvZ (n + m) (catF n f g) (grownCap w (n + m) c T)) T (0, 0)⟩], rfl, ⟨hge, .inr ⟨_, rfl, rfl⟩⟩, ?_⟩
    · exact ((Ch.refl (bl.map Blk.id) w).drew).trans (Ch.alloc (bl.map Blk.id) w.drew _) (fun x hx => .inl hx)
    · intro y hy
      obtain rfl := List.mem_singleton.1 hy
      refine ⟨?_, .inr (Nat.le_refl _)⟩
      have := heap_alloc_new w.drew (.cells ((bvF n f ++ bvF m g).toArray ++ Builtin.zeroCells z0.cells (grownCap w (n + m) c T - (n + m))) T)
      refine Eq.trans this ?_
      congr 2
      apply Array.ext'
      rw [hzs, Array.toList_append, zeroCells8]
      show bvF n f ++ bvF m g ++ _ = bvF (n + m) (catF n f g) ++ _
      rw [← bvF_cat]
end
section
variable {P : Program} {ops : Array Oper} {rest : List Oper} {o : Oper} {a : Act} {w w0 : World} {ms : List Nat} {Q : Exit → Act → World → Prop}
theorem append8_ {A bl R : List Blk} {xs : Option Addr} {T n c m : Nat} {f g : Nat → Int} {t tx : TypeId} {s x : Operand} {xv : Value} (S : St ms w0 (A ++ (bl ++ R)) w) (hr : row8 T n f xs c bl) (hs : Src P 1 tx xv m (bvF m g) w) (hbd : n + m ≤ 140737488355328)
    (k : ∀ x' c' bl' w', row8 T (n + m) (catF n f g) x' c' bl' → St ms w0 (A ++ (bl' ++ R)) w' → WL P ops Q rest (a.put o.dst (.slice x' (n + m) c')) w')
    (ho : o.op = .call ⟨.builtin .append, #[s, x], #[t, tx]⟩ := by rfl) (hw : Region.wanted o (yielded ops a.tmps) = true := by kernel_rfl) (hsv : a.eval s = .slice xs n c := by kernel_rfl) (hxv : a.eval x = xv := by kernel_rfl)
    (ht : P.underlying t = some (.slice T) := by kernel_rfl) (hinfo : (P.info? T).map (fun i => (i.zero.map (·.cells), i.size, i.bytes)) = some (some #[.int .u8 0], 1, 1) := by kernel_rfl) : WL P ops Q (o :: rest) a w :=
  WL.want hw fun K hK => by
    obtain ⟨v, w', hrun, hc, x', c', bl', rfl, hr', hat⟩ := run_append8 (P := P) (ty := o.type) hr (fun y hy => S.at' (by simp [hy])) hs ht hinfo hbd
    have S2 := S.redo hr.wr hc (fun y hy => (hat y hy).1) (fun y hy => (hat y hy).2) (by
      rcases hr'.2 with ⟨_, _, _, rfl⟩ | ⟨b, _, rfl⟩ <;> simp)
    unfold Oper.wp
    rw [append_op ho hsv hxv hrun]
    exact hK _ _ (k x' c' bl' w' hr' S2)
end
end Sx
namespace Sx
open Go Go.RowKit Go.BigFrame
def shF (f : Nat → Int) (k : Nat) : Nat → Int := fun j => f (k + j)
theorem row8_at {T n f x c bl} (h : row8 T n f x c bl) (hn : 0 < n) : ∃ b, n ≤ c ∧ x = some ⟨b, 0, none⟩ ∧ bl = [⟨b, true, .cells (bvZ n f c) T (0, 0)⟩] := by
  rcases h.2 with ⟨_, h0, _, _⟩ | ⟨b, h1, h2⟩
  · omega
  · exact ⟨b, h.1, h1, h2⟩
theorem St.all8 {ms : List Nat} {w0 w : World} {bs : List Blk} (S : St ms w0 bs w) (i : Nat) {b n c : Nat} {wr : Bool} {f : Nat → Int} {t : TypeId} {fr : Nat × Nat} (hb : bs[i]? = some ⟨b, wr, .cells (bvZ n f c) t fr⟩ := by kernel_rfl) : At8 w b 0 n f := fun j hj => by
  rw [cell_of (S.at_ i _ hb), Nat.zero_add]
  simp only [bvZ, List.getElem?_toArray]
  rw [List.getElem?_append_left (by rw [bvF_len]; exact hj), bvF_at f hj]
end Sx
namespace Sx
open Go
theorem tdiv_lit (kd : IntKind) (x m q : Int) (h1 : q * m ≤ x) (h2 : x < (q + 1) * m) (hm : 0 < m ∧ 0 ≤ q) (hw : kd.wrap q = q) : kd.wrap (Int.tdiv x m) = q := by
  have hx : 0 ≤ x := Int.le_trans (Int.mul_nonneg hm.2 (Int.le_of_lt hm.1)) h1
  rw [Int.tdiv_eq_ediv_of_nonneg hx]
  have : x / m = q := by
    apply Int.le_antisymm
    · have := Int.ediv_lt_of_lt_mul hm.1 h2; omega
    · exact Int.le_ediv_of_mul_le hm.1 h1
  rw [this, hw]
end Sx
