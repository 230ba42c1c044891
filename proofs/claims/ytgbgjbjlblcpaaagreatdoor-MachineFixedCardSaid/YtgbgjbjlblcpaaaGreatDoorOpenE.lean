/- A policy's keys and a row of events that come in. -/
import Derived.Test.YtgbgjbjlblcpaaaGreatDoorF5
import Derived.Test.YtgbgjbjlblcpaaaGreatDoorOpenK
namespace Go.Proofs.YtgbgjbjlblcpaaaGreatDoor
open Go Go.RowKit Go.WideShapes Sd Sx
set_option linter.unusedVariables false
set_option maxRecDepth 100000
theorem rd_key {W : World} {v : Value} (h : ∀ n, Rd Tryz.prog W n 23 [v]) : ∃ a n c f, v = .slice a n c ∧ KeyRd W a n c f := by
  rcases rd_slice Tryz.underlying23 h (z := 1) (by kernel_rfl) 5 (ts := [5]) (by kernel_rfl) with rfl | ⟨a, len, cap, rfl, hle, _, C, hC⟩
  · exact ⟨none, 0, 0, fun _ => 0, rfl, Nat.le_refl _, fun _ => ⟨rfl, rfl⟩, fun x e => nomatch e⟩
  · refine ⟨some a, len, cap, fun j => match C j 0 with | .int _ n => n | _ => 0, rfl, hle, (fun e => nomatch e), fun x e j hj => ?_⟩
    obtain rfl := Option.some.inj e
    obtain ⟨h3, h4⟩ := hC j (by omega) 0 (by omega)
    obtain ⟨n, h5, _⟩ := rd_int Tryz.underlying5 (h4 _ rfl)
    simp only [h5] at h3 ⊢
    simpa using h3
theorem polPC (q : Nat → Int) (f : Nat → List UInt8) (ka : Nat → Option Addr) (kn kc : Nat → Nat) : polP ⟨q, f⟩ ka kn kc = polC q ka kn kc := rfl
theorem keyIn_rd {W : World} {a : Option Addr} {n c : Nat} {f : Nat → Int} (h : KeyIn [] W a n c f) : KeyRd W a n c f := ⟨h.1, h.2.1, fun x e j hj => (h.2.2 x e).2 j hj⟩
/-- a row of events that comes in -/
theorem open_evs {W : World} {v : Value} (hcell : Cell.okWide Tryz.prog W .any 0 71 v) (hrd : ∀ k, Rd Tryz.prog W k 71 [v]) :
    v = .slice none 0 0 ∨ ∃ (b o n c : Nat) (kd so : Nat → Int) (ba : Nat → Option Addr) (bn bc : Nat → Nat) (bf : Nat → Nat → Int) (vd gv bd : Nat → Bool) (xs : Nat → Nat → Int), v = .slice (some ⟨b, o, none⟩) n c ∧
      (∀ k, k < n → ∀ j u, (#[.int .i64 (kd k), .int .i64 (so k), .slice (ba k) (bn k) (bc k), .bool (vd k), .int .i64 (xs k 0), .int .i64 (xs k 1), .int .i64 (xs k 2), .int .i64 (xs k 3), .bool (gv k), .bool (bd k)] : Array Value)[j]? = some u → W.cell? ⟨b, o + k * 10 + j, none⟩ = some u) ∧
      ∀ k, k < n → KeyRd W (ba k) (bn k) (bc k) (bf k) := by
  obtain ⟨a, m, c, rfl, hmc, ho⟩ := cell_slice Tryz.underlying71 hcell
  rcases ho with ⟨rfl, rfl, rfl⟩ | ⟨x, rfl, hc63, hhas⟩
  · exact .inl rfl
  obtain ⟨bk, off, spot⟩ := x
  obtain rfl : spot = none := hhas.2.1
  rcases rd_slice Tryz.underlying71 hrd (z := 10) rfl 5 (ts := [3, 3, 23, 4, 3, 3, 3, 3, 4, 4]) with h0 | ⟨a', len', cap', h0, _, _, C, hC⟩
  · simp at h0
  simp only [Value.slice.injEq, Option.some.injEq] at h0
  obtain ⟨rfl, rfl, rfl⟩ := h0
  let num : Value → Int := fun v => match v with | .int _ n => n | _ => 0
  let tv : Value → Bool := fun v => match v with | .bool b => b | _ => false
  let sa : Value → Option Addr := fun v => match v with | .slice a _ _ => a | _ => none
  let sn : Value → Nat := fun v => match v with | .slice _ n _ => n | _ => 0
  let sc : Value → Nat := fun v => match v with | .slice _ _ c => c | _ => 0
  have hB : ∀ k, k < c → C k 2 = .slice (sa (C k 2)) (sn (C k 2)) (sc (C k 2)) ∧ ∃ f, KeyRd W (sa (C k 2)) (sn (C k 2)) (sc (C k 2)) f := fun k hk => by
    obtain ⟨a, n, c', f, e, h⟩ := rd_key ((hC k hk 2 (by omega)).2 _ rfl)
    rw [e]; exact ⟨rfl, f, h⟩
  obtain ⟨bf, hbf⟩ := Deep.choose_lt (fun k hk => (hB k hk).2)
  have hI : ∀ k, k < c → ∀ j, (j = 0 ∨ j = 1 ∨ j = 4 ∨ j = 5 ∨ j = 6 ∨ j = 7) → C k j = .int .i64 (num (C k j)) := fun k hk j hj => by
    have ht : ([3, 3, 23, 4, 3, 3, 3, 3, 4, 4] : List Nat)[j]? = some 3 := by
      rcases hj with rfl | rfl | rfl | rfl | rfl | rfl <;> rfl
    obtain ⟨n, h1, _⟩ := rd_int Tryz.underlying3 ((hC k hk j (by omega)).2 _ ht)
    rw [h1]
  have hT : ∀ k, k < c → ∀ j, (j = 3 ∨ j = 8 ∨ j = 9) → C k j = .bool (tv (C k j)) := fun k hk j hj => by
    have ht : ([3, 3, 23, 4, 3, 3, 3, 3, 4, 4] : List Nat)[j]? = some 4 := by
      rcases hj with rfl | rfl | rfl <;> rfl
    obtain ⟨n, h1⟩ := rd_bool Tryz.underlying4 ((hC k hk j (by omega)).2 _ ht)
    rw [h1]
  refine .inr ⟨bk, off, m, c, fun k => num (C k 0), fun k => num (C k 1), fun k => sa (C k 2), fun k => sn (C k 2), fun k => sc (C k 2), bf, fun k => tv (C k 3), fun k => tv (C k 8), fun k => tv (C k 9), fun k j => num (C k (4 + j)), rfl, ?_, fun k hk => hbf k (by omega)⟩
  intro k hk j u hu
  have hk' : k < c := by omega
  have hadd : ∀ q : Nat, (⟨bk, off, none⟩ : Addr).add q = ⟨bk, off + q, none⟩ := fun q => by
    by_cases hq : q = 0
    · subst hq; rfl
    · simp [Addr.add, hq]
  have hcell : ∀ j, j < 10 → W.cell? ⟨bk, off + k * 10 + j, none⟩ = some (C k j) := fun j hj => by
    have := (hC k hk' j hj).1
    rw [hadd] at this
    rw [Nat.add_assoc]; exact this
  match j, hu with
  | 0, hu => rw [hcell 0 (by omega), ← hu, hI k hk' 0 (by omega)]; rfl
  | 1, hu => rw [hcell 1 (by omega), ← hu, hI k hk' 1 (by omega)]; rfl
  | 2, hu => rw [hcell 2 (by omega), ← hu, (hB k hk').1]; rfl
  | 3, hu => rw [hcell 3 (by omega), ← hu, hT k hk' 3 (by omega)]; rfl
  | 4, hu => rw [hcell 4 (by omega), ← hu, hI k hk' 4 (by omega)]; rfl
  | 5, hu => rw [hcell 5 (by omega), ← hu, hI k hk' 5 (by omega)]; rfl
  | 6, hu => rw [hcell 6 (by omega), ← hu, hI k hk' 6 (by omega)]; rfl
  | 7, hu => rw [hcell 7 (by omega), ← hu, hI k hk' 7 (by omega)]; rfl
  | 8, hu => rw [hcell 8 (by omega), ← hu, hT k hk' 8 (by omega)]; rfl
  | 9, hu => rw [hcell 9 (by omega), ← hu, hT k hk' 9 (by omega)]; rfl
  | j + 10, hu => simp at hu
end Go.Proofs.YtgbgjbjlblcpaaaGreatDoor
