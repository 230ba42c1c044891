/- Fit, for the core. -/
import Derived.Test.YtbjanfgipcniiaaGreatDoorK6
import Derived.Test.YtbjanfgipcniiaaGreatDoorXFit
import Derived.Test.YtbjanfgipcniiaaGreatDoorXPol
namespace Go.Proofs.YtbjanfgipcniiaaGreatDoor
open Go Go.RowKit Go.BigFrame Sx
set_option linter.unusedVariables false
set_option linter.unusedSimpArgs false

def condB (j : Nat) (q : Nat → Int) (kn : Nat → Nat) : Bool := match j with
  | 0 => ordB q
  | 1 => (keys3 kn && keyB (kn 3))
  | 2 => (q 9 == 1 && (q 13 == 0 && roles3 q))
  | 3 => tab5 q
  | 4 => allI 0 31 [q 34, q 35, q 36, q 37, q 38]
  | 5 => allI 0 4 [q 39, q 40, q 41]
  | 6 => allI 1 1000 [q 42, q 43, q 44, q 45]
  | 7 => (inB 1 1000 (q 46) && inB 0 1000 (q 47))
  | 8 => allI 1 3 [q 48, q 49]
  | 9 => (q 50 == 0 && (allI 0 1000 [q 51, q 52, q 53] && inB 1 1000 (q 54)))
  | 10 => inB 0 65535 (q 55)
  | _ => true
theorem polCode_eq (q : Nat → Int) (kn : Nat → Nat) : polCode q kn = if condB 0 q kn = false then 40 else if condB 1 q kn = false then 41 else if condB 2 q kn = false then 42 else if condB 3 q kn = false then 43 else if condB 4 q kn = false then 44 else if condB 5 q kn = false then 45 else if condB 6 q kn = false then 46 else if condB 7 q kn = false then 47 else if condB 8 q kn = false then 48 else if condB 9 q kn = false then 49 else if condB 10 q kn = false then 50 else 0 := rfl
theorem polCode_ok {q : Nat → Int} {kn : Nat → Nat} (h : ∀ j, condB j q kn = true) : polCode q kn = 0 := by
  rw [polCode_eq]; simp [h]
theorem inB_mk (lo hi n : Int) (h : lo ≤ n ∧ n ≤ hi) : inB lo hi n = true := by simp [inB]; omega
theorem fit_cond {q : Nat → Int} {o1 o2 o3 : Int} (hO : OrdR q o1 o2 o3) (kn : Nat → Nat) (kb : Nat → Nat → Int) (j : Nat) : condB j (fitQ q o1 o2 o3) (fun i => (keyL (kn i) (kb i)).length) = true := by
  have h3 := fun n => modI_bd n 3 (by omega)
  have h5 := fun n => modI_bd n 5 (by omega)
  have h1000 := fun n => modI_bd n 1000 (by omega)
  have h1001 := fun n => modI_bd n 1001 (by omega)
  unfold condB
  split
  · rcases hO.perm with ⟨rfl, rfl, rfl⟩ | ⟨rfl, rfl, rfl⟩ | ⟨rfl, rfl, rfl⟩ | ⟨rfl, rfl, rfl⟩ | ⟨rfl, rfl, rfl⟩ | ⟨rfl, rfl, rfl⟩ <;> rfl
  · have hk : ∀ i, keyB ((keyL (kn i) (kb i)).length) = true := fun i => by
      have := keyL_len (kn i) (kb i)
      simp [keyB]; omega
    simp only [keys3, hk, Bool.and_self]
  · show (true && (true && (setB (q 10 % 16 - q 10 % 2) && (setB (q 11 % 16 - q 11 % 2) && setB (q 12 % 16 - q 12 % 2))))) = true
    have hs : ∀ n : Int, setB (n % 16 - n % 2) = true := fun n => by simp [setB, inB]; omega
    simp only [hs, Bool.and_self]
  · have hi : ∀ n : Int, inB 0 15 (n % 16) = true := fun n => inB_mk _ _ _ (by omega)
    show (allI 0 15 [q 14 % 16, q 15 % 16, q 16 % 16, q 17 % 16] && (allI 0 15 [q 18 % 16, q 19 % 16, q 20 % 16, q 21 % 16] && (allI 0 15 [q 22 % 16, q 23 % 16, q 24 % 16, q 25 % 16] && (allI 0 15 [q 26 % 16, q 27 % 16, q 28 % 16, q 29 % 16] && allI 0 15 [q 30 % 16, q 31 % 16, q 32 % 16, q 33 % 16])))) = true
    simp only [allI, hi, Bool.and_self]
  · have hi : ∀ n : Int, inB 0 31 (n % 32) = true := fun n => inB_mk _ _ _ (by omega)
    show allI 0 31 [q 34 % 32, q 35 % 32, q 36 % 32, q 37 % 32, q 38 % 32] = true
    simp only [allI, hi, Bool.and_self]
  · have hi : ∀ n : Int, inB 0 4 (modI n 5) = true := fun n => inB_mk _ _ _ (by have := h5 n; omega)
    show allI 0 4 [modI (q 39) 5, modI (q 40) 5, modI (q 41) 5] = true
    simp only [allI, hi, Bool.and_self]
  · have hi : ∀ n : Int, inB 1 1000 (1 + modI n 1000) = true := fun n => inB_mk _ _ _ (by have := h1000 n; omega)
    show allI 1 1000 [1 + modI (q 42) 1000, 1 + modI (q 43) 1000, 1 + modI (q 44) 1000, 1 + modI (q 45) 1000] = true
    simp only [allI, hi, Bool.and_self]
  · show (inB 1 1000 (1 + modI (q 46) 1000) && inB 0 1000 (modI (q 47) 1001)) = true
    rw [inB_mk _ _ _ (by have := h1000 (q 46); omega), inB_mk _ _ _ (by have := h1001 (q 47); omega)]; rfl
  · have hi : ∀ n : Int, inB 1 3 (1 + modI n 3) = true := fun n => inB_mk _ _ _ (by have := h3 n; omega)
    show allI 1 3 [1 + modI (q 48) 3, 1 + modI (q 49) 3] = true
    simp only [allI, hi, Bool.and_self]
  · have hi : ∀ n : Int, inB 0 1000 (modI n 1001) = true := fun n => inB_mk _ _ _ (by have := h1001 n; omega)
    show (true && (allI 0 1000 [modI (q 51) 1001, modI (q 52) 1001, modI (q 53) 1001] && inB 1 1000 (1 + modI (q 54) 1000))) = true
    simp only [allI, hi, Bool.and_self]
    rw [inB_mk _ _ _ (by have := h1000 (q 54); omega)]; rfl
  · exact inB_mk _ _ _ (by show 0 ≤ q 55 % 65536 ∧ q 55 % 65536 ≤ 65535; omega)
  · rfl
theorem fit_ok {q : Nat → Int} {o1 o2 o3 : Int} (hO : OrdR q o1 o2 o3) : Sd.PolOK ⟨fitQ q o1 o2 o3, default⟩ := by
  have h3 := fun n => modI_bd n 3 (by omega)
  have h5 := fun n => modI_bd n 5 (by omega)
  have h1000 := fun n => modI_bd n 1000 (by omega)
  have h1001 := fun n => modI_bd n 1001 (by omega)
  constructor
  · rfl
  · rfl
  · exact hO.perm
  · show 0 ≤ modI (q 39) 5 ∧ modI (q 39) 5 ≤ 4; have := h5 (q 39); omega
  · show 0 ≤ modI (q 40) 5 ∧ modI (q 40) 5 ≤ 4; have := h5 (q 40); omega
  · show 0 ≤ modI (q 41) 5 ∧ modI (q 41) 5 ≤ 4; have := h5 (q 41); omega
  · show 1 ≤ 1 + modI (q 42) 1000 ∧ 1 + modI (q 42) 1000 ≤ 1000; have := h1000 (q 42); omega
  · show 1 ≤ 1 + modI (q 43) 1000 ∧ 1 + modI (q 43) 1000 ≤ 1000; have := h1000 (q 43); omega
  · show 1 ≤ 1 + modI (q 44) 1000 ∧ 1 + modI (q 44) 1000 ≤ 1000; have := h1000 (q 44); omega
  · show 1 ≤ 1 + modI (q 45) 1000 ∧ 1 + modI (q 45) 1000 ≤ 1000; have := h1000 (q 45); omega
  · show 1 ≤ 1 + modI (q 46) 1000 ∧ 1 + modI (q 46) 1000 ≤ 1000; have := h1000 (q 46); omega
  · show 0 ≤ modI (q 47) 1001 ∧ modI (q 47) 1001 ≤ 1000; have := h1001 (q 47); omega
  · show 1 ≤ 1 + modI (q 48) 3 ∧ 1 + modI (q 48) 3 ≤ 3; have := h3 (q 48); omega
  · show 1 ≤ 1 + modI (q 49) 3 ∧ 1 + modI (q 49) 3 ≤ 3; have := h3 (q 49); omega
  · intro c hc
    match c, hc with
    | 0, _ => show (0 : Int) ≤ 0 ∧ (0 : Int) ≤ 1000; omega
    | 1, _ => show 0 ≤ modI (q 51) 1001 ∧ modI (q 51) 1001 ≤ 1000; have := h1001 (q 51); omega
    | 2, _ => show 0 ≤ modI (q 52) 1001 ∧ modI (q 52) 1001 ≤ 1000; have := h1001 (q 52); omega
    | 3, _ => show 0 ≤ modI (q 53) 1001 ∧ modI (q 53) 1001 ≤ 1000; have := h1001 (q 53); omega
    | c + 4, h => exact absurd h (by omega)
  · show 1 ≤ 1 + modI (q 54) 1000 ∧ 1 + modI (q 54) 1000 ≤ 1000; have := h1000 (q 54); omega
  · show 0 ≤ q 55 % 65536 ∧ q 55 % 65536 ≤ 65535; omega
theorem u8_by (x : Int) : 0 ≤ IntKind.u8.wrap x ∧ IntKind.u8.wrap x ≤ 255 := by rw [IntKind.wrap_u8]; omega
theorem outF_by (H : Nat → Int) : By (outF H) := fun j => by unfold outF; split <;> exact u8_by _
theorem shaF_by (n : Nat) (f : Nat → Int) : By (shaF n f) := by
  unfold shaF; cases Nat.ble n 55
  · exact outF_by _
  · exact outF_by _
theorem nonceF_by (kn : Nat) (kf : Nat → Int) (s n : Int) : By (nonceF kn kf s n) := by unfold nonceF macF; exact shaF_by _ _
theorem keyQuiet {w0 w : World} (hc : Ch [] w0 w) {ka : Option Addr} {kn kc : Nat} {kb : Nat → Int} (hK : KeyIn [] w0 ka kn kc kb) : KeyIn [] w ka kn kc kb := ⟨hK.1, hK.2.1, fun ad ha => ⟨by simp, fun j hj => by
    have h := (hK.2.2 ad ha).2 j hj
    rcases e : ad.add j with ⟨b, o, sp⟩
    rw [e] at h
    have hb : b < w0.heap.size := by
      unfold World.cell? at h
      split at h
      · next h2 => exact heap_lt h2
      · exact absurd h (by simp)
    have h3 := hc.block b hb (by simp)
    unfold World.cell? at h ⊢
    simpa only [h3] using h⟩⟩
/-- Fit: a policy that may be, with keys that stand in new memory -/
theorem fitC_ (q : Nat → Int) (ka : Nat → Option Addr) (kn kc : Nat → Nat) (kb : Nat → Nat → Int) (w0 w : World) (hc : Ch [] w0 w) (hq : ∀ i, -9223372036854775808 ≤ q i ∧ q i ≤ 9223372036854775807) (hK : ∀ i, i < 4 → KeyIn [] w0 (ka i) (kn i) (kc i) (kb i)) :
    Gives Tryz.prog 18 #[.agg (polC q ka kn kc)] w fun v w1 => ∃ (p : Sd.Pol) (xa : Nat → Option Addr) (xn xc : Nat → Nat) (xf : Nat → Nat → Int), (∃ o1 o2 o3, OrdR q o1 o2 o3 ∧ p.i = fitQ q o1 o2 o3) ∧ Sd.PolOK p ∧ polCode p.i xn = 0 ∧ (∀ i, i < 4 → 1 ≤ xn i ∧ xn i ≤ 64 ∧ KeyAt w1 (xa i) (xn i) (xc i) (xf i)) ∧ v = .agg (polP p xa xn xc) ∧ Ch [] w w1 := by
  refine (fit_ q ka kn kc kb w (St.nil [] w) hq (fun i hi => keyQuiet hc (hK i hi))).mono ?_
  rintro v w1 ⟨o1, o2, o3, b, c, tl, hO, rfl, hle, S⟩
  refine ⟨⟨fitQ q o1 o2 o3, default⟩, (fun i => some ⟨b i, 0, none⟩), (fun i => (keyL (kn i) (kb i)).length), c, (fun i j => (keyL (kn i) (kb i)).getD j 0), ⟨o1, o2, o3, hO, rfl⟩, fit_ok hO, polCode_ok (fit_cond hO kn kb), fun i hi => ?_, rfl, S.ch⟩
  have hl := keyL_len (kn i) (kb i)
  refine ⟨hl.1, hl.2, (by dsimp only; omega), (hle i hi).1, (fun e => absurd e (by simp)), fun x e j hj => ?_⟩
  cases e
  rw [Addr.add_lit]
  show w1.cell? ⟨b i, 0 + j, none⟩ = some (.int .u8 ((keyL (kn i) (kb i)).getD j 0))
  replace hj : j < (keyL (kn i) (kb i)).length := hj
  have key : ∀ (m : Nat) (x : Blk), m = i → w1.heap[b i]? = some (.cells (keyV (keyL (kn i) (kb i)) ++ tl i).toArray 5 (0, 0)) → w1.cell? ⟨b i, 0 + j, none⟩ = some (.int .u8 ((keyL (kn i) (kb i)).getD j 0)) := fun m x _ h => by
    rw [cell_of h, Nat.zero_add]
    simp only [List.getElem?_toArray]
    rw [List.getElem?_append_left (by simp [keyV]; exact hj)]
    simp [keyV, List.getD, List.getElem?_eq_getElem hj]
  match i, hi with
  | 0, _ => exact key 0 ⟨0, true, .cells #[] 0 (0, 0)⟩ rfl (S.at_ 0 _ rfl)
  | 1, _ => exact key 1 ⟨0, true, .cells #[] 0 (0, 0)⟩ rfl (S.at_ 1 _ rfl)
  | 2, _ => exact key 2 ⟨0, true, .cells #[] 0 (0, 0)⟩ rfl (S.at_ 2 _ rfl)
  | 3, _ => exact key 3 ⟨0, true, .cells #[] 0 (0, 0)⟩ rfl (S.at_ 3 _ rfl)
  | i + 4, h => exact absurd h (by omega)
def litQ : Nat → Int := fun i => ([0, 0, 0, 0, 0, 0, 0, 0, 0, 0, 2, 0, 0, 0, 0, 0, 0, 0, 0, 0, 0, 0, 0, 0, 0, 0, 0, 0, 0, 0, 0, 0, 0, 0, 0, 0, 0, 0, 0, 0, 0, 0, 0, 0, 0, 0, 0, 0, 0, 0, 0, 0, 0, 0, 0, 0] : List Int).getD i 0
theorem litQ_bd (i : Nat) : -9223372036854775808 ≤ litQ i ∧ litQ i ≤ 9223372036854775807 := by
  unfold litQ
  by_cases h : i < 56
  · have : ∀ k, k < 56 → (0 ≤ ([0, 0, 0, 0, 0, 0, 0, 0, 0, 0, 2, 0, 0, 0, 0, 0, 0, 0, 0, 0, 0, 0, 0, 0, 0, 0, 0, 0, 0, 0, 0, 0, 0, 0, 0, 0, 0, 0, 0, 0, 0, 0, 0, 0, 0, 0, 0, 0, 0, 0, 0, 0, 0, 0, 0, 0] : List Int).getD k 0 ∧ ([0, 0, 0, 0, 0, 0, 0, 0, 0, 0, 2, 0, 0, 0, 0, 0, 0, 0, 0, 0, 0, 0, 0, 0, 0, 0, 0, 0, 0, 0, 0, 0, 0, 0, 0, 0, 0, 0, 0, 0, 0, 0, 0, 0, 0, 0, 0, 0, 0, 0, 0, 0, 0, 0, 0, 0] : List Int).getD k 0 ≤ 2) := by decide
    have := this i h; omega
  · rw [List.getD, List.getElem?_eq_none (by simp; omega)]; simp
theorem fitS_ (w : World) : Gives Tryz.prog 18 #[.agg (polC litQ (fun _ => none) (fun _ => 0) (fun _ => 0))] w fun v w1 => ∃ (p : Sd.Pol) (xa : Nat → Option Addr) (xn xc : Nat → Nat) (xf : Nat → Nat → Int), Sd.takes p 1 1 = true ∧ Sd.PolOK p ∧ polCode p.i xn = 0 ∧ (∀ i, i < 4 → 1 ≤ xn i ∧ xn i ≤ 64 ∧ KeyAt w1 (xa i) (xn i) (xc i) (xf i)) ∧ v = .agg (polP p xa xn xc) ∧ Ch [] w w1 :=
  (fitC_ litQ _ _ _ (fun _ _ => 0) w w (Ch.refl _ _) litQ_bd (fun i hi => ⟨Nat.le_refl _, fun _ => ⟨rfl, rfl⟩, fun ad h => absurd h (by simp)⟩)).mono (by
    rintro v w1 ⟨p, xa, xn, xc, xf, ⟨o1, o2, o3, _, hp⟩, h1, h2, h3, h4, h5⟩
    refine ⟨p, xa, xn, xc, xf, ?_, h1, h2, h3, h4, h5⟩
    have h10 : p.i 10 = 2 := by rw [hp]; show litQ 10 % 16 - litQ 10 % 2 = 2; decide
    have h10' : p.i (9 + Int.toNat 1) = 2 := h10
    unfold Sd.takes Sd.Pol.roles
    rw [h10']; decide)

end Go.Proofs.YtbjanfgipcniiaaGreatDoor
