/- The package variables as the program's text lays them: what stands in memory then. -/
import Derived.Test.YtbjanfgipcniiaaGreatDoorK0
import Derived.Test.YtbjanfgipcniiaaGreatDoorRows
import Derived.ProofKit
import Derived.OpenShut
import Derived.FnData
import Derived.MakeChecks
import Derived.Stop.Joined
namespace Go.Proofs.YtbjanfgipcniiaaGreatDoor
open Go Go.RowKit Go.BigFrame Sx Go.ChangeShapes Go.WideShapes
set_option linter.unusedVariables false
set_option maxRecDepth 100000
section
variable {H : Type} {enc : TypeId × Value → H} {P : Program} {w : World} {base : Nat} {spare : Nat → Bool} {held : Bool} {fuel : Nat} {t e : TypeId} {cs : List Value} {ps : List MemPlace}
theorem cell_at {l : List Value} {i : Nat} {v : Value} (h : (l.drop i).take 1 = [v]) : l[i]? = some v := by
  have h1 : ((l.drop i).take 1)[0]? = some v := by rw [h]; rfl
  rw [List.getElem?_take] at h1
  simpa using h1
theorem ints_of {k : IntKind} {zs : List Int} (ht : P.underlying t = some (.array zs.length e)) (he : P.underlying e = some (.int k)) (hc : P.cellsOf e = 1) (hn : P.cellsOf t = zs.length)
    (h : DataW.trod enc P w base spare held fuel t cs = some (.agg (zs.map fun z => .lit (.int k z)), ps)) : cs = zs.map (Value.int k) := by
  obtain ⟨xs, m, rfl, hx, hlen, hxl, hel⟩ := DataW.trod_array ht h
  simp only [Prod.mk.injEq, DataW.agg.injEq] at hx
  rw [hn] at hlen
  apply List.ext_getElem?
  intro i
  by_cases hi : i < zs.length
  · have h1 := hel i hi
    rw [hc, Nat.mul_one, List.getElem?_eq_getElem (by omega)] at h1
    obtain ⟨z, e1, e2, _⟩ := DataW.trod_int he h1
    have h3 : (zs.map fun z => (DataW.lit (.int k z) : DataW H))[i]? = (xs.map (·.1))[i]? := by rw [hx.1]
    rw [List.getElem?_map, List.getElem?_map, List.getElem?_eq_getElem hi, List.getElem?_eq_getElem (by omega), Option.map_some, Option.map_some, e2] at h3
    simp at h3
    rw [cell_at e1, List.getElem?_map, List.getElem?_eq_getElem hi, Option.map_some, h3]
  · rw [List.getElem?_eq_none (by omega), List.getElem?_eq_none (by simp; omega)]
theorem var_obj {n : String} {g : Nat} {c : Array Value} (hg : P.globalNamed n = some g) (h : w.var? P n = some c) : ∃ t f, w.heap[g]? = some (.cells c t f) := by
  simp only [World.var?, hg, Option.bind_some] at h
  split at h
  · next c' t f h2 => simp at h; subst h; exact ⟨t, f, h2⟩
  · cases h
end
def rootsL : List Int := (List.range 64).map fun i => rootF i
/-- the two variables -/
def laidV : List (String × DataW Unit) := [("sidestick/gate.commands", Rows.laid_sidestick_gate_commands), ("sidestick/sha.roots", Rows.laid_sidestick_sha_roots)]
theorem roots_of {W : World} (h : laidMetH Tryz.prog laidV W) : ∃ t, W.heap[0]? = some (.cells (rowF .u32 64 rootF) t (0, 0)) := by
  rw [MakeChecks.laidMetH_plain _ _ _ (by kernel_rfl)] at h
  obtain ⟨ps, ⟨g0, t0, cs0, f0, p0, q0, hg0, ht0, hv0, hd0, ⟨g1, t1, cs1, f1, p1, q1, hg1, ht1, hv1, hd1, _, hq⟩, hps⟩, _, hcell⟩ := h
  obtain rfl : g1 = 0 := Option.some.inj (hg1.symm.trans (show Tryz.prog.globalNamed "sidestick/sha.roots" = some 0 by kernel_rfl))
  have e1 : (Tryz.prog.globals[0]?).map (·.type) = some 266 := by kernel_rfl
  obtain rfl : t1 = 266 := Option.some.inj (ht1.symm.trans e1)
  have hcs : cs1.toList = rootsL.map (Value.int .u32) := by
    have hd2 : DataW.trod (fun _ => ()) Tryz.prog W 0 (fun _ => true) false f1 266 cs1.toList = some (.agg (rootsL.map fun z => .lit (.int .u32 z)), p1) :=
      hd1.trans (congrArg (fun d => some (d, p1)) (show (Rows.laid_sidestick_sha_roots : DataW Unit) = .agg (rootsL.map fun z => .lit (.int .u32 z)) by kernel_rfl))
    exact ints_of (k := .u32) (zs := rootsL) (e := 229) (by kernel_rfl) (by kernel_rfl) (by kernel_rfl) (by kernel_rfl) hd2
  obtain ⟨t, f, hat⟩ := var_obj (show Tryz.prog.globalNamed "sidestick/sha.roots" = some 0 by kernel_rfl) hv1
  have hc1 : cs1 = rowF .u32 64 rootF := by
    apply Array.ext'
    rw [hcs]; simp [rootsL, rowF]
  obtain ⟨c, t', hfz⟩ := (hcell 0 0 (by
    rw [hps, hq, hc1]
    have : MemPlace.cell 0 0 ∈ MemPlace.row ⟨0, 0, none⟩ (rowF .u32 64 rootF).size := by
      rw [rowF_size]; simp [MemPlace.row]
    simp [this])).1
  rw [hat] at hfz
  simp only [Option.some.injEq, Obj.cells.injEq] at hfz
  refine ⟨t, ?_⟩
  rw [hat, hc1, hfz.2.2]
end Go.Proofs.YtbjanfgipcniiaaGreatDoor
