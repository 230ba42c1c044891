/- CoreNew: whichever policy and events, the law returns true. Every input; no condition. -/
import Derived.Test.YtbjanfgipcniiaaGreatDoorOpenK
import Derived.Test.YtbjanfgipcniiaaGreatDoorGlob
import Derived.Test.YtbjanfgipcniiaaGreatDoorG3
import Derived.Test.YtbjanfgipcniiaaGreatDoorCards
import Derived.Test.YtbjanfgipcniiaaGreatDoorTie
import Derived.Lib.SmallJoins
import Derived.SevenTiedAt
import Derived.LaidMore
import Derived.Stop.Joined
namespace Go.Proofs.YtbjanfgipcniiaaGreatDoor.coreNew
open Go.ChangeShapes Go.WideShapes Go.ChangeAt Go.RowKit Go.Joins Sd Sx
set_option linter.unusedVariables false
set_option maxRecDepth 100000

theorem keyIn_rd {W : World} {a : Option Addr} {n c : Nat} {f : Nat → Int} (h : KeyIn [] W a n c f) : KeyRd W a n c f := ⟨h.1, h.2.1, fun x e j hj => (h.2.2 x e).2 j hj⟩
/-- a row of events that comes in -/
theorem polPC (q : Nat → Int) (f : Nat → Nat × (Nat → Int)) (ka : Nat → Option Addr) (kn kc : Nat → Nat) : polP ⟨q, f⟩ ka kn kc = polC q ka kn kc := rfl
theorem opened (H : Type) (enc : TypeId × Value → H) (W : World) (args : Array Value) (ds gs : List (DataW H)) (before : List MemPlace)
    (hval : ∀ (j : Nat) t v, Tryz.f3.params[j]? = some t → args[j]? = some v → Value.okWide Tryz.prog W .any 0 t v)
    (hW : DataW.Whole enc Tryz.prog Tryz.f3.params.toList Rows.coreNewSpec.vars false W args.toList ds gs before) (hL : laidMetH Tryz.prog laidV W) :
    Rows.coreNewSpec.fn H (ds ++ gs) = { results := [.lit (.bool true)], args := ds, vars := [] } ∧ Calls Tryz.prog 3 args W fun e W' => e = .returned (.bool true) ∧ Below W.heap.size W W' := by
  obtain ⟨p, q, hA, hV, rfl, hfz, hnd⟩ := hW
  obtain ⟨tG, hG⟩ := roots_of hL
  rw [Tryz.params3] at hA hval
  obtain ⟨v0, d0, hargs, rfl, ht0⟩ := trodAll_one hA
  obtain rfl : args = #[v0] := by cases args; simp_all
  obtain ⟨rfl, rfl⟩ := trodVars_none hV
  obtain ⟨pq, ka, kn, kc, kb, rfl, hpq, hk⟩ := open_polK (hval 0 28 v0 rfl rfl) (fun n => by obtain ⟨fuel, h⟩ := ht0; exact Sx.rd_of_trod n h)
  have h := coreNewL_ ⟨pq, fun _ => (0, fun _ => 0)⟩ ka kn kc kb W hG (fun i hi => keyIn_rd (hk i hi))
  rw [polPC] at h
  exact ⟨rfl, Sx.gives_law h⟩

theorem own : ownKnob Tryz.prog.godebug = none := by kernel_rfl
def laidL : List (String × DataW Unit) := [("sidestick/gate.commands", Rows.laid_sidestick_gate_commands), ("sidestick/sha.roots", Rows.laid_sidestick_sha_roots)]
theorem door_met (os : Os) (args : Array Value) : laidMetH Tryz.prog laidL ((World.doorLaid Tryz.prog 400 os).forCall (fun _ _ => 0) ⟨#[], args, []⟩).memory :=
  laidMetH_of_parts3 (fuel := 8) (laidMet_of_run' 8 (by kernel_rfl) (by kernel_rfl)) (by kernel_rfl) (by kernel_rfl)
set_option maxRecDepth 100000 in
theorem lifted (os : Os) (started : os.Started) (H : Type) (enc : TypeId × Value → H) :
    ReturnsInHanded {} Tryz.checked os 3 .any (fun w args => (Rows.coreNewSpec.pre enc Tryz.prog Tryz.f3 [] false w args ∧ laidMetH Tryz.prog laidL w) ∧ sizedMet enc Tryz.prog Tryz.f3 (OpenSpec.ofChange Rows.coreNewSpec) false w args)
      (Rows.coreNewSpec.post enc Tryz.prog Tryz.f3 false true false false) := by
  refine returnsInHanded_of_change_and (C := Tryz.checked) (X := fun w _ => laidMetH Tryz.prog laidL w) (fun _ _ _ hh h => h.of_heap hh) own started (by kernel_rfl) Tryz.func3
    (ChangeSpec.witness_shaped (enc := enc) (C := Tryz.checked) (os := os) (X := fun w _ => laidMetH Tryz.prog laidL w) false (World.doorLaid Tryz.prog 400 os) #[.agg #[.int .i64 0, .int .i64 0, .int .i64 0, .int .i64 0, .int .i64 0, .slice none 0 0, .slice none 0 0, .slice none 0 0, .slice none 0 0, .int .i64 0, .int .i64 0, .int .i64 0, .int .i64 0, .int .i64 0, .int .i64 0, .int .i64 0, .int .i64 0, .int .i64 0, .int .i64 0, .int .i64 0, .int .i64 0, .int .i64 0, .int .i64 0, .int .i64 0, .int .i64 0, .int .i64 0, .int .i64 0, .int .i64 0, .int .i64 0, .int .i64 0, .int .i64 0, .int .i64 0, .int .i64 0, .int .i64 0, .int .i64 0, .int .i64 0, .int .i64 0, .int .i64 0, .int .i64 0, .int .i64 0, .int .i64 0, .int .i64 0, .int .i64 0, .int .i64 0, .int .i64 0, .int .i64 0, .int .i64 0, .int .i64 0, .int .i64 0, .int .i64 0, .int .i64 0, .int .i64 0, .int .i64 0, .int .i64 0, .int .i64 0, .int .i64 0]] 8 rfl (World.shaped_of_RefB (by kernel_rfl) (by kernel_rfl)) (by kernel_rfl) (by kernel_rfl) (by kernel_rfl) (door_met os _)) ?_
  intro W base args ds gs before hval hW _ _ hL _
  obtain ⟨hs, hc⟩ := opened H enc W args ds gs before hval hW hL
  refine hc.mono fun e W' ⟨he, hb⟩ => ⟨_, he, ?_⟩
  exact law_post (by kernel_rfl) (by kernel_rfl) rfl (by kernel_rfl) Tryz.underlying4 hs hW hb
end Go.Proofs.YtbjanfgipcniiaaGreatDoor.coreNew
