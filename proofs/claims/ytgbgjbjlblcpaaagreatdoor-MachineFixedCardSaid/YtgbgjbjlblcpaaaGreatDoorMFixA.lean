/- MachineFixed: whichever policy and events, the law returns true. Every input; no condition. -/
import Derived.Test.YtgbgjbjlblcpaaaGreatDoorOpenE
import Derived.Test.YtgbgjbjlblcpaaaGreatDoorCards
import Derived.Test.YtgbgjbjlblcpaaaGreatDoorTie
import Derived.Lib.SmallJoins
import Derived.SevenTiedAt
import Derived.LaidMore
import Derived.Stop.Joined
namespace Go.Proofs.YtgbgjbjlblcpaaaGreatDoor.machineFixed
open Go.ChangeShapes Go.WideShapes Go.ChangeAt Go.RowKit Go.Joins Sd Sx
set_option linter.unusedVariables false
set_option maxRecDepth 100000

theorem opened (H : Type) (enc : TypeId × Value → H) (W : World) (args : Array Value) (ds gs : List (DataW H)) (before : List MemPlace)
    (hval : ∀ (j : Nat) t v, Tryz.f6.params[j]? = some t → args[j]? = some v → Value.okWide Tryz.prog W .any 0 t v)
    (hW : DataW.Whole enc Tryz.prog Tryz.f6.params.toList Rows.machineFixedSpec.vars false W args.toList ds gs before) {L : Prop} (_ : L) :
    Rows.machineFixedSpec.fn H (ds ++ gs) = { results := [.lit (.bool true)], args := ds, vars := [] } ∧ Calls Tryz.prog 6 args W fun e W' => e = .returned (.bool true) ∧ Below W.heap.size W W' := by
  obtain ⟨p, q, hA, hV, rfl, hfz, hnd⟩ := hW
  rw [Tryz.params6] at hA hval
  obtain ⟨v0, v1, d0, d1, p0, p1, hargs, rfl, _, ht0, ht1⟩ := trodAll_two hA
  obtain rfl : args = #[v0, v1] := by cases args; simp_all
  obtain ⟨rfl, rfl⟩ := trodVars_none hV
  obtain ⟨pq, ka, kn, kc, kb, rfl, hpq, hk⟩ := open_polK (hval 0 28 v0 rfl rfl) (fun n => by obtain ⟨fuel, h⟩ := ht0; exact Sx.rd_of_trod n h)
  have hcell := okWide_cell Tryz.underlying71 rfl (hval 1 71 v1 rfl rfl)
  have hfew : ∀ w2, Ch [] W w2 → Gives Tryz.prog 24 #[v1] w2 fun v w1 => ∃ b1 c1 es, v = .slice (some ⟨b1, 0, none⟩) (List.length es) c1 ∧ es.length ≤ 60 ∧ Ch [] w2 w1 ∧ ∀ k, k < es.length → ∀ j u, (evA (es.getD k evD))[j]? = some u → w1.cell? ⟨b1, 0 + k * 10 + j, none⟩ = some u := by
    intro w2 hc2
    have hrd : ∀ k, Sx.Rd Tryz.prog W k 71 [v1] := fun k => by
      obtain ⟨a, m, c, rfl, _, _⟩ := cell_slice Tryz.underlying71 hcell
      obtain ⟨fuel, h2⟩ := ht1
      exact Sx.rd_of_trod k h2
    rcases open_evs hcell hrd with rfl | ⟨b, o, n, c, kd, so, ba, bn, bc, bf, vd, gv, bd, xs, rfl, hl, hb⟩
    · exact few_n w2
    · exact few_ b o n c kd so ba bn bc bf vd gv bd xs w2 (fun k hk j u hu => cell_quiet hc2 (hl k hk j u hu)) (fun k hk => (hb k hk).quiet hc2)
  have h := machineFixed_ ⟨pq, fun _ => []⟩ ka kn kc kb v1 W (fun i hi => keyIn_rd (hk i hi)) hfew
  rw [polPC] at h
  exact ⟨rfl, Sx.gives_law h⟩

theorem own : ownKnob Tryz.prog.godebug = none := by kernel_rfl
def laidL : List (String × DataW Unit) := [("sidestick/gate.commands", Rows.laid_sidestick_gate_commands), ("sidestick/sha.roots", Rows.laid_sidestick_sha_roots)]
theorem door_met (os : Os) (args : Array Value) : laidMetH Tryz.prog laidL ((World.doorLaid Tryz.prog 400 os).forCall (fun _ _ => 0) ⟨#[], args, []⟩).memory :=
  laidMetH_of_parts3 (fuel := 8) (laidMet_of_run' 8 (by kernel_rfl) (by kernel_rfl)) (by kernel_rfl) (by kernel_rfl)
set_option maxRecDepth 100000 in
theorem lifted (os : Os) (started : os.Started) (H : Type) (enc : TypeId × Value → H) :
    ReturnsInHanded {} Tryz.checked os 6 .any (fun w args => (Rows.machineFixedSpec.pre enc Tryz.prog Tryz.f6 [] false w args ∧ laidMetH Tryz.prog laidL w) ∧ sizedMet enc Tryz.prog Tryz.f6 (OpenSpec.ofChange Rows.machineFixedSpec) false w args)
      (Rows.machineFixedSpec.post enc Tryz.prog Tryz.f6 false true false false) := by
  refine returnsInHanded_of_change_and (C := Tryz.checked) (X := fun w _ => laidMetH Tryz.prog laidL w) (fun _ _ _ hh h => h.of_heap hh) own started (by kernel_rfl) Tryz.func6
    (ChangeSpec.witness_shaped (enc := enc) (C := Tryz.checked) (os := os) (X := fun w _ => laidMetH Tryz.prog laidL w) false (World.doorLaid Tryz.prog 400 os) #[.agg #[.int .i64 0, .int .i64 0, .int .i64 0, .int .i64 0, .int .i64 0, .slice none 0 0, .slice none 0 0, .slice none 0 0, .slice none 0 0, .int .i64 0, .int .i64 0, .int .i64 0, .int .i64 0, .int .i64 0, .int .i64 0, .int .i64 0, .int .i64 0, .int .i64 0, .int .i64 0, .int .i64 0, .int .i64 0, .int .i64 0, .int .i64 0, .int .i64 0, .int .i64 0, .int .i64 0, .int .i64 0, .int .i64 0, .int .i64 0, .int .i64 0, .int .i64 0, .int .i64 0, .int .i64 0, .int .i64 0, .int .i64 0, .int .i64 0, .int .i64 0, .int .i64 0, .int .i64 0, .int .i64 0, .int .i64 0, .int .i64 0, .int .i64 0, .int .i64 0, .int .i64 0, .int .i64 0, .int .i64 0, .int .i64 0, .int .i64 0, .int .i64 0, .int .i64 0, .int .i64 0, .int .i64 0, .int .i64 0, .int .i64 0, .int .i64 0], .slice none 0 0] 8 rfl (World.shaped_of_RefB (by kernel_rfl) (by kernel_rfl)) (by kernel_rfl) (by kernel_rfl) (by kernel_rfl) (door_met os _)) ?_
  intro W base args ds gs before hval hW _ _ hL _
  obtain ⟨hs, hc⟩ := opened H enc W args ds gs before hval hW hL
  refine hc.mono fun e W' ⟨he, hb⟩ => ⟨_, he, ?_⟩
  exact law_post (by kernel_rfl) (by kernel_rfl) rfl (by kernel_rfl) Tryz.underlying4 hs hW hb
end Go.Proofs.YtgbgjbjlblcpaaaGreatDoor.machineFixed
