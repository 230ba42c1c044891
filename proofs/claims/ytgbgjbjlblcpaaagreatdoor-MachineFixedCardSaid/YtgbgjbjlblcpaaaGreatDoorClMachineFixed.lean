/- MachineFixed: whichever policy and events, the law returns true. Every input; no condition. THE TIED CARD. -/
import Derived.Test.YtgbgjbjlblcpaaaGreatDoorMFixA
import Derived.Test.YtgbgjbjlblcpaaaGreatDoorMFixF
import Derived.Test.YtgbgjbjlblcpaaaGreatDoorCards
import Derived.Test.YtgbgjbjlblcpaaaGreatDoorTie
import Derived.SevenTiedAt
namespace Go.Proofs.YtgbgjbjlblcpaaaGreatDoor.machineFixed
open Go.ChangeShapes Go.WideShapes Go.ChangeAt Go.RowKit Go.Joins Sd Sx
set_option linter.unusedVariables false
set_option maxRecDepth 100000
theorem said : Rows.MachineFixedSaid :=
  OpenClaim.holds_of_wide 6 Tryz.f6 rfl rfl rfl rfl rfl rfl rfl ⟨rfl, rfl, rfl, rfl, rfl⟩ rfl rfl rfl rfl rfl (by kernel_rfl) Tryz.func6 closed
    (of_decide_eq_true (by kernel_rfl)) (by unfold Func.isWrapper; first | (rw [if_pos (by decide +kernel)]; kernel_rfl) | (rw [if_neg (by decide +kernel)]; exact ⟨rfl, rfl⟩))
    (fun os started H enc _ => lifted os started H enc)
theorem proved : Rows.MachineFixedCardSaid :=
  Claim7.holds_tied_plain_at .later [] [.data, .data] true Rows.machineFixedCard.stood.harness true
    said (fun _ h => by cases h) (by kernel_rfl) (fun _ h => by cases h) machineFixed_row_tie rfl ⟨rfl, rfl⟩ (by kernel_rfl) rfl
    (fun f fn hf hfn => by
      obtain rfl : f = 6 := Option.some.inj ((show Tryz.prog.funcNamed "sidestick/sidesticklaw25.MachineFixed" = some 6 by kernel_rfl).symm.trans hf) |>.symm
      obtain rfl : fn = Tryz.f6 := (Option.some.inj (Tryz.func6.symm.trans hfn)).symm
      exact ⟨by kernel_rfl, fun j t ht => by
        have hall : (Tryz.f6.params.toList.all fun u => !Tryz.prog.wantsStandIn u) = true := by kernel_rfl
        have hm : t ∈ Tryz.f6.params.toList := by simpa using Array.mem_of_getElem? ht
        exact (show Tryz.prog.wantsStandIn t = false by simpa using List.all_eq_true.1 hall t hm)⟩)
    (by kernel_rfl)
#print axioms proved
end Go.Proofs.YtgbgjbjlblcpaaaGreatDoor.machineFixed
