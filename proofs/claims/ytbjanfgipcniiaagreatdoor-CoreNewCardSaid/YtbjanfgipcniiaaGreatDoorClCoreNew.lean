/- CoreNew: whichever policy, the law returns true. Every input; no condition. THE TIED CARD. -/
import Derived.Test.YtbjanfgipcniiaaGreatDoorCNewA
import Derived.Test.YtbjanfgipcniiaaGreatDoorCNewF
import Derived.Test.YtbjanfgipcniiaaGreatDoorCards
import Derived.Test.YtbjanfgipcniiaaGreatDoorTie
import Derived.SevenTiedAt
namespace Go.Proofs.YtbjanfgipcniiaaGreatDoor.coreNew
open Go.ChangeShapes Go.WideShapes Go.ChangeAt Go.RowKit Go.Joins Sd Sx
set_option linter.unusedVariables false
set_option maxRecDepth 100000
theorem said : Rows.CoreNewSaid :=
  OpenClaim.holds_of_wide 3 Tryz.f3 rfl rfl rfl rfl rfl rfl rfl ⟨rfl, rfl, rfl, rfl, rfl⟩ rfl rfl rfl rfl rfl (by kernel_rfl) Tryz.func3 closed
    (of_decide_eq_true (by kernel_rfl)) (by unfold Func.isWrapper; first | (rw [if_pos (by decide +kernel)]; kernel_rfl) | (rw [if_neg (by decide +kernel)]; exact ⟨rfl, rfl⟩))
    (fun os started H enc _ => lifted os started H enc)
theorem proved : Rows.CoreNewCardSaid :=
  Claim7.holds_tied_plain_at .later [] [.data, .data] true Rows.coreNewCard.stood.harness true
    said (fun _ h => by cases h) (by kernel_rfl) (fun _ h => by cases h) coreNew_row_tie rfl ⟨rfl, rfl⟩ (by kernel_rfl) rfl
    (fun f fn hf hfn => by
      obtain rfl : f = 3 := Option.some.inj ((show Tryz.prog.funcNamed "sidestick/sidesticklaw24.CoreNew" = some 3 by kernel_rfl).symm.trans hf) |>.symm
      obtain rfl : fn = Tryz.f3 := (Option.some.inj (Tryz.func3.symm.trans hfn)).symm
      exact ⟨by kernel_rfl, fun j t ht => by
        have hall : (Tryz.f3.params.toList.all fun u => !Tryz.prog.wantsStandIn u) = true := by kernel_rfl
        have hm : t ∈ Tryz.f3.params.toList := by simpa using Array.mem_of_getElem? ht
        exact (show Tryz.prog.wantsStandIn t = false by simpa using List.all_eq_true.1 hall t hm)⟩)
    (by kernel_rfl)
#print axioms proved
end Go.Proofs.YtbjanfgipcniiaaGreatDoor.coreNew
