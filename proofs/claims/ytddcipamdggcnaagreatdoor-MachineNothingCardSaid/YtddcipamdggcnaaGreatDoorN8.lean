/- MachineNothing: whichever policy, events, kind and source, the law returns true. Every input; no condition. -/
import Derived.Test.YtddcipamdggcnaaGreatDoorRows
import Derived.ProofKit
import Derived.Test.YtddcipamdggcnaaGreatDoorCards
import Derived.Test.YtddcipamdggcnaaGreatDoorTie
import Derived.SevenTiedAt
import Derived.Test.YtddcipamdggcnaaGreatDoorN7
set_option linter.all false
set_option maxRecDepth 100000
set_option maxHeartbeats 4000000
noncomputable section
open Go.Proofs.Tryz
open Bool renaming true->af,false->ag
open List renaming all_eq_true->gQ
open Option renaming some->aa
open Option.some renaming inj->cG
namespace Go.Proofs.YtddcipamdggcnaaGreatDoor.machineNothing
def closed:joinedFacts Tryz.pinned.checked.prog 3 Tryz.f3 Rows.machineNothingSpec Rows.machineNothingRow=af:=kR
open Go.ChangeShapes Go.WideShapes Go.ChangeAt Go.RowKit Go.Joins Sd Sx
def said:Rows.MachineNothingSaid:=
 OpenClaim.holds_of_wide 3 Tryz.f3 rfl rfl rfl rfl rfl rfl rfl ⟨rfl,rfl,rfl,rfl,rfl⟩ rfl rfl rfl rfl rfl kR Tryz.func3 closed
  (of_decide_eq_true kR) (by unfold Func.isWrapper;first|(rw[if_pos (by decide+kernel)];kernel_rfl)|(rw[if_neg (by decide+kernel)];exact⟨rfl,rfl⟩))
  (λos started H enc _=>lifted os started H enc)
theorem proved:Rows.MachineNothingCardSaid:=
 Claim7.holds_tied_plain_at .later [] [.data,.data] af Rows.machineNothingCard.stood.harness af
  said (λ_ h=>by cases h) kR (λ_ h=>by cases h) machineNothing_row_tie rfl ⟨rfl,rfl⟩ kR rfl
  (λf fn hf G5=>by
   obtain rfl:f=3:=cG ((show prog.funcNamed "sidestick/sidesticklaw25.MachineNothing" =aa 3 by kernel_rfl).symm.trans hf)|>.symm;obtain rfl:fn=Tryz.f3:=(cG (Tryz.func3.symm.trans G5)).symm;exact⟨kR,λj t ht=>by
    have dI:(Tryz.f3.params.toList.all λu=>!prog.wantsStandIn u)=af:=kR;have hm:t∈Tryz.f3.params.toList:=by simpa using Array.mem_of_getElem? ht
    exact(show prog.wantsStandIn t=ag by simpa using gQ.1 dI t hm)⟩)
  kR
end Go.Proofs.YtddcipamdggcnaaGreatDoor.machineNothing
