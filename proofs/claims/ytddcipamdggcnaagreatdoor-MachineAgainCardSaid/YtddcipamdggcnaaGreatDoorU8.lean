/- MachineAgain: whichever policy and events, the law returns true. Every input; no condition. -/
import Derived.Test.YtddcipamdggcnaaGreatDoorRows
import Derived.ProofKit
import Derived.Test.YtddcipamdggcnaaGreatDoorCards
import Derived.Test.YtddcipamdggcnaaGreatDoorTie
import Derived.SevenTiedAt
import Derived.Test.YtddcipamdggcnaaGreatDoorU7
set_option linter.all false
set_option maxRecDepth 100000
set_option maxHeartbeats 4000000
noncomputable section
open Go.Proofs.Tryz
open Bool renaming true->af,false->ah
open List renaming all_eq_true->ik
open Option renaming some->aa
open Option.some renaming inj->cP
namespace Go.Proofs.YtddcipamdggcnaaGreatDoor.machineAgain
def closed:joinedFacts Tryz.pinned.checked.prog 4 Tryz.f4 Rows.machineAgainSpec Rows.machineAgainRow=af:=kR
open Go.ChangeShapes Go.WideShapes Go.ChangeAt Go.RowKit Go.Joins Sd Sx
def said:Rows.MachineAgainSaid:=
 OpenClaim.holds_of_wide 4 Tryz.f4 rfl rfl rfl rfl rfl rfl rfl ⟨rfl,rfl,rfl,rfl,rfl⟩ rfl rfl rfl rfl rfl kR Tryz.func4 closed
  (of_decide_eq_true kR) (by unfold Func.isWrapper;first|(rw[if_pos (by decide+kernel)];kernel_rfl)|(rw[if_neg (by decide+kernel)];exact⟨rfl,rfl⟩))
  (λos started H enc _=>lifted os started H enc)
theorem proved:Rows.MachineAgainCardSaid:=
 Claim7.holds_tied_plain_at .later [] [.data,.data] af Rows.machineAgainCard.stood.harness af
  said (λ_ h=>by cases h) kR (λ_ h=>by cases h) machineAgain_row_tie rfl ⟨rfl,rfl⟩ kR rfl
  (λf fn hf Hl=>by
   obtain rfl:f=4:=cP ((show prog.funcNamed "sidestick/sidesticklaw25.MachineAgain" =aa 4 by kernel_rfl).symm.trans hf)|>.symm;obtain rfl:fn=Tryz.f4:=(cP (Tryz.func4.symm.trans Hl)).symm;exact⟨kR,λj t ht=>by
    have eg:(Tryz.f4.params.toList.all λu=>!prog.wantsStandIn u)=af:=kR;have hm:t∈Tryz.f4.params.toList:=by simpa using Array.mem_of_getElem? ht
    exact(show prog.wantsStandIn t=ah by simpa using ik.1 eg t hm)⟩)
  kR
end Go.Proofs.YtddcipamdggcnaaGreatDoor.machineAgain
