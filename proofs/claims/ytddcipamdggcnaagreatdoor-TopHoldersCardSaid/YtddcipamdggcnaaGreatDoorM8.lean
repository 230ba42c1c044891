/- TopHolders: whichever policy and events, the law returns true. Every input; no condition. -/
import Derived.Test.YtddcipamdggcnaaGreatDoorRows
import Derived.ProofKit
import Derived.Test.YtddcipamdggcnaaGreatDoorCards
import Derived.Test.YtddcipamdggcnaaGreatDoorTie
import Derived.SevenTiedAt
import Derived.Test.YtddcipamdggcnaaGreatDoorM7
set_option linter.all false
set_option maxRecDepth 100000
set_option maxHeartbeats 4000000
noncomputable section
open Go.Proofs.Tryz
open Bool renaming true->af,false->ag
open List renaming all_eq_true->gQ
open Option renaming some->aa
open Option.some renaming inj->cG
namespace Go.Proofs.YtddcipamdggcnaaGreatDoor.topHolders
def closed:joinedFacts Tryz.pinned.checked.prog 7 Tryz.f7 Rows.topHoldersSpec Rows.topHoldersRow=af:=kR
open Go.ChangeShapes Go.WideShapes Go.ChangeAt Go.RowKit Go.Joins Sd Sx
def said:Rows.TopHoldersSaid:=
 OpenClaim.holds_of_wide 7 Tryz.f7 rfl rfl rfl rfl rfl rfl rfl ⟨rfl,rfl,rfl,rfl,rfl⟩ rfl rfl rfl rfl rfl kR Tryz.func7 closed
  (of_decide_eq_true kR) (by unfold Func.isWrapper;first|(rw[if_pos (by decide+kernel)];kernel_rfl)|(rw[if_neg (by decide+kernel)];exact⟨rfl,rfl⟩))
  (λos started H enc _=>lifted os started H enc)
theorem proved:Rows.TopHoldersCardSaid:=
 Claim7.holds_tied_plain_at .later [] [.data,.data] af Rows.topHoldersCard.stood.harness af
  said (λ_ h=>by cases h) kR (λ_ h=>by cases h) topHolders_row_tie rfl ⟨rfl,rfl⟩ kR rfl
  (λf fn hf G5=>by
   obtain rfl:f=7:=cG ((show prog.funcNamed "sidestick/sidesticktop.TopHolders" =aa 7 by kernel_rfl).symm.trans hf)|>.symm;obtain rfl:fn=Tryz.f7:=(cG (Tryz.func7.symm.trans G5)).symm;exact⟨kR,λj t ht=>by
    have dI:(Tryz.f7.params.toList.all λu=>!prog.wantsStandIn u)=af:=kR;have hm:t∈Tryz.f7.params.toList:=by simpa using Array.mem_of_getElem? ht
    exact(show prog.wantsStandIn t=ag by simpa using gQ.1 dI t hm)⟩)
  kR
end Go.Proofs.YtddcipamdggcnaaGreatDoor.topHolders
