/- Part 8 of the proof. -/
import Derived.Test.YtggfpcggakghnaaGreatDoorR7
set_option linter.all false
set_option maxRecDepth 100000
set_option maxHeartbeats 4000000
open Go.Proofs.Tryz
open Go renaming TypeId->aJ,World->ag
namespace Go.Proofs.YtggfpcggakghnaaGreatDoor
section
open Go Go.RowKit Go.BigFrame Sx Vx
def Pj (C:Sd.aK):List (bR (LG bN)):=⟨23,false,Ad λ_=>Wb C⟩::LBs C
theorem XO:aI prog gS (Pj (aq ay)):=aI.cons (V_ (atH Ju)) aya
def ayg (x:gk) (f:Nat->Nat×Sd.ao):VB:=⟨true,⟨28,(0,0)⟩,[.dz ⟨x.q,f⟩ x.ka x.kn x.kc]⟩
def Fz (tg tc:aJ) (x:gk) (f:Nat->Nat×Sd.ao) (u:ag) (m d:Nat->Nat) (L:List V) (k:LK) (s:Sd.aa):List VB:=
 [j5 tg,nK tc,ayg x f,dF (m 0) (d 0) (jK (x.kn 0) (fb u (x.ka 0))),dF (m 1) (d 1) (jK (x.kn 1) (fb u (x.ka 1))),dF (m 2) (d 2) (jK (x.kn 2) (fb u (x.ka 2))),dF (m 3) (d 3) (jK (x.kn 3) (fb u (x.ka 3))),⟨true,⟨28,(0,0)⟩,L⟩,g_ k 9 s,gM s]
section
variable(C:Sd.aK) (tg tc:aJ) (u:ag) (x:gk) (f:Nat->Nat×Sd.ao) (x0:Int) (K:V->Prop) (a b:Int)
def JU (rs:List Sd.aF) (X:Prop):Prop:=(0<=(0:Int)/\(0:Int)<(rs.length:Int))/\((0:Int).toNat<rs.length/\∀j,(mw rs j).length=14)/\X
end
section
variable(C:Sd.aK) (tg tc:aJ) (u:ag) (x:gk) (f:Nat->Nat×Sd.ao) (x0:Int) (K:V->Prop)
end
end
end Go.Proofs.YtggfpcggakghnaaGreatDoor
