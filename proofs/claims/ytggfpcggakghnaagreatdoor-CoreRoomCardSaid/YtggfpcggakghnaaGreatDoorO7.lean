/- Part 7 of the proof. -/
import Derived.Test.YtggfpcggakghnaaGreatDoorO6
set_option linter.all false
set_option maxRecDepth 100000
set_option maxHeartbeats 4000000
noncomputable section
open Go renaming TypeId->aG,World->ae
namespace Go.Proofs.YtggfpcggakghnaaGreatDoor
section
open Go Go.RowKit Go.BigFrame Sx Vx
variable(C:Sd.aL) (tg tc:aG) (u:ae) (x:gp) (f:Nat->Nat×Sd.av) (x0 x1 x2:Int) (K:V->Prop)
theorem au8:uY C tg tc u x f x0 x1 x2 K 0 0=uZ C tg tc u x x0 x1 x2 K 21 0 0:=by kernel_rfl
theorem au9:uY C tg tc u x f x0 x1 x2 K 0 1=uZ C tg tc u x x0 x1 x2 K 21 0 1:=by kernel_rfl
theorem au_:uY C tg tc u x f x0 x1 x2 K 0 2=uZ C tg tc u x x0 x1 x2 K 21 0 2:=by kernel_rfl
end
end Go.Proofs.YtggfpcggakghnaaGreatDoor
