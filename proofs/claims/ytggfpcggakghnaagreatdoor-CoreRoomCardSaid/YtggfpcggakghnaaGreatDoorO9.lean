/- Part 9 of the proof. -/
import Derived.Test.YtggfpcggakghnaaGreatDoorO6
set_option linter.all false
set_option maxRecDepth 100000
set_option maxHeartbeats 4000000
noncomputable section
open Go renaming TypeId->aG,World->ae
namespace Go.Proofs.YtggfpcggakghnaaGreatDoor
section
open Go Go.RowKit Go.BigFrame Sx Vx
variable(C:Sd.aL) (tg tc:aG) (u:ae) (x:gp) (f:Nat->Nat×Sd.av) (x0 x1 x2:Int) (K:V->Prop)
theorem avd:uY C tg tc u x f x0 x1 x2 K 2 0=uZ C tg tc u x x0 x1 x2 K 21 2 0:=by kernel_rfl
theorem ave:uY C tg tc u x f x0 x1 x2 K 2 1=uZ C tg tc u x x0 x1 x2 K 21 2 1:=by kernel_rfl
theorem avf:uY C tg tc u x f x0 x1 x2 K 2 2=uZ C tg tc u x x0 x1 x2 K 21 2 2:=by kernel_rfl
end
end Go.Proofs.YtggfpcggakghnaaGreatDoor
