/- Part 15 of the proof. -/
import Derived.Test.YtggfpcggakghnaaGreatDoorS14
set_option linter.all false
set_option maxRecDepth 100000
set_option maxHeartbeats 4000000
namespace Go.Proofs.YtggfpcggakghnaaGreatDoor
open Go Go.RowKit Go.BigFrame Sx Vx
variable(C:Sd.Crypt) (tg tc:TypeId) (u:World) (x:ij) (f:Nat->Nat×Sd.Byt) (x0 x1:Int) (nw:Bool) (K:V->Prop)
theorem agl:spW C tg tc u x f x0 x1 nw K 0 0=spY C tg tc u x x0 x1 nw K 0 0 (λX=>(1:Int).tmod 3=Int.ofNat ((1+0)%3)/\X) 1 2 0 1:=by kernel_rfl
theorem aiZ:spW C tg tc u x f x0 x1 nw K 0 1=spY C tg tc u x x0 x1 nw K 0 1 (λX=>X) 1 2 0 1:=by kernel_rfl
theorem ai0:spW C tg tc u x f x0 x1 nw K 0 2=spY C tg tc u x x0 x1 nw K 0 2 (λX=>X) 1 3 0 2:=by kernel_rfl
end Go.Proofs.YtggfpcggakghnaaGreatDoor
