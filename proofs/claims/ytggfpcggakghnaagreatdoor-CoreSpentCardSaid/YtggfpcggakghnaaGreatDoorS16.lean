/- Part 16 of the proof. -/
import Derived.Test.YtggfpcggakghnaaGreatDoorS14
set_option linter.all false
set_option maxRecDepth 100000
set_option maxHeartbeats 4000000
namespace Go.Proofs.YtggfpcggakghnaaGreatDoor
open Go Go.RowKit Go.BigFrame Sx Vx
variable(C:Sd.Crypt) (tg tc:TypeId) (u:World) (x:ij) (f:Nat->Nat×Sd.Byt) (x0 x1:Int) (nw:Bool) (K:V->Prop)
theorem ai1:spW C tg tc u x f x0 x1 nw K 1 0=spY C tg tc u x x0 x1 nw K 1 0 (λX=>X) 2 1 1 0:=by kernel_rfl
theorem ai2:spW C tg tc u x f x0 x1 nw K 1 1=spY C tg tc u x x0 x1 nw K 1 1 (λX=>(2:Int).tmod 3=Int.ofNat ((1+1)%3)/\X) 2 3 1 2:=by kernel_rfl
theorem ai3:spW C tg tc u x f x0 x1 nw K 1 2=spY C tg tc u x x0 x1 nw K 1 2 (λX=>X) 2 3 1 2:=by kernel_rfl
end Go.Proofs.YtggfpcggakghnaaGreatDoor
