/- Package msg: fields. -/
import Derived.Test.YtbjanfgipcniiaaGreatDoorK5
namespace Go.Proofs.YtbjanfgipcniiaaGreatDoor
open Go Go.RowKit Go.BigFrame Sx
set_option linter.unusedVariables false
set_option linter.unusedSimpArgs false

def By (f : Nat → Int) : Prop := ∀ j, 0 ≤ f j ∧ f j ≤ 255
set_option maxRecDepth 100000 in
set_option maxHeartbeats 4000000 in
theorem fld_role (b off : Nat) (w : World) :
    Gives Tryz.prog 97 #[π b off] w fun v w1 => ∃ q, v = .agg #[ι 1, ι 0, ι 3, .func (.func 179) #[] #[π q 0], .func (.func 180) #[] #[π q 0]] ∧ w.heap.size ≤ q ∧ w1.heap[q]? = some (.cells #[π b off] 194 (0, 0)) ∧ Ch [] w w1 := by
 have S0 := St.nil [] w
 refine enter_ Tryz.func97 rfl (seq_ (reg_ ?_))
 refine new_ S0 (fun b => π b 0) (.cells #[ι 0, ι 0, ι 0, .nilFunc, .nilFunc] 190) ?_
 intro zb1 zw2 zS3
 refine nsr_ (move_ (call_ 141 #[π b off, ι 1, ι 0, ι 3] (enter_ Tryz.func141 rfl (seq_ (reg_ ?_)))))
 refine new_ zS3 (fun b => π b 0) (.cells #[π b off] 194) ?_
 intro zb4 zw5 zS6
 refine new_ zS6 (fun b => π b 0) (.cells #[ι 0, ι 0, ι 0, .nilFunc, .nilFunc] 190) ?_
 intro zb7 zw8 zS9
 refine nsr_ (pure_ (ι 1) (pure_ (ι 0) (pure_ (ι 3) (pure_ (.func (.func 179) #[] #[π zb4 0]) (pure_ (.func (.func 180) #[] #[π zb4 0]) (pure_ (.agg #[ι 1, ι 0, ι 3, .func (.func 179) #[] #[π zb4 0], .func (.func 180) #[] #[π zb4 0]]) ?_))))))
 refine store_ zS9 0 (.agg #[ι 1, ι 0, ι 3, .func (.func 179) #[] #[π zb4 0], .func (.func 180) #[] #[π zb4 0]]) zb7 0 ?_
 intro zw10 zS11
 refine nil_ (then_n (wp_ret (ret_ rfl (res_ [.cell 8 190] [.agg #[ι 1, ι 0, ι 3, .func (.func 179) #[] #[π zb4 0], .func (.func 180) #[] #[π zb4 0]]] (.agg #[ι 1, ι 0, ι 3, .func (.func 179) #[] #[π zb4 0], .func (.func 180) #[] #[π zb4 0]]) ⟨res_cellN zS11 0 5 zb7 0, trivial⟩) ?_)))
 refine store_ zS11 2 (.agg #[ι 1, ι 0, ι 3, .func (.func 179) #[] #[π zb4 0], .func (.func 180) #[] #[π zb4 0]]) zb1 0 ?_
 intro zw12 zS13
 refine nil_ (then_n (wp_ret (ret_ rfl (res_ [.cell 2 190] [.agg #[ι 1, ι 0, ι 3, .func (.func 179) #[] #[π zb4 0], .func (.func 180) #[] #[π zb4 0]]] (.agg #[ι 1, ι 0, ι 3, .func (.func 179) #[] #[π zb4 0], .func (.func 180) #[] #[π zb4 0]]) ⟨res_cellN zS13 2 5 zb1 0, trivial⟩) ?_)))
 exact ⟨zb4, rfl, (zS13.own 1 _ rfl rfl).resolve_left (by simp), zS13.at_ 1 _ rfl, zS13.ch⟩

set_option maxRecDepth 100000 in
set_option maxHeartbeats 4000000 in
theorem fld_octet (b off : Nat) (w : World) :
    Gives Tryz.prog 96 #[π b off] w fun v w1 => ∃ q, v = .agg #[ι 1, ι 0, ι 255, .func (.func 139) #[] #[π q 0], .func (.func 140) #[] #[π q 0]] ∧ w.heap.size ≤ q ∧ w1.heap[q]? = some (.cells #[π b off] 192 (0, 0)) ∧ Ch [] w w1 := by
 have S0 := St.nil [] w
 refine enter_ Tryz.func96 rfl (seq_ (reg_ ?_))
 refine new_ S0 (fun b => π b 0) (.cells #[π b off] 192) ?_
 intro zb1 zw2 zS3
 refine new_ zS3 (fun b => π b 0) (.cells #[ι 0, ι 0, ι 0, .nilFunc, .nilFunc] 190) ?_
 intro zb4 zw5 zS6
 refine nsr_ (pure_ (.func (.func 139) #[] #[π zb1 0]) (pure_ (.func (.func 140) #[] #[π zb1 0]) (pure_ (.agg #[ι 1, ι 0, ι 255, .func (.func 139) #[] #[π zb1 0], .func (.func 140) #[] #[π zb1 0]]) ?_)))
 refine store_ zS6 0 (.agg #[ι 1, ι 0, ι 255, .func (.func 139) #[] #[π zb1 0], .func (.func 140) #[] #[π zb1 0]]) zb4 0 ?_
 intro zw7 zS8
 refine nil_ (then_n (wp_ret (ret_ rfl (res_ [.cell 2 190] [.agg #[ι 1, ι 0, ι 255, .func (.func 139) #[] #[π zb1 0], .func (.func 140) #[] #[π zb1 0]]] (.agg #[ι 1, ι 0, ι 255, .func (.func 139) #[] #[π zb1 0], .func (.func 140) #[] #[π zb1 0]]) ⟨res_cellN zS8 0 5 zb4 0, trivial⟩) ?_)))
 exact ⟨zb1, rfl, (zS8.own 1 _ rfl rfl).resolve_left (by simp), zS8.at_ 1 _ rfl, zS8.ch⟩

end Go.Proofs.YtbjanfgipcniiaaGreatDoor
