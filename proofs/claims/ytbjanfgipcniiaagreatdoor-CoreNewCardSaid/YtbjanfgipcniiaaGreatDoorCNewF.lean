/- CoreNew: the closed facts of the row. -/
import Derived.Test.YtbjanfgipcniiaaGreatDoorRows
import Derived.ProofKit
namespace Go.Proofs.YtbjanfgipcniiaaGreatDoor.coreNew
set_option maxRecDepth 100000
theorem closed : joinedFacts Tryz.pinned.checked.prog 3 Tryz.f3 Rows.coreNewSpec Rows.coreNewRow = true := by kernel_rfl
end Go.Proofs.YtbjanfgipcniiaaGreatDoor.coreNew
