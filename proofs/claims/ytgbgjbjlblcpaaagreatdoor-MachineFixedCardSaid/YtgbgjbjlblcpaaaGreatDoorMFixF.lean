/- MachineFixed: the closed facts of the row. -/
import Derived.Test.YtgbgjbjlblcpaaaGreatDoorRows
import Derived.ProofKit
namespace Go.Proofs.YtgbgjbjlblcpaaaGreatDoor.machineFixed
set_option maxRecDepth 100000
theorem closed : joinedFacts Tryz.pinned.checked.prog 6 Tryz.f6 Rows.machineFixedSpec Rows.machineFixedRow = true := by kernel_rfl
end Go.Proofs.YtgbgjbjlblcpaaaGreatDoor.machineFixed
