/- The closed facts of the row. -/
import Derived.Test.YtppfndgghkfkhaaGreatDoorRows
import Derived.JoinedOf
set_option linter.all false
set_option maxRecDepth 100000
namespace Go.Proofs.YtppfndgghkfkhaaGreatDoor
open Go
theorem facts : joinedFacts Tryz.pinned.checked.prog 3 Tryz.f3 Rows.kernelNumbersSpec Rows.kernelNumbersRow = true := by kernel_rfl
end Go.Proofs.YtppfndgghkfkhaaGreatDoor
