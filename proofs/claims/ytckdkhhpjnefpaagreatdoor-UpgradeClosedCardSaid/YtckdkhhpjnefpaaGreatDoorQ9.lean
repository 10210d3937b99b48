/- What the proof leans on. No condition. -/
import Derived.Test.YtckdkhhpjnefpaaGreatDoorQ8
import Derived.Test.YtckdkhhpjnefpaaGreatDoorCards
set_option maxHeartbeats 4000000
set_option linter.unusedVariables false
set_option linter.deprecated false
set_option linter.unusedSimpArgs false
set_option linter.unusedSectionVars false
namespace Go.Proofs.YtckdkhhpjnefpaaGreatDoor.upgradeClosed
open Go
theorem goes:false=Rows.upgradeClosedRow.goesBy Tryz.pinned.checked.prog:=by kernel_rfl
theorem wf:Rows.upgradeClosedRow.wfByText (OpenSpec.ofChange Rows.upgradeClosedSpec)=true:=by kernel_rfl
theorem mainIs:Tryz.pinned.checked.prog.mainIs=some (true, "ffeacdc8a028b4685c04d313d1b4d90afe89280dc0fdba55e4612a20d008e3b3".toList):=by kernel_rfl
end Go.Proofs.YtckdkhhpjnefpaaGreatDoor.upgradeClosed
