/- What the proof leans on. No condition. -/
import Derived.Test.YtckdkhhpjnefpaaGreatDoorQ8
import Derived.Test.YtckdkhhpjnefpaaGreatDoorCards
set_option maxHeartbeats 4000000
set_option linter.unusedVariables false
set_option linter.unusedSimpArgs false
set_option linter.unusedSectionVars false
namespace Go.Proofs.YtckdkhhpjnefpaaGreatDoor.upgradeAffects
open Go
theorem goes:false=Rows.upgradeAffectsRow.goesBy Tryz.pinned.checked.prog:=by kernel_rfl
theorem wf:Rows.upgradeAffectsRow.wfByText (OpenSpec.ofChange Rows.upgradeAffectsSpec)=true:=by kernel_rfl
theorem mainIs:Tryz.pinned.checked.prog.mainIs=some (true, "ffeacdc8a028b4685c04d313d1b4d90afe89280dc0fdba55e4612a20d008e3b3".toList):=by kernel_rfl
end Go.Proofs.YtckdkhhpjnefpaaGreatDoor.upgradeAffects
