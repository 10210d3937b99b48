/- What UpgradeChanges leans on. No condition. -/
import Derived.Test.YtckdkhhpjnefpaaGreatDoorQ4
set_option linter.unusedVariables false
set_option linter.unusedSectionVars false
set_option linter.unusedSimpArgs false
namespace Go.Proofs.YtckdkhhpjnefpaaGreatDoor
open Go Go.Eng Go.Eng.Ev
noncomputable def F1 : FTab := F.over 32 (.con (conOr (memoHit mm1) (conOr (memoHit mm2) (memoHit mm3))))
theorem F1_ok : F1.ok Tryz.prog 9 := FTab.over_ok F_ok (conOr_ok mk1 (conOr_ok mk2 mk3))
theorem known_run : isTrue (evFn F1 9 100000 100 (.it 12) [] .lf 9) = true := by decide +kernel
theorem known_t (i : Imm) (L : SH) : FnS Tryz.prog 12 [] i L fun r i' L' => r = .bool true ∧ L' = L := known_of mix F1_ok known_run i L
end Go.Proofs.YtckdkhhpjnefpaaGreatDoor
