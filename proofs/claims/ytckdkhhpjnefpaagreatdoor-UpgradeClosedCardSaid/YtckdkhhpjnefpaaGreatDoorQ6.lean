/- What the proof leans on. No condition. -/
import Derived.Test.YtckdkhhpjnefpaaGreatDoorQ5
set_option maxHeartbeats 4000000
set_option linter.unusedVariables false
set_option linter.deprecated false
set_option linter.unusedSimpArgs false
set_option linter.unusedSectionVars false
open Go.Proofs.Tryz renaming prog→E9c
namespace Go.Proofs.YtckdkhhpjnefpaaGreatDoor
open Go Go.Eng Go.Eng.Ev
noncomputable section
def F1:B4v:=F.over 32 (.con (D5e (A2w mm1) (D5e (A2w mm2) (A2w mm3))))
theorem F1_ok:F1.ok E9c 9:=C5h F_ok (C9j mk1 (C9j mk2 mk3))
theorem D9c:D2c (C2j F1 9 100000 100 (.it 12) [] .lf 9)=true:=by decide+kernel
theorem known_t(i:Imm)(L:SH):E6 E9c 12 [] i L fun r i' L'=>r=.bool true∧L'=L:=E5u J9 F1_ok D9c i L
end
end Go.Proofs.YtckdkhhpjnefpaaGreatDoor
