/- What the proof leans on. No condition. -/
import Derived.Test.YtckdkhhpjnefpaaGreatDoorQ3
set_option maxHeartbeats 4000000
set_option linter.unusedVariables false
set_option linter.deprecated false
set_option linter.unusedSimpArgs false
set_option linter.unusedSectionVars false
open Go.Proofs.Tryz renaming prog→E9c
namespace Go.Proofs.YtckdkhhpjnefpaaGreatDoor
open Go Go.Eng Go.Eng.Ev
noncomputable section
def mm2:Memo:=
 ⟨[.agg [.sl 564 0 1 (.fix 1),.nils,.nils,.nils,.nils,.nils,.nils,.nils,.int .i64 9]],565,
  [(564,false,.cells [.sl 563 0 1 (.fix 1)] 60 1),
   (563,false,.cells [.str [53,48,45,97],.str [75,69,82,78,69,76,61,61,34,115,100,97,34,44,32,84,65,71,43,61,34,97,34,10,75,69,82,78,69,76,61,61,34,115,100,98,34,44,32,84,65,71,43,61,34,120,34,10,84,65,71,43,61,34,99,34,10]] 64 2)],
  .tup [.sl 1116 0 3 (.rest 0),.nils,.int .i64 0],
  [(1116,false,.cells [.str [53,48,45,97],.int .i64 1,.sl 1114 0 2 (.rest 0),.str [53,48,45,97],.int .i64 2,.sl 1103 0 2 (.rest 0),.str [53,48,45,97],.int .i64 3,.sl 1092 0 1 (.rest 0)] 52 3),
   (1114,false,.cells [.int .i64 2,.str [],.int .i64 1,.str [115,100,97],.int .i64 7,.str [],.int .i64 4,.str [97]] 54 4),
   (1103,false,.cells [.int .i64 2,.str [],.int .i64 1,.str [115,100,98],.int .i64 7,.str [],.int .i64 4,.str [120]] 54 4),
   (1092,false,.cells [.int .i64 7,.str [],.int .i64 4,.str [99]] 54 4),
   (564,false,.cells [.sl 563 0 1 (.fix 1)] 60 1),
   (563,false,.cells [.str [53,48,45,97],.str [75,69,82,78,69,76,61,61,34,115,100,97,34,44,32,84,65,71,43,61,34,97,34,10,75,69,82,78,69,76,61,61,34,115,100,98,34,44,32,84,65,71,43,61,34,120,34,10,84,65,71,43,61,34,99,34,10]] 64 2)],1117⟩
theorem mr2:B6h mm2 (C2j F 9 100000 100 (.fn 32) mm2.vs (mkH mm2.hr) mm2.n)=true:=by decide+kernel
theorem mk2:V5 E9c 9 32 (A2w mm2):=C3t (B7x J9 F_ok 100 32) mr2
end
end Go.Proofs.YtckdkhhpjnefpaaGreatDoor
