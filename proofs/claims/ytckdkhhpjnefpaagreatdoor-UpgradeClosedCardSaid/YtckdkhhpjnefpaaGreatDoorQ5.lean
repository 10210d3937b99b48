/- What the proof leans on. No condition. -/
import Derived.Test.YtckdkhhpjnefpaaGreatDoorQ4
set_option maxHeartbeats 4000000
set_option linter.unusedVariables false
set_option linter.deprecated false
set_option linter.unusedSimpArgs false
set_option linter.unusedSectionVars false
open Go.Proofs.Tryz renaming prog→E9c
namespace Go.Proofs.YtckdkhhpjnefpaaGreatDoor
open Go Go.Eng Go.Eng.Ev
noncomputable section
def mm3:Memo:=
 ⟨[.agg [.sl 1118 0 1 (.fix 1),.nils,.nils,.nils,.nils,.nils,.nils,.nils,.int .i64 9]],1119,
  [(1118,false,.cells [.sl 1117 0 1 (.fix 1)] 60 1),
   (1117,false,.cells [.str [53,48,45,97],.str [75,69,82,78,69,76,61,61,34,115,100,97,34,44,32,84,65,71,43,61,34,97,34,10,76,65,66,69,76,61,34,101,110,100,34,10,84,65,71,43,61,34,99,34,10]] 64 2)],
  .tup [.sl 1624 0 3 (.rest 0),.nils,.int .i64 0],
  [(1624,false,.cells [.str [53,48,45,97],.int .i64 1,.sl 1622 0 2 (.rest 0),.str [53,48,45,97],.int .i64 2,.sl 1611 0 1 (.rest 0),.str [53,48,45,97],.int .i64 3,.sl 1602 0 1 (.rest 0)] 52 3),
   (1622,false,.cells [.int .i64 2,.str [],.int .i64 1,.str [115,100,97],.int .i64 7,.str [],.int .i64 4,.str [97]] 54 4),
   (1611,false,.cells [.int .i64 23,.str [],.int .i64 3,.str [101,110,100]] 54 4),
   (1602,false,.cells [.int .i64 7,.str [],.int .i64 4,.str [99]] 54 4),
   (1118,false,.cells [.sl 1117 0 1 (.fix 1)] 60 1),
   (1117,false,.cells [.str [53,48,45,97],.str [75,69,82,78,69,76,61,61,34,115,100,97,34,44,32,84,65,71,43,61,34,97,34,10,76,65,66,69,76,61,34,101,110,100,34,10,84,65,71,43,61,34,99,34,10]] 64 2)],1625⟩
theorem mr3:B6h mm3 (C2j F 9 100000 100 (.fn 32) mm3.vs (mkH mm3.hr) mm3.n)=true:=by decide+kernel
theorem mk3:V5 E9c 9 32 (A2w mm3):=C3t (B7x J9 F_ok 100 32) mr3
end
end Go.Proofs.YtckdkhhpjnefpaaGreatDoor
