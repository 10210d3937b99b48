/- What the proof leans on. No condition. -/
import Derived.Test.YtckdkhhpjnefpaaGreatDoorQ6
import Derived.Test.YtckdkhhpjnefpaaGreatDoorRows
import Derived.ProofKit
set_option maxHeartbeats 4000000
set_option linter.unusedVariables false
set_option linter.deprecated false
set_option linter.unusedSimpArgs false
set_option linter.unusedSectionVars false
namespace Go.Eng
open Go Go.ChangeShapes Go.WideShapes Go.ChangeAt Go.RowKit
def B3n(w:World):Imm:=⟨fun b=>w.heap[b]?,w.os,w.tape,w.output⟩
theorem St.start(w:World):St (B3n w) [] w:=⟨rfl,rfl,rfl,fun _ _ h=>h,.nil,fun _ h=>(by cases h),fun _ h=>(by cases h)⟩
structure Kept(w w':World):Prop where
 os:w'.os=w.os
 tape:w'.tape=w.tape
 output:w'.output=w.output
 block:∀k,k<w.heap.size→w'.heap[k]?=w.heap[k]?
theorem Kept.of{w w':World}{i:Imm}{L:SH}(hi:(B3n w).le i)(hs:St i L w'):Kept w w':=
 ⟨hs.os.trans hi.os,hs.tape.trans hi.tape,hs.output.trans hi.output,fun k hk=>by
  have h:w.heap[k]?=some w.heap[k]:=Array.getElem?_eq_getElem hk;rw[h];exact hs.imm k _ (hi.blk k _ h)⟩
theorem E8j{P:Program}{g:FuncId}{args:List Value}{w:World}{v:Value}(h:E6 P g args (B3n w) [] fun u _ _=>u=v):Calls P g args.toArray w fun e w'=>e=.returned v∧Kept w w':=
 (h w (St.start w)).mono fun _ _ ⟨_,_,_,he,hi,hs,hv⟩=>⟨by rw[he,hv],Kept.of hi hs⟩
section
variable{H:Type}{enc:TypeId×Value→H}{P:Program}
end
end Go.Eng
