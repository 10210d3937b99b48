/- What the proof leans on. No condition. -/
import Derived.Test.YtckdkhhpjnefpaaGreatDoorP7
set_option maxHeartbeats 4000000
set_option linter.unusedVariables false
set_option linter.deprecated false
set_option linter.unusedSimpArgs false
set_option linter.unusedSectionVars false
open Go.Proofs.Tryz renaming prog→E9c
namespace Go.Proofs.YtckdkhhpjnefpaaGreatDoor
open Go Go.Eng Go.Eng.Ev Go.RowKit Go.Lib
theorem Lower_t(s:ByteArray)(i:Imm)(L:SH)(hs:s.size≤140737488355328)(ha:∀(j:Nat)(b:UInt8),s.data.toList[j]?=some b→b.toNat<128):
 E6 E9c 261 [.string s] i L fun r i' L'=>r=.string ⟨(Lib.toLowerA s.data.toList).toArray⟩∧i'=i∧L'=L:=
 E6.below fun w _=>Tryz.strings_ToLower_ascii s w hs ha
theorem D9t{G:Nat}:V5 E9c G 261 B0r:=D1a (by kernel_rfl) fun s i L hs ha=>Lower_t s i L hs ha
theorem info60:∃i,E9c.info? 60=some i∧i.desc=.slice 64:=by
 have h:(E9c.info? 60).map (·.desc)=some (.slice 64):=by kernel_rfl
 obtain⟨i,h1,h2⟩:=Option.map_eq_some_iff.1 h;exact⟨i,h1,h2⟩
theorem info64:∃i,E9c.info? 64=some i:=by
 have h:(E9c.info? 64).isSome=true:=by kernel_rfl
 exact Option.isSome_iff_exists.1 h
theorem kind64(w:World):(Extern.Rtype.kind 64).run E9c w=.ok 25 w:=by kernel_rfl
theorem swap1:E9c.funcs.findIdx? (·.name== "internal/reflectlite.Swapper$1")=some 201:=by kernel_rfl
theorem swap2:E9c.funcs.findIdx? (·.name== "internal/reflectlite.Swapper$2")=some 202:=by kernel_rfl
theorem Sort_t(p:Option Addr)(l c:Nat)(lf:Fn)(la lb:Array Value)(i:Imm)(L:SH)(h:l≤1):
 E6 E9c 109 [.iface 60 (.slice p l c),.func lf la lb] i L fun r i' L'=>r=.tuple #[]∧i'=i∧L'=L:=by
 obtain⟨i60,h1,h2⟩:=info60;obtain⟨i64,h3⟩:=info64;refine E6.below fun w _=>?_
 have hf:∃f,E9c.funcs.findIdx? (·.name== "internal/reflectlite" ++ ".Swapper$" ++toString (swapperK l i64 25))=some f:=by
  match l,h with
  |0,_=>
   rw[show "internal/reflectlite" ++ ".Swapper$" ++toString (swapperK 0 i64 25)= "internal/reflectlite.Swapper$1" from(by decide: "internal/reflectlite" ++ ".Swapper$" ++toString 1= "internal/reflectlite.Swapper$1")];exact⟨_,swap1⟩
  |1,_=>
   rw[show "internal/reflectlite" ++ ".Swapper$" ++toString (swapperK 1 i64 25)= "internal/reflectlite.Swapper$2" from(by decide: "internal/reflectlite" ++ ".Swapper$" ++toString 2= "internal/reflectlite.Swapper$2")];exact⟨_,swap2⟩
 obtain⟨f,hf⟩:=hf
 refine(Any.sort_Slice_tiny C4u 60 64 i60 i64 h1 h2 (by kernel_rfl) h3 25 kind64 p l c h f hf lf la lb w).mono ?_
 rintro e w' ⟨rfl,os,rfl⟩;refine⟨rfl,rfl,rfl,rfl,by show _≤(w.heap++os).size;simp,fun b hb=>?_⟩
 show(w.heap++os)[b]?=_
 rw[Array.getElem?_append_left hb]
theorem D9u{G:Nat}:V5 E9c G 109 (B5h 60):=D3u (by kernel_rfl) Sort_t
theorem D9r{G:Nat}:V5 E9c G 296 B0t:=D1b (fn:=Tryz.f296) Tryz.func296 (by kernel_rfl) (by kernel_rfl) (by kernel_rfl) (by kernel_rfl)
theorem D9q{G:Nat}:V5 E9c G 300 A1v:=B4z (fn:=Tryz.f300) Tryz.func300 (by kernel_rfl) (by kernel_rfl) (by kernel_rfl) (by kernel_rfl)
end Go.Proofs.YtckdkhhpjnefpaaGreatDoor
