/- What the proof leans on. No condition. -/
import Derived.Test.YtckdkhhpjnefpaaGreatDoorP3
import Derived.Test.YtckdkhhpjnefpaaGreatDoorProg
import Derived.KernelRfl
import Derived.Shelf.Strings.Builder1
import Derived.Shelf.Strings.Builder2
import Derived.Shelf.Strings.Trim
import Derived.Shelf.Small.Utf8
import Derived.Shelf.Small.Bits
import Derived.Shelf.Small.Strs
import Derived.Shelf.Utf8.RuneCount
import Derived.Shelf.Strconv.Itoa0
import Derived.Shelf.Strconv.Itoa1
import Derived.Shelf.LaysM
import Derived.Shelf.Strconv.Itoa2
import Derived.Shelf.Strconv.Itoa3
import Derived.Shelf.Strings.Search1
import Derived.Shelf.Strings.Search2
import Derived.Shelf.Strings.Search3
import Derived.Shelf.Strings.Cut
import Derived.Shelf.Strings.Count
import Derived.Shelf.Strings.Shaped
import Derived.Shelf.Strings.Prefix
import Derived.Shelf.Strings.Split
import Derived.Shelf.Strings.Replace
import Derived.Shelf.Strings.SplitShaped
import Derived.Shelf.Unicode.Latin
import Derived.Shelf.Unicode.Decode
import Derived.Shelf.Strings.Runes
import Derived.Shelf.Strings.RuneCount
import Derived.Shelf.Strings.IndexAny
import Derived.Shelf.Strings.AsciiSet
import Derived.Shelf.Strings.IndexAnyAll
import Derived.Shelf.Strings.Explode
import Derived.Shelf.Unicode.DecodeSlow
import Derived.Shelf.Unicode.DecodeAny
import Derived.Shelf.Unicode.DecodeLast
import Derived.Shelf.Unicode.CaseLookup
import Derived.Shelf.Unicode.CaseConvert
import Derived.Shelf.Unicode.CaseTo
import Derived.Shelf.Unicode.CaseLaid
import Derived.Ground.Names2Prog
import Derived.Shelf.Slices.Clone
import Derived.Ground.SlgnProg
import Derived.Shelf.SlicesE.Clone
import Derived.Shelf.Strings.SlTrimAscii
set_option maxHeartbeats 4000000
set_option linter.unusedVariables false
set_option linter.deprecated false
set_option linter.unusedSimpArgs false
set_option linter.unusedSectionVars false
open Bool renaming and_eq_true→E9j
open ByteArray renaming empty→E9f,size_extract→F0f,mk→F0y
open Go.Proofs.Tryz renaming prog→E9c
open List renaming mem_cons→F0b,getElem?_eq_getElem→E9v,toArray→E9d,getElem?_eq_some_iff→E9e,getElem?_drop→F1e,mem_of_getElem?→E9g,mem_append→E9r,mem_cons_of_mem→E9u,mem_cons_self→F0g,getElem?_map→F0k,map_cons→F0w,drop_drop→F1u,getElem?_append_left→E9t,mem_iff_getElem?→F0j,getElem?_set_ne→F0q,mem_map→F1k,length_append→E9h,all_eq_true→F0c,length_cons→F1h,eq_nil_of_length_eq_zero→F0t,replicate→E9y,append_assoc→F0p,getElem?_append_right→F0r
open Option renaming map_some→F1q
open Nat renaming add_mul→F1f,zero_le→E9k,le_refl→E9q,zero_add→F1b,lt_succ_iff_lt_or_eq→F0m,blt→F0e,ble→F0n,blt_eq→F1j
open Go.Value renaming bool→F0x,int→F0u,string→E9z,slice→F0h
open Go.Obj renaming cells→E9n
namespace Go.Proofs.YtckdkhhpjnefpaaGreatDoor
open Go Go.Eng
theorem mkTy{P:Program}{t:Nat}{e:TyE}{z:Value}(hu:P.underlying t=some e.desc)(h:(P.info? t).map (fun i=>(i.size,i.bytes,i.zero))=some (e.size,e.bytes,some z))(hz:z.cells=e.zero.toArray)(hl:e.zero.length=e.size)(hy:zOf e=some z)(hcm:(P.info? t).all (fun i=> !A9b e.desc||i.comparable)=true)(heq:(!B1p e.desc||(!P.stoodInHeld t&& !P.eqGuardType P.depth t))=true):TyE.ok P t e∧B9 P t e:=by
 refine⟨⟨hu,hl,?_⟩,fun j y hj hy'=>?_,fun j hj hd=>by rw[hj] at hcm;simpa [hd] using hcm,fun hd=>by simpa [hd] using heq⟩;rotate_left
 ·rw[hy] at hy';cases hy';rw[hj] at h;simp only[F1q,Option.some.injEq,Prod.mk.injEq] at h;exact h.2.2
 cases hi:P.info? t with
 |none=>rw[hi] at h;cases h
 |some i=>
  rw[hi] at h;simp only[F1q,Option.some.injEq,Prod.mk.injEq] at h;exact⟨i,z,rfl,h.1,h.2.1,h.2.2,hz⟩
theorem C0{P:Program}{t:Nat}{e:TyE}(hu:P.underlying t=some e.desc)(h:((P.info? t).map (fun i=>(i.size,i.bytes,i.zero)),(zOf e).map Value.cells,e.zero.length,(zOf e).isSome&&(P.info? t).all (fun i=> !A9b e.desc||i.comparable)&&(!B1p e.desc||(!P.stoodInHeld t&& !P.eqGuardType P.depth t)))=(some (e.size,e.bytes,zOf e),some e.zero.toArray,e.size,true)):TyE.ok P t e∧B9 P t e:=by
 simp only[Prod.mk.injEq,E9j] at h;obtain⟨h1,h2,h3,⟨h4,h5⟩,h6⟩:=h;obtain⟨z,hz⟩:=Option.isSome_iff_exists.1 h4;rw[hz] at h1 h2;exact mkTy hu h1 (by simpa using h2) h3 hz h5 h6
def tab:F7:=[
 (3,⟨.int .i64,1,8,[.int .i64 0]⟩),
 (9,⟨.string,1,16,[.string E9f]⟩),
 (30,⟨.slice 9,1,24,[.slice none 0 0]⟩),
 (54,⟨.struct #[⟨ "Key",3,0,false,"","",0⟩,⟨ "Name",9,1,false,"","",8⟩,⟨ "Op",3,2,false,"","",24⟩,⟨ "Value",9,3,false,"","",32⟩],4,48,[.int .i64 0,.string E9f,.int .i64 0,.string E9f]⟩),
 (26,⟨.slice 52,1,24,[.slice none 0 0]⟩),
 (23,⟨.pointer 25,1,8,[.pointer none]⟩),
 (50,⟨.slice 54,1,24,[.slice none 0 0]⟩),
 (35,⟨.struct #[⟨ "Dirs",27,0,false,"","",0⟩,⟨ "Helpers",28,1,false,"","",24⟩,⟨ "Config",33,2,false,"","",48⟩,⟨ "Policy",30,7,false,"","",168⟩,⟨ "Limit",3,8,false,"","",192⟩],9,200,[.slice none 0 0,.slice none 0 0,.slice none 0 0,.slice none 0 0,.slice none 0 0,.slice none 0 0,.slice none 0 0,.slice none 0 0,.int .i64 0]⟩),
 (143,⟨.struct #[⟨ "Key",9,0,false,"","",0⟩,⟨ "Name",9,1,false,"","",16⟩,⟨ "Op",9,2,false,"","",32⟩,⟨ "Value",9,3,false,"","",48⟩],4,64,[.string E9f,.string E9f,.string E9f,.string E9f]⟩),
 (5,⟨.int .u8,1,1,[.int .u8 0]⟩),
 (27,⟨.slice 60,1,24,[.slice none 0 0]⟩),
 (52,⟨.struct #[⟨ "File",9,0,false,"","",0⟩,⟨ "Line",3,1,false,"","",16⟩,⟨ "Terms",50,2,false,"","",24⟩],3,48,[.string E9f,.int .i64 0,.slice none 0 0]⟩),
 (60,⟨.slice 64,1,24,[.slice none 0 0]⟩),
 (347,⟨.struct #[⟨ "Kind",3,0,false,"","",0⟩,⟨ "Text",9,1,false,"","",8⟩,⟨ "Word",3,2,false,"","",24⟩,⟨ "More",4,3,false,"","",32⟩],4,40,[.int .i64 0,.string E9f,.int .i64 0,.bool false]⟩),
 (64,⟨.struct #[⟨ "Name",9,0,false,"","",0⟩,⟨ "Text",9,1,false,"","",16⟩],2,32,[.string E9f,.string E9f]⟩),
 (33,⟨.struct #[⟨ "Modules",29,0,false,"","",0⟩,⟨ "Blocked",30,1,false,"","",24⟩,⟨ "Off",30,2,false,"","",48⟩,⟨ "Keep",30,3,false,"","",72⟩,⟨ "Extra",31,4,false,"","",96⟩],5,120,[.slice none 0 0,.slice none 0 0,.slice none 0 0,.slice none 0 0,.slice none 0 0]⟩),
 (180,⟨.struct #[⟨ "Name",9,0,false,"","",0⟩,⟨ "Aliases",30,1,false,"","",16⟩,⟨ "Needs",30,2,false,"","",40⟩,⟨ "Pre",30,3,false,"","",64⟩,⟨ "Post",30,4,false,"","",88⟩,⟨ "Fails",4,5,false,"","",112⟩],6,120,[.string E9f,.slice none 0 0,.slice none 0 0,.slice none 0 0,.slice none 0 0,.bool false]⟩),
 (141,⟨.slice 143,1,24,[.slice none 0 0]⟩),
 (67,⟨.int .i64,1,8,[.int .i64 0]⟩),
 (28,⟨.slice 139,1,24,[.slice none 0 0]⟩),
 (66,⟨.slice 155,1,24,[.slice none 0 0]⟩),
 (191,⟨.struct #[⟨ "Number",3,0,false,"","",0⟩,⟨ "Text",9,1,false,"","",8⟩],2,24,[.int .i64 0,.string E9f]⟩),
 (29,⟨.slice 180,1,24,[.slice none 0 0]⟩),
 (139,⟨.struct #[⟨ "Command",9,0,false,"","",0⟩,⟨ "Output",9,1,false,"","",16⟩,⟨ "Fails",4,2,false,"","",32⟩,⟨ "Ticks",3,3,false,"","",40⟩],4,48,[.string E9f,.string E9f,.bool false,.int .i64 0]⟩),
 (22,⟨.slice 3,1,24,[.slice none 0 0]⟩),
 (4,⟨.bool,1,1,[.bool false]⟩),
 (298,⟨.slice 347,1,24,[.slice none 0 0]⟩),
 (25,⟨.struct #[⟨ "L",22,0,false,"","",0⟩,⟨ "At",3,1,false,"","",24⟩],2,32,[.slice none 0 0,.int .i64 0]⟩),
 (31,⟨.slice 137,1,24,[.slice none 0 0]⟩),
 (186,⟨.slice 191,1,24,[.slice none 0 0]⟩),
 (239,⟨.slice 296,1,24,[.slice none 0 0]⟩),
 (314,⟨.struct #[⟨ "Star",4,0,false,"","",0⟩,⟨ "Literal",4,1,false,"","",1⟩,⟨ "Set",312,2,false,"","",2⟩],130,130,[.bool false,.bool false,.bool false,.bool false,.bool false,.bool false,.bool false,.bool false,.bool false,.bool false,.bool false,.bool false,.bool false,.bool false,.bool false,.bool false,.bool false,.bool false,.bool false,.bool false,.bool false,.bool false,.bool false,.bool false,.bool false,.bool false,.bool false,.bool false,.bool false,.bool false,.bool false,.bool false,.bool false,.bool false,.bool false,.bool false,.bool false,.bool false,.bool false,.bool false,.bool false,.bool false,.bool false,.bool false,.bool false,.bool false,.bool false,.bool false,.bool false,.bool false,.bool false,.bool false,.bool false,.bool false,.bool false,.bool false,.bool false,.bool false,.bool false,.bool false,.bool false,.bool false,.bool false,.bool false,.bool false,.bool false,.bool false,.bool false,.bool false,.bool false,.bool false,.bool false,.bool false,.bool false,.bool false,.bool false,.bool false,.bool false,.bool false,.bool false,.bool false,.bool false,.bool false,.bool false,.bool false,.bool false,.bool false,.bool false,.bool false,.bool false,.bool false,.bool false,.bool false,.bool false,.bool false,.bool false,.bool false,.bool false,.bool false,.bool false,.bool false,.bool false,.bool false,.bool false,.bool false,.bool false,.bool false,.bool false,.bool false,.bool false,.bool false,.bool false,.bool false,.bool false,.bool false,.bool false,.bool false,.bool false,.bool false,.bool false,.bool false,.bool false,.bool false,.bool false,.bool false,.bool false,.bool false,.bool false,.bool false,.bool false]⟩),
 (312,⟨.array 128 4,128,128,[.bool false,.bool false,.bool false,.bool false,.bool false,.bool false,.bool false,.bool false,.bool false,.bool false,.bool false,.bool false,.bool false,.bool false,.bool false,.bool false,.bool false,.bool false,.bool false,.bool false,.bool false,.bool false,.bool false,.bool false,.bool false,.bool false,.bool false,.bool false,.bool false,.bool false,.bool false,.bool false,.bool false,.bool false,.bool false,.bool false,.bool false,.bool false,.bool false,.bool false,.bool false,.bool false,.bool false,.bool false,.bool false,.bool false,.bool false,.bool false,.bool false,.bool false,.bool false,.bool false,.bool false,.bool false,.bool false,.bool false,.bool false,.bool false,.bool false,.bool false,.bool false,.bool false,.bool false,.bool false,.bool false,.bool false,.bool false,.bool false,.bool false,.bool false,.bool false,.bool false,.bool false,.bool false,.bool false,.bool false,.bool false,.bool false,.bool false,.bool false,.bool false,.bool false,.bool false,.bool false,.bool false,.bool false,.bool false,.bool false,.bool false,.bool false,.bool false,.bool false,.bool false,.bool false,.bool false,.bool false,.bool false,.bool false,.bool false,.bool false,.bool false,.bool false,.bool false,.bool false,.bool false,.bool false,.bool false,.bool false,.bool false,.bool false,.bool false,.bool false,.bool false,.bool false,.bool false,.bool false,.bool false,.bool false,.bool false,.bool false,.bool false,.bool false,.bool false,.bool false,.bool false,.bool false,.bool false,.bool false]⟩),
 (105,⟨.slice 26,1,24,[.slice none 0 0]⟩),
 (296,⟨.slice 314,1,24,[.slice none 0 0]⟩),
 (70,⟨.func #[3] #[52] false,1,8,[.nilFunc]⟩),
 (289,⟨.slice 5,1,24,[.slice none 0 0]⟩),
 (155,⟨.struct #[⟨ "File",9,0,false,"","",0⟩,⟨ "Line",3,1,false,"","",16⟩,⟨ "Errno",67,2,false,"","",24⟩],3,32,[.string E9f,.int .i64 0,.int .i64 0]⟩),
 (137,⟨.struct #[⟨ "Name",9,0,false,"","",0⟩,⟨ "Value",9,1,false,"","",16⟩],2,32,[.string E9f,.string E9f]⟩),
 (316,⟨.pointer 314,1,8,[.pointer none]⟩),
 (46,⟨.struct #[⟨ "Devices",44,0,false,"","",0⟩],1,24,[.slice none 0 0]⟩),
 (44,⟨.slice 56,1,24,[.slice none 0 0]⟩),
 (56,⟨.struct #[⟨ "Index",3,0,false,"","",0⟩,⟨ "Parent",3,1,false,"","",8⟩,⟨ "Name",9,2,false,"","",16⟩,⟨ "Original",9,3,false,"","",32⟩,⟨ "Subsystem",9,4,false,"","",48⟩,⟨ "Driver",9,5,false,"","",64⟩,⟨ "Alias",9,6,false,"","",80⟩,⟨ "Kind",3,7,false,"","",96⟩,⟨ "Number",3,8,false,"","",104⟩,⟨ "Attrs",31,9,false,"","",112⟩],10,136,[.int .i64 0,.int .i64 0,.string E9f,.string E9f,.string E9f,.string E9f,.string E9f,.int .i64 0,.int .i64 0,.slice none 0 0]⟩),
 (117,⟨.map 9 22,1,8,[.map none]⟩),
 (120,⟨.struct #[⟨ "rules",26,0,false,"","coldplug/compile",0⟩,⟨ "fronts",118,1,false,"","coldplug/compile",24⟩,⟨ "keyed",117,2,false,"","coldplug/compile",48⟩,⟨ "general",22,3,false,"","coldplug/compile",56⟩,⟨ "labels",22,4,false,"","coldplug/compile",80⟩],5,104,[.slice none 0 0,.slice none 0 0,.map none,.slice none 0 0,.slice none 0 0]⟩),
 (118,⟨.slice 50,1,24,[.slice none 0 0]⟩),
 (86,⟨.pointer 120,1,8,[.pointer none]⟩),
 (173,⟨.struct #[⟨ "static",4,0,false,"","coldplug/match",0⟩,⟨ "upward",4,1,false,"","coldplug/match",1⟩,⟨ "value",171,2,false,"","coldplug/match",8⟩],3,16,[.bool false,.bool false,.nilFunc]⟩),
 (171,⟨.func #[54,56] #[9] false,1,8,[.nilFunc]⟩),
 (132,⟨.map 3 177,1,8,[.map none]⟩),
 (177,⟨.struct #[],0,0,[]⟩),
 (226,⟨.slice 230,1,24,[.slice none 0 0]⟩),
 (230,⟨.slice 293,1,24,[.slice none 0 0]⟩),
 (231,⟨.array 25 173,75,400,[.bool false,.bool false,.nilFunc,.bool false,.bool false,.nilFunc,.bool false,.bool false,.nilFunc,.bool false,.bool false,.nilFunc,.bool false,.bool false,.nilFunc,.bool false,.bool false,.nilFunc,.bool false,.bool false,.nilFunc,.bool false,.bool false,.nilFunc,.bool false,.bool false,.nilFunc,.bool false,.bool false,.nilFunc,.bool false,.bool false,.nilFunc,.bool false,.bool false,.nilFunc,.bool false,.bool false,.nilFunc,.bool false,.bool false,.nilFunc,.bool false,.bool false,.nilFunc,.bool false,.bool false,.nilFunc,.bool false,.bool false,.nilFunc,.bool false,.bool false,.nilFunc,.bool false,.bool false,.nilFunc,.bool false,.bool false,.nilFunc,.bool false,.bool false,.nilFunc,.bool false,.bool false,.nilFunc,.bool false,.bool false,.nilFunc,.bool false,.bool false,.nilFunc,.bool false,.bool false,.nilFunc]⟩),
 (286,⟨.struct #[⟨ "p",9,0,false,"","coldplug/glob",0⟩,⟨ "at",3,1,false,"","coldplug/glob",16⟩],2,24,[.string E9f,.int .i64 0]⟩),
 (293,⟨.struct #[⟨ "literal",5,0,false,"","coldplug/glob",0⟩,⟨ "star",4,1,false,"","coldplug/glob",1⟩,⟨ "bytes",291,2,false,"","coldplug/glob",2⟩],129,129,[.int .u8 0,.bool false,.bool false,.bool false,.bool false,.bool false,.bool false,.bool false,.bool false,.bool false,.bool false,.bool false,.bool false,.bool false,.bool false,.bool false,.bool false,.bool false,.bool false,.bool false,.bool false,.bool false,.bool false,.bool false,.bool false,.bool false,.bool false,.bool false,.bool false,.bool false,.bool false,.bool false,.bool false,.bool false,.bool false,.bool false,.bool false,.bool false,.bool false,.bool false,.bool false,.bool false,.bool false,.bool false,.bool false,.bool false,.bool false,.bool false,.bool false,.bool false,.bool false,.bool false,.bool false,.bool false,.bool false,.bool false,.bool false,.bool false,.bool false,.bool false,.bool false,.bool false,.bool false,.bool false,.bool false,.bool false,.bool false,.bool false,.bool false,.bool false,.bool false,.bool false,.bool false,.bool false,.bool false,.bool false,.bool false,.bool false,.bool false,.bool false,.bool false,.bool false,.bool false,.bool false,.bool false,.bool false,.bool false,.bool false,.bool false,.bool false,.bool false,.bool false,.bool false,.bool false,.bool false,.bool false,.bool false,.bool false,.bool false,.bool false,.bool false,.bool false,.bool false,.bool false,.bool false,.bool false,.bool false,.bool false,.bool false,.bool false,.bool false,.bool false,.bool false,.bool false,.bool false,.bool false,.bool false,.bool false,.bool false,.bool false,.bool false,.bool false,.bool false,.bool false,.bool false,.bool false,.bool false,.bool false,.bool false]⟩),
 (291,⟨.array 127 4,127,127,[.bool false,.bool false,.bool false,.bool false,.bool false,.bool false,.bool false,.bool false,.bool false,.bool false,.bool false,.bool false,.bool false,.bool false,.bool false,.bool false,.bool false,.bool false,.bool false,.bool false,.bool false,.bool false,.bool false,.bool false,.bool false,.bool false,.bool false,.bool false,.bool false,.bool false,.bool false,.bool false,.bool false,.bool false,.bool false,.bool false,.bool false,.bool false,.bool false,.bool false,.bool false,.bool false,.bool false,.bool false,.bool false,.bool false,.bool false,.bool false,.bool false,.bool false,.bool false,.bool false,.bool false,.bool false,.bool false,.bool false,.bool false,.bool false,.bool false,.bool false,.bool false,.bool false,.bool false,.bool false,.bool false,.bool false,.bool false,.bool false,.bool false,.bool false,.bool false,.bool false,.bool false,.bool false,.bool false,.bool false,.bool false,.bool false,.bool false,.bool false,.bool false,.bool false,.bool false,.bool false,.bool false,.bool false,.bool false,.bool false,.bool false,.bool false,.bool false,.bool false,.bool false,.bool false,.bool false,.bool false,.bool false,.bool false,.bool false,.bool false,.bool false,.bool false,.bool false,.bool false,.bool false,.bool false,.bool false,.bool false,.bool false,.bool false,.bool false,.bool false,.bool false,.bool false,.bool false,.bool false,.bool false,.bool false,.bool false,.bool false,.bool false,.bool false,.bool false,.bool false,.bool false,.bool false,.bool false]⟩),
 (343,⟨.slice 4,1,24,[.slice none 0 0]⟩)]
theorem J9:E9c.follows .mixedOrders=true:=by kernel_rfl
theorem C7{P:Program}{t:Nat}{e:TyE}{R:F7}(h:TyE.ok P t e∧B9 P t e)(hr:F7.ok P R):F7.ok P ((t,e)::R):=fun p hp=>(F0b.1 hp).elim (fun q=>by subst q;exact h) (hr p)
theorem A1:tab.ok E9c:=by
 refine C7 (C0 Tryz.underlying3 (by kernel_rfl)) ?_;refine C7 (C0 Tryz.underlying9 (by kernel_rfl)) ?_;refine C7 (C0 Tryz.underlying30 (by kernel_rfl)) ?_;refine C7 (C0 Tryz.underlying54 (by kernel_rfl)) ?_;refine C7 (C0 Tryz.underlying26 (by kernel_rfl)) ?_;refine C7 (C0 Tryz.underlying23 (by kernel_rfl)) ?_;refine C7 (C0 Tryz.underlying50 (by kernel_rfl)) ?_;refine C7 (C0 Tryz.underlying35 (by kernel_rfl)) ?_;refine C7 (C0 Tryz.underlying143 (by kernel_rfl)) ?_;refine C7 (C0 Tryz.underlying5 (by kernel_rfl)) ?_;refine C7 (C0 Tryz.underlying27 (by kernel_rfl)) ?_;refine C7 (C0 Tryz.underlying52 (by kernel_rfl)) ?_;refine C7 (C0 Tryz.underlying60 (by kernel_rfl)) ?_;refine C7 (C0 Tryz.underlying347 (by kernel_rfl)) ?_;refine C7 (C0 Tryz.underlying64 (by kernel_rfl)) ?_;refine C7 (C0 Tryz.underlying33 (by kernel_rfl)) ?_;refine C7 (C0 Tryz.underlying180 (by kernel_rfl)) ?_;refine C7 (C0 Tryz.underlying141 (by kernel_rfl)) ?_;refine C7 (C0 Tryz.underlying67 (by kernel_rfl)) ?_;refine C7 (C0 Tryz.underlying28 (by kernel_rfl)) ?_;refine C7 (C0 Tryz.underlying66 (by kernel_rfl)) ?_;refine C7 (C0 Tryz.underlying191 (by kernel_rfl)) ?_;refine C7 (C0 Tryz.underlying29 (by kernel_rfl)) ?_;refine C7 (C0 Tryz.underlying139 (by kernel_rfl)) ?_;refine C7 (C0 Tryz.underlying22 (by kernel_rfl)) ?_;refine C7 (C0 Tryz.underlying4 (by kernel_rfl)) ?_;refine C7 (C0 Tryz.underlying298 (by kernel_rfl)) ?_;refine C7 (C0 Tryz.underlying25 (by kernel_rfl)) ?_;refine C7 (C0 Tryz.underlying31 (by kernel_rfl)) ?_;refine C7 (C0 Tryz.underlying186 (by kernel_rfl)) ?_;refine C7 (C0 Tryz.underlying239 (by kernel_rfl)) ?_;refine C7 (C0 Tryz.underlying314 (by kernel_rfl)) ?_;refine C7 (C0 Tryz.underlying312 (by kernel_rfl)) ?_
 refine C7 (C0 Tryz.underlying105 (by kernel_rfl)) ?_;refine C7 (C0 Tryz.underlying296 (by kernel_rfl)) ?_;refine C7 (C0 Tryz.underlying70 (by kernel_rfl)) ?_;refine C7 (C0 Tryz.underlying289 (by kernel_rfl)) ?_;refine C7 (C0 Tryz.underlying155 (by kernel_rfl)) ?_;refine C7 (C0 Tryz.underlying137 (by kernel_rfl)) ?_;refine C7 (C0 Tryz.underlying316 (by kernel_rfl)) ?_;refine C7 (C0 Tryz.underlying46 (by kernel_rfl)) ?_;refine C7 (C0 Tryz.underlying44 (by kernel_rfl)) ?_;refine C7 (C0 Tryz.underlying56 (by kernel_rfl)) ?_;refine C7 (C0 Tryz.underlying117 (by kernel_rfl)) ?_;refine C7 (C0 Tryz.underlying120 (by kernel_rfl)) ?_;refine C7 (C0 Tryz.underlying118 (by kernel_rfl)) ?_;refine C7 (C0 Tryz.underlying86 (by kernel_rfl)) ?_;refine C7 (C0 Tryz.underlying173 (by kernel_rfl)) ?_;refine C7 (C0 Tryz.underlying171 (by kernel_rfl)) ?_;refine C7 (C0 Tryz.underlying132 (by kernel_rfl)) ?_;refine C7 (C0 Tryz.underlying177 (by kernel_rfl)) ?_;refine C7 (C0 Tryz.underlying226 (by kernel_rfl)) ?_;refine C7 (C0 Tryz.underlying230 (by kernel_rfl)) ?_;refine C7 (C0 Tryz.underlying231 (by kernel_rfl)) ?_;refine C7 (C0 Tryz.underlying286 (by kernel_rfl)) ?_;refine C7 (C0 Tryz.underlying293 (by kernel_rfl)) ?_;refine C7 (C0 Tryz.underlying291 (by kernel_rfl)) ?_;refine C7 (C0 Tryz.underlying343 (by kernel_rfl)) ?_;exact fun p hp=>by cases hp
end Go.Proofs.YtckdkhhpjnefpaaGreatDoor
theorem zi{α:Type}(l:List α)(k:Nat)(h:k<l.length):∃y,l[k]?=some y:=⟨_,E9v h⟩
namespace Go.Proofs.YtckdkhhpjnefpaaGreatDoor
open Go Go.Eng
class Nx(G:Prop)(H:outParam Prop):Prop where
 out:H→G
theorem zn{G H:Prop}[i:Nx G H](h:H):G:=i.out h
section
variable{all:List Oper}{n:Nat}{r:List Oper}{f:Fr}{i:Imm}{L:SH}{K:Fr→Imm→SH→Prop}{k:Fr→Prop}{Q:Ex→Fr→Imm→SH→Prop}{next:Fr→Imm→SH→Prop}{x y:Code}{id j:Nat}{dst:Option Nat}{op:Op}{ty:TypeId}{pos:String}{B4:Array Edge}{gd:Option (Nat×Bool)}{v:Value}
instance{P:Program}:Nx (RS P all n [] f i L K) (K f i L):=⟨E4g⟩
instance{P:Program}:Nx (QS P all n [] f i L k) (k f):=⟨QS.nil⟩
instance:Nx (Q5 next Q .normal f i L) (next f i L):=⟨A5k⟩
instance:Nx (Q5 next Q .ret f i L) (Q .ret f i L):=⟨B1z⟩
instance:Nx (Q5 next Q (.exit j) f i L) (Q (.exit j) f i L):=⟨A9e⟩
instance:Nx (A6f id next Q .normal f i L) (next f i L):=⟨B4d⟩
instance:Nx (A6f id next Q .ret f i L) (Q .ret f i L):=⟨C9n⟩
instance:Nx (A6f id next Q (.exit id) f i L) (next f i L):=⟨C1u⟩
instance:Nx (A6k K .ret f i L) (K f i L):=⟨E5e⟩
instance{P:Program}:Nx (CS P n (.seq x y) f i L Q) (CS P n x f i L (Q5 (fun f' i' L'=>CS P n y f' i' L' Q) Q)):=⟨E4u⟩
instance{P:Program}:Nx (CS P n (.block id x) f i L Q) (CS P n x f i L (A6f id (fun f' i' L'=>Q .normal f' i' L') Q)):=⟨E8t⟩
instance{P:Program}:Nx (CS P n .skip f i L Q) (Q .normal f i L):=⟨D7z⟩
instance{P:Program}:Nx (CS P n .ret f i L Q) (Q .ret f i L):=⟨E4v⟩
instance{P:Program}:Nx (CS P n (.exit id) f i L Q) (Q (.exit id) f i L):=⟨D8a⟩
instance{R:Fr→Prop}{H:Prop}[h:Nx (R f) H]:Nx (kq [] f i R) H:=⟨fun x=>h.out x⟩
theorem zr(id:Nat){P:Program}{ops:List Oper}(h:RS P ops n ops f i L fun f' i' L'=>Q .normal f' i' L'):CS P n (.region id ops.toArray false) f i L Q:=A3 h
def lnE(n:Nat)(f:Fr):Op→Option Value
 | .call ⟨.builtin .len,args,ts⟩=>match args.toList,ts.toList with
   |[x],[t]=>match ev n f x with
    | .slice _ l _=>bif R5 tab A1e t then some (.int .i64 l) else none
    | .string s=>bif R5 tab P1 t then some (.int .i64 s.size) else none
    |_=>none
   |_,_=>none
 |_=>none
theorem lnE_ok{P:Program}(hT:tab.ok P)(e:lnE n f op=some v):PV P n f ⟨dst,op,ty,pos,B4,gd⟩ v:=by
 unfold lnE at e
 split at e
 ·rename_i args ts
  split at e
  ·rename_i x t h1 h2
   obtain rfl:args=#[x]:=by cases args;simp_all
   obtain rfl:ts=#[t]:=by cases ts;simp_all
   split at e
   ·rename_i h
    cases ht:R5 tab A1e t with
    |true=>rw[ht] at e;cases e;exact C4k hT ht h
    |false=>rw[ht] at e;cases e
   ·rename_i h
    cases ht:R5 tab P1 t with
    |true=>rw[ht] at e;cases e;exact D7n hT ht h
    |false=>rw[ht] at e;cases e
   ·cases e
  ·cases e
 ·cases e
def zE(n:Nat)(f:Fr)(all:List Oper)(o:Oper):Option Value:=bif P9 n f all o then(match pvE tab n f o.op with|some v=>some v|none=>lnE n f o.op) else some undef
theorem E3e(e:zE n f all ⟨dst,op,ty,pos,B4,gd⟩=some v):(P9 n f all ⟨dst,op,ty,pos,B4,gd⟩=true∧PV E9c n f ⟨dst,op,ty,pos,B4,gd⟩ v)∨(P9 n f all ⟨dst,op,ty,pos,B4,gd⟩=false∧v=undef):=by
 unfold zE at e
 cases hg:P9 n f all ⟨dst,op,ty,pos,B4,gd⟩ with
 |true=>
  rw[hg,cond_true] at e
  refine .inl ⟨rfl,?_⟩
  split at e
  ·rename_i h;cases e;exact S6 A1 h
  ·exact lnE_ok A1 e
 |false=>rw[hg] at e;cases e;exact .inr ⟨rfl,rfl⟩
theorem zp(e:zE n f all ⟨dst,op,ty,pos,B4,gd⟩=some v)(h:RS E9c all n r (F3 f dst v) i L K):RS E9c all n (⟨dst,op,ty,pos,B4,gd⟩::r) f i L K:=by
 rcases E3e e with⟨hg,hv⟩|⟨hg,rfl⟩
 ·exact A6 hv hg h
 ·exact D7f hg h
theorem zq(e:zE n f all ⟨dst,op,ty,pos,B4,gd⟩=some v)(h:QS E9c all n r (F3 f dst v) i L k):QS E9c all n (⟨dst,op,ty,pos,B4,gd⟩::r) f i L k:=by
 rcases E3e e with⟨hg,hv⟩|⟨hg,rfl⟩
 ·exact D3 hv hg h
 ·exact QS.skip hg h
theorem zg{i0:Imm}{Inv:SH→Prop}{lc r:List Nat}{Kont:Kap→Stage→Prop}{F:List (Nat×(Imm→Value→Prop))}{k q:Nat}{M:Stage}(ho:all[k]?=some ⟨dst,op,ty,pos,B4,gd⟩)(hc:(A5x ⟨dst,op,ty,pos,B4,gd⟩&&(A4w F (Oper.looksAt all.toArray ⟨dst,op,ty,pos,B4,gd⟩)&&(A7u F dst&& !(lc.contains k))))=true)(e:zE n f all ⟨dst,op,ty,pos,B4,gd⟩=some v)(h:GM E9c all n i0 Inv lc Kont r (F3 f dst v) F q M):GM E9c all n i0 Inv lc Kont (k::r) f F q M:=by
 simp only[E9j,Bool.not_eq_true'] at hc
 obtain⟨h1,h2,h3,h4⟩:=hc
 rcases E3e e with⟨hg,hv⟩|⟨hg,rfl⟩
 ·exact E7 hv ho h1 h2 h3 hg h4 h
 ·exact GM.skip ho h2 h3 hg h4 h
theorem zo(k:Nat){t t':TypeId}{x:Operand}{b off:Nat}{cs:List Value}{fz:Nat×Nat}(hx:ev n f x=.pointer (some ⟨b,off,none⟩))(hb:L[k]?=some (b,.cells cs.toArray t' fz))(hv:ldV tab t off cs=some v)(hg:P9 n f all ⟨dst,.load t x,ty,pos,B4,gd⟩=true)(h:RS E9c all n r (F3 f dst v) i L K):RS E9c all n (⟨dst,.load t x,ty,pos,B4,gd⟩::r) f i L K:=D4 (B0 A1 hx (Has.own k hb) hv) hg h
theorem zd{t t2:TypeId}{x y:Operand}{a b:Int}(hx:ev n f x=.int .i64 a)(hy:ev n f y=.int .i64 b)(h0: -9223372036854775808≤a+b∧a+b≤9223372036854775807)(hg:P9 n f all ⟨dst,.binOp .add t x y t2,ty,pos,B4,gd⟩=true)(h:RS E9c all n r (F3 f dst (.int .i64 (a+b))) i L K):RS E9c all n (⟨dst,.binOp .add t x y t2,ty,pos,B4,gd⟩::r) f i L K:=A6 (A3n hx hy h0) hg h
theorem zt{t t2:TypeId}{x y:Operand}{a b:Int}{k:IntKind}(hx:ev n f x=.int k a)(hy:ev n f y=.int k b)(h0:a<b)(hg:P9 n f all ⟨dst,.binOp .lss t x y t2,ty,pos,B4,gd⟩=true)(h:RS E9c all n r (F3 f dst (.bool true)) i L K):RS E9c all n (⟨dst,.binOp .lss t x y t2,ty,pos,B4,gd⟩::r) f i L K:=A6 (Y5 hx hy h0) hg h
theorem zf{t t2:TypeId}{x y:Operand}{a b:Int}{k:IntKind}(hx:ev n f x=.int k a)(hy:ev n f y=.int k b)(h0:b≤a)(hg:P9 n f all ⟨dst,.binOp .lss t x y t2,ty,pos,B4,gd⟩=true)(h:RS E9c all n r (F3 f dst (.bool false)) i L K):RS E9c all n (⟨dst,.binOp .lss t x y t2,ty,pos,B4,gd⟩::r) f i L K:=A6 (A0j hx hy h0) hg h
theorem zx{t sz:Nat}{x y:Operand}{b o l c:Nat}{j:Int}{k:IntKind}(hx:ev n f x=.slice (some ⟨b,o,none⟩) l c)(hy:ev n f y=.int k j)(hs:A3v tab t=some sz)(h0:0≤j∧j<l)(hg:P9 n f all ⟨dst,.indexAddr t x y,ty,pos,B4,gd⟩=true)(h:RS E9c all n r (F3 f dst (.pointer (some ⟨b,o+j.toNat*sz,none⟩))) i L K):RS E9c all n (⟨dst,.indexAddr t x y,ty,pos,B4,gd⟩::r) f i L K:=A6 (A9 A1 hx hy hs h0) hg h
theorem zs(S:List Nat){P:Program}{ops:List Oper}(_:S.contains id=true)(h:RS P ops n ops f i L fun f' i' L'=>Q .normal f' i' L'):CS P n (.region id ops.toArray false) f i L Q:=A3 h
theorem zw(k:Nat){t t':TypeId}{x y:Operand}{b off:Nat}{cs:List Value}{L':SH}(hg:P9 n f all ⟨dst,.store t x y,ty,pos,B4,gd⟩=true)(hx:ev n f x=.pointer (some ⟨b,off,none⟩))(hk:L[k]?=some (b,.cells cs.toArray t' (0,0)))
 (hp:((M5 (ev n f y)).bind fun vs=>bif R8 tab t vs then(U9 cs off vs).bind fun cs'=>B9u L k (b,.cells cs'.toArray t' (0,0)) else none)=some L') (h:RS E9c all n r (F3 f dst undef) i L' K):RS E9c all n (⟨dst,.store t x y,ty,pos,B4,gd⟩::r) f i L K:=by
 cases hc:M5 (ev n f y) with
 |none=>rw[hc] at hp;cases hp
 |some vs=>
  rw[hc,Option.bind_some] at hp
  cases ho:R8 tab t vs with
  |false=>rw[ho] at hp;cases hp
  |true=>
   rw[ho,cond_true] at hp
   cases hq:U9 cs off vs with
   |none=>rw[hq] at hp;cases hp
   |some cs'=>rw[hq,Option.bind_some] at hp;exact B7z A1 hg hx rfl hc hk ho hq hp h
theorem zm{t t' b off:Nat}{x:Operand}{cs:List Value}{fz:Nat×Nat}(hb:i.blk b=some (.cells cs.toArray t' fz))(hv:cs[off]?=some v)(hx:ev n f x=.pointer (some ⟨b,off,none⟩))(ht:R5 tab (fun d=> !K4 d) t=true)(hg:P9 n f all ⟨dst,.load t x,ty,pos,B4,gd⟩=true)(h:RS E9c all n r (F3 f dst v) i L K):RS E9c all n (⟨dst,.load t x,ty,pos,B4,gd⟩::r) f i L K:=D4 (B2 A1 hx (Has.imm hb) ht hv) hg h
end
def nth(sz:Nat)(cs:List Value)(k:Nat):List Value:=(cs.drop (k*sz)).take sz
theorem C3p{sz n k:Nat}{cs:List Value}(h:cs.length=n*sz)(hk:k<n):(nth sz cs k).length=sz:=by
 have:=Nat.mul_le_mul_right sz (show k+1≤n from hk)
 rw[F1f] at this;simp[nth];omega
theorem C8t{sz n:Nat}{cs l:List Value}(h:cs.length=n*sz)(hl:l.length=sz):nth sz (cs++l) n=l:=by
 unfold nth;rw[List.drop_append_of_le_length (by omega),←h,List.drop_length,List.nil_append,←hl,List.take_length]
theorem A7c{sz n k:Nat}{cs l:List Value}(h:cs.length=n*sz)(hk:k<n):nth sz (cs++l) k=nth sz cs k:=by
 have:=Nat.mul_le_mul_right sz (show k+1≤n from hk)
 rw[F1f] at this;unfold nth;rw[List.drop_append_of_le_length (by omega),List.take_append_of_le_length (by simp;omega)]
def All(R:List Value→Prop)(sz n:Nat)(cs:List Value):Prop:=∀k,k<n→R (nth sz cs k)
theorem All.snoc{R:List Value→Prop}{sz n:Nat}{cs l:List Value}(h:All R sz n cs)(hc:cs.length=n*sz)(hl:l.length=sz)(hr:R l):All R sz (n+1) (cs++l):=by
 intro k hk;by_cases e:k=n
 ·subst e;rw[C8t hc hl];exact hr
 ·rw[A7c hc (by omega)];exact h k (by omega)
theorem Sl.nth{i:Imm}{v:Value}{sz n:Nat}{cs:List Value}(h:Sl i v sz n cs){k:Nat}(hk:k<n)(hsz:0<sz):
 ∃b o c2 t fz cap,v=.slice (some ⟨b,o,none⟩) n cap∧i.blk b=some (.cells (E9d c2) t fz)∧(nth sz cs k).length=sz∧∀d u,(nth sz cs k)[d]?=some u→c2[o+((k:Nat):Int).toNat*sz+d]?=some u:=by
 obtain⟨b,o,c2,t,fz,cap,h1,h2,h3⟩:=h.at hk hsz;obtain⟨_,_,_,hl,_⟩:=h;refine⟨b,o,c2,t,fz,cap,h1,h2,C3p hl hk,fun d u hd=>?_⟩;have hd2:d<sz:=by have:=(E9e.1 hd).1;rw[C3p hl hk] at this;exact this
 rw[h3 d hd2];unfold Go.Proofs.YtckdkhhpjnefpaaGreatDoor.nth at hd;rw[List.getElem?_take_of_lt hd2,F1e] at hd;exact hd
end Go.Proofs.YtckdkhhpjnefpaaGreatDoor
namespace Glob
structure El where
 star:Bool
 set:Nat→Bool
inductive Mt:List El→List Nat→Prop
 |nil:Mt [] []
 |one {e l c s}:e.star=false→e.set c=true→Mt l s→Mt (e::l) (c::s)
 |skip {e l s}:e.star=true→Mt l s→Mt (e::l) s
 |eat {e l c s}:e.star=true→Mt (e::l) s→Mt (e::l) (c::s)
theorem A0d{s:List Nat}:Mt [] s↔s=[]:=by
 constructor
 ·intro h;cases h;rfl
 ·rintro rfl;exact .nil
theorem O6{e:El}{l:List El}{s:List Nat}(he:e.star=false):Mt (e::l) s↔∃c r,s=c::r∧e.set c=true∧Mt l r:=by
 constructor
 ·intro h;cases h with
  |one h1 h2 h3=>exact⟨_,_,rfl,h2,h3⟩
  |skip h1 _=>rw[he] at h1;cases h1
  |eat h1 _=>rw[he] at h1;cases h1
 ·rintro⟨c,r,rfl,h2,h3⟩;exact .one he h2 h3
theorem N3{e:El}{l:List El}{s:List Nat}(he:e.star=true):Mt (e::l) s↔∃k,k≤s.length∧Mt l (s.drop k):=by
 constructor
 ·intro h;induction s with
  |nil=>
   cases h with
   |skip _ h2=>exact⟨0,E9q _,h2⟩
  |cons c s ih=>
   cases h with
   |one h1 _ _=>rw[he] at h1;cases h1
   |skip _ h2=>exact⟨0,E9k _,h2⟩
   |eat _ h2=>
    obtain⟨k,h3,h4⟩:=ih h2;exact⟨k+1,by simp;omega,by simpa using h4⟩
 ·rintro⟨k,hk,h⟩
  induction k generalizing s with
  |zero=>exact .skip he (by simpa using h)
  |succ k ih=>
   cases s with
   |nil=>simp at hk
   |cons c s=>exact .eat he (ih (s:=s) (by simp at hk;omega) (by simpa using h))
theorem D7v{a b:List El}{s:List Nat}(ha:∀e∈a,e.star=false)(h:Mt (a++b) s):a.length≤s.length∧Mt b (s.drop a.length):=by
 induction a generalizing s with
 |nil=>exact⟨E9k _,by simpa using h⟩
 |cons e a ih=>
  rw[List.cons_append,O6 (ha e (F0g ..))] at h;obtain⟨c,r,rfl,_,h3⟩:=h;obtain⟨h4,h5⟩:=ih (fun e' he'=>ha e' (E9u _ he')) h3;exact⟨by simp;omega,by simpa using h5⟩
def E3q(l:List El)(s:List Nat)(star:Option Nat)(frm:Nat):Prop:=match star with
 |none=>False
 |some p=>∃k,frm<k∧k≤s.length∧Mt (l.drop (p+1)) (s.drop k)
structure Inv(l:List El)(s:List Nat)(at_:Nat)(star:Option Nat)(frm i:Nat):Prop where
 ah:at_≤l.length
 ih:i≤s.length
 iff:Mt l s↔Mt (l.drop at_) (s.drop i)∨E3q l s star frm
 sv:∀p,star=some p→p+1≤at_∧frm≤i∧i-frm=at_-(p+1)∧(∃e,l[p]?=some e∧e.star=true)∧∀e∈(l.drop (p+1)).take (at_-(p+1)),e.star=false
theorem Inv.start(l:List El)(s:List Nat):Inv l s 0 none 0 0:=
 ⟨E9k _,E9k _,by simp[E3q],fun p h=>by cases h⟩
theorem drop_cons{α:Type}{l:List α}{k:Nat}{a:α}(h:l[k]?=some a):l.drop k=a::l.drop (k+1):=by
 obtain⟨hk,rfl⟩:=E9e.1 h;exact List.drop_eq_getElem_cons hk
theorem Inv.star{l:List El}{s:List Nat}{at_:Nat}{star:Option Nat}{frm i:Nat}{e:El}(h:Inv l s at_ star frm i)(he:l[at_]?=some e)(hs:e.star=true):Inv l s (at_+1) (some at_) i i:=by
 have hlt:=(E9e.1 he).1;have hd:=drop_cons he;refine⟨hlt,h.ih,?_,fun p hp=>?_⟩
 ·rw[h.iff,hd,N3 hs]
  have key:(∃k,k≤(s.drop i).length∧Mt (l.drop (at_+1)) ((s.drop i).drop k))↔Mt (l.drop (at_+1)) (s.drop i)∨E3q l s (some at_) i:=by
   constructor
   ·rintro⟨k,hk,hm⟩
    rw[F1u] at hm;rcases Nat.eq_zero_or_pos k with rfl|hp
    ·exact .inl (by simpa using hm)
    ·exact .inr ⟨i+k,by omega,by simp at hk;omega,hm⟩
   ·rintro(hm|⟨k,h1,h2,hm⟩)
    ·exact⟨0,E9k _,by simpa using hm⟩
    ·exact⟨k-i,by simp;omega,by rw[F1u,show i+(k-i)=k by omega];exact hm⟩
  constructor
  ·rintro(hm|hm)
   ·exact key.1 hm
   ·refine key.1 ?_;cases star with
    |none=>exact hm.elim
    |some p=>
     obtain⟨k,h1,h2,hm⟩:=hm;obtain⟨h3,h4,h5,_,h6⟩:=h.sv p rfl
     have hsplit:l.drop (p+1)=(l.drop (p+1)).take (at_-(p+1))++l.drop at_:=by
      have:=(List.take_append_drop (at_-(p+1)) (l.drop (p+1))).symm
      rwa [F1u,show p+1+(at_-(p+1))=at_ by omega] at this
     rw[hsplit] at hm;obtain⟨h7,h8⟩:=D7v h6 hm;have hlen:((l.drop (p+1)).take (at_-(p+1))).length=at_-(p+1):=by simp;omega
     rw[hlen] at h7 h8;rw[hd,F1u,N3 hs] at h8;obtain⟨k',h9,h10⟩:=h8;simp at h7 h9;refine⟨k+(at_-(p+1))+k'-i,by simp;omega,?_⟩;rw[F1u] at h10⊢;rw[show i+(k+(at_-(p+1))+k'-i)=k+(at_-(p+1))+k' by omega];exact h10
  ·intro hm;exact .inl (key.2 hm)
 ·cases hp;exact⟨E9q _,E9q _,by omega,⟨e,he,hs⟩,by simp⟩
theorem Inv.lit{l:List El}{s:List Nat}{at_:Nat}{star:Option Nat}{frm i:Nat}{e:El}{c:Nat}(h:Inv l s at_ star frm i)(he:l[at_]?=some e)(hs:e.star=false)(hc:s[i]?=some c)(hm:e.set c=true):Inv l s (at_+1) star frm (i+1):=by
 have hlt:=(E9e.1 he).1;have hlt':=(E9e.1 hc).1;refine⟨hlt,hlt',?_,fun p hp=>?_⟩
 ·rw[h.iff,drop_cons he,drop_cons hc,O6 hs];constructor
  ·rintro(⟨c',r,h1,_,h3⟩|hr)
   ·cases h1;exact .inl h3
   ·exact .inr hr
  ·rintro(h3|hr)
   ·exact .inl ⟨c,_,rfl,hm,h3⟩
   ·exact .inr hr
 ·obtain⟨h1,h2,h3,h4,h5⟩:=h.sv p hp;refine⟨by omega,by omega,by omega,h4,fun e' he'=>?_⟩;rw[show at_+1-(p+1)=(at_-(p+1))+1 by omega,List.take_add_one] at he';rcases E9r.1 he' with he'|he'
  ·exact h5 e' he'
  ·rw[F1e,show p+1+(at_-(p+1))=at_ by omega,he] at he';simp at he';rw[he'];exact hs
theorem Inv.back{l:List El}{s:List Nat}{at_ p frm i:Nat}(h:Inv l s at_ (some p) frm i)(hi:i<s.length)(hf:¬Mt (l.drop at_) (s.drop i)):Inv l s (p+1) (some p) (frm+1) (frm+1):=by
 obtain⟨h1,h2,h3,h4,h5⟩:=h.sv p rfl;have hah:=h.ah;refine⟨by omega,by omega,?_,fun q hq=>?_⟩
 ·rw[h.iff];constructor
  ·rintro(hm|⟨k,h6,h7,hm⟩)
   ·exact absurd hm hf
   ·rcases Nat.lt_or_ge (frm+1) k with h8|h8
    ·exact .inr ⟨k,h8,h7,hm⟩
    ·obtain rfl:k=frm+1:=by omega
     exact .inl hm
  ·rintro(hm|⟨k,h6,h7,hm⟩)
   ·exact .inr ⟨frm+1,by omega,by omega,hm⟩
   ·exact .inr ⟨k,by omega,h7,hm⟩
 ·cases hq;exact⟨E9q _,E9q _,by omega,h4,by simp⟩
theorem Inv.none{l:List El}{s:List Nat}{at_ frm i:Nat}(h:Inv l s at_ none frm i)(hf:¬Mt (l.drop at_) (s.drop i)):¬Mt l s:=by
 rw[h.iff];rintro(hm|hm)
 ·exact hf hm
 ·exact hm
theorem fail_end{l:List El}{s:List Nat}{at_ i:Nat}(ha:l.length≤at_)(hi:i<s.length):¬Mt (l.drop at_) (s.drop i):=by
 rw[List.drop_eq_nil_of_le ha,A0d];intro h;have:=congrArg List.length h;simp at this;omega
theorem fail_lit{l:List El}{s:List Nat}{at_ i:Nat}{e:El}{c:Nat}(he:l[at_]?=some e)(hs:e.star=false)(hc:s[i]?=some c)(hm:e.set c=false):¬Mt (l.drop at_) (s.drop i):=by
 rw[drop_cons he,drop_cons hc,O6 hs]
 rintro⟨c',r,h1,h2,_⟩
 cases h1;rw[hm] at h2;cases h2
theorem Inv.fin{l:List El}{s:List Nat}{at_:Nat}{star:Option Nat}{frm:Nat}(h:Inv l s at_ star frm s.length):Mt l s↔∀e∈l.drop at_,e.star=true:=by
 rw[h.iff]
 have h0:∀a:List El,Mt a []↔∀e∈a,e.star=true:=by
  intro a;induction a with
  |nil=>simp[A0d]
  |cons e a ih=>
   cases he:e.star with
   |true=>
    rw[N3 he];simp only[List.length_nil,Nat.le_zero,List.drop_nil,exists_eq_left,ih,F0b,forall_eq_or_imp,he,true_and]
   |false=>
    rw[O6 he];simp[he]
 rw[List.drop_length,h0];constructor
 ·rintro(hm|hm)
  ·exact hm
  ·exfalso;cases star with
   |none=>exact hm
   |some p=>
    obtain⟨k,h1,h2,hm⟩:=hm;obtain⟨h3,h4,h5,_,h6⟩:=h.sv p rfl
    have hsplit:l.drop (p+1)=(l.drop (p+1)).take (at_-(p+1))++l.drop at_:=by
     have:=(List.take_append_drop (at_-(p+1)) (l.drop (p+1))).symm
     rwa [F1u,show p+1+(at_-(p+1))=at_ by omega] at this
    rw[hsplit] at hm;obtain⟨h7,_⟩:=D7v h6 hm
    have:=h.ah
    simp at h7;omega
 ·exact .inl
theorem B4k{a:List El}{e:El}:Mt (a++[e]) []↔e.star=true∧Mt a []:=by
 induction a with
 |nil=>
  cases he:e.star with
  |true=>rw[List.nil_append,N3 he];simp
  |false=>rw[List.nil_append,O6 he];simp
 |cons x a ih=>
  rw[List.cons_append];cases hx:x.star with
  |true=>rw[N3 hx,N3 hx];simp[ih]
  |false=>rw[O6 hx,O6 hx];simp
theorem Mt.app{a b:List El}{s:List Nat}:Mt (a++b) s↔∃k,k≤s.length∧Mt a (s.take k)∧Mt b (s.drop k):=by
 induction a generalizing s with
 |nil=>
  simp only[List.nil_append,A0d];constructor
  ·intro h;exact⟨0,E9k _,by simp,by simpa using h⟩
  ·rintro⟨k,h1,h2,h3⟩
   have:k=0:=by
    have:=congrArg List.length h2
    simp at this;rcases this with h|h
    ·exact h
    ·subst h;simpa using h1
   subst this;simpa using h3
 |cons x a ih=>
  rw[List.cons_append];cases hx:x.star with
  |true=>
   rw[N3 hx];constructor
   ·rintro⟨j,h1,h2⟩
    obtain⟨k,h3,h4,h5⟩:=ih.1 h2;simp at h3;refine⟨j+k,by omega,?_,by rwa [F1u] at h5⟩;rw[N3 hx];refine⟨j,by simp;omega,?_⟩;rw[List.drop_take,show j+k-j=k by omega];exact h4
   ·rintro⟨k,h1,h2,h3⟩
    rw[N3 hx] at h2;obtain⟨j,h4,h5⟩:=h2;simp at h4;refine⟨j,by omega,ih.2 ⟨k-j,by simp;omega,?_,?_⟩⟩
    ·rw[List.drop_take] at h5;exact h5
    ·rw[F1u,show j+(k-j)=k by omega];exact h3
  |false=>
   rw[O6 hx];constructor
   ·rintro⟨c,r,rfl,h1,h2⟩
    obtain⟨k,h3,h4,h5⟩:=ih.1 h2;exact⟨k+1,by simp;omega,by simpa using Mt.one hx h1 h4,by simpa using h5⟩
   ·rintro⟨k,h1,h2,h3⟩
    rw[O6 hx] at h2;obtain⟨c,r,h4,h5,h6⟩:=h2;cases s with
    |nil=>simp at h4
    |cons d s=>
     cases k with
     |zero=>simp at h4
     |succ k=>
      simp only[List.take_succ_cons,List.cons.injEq] at h4;obtain⟨rfl,rfl⟩:=h4;exact⟨_,s,rfl,h5,ih.2 ⟨k,by simpa using h1,h6,by simpa using h3⟩⟩
theorem Mt.snoc{a:List El}{e:El}{s:List Nat}{c:Nat}:Mt (a++[e]) (s++[c])↔(e.star=true∧(Mt a (s++[c])∨Mt (a++[e]) s))∨(e.star=false∧e.set c=true∧Mt a s):=by
 cases he:e.star with
 |true=>
  have one:∀t:List Nat,Mt [e] t:=fun t=>(N3 he).2 ⟨t.length,E9q _,by rw[List.drop_length];exact .nil⟩
  simp only[true_and,Bool.true_eq_false,false_and,or_false];rw[Mt.app];constructor
  ·rintro⟨k,h1,h2,_⟩
   simp at h1;rcases Nat.lt_or_ge k (s.length+1) with h|h
   ·refine .inr (Mt.app.2 ⟨k,by omega,?_,one _⟩)
    rwa [List.take_append_of_le_length (by omega)] at h2
   ·left
    rwa [List.take_of_length_le (by simp;omega)] at h2
  ·rintro(h|h)
   ·exact⟨s.length+1,by simp,by rw[List.take_of_length_le (by simp)];exact h,one _⟩
   ·obtain⟨k,h1,h2,_⟩:=Mt.app.1 h;exact⟨k,by simp;omega,by rw[List.take_append_of_le_length h1];exact h2,one _⟩
 |false=>
  simp only[Bool.false_eq_true,false_and,true_and,false_or];rw[Mt.app];constructor
  ·rintro⟨k,h1,h2,h3⟩
   rw[O6 he] at h3;obtain⟨d,r,h4,h5,h6⟩:=h3;rw[A0d] at h6;subst h6
   have hk:k=s.length:=by
    have:=congrArg List.length h4
    simp at this h1;omega
   subst hk;simp at h4 h2;subst h4;exact⟨h5,h2⟩
  ·rintro⟨h1,h2⟩
   exact⟨s.length,by simp,by simpa using h2,by simpa using Mt.one he h1 .nil⟩
end Glob
namespace Glob
def B(l:List El)(s:List Nat)(j:Nat):Prop:=Mt (l.take j) s∨∃e,l[j]?=some e∧e.star=true∧Mt (l.take (j+1)) s
theorem Z8{α:Type}{l:List α}{j:Nat}{e:α}(h:l[j]?=some e):l.take (j+1)=l.take j++[e]:=by
 rw[List.take_add_one,h];rfl
theorem B_end(l:List El)(s:List Nat):B l s l.length↔Mt l s:=by
 unfold B;rw[List.take_length,List.getElem?_eq_none (E9q _)];simp
theorem Mt.more{a:List El}{e:El}{s:List Nat}(he:e.star=true)(h:Mt a s):Mt (a++[e]) s:=
 Mt.app.2 ⟨s.length,E9q _,by rwa [List.take_length],by rw[List.drop_length];exact .skip he .nil⟩
theorem B1y{l:List El}{s:List Nat}{j:Nat}{e:El}(he:l[j]?=some e)(hs:e.star=true):B l s j↔Mt (l.take (j+1)) s:=by
 unfold B;constructor
 ·rintro(h|⟨e',h1,_,h3⟩)
  ·rw[Z8 he];exact h.more hs
  ·exact h3
 ·intro h;exact .inr ⟨e,he,hs,h⟩
theorem E3u{l:List El}{s:List Nat}{j:Nat}(hn:∀e,l[j]?=some e→e.star=false):B l s j↔Mt (l.take j) s:=by
 unfold B;constructor
 ·rintro(h|⟨e',h1,h2,_⟩)
  ·exact h
  ·rw[hn e' h1] at h2;cases h2
 ·exact .inl
theorem B_of{l:List El}{s:List Nat}{j:Nat}(h:Mt (l.take j) s):B l s j:=.inl h
theorem B_nil_zero(l:List El):B l [] 0:=.inl (by simpa using Mt.nil)
theorem B_nil_succ{l:List El}{j:Nat}(hj:j<l.length):B l [] (j+1)↔∃e,l[j]?=some e∧e.star=true∧B l [] j:=by
 obtain⟨e,he⟩:=zi l j hj;have h1:Mt (l.take (j+1)) []↔e.star=true∧Mt (l.take j) []:=by rw[Z8 he,B4k]
 have h2:B l [] (j+1)↔Mt (l.take (j+1)) []:=by
  by_cases hn:∀e,l[j+1]?=some e→e.star=false
  ·exact E3u hn
  ·obtain⟨e',he',hs'⟩:∃e',l[j+1]?=some e'∧e'.star=true:=by
    apply Classical.byContradiction;intro hc;refine hn fun e' he'=>?_
    cases hs:e'.star with
    |false=>rfl
    |true=>exact absurd ⟨e',he',hs⟩ hc
   rw[B1y he' hs',Z8 he',B4k];simp[hs']
 rw[h2,h1];constructor
 ·rintro⟨h3,h4⟩;exact⟨e,he,h3,B_of h4⟩
 ·rintro⟨e',he',h3,h4⟩
  rw[he] at he';cases he';rw[B1y he h3,h1] at h4;exact h4
def Nx(l:List El)(s:List Nat)(c j:Nat):Prop:=(∃e,l[j]?=some e∧e.star=true∧B l s j)∨∃q,j=q+1∧∃e,l[q]?=some e∧e.star=false∧e.set c=true∧B l s q
theorem B_snoc{l:List El}{s:List Nat}{c j:Nat}(hj:j≤l.length):B l (s++[c]) j↔Nx l s c j∨∃q,j=q+1∧∃e,l[q]?=some e∧e.star=true∧B l (s++[c]) q:=by
 have hA:Mt (l.take j) (s++[c])∧j≤l.length↔(∃q,j=q+1∧∃e,l[q]?=some e∧e.star=false∧e.set c=true∧B l s q)∨∃q,j=q+1∧∃e,l[q]?=some e∧e.star=true∧B l (s++[c]) q:=by
  cases j with
  |zero=>
   constructor
   ·rintro⟨h,_⟩
    rw[List.take_zero,A0d] at h;simp at h
   ·rintro(⟨q,h,_⟩|⟨q,h,_⟩)<;>omega
  |succ q=>
   constructor
   ·rintro⟨h,hq⟩
    obtain⟨e,he⟩:=zi l q (by omega);cases hs:e.star with
    |true=>exact .inr ⟨q,rfl,e,he,hs,(B1y he hs).2 h⟩
    |false=>
     rw[Z8 he,Mt.snoc,hs] at h;simp at h;exact .inl ⟨q,rfl,e,he,hs,h.1,B_of h.2⟩
   ·rintro(⟨q',h,e,he,hs,hc,hb⟩|⟨q',h,e,he,hs,hb⟩)
    ·obtain rfl:q=q':=by omega
     have hlt:=(E9e.1 he).1;refine⟨?_,hlt⟩;rw[Z8 he,Mt.snoc];rw[E3u (fun e' he'=>by rw[he] at he';cases he';exact hs)] at hb;exact .inr ⟨hs,hc,hb⟩
    ·obtain rfl:q=q':=by omega
     exact⟨(B1y he hs).1 hb,(E9e.1 he).1⟩
 by_cases hn:∀e,l[j]?=some e→e.star=false
 ·rw[E3u hn]
  have:Nx l s c j↔∃q,j=q+1∧∃e,l[q]?=some e∧e.star=false∧e.set c=true∧B l s q:=by
   unfold Nx;constructor
   ·rintro(⟨e,h1,h2,_⟩|h)
    ·rw[hn e h1] at h2;cases h2
    ·exact h
   ·exact .inr
  rw[this,←hA];simp[hj]
 ·obtain⟨e,he,hs⟩:∃e,l[j]?=some e∧e.star=true:=by
   apply Classical.byContradiction;intro hc;refine hn fun e' he'=>?_
   cases hs:e'.star with
   |false=>rfl
   |true=>exact absurd ⟨e',he',hs⟩ hc
  rw[B1y he hs,Z8 he,Mt.snoc,hs];simp only[true_and,Bool.true_eq_false,false_and,or_false];rw[←Z8 he,←B1y (s:=s) he hs];have hA':Mt (l.take j) (s++[c])↔_:=(and_iff_left hj).symm.trans hA;rw[hA'];unfold Nx;constructor
  ·rintro((h|h)|h)
   ·exact .inl (.inr h)
   ·exact .inr h
   ·exact .inl (.inl ⟨e,he,hs,h⟩)
  ·rintro((⟨e',h1,_,h3⟩|h)|h)
   ·exact .inr h3
   ·exact .inl (.inl h)
   ·exact .inl (.inr h)
end Glob
namespace Glob
def bt(p:ByteArray)(k:Nat):Nat:=(p[k]?.map UInt8.toNat).getD 0
def bts(s:ByteArray):List Nat:=s.data.toList.map UInt8.toNat
theorem bts_at(s:ByteArray)(k:Nat):(bts s)[k]?=s[k]?.map UInt8.toNat:=by
 unfold bts;rw[F0k,Array.getElem?_toList];rfl
theorem bts_len(s:ByteArray):(bts s).length=s.size:=by simp[bts]
def upF(f:Nat→Bool)(a b:Nat):Nat→Bool:=fun c=>f c||(decide (a≤c)&&decide (c<b))
theorem upF_nil(f:Nat→Bool)(a:Nat):upF f a a=f:=by
 funext c;unfold upF;by_cases h:a≤c
 ·simp[h,show ¬c<a by omega]
 ·simp[h]
theorem upF_step{f:Nat→Bool}{a b c:Nat}(h:a≤b):upF f a (b+1) c=if c=b then true else upF f a b c:=by
 unfold upF;split
 ·subst c;simp[h]
 ·congr 2;by_cases h1:c<b
  ·simp[h1,show c<b+1 by omega]
  ·simp[h1,show ¬c<b+1 by omega]
def rdS(p:ByteArray)(i:Nat)(f:Nat→Bool):Option (Nat×(Nat→Bool)):=
 if i<p.size then
  if bt p i=93 then some (i,f)
  else if i+2<p.size∧bt p (i+1)=45∧bt p (i+2)≠93 then
   if bt p (i+2)<bt p i then none else rdS p (i+3) (upF f (bt p i) (bt p (i+2)+1))
  else rdS p (i+1) (upF f (bt p i) (bt p i+1))
 else none
termination_by p.size-i
def rdSet(p:ByteArray)(i:Nat):Option (Nat×(Nat→Bool)):=
 let j:=if bt p i=33 then i+1 else i
 if bt p j=93 then none else(rdS p j (fun _=>false)).map fun x=>(x.1,fun c=>x.2 c != decide (bt p i=33))
structure PEl extends El where
 lit:Nat
def pStar:PEl:=⟨⟨true,fun _=>true⟩,0⟩
def pAny:PEl:=⟨⟨false,fun _=>true⟩,0⟩
def pSet(f:Nat→Bool):PEl:=⟨⟨false,f⟩,0⟩
def pLit(b:Nat):PEl:=⟨⟨false,fun c=>decide (c=b)⟩,b⟩
def rdA(p:ByteArray)(k:Nat)(done:List (List PEl))(cur:List PEl):Option (List (List PEl)):=
 if k<p.size then
  if bt p k=124 then rdA p (k+1) (done++[cur]) []
  else if bt p k=42 then rdA p (k+1) done (cur++[pStar])
  else if bt p k=63 then rdA p (k+1) done (cur++[pAny])
  else if bt p k=91 then
   match rdSet p (k+1) with
   |none=>none
   |some (e,f)=>rdA p (k+1+(e-k)) done (cur++[pSet f])
  else rdA p (k+1) done (cur++[pLit (bt p k)])
 else some (done++[cur])
termination_by p.size-k
def Prt(s:ByteArray):Prop:=∀b∈bts s,32≤b∧b≤126
open Classical in
noncomputable def pat(p:ByteArray):Option (List (List PEl)):=if p.size≤256∧Prt p then rdA p 0 [] [] else none
def els(l:List PEl):List El:=l.map PEl.toEl
def Mat(p s:ByteArray):Prop:=Prt s∧∃a,pat p=some a∧∃l∈a,Mt (els l) (bts s)
def PEl.ok(e:PEl):Prop:=e.lit≠0→e.star=false∧∀c,e.set c=true→c=e.lit
theorem rdA_ok{p:ByteArray}{k:Nat}{done:List (List PEl)}{cur:List PEl}{a:List (List PEl)}(h:rdA p k done cur=some a)(h1:∀l∈done,∀e∈l,e.ok)(h2:∀e∈cur,e.ok):∀l∈a,∀e∈l,e.ok:=by
 have snoc:∀{cur:List PEl}{x:PEl},(∀e∈cur,e.ok)→x.ok→∀e∈cur++[x],e.ok:=fun h hx e he=>by
  rcases E9r.1 he with he|he
  ·exact h e he
  ·simp at he;subst he;exact hx
 have hz:∀x:PEl,x.lit=0→x.ok:=fun x hx h=>absurd hx h
 fun_induction rdA p k done cur with
 |case1 k done cur hk hb ih=>
  refine ih h (fun l hl=>?_) (fun e he=>by cases he);rcases E9r.1 hl with hl|hl
  ·exact h1 l hl
  ·simp at hl;subst hl;exact h2
 |case2 k done cur hk hb hb2 ih=>exact ih h h1 (snoc h2 (hz _ rfl))
 |case3 k done cur hk hb hb2 hb3 ih=>exact ih h h1 (snoc h2 (hz _ rfl))
 |case4=>cases h
 |case5 k done cur hk hb hb2 hb3 hb4 e f hr ih=>exact ih h h1 (snoc h2 (hz _ rfl))
 |case6 k done cur hk hb hb2 hb3 hb4 ih=>exact ih h h1 (snoc h2 (fun _=>⟨rfl,fun c hc=>by simpa [pLit] using hc⟩))
 |case7 k done cur hk=>
  cases h;intro l hl;rcases E9r.1 hl with hl|hl
  ·exact h1 l hl
  ·simp at hl;subst hl;exact h2
theorem pat_ok{p:ByteArray}{a:List (List PEl)}(h:pat p=some a):∀l∈a,∀e∈l,e.ok:=by
 unfold pat at h;split at h
 ·exact rdA_ok h (fun l hl=>by cases hl) (fun e he=>by cases he)
 ·cases h
theorem D7u:∀{l:List PEl}{s:List Nat},(∀e∈l,e.ok∧e.lit≠0)→Mt (els l) s→s=l.map (·.lit)
 |[],s,_,h=>A0d.1 h
 |e::l,s,h0,h=>by
  obtain⟨h1,h2⟩:=h0 e (F0g ..);obtain⟨h3,h4⟩:=h1 h2;obtain⟨c,r,rfl,h5,h6⟩:=(O6 (e:=e.toEl) h3).1 h;rw[F0w,h4 c h5,D7u (fun e he=>h0 e (E9u _ he)) h6]
def Lit(p k:ByteArray):Prop:=∃l,pat p=some [l]∧(∀e∈l,e.lit≠0)∧bts k=l.map (·.lit)
theorem bts_inj{a b:ByteArray}(h:bts a=bts b):a=b:=by
 have h1:a.data.toList=b.data.toList:=List.map_inj_right (fun x y h=>UInt8.toNat.inj h) |>.1 h
 cases a;cases b;congr 1;exact Array.toList_inj.1 h1
theorem Lit.only{p k s:ByteArray}(h:Lit p k)(hm:Mat p s):s=k:=by
 obtain⟨l,h1,h2,h3⟩:=h;obtain⟨_,a,h4,l',h5,h6⟩:=hm;rw[h1] at h4;cases h4;simp at h5;subst h5;refine bts_inj ?_;rw[h3];exact D7u (fun e he=>⟨pat_ok h1 _ (F0g ..) e he,h2 e he⟩) h6
end Glob
namespace Clo
structure Dv where
 index:Int
 parent:Int
def find(ds:List Dv)(n:Int):Option Nat:=ds.findIdx? (fun d=>d.index==n)
def chain(ds:List Dv):Nat→Int→List Nat
 |0,_=>[]
 |f+1,n=>match find ds n with
  |none=>[]
  |some p=>p::chain ds f ((ds[p]?.map (·.parent)).getD 0)
structure Ok(ds:List Dv):Prop where
 uniq:∀k d,ds[k]?=some d→find ds d.index=some k
 up:∀k d,ds[k]?=some d→∀p,find ds d.parent=some p→p<k
theorem find_some{ds:List Dv}{n:Int}{p:Nat}(h:find ds n=some p):∃d,ds[p]?=some d∧d.index=n:=by
 unfold find at h;rw[List.findIdx?_eq_some_iff_getElem] at h;obtain⟨hp,h1,_⟩:=h;exact⟨_,E9v hp,by simpa using h1⟩
theorem find_none{ds:List Dv}{n:Int}(h:find ds n=none):∀(k:Nat)(d:Dv),ds[k]?=some d→d.index≠n:=by
 unfold find at h;rw[List.findIdx?_eq_none_iff] at h;intro k d hd
 have:=h d (E9g hd)
 simpa using this
theorem B8w{ds:List Dv}(h:Ok ds):∀(p f g:Nat)(n:Int),find ds n=some p→p<f→p<g→chain ds f n=chain ds g n:=by
 intro p;induction p using Nat.strongRecOn with
 |ind p ih=>
  intro f g n hp hf hg;obtain⟨f,rfl⟩:∃f',f=f'+1:=⟨f-1,by omega⟩;obtain⟨g,rfl⟩:∃g',g=g'+1:=⟨g-1,by omega⟩;obtain⟨d,hd,_⟩:=find_some hp;simp only[chain,hp,hd,F1q,Option.getD_some,List.cons.injEq,true_and];cases hq:find ds d.parent with
  |none=>
   cases f<;>cases g<;>simp[chain,hq]
  |some q=>
   have:=h.up p d hd q hq
   exact ih q this f g _ hq (by omega) (by omega)
def out(ds:List Dv)(inn:Int→Prop):Nat→Prop
 |k=>∃d,ds[k]?=some d∧(inn d.index∨∃m,∃_:m<k,out ds inn m∧∃e,ds[m]?=some e∧e.index=d.parent)
theorem out_iff{ds:List Dv}{inn:Int→Prop}{k:Nat}:out ds inn k↔∃d,ds[k]?=some d∧(inn d.index∨∃m,m<k∧out ds inn m∧∃e,ds[m]?=some e∧e.index=d.parent):=by
 rw[out];constructor
 ·rintro⟨d,h1,h2|⟨m,h3,h4⟩⟩
  ·exact⟨d,h1,.inl h2⟩
  ·exact⟨d,h1,.inr ⟨m,h3,h4⟩⟩
 ·rintro⟨d,h1,h2|⟨m,h3,h4⟩⟩
  ·exact⟨d,h1,.inl h2⟩
  ·exact⟨d,h1,.inr ⟨m,h3,h4⟩⟩
theorem out_chain{ds:List Dv}(h:Ok ds)(inn:Int→Prop):∀(k:Nat)(d:Dv),ds[k]?=some d→(out ds inn k↔inn d.index∨∃q∈(chain ds ds.length d.index).drop 1,∃e,ds[q]?=some e∧inn e.index):=by
 intro k;induction k using Nat.strongRecOn with
 |ind k ih=>
  intro d hd;have hk:=(E9e.1 hd).1;have h0:=h.uniq k d hd;obtain⟨n,hn⟩:∃n,ds.length=n+1:=⟨ds.length-1,by omega⟩
  have hc:(chain ds ds.length d.index).drop 1=chain ds n d.parent:=by
   rw[hn];simp[chain,h0,hd]
  rw[hc,out_iff];constructor
  ·rintro⟨d',hd',h1|⟨m,hm,ho,e,he,hep⟩⟩
   ·rw[hd] at hd';cases hd';exact .inl h1
   ·rw[hd] at hd';cases hd';right;have hf:find ds d.parent=some m:=by rw[←hep];exact h.uniq m e he
    obtain⟨n',hn'⟩:∃n',n=n'+1:=⟨n-1,by omega⟩;have hc2:chain ds n d.parent=m::chain ds n' e.parent:=by rw[hn'];simp[chain,hf,he]
    rw[hc2]
    rcases(ih m hm e he).1 ho with h2|⟨q,hq,e2,he2,hi⟩
    ·exact⟨m,F0g ..,e,he,h2⟩
    ·refine⟨q,E9u _ ?_,e2,he2,hi⟩;have h3:(chain ds ds.length e.index).drop 1=chain ds n e.parent:=by rw[hn];simp[chain,h.uniq m e he,he]
     rw[h3] at hq;cases hq2:find ds e.parent with
     |none=>
      rw[hn'] at hq;simp[chain,hq2] at hq
     |some q2=>
      have:=h.up m e he q2 hq2
      rwa [B8w h q2 n' n _ hq2 (by omega) (by omega)]
  ·rintro(h1|⟨q,hq,e2,he2,hi⟩)
   ·exact⟨d,hd,.inl h1⟩
   ·cases hf:find ds d.parent with
    |none=>cases n<;>simp[chain,hf] at hq
    |some m=>
     have hm:=h.up k d hd m hf;obtain⟨e,he,hei⟩:=find_some hf;obtain⟨n',hn'⟩:∃n',n=n'+1:=⟨n-1,by omega⟩;have hc2:chain ds n d.parent=m::chain ds n' e.parent:=by rw[hn'];simp[chain,hf,he]
     rw[hc2] at hq;refine⟨d,hd,.inr ⟨m,hm,(ih m hm e he).2 ?_,e,he,hei⟩⟩;rcases F0b.1 hq with rfl|hq
     ·rw[he] at he2;cases he2;exact .inl hi
     ·refine .inr ⟨q,?_,e2,he2,hi⟩;have h3:(chain ds ds.length e.index).drop 1=chain ds n e.parent:=by rw[hn];simp[chain,h.uniq m e he,he]
      rw[h3];cases hq2:find ds e.parent with
      |none=>cases n'<;>simp[chain,hq2] at hq
      |some q2=>
       have:=h.up m e he q2 hq2
       rwa [B8w h q2 n n' _ hq2 (by omega) (by omega)]
end Clo
namespace Go.Proofs.YtckdkhhpjnefpaaGreatDoor
open Go Go.Eng
def B4w(R:List Value→Glob.PEl→Prop)(sz:Nat)(cs:List Value)(l:List Glob.PEl):Prop:=cs.length=l.length*sz∧∀k e,l[k]?=some e→R (nth sz cs k) e
def El1(cs:List Value)(e:Glob.PEl):Prop:=cs[0]?=some (.int .u8 (e.lit:Int))∧cs[1]?=some (.bool e.star)∧(e.star=false→∀c,32≤c→c≤126→cs[2+c]?=some (.bool (e.set c)))∧∀c∈cs,c.oneCell'=true
def El2(cs:List Value)(e:Glob.PEl):Prop:=cs[0]?=some (.bool e.star)∧(e.star=false→∀c,32≤c→c≤126→cs[2+c]?=some (.bool (e.set c)))
theorem B4w.nil(R:List Value→Glob.PEl→Prop)(sz:Nat):B4w R sz [] []:=⟨by simp,fun k e h=>by cases h⟩
theorem B4w.snoc{R:List Value→Glob.PEl→Prop}{sz:Nat}{cs x:List Value}{l:List Glob.PEl}{e:Glob.PEl}(h:B4w R sz cs l)(hx:x.length=sz)(hR:R x e):B4w R sz (cs++x) (l++[e]):=by
 refine⟨by simp[h.1,hx,F1f],fun k e' hk=>?_⟩;by_cases hl:k<l.length
 ·rw[A7c h.1 hl];rw[E9t hl] at hk;exact h.2 k e' hk
 ·have hk2:=(E9e.1 hk).1;simp at hk2;obtain rfl:k=l.length:=by omega
  rw[C8t h.1 hx];simp at hk;subst hk;exact hR
theorem B4w.at{R:List Value→Glob.PEl→Prop}{sz k:Nat}{i:Imm}{v:Value}{cs:List Value}{l:List Glob.PEl}{e:Glob.PEl}(h:B4w R sz cs l)(hs:Sl i v sz l.length cs)(hk:l[k]?=some e)(hsz:0<sz):
 ∃b o c2 t z cap,v=.slice (some ⟨b,o,none⟩) l.length cap∧i.blk b=some (.cells (E9d c2) t z)∧R (nth sz cs k) e∧∀d u,(nth sz cs k)[d]?=some u→c2[o+((k:Nat):Int).toNat*sz+d]?=some u:=by
 obtain⟨b,o,c2,t,z,cap,h1,h2,_,h3⟩:=Sl.nth hs (E9e.1 hk).1 hsz;exact⟨b,o,c2,t,z,cap,h1,h2,h.2 k e hk,h3⟩
theorem A4x(l:List Glob.PEl)(k:Nat):(Glob.els l)[k]?=l[k]?.map (·.toEl):=by simp[Glob.els]
theorem B5g(l:List Glob.PEl):(Glob.els l).length=l.length:=by simp[Glob.els]
theorem lex3{A A' B B' C C' N P:Nat}(hB:B'≤N)(hC:C'≤P)(h:A'<A∨A'=A∧(B'<B∨B'=B∧C'<C)):A'*((N+1)*(P+1))+B'*(P+1)+C'<A*((N+1)*(P+1))+B*(P+1)+C:=by
 have h1:B'*(P+1)≤N*(P+1):=Nat.mul_le_mul_right _ hB;have h2:(N+1)*(P+1)=N*(P+1)+(P+1):=by rw[F1f,Nat.one_mul]
 rcases h with h|⟨rfl,h|⟨rfl,h⟩⟩
 ·have h3:=Nat.mul_le_mul_right ((N+1)*(P+1)) (show A'+1≤A from h);rw[F1f,Nat.one_mul] at h3;omega
 ·have h3:=Nat.mul_le_mul_right (P+1) (show B'+1≤B from h);rw[F1f,Nat.one_mul] at h3;omega
 ·omega
def C7x:Option Nat→Int
 |none=> -1
 |some p=>p
def starN:Option Nat→Nat
 |none=>0
 |some p=>p+1
theorem E3p{s:ByteArray}{j:Nat}{b:UInt8}(h:s[j]?=some b):Glob.bt s j=b.toNat:=by unfold Glob.bt;rw[h];rfl
theorem B1u{s:ByteArray}{j:Nat}(hj:j<s.size):(Glob.bts s)[j]?=some (Glob.bt s j):=by
 obtain⟨b,hb⟩:=Go.Eng.byte_at hj;rw[Glob.bts_at,E3p hb,hb];rfl
theorem F8{P:Program}{n:Nat}{f:Fr}{dst:Option Nat}{ty:TypeId}{pos:String}{B4:Array Edge}{gd:Option (Nat×Bool)}{T:F7}(hT:T.ok P){t:Nat}{x y:Operand}{s:ByteArray}{k:IntKind}{j:Nat}(hx:ev n f x=.string s)(hy:ev n f y=.int k (j:Int))(ht:R5 T P1 t=true)(hj:j<s.size):
 PV P n f ⟨dst,.index t x y,ty,pos,B4,gd⟩ (.int .u8 (Glob.bt s j:Int)):=by
 obtain⟨b,hb⟩:=Go.Eng.byte_at hj;rw[E3p hb];exact A4h hT hx hy ht (by omega) (by simpa using hb)
theorem A2d{s:ByteArray}(h:Glob.Prt s){j:Nat}(hj:j<s.size):32≤Glob.bt s j∧Glob.bt s j≤126:=h _ (E9g (B1u hj))
theorem E0h(v:Value)(s:ByteArray)(l:List Glob.PEl)(cs:List Value)(i:Imm)(L:SH)(hs:Sl i v 129 l.length cs)(hl:B4w El1 129 cs l)(hp:Glob.Prt s)(hn:l.length≤1000000)(hz:s.size≤1000000):
 E6 E9c 242 [v,.string s] i L fun r i' L'=>BV (Glob.Mt (Glob.els l) (Glob.bts s)) r∧L'=L:=by
 obtain⟨ao,cap,rfl,_⟩:=id hs;have hbl:=Glob.bts_len s;have hel:=B5g l;refine A5 Tryz.func242 rfl rfl (by simp) rfl ?_;repeat' (first|refine zn ?_|(refine zr 0 ?_;refine zp rfl ?_;refine zn ?_))
 refine zr 1 ?_;iterate 3 refine zp rfl ?_
 refine zn ?_;refine zn ?_;refine K9 [0,1,5] (fun vs i' L'=>∃at_:Nat,vs=[.slice ao l.length cap,.string s,.int .i64 (at_:Int)]∧at_≤l.length∧(Glob.Mt (Glob.els l) (Glob.bts s)↔∀e∈(Glob.els l).drop at_,e.star=true)∧i'=i∧L'=L) ?_ ?_
 ·repeat' (first|refine zn ?_|(refine zr 2 ?_;refine zp rfl ?_;refine zn ?_))
  refine B1 [0,1,5,6,7,8] (fun m vs i' L'=>∃(at_ fr k:Nat)(st:Option Nat),m=(l.length-starN st)*((s.size+1)*(l.length+1))+(s.size-fr)*(l.length+1)+(l.length-at_)∧Glob.Inv (Glob.els l) (Glob.bts s) at_ st fr k∧fr≤s.size∧vs=[.slice ao l.length cap,.string s,.int .i64 (at_:Int),.int .i64 (C7x st),.int .i64 (fr:Int),.int .i64 (k:Int)]∧i'=i∧L'=L) _ ⟨0,0,0,none,rfl,Glob.Inv.start _ _,E9k _,rfl,rfl,rfl⟩ ?_;rintro m g vs i' L' hi ⟨at_,fr,k,st,rfl,hI,hfr,rfl,rfl,rfl⟩;have hat:=hI.ah;have hki:=hI.ih
  have hst:starN st≤at_:=by
   cases st with
   |none=>exact E9k _
   |some p=>exact(hI.sv p rfl).1
  have hfk:∀p,st=some p→fr≤k:=fun p hp=>(hI.sv p hp).2.1
  by_cases hlt:k<s.size
  ·have hcb:=B1u hlt;have hcr:=A2d hp hlt;have hcl:(s.size-fr)≤s.size:=by omega
   by_cases hal:at_<l.length
   ·obtain⟨e,he⟩:=zi l at_ hal;have hee:(Glob.els l)[at_]?=some e.toEl:=by rw[A4x,he];rfl
    obtain⟨b1,o1,c1,t1,z1,p1,e1,g1,⟨_,hst1,hset,_⟩,q1⟩:=hl.at hs he (by omega);cases e1;have q2:=q1 1 _ hst1;cases hse:e.star with
    |true=>
     rw[hse] at q2;repeat' (first|refine zp rfl ?_|refine zn ?_|refine A2 rfl ?_|refine A3 ?_|refine zt rfl rfl (by omega) rfl ?_|refine zx rfl rfl rfl (by omega) rfl ?_|refine zm g1 q2 rfl rfl rfl ?_|refine zd rfl rfl (by omega) rfl ?_)
     exact⟨_,lex3 (by omega) (by omega) (.inl (by show l.length-(at_+1)<_;omega)),at_+1,k,k,some at_,rfl,hI.star hee hse,by omega,rfl,rfl,rfl⟩
    |false=>
     rw[hse] at q2
     have q3:c1[o1+((at_:Nat):Int).toNat*129+2+((Glob.bt s k:Nat):Int).toNat*1]?=some (.bool (e.set (Glob.bt s k))):=by
      have:=q1 (2+Glob.bt s k) _ (hset hse _ hcr.1 hcr.2)
      rw[show o1+((at_:Nat):Int).toNat*129+2+((Glob.bt s k:Nat):Int).toNat*1=o1+((at_:Nat):Int).toNat*129+(2+Glob.bt s k) by omega];exact this
     cases hsc:e.set (Glob.bt s k) with
     |true=>
      rw[hsc] at q3;repeat' (first|refine zp rfl ?_|refine zq rfl ?_|refine zn ?_|refine A2 rfl ?_|refine A0 rfl ?_|refine A3 ?_|refine C8 J9 (by kernel_rfl) ?_|refine zt rfl rfl (by omega) rfl ?_|refine zx rfl rfl rfl (by omega) rfl ?_|refine zm g1 q2 rfl rfl rfl ?_|refine D3 (Y5 rfl rfl (by omega)) rfl ?_|refine D3 (F8 A1 rfl rfl rfl (by omega)) rfl ?_|refine D3 (A9 A1 rfl rfl rfl (by omega)) rfl ?_|refine D3 (G6 A1 rfl rfl rfl (by omega)) rfl ?_|refine F0 (B2 A1 rfl (Has.imm g1) rfl q3) rfl ?_|refine zd rfl rfl (by omega) rfl ?_)
      exact⟨_,lex3 (by omega) (by omega) (.inr ⟨rfl,.inr ⟨rfl,by omega⟩⟩),at_+1,fr,k+1,st,rfl,hI.lit hee hse hcb hsc,hfr,rfl,rfl,rfl⟩
     |false=>
      rw[hsc] at q3;have hf:=Glob.fail_lit hee hse hcb hsc;cases st with
      |none=>
       simp only[C7x];repeat' (first|refine zp rfl ?_|refine zq rfl ?_|refine zn ?_|refine A2 rfl ?_|refine A0 rfl ?_|refine A3 ?_|refine C8 J9 (by kernel_rfl) ?_|refine zt rfl rfl (by omega) rfl ?_|refine zx rfl rfl rfl (by omega) rfl ?_|refine zm g1 q2 rfl rfl rfl ?_|refine D3 (Y5 rfl rfl (by omega)) rfl ?_|refine D3 (F8 A1 rfl rfl rfl (by omega)) rfl ?_|refine D3 (A9 A1 rfl rfl rfl (by omega)) rfl ?_|refine D3 (G6 A1 rfl rfl rfl (by omega)) rfl ?_|refine F0 (B2 A1 rfl (Has.imm g1) rfl q3) rfl ?_|refine A6 (A1p rfl rfl (by omega)) rfl ?_)
       exact⟨BV.no (hI.none hf),rfl⟩
      |some p=>
       have hfk:=hfk p rfl;have hst2:p+1≤at_:=hst;simp only[C7x];repeat' (first|refine zp rfl ?_|refine zq rfl ?_|refine zn ?_|refine A2 rfl ?_|refine A0 rfl ?_|refine A3 ?_|refine C8 J9 (by kernel_rfl) ?_|refine zt rfl rfl (by omega) rfl ?_|refine zx rfl rfl rfl (by omega) rfl ?_|refine zm g1 q2 rfl rfl rfl ?_|refine D3 (Y5 rfl rfl (by omega)) rfl ?_|refine D3 (F8 A1 rfl rfl rfl (by omega)) rfl ?_|refine D3 (A9 A1 rfl rfl rfl (by omega)) rfl ?_|refine D3 (G6 A1 rfl rfl rfl (by omega)) rfl ?_|refine F0 (B2 A1 rfl (Has.imm g1) rfl q3) rfl ?_|refine A6 (A3a rfl rfl (by omega)) rfl ?_|refine zd rfl rfl (by omega) rfl ?_)
       exact⟨_,lex3 (by omega) (by omega) (.inr ⟨rfl,.inl (by omega)⟩),p+1,fr+1,fr+1,some p,rfl,hI.back (by omega) hf,by omega,rfl,rfl,rfl⟩
   ·have hf:=Glob.fail_end (l:=Glob.els l) (s:=Glob.bts s) (at_:=at_) (i:=k) (by omega) (by omega);cases st with
    |none=>
     simp only[C7x];repeat' (first|refine zp rfl ?_|refine zq rfl ?_|refine zn ?_|refine A2 rfl ?_|refine A0 rfl ?_|refine A3 ?_|refine C8 J9 (by kernel_rfl) ?_|refine zt rfl rfl (by omega) rfl ?_|refine zf rfl rfl (by omega) rfl ?_|refine D3 (A0j rfl rfl (by omega)) rfl ?_|refine A6 (A1p rfl rfl (by omega)) rfl ?_)
     exact⟨BV.no (hI.none hf),rfl⟩
    |some p=>
     have hfk:=hfk p rfl;have hst2:p+1≤at_:=hst;simp only[C7x];repeat' (first|refine zp rfl ?_|refine zq rfl ?_|refine zn ?_|refine A2 rfl ?_|refine A0 rfl ?_|refine A3 ?_|refine C8 J9 (by kernel_rfl) ?_|refine zt rfl rfl (by omega) rfl ?_|refine zf rfl rfl (by omega) rfl ?_|refine D3 (A0j rfl rfl (by omega)) rfl ?_|refine A6 (A3a rfl rfl (by omega)) rfl ?_|refine zd rfl rfl (by omega) rfl ?_)
     exact⟨_,lex3 (by omega) (by omega) (.inr ⟨rfl,.inl (by omega)⟩),p+1,fr+1,fr+1,some p,rfl,hI.back (by omega) hf,by omega,rfl,rfl,rfl⟩
  ·obtain rfl:k=s.size:=by omega
   rw[←hbl] at hI;repeat' (first|refine zp rfl ?_|refine zn ?_|refine A0 rfl ?_|refine zr 3 ?_|refine zf rfl rfl (by omega) rfl ?_)
   exact⟨at_,rfl,by omega,hI.fin,rfl,rfl⟩
 rintro g vs i L hi ⟨a0,rfl,ha0,hiff,rfl,rfl⟩;repeat' (first|refine zn ?_|fail)
 refine B1 [0,5] (fun m vs i' L'=>∃at_:Nat,m=l.length-at_∧vs=[.slice ao l.length cap,.int .i64 (at_:Int)]∧at_≤l.length∧(Glob.Mt (Glob.els l) (Glob.bts s)↔∀e∈(Glob.els l).drop at_,e.star=true)∧i'=i∧L'=L) _ ⟨a0,rfl,rfl,ha0,hiff,rfl,rfl⟩ ?_;rintro m g vs i' L' hi ⟨at_,rfl,rfl,hat,hiff,rfl,rfl⟩;by_cases hal:at_<l.length
 ·obtain⟨e,he⟩:=zi l at_ hal;have hee:(Glob.els l)[at_]?=some e.toEl:=by rw[A4x,he];rfl
  obtain⟨b1,o1,c1,t1,z1,p1,e1,g1,⟨_,hst1,hset,_⟩,q1⟩:=hl.at hs he (by omega);cases e1;have q2:=q1 1 _ hst1;rw[Glob.drop_cons hee,List.forall_mem_cons] at hiff;cases hse:e.star with
  |true=>
   rw[hse] at q2;repeat' (first|refine zp rfl ?_|refine zn ?_|refine A2 rfl ?_|refine A3 ?_|refine zt rfl rfl (by omega) rfl ?_|refine zx rfl rfl rfl (by omega) rfl ?_|refine zm g1 q2 rfl rfl rfl ?_|refine zd rfl rfl (by omega) rfl ?_)
   exact⟨l.length-(at_+1),by omega,at_+1,rfl,rfl,hal,by rw[hiff];simp[hse],rfl,rfl⟩
  |false=>
   rw[hse] at q2;repeat' (first|refine zp rfl ?_|refine zn ?_|refine A0 rfl ?_|refine A3 ?_|refine zt rfl rfl (by omega) rfl ?_|refine zx rfl rfl rfl (by omega) rfl ?_|refine zm g1 q2 rfl rfl rfl ?_|refine A6 (H5 rfl rfl (by omega)) rfl ?_)
   exact⟨BV.no (by rw[hiff];simp[hse]),rfl⟩
 ·repeat' (first|refine zp rfl ?_|refine zn ?_|refine A0 rfl ?_|refine A3 ?_|refine zf rfl rfl (by omega) rfl ?_|refine A6 (G9 rfl rfl (by omega)) rfl ?_)
  exact⟨N9 (by rw[hiff,List.drop_eq_nil_of_le (by omega)];simp),rfl⟩
def A8j(xs:List Value)(φ:Nat→Prop)(N:Nat):Prop:=xs.length=N∧∀j,j<N→∃b,xs[j]?=some (.bool b)∧(b=true↔φ j)
theorem A8j.one{xs:List Value}{φ:Nat→Prop}{N:Nat}(h:A8j xs φ N):∀c∈xs,c.oneCell'=true:=by
 intro c hc;obtain⟨j,hj⟩:=F0j.1 hc
 have:=(E9e.1 hj).1
 obtain⟨b,hb,_⟩:=h.2 j (by rw[←h.1];exact this);rw[hj] at hb;cases hb;rfl
theorem A8j.congr{xs:List Value}{φ ψ:Nat→Prop}{N:Nat}(h:A8j xs φ N)(e:∀j,j<N→(φ j↔ψ j)):A8j xs ψ N:=⟨h.1,fun j hj=>let⟨b,h1,h2⟩:=h.2 j hj;⟨b,h1,h2.trans (e j hj)⟩⟩
theorem A8j.set{xs:List Value}{φ:Nat→Prop}{N k:Nat}(h:A8j xs φ N)(hk:k<N):A8j (xs.set k (.bool true)) (fun j=>φ j∨j=k) N:=by
 refine⟨by rw[List.length_set];exact h.1,fun j hj=>?_⟩;by_cases e:j=k
 ·subst e;exact⟨true,by rw[List.getElem?_set_self (by rw[h.1];exact hj)],by simp⟩
 ·obtain⟨b,h1,h2⟩:=h.2 j hj;exact⟨b,by rw[F0q (fun h=>e h.symm)];exact h1,by simp[h2,e]⟩
def ClP(l:List Glob.PEl)(φ:Nat→Prop):Nat→Prop
 |0=>φ 0
 |j+1=>φ (j+1)∨((∃e,l[j]?=some e∧e.star=true)∧ClP l φ j)
theorem C9r(v w:Value)(l:List Glob.PEl)(cs xs:List Value)(φ:Nat→Prop)(i:Imm)(L:SH)(hs:Sl i v 130 l.length cs)(hl:B4w El2 130 cs l)(hw:Sl i w 1 (l.length+1) xs)(hx:A8j xs φ (l.length+1))(hn:l.length≤1000000):
 E6 E9c 290 [v,w] i L fun r i' L'=>(∃ys,Sl i' r 1 (l.length+1) ys∧A8j ys (ClP l φ) (l.length+1))∧L'=L:=by
 have key:E6 E9c 290 [v,w] i L fun r i' L'=>∃(u:Unit)(n:Nat)(ys:List Value)(O:SH),(n=l.length+1∧A8j ys (ClP l φ) (l.length+1))∧J2 4 r 1 n ys O∧L'=O++L:=by
  obtain⟨ao,cap,rfl,_⟩:=id hs;obtain⟨aw,capw,rfl,_⟩:=id hw;refine A5 Tryz.func290 rfl rfl (by simp) rfl ?_;repeat' (first|refine zp rfl ?_|refine zn ?_|refine zs [0,1,2] rfl ?_|(refine P2 (O:=[]) (L0:=L) A1 (sz:=1) (bytes:=1) (k:=0) rfl rfl rfl (J2.nil 4 1) (hw.rd _) ⟨_,rfl,rfl⟩ ⟨_,rfl,rfl,rfl⟩ (by omega) hx.one (by omega) (by omega) ?_;intro a2 c2 O hO))
  refine B1 [0,5,6] (fun m vs i' L'=>∃(k:Nat)(a2:Option Addr)(c2:Nat)(ys:List Value)(O:SH),m=l.length-k∧k≤l.length∧vs=[.slice ao l.length cap,.slice a2 (l.length+1) c2,.int .i64 (k:Int)]∧A8j ys (fun j=>if j≤k then ClP l φ j else φ j) (l.length+1)∧J2 4 (.slice a2 (l.length+1) c2) 1 (l.length+1) ys O∧Sl i' (.slice ao l.length cap) 130 l.length cs∧L'=O++L) l.length ⟨0,a2,c2,xs,O,rfl,E9k _,by rw[F1b];rfl,hx.congr fun j hj=>?_,by rw[F1b] at hO;exact hO,hs,rfl⟩ ?_
  ·cases j with
   |zero=>simp[ClP]
   |succ j=>simp
  clear hO hx hs;rintro m g vs i _ hi ⟨k,a2,c2,ys,O,rfl,hk,rfl,hx,hO,hs,rfl⟩;obtain⟨g2,rfl⟩:=hO.addr.2.resolve_left (by omega);obtain⟨sp,rfl,hsp,_⟩:=hO.block;by_cases hlt:k<l.length
  ·obtain⟨e,he⟩:=zi l k hlt;obtain⟨b1,o1,c1,t1,z1,p1,e1,g1,⟨hst1,_⟩,q1⟩:=hl.at hs he (by omega);cases e1;have q2:=q1 0 _ hst1;obtain⟨b,hb1,hb2⟩:=hx.2 k (by omega)
   have q3:(ys++sp)[0+((k:Nat):Int).toNat*1]?=some (.bool b):=by
    rw[show 0+((k:Nat):Int).toNat*1=k by omega,E9t (by rw[hx.1];omega)];exact hb1
   simp only[if_pos (E9q k)] at hb2
   have keep:¬(e.star=true∧ClP l φ k)→A8j ys (fun j=>if j≤k+1 then ClP l φ j else φ j) (l.length+1):=fun hno=>hx.congr fun j hj=>by
    by_cases h1:j≤k
    ·rw[if_pos h1,if_pos (by omega)]
    ·by_cases h2:j=k+1
     ·subst h2;rw[if_neg h1,if_pos (E9q _)];simp only[ClP];constructor
      ·exact .inl
      ·rintro(h|⟨⟨x,hx1,hx2⟩,h3⟩)
       ·exact h
       ·rw[he] at hx1;cases hx1;exact absurd ⟨hx2,h3⟩ hno
     ·rw[if_neg h1,if_neg (by omega)]
   cases b with
   |false=>
    repeat' (first|refine zp rfl ?_|refine zn ?_|refine A2 rfl ?_|refine A0 rfl ?_|refine A3 ?_|refine zt rfl rfl (by omega) rfl ?_|refine zd rfl rfl (by omega) rfl ?_|refine zx rfl rfl rfl (by omega) rfl ?_|refine D4 (B2 A1 rfl (Has.own 0 rfl) rfl q3) rfl ?_)
    exact⟨l.length-(k+1),by omega,k+1,_,c2,ys,_,rfl,hlt,rfl,keep (fun h=>by have:=hb2.2 h.2;cases this),hO,hs,rfl⟩
   |true=>
    cases hse:e.star with
    |false=>
     rw[hse] at q2;repeat' (first|refine zp rfl ?_|refine zn ?_|refine A2 rfl ?_|refine A0 rfl ?_|refine A3 ?_|refine zt rfl rfl (by omega) rfl ?_|refine zd rfl rfl (by omega) rfl ?_|refine zx rfl rfl rfl (by omega) rfl ?_|refine D4 (B2 A1 rfl (Has.own 0 rfl) rfl q3) rfl ?_|refine zm g1 q2 rfl rfl rfl ?_)
     exact⟨l.length-(k+1),by omega,k+1,_,c2,ys,_,rfl,hlt,rfl,keep (fun h=>by rw[hse] at h;cases h.1),hO,hs,rfl⟩
    |true=>
     rw[hse] at q2;repeat' (first|refine zp rfl ?_|refine zn ?_|refine A2 rfl ?_|refine A3 ?_|refine zt rfl rfl (by omega) rfl ?_|refine zd rfl rfl (by omega) rfl ?_|refine zx rfl rfl rfl (by omega) rfl ?_|refine D4 (B2 A1 rfl (Has.own 0 rfl) rfl q3) rfl ?_|refine zm g1 q2 rfl rfl rfl ?_|(refine H7 (A5g [] (off:=k+1) (u:=.bool true) A1 hO (by show Value.pointer (some ⟨g2,0+((k:Int)+1).toNat*1,none⟩)=_;rw[show 0+((k:Int)+1).toNat*1=k+1 by omega]) rfl rfl rfl (by rw[hx.1];omega)) rfl ?_;rintro _ i3 L3 hi3 ⟨O',hO',rfl⟩))
     refine⟨l.length-(k+1),by omega,k+1,_,c2,_,O',rfl,hlt,rfl,(hx.set (k:=k+1) (by omega)).congr fun j hj=>?_,hO',hs.le hi3,rfl⟩;by_cases h1:j≤k
     ·rw[if_pos h1,if_pos (by omega)];constructor
      ·rintro(h|h)
       ·exact h
       ·omega
      ·exact .inl
     ·by_cases h2:j=k+1
      ·subst h2;rw[if_pos (E9q _)];simp only[ClP,or_true,true_iff];exact .inr ⟨⟨e,he,hse⟩,hb2.1 rfl⟩
      ·rw[if_neg h1,if_neg (by omega)];constructor
       ·rintro(h|h)
        ·exact h
        ·exact absurd h h2
       ·exact .inl
  ·obtain rfl:k=l.length:=by omega
   repeat' (first|refine zp rfl ?_|refine zn ?_|refine A0 rfl ?_|refine A3 ?_|refine zf rfl rfl (by omega) rfl ?_)
   exact⟨(),_,_,_,⟨rfl,hx.congr fun j hj=>by rw[if_pos (by omega)]⟩,hO,rfl⟩
 have k2:=A7n (φ:=fun(_:Unit) v i' n ys=>n=l.length+1∧A8j ys (ClP l φ) (l.length+1)) (B:=fun _=>L) (fun _ _ _ _ _ _ _ h=>h) key;refine k2.mono ?_;rintro v i' L' _ ⟨_,n,ys,⟨rfl,h1⟩,h3,h4⟩;exact⟨⟨ys,h3,h1⟩,h4⟩
theorem D6v(l:List Glob.PEl):∀j,j≤l.length→(ClP l (fun j=>j=0) j↔Glob.B (Glob.els l) [] j)
 |0,_=>by simp[ClP,Glob.B_nil_zero]
 |j+1,h=>by
  rw[Glob.B_nil_succ (by rw[B5g];omega)];have ih:=D6v l j (by omega);simp only[ClP,ih,A4x];constructor
  ·rintro(h|⟨⟨e,h1,h2⟩,h3⟩)
   ·omega
   ·exact⟨e.toEl,by rw[h1];rfl,h2,h3⟩
  ·rintro⟨e,h1,h2,h3⟩
   cases he:l[j]? with
   |none=>rw[he] at h1;cases h1
   |some x=>rw[he] at h1;cases h1;exact .inr ⟨⟨x,rfl,h2⟩,h3⟩
theorem C9k(l:List Glob.PEl)(s:List Nat)(c:Nat):∀j,j≤l.length→(ClP l (Glob.Nx (Glob.els l) s c) j↔Glob.B (Glob.els l) (s++[c]) j)
 |0,_=>by
  rw[Glob.B_snoc (E9k _)];simp only[ClP];constructor
  ·exact .inl
  ·rintro(h|⟨q,h,_⟩)
   ·exact h
   ·omega
 |j+1,h=>by
  rw[Glob.B_snoc (by rw[B5g];omega)];have ih:=C9k l s c j (by omega);simp only[ClP,ih];constructor
  ·rintro(h|⟨⟨e,h1,h2⟩,h3⟩)
   ·exact .inl h
   ·exact .inr ⟨j,rfl,e.toEl,by rw[A4x,h1];rfl,h2,h3⟩
  ·rintro(h|⟨q,h0,e,h1,h2,h3⟩)
   ·exact .inl h
   ·obtain rfl:j=q:=by omega
    rw[A4x] at h1;cases he:l[j]? with
    |none=>rw[he] at h1;cases h1
    |some x=>rw[he] at h1;cases h1;exact .inr ⟨⟨x,rfl,h2⟩,h3⟩
def NxI(l:List Glob.PEl)(s:List Nat)(c k j:Nat):Prop:=∃q,q<k∧∃e,l[q]?=some e∧Glob.B (Glob.els l) s q∧((j=q∧e.star=true)∨(j=q+1∧e.star=false∧e.set c=true))
theorem nxi_all(l:List Glob.PEl)(s:List Nat)(c j:Nat):NxI l s c l.length j↔Glob.Nx (Glob.els l) s c j:=by
 unfold NxI Glob.Nx;constructor
 ·rintro⟨q,_,e,h1,h2,⟨rfl,h3⟩|⟨rfl,h3,h4⟩⟩
  ·exact .inl ⟨e.toEl,by rw[A4x,h1];rfl,h3,h2⟩
  ·exact .inr ⟨q,rfl,e.toEl,by rw[A4x,h1];rfl,h3,h4,h2⟩
 ·rintro(⟨e,h1,h2,h3⟩|⟨q,rfl,e,h1,h2,h4,h3⟩)
  ·rw[A4x] at h1;cases he:l[j]? with
   |none=>rw[he] at h1;cases h1
   |some x=>rw[he] at h1;cases h1;exact⟨j,(E9e.1 he).1,x,he,h3,.inl ⟨rfl,h2⟩⟩
  ·rw[A4x] at h1;cases he:l[q]? with
   |none=>rw[he] at h1;cases h1
   |some x=>rw[he] at h1;cases h1;exact⟨q,(E9e.1 he).1,x,he,h3,.inr ⟨rfl,h2,h4⟩⟩
theorem E5k{l:List Glob.PEl}{s:List Nat}{c k:Nat}{e:Glob.PEl}(he:l[k]?=some e)(j:Nat):NxI l s c (k+1) j↔NxI l s c k j∨(Glob.B (Glob.els l) s k∧((j=k∧e.star=true)∨(j=k+1∧e.star=false∧e.set c=true))):=by
 unfold NxI;constructor
 ·rintro⟨q,h0,x,h1,h2⟩
  by_cases hq:q=k
  ·subst hq;rw[he] at h1;cases h1;exact .inr h2
  ·exact .inl ⟨q,by omega,x,h1,h2⟩
 ·rintro(⟨q,h0,x,h1,h2⟩|h2)
  ·exact⟨q,by omega,x,h1,h2⟩
  ·exact⟨k,by omega,e,he,h2⟩
theorem A8j.rep{cs:List Value}{N:Nat}(hl:cs.length=N*1)(hz:∀j,j<N*1→cs[j]?=([F0x false])[j % 1]?):A8j cs (fun _=>False) N:=
 ⟨by omega,fun j hj=>⟨false,by rw[hz j (by omega),Nat.mod_one];rfl,by simp⟩⟩
theorem E3w{i:Imm}{b N:Nat}{xs:List Value}{e:TypeId}(hx:xs.length=N)(hb:i.blk b=some (.cells (E9d xs) e (0,0))):Sl i (.slice (some ⟨b,0,none⟩) N N) 1 N xs:=
 ⟨_,_,rfl,by omega,.inr ⟨b,0,xs,e,(0,0),rfl,hb,fun j _=>by rw[F1b]⟩⟩
theorem One_v(v:Value)(s:ByteArray)(l:List Glob.PEl)(cs:List Value)(i:Imm)(L:SH)(hs:Sl i v 130 l.length cs)(hl:B4w El2 130 cs l)(hp:Glob.Prt s)(hn:l.length≤100000)(hz:s.size≤1000000):
 E6 E9c 244 [v,.string s] i L fun r i' L'=>BV (Glob.Mt (Glob.els l) (Glob.bts s)) r∧L'=L:=by
 obtain⟨ao,cap,rfl,_⟩:=id hs;have hbl:=Glob.bts_len s;refine A5 Tryz.func244 rfl rfl (by simp) rfl ?_;repeat' (first|refine zn ?_|(refine zr 0 ?_;refine zp rfl ?_;refine zn ?_))
 refine zr 1 ?_;refine zp rfl ?_;refine zp rfl ?_;refine zd rfl rfl (by omega) rfl ?_;refine D7g (sz:=1) (bytes:=1) (m:=l.length+1) A1 rfl rfl rfl ⟨_,rfl,rfl⟩ ⟨_,rfl,rfl,rfl,rfl⟩ (by omega) (by omega) (by omega) (fun b0 c0 hc0 hz0=>?_);have hf0:=A8j.rep hc0 hz0;refine zp rfl ?_;refine zn ?_;repeat' (first|refine zp rfl ?_|refine zn ?_|refine zr 2 ?_|refine zx rfl rfl rfl (by omega) rfl ?_|(refine H7 (H1 (k:=0) (off:=0+0*1) (u:=.bool true) A1 rfl rfl rfl rfl rfl (by rw[hf0.1];omega)) rfl ?_;rintro _ _ _-⟨rfl,rfl⟩))
 refine A2b (fun i hi g0=>?_);replace hs:=hs.le hi;have hf1:=(hf0.set (k:=0) (by omega)).congr (ψ:=fun j=>j=0) fun j hj=>by simp
 repeat' (first|refine zp rfl ?_|refine zn ?_|refine zs [3,4] rfl ?_|(refine A7 (C9r _ _ l cs _ _ _ _ hs hl (E3w (by rw[hf1.1]) g0) hf1 (by omega)) rfl (by kernel_rfl) rfl ?_;rintro _ i L hi ⟨⟨ys,hys,hyf⟩,rfl⟩;replace hs:=hs.le hi;obtain⟨ay,cy,rfl,_⟩:=id hys))
 refine B1 [0,1,5,6] (fun m vs i' L'=>∃(k:Nat)(a2:Option Addr)(c2:Nat)(xs:List Value),m=s.size-k∧k≤s.size∧vs=[.slice ao l.length cap,.string s,.slice a2 (l.length+1) c2,.int .i64 (k:Int)]∧Sl i' (.slice a2 (l.length+1) c2) 1 (l.length+1) xs∧A8j xs (Glob.B (Glob.els l) ((Glob.bts s).take k)) (l.length+1)∧Sl i' (.slice ao l.length cap) 130 l.length cs∧L'=L) s.size ⟨0,_,_,ys,rfl,E9k _,rfl,hys,hyf.congr fun j hj=>by rw[List.take_zero];exact D6v l j (by omega),hs,rfl⟩ ?_;clear hs hys hyf hf0 hf1;rintro m g vs i L hi ⟨k,a2,c2,xs,rfl,hk,rfl,hx,hxf,hs,rfl⟩;by_cases hlt:k<s.size
 ·have hcb:=B1u hlt;have hcr:=A2d hp hlt;repeat' (first|refine zp rfl ?_|refine zn ?_|refine A2 rfl ?_|refine zr 5 ?_|refine zt rfl rfl (by omega) rfl ?_)
  refine zr 7 ?_;refine zp rfl ?_;refine zp rfl ?_;refine zd rfl rfl (by omega) rfl ?_;refine D7g (sz:=1) (bytes:=1) (m:=l.length+1) A1 rfl rfl rfl ⟨_,rfl,rfl⟩ ⟨_,rfl,rfl,rfl,rfl⟩ (by omega) (by omega) (by omega) (fun b0 c0 hc0 hz0=>?_);refine zp rfl ?_;refine zn ?_;refine zn ?_;refine K9 [0,1,5,6,7] (fun vs i' L9=>∃(b7:Nat)(ys:List Value),vs=[.slice ao l.length cap,.string s,.slice a2 (l.length+1) c2,.int .i64 (k:Int),.slice (some ⟨b7,0,none⟩) (l.length+1) (l.length+1)]∧A8j ys (NxI l ((Glob.bts s).take k) (Glob.bt s k) l.length) (l.length+1)∧Sl i' (.slice a2 (l.length+1) c2) 1 (l.length+1) xs∧Sl i' (.slice ao l.length cap) 130 l.length cs∧L9=(b7,.cells (E9d ys) 4 (0,0))::L) ?_ ?_
  ·repeat' (first|refine zn ?_|(refine zr 8 ?_;refine zp rfl ?_;refine zn ?_))
   refine B1 [0,1,5,6,7,8] (fun m vs i' L9=>∃(q:Nat)(ys:List Value),m=l.length-q∧q≤l.length∧vs=[.slice ao l.length cap,.string s,.slice a2 (l.length+1) c2,.int .i64 (k:Int),.slice (some ⟨b0,0,none⟩) (l.length+1) (l.length+1),.int .i64 (q:Int)]∧A8j ys (NxI l ((Glob.bts s).take k) (Glob.bt s k) q) (l.length+1)∧Sl i' (.slice a2 (l.length+1) c2) 1 (l.length+1) xs∧Sl i' (.slice ao l.length cap) 130 l.length cs∧L9=(b0,.cells (E9d ys) 4 (0,0))::L) l.length ⟨0,c0,rfl,E9k _,rfl,(A8j.rep hc0 hz0).congr fun j hj=>by unfold NxI;simp,hx,hs,rfl⟩ ?_;clear hs hx;rintro m g vs i _ hi ⟨q,ys,rfl,hq,rfl,hyf,hx,hs,rfl⟩;by_cases hql:q<l.length
   ·obtain⟨e,he⟩:=zi l q hql;obtain⟨b1,o1,c1,t1,z1,p1,e1,g1,⟨hst1,hset⟩,q1⟩:=hl.at hs he (by omega);cases e1;have q2:=q1 0 _ hst1;obtain⟨b2,o2,c2',t2,z2,p2,e2,g2,h2⟩:=hx.at (show q<l.length+1 by omega) (by omega);cases e2;obtain⟨b,hb1,hb2⟩:=hxf.2 q (by omega)
    have q4:c2'[o2+((q:Nat):Int).toNat*1]?=some (.bool b):=by
     have:=h2 0 (by omega)
     rw[show q*1+0=q by omega,hb1] at this;exact this
    have step:=E5k (s:=(Glob.bts s).take k) (c:=Glob.bt s k) he
    have keep:¬(b=true∧(e.star=true∨(e.star=false∧e.set (Glob.bt s k)=true)))→A8j ys (NxI l ((Glob.bts s).take k) (Glob.bt s k) (q+1)) (l.length+1):=fun hno=>hyf.congr fun j hj=>by
     rw[step];constructor
     ·exact .inl
     ·rintro(h|⟨h1,⟨rfl,h3⟩|⟨rfl,h3,h4⟩⟩)
      ·exact h
      ·exact absurd ⟨hb2.2 h1,.inl h3⟩ hno
      ·exact absurd ⟨hb2.2 h1,.inr ⟨h3,h4⟩⟩ hno
    cases b with
    |false=>
     repeat' (first|refine zp rfl ?_|refine zq rfl ?_|refine zn ?_|refine A2 rfl ?_|refine A0 rfl ?_|refine A3 ?_|refine C8 J9 (by kernel_rfl) ?_|refine zt rfl rfl (by omega) rfl ?_|refine zd rfl rfl (by omega) rfl ?_|refine zx rfl rfl rfl (by omega) rfl ?_|refine zm g2 q4 rfl rfl rfl ?_|refine D3 (A9 A1 rfl rfl rfl (by omega)) rfl ?_|refine F0 (B2 A1 rfl (Has.imm g2) rfl q4) rfl ?_)
     exact⟨l.length-(q+1),by omega,q+1,ys,rfl,hql,rfl,keep (by simp),hx,hs,rfl⟩
    |true=>
     cases hse:e.star with
     |true=>
      rw[hse] at q2;repeat' (first|refine zp rfl ?_|refine zq rfl ?_|refine zn ?_|refine A2 rfl ?_|refine A0 rfl ?_|refine A3 ?_|refine C8 J9 (by kernel_rfl) ?_|refine zt rfl rfl (by omega) rfl ?_|refine zd rfl rfl (by omega) rfl ?_|refine zx rfl rfl rfl (by omega) rfl ?_|refine zm g2 q4 rfl rfl rfl ?_|refine zm g1 q2 rfl rfl rfl ?_|(refine H7 (H1 (k:=0) (off:=0+((q:Nat):Int).toNat*1) (u:=.bool true) A1 rfl rfl rfl rfl rfl (by rw[hyf.1];omega)) rfl ?_;rintro _ _ _-⟨rfl,rfl⟩)|refine D3 (A9 A1 rfl rfl rfl (by omega)) rfl ?_|refine F0 (B2 A1 rfl (Has.imm g2) rfl q4) rfl ?_|refine F0 (B2 A1 rfl (Has.imm g1) rfl q2) rfl ?_)
      refine⟨l.length-(q+1),by omega,q+1,_,rfl,hql,rfl,(hyf.set (k:=q) (by omega)).congr fun j hj=>?_,hx,hs,?_⟩
      ·rw[step];simp[hb2.1 rfl,hse]
      ·rw[show 0+((q:Nat):Int).toNat*1=q by omega];rfl
     |false=>
      have q3:c1[o1+((q:Nat):Int).toNat*130+2+((Glob.bt s k:Nat):Int).toNat*1]?=some (.bool (e.set (Glob.bt s k))):=by
       have:=q1 (2+Glob.bt s k) _ (hset hse _ hcr.1 hcr.2)
       rw[show o1+((q:Nat):Int).toNat*130+2+((Glob.bt s k:Nat):Int).toNat*1=o1+((q:Nat):Int).toNat*130+(2+Glob.bt s k) by omega];exact this
      rw[hse] at q2;cases hsc:e.set (Glob.bt s k) with
      |true=>
       rw[hsc] at q3;repeat' (first|refine zp rfl ?_|refine zq rfl ?_|refine zn ?_|refine A2 rfl ?_|refine A0 rfl ?_|refine A3 ?_|refine C8 J9 (by kernel_rfl) ?_|refine zt rfl rfl (by omega) rfl ?_|refine zd rfl rfl (by omega) rfl ?_|refine zx rfl rfl rfl (by omega) rfl ?_|refine zm g2 q4 rfl rfl rfl ?_|refine zm g1 q2 rfl rfl rfl ?_|refine D3 (A9 A1 rfl rfl rfl (by omega)) rfl ?_|refine F0 (B2 A1 rfl (Has.imm g2) rfl q4) rfl ?_|refine F0 (B2 A1 rfl (Has.imm g1) rfl q2) rfl ?_|refine D3 (F8 A1 rfl rfl rfl (by omega)) rfl ?_|refine D3 (G6 A1 rfl rfl rfl (by omega)) rfl ?_|refine F0 (B2 A1 rfl (Has.imm g1) rfl q3) rfl ?_|(refine H7 (H1 (k:=0) (off:=0+((q:Int)+1).toNat*1) (u:=.bool true) A1 rfl rfl rfl rfl rfl (by rw[hyf.1];omega)) rfl ?_;rintro _ _ _-⟨rfl,rfl⟩))
       refine⟨l.length-(q+1),by omega,q+1,_,rfl,hql,rfl,(hyf.set (k:=q+1) (by omega)).congr fun j hj=>?_,hx,hs,?_⟩
       ·rw[step];simp[hb2.1 rfl,hse,hsc]
       ·rw[show 0+((q:Int)+1).toNat*1=q+1 by omega];rfl
      |false=>
       rw[hsc] at q3;repeat' (first|refine zp rfl ?_|refine zq rfl ?_|refine zn ?_|refine A2 rfl ?_|refine A0 rfl ?_|refine A3 ?_|refine C8 J9 (by kernel_rfl) ?_|refine zt rfl rfl (by omega) rfl ?_|refine zd rfl rfl (by omega) rfl ?_|refine zx rfl rfl rfl (by omega) rfl ?_|refine zm g2 q4 rfl rfl rfl ?_|refine zm g1 q2 rfl rfl rfl ?_|refine D3 (A9 A1 rfl rfl rfl (by omega)) rfl ?_|refine F0 (B2 A1 rfl (Has.imm g2) rfl q4) rfl ?_|refine F0 (B2 A1 rfl (Has.imm g1) rfl q2) rfl ?_|refine D3 (F8 A1 rfl rfl rfl (by omega)) rfl ?_|refine D3 (G6 A1 rfl rfl rfl (by omega)) rfl ?_|refine F0 (B2 A1 rfl (Has.imm g1) rfl q3) rfl ?_)
       exact⟨l.length-(q+1),by omega,q+1,ys,rfl,hql,rfl,keep (by simp[hse,hsc]),hx,hs,rfl⟩
   ·obtain rfl:q=l.length:=by omega
    repeat' (first|refine zp rfl ?_|refine zn ?_|refine A0 rfl ?_|refine zr 9 ?_|refine zf rfl rfl (by omega) rfl ?_)
    exact⟨b0,ys,rfl,hyf,hx,hs,rfl⟩
  clear hs hx;rintro g vs i _ hi ⟨b7,ys,rfl,hyf,hx,hs,rfl⟩;refine A2b (fun i hi g0=>?_);replace hs:=hs.le hi;have hf1:=hyf.congr fun j hj=>nxi_all l _ _ j
  repeat' (first|refine zp rfl ?_|refine zn ?_|refine A3 ?_|refine zd rfl rfl (by omega) rfl ?_|(refine A7 (C9r _ _ l cs _ _ _ _ hs hl (E3w (by rw[hf1.1]) g0) hf1 (by omega)) rfl (by kernel_rfl) rfl ?_;rintro _ i L hi ⟨⟨ys,hys,hyf⟩,rfl⟩;replace hs:=hs.le hi;obtain⟨ay,cy,rfl,_⟩:=id hys))
  refine⟨s.size-(k+1),by omega,k+1,_,_,_,rfl,hlt,rfl,hys,hyf.congr fun j hj=>?_,hs,rfl⟩;rw[List.take_add_one,hcb];exact C9k l _ _ j (by omega)
 ·obtain rfl:k=s.size:=by omega
  obtain⟨b2,o2,c2',t2,z2,p2,e2,g2,h2⟩:=hx.at (show l.length<l.length+1 by omega) (by omega);cases e2;obtain⟨b,hb1,hb2⟩:=hxf.2 l.length (by omega)
  have q4:c2'[o2+((l.length:Nat):Int).toNat*1]?=some (.bool b):=by
   have:=h2 0 (by omega)
   rw[show l.length*1+0=l.length by omega,hb1] at this;exact this
  repeat' (first|refine zp rfl ?_|refine zn ?_|refine A0 rfl ?_|refine A3 ?_|refine zf rfl rfl (by omega) rfl ?_|refine zx rfl rfl rfl (by omega) rfl ?_|refine zm g2 q4 rfl rfl rfl ?_)
  refine⟨⟨b,rfl,hb2.trans ?_⟩,rfl⟩;rw[←hbl,List.take_length,←B5g,Glob.B_end]
def A6p(v n:Int):Int:=if n≤1 then 0 else v % n
theorem D8n{v n:Int}(h:1<n):v % n=if v.tmod n<0 then v.tmod n+n else v.tmod n:=by
 rw[Int.tmod_eq_emod];have h1:=Int.emod_nonneg v (show n≠0 by omega);have h2:=Int.emod_lt_of_pos v (show 0<n by omega);split<;>split<;>omega
theorem D5j{v n:Int}(h:1<n): -n<v.tmod n∧v.tmod n<n:=by
 rw[Int.tmod_eq_emod];have h1:=Int.emod_nonneg v (show n≠0 by omega);have h2:=Int.emod_lt_of_pos v (show 0<n by omega);split<;>omega
theorem E5z(v:Int){n:Int}(h:1<n):0≤A6p v n∧A6p v n<n:=by
 unfold A6p;rw[if_neg (by omega)];exact⟨Int.emod_nonneg v (by omega),Int.emod_lt_of_pos v (by omega)⟩
theorem E4r(v n:Int)(i:Imm)(L:SH)(hn:n≤9223372036854775807):
 E6 E9c 50 [.int .i64 v,.int .i64 n] i L fun r i' L'=>r=.int .i64 (A6p v n)∧i'=i∧L'=L:=by
 have hb:=fun h:1<n=>D5j (v:=v) h
 refine A5 Tryz.func50 rfl rfl (by simp) rfl ?_;by_cases h1:n≤1
 ·repeat' (first|refine zp rfl ?_|refine zn ?_|refine A2 rfl ?_|refine A3 ?_|refine A6 (A2y rfl rfl (by omega)) rfl ?_)
  exact⟨congrArg (F0u .i64) (by simp[A6p,h1]),rfl,rfl⟩
 ·have hb:=hb (by omega);have hf:=D8n (v:=v) (n:=n) (by omega);repeat' (first|refine zp rfl ?_|refine zn ?_|refine A2 rfl ?_|refine A0 rfl ?_|refine A3 ?_|refine A6 (A2z rfl rfl (by omega)) rfl ?_|refine A6 (D2p rfl rfl (by omega)) rfl ?_|refine I1 rfl rfl rfl (fun h=>?_) (fun h=>?_)|refine zd rfl rfl (by omega) rfl ?_)
  ·exact⟨congrArg (F0u .i64) (by rw[A6p,if_neg h1,hf,if_pos h]),rfl,rfl⟩
  ·exact⟨congrArg (F0u .i64) (by rw[A6p,if_neg h1,hf,if_neg (by omega)]),rfl,rfl⟩
def I5(i:Imm)(v:Value):Prop:=∃ao ln cap,v=.slice ao ln cap∧(ln:Int)≤9223372036854775807∧(ln=0∨∃b o cs t fz,ao=some ⟨b,o,none⟩∧i.blk b=some (.cells (E9d cs) t fz)∧∀j,j<ln→∃x,cs[o+j]?=some (.int .i64 x))
theorem I5.le{i i':Imm}{v:Value}(h:I5 i v)(hi:i.le i'):I5 i' v:=by
 obtain⟨ao,ln,cap,h1,h2,h3⟩:=h;refine⟨ao,ln,cap,h1,h2,h3.imp id ?_⟩
 rintro⟨b,o,cs,t,fz,h4,h5,h6⟩
 exact⟨b,o,cs,t,fz,h4,hi.blk _ _ h5,h6⟩
def B5(lv:Value)(a:Int):Obj:=.cells [lv,.int .i64 a].toArray 25 (0,0)
theorem Next_s(tp k:Nat)(lv:Value)(at_ n:Int)(i:Imm)(L:SH)(hn:n≤9223372036854775807)(hl:I5 i lv)(ha:0≤at_∧at_≤1000000000000)(hk:L[k]?=some (tp,B5 lv at_)):
 E6 E9c 20 [.pointer (some ⟨tp,0,none⟩),.int .i64 n] i L fun r i' L'=>(∃x,r=.int .i64 (A6p x n))∧i'=i∧L'=L.set k (tp,B5 lv (at_+1)):=by
 obtain⟨ao,ln,cap,rfl,hln,hcs⟩:=hl;unfold B5 at hk;refine A5 Tryz.func20 rfl rfl (by simp) rfl ?_;by_cases hlt:at_<ln
 ·obtain⟨b,o,cs,t,fz,rfl,hb,hel⟩:=hcs.resolve_left (by omega);obtain⟨x,hx⟩:=hel at_.toNat (by omega);have hx':cs[o+at_.toNat*1]?=some (.int .i64 x):=by rw[Nat.mul_one];exact hx
  repeat' (first|refine zp rfl ?_|refine zq rfl ?_|refine zn ?_|refine A2 rfl ?_|refine A3 ?_|refine C8 J9 (by kernel_rfl) ?_|refine D4 (B0 A1 rfl (Has.own k hk) rfl) rfl ?_|refine A6 (E4k rfl rfl (by omega)) rfl ?_|refine A6 (D2p rfl rfl (by omega)) rfl ?_|refine F0 (B0 A1 rfl (Has.own k hk) rfl) rfl ?_|refine D3 (Y5 rfl rfl (by omega)) rfl ?_|refine D3 (A9 A1 rfl rfl rfl (by omega)) rfl ?_|refine F0 (B2 A1 rfl (Has.imm hb) rfl hx') rfl ?_|refine zd rfl rfl (by omega) rfl ?_|refine B7z A1 rfl rfl rfl rfl hk rfl rfl (U2 _ _ _ _ hk) ?_|(refine A7 (E4r _ _ _ _ hn) rfl (by kernel_rfl) rfl ?_;rintro v i' L' hi ⟨rfl,rfl,rfl⟩))
  exact⟨⟨_,rfl⟩,rfl,rfl⟩
 ·have hm:=D5j (v:=at_*7) (n:=11) (by omega);repeat' (first|refine zp rfl ?_|refine zq rfl ?_|refine zn ?_|refine A0 rfl ?_|refine zs [0,1,4,5] rfl ?_|refine C8 (id:=2) J9 (by kernel_rfl) ?_|refine D4 (B0 A1 rfl (Has.own k hk) rfl) rfl ?_|refine A6 (E4k rfl rfl (by omega)) rfl ?_|refine A6 (D2p rfl rfl (by omega)) rfl ?_|refine F0 (B0 A1 rfl (Has.own k hk) rfl) rfl ?_|refine D3 (A0j rfl rfl (by omega)) rfl ?_|refine zd rfl rfl (by omega) rfl ?_|refine B7z A1 rfl rfl rfl rfl hk rfl rfl (U2 _ _ _ _ hk) ?_|(refine A7 (E4r _ _ _ _ hn) rfl (by kernel_rfl) rfl ?_;rintro v i' L' hi ⟨rfl,rfl,rfl⟩))
  exact⟨⟨_,rfl⟩,rfl,rfl⟩
def A9w(n x:Int):Prop:=0≤x∧(x<n∨x=0)
theorem D0m(v n:Int):A9w n (A6p v n):=by
 by_cases h:1<n
 ·have:=E5z v h
  exact⟨this.1,.inl this.2⟩
 ·have:A6p v n=0:=by unfold A6p;rw[if_pos (by omega)]
  rw[this];exact⟨by omega,.inr rfl⟩
theorem J7(tp k:Nat)(lv:Value)(a n:Int)(i:Imm)(L:SH)(hl:I5 i lv)(hk:L[k]?=some (tp,B5 lv a))(hn:n≤9223372036854775807)(ha:0≤a∧a≤1000000000000):
 E6 E9c 20 [.pointer (some ⟨tp,0,none⟩),.int .i64 n] i L fun r i' L'=>∃x,r=.int .i64 x∧A9w n x∧i'=i∧L'=L.set k (tp,B5 lv (a+1)):=
 (Next_s tp k lv a n i L hn hl ha hk).mono fun _ _ _ _ ⟨⟨x,h1⟩,h2,h3⟩=>⟨_,h1,D0m x n,h2,h3⟩
def strs(l:List ByteArray):List Value:=l.map .string
theorem B0j(l:List ByteArray):∀c∈strs l,c.oneCell'=true:=by
 intro c hc;obtain⟨s,_,rfl⟩:=F1k.1 hc;rfl
theorem A0g(l:List ByteArray)(k:Nat):(strs l)[k*1+0]?=l[k]?.map .string:=by simp[strs]
theorem One_t(tp k:Nat)(lv lst:Value)(a:Int)(n:Nat)(ss:List ByteArray)(i:Imm)(L:SH)(hl:I5 i lv)(hs:Sl i lst 1 n (strs ss))(hk:L[k]?=some (tp,B5 lv a))(hn:ss.length=n)(h0:0<n∧n≤9223372036854775807)(ha:0≤a∧a≤1000000000000):
 E6 E9c 49 [.pointer (some ⟨tp,0,none⟩),lst] i L fun r i' L'=>∃s,r=.string s∧s∈ss∧i'=i∧L'=L.set k (tp,B5 lv (a+1)):=by
 obtain⟨ao,cap,hv,_⟩:=id hs;subst hv;refine A5 Tryz.func49 rfl rfl (by simp) rfl ?_;repeat' (first|refine zn ?_|refine A0 rfl ?_|(refine zr 0 ?_;refine zp rfl ?_;refine zn ?_)|(refine zr 1 ?_;refine zp rfl ?_;(refine zp rfl ?_);(refine A6 (H5 rfl rfl (by omega)) rfl ?_);(all_goals refine zn ?_)))
 refine zr 3 ?_;iterate 3 refine zp rfl ?_
 refine zp rfl ?_;refine A7 (J7 tp k lv a n i L hl hk (by omega) ha) rfl (by kernel_rfl) rfl ?_;rintro _ _ _-⟨x,rfl,⟨hx0,hx1⟩,rfl,rfl⟩;have hx:x.toNat<n:=by omega
 obtain⟨b1,o1,c1,t1,z1,p1,e1,g1,h1⟩:=hs.at hx (by omega);cases e1;obtain⟨s,hss⟩:=zi ss x.toNat (by omega);have q1:=h1 0 (by omega);rw[A0g,hss] at q1;rw[show((x.toNat:Nat):Int)=x by omega] at q1;refine zx rfl rfl rfl (by omega) rfl ?_;refine zm g1 q1 rfl rfl rfl ?_;refine zp rfl ?_;refine zn ?_;repeat' (first|refine zn ?_|fail)
 exact⟨s,rfl,E9g hss,rfl,rfl⟩
end Go.Proofs.YtckdkhhpjnefpaaGreatDoor
namespace Go.Proofs
open Go.Shelf
def B2z:Go.Shelf.Ren:=⟨fun|161=>190|231=>255|227=>256|233=>257|235=>258|228=>301|197=>251|151=>302|260=>299|152=>327|137=>187|119=>345|224=>318|225=>317|217=>253|266=>300|n=>n,fun|9=>9|4=>4|3=>3|5=>5|117=>319|116=>318|0=>0|124=>322|105=>309|21=>21|119=>372|46=>214|139=>375|138=>374|n=>n,fun|3=>1|4=>2|n=>n⟩
theorem C4v:Go.Proofs.Lays.n161 E9c B2z:={
 mixed:=by kernel_rfl
 f119:=Tryz.func345.trans (congrArg some (by kernel_rfl))
 f137:=Tryz.func187.trans (congrArg some (by kernel_rfl))
 f151:=Tryz.func302.trans (congrArg some (by kernel_rfl))
 f152:=Tryz.func327.trans (congrArg some (by kernel_rfl))
 f161:=Tryz.func190.trans (congrArg some (by kernel_rfl))
 f197:=Tryz.func251.trans (congrArg some (by kernel_rfl))
 f217:=Tryz.func253.trans (congrArg some (by kernel_rfl))
 f224:=Tryz.func318.trans (congrArg some (by kernel_rfl))
 f225:=Tryz.func317.trans (congrArg some (by kernel_rfl))
 f227:=Tryz.func256.trans (congrArg some (by kernel_rfl))
 f228:=Tryz.func301.trans (congrArg some (by kernel_rfl))
 f231:=Tryz.func255.trans (congrArg some (by kernel_rfl))
 f233:=Tryz.func257.trans (congrArg some (by kernel_rfl))
 f235:=Tryz.func258.trans (congrArg some (by kernel_rfl))
 f260:=Tryz.func299.trans (congrArg some (by kernel_rfl))
 f266:=Tryz.func300.trans (congrArg some (by kernel_rfl))
 t0:=Tryz.underlying0
 a0:=Tryz.isAgg0
 z0:=Tryz.sizeOf0
 v0:=Tryz.zeroValue0
 t3:=Tryz.underlying3
 a3:=Tryz.isAgg3
 z3:=Tryz.sizeOf3
 v3:=Tryz.zeroValue3
 t4:=Tryz.underlying4
 a4:=Tryz.isAgg4
 z4:=Tryz.sizeOf4
 v4:=Tryz.zeroValue4
 t5:=Tryz.underlying5
 a5:=Tryz.isAgg5
 z5:=Tryz.sizeOf5
 v5:=Tryz.zeroValue5
 t9:=Tryz.underlying9
 a9:=Tryz.isAgg9
 z9:=Tryz.sizeOf9
 v9:=Tryz.zeroValue9
 t21:=Tryz.underlying21
 a21:=Tryz.isAgg21
 z21:=Tryz.sizeOf21
 v21:=Tryz.zeroValue21
 t46:=Tryz.underlying214
 a46:=Tryz.isAgg214
 z46:=Tryz.sizeOf214
 v46:=Tryz.zeroValue214
 t105:=Tryz.underlying309
 a105:=Tryz.isAgg309
 z105:=Tryz.sizeOf309
 v105:=Tryz.zeroValue309
 t116:=Tryz.underlying318
 a116:=Tryz.isAgg318
 z116:=Tryz.sizeOf318
 t117:=Tryz.underlying319
 a117:=Tryz.isAgg319
 z117:=Tryz.sizeOf319
 v117:=Tryz.zeroValue319
 t119:=Tryz.underlying372
 a119:=Tryz.isAgg372
 z119:=Tryz.sizeOf372
 t124:=Tryz.underlying322
 a124:=Tryz.isAgg322
 z124:=Tryz.sizeOf322
 v124:=Tryz.zeroValue322
 t138:=Tryz.underlying374
 a138:=Tryz.isAgg374
 z138:=Tryz.sizeOf374
 v138:=Tryz.zeroValue374
 t139:=Tryz.underlying375
 a139:=Tryz.isAgg375
 z139:=Tryz.sizeOf375
 v139:=Tryz.zeroValue375
 g3:=by kernel_rfl
 g4:=by kernel_rfl}
def B3c:Go.Shelf.Ren:=⟨fun|137=>187|217=>253|266=>300|n=>n,fun|9=>9|5=>5|3=>3|n=>n,fun|n=>n⟩
theorem C5a:Go.Proofs.Lays.n137 E9c B3c:={
 mixed:=by kernel_rfl
 f137:=Tryz.func187.trans (congrArg some (by kernel_rfl))
 f217:=Tryz.func253.trans (congrArg some (by kernel_rfl))
 f266:=Tryz.func300.trans (congrArg some (by kernel_rfl))
 t3:=Tryz.underlying3
 a3:=Tryz.isAgg3
 z3:=Tryz.sizeOf3
 v3:=Tryz.zeroValue3
 t5:=Tryz.underlying5
 a5:=Tryz.isAgg5
 z5:=Tryz.sizeOf5
 v5:=Tryz.zeroValue5
 t9:=Tryz.underlying9
 a9:=Tryz.isAgg9
 z9:=Tryz.sizeOf9
 v9:=Tryz.zeroValue9}
open Go.RowKit in
theorem Tryz.strings_IndexByte(s:ByteArray)(c:Int)(w:World):
 Calls E9c 187 #[.string s,.int .u8 c] w fun e w'=>e=.returned (.int .i64 (Lib.indexByte s.data.toList c.toNat.toUInt8))∧w'=w:=Any.strings_IndexByte C5a s c w
def B1k:Go.Shelf.Ren:=⟨fun|171=>245|243=>291|246=>321|283=>340|284=>341|285=>342|286=>343|129=>211|317=>357|318=>358|319=>359|320=>360|337=>373|338=>374|n=>n,fun|3=>3|9=>9|2=>2|4=>4|171=>384|0=>0|53=>264|37=>289|5=>5|173=>386|212=>404|51=>262|20=>20|213=>405|46=>214|232=>432|233=>433|n=>n,fun|17=>4|18=>7|19=>8|n=>n⟩
theorem C0c:Go.Proofs.LaysM.n171 E9c B1k:={
 mixed:=by kernel_rfl
 f129:=Tryz.func211.trans (congrArg some (by kernel_rfl))
 f171:=Tryz.func245.trans (congrArg some (by kernel_rfl))
 f243:=Tryz.func291.trans (congrArg some (by kernel_rfl))
 f246:=Tryz.func321.trans (congrArg some (by kernel_rfl))
 f283:=Tryz.func340.trans (congrArg some (by kernel_rfl))
 f284:=Tryz.func341.trans (congrArg some (by kernel_rfl))
 f285:=Tryz.func342.trans (congrArg some (by kernel_rfl))
 f286:=Tryz.func343.trans (congrArg some (by kernel_rfl))
 f317:=Tryz.func357.trans (congrArg some (by kernel_rfl))
 f318:=Tryz.func358.trans (congrArg some (by kernel_rfl))
 f319:=Tryz.func359.trans (congrArg some (by kernel_rfl))
 f320:=Tryz.func360.trans (congrArg some (by kernel_rfl))
 f337:=Tryz.func373.trans (congrArg some (by kernel_rfl))
 f338:=Tryz.func374.trans (congrArg some (by kernel_rfl))
 t0:=Tryz.underlying0
 a0:=Tryz.isAgg0
 z0:=Tryz.sizeOf0
 v0:=Tryz.zeroValue0
 t2:=Tryz.underlying2
 a2:=Tryz.isAgg2
 z2:=Tryz.sizeOf2
 v2:=Tryz.zeroValue2
 t3:=Tryz.underlying3
 a3:=Tryz.isAgg3
 z3:=Tryz.sizeOf3
 v3:=Tryz.zeroValue3
 t4:=Tryz.underlying4
 a4:=Tryz.isAgg4
 z4:=Tryz.sizeOf4
 v4:=Tryz.zeroValue4
 t5:=Tryz.underlying5
 a5:=Tryz.isAgg5
 z5:=Tryz.sizeOf5
 v5:=Tryz.zeroValue5
 t9:=Tryz.underlying9
 a9:=Tryz.isAgg9
 z9:=Tryz.sizeOf9
 v9:=Tryz.zeroValue9
 t20:=Tryz.underlying20
 a20:=Tryz.isAgg20
 z20:=Tryz.sizeOf20
 v20:=Tryz.zeroValue20
 t37:=Tryz.underlying289
 a37:=Tryz.isAgg289
 z37:=Tryz.sizeOf289
 v37:=Tryz.zeroValue289
 t46:=Tryz.underlying214
 a46:=Tryz.isAgg214
 z46:=Tryz.sizeOf214
 v46:=Tryz.zeroValue214
 t51:=Tryz.underlying262
 a51:=Tryz.isAgg262
 z51:=Tryz.sizeOf262
 v51:=Tryz.zeroValue262
 t53:=Tryz.underlying264
 a53:=Tryz.isAgg264
 z53:=Tryz.sizeOf264
 v53:=Tryz.zeroValue264
 t171:=Tryz.underlying384
 a171:=Tryz.isAgg384
 z171:=Tryz.sizeOf384
 v171:=Tryz.zeroValue384
 t173:=Tryz.underlying386
 a173:=Tryz.isAgg386
 z173:=Tryz.sizeOf386
 v173:=Tryz.zeroValue386
 t212:=Tryz.underlying404
 a212:=Tryz.isAgg404
 z212:=Tryz.sizeOf404
 v212:=Tryz.zeroValue404
 t213:=Tryz.underlying405
 a213:=Tryz.isAgg405
 z213:=Tryz.sizeOf405
 t232:=Tryz.underlying432
 a232:=Tryz.isAgg432
 z232:=Tryz.sizeOf432
 v232:=Tryz.zeroValue432
 t233:=Tryz.underlying433
 a233:=Tryz.isAgg433
 z233:=Tryz.sizeOf433
 v233:=Tryz.zeroValue433
 g17:=by kernel_rfl
 g18:=by kernel_rfl
 g19:=by kernel_rfl
 i0:=by kernel_rfl
 i2:=by kernel_rfl
 i3:=by kernel_rfl
 i4:=by kernel_rfl
 i5:=by kernel_rfl
 i9:=by kernel_rfl
 i20:=by kernel_rfl
 i37:=by kernel_rfl
 i46:=by kernel_rfl
 i51:=by kernel_rfl
 i53:=by kernel_rfl
 i171:=by kernel_rfl
 i173:=by kernel_rfl
 i212:=by kernel_rfl
 i232:=by kernel_rfl
 i233:=by kernel_rfl
 m17:=by kernel_rfl
 m18:=by kernel_rfl
 m19:=by kernel_rfl}
open Go.RowKit Go.Sort Go.Lib in
theorem Tryz.strconv_Itoa(n:Int)(h0: -9223372036854775808≤n)(h1:n≤9223372036854775807)(w:World)(htab:Lib.TabIs E9c w "internal/strconv.uint64pow10" .u64 Lib.pow10Tab):
 Calls E9c 245 #[.int .i64 n] w fun e w'=>e=.returned (.string ⟨(Lib.itoa n).toArray⟩)∧∃k os,w'=grow (w.drewN k) os:=Any.strconv_Itoa C0c n h0 h1 w htab
def B5b:Go.Shelf.Ren:=⟨fun|99=>172|206=>235|n=>n,fun|9=>9|4=>4|3=>3|n=>n,fun|n=>n⟩
theorem D1c:Go.Proofs.Lays.n99 E9c B5b:={
 mixed:=by kernel_rfl
 f99:=Tryz.func172.trans (congrArg some (by kernel_rfl))
 f206:=Tryz.func235.trans (congrArg some (by kernel_rfl))
 t3:=Tryz.underlying3
 a3:=Tryz.isAgg3
 z3:=Tryz.sizeOf3
 v3:=Tryz.zeroValue3
 t4:=Tryz.underlying4
 a4:=Tryz.isAgg4
 z4:=Tryz.sizeOf4
 v4:=Tryz.zeroValue4
 t9:=Tryz.underlying9
 a9:=Tryz.isAgg9
 z9:=Tryz.sizeOf9
 v9:=Tryz.zeroValue9}
open Go.RowKit Go.Lib in
theorem Tryz.strings_HasPrefix(s p:ByteArray)(w:World):
 Calls E9c 172 #[.string s,.string p] w fun e w'=>e=.returned (.bool (Lib.hasPrefix s.data.toList p.data.toList))∧w'=w:=Any.strings_HasPrefix D1c s p w
def B3f:Go.Shelf.Ren:=⟨fun|100=>185|207=>247|n=>n,fun|9=>9|4=>4|3=>3|n=>n,fun|n=>n⟩
theorem C5d:Go.Proofs.Lays.n100 E9c B3f:={
 mixed:=by kernel_rfl
 f100:=Tryz.func185.trans (congrArg some (by kernel_rfl))
 f207:=Tryz.func247.trans (congrArg some (by kernel_rfl))
 t3:=Tryz.underlying3
 a3:=Tryz.isAgg3
 z3:=Tryz.sizeOf3
 v3:=Tryz.zeroValue3
 t4:=Tryz.underlying4
 a4:=Tryz.isAgg4
 z4:=Tryz.sizeOf4
 v4:=Tryz.zeroValue4
 t9:=Tryz.underlying9
 a9:=Tryz.isAgg9
 z9:=Tryz.sizeOf9
 v9:=Tryz.zeroValue9}
open Go.RowKit Go.Lib in
theorem Tryz.strings_HasSuffix(s p:ByteArray)(w:World)(hs:s.size≤9223372036854775807):
 Calls E9c 185 #[.string s,.string p] w fun e w'=>e=.returned (.bool (Lib.hasSuffix s.data.toList p.data.toList))∧w'=w:=Any.strings_HasSuffix C5d s p w hs
def B3e:Go.Shelf.Ren:=⟨fun|102=>344|209=>361|207=>247|n=>n,fun|9=>9|4=>4|3=>3|n=>n,fun|n=>n⟩
theorem C5c:Go.Proofs.Lays.n102 E9c B3e:={
 mixed:=by kernel_rfl
 f102:=Tryz.func344.trans (congrArg some (by kernel_rfl))
 f207:=Tryz.func247.trans (congrArg some (by kernel_rfl))
 f209:=Tryz.func361.trans (congrArg some (by kernel_rfl))
 t3:=Tryz.underlying3
 a3:=Tryz.isAgg3
 z3:=Tryz.sizeOf3
 v3:=Tryz.zeroValue3
 t4:=Tryz.underlying4
 a4:=Tryz.isAgg4
 z4:=Tryz.sizeOf4
 v4:=Tryz.zeroValue4
 t9:=Tryz.underlying9
 a9:=Tryz.isAgg9
 z9:=Tryz.sizeOf9
 v9:=Tryz.zeroValue9}
open Go.RowKit Go.Lib in
theorem Tryz.strings_TrimSuffix(s p:ByteArray)(w:World)(hs:s.size≤9223372036854775807):
 Calls E9c 344 #[.string s,.string p] w fun e w'=>e=.returned (.string ⟨(Lib.trimSuffix s.data.toList p.data.toList).toArray⟩)∧w'=w:=Any.strings_TrimSuffix C5c s p w hs
def B3a:Go.Shelf.Ren:=⟨fun|146=>169|221=>233|268=>286|138=>248|143=>232|195=>295|197=>251|218=>296|219=>285|260=>299|217=>253|225=>317|224=>318|267=>319|266=>300|314=>339|n=>n,fun|9=>9|31=>30|3=>3|4=>4|0=>0|105=>309|21=>21|5=>5|46=>214|119=>372|139=>375|138=>374|146=>382|51=>262|n=>n,fun|1=>0|3=>1|4=>2|n=>n⟩
theorem C4y:Go.Proofs.Lays.n146 E9c B3a:={
 mixed:=by kernel_rfl
 f138:=Tryz.func248.trans (congrArg some (by kernel_rfl))
 f143:=Tryz.func232.trans (congrArg some (by kernel_rfl))
 f146:=Tryz.func169.trans (congrArg some (by kernel_rfl))
 f195:=Tryz.func295.trans (congrArg some (by kernel_rfl))
 f197:=Tryz.func251.trans (congrArg some (by kernel_rfl))
 f217:=Tryz.func253.trans (congrArg some (by kernel_rfl))
 f218:=Tryz.func296.trans (congrArg some (by kernel_rfl))
 f219:=Tryz.func285.trans (congrArg some (by kernel_rfl))
 f221:=Tryz.func233.trans (congrArg some (by kernel_rfl))
 f224:=Tryz.func318.trans (congrArg some (by kernel_rfl))
 f225:=Tryz.func317.trans (congrArg some (by kernel_rfl))
 f260:=Tryz.func299.trans (congrArg some (by kernel_rfl))
 f266:=Tryz.func300.trans (congrArg some (by kernel_rfl))
 f267:=Tryz.func319.trans (congrArg some (by kernel_rfl))
 f268:=Tryz.func286.trans (congrArg some (by kernel_rfl))
 f314:=Tryz.func339.trans (congrArg some (by kernel_rfl))
 t0:=Tryz.underlying0
 a0:=Tryz.isAgg0
 z0:=Tryz.sizeOf0
 v0:=Tryz.zeroValue0
 t3:=Tryz.underlying3
 a3:=Tryz.isAgg3
 z3:=Tryz.sizeOf3
 v3:=Tryz.zeroValue3
 t4:=Tryz.underlying4
 a4:=Tryz.isAgg4
 z4:=Tryz.sizeOf4
 v4:=Tryz.zeroValue4
 t5:=Tryz.underlying5
 a5:=Tryz.isAgg5
 z5:=Tryz.sizeOf5
 v5:=Tryz.zeroValue5
 t9:=Tryz.underlying9
 a9:=Tryz.isAgg9
 z9:=Tryz.sizeOf9
 v9:=Tryz.zeroValue9
 t21:=Tryz.underlying21
 a21:=Tryz.isAgg21
 z21:=Tryz.sizeOf21
 v21:=Tryz.zeroValue21
 t31:=Tryz.underlying30
 a31:=Tryz.isAgg30
 z31:=Tryz.sizeOf30
 v31:=Tryz.zeroValue30
 t46:=Tryz.underlying214
 a46:=Tryz.isAgg214
 z46:=Tryz.sizeOf214
 v46:=Tryz.zeroValue214
 t51:=Tryz.underlying262
 a51:=Tryz.isAgg262
 z51:=Tryz.sizeOf262
 v51:=Tryz.zeroValue262
 t105:=Tryz.underlying309
 a105:=Tryz.isAgg309
 z105:=Tryz.sizeOf309
 v105:=Tryz.zeroValue309
 t119:=Tryz.underlying372
 a119:=Tryz.isAgg372
 z119:=Tryz.sizeOf372
 t138:=Tryz.underlying374
 a138:=Tryz.isAgg374
 z138:=Tryz.sizeOf374
 v138:=Tryz.zeroValue374
 t139:=Tryz.underlying375
 a139:=Tryz.isAgg375
 z139:=Tryz.sizeOf375
 v139:=Tryz.zeroValue375
 t146:=Tryz.underlying382
 a146:=Tryz.isAgg382
 z146:=Tryz.sizeOf382
 v146:=Tryz.zeroValue382
 g1:=by kernel_rfl
 g3:=by kernel_rfl
 g4:=by kernel_rfl}
open Go.RowKit Go.Lib in
theorem Tryz.strings_Split(s sep:ByteArray)(m:Int)(w:World)(hs:s.size<4294967281)(hm:w.cell? ⟨0,0,none⟩=some (.int .i64 m))(h1:1≤sep.size):
 Calls E9c 169 #[.string s,.string sep] w fun e w'=>
  e=.returned (.slice (some ⟨w.heap.size,0,none⟩) (Lib.countB s sep+1) (Lib.countB s sep+1))∧w'=w.alloc (.cells ((Lib.splitB sep 0 (Lib.countB s sep) s).map E9z).toArray 9):=Any.strings_Split C4y (by kernel_rfl) s sep m w hs hm h1
def A4n:Go.Shelf.Ren:=⟨fun|155=>138|154=>186|138=>248|165=>249|143=>232|166=>250|197=>251|169=>252|195=>295|218=>296|240=>297|241=>298|219=>285|260=>299|276=>325|277=>326|217=>253|225=>317|224=>318|267=>319|266=>300|314=>339|n=>n,fun|9=>9|3=>3|4=>4|72=>303|0=>0|76=>307|105=>309|21=>21|5=>5|70=>301|20=>20|37=>289|75=>306|127=>351|164=>205|46=>214|119=>372|139=>375|138=>374|146=>382|51=>262|80=>311|n=>n,fun|1=>0|3=>1|4=>2|n=>n⟩
theorem C4x:Go.Proofs.Lays.n155 E9c A4n:={
 mixed:=by kernel_rfl
 f138:=Tryz.func248.trans (congrArg some (by kernel_rfl))
 f143:=Tryz.func232.trans (congrArg some (by kernel_rfl))
 f154:=Tryz.func186.trans (congrArg some (by kernel_rfl))
 f155:=Tryz.func138.trans (congrArg some (by kernel_rfl))
 f165:=Tryz.func249.trans (congrArg some (by kernel_rfl))
 f166:=Tryz.func250.trans (congrArg some (by kernel_rfl))
 f169:=Tryz.func252.trans (congrArg some (by kernel_rfl))
 f195:=Tryz.func295.trans (congrArg some (by kernel_rfl))
 f197:=Tryz.func251.trans (congrArg some (by kernel_rfl))
 f217:=Tryz.func253.trans (congrArg some (by kernel_rfl))
 f218:=Tryz.func296.trans (congrArg some (by kernel_rfl))
 f219:=Tryz.func285.trans (congrArg some (by kernel_rfl))
 f224:=Tryz.func318.trans (congrArg some (by kernel_rfl))
 f225:=Tryz.func317.trans (congrArg some (by kernel_rfl))
 f240:=Tryz.func297.trans (congrArg some (by kernel_rfl))
 f241:=Tryz.func298.trans (congrArg some (by kernel_rfl))
 f260:=Tryz.func299.trans (congrArg some (by kernel_rfl))
 f266:=Tryz.func300.trans (congrArg some (by kernel_rfl))
 f267:=Tryz.func319.trans (congrArg some (by kernel_rfl))
 f276:=Tryz.func325.trans (congrArg some (by kernel_rfl))
 f277:=Tryz.func326.trans (congrArg some (by kernel_rfl))
 f314:=Tryz.func339.trans (congrArg some (by kernel_rfl))
 t0:=Tryz.underlying0
 a0:=Tryz.isAgg0
 z0:=Tryz.sizeOf0
 v0:=Tryz.zeroValue0
 t3:=Tryz.underlying3
 a3:=Tryz.isAgg3
 z3:=Tryz.sizeOf3
 v3:=Tryz.zeroValue3
 t4:=Tryz.underlying4
 a4:=Tryz.isAgg4
 z4:=Tryz.sizeOf4
 v4:=Tryz.zeroValue4
 t5:=Tryz.underlying5
 a5:=Tryz.isAgg5
 z5:=Tryz.sizeOf5
 v5:=Tryz.zeroValue5
 t9:=Tryz.underlying9
 a9:=Tryz.isAgg9
 z9:=Tryz.sizeOf9
 v9:=Tryz.zeroValue9
 t20:=Tryz.underlying20
 a20:=Tryz.isAgg20
 z20:=Tryz.sizeOf20
 v20:=Tryz.zeroValue20
 t21:=Tryz.underlying21
 a21:=Tryz.isAgg21
 z21:=Tryz.sizeOf21
 v21:=Tryz.zeroValue21
 t37:=Tryz.underlying289
 a37:=Tryz.isAgg289
 z37:=Tryz.sizeOf289
 v37:=Tryz.zeroValue289
 t46:=Tryz.underlying214
 a46:=Tryz.isAgg214
 z46:=Tryz.sizeOf214
 v46:=Tryz.zeroValue214
 t51:=Tryz.underlying262
 a51:=Tryz.isAgg262
 z51:=Tryz.sizeOf262
 v51:=Tryz.zeroValue262
 t70:=Tryz.underlying301
 a70:=Tryz.isAgg301
 z70:=Tryz.sizeOf301
 v70:=Tryz.zeroValue301
 t72:=Tryz.underlying303
 a72:=Tryz.isAgg303
 z72:=Tryz.sizeOf303
 v72:=Tryz.zeroValue303
 t75:=Tryz.underlying306
 a75:=Tryz.isAgg306
 z75:=Tryz.sizeOf306
 v75:=Tryz.zeroValue306
 t76:=Tryz.underlying307
 a76:=Tryz.isAgg307
 z76:=Tryz.sizeOf307
 v76:=Tryz.zeroValue307
 t105:=Tryz.underlying309
 a105:=Tryz.isAgg309
 z105:=Tryz.sizeOf309
 v105:=Tryz.zeroValue309
 t119:=Tryz.underlying372
 a119:=Tryz.isAgg372
 z119:=Tryz.sizeOf372
 t127:=Tryz.underlying351
 a127:=Tryz.isAgg351
 z127:=Tryz.sizeOf351
 v127:=Tryz.zeroValue351
 t138:=Tryz.underlying374
 a138:=Tryz.isAgg374
 z138:=Tryz.sizeOf374
 v138:=Tryz.zeroValue374
 t139:=Tryz.underlying375
 a139:=Tryz.isAgg375
 z139:=Tryz.sizeOf375
 v139:=Tryz.zeroValue375
 t146:=Tryz.underlying382
 a146:=Tryz.isAgg382
 z146:=Tryz.sizeOf382
 v146:=Tryz.zeroValue382
 t164:=Tryz.underlying205
 a164:=Tryz.isAgg205
 z164:=Tryz.sizeOf205
 v164:=Tryz.zeroValue205
 g1:=by kernel_rfl
 g3:=by kernel_rfl
 g4:=by kernel_rfl}
theorem A5v:Builder.Extra E9c A4n:={
 sizeBuilder:=by kernel_rfl
 liesBuilder:=by kernel_rfl
 t5:=Tryz.underlying5
 a5:=Tryz.isAgg5
 z5:=Tryz.sizeOf5
 v5:=Tryz.zeroValue5
 infoByte:=by kernel_rfl
 cellsByte:=by kernel_rfl
 sizeByte:=by kernel_rfl
 neB5:=by decide}
open Go.RowKit Go.Lib in
theorem Tryz.strings_ReplaceAll(s old new:ByteArray)(m:Int)(w:World)(hs:s.size<4294967281)(hm:w.cell? ⟨0,0,none⟩=some (.int .i64 m))(h1:1≤old.size)(hlen:s.size+Lib.countB s old*new.size≤140737488355328):
 Calls E9c 138 #[.string s,.string old,.string new] w fun e w'=>
  e=.returned (.string ⟨(Lib.replaceAll s.data.toList old.data.toList new.data.toList).toArray⟩)∧Below w.heap.size w w':=Any.strings_ReplaceAll C4x A5v s old new m w hs hm h1 hlen
end Go.Proofs
namespace Go.Proofs.YtckdkhhpjnefpaaGreatDoor
open Go Go.Eng Go.RowKit
theorem St.below{i:Imm}{L:SH}{w w':World}(h:St i L w)(hb:Below w.heap.size w w'):St i L w':=by
 have lt:∀{b:Nat}{o:Obj},w.heap[b]?=some o→b<w.heap.size:=fun h=>(Array.getElem?_eq_some_iff.1 h).1
 refine⟨hb.os.trans h.os,hb.tape.trans h.tape,hb.output.trans h.output,fun b o ho=>?_,h.nodup,fun p hp=>?_,h.sep⟩
 ·have:=h.imm b o ho;rw[hb.block b (lt this)];exact this
 ·have:=h.own p hp;rw[hb.block p.1 (lt this)];exact this
theorem A0z{P:Program}{g:FuncId}{args:List Value}{i:Imm}{L:SH}{v:Value}(h:∀w,Calls P g args.toArray w fun e w'=>e=.returned v∧w'=w):E6 P g args i L fun r i' L'=>r=v∧i'=i∧L'=L:=
 fun w hw=>(h w).mono fun e w' ⟨h1,h2⟩=>⟨v,i,L,h1,Imm.le.refl i,by rw[h2];exact hw,rfl,rfl,rfl⟩
theorem E6.below{P:Program}{g:FuncId}{args:List Value}{i:Imm}{L:SH}{v:Value}(h:∀w,St i L w→Calls P g args.toArray w fun e w'=>e=.returned v∧Below w.heap.size w w'):E6 P g args i L fun r i' L'=>r=v∧i'=i∧L'=L:=
 fun w hw=>(h w hw).mono fun e w' ⟨h1,h2⟩=>⟨v,i,L,h1,Imm.le.refl i,St.below hw h2,rfl,rfl,rfl⟩
structure Glb(i:Imm):Prop where
 maxLen:∃m cs t fz,i.blk 0=some (.cells (E9d cs) t fz)∧cs[0]?=some (.int .i64 m)
 pow:∀L w,St i L w→Lib.TabIs E9c w "internal/strconv.uint64pow10" .u64 Lib.pow10Tab
theorem Glb.le{i i':Imm}(h:Glb i)(hi:i.le i'):Glb i':=by
 obtain⟨⟨m,cs,t,fz,h1,h2⟩,h3⟩:=h;exact⟨⟨m,cs,t,fz,hi.blk _ _ h1,h2⟩,fun L w hw=>h3 L w (hw.weaken hi)⟩
theorem Glb.cell{i:Imm}(h:Glb i):∃m,∀L w,St i L w→w.cell? ⟨0,0,none⟩=some (.int .i64 m):=by
 obtain⟨m,cs,t,fz,h1,h2⟩:=h.maxLen;exact⟨m,fun L w hw=>by rw[P7 (hw.imm _ _ h1) 0];exact h2⟩
theorem C3k(l:List UInt8):(F0y l.toArray).size=l.length:=by show l.toArray.size=_;simp
theorem X4(s p:ByteArray)(i:Imm)(L:SH):
 E6 E9c 172 [.string s,.string p] i L fun r i' L'=>∃b,r=.bool b∧(b=true→p.size≤s.size)∧i'=i∧L'=L:=by
 refine(A0z (v:=.bool (Lib.hasPrefix s.data.toList p.data.toList)) fun w=>Tryz.strings_HasPrefix s p w).mono ?_
 rintro r i' L' _ ⟨rfl,rfl,rfl⟩;refine⟨_,rfl,fun h=>?_,rfl,rfl⟩;unfold Lib.hasPrefix at h
 have:=(List.isPrefixOf_iff_prefix.1 h).length_le
 rw[Lib.size_eq,Lib.size_eq];exact this
theorem A7m(s p:ByteArray)(i:Imm)(L:SH)(hs:s.size≤9223372036854775807):
 E6 E9c 185 [.string s,.string p] i L fun r i' L'=>∃b,r=.bool b∧(b=true→p.size≤s.size)∧i'=i∧L'=L:=by
 refine(A0z (v:=.bool (Lib.hasSuffix s.data.toList p.data.toList)) fun w=>Tryz.strings_HasSuffix s p w hs).mono ?_
 rintro r i' L' _ ⟨rfl,rfl,rfl⟩;refine⟨_,rfl,fun h=>?_,rfl,rfl⟩;unfold Lib.hasSuffix at h
 have:=(List.isSuffixOf_iff_suffix.1 h).length_le
 rw[Lib.size_eq,Lib.size_eq];exact this
theorem C5e(s p:ByteArray)(i:Imm)(L:SH)(hs:s.size≤9223372036854775807):
 E6 E9c 344 [.string s,.string p] i L fun r i' L'=>∃s',r=.string s'∧s'.size≤s.size∧i'=i∧L'=L:=by
 refine(A0z fun w=>Tryz.strings_TrimSuffix s p w hs).mono ?_
 rintro r i' L' _ ⟨rfl,rfl,rfl⟩;refine⟨_,rfl,?_,rfl,rfl⟩;rw[C3k,Lib.size_eq];unfold Lib.trimSuffix;split
 ·simp
 ·exact E9q _
theorem A5p:∀(l:List UInt8)(c:UInt8),-1≤Lib.indexByte l c∧Lib.indexByte l c<l.length
 |[],c=>by simp[Lib.indexByte]
 |b::l,c=>by
  have ih:=A5p l c;unfold Lib.indexByte;rw[F1h];split
  ·omega
  ·split
   ·omega
   ·omega
theorem B4n(s:ByteArray)(c:Int)(i:Imm)(L:SH):
 E6 E9c 187 [.string s,.int .u8 c] i L fun r i' L'=>∃x,r=.int .i64 x∧ -1≤x∧x<s.size∧i'=i∧L'=L:=by
 refine(A0z fun w=>Tryz.strings_IndexByte s c w).mono ?_
 rintro r i' L' _ ⟨rfl,rfl,rfl⟩
 have:=A5p s.data.toList c.toNat.toUInt8
 exact⟨_,rfl,this.1,by rw[Lib.size_eq];exact this.2,rfl,rfl⟩
theorem A9k(s cs:ByteArray)(i:Imm)(L:SH)(hcs:cs.size<4294967281)(hascii:cs.data.toList.all (fun b=>decide (b.toNat<128))=true):
 E6 E9c 190 [.string s,.string cs] i L fun r i' L'=>∃s',r=.string s'∧s'.size≤s.size∧i'=i∧L'=L:=by
 have ha:∀(j:Nat) b,cs.data.toList[j]?=some b→b.toNat<128:=fun j b hb=>by simpa using F0c.1 hascii b (E9g hb)
 refine(E6.below fun w _=>Any.strings_TrimLeft_laid C4v (by kernel_rfl) s cs w hcs ha).mono ?_
 rintro r i' L' _ ⟨rfl,rfl,rfl⟩;refine⟨_,rfl,?_,rfl,rfl⟩;rw[C3k,Lib.size_eq];unfold Lib.trimLeftS;exact(List.dropWhile_sublist _).length_le
theorem E4p(n:Int)(i:Imm)(L:SH)(hg:Glb i)(h0: -9223372036854775808≤n)(h1:n≤9223372036854775807):
 E6 E9c 245 [.int .i64 n] i L fun r i' L'=>∃s',r=.string s'∧i'=i∧L'=L:=by
 refine(E6.below (v:=.string ⟨(Lib.itoa n).toArray⟩) fun w hw=>(Tryz.strconv_Itoa n h0 h1 w (hg.pow L w hw)).mono ?_).mono ?_
 ·rintro e w' ⟨h2,k,os,rfl⟩;refine⟨h2,rfl,rfl,rfl,by show _≤(w.heap++os).size;simp,fun b hb=>?_⟩
  show(w.heap++os)[b]?=_
  rw[Array.getElem?_append_left hb]
 ·rintro r i' L' _ ⟨rfl,rfl,rfl⟩;exact⟨_,rfl,rfl,rfl⟩
theorem splitB_all(sep:ByteArray)(B:Nat):∀(k:Nat)(s:ByteArray),s.size≤B→(∀p∈Lib.splitB sep 0 k s,p.size≤B)∧1≤(Lib.splitB sep 0 k s).length∧(Lib.splitB sep 0 k s).length≤k+1
 |0,s,h=>by
  rw[Lib.splitB_zero];exact⟨fun p hp=>by simp at hp;subst hp;exact h,by simp,by simp⟩
 |k+1,s,h=>by
  unfold Lib.splitB;split
  ·exact⟨fun p hp=>by simp at hp;subst hp;exact h,by simp,by simp⟩
  ·have ih:=splitB_all sep B k (s.extract ((Lib.indexB s sep).toNat+sep.size) s.size) (by rw[F0f];omega);refine⟨fun p hp=>?_,by simp,by simp;omega⟩;rcases F0b.1 hp with rfl|hp
   ·rw[F0f];omega
   ·exact ih.1 p hp
theorem D7e(B:Nat)(s sep:ByteArray)(i:Imm)(L:SH)(hg:Glb i)(hs:s.size<4294967281)(h1:1≤sep.size)(hB:s.size≤B):
 E6 E9c 169 [.string s,.string sep] i L fun r i' L'=>(∃ao ss,r=.slice ao ss.length ss.length∧Sl i' r 1 ss.length (strs ss)∧(∀p∈ss,p.size≤B)∧1≤ss.length∧ss.length≤s.size+1)∧L'=L:=by
 obtain⟨m,hm⟩:=hg.cell;intro w hw
 refine(Tryz.strings_Split s sep m w hs (hm L w hw) h1).mono ?_
 rintro e w' ⟨h2,rfl⟩;have hle:=Lib.countB_le sep h1 s.size s (E9q _);obtain⟨k1,k2,k3⟩:=splitB_all sep B (Lib.countB s sep) s hB;have hlen:(Lib.splitB sep 0 (Lib.countB s sep) s).length=Lib.countB s sep+1:=Lib.splitB_all sep h1 0 _ s rfl;have hst:St i ((w.heap.size,.cells ((Lib.splitB sep 0 (Lib.countB s sep) s).map E9z).toArray 9 (0,0))::L) (w.alloc (.cells ((Lib.splitB sep 0 (Lib.countB s sep) s).map E9z).toArray 9)):=St.push hw rfl rfl rfl rfl;obtain⟨h3,h4⟩:=hst.freeze;refine⟨_,_,L,h2,h3,h4,⟨some ⟨w.heap.size,0,none⟩,Lib.splitB sep 0 (Lib.countB s sep) s,by rw[hlen],?_,k1,k2,by omega⟩,rfl⟩;rw[←hlen];exact⟨_,_,rfl,by simp[strs],.inr ⟨w.heap.size,0,strs (Lib.splitB sep 0 (Lib.countB s sep) s),9,(0,0),rfl,by simp[Imm.add,strs],fun j _=>by rw[F1b]⟩⟩
theorem B3t(old new:List UInt8):∀(k:Nat)(s:List UInt8),(Lib.replaceK old new k s).length≤s.length+k*new.length
 |0,s=>by simp[Lib.replaceK]
 |k+1,s=>by
  unfold Lib.replaceK;split
  ·rw[F1f];omega
  ·rename_i hne
   have h0:0≤Lib.index s old:=by
    have:=Lib.index_ge s old
    have h1:Lib.index s old≠ -1:=fun e=>hne (by simp[e])
    omega
   have hr:=Lib.index_room s old h0;have ih:=B3t old new k (s.drop ((Lib.index s old).toNat+old.length));simp only[E9h,List.length_take,List.length_drop] at*;rw[F1f,Nat.one_mul];omega
theorem Z1(s old new:ByteArray)(i:Imm)(L:SH)(hg:Glb i)(hs:s.size≤1048576)(h1:1≤old.size)(h2:new.size≤1024):
 E6 E9c 138 [.string s,.string old,.string new] i L fun r i' L'=>∃s',r=.string s'∧s'.size≤s.size+(s.size+1)*new.size∧i'=i∧L'=L:=by
 obtain⟨m,hm⟩:=hg.cell;have hle:=Lib.countB_le old h1 s.size s (E9q _);have hmul:Lib.countB s old*new.size≤1048576*1024:=Nat.mul_le_mul (by omega) h2
 refine(E6.below fun w hw=>Tryz.strings_ReplaceAll s old new m w (by omega) (hm L w hw) h1 (by omega)).mono ?_
 rintro r i' L' _ ⟨rfl,rfl,rfl⟩;refine⟨_,rfl,?_,rfl,rfl⟩;rw[C3k,Lib.size_eq s,Lib.size_eq new];unfold Lib.replaceAll Lib.replace;split
 ·omega
 ·refine Nat.le_trans (B3t _ _ _ _) (Nat.add_le_add_left (Nat.mul_le_mul_right _ ?_) _);unfold Lib.replaceNum;rw[if_pos (.inl (by omega))];exact Lib.count_le _ _
end Go.Proofs.YtckdkhhpjnefpaaGreatDoor
namespace Go.Proofs.YtckdkhhpjnefpaaGreatDoor
open Go Go.Eng
def YN(v:Value)(i i':Imm)(L L':SH):Prop:=∃b,v=.bool b∧i'=i∧L'=L
abbrev Y1(s:ByteArray):Prop:=s.size≤4294967280
theorem in_t(s set:ByteArray)(i:Imm)(L:SH)(hs:Y1 s):
 E6 E9c 139 [.string s,.string set] i L fun v i' L'=>YN v i i' L L':=by
 refine A5 Tryz.func139 rfl rfl (by simp) rfl ?_;repeat' (first|refine zp rfl ?_|refine zn ?_|refine zs [0,1] rfl ?_)
 refine B1 [0,1,5] (fun m vs i' L'=>∃k:Nat,m=s.size-k∧k≤s.size∧vs=[.string s,.string set,.int .i64 (k:Int)]∧i'=i∧L'=L) s.size ⟨0,rfl,E9k _,rfl,rfl,rfl⟩ ?_;rintro m g vs i' L' hi ⟨k,rfl,hk,rfl,rfl,rfl⟩;repeat' (first|refine zp rfl ?_|refine zn ?_|refine A2 rfl ?_|refine A0 rfl ?_|refine A3 ?_|refine I1 rfl rfl rfl (fun h=>?_) (fun h=>?_)|refine zd rfl rfl (by omega) rfl ?_|refine P8 A1 rfl rfl rfl rfl (by omega) (fun c hc0 hc1=>?_)|(refine A7 (B4n _ _ _ _) rfl (by kernel_rfl) rfl ?_;rintro _ _ _-⟨x,rfl,hx0,hx1,rfl,rfl⟩))
 ·exact⟨_,rfl,rfl,rfl⟩
 ·exact⟨s.size-(k+1),by omega,k+1,rfl,by omega,rfl,rfl,rfl⟩
 ·exact⟨_,rfl,rfl,rfl⟩
theorem D1e(s:ByteArray)(i:Imm)(L:SH)(hs:Y1 s):
 E6 E9c 167 [.string s] i L fun v i' L'=>YN v i i' L L':=by
 refine A5 Tryz.func167 rfl rfl (by simp) rfl ?_;repeat' (first|refine zp rfl ?_|refine zn ?_|refine zs [0,1] rfl ?_)
 refine B1 [0,3] (fun m vs i' L'=>∃k:Nat,m=s.size-k∧k≤s.size∧vs=[.string s,.int .i64 (k:Int)]∧i'=i∧L'=L) s.size ⟨0,rfl,E9k _,rfl,rfl,rfl⟩ ?_;rintro m g vs i' L' hi ⟨k,rfl,hk,rfl,rfl,rfl⟩;repeat' (first|refine zp rfl ?_|refine zn ?_|refine A2 rfl ?_|refine A0 rfl ?_|refine A3 ?_|refine I1 rfl rfl rfl (fun h=>?_) (fun h=>?_)|refine zd rfl rfl (by omega) rfl ?_|refine P8 A1 rfl rfl rfl rfl (by omega) (fun c hc0 hc1=>?_)|refine H0 rfl rfl rfl (fun h=>?_) (fun h=>?_))
 all_goals first|exact⟨_,rfl,rfl,rfl⟩|exact⟨s.size-(k+1),by omega,k+1,rfl,by omega,rfl,rfl,rfl⟩
theorem W2(s:ByteArray)(i:Imm)(L:SH)(hs:Y1 s):
 E6 E9c 113 [.string s] i L fun v i' L'=>YN v i i' L L':=by
 refine A5 Tryz.func113 rfl rfl (by simp) rfl ?_;repeat' (first|refine zp rfl ?_|refine zn ?_|refine A3 ?_|refine R4 rfl rfl rfl (fun h=>?_) (fun h=>?_)|refine O5 rfl rfl rfl (fun h=>?_) (fun h=>?_)|refine C9 _ (in_t _ _ _ _ (by first|omega|decide)) rfl (by kernel_rfl) rfl ?_ ?_<;>rintro _ _-⟨rfl,rfl⟩)
 all_goals exact⟨_,rfl,rfl,rfl⟩
theorem C3a(s:ByteArray)(i:Imm)(L:SH)(hs:Y1 s):
 E6 E9c 114 [.string s] i L fun v i' L'=>YN v i i' L L':=by
 refine A5 Tryz.func114 rfl rfl (by simp) rfl ?_;repeat' (first|refine zp rfl ?_|refine zn ?_|refine A3 ?_|refine C9 _ (D1e _ _ _ hs) rfl (by kernel_rfl) rfl ?_ ?_<;>rintro _ _-⟨rfl,rfl⟩|refine O5 rfl rfl rfl (fun h=>?_) (fun h=>?_))
 all_goals exact⟨_,rfl,rfl,rfl⟩
theorem ne_size{s:ByteArray}(h:s.toList≠(F0y #[]).toList):0<s.size:=by
 rcases Nat.eq_zero_or_pos s.size with h0|h0
 ·obtain⟨⟨l⟩⟩:=s
  have:l=[]:=F0t h0
  subst this;exact absurd rfl h
 ·exact h0
theorem E3r(s:ByteArray)(i:Imm)(L:SH)(hs:Y1 s):
 E6 E9c 93 [.string s] i L fun v i' L'=>YN v i i' L L':=by
 refine A5 Tryz.func93 rfl rfl (by simp) rfl ?_;repeat' (first|refine zp rfl ?_|refine zn ?_|refine A3 ?_|refine R4 rfl rfl rfl (fun h=>?_) (fun h=>?_)|refine O5 rfl rfl rfl (fun h=>?_) (fun h=>?_)|refine C9 _ (in_t _ _ _ _ (by first|omega|decide)) rfl (by kernel_rfl) rfl ?_ ?_<;>rintro _ _-⟨rfl,rfl⟩|refine C9q A1 rfl rfl rfl rfl (by have:=ne_size ‹_›;omega) (fun s' hs'=>?_))
 all_goals exact⟨_,rfl,rfl,rfl⟩
def A4r(B:Nat)(ss:List ByteArray):Prop:=∀s∈ss,s.size≤B
theorem C3q(v:Value)(ss:List ByteArray)(i:Imm)(L:SH)(hv:Sl i v 1 ss.length (strs ss))(hB:A4r 4294967280 ss)(hn:ss.length≤4294967280):
 E6 E9c 189 [v] i L fun v i' L'=>YN v i i' L L':=by
 obtain⟨ao,cap,hva,_⟩:=id hv;subst hva;refine A5 Tryz.func189 rfl rfl (by simp) rfl ?_;repeat' (first|refine zp rfl ?_|refine zn ?_|refine zs [0,1] rfl ?_)
 refine B1 [0,3] (fun m vs i' L'=>∃k:Nat,m=ss.length-k∧k≤ss.length∧vs=[.slice ao ss.length cap,.int .i64 (k:Int)]∧i'=i∧L'=L) ss.length ⟨0,rfl,E9k _,rfl,rfl,rfl⟩ ?_;rintro m g vs i' L' hi ⟨k,rfl,hk,rfl,rfl,rfl⟩;by_cases hlt:k<ss.length
 ·obtain⟨b1,o1,c1,t1,z1,p1,e1,g1,h1⟩:=hv.at hlt (by omega);cases e1;obtain⟨x,hx⟩:=zi ss k hlt;have q1:=h1 0 (by omega);rw[A0g,hx] at q1;have hxs:=hB x (E9g hx);repeat' (first|refine zp rfl ?_|refine zn ?_|refine A2 rfl ?_|refine A0 rfl ?_|refine A3 ?_|refine zt rfl rfl (by omega) rfl ?_|refine zd rfl rfl (by omega) rfl ?_|refine zx rfl rfl rfl (by omega) rfl ?_|refine zm g1 q1 rfl rfl rfl ?_|refine C9 _ (W2 _ _ _ (by first|omega|assumption)) rfl (by kernel_rfl) rfl ?_ ?_<;>rintro _ _-⟨rfl,rfl⟩)
  all_goals first|exact⟨_,rfl,rfl,rfl⟩|exact⟨ss.length-(k+1),by omega,k+1,rfl,by omega,rfl,rfl,rfl⟩
 ·repeat' (first|refine zp rfl ?_|refine zn ?_|refine A0 rfl ?_|refine zs [2,6] rfl ?_|refine zf rfl rfl (by omega) rfl ?_|refine O5 rfl rfl rfl (fun h=>?_) (fun h=>?_))
  all_goals exact⟨_,rfl,rfl,rfl⟩
def Fl(ics:List Value)(f:Nat→Bool)(N:Nat):Prop:=ics.length=N∧∀c,c<N→ics[c]?=some (.bool (f c))
theorem Fl.up{ics:List Value}{f:Nat→Bool}{N a b:Nat}(h:Fl ics (Glob.upF f a b) N)(hab:a≤b)(hb:b<N):Fl (ics.set b (.bool true)) (Glob.upF f a (b+1)) N:=by
 refine⟨by rw[List.length_set];exact h.1,fun c hc=>?_⟩;rw[Glob.upF_step hab];by_cases e:c=b
 ·subst e;rw[if_pos rfl,List.getElem?_set_self (by rw[h.1];exact hc)]
 ·rw[if_neg e,F0q (fun h=>e h.symm)];exact h.2 c hc
theorem Fl.rep(N:Nat):Fl (E9y N (.bool false)) (fun _=>false) N:=⟨by simp,fun c hc=>by simp[hc]⟩
structure SetC(cs:List Value)(f:Nat→Bool):Prop where
 len:cs.length=130
 star:cs[0]?=some (.bool false)
 bools:W8 cs
 set:∀c,32≤c→c≤126→cs[2+c]?=some (.bool (f c))
theorem B6k{p:ByteArray}{k:Nat}(h:p.size≤k):Glob.bt p k=0:=by
 unfold Glob.bt
 have:p[k]?=none:=by simp[h]
 rw[this];rfl
theorem C8k{p:ByteArray}{x:Nat}{f:Nat→Bool}(h:p.size≤x):Glob.rdS p x f=none:=by rw[Glob.rdS,if_neg (by omega)]
theorem D5q{p:ByteArray}{x:Nat}{f:Nat→Bool}(h:x<p.size)(hb:Glob.bt p x=93):Glob.rdS p x f=some (x,f):=by rw[Glob.rdS,if_pos h,if_pos hb]
theorem D5p{p:ByteArray}{x:Nat}{f:Nat→Bool}(h:x<p.size)(hb:Glob.bt p x≠93)(hr:¬(x+2<p.size∧Glob.bt p (x+1)=45∧Glob.bt p (x+2)≠93)):Glob.rdS p x f=Glob.rdS p (x+1) (Glob.upF f (Glob.bt p x) (Glob.bt p x+1)):=by
 rw[Glob.rdS,if_pos h,if_neg hb,if_neg hr]
theorem D5r{p:ByteArray}{x:Nat}{f:Nat→Bool}(h:x<p.size)(hb:Glob.bt p x≠93)(hr:x+2<p.size∧Glob.bt p (x+1)=45∧Glob.bt p (x+2)≠93)(hl:Glob.bt p (x+2)<Glob.bt p x):Glob.rdS p x f=none:=by
 rw[Glob.rdS,if_pos h,if_neg hb,if_pos hr,if_pos hl]
theorem C0x{p:ByteArray}{x:Nat}{f:Nat→Bool}(h:x<p.size)(hb:Glob.bt p x≠93)(hr:x+2<p.size∧Glob.bt p (x+1)=45∧Glob.bt p (x+2)≠93)(hl:¬Glob.bt p (x+2)<Glob.bt p x):Glob.rdS p x f=Glob.rdS p (x+3) (Glob.upF f (Glob.bt p x) (Glob.bt p (x+2)+1)):=by
 rw[Glob.rdS,if_pos h,if_neg hb,if_pos hr,if_neg hl]
theorem C8j{p:ByteArray}{k j:Nat}{nb:Bool}(hn:nb=decide (Glob.bt p k=33))(hj:j=if nb then k+1 else k):Glob.rdSet p k=if Glob.bt p j=93 then none else(Glob.rdS p j (fun _=>false)).map fun x=>(x.1,fun c=>x.2 c != nb):=by
 subst hn;unfold Glob.rdSet;by_cases h:Glob.bt p k=33
 ·simp[h] at hj⊢;subst hj;rfl
 ·simp[h] at hj⊢;subst hj;rfl
theorem E7a(p:ByteArray)(k:Nat)(be:Nat)(i:Imm)(L:SH)(hp:Glob.Prt p)(hs:p.size≤100000)(hk:k≤p.size):
 E6 E9c 254 [.string p,.int .i64 (k:Int),.pointer (some ⟨be,0,none⟩)] i ((be,.cells (E9y 130 (.bool false)).toArray 314 (0,0))::L) fun v i' L'=>∃(e:Int)(b:Bool)(cs':List Value),v=.tuple #[.int .i64 e,.bool b]∧L'=(be,.cells (E9d cs') 314 (0,0))::L∧((b=false∧Glob.rdSet p k=none)∨(b=true∧∃(n:Nat)(f:Nat→Bool),Glob.rdSet p k=some (n,f)∧e=n∧k≤n∧n<p.size∧SetC cs' f)):=by
 refine E6.state (K:=fun v i' L'=>∃(y:Nat×Obj)(e:Int)(b:Bool)(cs':List Value),v=.tuple #[.int .i64 e,.bool b]∧L'=y::(be,.cells (E9d cs') 314 (0,0))::L∧((b=false∧Glob.rdSet p k=none)∨(b=true∧∃(n:Nat)(f:Nat→Bool),Glob.rdSet p k=some (n,f)∧e=n∧k≤n∧n<p.size∧SetC cs' f))) ?_ ?_;rotate_left
 ·rintro v i' L' w _ hs ⟨y,e,b,cs',h1,rfl,h3⟩;exact⟨i',_,Imm.le.refl i',hs.drop,e,b,cs',h1,rfl,h3⟩
 refine G4 Tryz.func254 rfl rfl (by simp) rfl ?_;repeat' (first|refine zn ?_|fail)
 refine zr 0 ?_;iterate 2 refine zp rfl ?_
 refine zn ?_;refine zn ?_;refine K9 [0,1,2,8] (fun vs i' L'=>vs=[.string p,.int .i64 (k:Int),.pointer (some ⟨be,0,none⟩),.bool (decide (Glob.bt p k=33))]∧L'=(be,.cells (E9y 130 (.bool false)).toArray 314 (0,0))::L) ?_ ?_
 ·by_cases hlt:k<p.size
  ·repeat' (first|refine zp rfl ?_|refine zn ?_|refine zr 1 ?_|refine zt rfl rfl (by omega) rfl ?_|refine A6 (F8 A1 rfl rfl rfl (by omega)) rfl ?_|refine E1 rfl rfl rfl (fun h=>?_) (fun h=>?_))
   ·rw[decide_eq_true (by omega)];exact⟨rfl,rfl⟩
   ·rw[decide_eq_false (by omega)];exact⟨rfl,rfl⟩
  ·repeat' (first|refine zp rfl ?_|refine zn ?_|refine zr 1 ?_|refine zf rfl rfl (by omega) rfl ?_)
   rw[B6k (by omega)];exact⟨rfl,rfl⟩
 obtain⟨nb,hnb⟩:∃nb,nb=decide (Glob.bt p k=33):=⟨_,rfl⟩;rw[←hnb];rintro g vs i _ hi ⟨rfl,rfl⟩;refine K9 [0,1,2,8] (fun vs i' L'=>∃j:Nat,j=(if nb then k+1 else k)∧j≤p.size∧k≤j∧vs=[.string p,.int .i64 (j:Int),.pointer (some ⟨be,0,none⟩),.bool nb]∧L'=(be,.cells (E9y 130 (.bool false)).toArray 314 (0,0))::L) ?_ ?_
 ·have hkl:nb=true→k<p.size:=fun h=>by
   rcases Nat.lt_or_ge k p.size with h1|h1
   ·exact h1
   ·rw[hnb,B6k h1] at h;cases h
  cases nb
  ·repeat' (first|refine zn ?_|refine A0 rfl ?_|(refine zr 2 ?_;refine zp rfl ?_;refine zn ?_))
   exact⟨k,rfl,hk,E9q _,rfl,rfl⟩
  ·have hkl:=hkl rfl;repeat' (first|refine zp rfl ?_|refine zn ?_|refine A2 rfl ?_|refine zs [2,3] rfl ?_|refine zd rfl rfl (by omega) rfl ?_)
   exact⟨k+1,rfl,hkl,by omega,rfl,rfl⟩
 rintro g vs i _ hi ⟨j,hj,hjs,hkj,rfl,rfl⟩;have hrs:=C8j hnb hj;rw[hrs];clear hrs hj hnb;repeat' (first|refine zp rfl ?_|refine zn ?_|refine zs [4,5] rfl ?_|refine C1 A1 rfl rfl (fun bi=>?_))
 refine B1 [0,1,2,8,9,10] (fun m vs i' L'=>∃(x:Nat)(f:Nat→Bool)(ics:List Value),m=p.size-x∧j≤x∧x≤p.size∧Glob.rdS p j (fun _=>false)=Glob.rdS p x f∧((x=j∧f=fun _=>false)∨(j<x∧Glob.bt p j≠93))∧Fl ics f 128∧vs=[.string p,.int .i64 (x:Int),.pointer (some ⟨be,0,none⟩),.bool nb,.int .i64 (j:Int),.pointer (some ⟨bi,0,none⟩)]∧L'=(bi,.cells (E9d ics) 312 (0,0))::(be,.cells (E9y 130 (.bool false)).toArray 314 (0,0))::L) _ ⟨j,_,E9y 128 (.bool false),rfl,E9q _,hjs,rfl,.inl ⟨rfl,rfl⟩,Fl.rep 128,rfl,rfl⟩ ?_;rintro m g vs i _ hi ⟨x,f,ics,rfl,hjx,hx,hrd,hfirst,hfl,rfl,rfl⟩;by_cases hlt:x<p.size;rotate_left
 ·repeat' (first|refine zp rfl ?_|refine zn ?_|refine A2 rfl ?_|refine A0 rfl ?_|refine A3 ?_|refine zf rfl rfl (by omega) rfl ?_|refine A6 (A3a rfl rfl (by omega)) rfl ?_)
  refine⟨_,_,_,_,rfl,rfl,.inl ⟨rfl,?_⟩⟩;rw[hrd,C8k (by omega)];simp
 have hbx:=A2d hp hlt;by_cases h93:Glob.bt p x=93
 ·by_cases hxj:x=j
  ·subst hxj;repeat' (first|refine zp rfl ?_|refine zn ?_|refine A2 rfl ?_|refine A0 rfl ?_|refine A3 ?_|refine zt rfl rfl (by omega) rfl ?_|refine A6 (F8 A1 rfl rfl rfl (by omega)) rfl ?_|refine A6 (T3 rfl rfl (by omega)) rfl ?_|refine A6 (A1p rfl rfl (by omega)) rfl ?_|refine A6 (G9 rfl rfl (by omega)) rfl ?_)
   all_goals first|exact absurd h93 (by omega)|exact⟨_,_,_,_,rfl,rfl,.inl ⟨rfl,by rw[if_pos h93]⟩⟩
  ·have hj93:Glob.bt p j≠93:=hfirst.elim (fun h=>absurd h.1 hxj) (·.2);repeat' (first|refine zp rfl ?_|refine zn ?_|refine A0 rfl ?_|refine zs [6,17,19] rfl ?_|refine zt rfl rfl (by omega) rfl ?_|refine A6 (F8 A1 rfl rfl rfl (by omega)) rfl ?_|refine A6 (T3 rfl rfl (by omega)) rfl ?_|refine A6 (A1p rfl rfl (by omega)) rfl ?_|refine A6 (H5 rfl rfl (by omega)) rfl ?_)
   all_goals first|exact absurd h93 (by omega)|skip
   refine B1 [1,2,8,10,12] (fun m vs i' L'=>∃(c:Nat)(cs:List Value),m=127-c∧32≤c∧c≤127∧W8 cs∧cs.length=130∧cs[0]?=some (.bool false)∧(∀d,32≤d→d<c→cs[2+d]?=some (.bool (f d != nb)))∧vs=[.int .i64 (x:Int),.pointer (some ⟨be,0,none⟩),.bool nb,.pointer (some ⟨bi,0,none⟩),.int .i64 (c:Int)]∧L'=(bi,.cells (E9d ics) 312 (0,0))::(be,.cells (E9d cs) 314 (0,0))::L) _ ⟨32,E9y 130 (.bool false),rfl,by omega,by omega,W8.rep 130,by simp,by simp,fun d h1 h2=>absurd h2 (by omega),rfl,rfl⟩ ?_;rintro m g vs i _ hi ⟨c,cs,rfl,hc1,hc2,hcs,hcl,hc0,hpre,rfl,rfl⟩;by_cases hc:c≤126
   ·repeat' (first|refine zp rfl ?_|refine zn ?_|refine A2 rfl ?_|refine zr 20 ?_|refine A6 (A2y rfl rfl (by omega)) rfl ?_)
    have q1:ics[0+((c:Nat):Int).toNat*1]?=some (.bool (f c)):=by
     rw[show 0+((c:Nat):Int).toNat*1=c by omega];exact hfl.2 c (by omega)
    refine F9 J9 [0,1,2,3,4,5,6,7,8,9] [10] [] (fun L'=>L'=_) (fun _=>True) (by kernel_rfl) (by decide) rfl rfl trivial ?_;iterate 3 refine zg rfl rfl rfl ?_
    refine E7 (G6 A1 rfl rfl rfl (by omega)) rfl rfl rfl rfl rfl rfl ?_;refine D7 (fun i' hi L' hL=>by subst hL;exact B2 A1 rfl (Has.own 0 rfl) rfl q1) rfl rfl rfl rfl rfl rfl ?_;refine zg rfl rfl rfl ?_;refine E7 (PV.bneq A1 ⟨_,rfl,rfl⟩ rfl rfl) rfl rfl rfl rfl rfl rfl ?_;iterate 2 refine zg rfl rfl rfl ?_
    refine E7 (G6 A1 rfl rfl rfl (by omega)) rfl rfl rfl rfl rfl rfl ?_;refine G1 rfl rfl (fun i2 L9 hi2 hI9 _=>?_);subst hI9;refine H7 (H1 (k:=1) (off:=0+2+((c:Nat):Int).toNat*1) A1 rfl rfl rfl rfl rfl (by omega)) rfl ?_;rintro _ _ _-⟨rfl,rfl⟩;refine zn ?_;repeat' (first|refine zp rfl ?_|refine zn ?_|refine zr 21 ?_|refine zd rfl rfl (by omega) rfl ?_)
    refine⟨127-(c+1),by omega,c+1,_,rfl,by omega,by omega,hcs.set _ _,by rw[List.length_set];exact hcl,?_,fun d h1 h2=>?_,rfl,rfl⟩
    ·rw[F0q (by omega)];exact hc0
    ·by_cases hd:d=c
     ·subst hd;rw[show 0+2+((d:Nat):Int).toNat*1=2+d by omega,List.getElem?_set_self (by omega)];rfl
     ·rw[F0q (by omega)];exact hpre d h1 (by omega)
   ·repeat' (first|refine zp rfl ?_|refine zn ?_|refine A0 rfl ?_|refine zs [20,23] rfl ?_|refine A6 (A2z rfl rfl (by omega)) rfl ?_)
    all_goals exact⟨_,_,_,cs,rfl,rfl,.inr ⟨rfl,x,_,by rw[if_neg hj93,hrd,D5q hlt h93];rfl,rfl,by omega,hlt,hcl,hc0,hcs,fun d h1 h2=>hpre d h1 (by omega)⟩⟩
 ·have hj93:Glob.bt p j≠93:=hfirst.elim (fun h=>by rw[←h.1];exact h93) (·.2);by_cases hr:x+2<p.size∧Glob.bt p (x+1)=45∧Glob.bt p (x+2)≠93
  ·obtain⟨hr1,hr2,hr3⟩:=hr;have hb2:=A2d hp hr1;by_cases hl:Glob.bt p (x+2)<Glob.bt p x
   ·repeat' (first|refine zn ?_|refine A2 rfl ?_|(refine zr 6 ?_;refine zp rfl ?_;refine zp rfl ?_;(refine zp rfl ?_);(refine zt rfl rfl (by omega) rfl ?_);(all_goals refine zp rfl ?_);(all_goals(refine zp rfl ?_));(all_goals(refine zp rfl ?_));(all_goals((refine A6 (F8 A1 rfl rfl rfl (by omega)) rfl ?_)));(all_goals(refine A6 (T1 rfl rfl (by omega)) rfl ?_));(all_goals refine zp rfl ?_);(all_goals refine zn ?_))|(refine zr 7 ?_;refine zp rfl ?_;refine zd rfl rfl (by omega) rfl ?_;refine zp rfl ?_;(refine zp rfl ?_);(refine zt rfl rfl (by omega) rfl ?_);(all_goals refine zp rfl ?_);(all_goals(refine zp rfl ?_));(all_goals(refine zp rfl ?_));(all_goals(refine zd rfl rfl (by omega) rfl ?_));(all_goals((refine A6 (F8 (j:=x+1) A1 rfl rfl rfl (by omega)) rfl ?_)));(all_goals(refine A6 (G9 rfl rfl (by omega)) rfl ?_));(all_goals refine zp rfl ?_);(all_goals refine zp rfl ?_);(all_goals(refine zp rfl ?_));(all_goals(refine zp rfl ?_));(all_goals(refine zd rfl rfl (by omega) rfl ?_));(all_goals((refine A6 (F8 (j:=x+2) A1 rfl rfl rfl (by omega)) rfl ?_)));(all_goals(refine A6 (T1 rfl rfl (by omega)) rfl ?_));(all_goals refine zp rfl ?_);(all_goals refine zn ?_))|(refine C8 (id:=8) J9 (by kernel_rfl) ?_;refine zq rfl ?_;refine zq rfl ?_;((refine D3 (F8 A1 rfl rfl rfl (by omega)) rfl ?_));(all_goals refine zq rfl ?_);(all_goals refine zq rfl ?_);(all_goals refine D3 (A3n rfl rfl (by omega)) rfl ?_);(all_goals((refine D3 (F8 (j:=x+2) A1 rfl rfl rfl (by omega)) rfl ?_)));(all_goals(refine D3 (J4 rfl rfl (by omega)) rfl ?_));(all_goals refine zn ?_))|(refine zr 9 ?_;refine zp rfl ?_;refine zp rfl ?_;refine zn ?_))
    all_goals first|(exfalso;omega)|exact⟨_,_,_,_,rfl,rfl,.inl ⟨rfl,by rw[hrd,D5r hlt h93 ⟨hr1,hr2,hr3⟩ hl];simp⟩⟩
   ·repeat' (first|refine zn ?_|refine A2 rfl ?_|refine A0 rfl ?_|(refine zr 6 ?_;refine zp rfl ?_;refine zp rfl ?_;(refine zp rfl ?_);(refine zt rfl rfl (by omega) rfl ?_);(all_goals refine zp rfl ?_);(all_goals(refine zp rfl ?_));(all_goals(refine zp rfl ?_));(all_goals((refine A6 (F8 A1 rfl rfl rfl (by omega)) rfl ?_)));(all_goals(refine A6 (T1 rfl rfl (by omega)) rfl ?_));(all_goals refine zp rfl ?_);(all_goals refine zn ?_))|(refine zr 7 ?_;refine zp rfl ?_;refine zd rfl rfl (by omega) rfl ?_;refine zp rfl ?_;(refine zp rfl ?_);(refine zt rfl rfl (by omega) rfl ?_);(all_goals refine zp rfl ?_);(all_goals(refine zp rfl ?_));(all_goals(refine zp rfl ?_));(all_goals(refine zd rfl rfl (by omega) rfl ?_));(all_goals((refine A6 (F8 (j:=x+1) A1 rfl rfl rfl (by omega)) rfl ?_)));(all_goals(refine A6 (G9 rfl rfl (by omega)) rfl ?_));(all_goals refine zp rfl ?_);(all_goals refine zp rfl ?_);(all_goals(refine zp rfl ?_));(all_goals(refine zp rfl ?_));(all_goals(refine zd rfl rfl (by omega) rfl ?_));(all_goals((refine A6 (F8 (j:=x+2) A1 rfl rfl rfl (by omega)) rfl ?_)));(all_goals(refine A6 (T1 rfl rfl (by omega)) rfl ?_));(all_goals refine zp rfl ?_);(all_goals refine zn ?_))|(refine C8 (id:=8) J9 (by kernel_rfl) ?_;refine zq rfl ?_;refine zq rfl ?_;((refine D3 (F8 A1 rfl rfl rfl (by omega)) rfl ?_));(all_goals refine zq rfl ?_);(all_goals refine zq rfl ?_);(all_goals refine D3 (A3n rfl rfl (by omega)) rfl ?_);(all_goals((refine D3 (F8 (j:=x+2) A1 rfl rfl rfl (by omega)) rfl ?_)));(all_goals(refine D3 (I0 rfl rfl (by omega)) rfl ?_));(all_goals refine zn ?_))|(refine zr 10 ?_;refine zp rfl ?_;refine zp rfl ?_;((refine A6 (F8 A1 rfl rfl rfl (by omega)) rfl ?_));(all_goals refine A6 (D2n A1 ⟨_,rfl⟩ ⟨_,rfl,rfl⟩ rfl (by omega)) rfl ?_);(all_goals refine zp rfl ?_);(all_goals refine zn ?_)))
    all_goals first|(exfalso;omega)|skip
    refine B1 [0,1,2,8,9,10,11] (fun m vs i' L'=>∃(c:Nat)(ics:List Value),m=Glob.bt p (x+2)+1-c∧Glob.bt p x≤c∧c≤Glob.bt p (x+2)+1∧Fl ics (Glob.upF f (Glob.bt p x) c) 128∧vs=[.string p,.int .i64 (x:Int),.pointer (some ⟨be,0,none⟩),.bool nb,.int .i64 (j:Int),.pointer (some ⟨bi,0,none⟩),.int .i64 (c:Int)]∧L'=(bi,.cells (E9d ics) 312 (0,0))::(be,.cells (E9y 130 (.bool false)).toArray 314 (0,0))::L) _ ⟨Glob.bt p x,ics,rfl,E9q _,by omega,by rw[Glob.upF_nil];exact hfl,rfl,rfl⟩ ?_;rintro m g vs i _ hi ⟨c,ics,rfl,hc1,hc2,hfl,rfl,rfl⟩;by_cases hc:c≤Glob.bt p (x+2)
    ·repeat' (first|refine zp rfl ?_|refine zn ?_|refine A2 rfl ?_|refine A3 ?_|refine zd rfl rfl (by omega) rfl ?_|refine A6 (F8 (j:=x+2) A1 rfl rfl rfl (by omega)) rfl ?_|refine A6 (D2n A1 ⟨_,rfl⟩ ⟨_,rfl,rfl⟩ rfl (by omega)) rfl ?_|refine A6 (A2y rfl rfl (by omega)) rfl ?_|refine A6 (G6 A1 rfl rfl rfl (by omega)) rfl ?_|(refine H7 (H1 (k:=0) (off:=0+((c:Nat):Int).toNat*1) A1 rfl rfl rfl rfl rfl (by rw[hfl.1];omega)) rfl ?_;rintro _ _ _-⟨rfl,rfl⟩))
     all_goals first|(exfalso;omega)|exact⟨Glob.bt p (x+2)+1-(c+1),by omega,c+1,_,rfl,by omega,by omega,by rw[show 0+((c:Nat):Int).toNat*1=c by omega];exact hfl.up hc1 (by omega),rfl,rfl⟩
    ·obtain rfl:c=Glob.bt p (x+2)+1:=by omega
     repeat' (first|refine zp rfl ?_|refine zn ?_|refine A0 rfl ?_|refine zs [11,14] rfl ?_|refine zd rfl rfl (by omega) rfl ?_|refine A6 (F8 (j:=x+2) A1 rfl rfl rfl (by omega)) rfl ?_|refine A6 (D2n A1 ⟨_,rfl⟩ ⟨_,rfl,rfl⟩ rfl (by omega)) rfl ?_|refine A6 (A2z rfl rfl (by omega)) rfl ?_)
     all_goals first|(exfalso;omega)|exact⟨p.size-(x+3),by omega,x+3,_,ics,rfl,by omega,by omega,by rw[hrd,C0x hlt h93 ⟨hr1,hr2,hr3⟩ hl],.inr ⟨by omega,hj93⟩,hfl,rfl,rfl⟩
  ·repeat' (first|refine zp rfl ?_|refine zn ?_|refine A2 rfl ?_|refine A0 rfl ?_|refine zs [6,7] rfl ?_|refine zt rfl rfl (by omega) rfl ?_|refine A6 (F8 A1 rfl rfl rfl (by omega)) rfl ?_|refine A6 (T1 rfl rfl (by omega)) rfl ?_|refine zd rfl rfl (by omega) rfl ?_|refine I1 rfl rfl rfl (fun h=>?_) (fun h=>?_)|refine A6 (F8 (j:=x+1) A1 rfl rfl rfl (by omega)) rfl ?_|refine E1 rfl rfl rfl (fun h=>?_) (fun h=>?_)|refine A6 (F8 (j:=x+2) A1 rfl rfl rfl (by omega)) rfl ?_|refine A6 (T3 rfl rfl (by omega)) rfl ?_)
   all_goals try(exfalso;omega)
   all_goals try exact absurd ⟨by omega,by omega,by omega⟩ hr
   all_goals
    refine zr 15 ?_;iterate 2 refine zp rfl ?_
    refine A6 (F8 A1 rfl rfl rfl (by omega)) rfl ?_
    (all_goals(refine A6 (G6 A1 rfl rfl rfl (by omega)) rfl ?_))
    (all_goals(refine H7 (H1 (k:=0) (off:=0+((Glob.bt p x:Nat):Int).toNat*1) A1 rfl rfl rfl rfl rfl (by rw[hfl.1];omega)) rfl ?_;rintro _ _ _-⟨rfl,rfl⟩))
    all_goals refine zn ?_
    repeat' (first|refine zp rfl ?_|refine zn ?_|refine A3 ?_|refine zd rfl rfl (by omega) rfl ?_)
   all_goals exact⟨p.size-(x+1),by omega,x+1,_,_,rfl,by omega,by omega,by rw[hrd,D5p hlt h93 hr],.inr ⟨by omega,hj93⟩,by rw[show 0+((Glob.bt p x:Nat):Int).toNat*1=Glob.bt p x by omega];exact Fl.up (by rw[Glob.upF_nil];exact hfl) (E9q _) (by omega),rfl,rfl⟩
theorem E8w(c:Int)(i:Imm)(L:SH):E6 E9c 289 [.int .u8 c] i L fun v i' L'=>∃b,v=.bool b∧(b=true↔32≤c∧c≤126)∧i'=i∧L'=L:=by
 refine A5 Tryz.func289 rfl rfl (by simp) rfl ?_;repeat' (first|refine zp rfl ?_|refine zn ?_|refine A3 ?_|refine Y8 rfl rfl rfl (fun h=>?_) (fun h=>?_)|refine O5 rfl rfl rfl (fun h=>?_) (fun h=>?_))
 all_goals first|exact⟨_,rfl,(by simp;omega),rfl,rfl⟩|exact⟨_,rfl,(by constructor<;>intro h<;>first|omega|cases h),rfl,rfl⟩
theorem B4f(s:ByteArray)(i:Imm)(L:SH)(hs:s.size≤4294967280):
 E6 E9c 243 [.string s] i L fun v i' L'=>∃b,v=.bool b∧(b=true↔Glob.Prt s)∧i'=i∧L'=L:=by
 refine A5 Tryz.func243 rfl rfl (by simp) rfl ?_;repeat' (first|refine zp rfl ?_|refine zn ?_|refine zs [0,1] rfl ?_)
 refine B1 [0,3] (fun m vs i' L'=>∃k:Nat,m=s.size-k∧k≤s.size∧(∀j,j<k→32≤Glob.bt s j∧Glob.bt s j≤126)∧vs=[.string s,.int .i64 (k:Int)]∧i'=i∧L'=L) s.size ⟨0,rfl,E9k _,fun j hj=>absurd hj (by omega),rfl,rfl,rfl⟩ ?_;rintro m g vs i' L' hi ⟨k,rfl,hk,hpre,rfl,rfl,rfl⟩;by_cases hlt:k<s.size
 ·repeat' (first|refine zp rfl ?_|refine zn ?_|refine A2 rfl ?_|refine A0 rfl ?_|refine A3 ?_|refine zt rfl rfl (by omega) rfl ?_|refine zd rfl rfl (by omega) rfl ?_|refine A6 (F8 A1 rfl rfl rfl (by omega)) rfl ?_|refine C9 _ (E8w _ _ _) rfl (by kernel_rfl) rfl ?_ ?_<;>rintro i L-⟨hok,rfl,rfl⟩)
  ·refine⟨s.size-(k+1),by omega,k+1,rfl,by omega,fun j hj=>?_,rfl,rfl,rfl⟩;rcases F0m.1 hj with hj|rfl
   ·exact hpre j hj
   ·have:=hok.1 rfl;omega
  ·exact⟨_,rfl,⟨fun h=>Bool.noConfusion h,fun h=>Bool.noConfusion (hok.2 (by have:=A2d h hlt;omega))⟩,rfl,rfl⟩
 ·repeat' (first|refine zp rfl ?_|refine zn ?_|refine A0 rfl ?_|refine zs [2,6] rfl ?_|refine zf rfl rfl (by omega) rfl ?_)
  refine⟨_,rfl,⟨fun _ b hb=>?_,fun _=>rfl⟩,rfl,rfl⟩;obtain⟨j,hj⟩:=F0j.1 hb
  have hjs:j<s.size:=by
   have:=(E9e.1 hj).1
   rwa [Glob.bts_len] at this
  rw[B1u hjs] at hj;cases hj;exact hpre j (by omega)
open Classical in
noncomputable def B5t(p:ByteArray):Option (List (List Glob.PEl)):=if Glob.Prt p then Glob.rdA p 0 [] [] else none
theorem E5h{p:ByteArray}(h:Glob.Prt p):B5t p=Glob.rdA p 0 [] []:=if_pos h
theorem patR_no{p:ByteArray}(h:¬Glob.Prt p):B5t p=none:=if_neg h
def AltV(R:List Value→Glob.PEl→Prop)(sz:Nat)(i:Imm)(u:Value)(l:List Glob.PEl):Prop:=∃ao cap cs,u=.slice ao l.length cap∧Sl i u sz l.length cs∧B4w R sz cs l
theorem AltV.le{R:List Value→Glob.PEl→Prop}{sz:Nat}{i i':Imm}{u:Value}{l:List Glob.PEl}(h:AltV R sz i u l)(hi:i.le i'):AltV R sz i' u l:=let⟨a,c,cs,h1,h2,h3⟩:=h;⟨a,c,cs,h1,h2.le hi,h3⟩
def D5g(R:List Value→Glob.PEl→Prop)(sz:Nat)(i:Imm)(v:Value)(a:List (List Glob.PEl)):Prop:=∃hs:List Value,Sl i v 1 a.length hs∧∀(q:Nat)(l:List Glob.PEl),a[q]?=some l→∃u:Value,hs[q]?=some u∧AltV R sz i u l
def C8b(R:List Value→Glob.PEl→Prop)(sz e e2:Nat)(i:Imm)(v:Value)(done:List (List Glob.PEl))(cur:List Glob.PEl)(Oe Oo:SH):Prop:=
 ∃(g cap:Nat)(hs:List Value)(ao:Option Addr)(cp:Nat)(ys:List Value),v=.slice (some ⟨g,0,none⟩) (done.length+1) cap∧hs.length=done.length∧J2 e2 v 1 (done.length+1) (hs++[.slice ao cur.length cp]) Oo∧(∀(q:Nat)(l:List Glob.PEl),done[q]?=some l→∃u:Value,hs[q]?=some u∧AltV R sz i u l)∧J2 e (.slice ao cur.length cp) sz cur.length ys Oe∧B4w R sz ys cur
theorem C8b.freeze{R:List Value→Glob.PEl→Prop}{sz e e2:Nat}{i:Imm}{v:Value}{done:List (List Glob.PEl)}{cur:List Glob.PEl}{Oe Oo L:SH}{w:World}(h:C8b R sz e e2 i v done cur Oe Oo)(hw:St i (Oe++(Oo++L)) w):∃i',i.le i'∧St i' L w∧D5g R sz i' v (done++[cur]):=by
 obtain⟨g,cap,hs,ao,cp,ys,h1,h2,h3,h4,h5,h6⟩:=h;obtain⟨i1,g1,g2,g3⟩:=h5.freeze hw;obtain⟨i2,g4,g5,g6⟩:=h3.freeze g2;refine⟨i2,g1.trans g4,g5,_,by rw[E9h];exact g6,fun q l hq=>?_⟩;by_cases e:q<done.length
 ·rw[E9t e] at hq;obtain⟨u,h7,h8⟩:=h4 q l hq;exact⟨u,by rw[E9t (by omega)];exact h7,h8.le (g1.trans g4)⟩
 ·have hq2:=(E9e.1 hq).1;simp at hq2;obtain rfl:q=done.length:=by omega
  simp at hq;subst hq;exact⟨_,by rw[F0r (by omega),h2];simp,ao,cp,ys,rfl,g3.le g4,h6⟩
theorem D5v{p:ByteArray}{k:Nat}{done:List (List Glob.PEl)}{cur:List Glob.PEl}(h:p.size≤k):Glob.rdA p k done cur=some (done++[cur]):=by rw[Glob.rdA,if_neg (by omega)]
theorem D5w{p:ByteArray}{k:Nat}{done:List (List Glob.PEl)}{cur:List Glob.PEl}(h:k<p.size)(hb:Glob.bt p k=124):Glob.rdA p k done cur=Glob.rdA p (k+1) (done++[cur]) []:=by rw[Glob.rdA,if_pos h,if_pos hb]
theorem C8m{p:ByteArray}{k:Nat}{done:List (List Glob.PEl)}{cur:List Glob.PEl}(h:k<p.size)(hb:Glob.bt p k=42):Glob.rdA p k done cur=Glob.rdA p (k+1) done (cur++[Glob.pStar]):=by rw[Glob.rdA,if_pos h,if_neg (by omega),if_pos hb]
theorem D5y{p:ByteArray}{k:Nat}{done:List (List Glob.PEl)}{cur:List Glob.PEl}(h:k<p.size)(hb:Glob.bt p k=63):Glob.rdA p k done cur=Glob.rdA p (k+1) done (cur++[Glob.pAny]):=by rw[Glob.rdA,if_pos h,if_neg (by omega),if_neg (by omega),if_pos hb]
theorem D5x{p:ByteArray}{k:Nat}{done:List (List Glob.PEl)}{cur:List Glob.PEl}(h:k<p.size)(hb:Glob.bt p k=91)(hr:Glob.rdSet p (k+1)=none):Glob.rdA p k done cur=none:=by rw[Glob.rdA,if_pos h,if_neg (by omega),if_neg (by omega),if_neg (by omega),if_pos hb,hr]
theorem D5t{p:ByteArray}{k n:Nat}{f:Nat→Bool}{done:List (List Glob.PEl)}{cur:List Glob.PEl}(h:k<p.size)(hb:Glob.bt p k=91)(hr:Glob.rdSet p (k+1)=some (n,f))(hn:k+1≤n):Glob.rdA p k done cur=Glob.rdA p (n+1) done (cur++[Glob.pSet f]):=by
 rw[Glob.rdA,if_pos h,if_neg (by omega),if_neg (by omega),if_neg (by omega),if_pos hb,hr];simp only;rw[show k+1+(n-k)=n+1 by omega]
theorem D5u{p:ByteArray}{k:Nat}{done:List (List Glob.PEl)}{cur:List Glob.PEl}(h:k<p.size)(h1:Glob.bt p k≠124)(h2:Glob.bt p k≠42)(h3:Glob.bt p k≠63)(h4:Glob.bt p k≠91):Glob.rdA p k done cur=Glob.rdA p (k+1) done (cur++[Glob.pLit (Glob.bt p k)]):=by rw[Glob.rdA,if_pos h,if_neg h1,if_neg h2,if_neg h3,if_neg h4]
theorem B8z(p:ByteArray)(i:Imm)(L:SH)(hs:p.size≤100000):
 E6 E9c 188 [.string p] i L fun v i' L'=>(∃ao n c b,v=.tuple #[.slice ao n c,.bool b]∧((b=true∧∃a,B5t p=some a∧D5g El2 130 i' (.slice ao n c) a)∨(b=false∧B5t p=none)))∧L'=L:=by
 refine E6.state (K:=fun v i' L'=>(∃(ao:Option Addr)(n c:Nat)(G:SH),v=.tuple #[.slice ao n c,.bool false]∧B5t p=none∧L'=G++L)∨(∃(ao:Option Addr)(n c:Nat)(done:List (List Glob.PEl))(cur:List Glob.PEl)(Oe Oo:SH),v=.tuple #[.slice ao n c,.bool true]∧B5t p=some (done++[cur])∧C8b El2 130 314 296 i' (.slice ao n c) done cur Oe Oo∧L'=Oe++(Oo++L))) ?_ ?_;rotate_left
 ·rintro v i' L' w _ hst (⟨ao,n,c,G,rfl,h1,rfl⟩|⟨ao,n,c,done,cur,Oe,Oo,rfl,h1,h2,rfl⟩)
  ·exact⟨i',L,Imm.le.refl i',hst.dropL,⟨ao,n,c,false,rfl,.inr ⟨rfl,h1⟩⟩,rfl⟩
  ·obtain⟨i2,g1,g2,g3⟩:=h2.freeze hst;exact⟨i2,L,g1,g2,⟨ao,n,c,true,rfl,.inl ⟨rfl,_,h1,g3⟩⟩,rfl⟩
 refine G4 Tryz.func188 rfl rfl (by simp) rfl ?_;repeat' (first|refine zp rfl ?_|refine zn ?_|refine A2 rfl ?_|refine A0 rfl ?_|refine zs [0,1,2] rfl ?_|refine C9 _ (B4f _ _ _ (by omega)) rfl (by kernel_rfl) rfl ?_ ?_<;>rintro i L-⟨hok,rfl,rfl⟩)
 rotate_left
 ·exact .inl ⟨_,_,_,[],rfl,patR_no (fun h=>Bool.noConfusion (hok.2 h)),rfl⟩
 have hp:=hok.1 rfl;rw[E5h hp];clear hok;repeat' (first|refine zp rfl ?_|refine zn ?_|refine zs [3,4] rfl ?_|refine V9 A1 rfl rfl (fun g0=>?_))
 refine B1 [0,4,5] (fun m vs i' L'=>∃(k:Nat)(v:Value)(done:List (List Glob.PEl))(cur:List Glob.PEl)(Oe Oo:SH),m=p.size-k∧k≤p.size∧done.length≤k∧cur.length≤k∧Glob.rdA p 0 [] []=Glob.rdA p k done cur∧C8b El2 130 314 296 i' v done cur Oe Oo∧vs=[.string p,v,.int .i64 (k:Int)]∧L'=Oe++(Oo++L)) p.size ⟨0,_,[],[],[],_,rfl,E9k _,E9q _,E9q _,rfl,⟨g0,1,[],none,0,[],rfl,rfl,A4g 296 1 1 g0 _ rfl,fun q l h=>by simp at h,J2.nil 314 130,B4w.nil _ _⟩,rfl,rfl⟩ ?_;rintro m g vs i L' hi ⟨k,v,done,cur,Oe,Oo,rfl,hk,hdn,hcn,hrd,hO,rfl,rfl⟩;by_cases hlt:k<p.size;rotate_left
 ·have e0:=D5v (p:=p) (k:=k) (done:=done) (cur:=cur) (by omega);have hO':=hO;obtain⟨gb,cap,hs',ao,cp,ys,rfl,_⟩:=hO';repeat' (first|refine zp rfl ?_|refine zn ?_|refine A0 rfl ?_|refine zs [5,26] rfl ?_|refine zf rfl rfl (by omega) rfl ?_)
  exact .inr ⟨_,_,_,done,cur,Oe,Oo,rfl,by rw[hrd,e0],hO,rfl⟩
 obtain⟨gb,cap,hs',ao,cp,ys,rfl,hhl,hxs,hfro,hys,hels⟩:=hO;repeat' (first|refine zp rfl ?_|refine zn ?_|refine A2 rfl ?_|refine zr 5 ?_|refine zt rfl rfl (by omega) rfl ?_)
 refine zr 7 ?_;refine C1 A1 rfl rfl (fun be=>?_);refine zn ?_;refine zn ?_;refine K9 [0,4,5,6] (fun vs i' L'=>∃(e:Nat)(x:Glob.PEl)(cs:List Value),vs=[.string p,.slice (some ⟨gb,0,none⟩) (done.length+1) cap,.int .i64 (e:Int),.pointer (some ⟨be,0,none⟩)]∧k≤e∧e<p.size∧Glob.rdA p k done cur=Glob.rdA p (e+1) done (cur++[x])∧El2 cs x∧cs.length=130∧W8 cs∧L'=(be,.cells (E9d cs) 314 (0,0))::(Oe++(Oo++L))) ?_ ?_
 ·have hbk:=A2d hp hlt;by_cases h124:Glob.bt p k=124
  ·repeat' (first|refine zp rfl ?_|refine zn ?_|refine A2 rfl ?_|refine zs [8,10] rfl ?_|refine A6 (F8 A1 rfl rfl rfl (by omega)) rfl ?_|refine A6 (G9 rfl rfl (by omega)) rfl ?_)
   all_goals try(exfalso;omega)
   refine B8k [(be,_)] (Oe++(Oo++L)) ?_;refine F6 hys (L0:=Oo++L) (List.Perm.refl _) (fun i4 hi4 hs4=>?_);refine zr 11 ?_;refine zp rfl ?_;refine A8 A1 1 rfl rfl rfl (fun b i5 hi5 hs2=>?_);refine P2 A1 (sz:=1) (bytes:=24) (m:=1) rfl rfl rfl hxs (hs2.rd _) ⟨_,rfl,rfl⟩ ⟨_,rfl,rfl,rfl⟩ (by omega) (F4 rfl) (by omega) (by omega) ?_;intro ao' cap' O' hO';obtain⟨g2,rfl⟩:=hO'.addr.2.resolve_left (by omega);refine zp rfl ?_;refine zn ?_;repeat' (first|refine zp rfl ?_|refine zn ?_|refine Q9 rfl ?_|refine A3 ?_|refine zd rfl rfl (by omega) rfl ?_)
   have e1:(done++[cur]).length+1=done.length+1+1:=by simp
   refine⟨p.size-(k+1),by omega,k+1,_,done++[cur],[],[],O',rfl,by omega,by simp;omega,by simp,by rw[hrd,D5w hlt h124],⟨g2,cap',hs'++[.slice ao cur.length cp],none,0,[],rfl,by simp[hhl],by rw[e1];exact hO',fun q l hq=>?_,J2.nil 314 130,B4w.nil _ _⟩,by rw[e1];rfl,rfl⟩;by_cases e:q<done.length
   ·rw[E9t e] at hq;obtain⟨u,h7,h8⟩:=hfro q l hq;exact⟨u,by rw[E9t (by omega)];exact h7,h8.le (hi4.trans hi5)⟩
   ·have hq2:=(E9e.1 hq).1;simp at hq2;obtain rfl:q=done.length:=by omega
    simp at hq;subst hq;exact⟨_,by rw[F0r (by omega),hhl];simp,ao,cp,ys,rfl,hs4.le hi5,hels⟩
  ·by_cases h42:Glob.bt p k=42
   ·repeat' (first|refine zp rfl ?_|refine zn ?_|refine A2 rfl ?_|refine A0 rfl ?_|refine zs [8,10,12,13] rfl ?_|refine A6 (F8 A1 rfl rfl rfl (by omega)) rfl ?_|refine A6 (H5 rfl rfl (by omega)) rfl ?_|refine A6 (G9 rfl rfl (by omega)) rfl ?_|(refine H7 (H1 (k:=0) (cs:=E9y 130 (.bool false)) A1 rfl rfl rfl rfl rfl (by simp)) rfl ?_;rintro _ _ _-⟨rfl,rfl⟩))
    all_goals try(exfalso;omega)
    exact⟨k,Glob.pStar,_,rfl,E9q _,hlt,C8m hlt h42,⟨rfl,fun h=>by cases h⟩,by simp,(W8.rep 130).set _ _,rfl⟩
   ·by_cases h63:Glob.bt p k=63
    ·repeat' (first|refine zp rfl ?_|refine zn ?_|refine A2 rfl ?_|refine A0 rfl ?_|refine zs [8,10,12,14,15] rfl ?_|refine A6 (F8 A1 rfl rfl rfl (by omega)) rfl ?_|refine A6 (H5 rfl rfl (by omega)) rfl ?_|refine A6 (G9 rfl rfl (by omega)) rfl ?_)
     all_goals try(exfalso;omega)
     refine B1 [0,4,5,6,7] (fun m1 vs i' L'=>∃(c:Nat)(cs:List Value),m1=127-c∧32≤c∧c≤127∧W8 cs∧cs.length=130∧cs[0]?=some (.bool false)∧(∀d,32≤d→d<c→cs[2+d]?=some (.bool true))∧vs=[.string p,.slice (some ⟨gb,0,none⟩) (done.length+1) cap,.int .i64 (k:Int),.pointer (some ⟨be,0,none⟩),.int .i64 (c:Int)]∧L'=(be,.cells (E9d cs) 314 (0,0))::(Oe++(Oo++L))) _ ⟨32,E9y 130 (.bool false),rfl,by omega,by omega,W8.rep 130,by simp,by simp,fun d h1 h2=>absurd h2 (by omega),rfl,rfl⟩ ?_;rintro m1 g vs i' L' hi ⟨c,cs,rfl,hc1,hc2,hcs,hcl,hc0,hpre,rfl,rfl⟩;repeat' (first|refine zp rfl ?_|refine zn ?_|refine A2 rfl ?_|refine A0 rfl ?_|refine A3 ?_|refine O5 rfl rfl rfl (fun h=>?_) (fun h=>?_)|refine zd rfl rfl (by omega) rfl ?_|refine A6 (G6 A1 rfl rfl rfl (by omega)) rfl ?_|(refine H7 (H1 (k:=0) (off:=0+2+((c:Nat):Int).toNat*1) A1 rfl rfl rfl rfl rfl (by omega)) rfl ?_;rintro _ _ _-⟨rfl,rfl⟩))
     ·refine⟨127-(c+1),by omega,c+1,_,rfl,by omega,by omega,hcs.set _ _,by rw[List.length_set];exact hcl,by rw[F0q (by omega)];exact hc0,fun d h1 h2=>?_,rfl,rfl⟩;by_cases hd:d=c
      ·subst hd;rw[show 0+2+((d:Nat):Int).toNat*1=2+d by omega,List.getElem?_set_self (by omega)]
      ·rw[F0q (by omega)];exact hpre d h1 (by omega)
     ·exact⟨k,Glob.pAny,cs,rfl,E9q _,hlt,D5y hlt h63,⟨hc0,fun _ d h1 h2=>hpre d h1 (by omega)⟩,hcl,hcs,rfl⟩
    ·by_cases h91:Glob.bt p k=91
     ·repeat' (first|refine zp rfl ?_|refine zn ?_|refine A2 rfl ?_|refine A0 rfl ?_|refine zs [8,10,12,14,19] rfl ?_|refine A6 (F8 A1 rfl rfl rfl (by omega)) rfl ?_|refine A6 (H5 rfl rfl (by omega)) rfl ?_|refine A6 (G9 rfl rfl (by omega)) rfl ?_)
      all_goals try(exfalso;omega)
      refine zr 20 ?_;iterate 2 refine zp rfl ?_
      refine zd rfl rfl (by omega) rfl ?_;refine A7 (E7a p (k+1) be _ _ hp hs (by omega)) rfl (by kernel_rfl) rfl ?_;rintro _ i2 _ hi2 ⟨e,b,cs,rfl,rfl,⟨rfl,hno⟩|⟨rfl,n,f,hse,rfl,hn1,hn2,hc⟩⟩
      ·refine zp rfl ?_;iterate 4 refine zp rfl ?_
       refine zn ?_;repeat' (first|refine zp rfl ?_|refine zn ?_|refine A2 rfl ?_|refine zs [21,22] rfl ?_)
       exact .inl ⟨_,_,_,_::(Oe++Oo),rfl,by rw[hrd,D5x hlt h91 hno],by rw[List.cons_append,F0p]⟩
      ·refine zp rfl ?_;iterate 4 refine zp rfl ?_
       refine zn ?_;repeat' (first|refine zp rfl ?_|refine zn ?_|refine A0 rfl ?_|refine zs [21,23] rfl ?_)
       exact⟨n,Glob.pSet f,cs,rfl,by omega,hn2,D5t hlt h91 hse hn1,⟨hc.star,fun _=>hc.set⟩,hc.len,hc.bools,rfl⟩
     ·repeat' (first|refine zp rfl ?_|refine zn ?_|refine A0 rfl ?_|refine zs [8,10,12,14,19] rfl ?_|refine A6 (F8 A1 rfl rfl rfl (by omega)) rfl ?_|refine A6 (H5 rfl rfl (by omega)) rfl ?_)
      all_goals try(exfalso;omega)
      refine F9 J9 [0,1,2,3,4,5,6] [7] [4] (fun _=>True) (fun L'=>L'=(be,.cells (E9d (E9y 130 (.bool false))) 314 (0,0))::(Oe++(Oo++L))) (by kernel_rfl) (by decide) rfl trivial rfl ?_;iterate 2 refine zg rfl rfl rfl ?_
      refine E7 (F8 A1 rfl rfl rfl (by omega)) rfl rfl rfl rfl rfl rfl ?_;refine zg rfl rfl rfl ?_;refine P5 (fun L'=>L'=(be,.cells (E9d ((E9y 130 (.bool false)).set (0+1) (.bool true))) 314 (0,0))::(Oe++(Oo++L))) rfl rfl rfl rfl (fun i' hi L' _ hA=>⟨rfl,by subst hA;exact P3.mono (H1 (k:=0) (off:=0+1) (cs:=E9y 130 (.bool false)) A1 rfl rfl rfl rfl rfl (by simp)) (fun _ _ _ _ ⟨_,h⟩=>⟨trivial,h⟩)⟩) ?_;refine zg rfl rfl rfl ?_;refine E7 (G6 A1 rfl rfl rfl (by omega)) rfl rfl rfl rfl rfl rfl ?_;refine G1 rfl rfl (fun i2 L2 hi2 _ hA=>?_);subst hA;refine H7 (H1 (k:=0) (off:=0+2+((Glob.bt p k:Nat):Int).toNat*1) (cs:=(E9y 130 (.bool false)).set (0+1) (.bool true)) A1 rfl rfl rfl rfl rfl (by simp;omega)) rfl ?_;rintro _ _ _-⟨rfl,rfl⟩;refine zn ?_;repeat' (first|refine zn ?_|fail)
      refine⟨k,Glob.pLit (Glob.bt p k),_,rfl,E9q _,hlt,D5u hlt h124 h42 h63 h91,⟨?_,fun _ d h1 h2=>?_⟩,by simp,((W8.rep 130).set _ _).set _ _,rfl⟩
      ·rw[F0q (by omega),F0q (by omega)];rfl
      ·by_cases hd:d=Glob.bt p k
       ·subst hd;rw[show 0+2+((Glob.bt p k:Nat):Int).toNat*1=2+Glob.bt p k by omega,List.getElem?_set_self (by simp;omega)];simp[Glob.pLit]
       ·rw[F0q (by omega),F0q (by omega),List.getElem?_replicate,if_pos (by omega)];simp[Glob.pLit,hd]
 rintro g vs i' L' hi ⟨e,x,cs,rfl,he1,he2,hstep,hx2,hl,hcs,rfl⟩;refine zn ?_;refine zr 24 ?_;refine zp rfl ?_;refine zp rfl ?_;refine A6 (H3 rfl rfl (by omega)) rfl ?_;refine zp rfl ?_;refine zn ?_;refine zn ?_;obtain⟨sp,hOo,hsp,_⟩:=hxs.block;have hxl:=hxs.1
 have q5:((hs'++[.slice ao cur.length cp])++sp)[0+(((done.length+1:Nat):Int)-1).toNat*1]?=some (.slice ao cur.length cp):=by
  rw[show 0+(((done.length+1:Nat):Int)-1).toNat*1=done.length by omega,E9t (by omega),F0r (by omega),hhl,Nat.sub_self];rfl
 have hin:∀G:SH,(gb,E9n (E9d ((hs'++[.slice ao cur.length cp])++sp)) 296 (0,0))∈((be,.cells (E9d cs) 314 (0,0))::(G++(Oo++L)):SH):=fun G=>by rw[hOo];simp
 refine H8 J9 [0,1,2,3,4,5,6,7,8,9] [10] [8] (fun L'=>∃G:SH,L'=(be,.cells (E9d cs) 314 (0,0))::(G++(Oo++L))) (stE fun L'=>L'=(be,.cells (E9d cs) 314 (0,0))::(Oe++(Oo++L))) (by kernel_rfl) (by decide) rfl ⟨Oe,rfl⟩ (G7 _) rfl ?_;iterate 4 refine zg rfl rfl rfl ?_
 refine E7 (A9 A1 rfl rfl rfl (by omega)) rfl rfl rfl rfl rfl rfl ?_;refine D7 (fun i' hi L' hL=>by obtain⟨G,rfl⟩:=hL;exact B2 A1 rfl (Has.mem (hin G)) rfl q5) rfl rfl rfl rfl rfl rfl ?_;refine D7 (fun i' hi L' hL=>by obtain⟨G,rfl⟩:=hL;exact D9 A1 rfl (Has.mem (F0g ..)) rfl rfl hl (fun j u hj=>by rw[F1b];exact hj)) rfl rfl rfl rfl rfl rfl ?_;refine S8 A1 130 (e:=314) (cs:=cs) (J6 rfl rfl rfl hl (by decide) (by decide) rfl) (by rw[hl]) rfl rfl rfl rfl ?_;refine G0 (fun _ _=>True) ⟨[70],fun _ vs L'=>∃ao' cap' ys' O',vs=[.slice ao' (cur.length+1) cap']∧J2 314 (.slice ao' (cur.length+1) cap') 130 (cur.length+1) ys' O'∧B4w El2 130 ys' (cur++[x])∧L'=(be,.cells (E9d cs) 314 (0,0))::(O'++(Oo++L))⟩ (fun _ _ _ _ _=>trivial) (fun _ _ _ _ _ h=>h) rfl rfl rfl rfl rfl rfl (fun i' hi L' _ vs _ hm=>?_) ?_
 ·rintro v ⟨b,rfl,hbs⟩-;refine⟨rfl,?_⟩;subst hm;refine P3.mono (D8 [(be,.cells (E9d cs) 314 (0,0))] A1 (sz:=130) (bytes:=130) (m:=1) rfl rfl hys (hbs.rd _) ⟨_,rfl,rfl⟩ ⟨_,rfl,rfl,rfl⟩ (by omega) hcs.one (by omega) (by omega)) ?_;rintro v' i3 L3 _ ⟨O',⟨ao',cap',rfl,h1⟩,rfl⟩;exact⟨⟨O',rfl⟩,trivial,ao',cap',_,O',rfl,h1,hels.snoc hl hx2,rfl⟩
 refine E7 (A9 A1 rfl rfl rfl (by omega)) rfl rfl rfl rfl rfl rfl ?_;refine I8 rfl rfl (fun i2 L2 vs hi2 _ _ hm=>?_);obtain⟨ao',cap',ys',O',rfl,h1,h2,rfl⟩:=hm;rintro w-w2-hw;have hwv:w=.slice ao' (cur.length+1) cap':=hw 0 _ _ rfl rfl;subst hwv;refine H7 (A5g ((be,.cells (E9d cs) 314 (0,0))::O') (off:=done.length) (u:=.slice ao' (cur.length+1) cap') A1 hxs (by show Value.pointer (some ⟨gb,0+(((done.length+1:Nat):Int)-1).toNat*1,none⟩)=_;rw[show 0+(((done.length+1:Nat):Int)-1).toNat*1=done.length by omega]) rfl rfl rfl (by omega)) rfl ?_;rintro _ i3 L3 hi3 ⟨Oo',hOo',rfl⟩;refine Y9 [_] (O'++(Oo'++L)) ?_;refine zn ?_;repeat' (first|refine zp rfl ?_|refine zn ?_|refine A3 ?_|refine zd rfl rfl (by omega) rfl ?_)
 have e1:(cur++[x]).length=cur.length+1:=by simp
 refine⟨p.size-(e+1),by omega,e+1,_,done,cur++[x],O',Oo',rfl,by omega,by omega,by omega,by rw[hrd,hstep],⟨gb,cap,hs',ao',cap',ys',rfl,hhl,?_,fun q l hq=>let⟨u,h7,h8⟩:=hfro q l hq;⟨u,h7,h8.le (hi.trans (hi2.trans hi3))⟩,by rw[e1];exact h1,h2⟩,rfl,rfl⟩;rw[e1]
 have e2:(hs'++[F0h ao cur.length cp]).set done.length (.slice ao' (cur.length+1) cap')=hs'++[.slice ao' (cur.length+1) cap']:=by
  rw[List.set_append_right _ _ (by omega),hhl,Nat.sub_self];rfl
 rw[e2] at hOo';exact hOo'
theorem ext_at{p:ByteArray}{k j:Nat}(hk:k+j<p.size):(p.extract k p.size)[j]?=p[k+j]?:=by
 have h1:j<(p.extract k p.size).size:=by rw[F0f];omega
 have e1:(p.extract k p.size)[j]?=some ((p.extract k p.size)[j]'h1):=by simp
 have e2:p[k+j]?=some (p[k+j]'hk):=by simp[hk]
 rw[e1,e2];congr 1;exact ByteArray.getElem_extract ..
theorem B8u{p:ByteArray}{k:Nat}:(p.extract k p.size).data.toList=p.data.toList.drop k:=by
 rw[ByteArray.data_extract,Array.toList_extract]
 have:p.size=p.data.toList.length:=by show p.data.size=_;simp
 rw[this];simp only[List.extract_eq_drop_take];exact List.take_of_length_le (by simp)
theorem ext_nil{p:ByteArray}:(p.extract p.size p.size).toList=(F0y #[]).toList:=by
 have h:p.extract p.size p.size=F0y #[]:=by
  have h0:=B8u (p:=p) (k:=p.size);have h1:p.size=p.data.toList.length:=by show p.data.size=_;simp
  rw[h1,List.drop_length,←h1] at h0;generalize p.extract p.size p.size=q at*;cases q with
  |mk a=>cases a with
   |mk l=>simp at h0;subst h0;rfl
 rw[h]
theorem ext_ne{p:ByteArray}{k:Nat}(h:k<p.size):(p.extract k p.size).toList≠(F0y #[]).toList:=by
 intro e;have e:=A2u e
 have:=congrArg ByteArray.size e
 rw[F0f] at this;have h0:(F0y #[]).size=0:=rfl;omega
theorem B0f{P:Program}{n:Nat}{f:Fr}{dst:Option Nat}{ty:TypeId}{pos:String}{B4:Array Edge}{gd:Option (Nat×Bool)}{T:F7}(hT:T.ok P){t:Nat}{x y:Operand}{s:ByteArray}{k:IntKind}{a j:Nat}(hx:ev n f x=.string (s.extract a s.size))(hy:ev n f y=.int k (j:Int))(ht:R5 T P1 t=true)(hj:a+j<s.size):
 PV P n f ⟨dst,.index t x y,ty,pos,B4,gd⟩ (.int .u8 (Glob.bt s (a+j):Int)):=by
 have h:=F8 (dst:=dst) (ty:=ty) (pos:=pos) (B4:=B4) (gd:=gd) hT hx hy ht (by rw[F0f];omega);have e:Glob.bt (s.extract a s.size) j=Glob.bt s (a+j):=by unfold Glob.bt;rw[ext_at hj]
 rw[e] at h;exact h
theorem E7r{P:Program}{n:Nat}{f:Fr}{dst:Option Nat}{ty:TypeId}{pos:String}{B4:Array Edge}{gd:Option (Nat×Bool)}{T:F7}(hT:T.ok P){t:Nat}{x y:Operand}{s:ByteArray}{k:IntKind}{a:Nat}(hx:ev n f x=.string (s.extract a s.size))(hy:ev n f y=.int k 0)(ht:R5 T P1 t=true)(hj:a<s.size):
 PV P n f ⟨dst,.index t x y,ty,pos,B4,gd⟩ (.int .u8 (Glob.bt s a:Int)):=B0f (j:=0) hT hx hy ht (by omega)
theorem U8(p:ByteArray)(k:Nat)(c:UInt8)(i:Imm)(L:SH)(hk:k≤p.size)(hc:c.toNat≠0):
 E6 E9c 172 [.string (p.extract k p.size),.string (F0y #[c])] i L fun r i' L'=>BV (Glob.bt p k=c.toNat) r∧L'=L:=by
 refine(A0z (v:=.bool (Lib.hasPrefix (p.extract k p.size).data.toList (F0y #[c]).data.toList)) fun w=>Tryz.strings_HasPrefix _ _ w).mono ?_
 rintro r i' L' _ ⟨rfl,rfl,rfl⟩;refine⟨⟨_,rfl,?_⟩,rfl⟩;unfold Lib.hasPrefix;rw[List.isPrefixOf_iff_prefix,B8u];by_cases h:k<p.size
 ·obtain⟨b,hb⟩:=Go.Eng.byte_at h;have e1:p.data.toList.drop k=b::p.data.toList.drop (k+1):=Glob.drop_cons (by rw[Array.getElem?_toList];exact hb);rw[e1,E3p hb];show [c]<+:_↔_;rw[List.cons_prefix_cons];constructor
  ·rintro⟨rfl,_⟩;rfl
  ·intro h;exact⟨(UInt8.toNat.inj h).symm,List.nil_prefix⟩
 ·have e1:p.data.toList.drop k=[]:=List.drop_eq_nil_of_le (by show p.data.toList.length≤k;simp;show p.size≤k;omega);rw[e1,B6k (by omega)];show [c]<+:_↔_;constructor
  ·intro h;simp at h
  ·intro h;exact absurd h.symm hc
theorem C3w(i:Imm)(L:SH):
 E6 E9c 287 [] i L fun v i' L'=>(∃cs:List Value,v=.agg (E9d cs)∧cs.length=127∧W8 cs∧∀c,32≤c→c≤126→cs[c]?=some (.bool true))∧L'=L:=by
 refine E6.drop ?_;refine O8 A1 Tryz.func287 rfl rfl (by simp) rfl ?_;repeat' (first|refine zn ?_|(refine zr 0 ?_;refine C1 A1 rfl rfl (fun b0=>?_);(all_goals refine zn ?_))|(refine zr 1 ?_;refine C1 A1 rfl rfl (fun b1=>?_);(all_goals refine zn ?_))|(refine zr 2 ?_;refine zp rfl ?_;refine zn ?_))
 refine B1 [0,1,2] (fun m vs i' L'=>∃(c:Nat)(cs:List Value),m=127-c∧32≤c∧c≤127∧W8 cs∧cs.length=127∧(∀d,32≤d→d<c→cs[d]?=some (.bool true))∧vs=[.pointer (some ⟨b0,0,none⟩),.pointer (some ⟨b1,0,none⟩),.int .i64 (c:Int)]∧L'=(b1,.cells (E9d cs) 291 (0,0))::(b0,.cells (E9d (E9y 127 (.bool false))) 291 (0,0))::L) _ ⟨32,E9y 127 (.bool false),rfl,by omega,by omega,W8.rep 127,by simp,fun d h1 h2=>absurd h2 (by omega),rfl,rfl⟩ ?_;rintro m g vs i _ hi ⟨c,cs,rfl,hc1,hc2,hcs,hcl,hpre,rfl,rfl⟩;by_cases hc:c≤126
 ·repeat' (first|refine zp rfl ?_|refine zn ?_|refine A2 rfl ?_|refine zs [3,4,5] rfl ?_|refine A6 (A2y rfl rfl (by omega)) rfl ?_|refine zd rfl rfl (by omega) rfl ?_|refine A6 (G6 A1 rfl rfl rfl (by omega)) rfl ?_|(refine H7 (H1 (k:=0) (off:=0+((c:Nat):Int).toNat*1) A1 rfl rfl rfl rfl rfl (by omega)) rfl ?_;rintro _ _ _-⟨rfl,rfl⟩))
  refine⟨127-(c+1),by omega,c+1,_,rfl,by omega,by omega,hcs.set _ _,by rw[List.length_set];exact hcl,fun d h1 h2=>?_,rfl,rfl⟩;by_cases hd:d=c
  ·subst hd;rw[show 0+((d:Nat):Int).toNat*1=d by omega,List.getElem?_set_self (by omega)]
  ·rw[F0q (by omega)];exact hpre d h1 (by omega)
 ·repeat' (first|refine zp rfl ?_|refine zn ?_|refine A0 rfl ?_|refine A3 ?_|refine A6 (A2z rfl rfl (by omega)) rfl ?_|refine D4 (D9 (l:=cs) A1 rfl (Has.own 0 rfl) rfl rfl hcl (fun j u hj=>by rw[F1b];exact hj)) rfl ?_|refine K7 (k:=1) A1 rfl rfl rfl rfl (by rw[hcl];rfl) (by intro h;rw[h] at hcl;cases hcl) (K3 rfl hcl hcs.one) ?_)
  exact⟨_,_,_,_,_,_,rfl,Has.own 1 rfl,A5c rfl rfl hcl,[_,_],⟨cs,rfl,hcl,hcs,fun d h1 h2=>hpre d h1 (by omega)⟩,rfl⟩
theorem E5m(p:ByteArray)(x:Nat)(f:Nat→Bool)(ics:List Value)(br bs:Nat)(i:Imm)(L:SH)(hp:Glob.Prt p)(hs:p.size≤256)(hx:x≤p.size)(h93:Glob.bt p x≠93)(hfl:Fl ics f 127):
 E6 E9c 320 [.pointer (some ⟨br,0,none⟩),.pointer (some ⟨bs,0,none⟩)] i ((bs,.cells (E9d ics) 291 (0,0))::(br,E9n (E9d [E9z p,.int .i64 (x:Int)]) 286 (0,0))::L) fun v i' L'=>∃(b:Bool)(x':Nat)(ics':List Value),v=.bool b∧L'=(bs,.cells (E9d ics') 291 (0,0))::(br,E9n (E9d [E9z p,.int .i64 ((x':Nat):Int)]) 286 (0,0))::L∧ics'.length=127∧((b=false∧Glob.rdS p x f=none)∨(b=true∧∃f',x<x'∧x'≤p.size∧Glob.rdS p x f=Glob.rdS p x' f'∧Fl ics' f' 127)):=by
 refine A5 Tryz.func320 rfl rfl (by simp) rfl ?_;have hsz:(p.extract x p.size).size=p.size-x:=by rw[F0f];omega
 by_cases hlt:x<p.size;rotate_left
 ·obtain rfl:x=p.size:=by omega
  have hx:=E9q p.size;repeat' (first|refine zp rfl ?_|refine zq rfl ?_|refine zn ?_|refine A2 rfl ?_|refine zs [0,2,3] rfl ?_|refine C8 (id:=1) J9 (by kernel_rfl) ?_|refine F0 (B0 A1 rfl (Has.own 1 rfl) rfl) rfl ?_|refine D3 (K6 A1 (l:=p.size) (h:=p.size) rfl rfl (.inr ⟨_,_,rfl,rfl⟩) (.inl ⟨rfl,rfl⟩) (by omega) (by omega)) rfl ?_|refine A6 (B0x rfl rfl ext_nil) rfl ?_)
  exact⟨false,p.size,ics,rfl,rfl,hfl.1,.inl ⟨rfl,C8k (E9q _)⟩⟩
 have hbx:=A2d hp hlt;repeat' (first|refine zp rfl ?_|refine zq rfl ?_|refine zn ?_|refine A0 rfl ?_|refine zs [0,2] rfl ?_|refine C8 (id:=1) J9 (by kernel_rfl) ?_|refine C8 (id:=4) J9 (by kernel_rfl) ?_|refine F0 (B0 A1 rfl (Has.own 1 rfl) rfl) rfl ?_|refine D3 (K6 A1 (l:=x) (h:=p.size) rfl rfl (.inr ⟨_,_,rfl,rfl⟩) (.inl ⟨rfl,rfl⟩) (by omega) (by omega)) rfl ?_|refine A6 (B0y rfl rfl (ext_ne hlt)) rfl ?_|refine D3 (E7r A1 rfl rfl rfl (by omega)) rfl ?_)
 refine zr 5 ?_;iterate 3 refine zp rfl ?_
 refine zo 1 rfl rfl rfl rfl ?_;refine zd rfl rfl (by omega) rfl ?_;iterate 2 refine zp rfl ?_
 refine zw 1 rfl rfl rfl rfl ?_;refine zn ?_;refine zn ?_;refine K9 [1,6,7] (fun vs i' L'=>∃(t x':Nat),vs=[.pointer (some ⟨bs,0,none⟩),.int .u8 (Glob.bt p x:Int),.int .u8 (t:Int)]∧L'=(bs,.cells (E9d ics) 291 (0,0))::(br,E9n (E9d [E9z p,.int .i64 ((x':Nat):Int)]) 286 (0,0))::L∧x<x'∧x'≤p.size∧32≤t∧t≤126∧Glob.rdS p x f=if t<Glob.bt p x then none else Glob.rdS p x' (Glob.upF f (Glob.bt p x) (t+1))) ?_ ?_
 ·by_cases hr:x+2<p.size∧Glob.bt p (x+1)=45∧Glob.bt p (x+2)≠93
  ·obtain⟨hr1,hr2,hr3⟩:=hr;have hb2:=A2d hp hr1;repeat' (first|refine zp rfl ?_|refine zn ?_|refine A2 rfl ?_|refine zs [6,7,8] rfl ?_|refine A6 (J4 rfl rfl (by omega)) rfl ?_|refine A6 (B0f (j:=1) A1 rfl rfl rfl (by omega)) rfl ?_|refine A6 (G9 rfl rfl (by omega)) rfl ?_|refine A6 (B0f (j:=2) A1 rfl rfl rfl (by omega)) rfl ?_|refine A6 (T1 rfl rfl (by omega)) rfl ?_|refine zo 1 rfl rfl rfl rfl ?_|refine zd rfl rfl (by omega) rfl ?_|refine zw 1 rfl rfl rfl rfl ?_)
   all_goals try(exfalso;omega)
   refine⟨Glob.bt p (x+2),x+3,rfl,rfl,by omega,by omega,hb2.1,hb2.2,?_⟩;split
   ·exact D5r hlt h93 ⟨hr1,hr2,hr3⟩ ‹_›
   ·exact C0x hlt h93 ⟨hr1,hr2,hr3⟩ ‹_›
  ·repeat' (first|refine zp rfl ?_|refine zn ?_|refine A0 rfl ?_|refine zr 6 ?_|refine H0 rfl rfl rfl (fun h=>?_) (fun h=>?_)|refine A6 (B0f (j:=1) A1 rfl rfl rfl (by omega)) rfl ?_|refine E1 rfl rfl rfl (fun h=>?_) (fun h=>?_)|refine A6 (B0f (j:=2) A1 rfl rfl rfl (by omega)) rfl ?_|refine A6 (T3 rfl rfl (by omega)) rfl ?_)
   all_goals try(exfalso;omega)
   all_goals try exact absurd ⟨by omega,by omega,by omega⟩ hr
   all_goals exact⟨Glob.bt p x,x+1,rfl,rfl,by omega,by omega,hbx.1,hbx.2,by rw[if_neg (Nat.lt_irrefl _)];exact D5p hlt h93 hr⟩
 rintro g vs i _ hi ⟨t,x',rfl,rfl,hx1,hx2,ht1,ht2,hrd⟩;repeat' (first|refine zp rfl ?_|refine zn ?_|refine zr 9 ?_)
 refine B1 [1,6,7,8] (fun m vs i' L'=>∃(c:Nat)(ics:List Value),m=t+1-c∧Glob.bt p x≤c∧(c≤t+1∨c=Glob.bt p x)∧Fl ics (Glob.upF f (Glob.bt p x) c) 127∧vs=[.pointer (some ⟨bs,0,none⟩),.int .u8 (Glob.bt p x:Int),.int .u8 (t:Int),.int .u8 (c:Int)]∧L'=(bs,.cells (E9d ics) 291 (0,0))::(br,E9n (E9d [E9z p,.int .i64 ((x':Nat):Int)]) 286 (0,0))::L) _ ⟨Glob.bt p x,ics,rfl,E9q _,.inr rfl,by rw[Glob.upF_nil];exact hfl,rfl,rfl⟩ ?_;clear hfl;rintro m g vs i _ hi ⟨c,ics,rfl,hc1,hc2,hfl,rfl,rfl⟩;by_cases hc:c≤t
 ·repeat' (first|refine zp rfl ?_|refine zn ?_|refine A2 rfl ?_|refine zs [10,11,12] rfl ?_|refine A6 (A2y rfl rfl (by omega)) rfl ?_|refine A6 (E8b rfl rfl (by omega)) rfl ?_|refine A6 (G6 A1 rfl rfl rfl (by omega)) rfl ?_|(refine H7 (H1 (k:=0) (off:=0+((c:Nat):Int).toNat*1) A1 rfl rfl rfl rfl rfl (by rw[hfl.1];omega)) rfl ?_;rintro _ _ _-⟨rfl,rfl⟩))
  exact⟨t+1-(c+1),by omega,c+1,_,rfl,by omega,by omega,by rw[show 0+((c:Nat):Int).toNat*1=c by omega];exact hfl.up hc1 (by omega),rfl,rfl⟩
 ·by_cases hl:t<Glob.bt p x
  ·rw[if_pos hl] at hrd;repeat' (first|refine zp rfl ?_|refine zn ?_|refine A0 rfl ?_|refine A3 ?_|refine A6 (A2z rfl rfl (by omega)) rfl ?_)
   exact⟨false,x',ics,rfl,rfl,hfl.1,.inl ⟨rfl,hrd⟩⟩
  ·rw[if_neg hl] at hrd;obtain rfl:c=t+1:=by omega
   repeat' (first|refine zp rfl ?_|refine zn ?_|refine A0 rfl ?_|refine A3 ?_|refine A6 (A2z rfl rfl (by omega)) rfl ?_|refine A6 (A2y rfl rfl (by omega)) rfl ?_)
   exact⟨true,x',ics,rfl,rfl,hfl.1,.inr ⟨rfl,_,hx1,hx2,hrd,hfl⟩⟩
theorem Fl.bools{ics:List Value}{f:Nat→Bool}{N:Nat}(h:Fl ics f N):W8 ics:=fun c hc=>by
 obtain⟨j,hj⟩:=F0j.1 hc
 have:=(E9e.1 hj).1
 have h2:=h.2 j (by rw[←h.1];exact this);rw[hj] at h2;cases h2;exact⟨_,rfl⟩
theorem Fl.one{ics:List Value}{f:Nat→Bool}{N:Nat}(h:Fl ics f N):∀c∈ics,c.oneCell'=true:=h.bools.one
theorem E4w(p:ByteArray)(k br:Nat)(i:Imm)(L:SH)(hp:Glob.Prt p)(hs:p.size≤256)(hk:k≤p.size):
 E6 E9c 288 [.pointer (some ⟨br,0,none⟩)] i ((br,E9n (E9d [E9z p,.int .i64 ((k:Nat):Int)]) 286 (0,0))::L) fun v i' L'=>∃(b:Bool)(x':Nat)(cs:List Value),v=.tuple #[.agg (E9d cs),.bool b]∧L'=(br,E9n (E9d [E9z p,.int .i64 ((x':Nat):Int)]) 286 (0,0))::L∧cs.length=127∧W8 cs∧((b=false∧Glob.rdSet p k=none)∨(b=true∧∃(n:Nat)(f:Nat→Bool),Glob.rdSet p k=some (n,f)∧x'=n+1∧k≤n∧n<p.size∧∀c,32≤c→c≤126→cs[c]?=some (.bool (f c)))):=by
 refine E6.state (K:=fun v i' L'=>∃(G G2:SH)(b:Bool)(x':Nat)(cs:List Value),v=.tuple #[.agg (E9d cs),.bool b]∧L'=G++((br,E9n (E9d [E9z p,.int .i64 ((x':Nat):Int)]) 286 (0,0))::(G2++L))∧cs.length=127∧W8 cs∧((b=false∧Glob.rdSet p k=none)∨(b=true∧∃(n:Nat)(f:Nat→Bool),Glob.rdSet p k=some (n,f)∧x'=n+1∧k≤n∧n<p.size∧∀c,32≤c→c≤126→cs[c]?=some (.bool (f c))))) ?_ ?_;rotate_left
 ·rintro v i' L' w _ hs ⟨G,G2,b,x',cs,h1,rfl,h3⟩;exact⟨i',_,Imm.le.refl i',St.dropMid (A:=[(br,E9n (E9d [E9z p,.int .i64 ((x':Nat):Int)]) 286 (0,0))]) (G:=G2) (R:=L) hs.dropL,b,x',cs,h1,rfl,h3⟩
 refine A3h A1 Tryz.func288 rfl rfl (by simp) rfl ?_;repeat' (first|refine zp rfl ?_|refine zn ?_|refine zr 0 ?_|refine C1 A1 rfl rfl (fun b2=>?_))
 refine zr 1 ?_;refine C1 A1 rfl rfl (fun b4=>?_);refine zn ?_;refine zn ?_;refine A1r (L':=(b4,.cells (E9d (E9y 127 (F0x false))) 291 (0,0))::(br,E9n (E9d [E9z p,.int .i64 ((k:Nat):Int)]) 286 (0,0))::(b2,E9n (E9d (E9y 127 (F0x false))) 291 (0,0))::L) (List.Perm.cons _ (List.Perm.swap _ _ _)) ?_;refine K9 [0,2,4,5] (fun vs i' L'=>vs=[.pointer (some ⟨br,0,none⟩),.pointer (some ⟨b2,0,none⟩),.pointer (some ⟨b4,0,none⟩),.bool (decide (Glob.bt p k=33))]∧L'=(b4,.cells (E9d (E9y 127 (F0x false))) 291 (0,0))::(br,E9n (E9d [E9z p,.int .i64 ((k:Nat):Int)]) 286 (0,0))::(b2,E9n (E9d (E9y 127 (F0x false))) 291 (0,0))::L) ?_ ?_
 ·repeat' (first|refine zq rfl ?_|refine zn ?_|refine C8 (id:=2) J9 (by kernel_rfl) ?_|refine F0 (B0 A1 rfl (Has.own 1 rfl) rfl) rfl ?_|refine D3 (K6 A1 (l:=k) (h:=p.size) rfl rfl (.inr ⟨_,_,rfl,rfl⟩) (.inl ⟨rfl,rfl⟩) (by omega) (by omega)) rfl ?_|refine M1 (U8 p k 33 _ _ hk (by decide)) rfl (by kernel_rfl) rfl (fun h=>?_) (fun h=>?_))
  ·rw[decide_eq_true (show Glob.bt p k=33 from h)];exact⟨rfl,rfl⟩
  ·rw[decide_eq_false (show ¬Glob.bt p k=33 from h)];exact⟨rfl,rfl⟩
 obtain⟨nb,hnb⟩:∃nb,nb=decide (Glob.bt p k=33):=⟨_,rfl⟩;rw[←hnb];rintro g vs i _ hi ⟨rfl,rfl⟩;refine K9 [0,2,4,5] (fun vs i' L'=>∃j:Nat,j=(if nb then k+1 else k)∧j≤p.size∧k≤j∧vs=[.pointer (some ⟨br,0,none⟩),.pointer (some ⟨b2,0,none⟩),.pointer (some ⟨b4,0,none⟩),.bool nb]∧L'=(b4,.cells (E9d (E9y 127 (F0x false))) 291 (0,0))::(br,E9n (E9d [E9z p,.int .i64 ((j:Nat):Int)]) 286 (0,0))::(b2,E9n (E9d (E9y 127 (F0x false))) 291 (0,0))::L) ?_ ?_
 ·have hkl:nb=true→k<p.size:=fun h=>by
   rcases Nat.lt_or_ge k p.size with h1|h1
   ·exact h1
   ·rw[hnb,B6k h1] at h;cases h
  cases nb
  ·repeat' (first|refine zn ?_|refine A0 rfl ?_|(refine zr 3 ?_;refine zp rfl ?_;refine zn ?_))
   exact⟨k,rfl,hk,E9q _,rfl,rfl⟩
  ·have hkl:=hkl rfl;repeat' (first|refine zp rfl ?_|refine zn ?_|refine A2 rfl ?_|refine zs [3,4] rfl ?_|refine zo 1 rfl rfl rfl rfl ?_|refine zd rfl rfl (by omega) rfl ?_|refine zw 1 rfl rfl rfl rfl ?_)
   exact⟨k+1,rfl,hkl,by omega,rfl,rfl⟩
 rintro g vs i _ hi ⟨j,hj,hjs,hkj,rfl,rfl⟩;have hrs:=C8j hnb hj;rw[hrs];clear hrs hj hnb;repeat' (first|refine zp rfl ?_|refine zn ?_|refine zr 5 ?_|refine zo 1 rfl rfl rfl rfl ?_)
 refine B1 [0,2,4,5,6] (fun m vs i' L'=>∃(x:Nat)(f:Nat→Bool)(ics:List Value),m=p.size-x∧j≤x∧x≤p.size∧Glob.rdS p j (fun _=>false)=Glob.rdS p x f∧((x=j∧f=fun _=>false)∨(j<x∧Glob.bt p j≠93))∧Fl ics f 127∧vs=[.pointer (some ⟨br,0,none⟩),.pointer (some ⟨b2,0,none⟩),.pointer (some ⟨b4,0,none⟩),.bool nb,.int .i64 (j:Int)]∧L'=(b4,.cells (E9d ics) 291 (0,0))::(br,E9n (E9d [E9z p,.int .i64 ((x:Nat):Int)]) 286 (0,0))::(b2,E9n (E9d (E9y 127 (F0x false))) 291 (0,0))::L) _ ⟨j,_,E9y 127 (.bool false),rfl,E9q _,hjs,rfl,.inl ⟨rfl,rfl⟩,Fl.rep 127,rfl,rfl⟩ ?_;rintro m g vs i _ hi ⟨x,f,ics,rfl,hjx,hx,hrd,hfirst,hfl,rfl,rfl⟩;by_cases h93:Glob.bt p x=93
 ·have hlt:x<p.size:=by
   rcases Nat.lt_or_ge x p.size with h1|h1
   ·exact h1
   ·rw[B6k h1] at h93;cases h93
  by_cases hxj:x=j
  ·subst hxj;repeat' (first|refine zq rfl ?_|refine zp rfl ?_|refine zn ?_|refine A2 rfl ?_|refine C8 (id:=6) J9 (by kernel_rfl) ?_|refine C8 (id:=7) J9 (by kernel_rfl) ?_|refine zr 8 ?_|refine F0 (B0 A1 rfl (Has.own 1 rfl) rfl) rfl ?_|refine D3 (G9 rfl rfl (by omega)) rfl ?_|refine D3 (K6 A1 (l:=x) (h:=p.size) rfl rfl (.inr ⟨_,_,rfl,rfl⟩) (.inl ⟨rfl,rfl⟩) (by omega) (by omega)) rfl ?_|refine M1 (U8 p x 93 _ _ hx (by decide)) rfl (by kernel_rfl) rfl (fun _=>?_) (fun h=>absurd h93 h)|refine A6 (A3g (ps:=[]) A1 rfl rfl rfl rfl) rfl ?_|refine K7 (vs:=E9y 127 (F0x false)) (k:=2) A1 rfl rfl rfl rfl rfl (by decide) (K3 rfl rfl (W8.rep 127).one) ?_)
   exact⟨_,_,_,_,_,_,rfl,Has.own 2 rfl,A5c rfl rfl (by simp),[_],[_],false,x,E9y 127 (.bool false),rfl,rfl,by simp,W8.rep 127,.inl ⟨rfl,by rw[if_pos h93]⟩⟩
  ·have hj93:Glob.bt p j≠93:=hfirst.elim (fun h=>absurd h.1 hxj) (·.2);have hres:=D5q (f:=f) hlt h93;rw[←hrd] at hres;have hfin:(if Glob.bt p j=93 then none else(Glob.rdS p j (fun _=>false)).map fun x=>(x.1,fun c=>x.2 c != nb))=some (x,fun c=>f c != nb):=by rw[if_neg hj93,hres];rfl
   cases nb
   ·repeat' (first|refine zq rfl ?_|refine zp rfl ?_|refine zn ?_|refine A0 rfl ?_|refine C8 (id:=6) J9 (by kernel_rfl) ?_|refine zs [9,10,17] rfl ?_|refine F0 (B0 A1 rfl (Has.own 1 rfl) rfl) rfl ?_|refine D3 (H5 rfl rfl (by omega)) rfl ?_|refine D3 (K6 A1 (l:=x) (h:=p.size) rfl rfl (.inr ⟨_,_,rfl,rfl⟩) (.inl ⟨rfl,rfl⟩) (by omega) (by omega)) rfl ?_|refine M1 (U8 p x 93 _ _ hx (by decide)) rfl (by kernel_rfl) rfl (fun _=>?_) (fun h=>absurd h93 h)|refine zo 1 rfl rfl rfl rfl ?_|refine zd rfl rfl (by omega) rfl ?_|refine zw 1 rfl rfl rfl rfl ?_|refine D4 (D9 (l:=ics) A1 rfl (Has.own 0 rfl) rfl rfl hfl.1 (fun j u hj=>by rw[F1b];exact hj)) rfl ?_|refine K7 (k:=2) A1 rfl rfl rfl rfl (by rw[hfl.1];rfl) (by intro h;rw[h] at hfl;cases hfl.1) (K3 rfl hfl.1 hfl.one) ?_)
    exact⟨_,_,_,_,_,_,rfl,Has.own 2 rfl,A5c rfl rfl hfl.1,[_],[_],true,x+1,ics,rfl,rfl,hfl.1,hfl.bools,.inr ⟨rfl,x,_,hfin,rfl,by omega,hlt,fun c h1 h2=>by rw[hfl.2 c (by omega)];cases f c<;>rfl⟩⟩
   ·repeat' (first|refine zq rfl ?_|refine zp rfl ?_|refine zn ?_|refine A2 rfl ?_|refine A0 rfl ?_|refine C8 (id:=6) J9 (by kernel_rfl) ?_|refine zs [9,10,11] rfl ?_|refine F0 (B0 A1 rfl (Has.own 1 rfl) rfl) rfl ?_|refine D3 (H5 rfl rfl (by omega)) rfl ?_|refine D3 (K6 A1 (l:=x) (h:=p.size) rfl rfl (.inr ⟨_,_,rfl,rfl⟩) (.inl ⟨rfl,rfl⟩) (by omega) (by omega)) rfl ?_|refine M1 (U8 p x 93 _ _ hx (by decide)) rfl (by kernel_rfl) rfl (fun _=>?_) (fun h=>absurd h93 h)|refine zo 1 rfl rfl rfl rfl ?_|refine zd rfl rfl (by omega) rfl ?_|refine zw 1 rfl rfl rfl rfl ?_|(refine A7 (C3w _ _) rfl (by kernel_rfl) rfl ?_;rintro _ i _-⟨⟨ac,rfl,hal,hab,hac⟩,rfl⟩)|refine C1 A1 rfl rfl (fun b8=>?_)|refine K7 (cs:=E9y 127 (F0x false)) (k:=0) A1 rfl rfl rfl rfl (by rw[hal];rfl) (by intro h;rw[h] at hal;cases hal) (K3 rfl hal hab.one) ?_)
    refine B1 [2,4,7,8] (fun m vs i' L'=>∃(c bx:Nat)(cs:List Value),m=127-c∧32≤c∧c≤127∧W8 cs∧cs.length=127∧(∀d,32≤d→d<c→cs[d]?=some (.bool (!f d)))∧(∀d,c≤d→d<127→cs[d]?=some (.bool (f d)))∧vs=[.pointer (some ⟨b2,0,none⟩),.pointer (some ⟨b4,0,none⟩),.int .i64 (c:Int),.pointer (some ⟨bx,0,none⟩)]∧L'=(bx,.cells (E9d ac) 291 (0,0))::(b4,.cells (E9d cs) 291 (0,0))::(br,E9n (E9d [E9z p,.int .i64 ((x+1:Nat):Int)]) 286 (0,0))::(b2,E9n (E9d (E9y 127 (F0x false))) 291 (0,0))::L) _ ⟨32,b8,ics,rfl,by omega,by omega,hfl.bools,hfl.1,fun d h1 h2=>absurd h2 (by omega),fun d h1 h2=>hfl.2 d h2,rfl,rfl⟩ ?_;rintro m g vs i _ hi ⟨c,bx,cs,rfl,hc1,hc2,hcs,hcl,hpre,hpost,rfl,rfl⟩;by_cases hc:c≤126
    ·have q1:ac[0+((c:Nat):Int).toNat*1]?=some (.bool true):=by rw[show 0+((c:Nat):Int).toNat*1=c by omega];exact hac c hc1 hc
     have q2:cs[0+((c:Nat):Int).toNat*1]?=some (.bool (f c)):=by rw[show 0+((c:Nat):Int).toNat*1=c by omega];exact hpost c (E9q _) (by omega)
     repeat' (first|refine zp rfl ?_|refine zn ?_|refine A2 rfl ?_|refine zs [12,13,14,15,16] rfl ?_|refine A6 (A2y rfl rfl (by omega)) rfl ?_|refine zd rfl rfl (by omega) rfl ?_|refine A6 (G6 A1 rfl rfl rfl (by omega)) rfl ?_|refine D4 (B2 A1 rfl (Has.own 0 rfl) rfl q1) rfl ?_|refine D4 (B2 A1 rfl (Has.own 1 rfl) rfl q2) rfl ?_|(refine H7 (H1 (k:=1) (off:=0+((c:Nat):Int).toNat*1) A1 rfl rfl rfl rfl rfl (by omega)) rfl ?_;rintro _ _ _-⟨rfl,rfl⟩)|refine D4 (D9 (l:=ac) A1 rfl (Has.own 0 rfl) rfl rfl hal (fun j u hj=>by rw[F1b];exact hj)) rfl ?_|refine C1 A1 rfl rfl (fun b9=>?_)|(refine K7 (cs:=E9y 127 (F0x false)) (k:=0) A1 rfl rfl rfl rfl (by rw[hal];rfl) (by intro h;rw[h] at hal;cases hal) (K3 rfl hal hab.one) ?_;refine B0e [_] [_] ((b4,_)::_) ?_))
     refine⟨127-(c+1),by omega,c+1,b9,_,rfl,by omega,by omega,hcs.set _ _,by rw[List.length_set];exact hcl,fun d h1 h2=>?_,fun d h1 h2=>?_,rfl,rfl⟩
     ·by_cases hd:d=c
      ·subst hd;rw[show 0+((d:Nat):Int).toNat*1=d by omega,List.getElem?_set_self (by omega)]
      ·rw[F0q (by omega)];exact hpre d h1 (by omega)
     ·rw[F0q (by omega)];exact hpost d (by omega) h2
    ·repeat' (first|refine zp rfl ?_|refine zn ?_|refine A0 rfl ?_|refine A3 ?_|refine A6 (A2z rfl rfl (by omega)) rfl ?_|refine D4 (D9 (l:=cs) A1 rfl (Has.own 1 rfl) rfl rfl hcl (fun j u hj=>by rw[F1b];exact hj)) rfl ?_|refine K7 (k:=3) A1 rfl rfl rfl rfl (by rw[hcl];rfl) (by intro h;rw[h] at hcl;cases hcl) (K3 rfl hcl hcs.one) ?_)
     exact⟨_,_,_,_,_,_,rfl,Has.own 3 rfl,A5c rfl rfl hcl,[_,_],[_],true,x+1,cs,rfl,rfl,hcl,hcs,.inr ⟨rfl,x,_,hfin,rfl,by omega,hlt,fun c h1 h2=>by rw[hpre c h1 (by omega)];cases f c<;>rfl⟩⟩
 ·have hok:∀(h:x=j∧(f=fun _=>false)∨j<x∧Glob.bt p j≠93),Glob.bt p j≠93:=fun h=>h.elim (fun h=>by rw[←h.1];exact h93) (·.2)
  have hj93:=hok hfirst;by_cases hxj:x=j
  all_goals
   repeat' (first|refine zq rfl ?_|refine zn ?_|refine A2 rfl ?_|refine C8 (id:=6) J9 (by kernel_rfl) ?_|refine F0 (B0 A1 rfl (Has.own 1 rfl) rfl) rfl ?_|refine D3 (G9 rfl rfl (by omega)) rfl ?_|refine D3 (H5 rfl rfl (by omega)) rfl ?_|refine D3 (K6 A1 (l:=x) (h:=p.size) rfl rfl (.inr ⟨_,_,rfl,rfl⟩) (.inl ⟨rfl,rfl⟩) (by omega) (by omega)) rfl ?_|refine M1 (U8 p x 93 _ _ hx (by decide)) rfl (by kernel_rfl) rfl (fun h=>absurd h h93) (fun _=>?_))
   refine H8 J9 [0,1,2,3,4,5,6,7,8,9,10,11,12] [13,14] [7,8,9,10,12] (fun L'=>∃(x':Nat)(ics':List Value),L'=(b4,E9n (E9d ics') 291 (0,0))::(br,E9n (E9d [E9z p,.int .i64 ((x':Nat):Int)]) 286 (0,0))::(b2,E9n (E9d (E9y 127 (F0x false))) 291 (0,0))::L) (stE fun L'=>L'=(b4,E9n (E9d ics) 291 (0,0))::(br,E9n (E9d [E9z p,.int .i64 ((x:Nat):Int)]) 286 (0,0))::(b2,E9n (E9d (E9y 127 (F0x false))) 291 (0,0))::L) (by kernel_rfl) (by decide) rfl ⟨x,ics,rfl⟩ (G7 _) rfl ?_;iterate 3 refine zg rfl rfl rfl ?_
   refine D7 (fun i' hi L' hL=>by obtain⟨x',ics',rfl⟩:=hL;exact B0 A1 rfl (Has.own 1 rfl) rfl) rfl rfl rfl rfl rfl rfl ?_;iterate 3 refine zg rfl rfl rfl ?_
   refine I6 (fun _ v=>v=.int .i64 (x:Int)) (fun L'=>L'=(b4,E9n (E9d ics) 291 (0,0))::(br,E9n (E9d [E9z p,.int .i64 ((x:Nat):Int)]) 286 (0,0))::(b2,E9n (E9d (E9y 127 (F0x false))) 291 (0,0))::L) (fun _ _ _ _ h=>h) rfl rfl rfl rfl (fun i' hi L' hI hA=>⟨rfl,by subst hA;exact P3.mono (C3d (B0 A1 rfl (Has.own 1 rfl) rfl)) (fun _ _ _ _ ⟨h1,h2⟩=>⟨⟨x,ics,h1⟩,h2,h1⟩)⟩) ?_;refine I6 (fun _ v=>v=.string (p.extract x p.size)) (fun L'=>L'=(b4,E9n (E9d ics) 291 (0,0))::(br,E9n (E9d [E9z p,.int .i64 ((x:Nat):Int)]) 286 (0,0))::(b2,E9n (E9d (E9y 127 (F0x false))) 291 (0,0))::L) (fun _ _ _ _ h=>h) rfl rfl rfl rfl (fun i' hi L' hI hA=>by rintro w rfl;exact⟨rfl,P3.mono (H4 (K6 A1 (l:=x) (h:=p.size) rfl rfl (.inr ⟨_,_,rfl,rfl⟩) (.inl ⟨rfl,rfl⟩) (by omega) (by omega))) (fun _ _ _ _ ⟨h1,h2⟩=>⟨h1▸hI,h2,h1▸hA⟩)⟩) ?_;refine I6 (fun _ v=>v=.bool false) (fun L'=>L'=(b4,E9n (E9d ics) 291 (0,0))::(br,E9n (E9d [E9z p,.int .i64 ((x:Nat):Int)]) 286 (0,0))::(b2,E9n (E9d (E9y 127 (F0x false))) 291 (0,0))::L) (fun _ _ _ _ h=>h) rfl rfl rfl rfl (fun i' hi L' hI hA=>by rintro w rfl;exact⟨rfl,D2 (by kernel_rfl) rfl (U8 p x 93 _ _ hx (by decide)) (fun _ _ _ _ ⟨⟨b,hb1,hb2⟩,h⟩=>⟨h▸hI,by subst hb1;cases b;rfl;exact absurd (hb2.1 rfl) h93,h▸hA⟩)⟩) ?_;refine I6 (fun _ v=>v=.bool false) (fun L'=>L'=(b4,E9n (E9d ics) 291 (0,0))::(br,E9n (E9d [E9z p,.int .i64 ((x:Nat):Int)]) 286 (0,0))::(b2,E9n (E9d (E9y 127 (F0x false))) 291 (0,0))::L) (fun _ _ _ _ h=>h) rfl rfl rfl rfl (fun i' hi L' hI hA=>by rintro w rfl;exact⟨rfl,P3.mono (H4 (S6 A1 rfl)) (fun _ _ _ _ ⟨h1,h2⟩=>⟨h1▸hI,h2,h1▸hA⟩)⟩) ?_;refine B6m (v:=.pointer (some ⟨br,0,none⟩)) rfl rfl rfl rfl (fun i' hi L' hI=>by rintro w rfl;exact⟨rfl,H4 (S6 A1 rfl)⟩) ?_
   refine G0 (fun _ _=>True) ⟨[62],fun _ vs L'=>∃(b:Bool)(x':Nat)(ics':List Value),vs=[.bool b]∧L'=(b4,E9n (E9d ics') 291 (0,0))::(br,E9n (E9d [E9z p,.int .i64 ((x':Nat):Int)]) 286 (0,0))::(b2,E9n (E9d (E9y 127 (F0x false))) 291 (0,0))::L∧ics'.length=127∧((b=false∧Glob.rdS p x f=none)∨(b=true∧∃f',x<x'∧x'≤p.size∧Glob.rdS p x f=Glob.rdS p x' f'∧Fl ics' f' 127))⟩ (fun _ _ _ _ _=>trivial) (fun _ _ _ _ _ h=>h) rfl rfl rfl rfl rfl rfl (fun i' hi L' hI vs _ hm=>?_) ?_
   ·rintro w rfl-;refine⟨rfl,?_⟩;have hm:L'=(b4,E9n (E9d ics) 291 (0,0))::(br,E9n (E9d [E9z p,.int .i64 ((x:Nat):Int)]) 286 (0,0))::(b2,E9n (E9d (E9y 127 (F0x false))) 291 (0,0))::L:=hm;subst hm;refine D2 (by kernel_rfl) rfl (E5m p x f ics br b4 _ _ hp hs hx h93 hfl) ?_;rintro v' i3 L3 _ ⟨b,x',ics',rfl,rfl,h1,h2⟩;exact⟨⟨x',ics',rfl⟩,trivial,b,x',ics',rfl,rfl,h1,h2⟩
   refine I8 rfl rfl (fun i2 L2 vs hi2 _ _ hm=>?_);obtain⟨b,x',ics',rfl,rfl,hl',hcase⟩:=hm;rintro w62-_ rfl _ rfl _ rfl _ rfl hw;have hwv:w62=.bool b:=hw 0 _ _ rfl rfl;subst hwv;iterate 2 refine zp rfl ?_
   refine zn ?_;rcases hcase with⟨rfl,hno⟩|⟨rfl,f',hx1,hx2,hr,hfl'⟩
   ·repeat' (first|refine zp rfl ?_|refine zn ?_|refine A2 rfl ?_|refine zr 8 ?_|refine A6 (A3g (ps:=[]) A1 rfl rfl rfl rfl) rfl ?_|refine K7 (vs:=E9y 127 (F0x false)) (k:=2) A1 rfl rfl rfl rfl rfl (by decide) (K3 rfl rfl (W8.rep 127).one) ?_)
    exact⟨_,_,_,_,_,_,rfl,Has.own 2 rfl,A5c rfl rfl (by simp),[_],[_],false,x',E9y 127 (.bool false),rfl,rfl,by simp,W8.rep 127,.inl ⟨rfl,by rw[if_neg hj93,hrd,hno];rfl⟩⟩
   ·repeat' (first|refine zn ?_|refine A0 rfl ?_)
    exact⟨p.size-x',by omega,x',f',ics',rfl,by omega,hx2,by rw[hrd,hr],.inr ⟨by omega,hj93⟩,hfl',rfl,rfl⟩
def A0q:List Value→List ByteArray
 |[]=>[]
 | .string s::l=>s::A0q l
 |_::l=>A0q l
def D8c(B:Nat)(cs:List Value):Bool:=(A0q cs).all fun s=>F0n s.size B
theorem A6b(B:Nat)(tp k:Nat)(lv:Value)(a:Int)(b n:Nat)(cs:List Value)(i:Imm)(L:SH)(hl:I5 i lv)(hs:Sl i (.slice (some ⟨b,0,none⟩) n n) 1 n cs)(hk:L[k]?=some (tp,B5 lv a))(hc:strs (A0q cs)=cs)(hB:D8c B cs=true)(hn:F0e 0 n=true)(hn2:F0n n 1000=true)(ha:0≤a∧a≤1000000000000):
 E6 E9c 49 [.pointer (some ⟨tp,0,none⟩),.slice (some ⟨b,0,none⟩) n n] i L fun r i' L'=>∃s,r=.string s∧s.size≤B∧i'=i∧L'=L.set k (tp,B5 lv (a+1)):=by
 have hlen:(A0q cs).length=n:=by
  obtain⟨_,_,_,h,_⟩:=hs;rw[←hc] at h;simpa [strs] using h
 have h1:0<n:=by simpa [F1j] using hn
 have h2:n≤1000:=by simpa using hn2
 rw[←hc] at hs
 refine(One_t tp k lv _ a n (A0q cs) i L hl hs hk hlen ⟨h1,by omega⟩ ha).mono ?_
 rintro r i' L' _ ⟨s,h3,h4,h5,h6⟩;exact⟨s,h3,by simpa using F0c.1 hB s h4,h5,h6⟩
structure Term where
 key:Int
 name:ByteArray
 op:Int
 value:ByteArray
def H6(t:Term):List Value:=[.int .i64 t.key,.string t.name,.int .i64 t.op,.string t.value]
def Term.small(B:Nat)(t:Term):Prop:=t.name.size≤B∧t.value.size≤B
def A4y(B:Nat)(v:Value):Prop:=∃k n o u,v=.agg [.int .i64 k,.string n,.int .i64 o,.string u].toArray∧n.size≤B∧u.size≤B
theorem E0j(tp:Nat)(lv:Value)(a:Int)(i:Imm)(L:SH)(hl:I5 i lv)(ha:0≤a∧a≤900000000000):
 E6 E9c 91 [.pointer (some ⟨tp,0,none⟩)] i ((tp,B5 lv a)::L) fun r i' L'=>A4y 64 r∧∃a',a≤a'∧a'≤a+10∧L'=(tp,B5 lv a')::L:=by
 refine E6.state (K:=fun r i' L'=>∃b o,A4y 64 r∧∃a',a≤a'∧a'≤a+10∧L'=(b,o)::(tp,B5 lv a')::L) ?_ ?_;rotate_left
 ·rintro v i' L' w _ hs ⟨b,o,h1,a',h2,h3,rfl⟩;exact⟨i',_,Imm.le.refl i',hs.drop,h1,a',h2,h3,rfl⟩
 refine O8 A1 Tryz.func91 rfl rfl (by simp) rfl ?_;repeat' (first|refine zp rfl ?_|refine zn ?_|refine A2 rfl ?_|refine A0 rfl ?_|refine A3 ?_|refine C1 A1 rfl rfl (fun b=>?_)|(refine A7 (J7 _ 1 _ _ _ _ _ hl rfl (by omega) (by omega)) rfl (by kernel_rfl) rfl ?_;rintro _ _ _-⟨x,rfl,⟨hx0,hx1⟩,rfl,rfl⟩)|refine E1 rfl rfl rfl (fun h=>?_) (fun h=>?_)|(refine A8 A1 1 rfl rfl rfl (fun b i' hi' hs=>?_);replace hl:=hl.le hi')|(refine A7 (A6b 64 _ 1 _ _ _ _ _ _ _ hl hs rfl rfl rfl rfl rfl (by omega)) rfl (by kernel_rfl) rfl ?_;rintro _ _ _-⟨s,rfl,hsz,rfl,rfl⟩)|refine zw 0 rfl rfl rfl rfl ?_)
 all_goals exact⟨_,_,_,_,_,_,rfl,Has.own 0 rfl,rfl,_,_,⟨_,_,_,_,rfl,by first|omega|decide,by first|omega|decide⟩,_,by omega,by omega,rfl⟩
theorem A9w.mono(n:Int):A4q fun _ v=>∃x,v=.int .i64 x∧A9w n x:=fun _ _ _ _ h=>h
theorem SizeV.mono(B:Nat):A4q fun _ v=>∃s,v=.string s∧s.size≤B:=fun _ _ _ _ h=>h
abbrev C2m:Obj:=.cells [.int .i64 0,.string E9f,.int .i64 0,.string E9f].toArray 54 (0,0)
theorem IntV.mono:A4q fun _ v=>∃x,v=.int .i64 x:=fun _ _ _ _ h=>h
theorem A4y.mono:A4q fun _ v=>A4y 64 v:=fun _ _ _ _ h=>h
theorem B7c(a b x:Int)(h:0≤x∧x<2):∃y,(([.int .i64 a,.int .i64 b]:List Value).drop (x.toNat*1)).take 1=[.int .i64 y]:=by
 rcases(show x=0∨x=1 by omega) with rfl|rfl<;>exact⟨_,rfl⟩
theorem B7b(a b c x:Int)(h:0≤x∧x<3):∃y,(([.int .i64 a,.int .i64 b,.int .i64 c]:List Value).drop (x.toNat*1)).take 1=[.int .i64 y]:=by
 rcases(show x=0∨x=1∨x=2 by omega) with rfl|rfl|rfl<;>exact⟨_,rfl⟩
theorem C2c(tp:Nat)(lv:Value)(a:Int)(i:Imm)(L:SH)(hl:I5 i lv)(ha:0≤a∧a≤900000000000):
 E6 E9c 92 [.pointer (some ⟨tp,0,none⟩)] i ((tp,B5 lv a)::L) fun r i' L'=>A4y 64 r∧∃a',a≤a'∧a'≤a+10∧L'=(tp,B5 lv a')::L:=by
 refine E6.state (K:=fun r i' L'=>∃b o,A4y 64 r∧∃a',a≤a'∧a'≤a+10∧L'=(b,o)::(tp,B5 lv a')::L) ?_ ?_;rotate_left
 ·rintro v i' L' w _ hs ⟨b,o,h1,a',h2,h3,rfl⟩;exact⟨i',_,Imm.le.refl i',hs.drop,h1,a',h2,h3,rfl⟩
 refine O8 A1 Tryz.func92 rfl rfl (by simp) rfl ?_;repeat' (first|refine zp rfl ?_|refine zn ?_|refine A2 rfl ?_|refine A0 rfl ?_|refine A3 ?_|refine C1 A1 rfl rfl (fun b=>?_)|(refine A7 (J7 _ 1 _ _ _ _ _ hl rfl (by omega) (by omega)) rfl (by kernel_rfl) rfl ?_;rintro _ _ _-⟨x,rfl,⟨hx0,hx1⟩,rfl,rfl⟩)|refine E1 rfl rfl rfl (fun h=>?_) (fun h=>?_)|(refine A8 A1 1 rfl rfl rfl (fun b i' hi' hs=>?_);replace hl:=hl.le hi')|(refine A7 (A6b 64 _ 1 _ _ _ _ _ _ _ hl hs rfl rfl rfl rfl rfl (by omega)) rfl (by kernel_rfl) rfl ?_;rintro _ _ _-⟨s,rfl,hsz,rfl,rfl⟩)|refine zd rfl rfl (by omega) rfl ?_|refine zw 0 rfl rfl rfl rfl ?_)
 all_goals first
  |exact⟨_,_,_,_,_,_,rfl,Has.own 0 rfl,rfl,_,_,⟨_,_,_,_,rfl,by first|omega|decide,by first|omega|decide⟩,_,by omega,by omega,rfl⟩
  |skip
 ·refine F9 J9 [0,1,2,3,4,5,6,7,8] [9] [2,7] (fun _=>True) (fun L'=>L'=(b,C2m)::(tp,B5 lv (a+1))::L) (by kernel_rfl) (by decide) rfl trivial rfl ?_;refine S8 A1 1 rfl rfl rfl rfl rfl rfl ?_;refine zg rfl rfl rfl ?_;refine I6 (fun _ v=>∃x,v=.int .i64 x∧A9w 2 x) (fun L'=>L'=(b,C2m)::(tp,B5 lv (a+1+1))::L) (A9w.mono _) rfl rfl rfl rfl (fun i2 hi2 L' _ hA=>⟨rfl,by subst hA;exact D2 (by kernel_rfl) rfl (J7 tp 1 lv _ _ i2 _ (hl.le hi2) rfl (by omega) (by omega)) (fun _ _ _ _ ⟨x,h1,h2,h3,h4⟩=>⟨trivial,⟨x,h1,h2⟩,h4⟩)⟩) ?_
  (all_goals(refine C4 (PtC 1 fun l=>∃x,l=[.int .i64 x]) (PtC.mono _ _) rfl rfl rfl rfl (fun i2 hi2 L' _=>by intro v hv w hw;obtain⟨b3,rfl,hb3⟩:=hv;obtain⟨x,rfl,hx⟩:=hw;obtain⟨hx0,hx1⟩:=hx;exact⟨rfl,A7x A1 _ rfl rfl rfl (by omega) hb3 (by omega) (by first|exact B7c _ _ _ (by omega)|exact B7b _ _ _ _ (by omega))⟩) ?_))
  (all_goals(refine C4 (fun _ v=>∃x,v=.int .i64 x) IntV.mono rfl rfl rfl rfl (fun i2 hi2 L' _=>by intro v hv;exact⟨rfl,P3.mono (A7w A1 rfl rfl hv (by omega)) (fun u i3 L3 _ ⟨h1,l,h2,⟨x,h3⟩,_⟩=>⟨h1,x,by rw[h3] at h2;cases h2;rfl⟩)⟩) ?_))
  all_goals refine zg rfl rfl rfl ?_
  all_goals refine S8 A1 1 rfl rfl rfl rfl rfl rfl ?_
  all_goals refine I6 (fun _ v=>∃s,v=.string s∧s.size≤64) (fun L'=>L'=(b,C2m)::(tp,B5 lv (a+1+1+1))::L) (SizeV.mono _) rfl rfl rfl rfl (fun i2 hi2 L' _ hA=>by intro v hv;obtain⟨b3,rfl,hb3⟩:=hv;exact⟨rfl,by subst hA;exact D2 (by kernel_rfl) rfl (A6b 64 tp 1 lv _ _ _ _ i2 _ (hl.le hi2) hb3 rfl rfl rfl rfl rfl (by omega)) (fun _ _ _ _ ⟨s,h1,h2,h3,h4⟩=>⟨trivial,⟨s,h1,h2⟩,h4⟩)⟩) ?_
  refine C4 (fun _ v=>A4y 64 v) A4y.mono rfl rfl rfl rfl (fun i2 hi2 L' _=>by rintro v hv w hw;obtain⟨x1,rfl⟩:=hv;obtain⟨s1,rfl,hs1⟩:=hw;exact⟨rfl,P3.mono (H4 (S6 A1 rfl)) (fun u i3 L3 _ ⟨h1,h2⟩=>⟨h1,_,_,_,_,h2,by decide,hs1⟩)⟩) ?_;refine G1 rfl rfl (fun i3 L3 hi3 _ hA=>?_);subst hA;rintro v ⟨k1,n1,o1,u1,rfl,hn1,hu1⟩- - - - - - - - - - - -;refine zw 0 rfl rfl rfl rfl ?_;refine zn ?_;repeat' (first|refine zn ?_|fail)
  exact⟨_,_,_,_,_,_,rfl,Has.own 0 rfl,rfl,_,_,⟨_,_,_,_,rfl,hn1,hu1⟩,_,by omega,by omega,rfl⟩
 ·refine F9 J9 [0,1,2,3,4,5,6,7,8] [9] [2,7] (fun _=>True) (fun L'=>L'=(b,C2m)::(tp,B5 lv (a+1))::L) (by kernel_rfl) (by decide) rfl trivial rfl ?_;refine S8 A1 1 rfl rfl rfl rfl rfl rfl ?_;refine zg rfl rfl rfl ?_;refine I6 (fun _ v=>∃x,v=.int .i64 x∧A9w 2 x) (fun L'=>L'=(b,C2m)::(tp,B5 lv (a+1+1))::L) (A9w.mono _) rfl rfl rfl rfl (fun i2 hi2 L' _ hA=>⟨rfl,by subst hA;exact D2 (by kernel_rfl) rfl (J7 tp 1 lv _ _ i2 _ (hl.le hi2) rfl (by omega) (by omega)) (fun _ _ _ _ ⟨x,h1,h2,h3,h4⟩=>⟨trivial,⟨x,h1,h2⟩,h4⟩)⟩) ?_
  (all_goals(refine C4 (PtC 1 fun l=>∃x,l=[.int .i64 x]) (PtC.mono _ _) rfl rfl rfl rfl (fun i2 hi2 L' _=>by intro v hv w hw;obtain⟨b3,rfl,hb3⟩:=hv;obtain⟨x,rfl,hx⟩:=hw;obtain⟨hx0,hx1⟩:=hx;exact⟨rfl,A7x A1 _ rfl rfl rfl (by omega) hb3 (by omega) (by first|exact B7c _ _ _ (by omega)|exact B7b _ _ _ _ (by omega))⟩) ?_))
  (all_goals(refine C4 (fun _ v=>∃x,v=.int .i64 x) IntV.mono rfl rfl rfl rfl (fun i2 hi2 L' _=>by intro v hv;exact⟨rfl,P3.mono (A7w A1 rfl rfl hv (by omega)) (fun u i3 L3 _ ⟨h1,l,h2,⟨x,h3⟩,_⟩=>⟨h1,x,by rw[h3] at h2;cases h2;rfl⟩)⟩) ?_))
  all_goals refine zg rfl rfl rfl ?_
  all_goals refine S8 A1 1 rfl rfl rfl rfl rfl rfl ?_
  all_goals refine I6 (fun _ v=>∃s,v=.string s∧s.size≤64) (fun L'=>L'=(b,C2m)::(tp,B5 lv (a+1+1+1))::L) (SizeV.mono _) rfl rfl rfl rfl (fun i2 hi2 L' _ hA=>by intro v hv;obtain⟨b3,rfl,hb3⟩:=hv;exact⟨rfl,by subst hA;exact D2 (by kernel_rfl) rfl (A6b 64 tp 1 lv _ _ _ _ i2 _ (hl.le hi2) hb3 rfl rfl rfl rfl rfl (by omega)) (fun _ _ _ _ ⟨s,h1,h2,h3,h4⟩=>⟨trivial,⟨s,h1,h2⟩,h4⟩)⟩) ?_
  refine C4 (fun _ v=>A4y 64 v) A4y.mono rfl rfl rfl rfl (fun i2 hi2 L' _=>by rintro v hv w hw;obtain⟨x1,rfl⟩:=hv;obtain⟨s1,rfl,hs1⟩:=hw;exact⟨rfl,P3.mono (H4 (S6 A1 rfl)) (fun u i3 L3 _ ⟨h1,h2⟩=>⟨h1,_,_,_,_,h2,by decide,hs1⟩)⟩) ?_;refine G1 rfl rfl (fun i3 L3 hi3 _ hA=>?_);subst hA;rintro v ⟨k1,n1,o1,u1,rfl,hn1,hu1⟩- - - - - - - - - - - -;refine zw 0 rfl rfl rfl rfl ?_;refine zn ?_;repeat' (first|refine zn ?_|fail)
  exact⟨_,_,_,_,_,_,rfl,Has.own 0 rfl,rfl,_,_,⟨_,_,_,_,rfl,hn1,hu1⟩,_,by omega,by omega,rfl⟩
 ·refine F9 J9 [0,1,2,3,4,5,6,7,8] [9] [2,7] (fun _=>True) (fun L'=>L'=(b,C2m)::(tp,B5 lv (a+1))::L) (by kernel_rfl) (by decide) rfl trivial rfl ?_;refine S8 A1 1 rfl rfl rfl rfl rfl rfl ?_;refine zg rfl rfl rfl ?_;refine I6 (fun _ v=>∃x,v=.int .i64 x∧A9w 3 x) (fun L'=>L'=(b,C2m)::(tp,B5 lv (a+1+1))::L) (A9w.mono _) rfl rfl rfl rfl (fun i2 hi2 L' _ hA=>⟨rfl,by subst hA;exact D2 (by kernel_rfl) rfl (J7 tp 1 lv _ _ i2 _ (hl.le hi2) rfl (by omega) (by omega)) (fun _ _ _ _ ⟨x,h1,h2,h3,h4⟩=>⟨trivial,⟨x,h1,h2⟩,h4⟩)⟩) ?_
  (all_goals(refine C4 (PtC 1 fun l=>∃x,l=[.int .i64 x]) (PtC.mono _ _) rfl rfl rfl rfl (fun i2 hi2 L' _=>by intro v hv w hw;obtain⟨b3,rfl,hb3⟩:=hv;obtain⟨x,rfl,hx⟩:=hw;obtain⟨hx0,hx1⟩:=hx;exact⟨rfl,A7x A1 _ rfl rfl rfl (by omega) hb3 (by omega) (by first|exact B7c _ _ _ (by omega)|exact B7b _ _ _ _ (by omega))⟩) ?_))
  (all_goals(refine C4 (fun _ v=>∃x,v=.int .i64 x) IntV.mono rfl rfl rfl rfl (fun i2 hi2 L' _=>by intro v hv;exact⟨rfl,P3.mono (A7w A1 rfl rfl hv (by omega)) (fun u i3 L3 _ ⟨h1,l,h2,⟨x,h3⟩,_⟩=>⟨h1,x,by rw[h3] at h2;cases h2;rfl⟩)⟩) ?_))
  all_goals refine zg rfl rfl rfl ?_
  all_goals refine S8 A1 1 rfl rfl rfl rfl rfl rfl ?_
  all_goals refine I6 (fun _ v=>∃s,v=.string s∧s.size≤64) (fun L'=>L'=(b,C2m)::(tp,B5 lv (a+1+1+1))::L) (SizeV.mono _) rfl rfl rfl rfl (fun i2 hi2 L' _ hA=>by intro v hv;obtain⟨b3,rfl,hb3⟩:=hv;exact⟨rfl,by subst hA;exact D2 (by kernel_rfl) rfl (A6b 64 tp 1 lv _ _ _ _ i2 _ (hl.le hi2) hb3 rfl rfl rfl rfl rfl (by omega)) (fun _ _ _ _ ⟨s,h1,h2,h3,h4⟩=>⟨trivial,⟨s,h1,h2⟩,h4⟩)⟩) ?_
  refine C4 (fun _ v=>A4y 64 v) A4y.mono rfl rfl rfl rfl (fun i2 hi2 L' _=>by rintro v hv w hw;obtain⟨x1,rfl⟩:=hv;obtain⟨s1,rfl,hs1⟩:=hw;exact⟨rfl,P3.mono (H4 (S6 A1 rfl)) (fun u i3 L3 _ ⟨h1,h2⟩=>⟨h1,_,_,_,_,h2,by decide,hs1⟩)⟩) ?_;refine G1 rfl rfl (fun i3 L3 hi3 _ hA=>?_);subst hA;rintro v ⟨k1,n1,o1,u1,rfl,hn1,hu1⟩- - - - - - - - - - - -;refine zw 0 rfl rfl rfl rfl ?_;refine zn ?_;repeat' (first|refine zn ?_|fail)
  exact⟨_,_,_,_,_,_,rfl,Has.own 0 rfl,rfl,_,_,⟨_,_,_,_,rfl,hn1,hu1⟩,_,by omega,by omega,rfl⟩
def terms(l:List Term):List Value:=l.flatMap H6
theorem A7y:∀l:List Term,(terms l).length=l.length*4
 |[]=>rfl
 |a::l=>by
  have h:=A7y l;have e:terms (a::l)=H6 a++terms l:=rfl;rw[e,E9h,h,F1h];simp[H6];omega
theorem X0(l:List Term)(t:Term):terms (l++[t])=terms l++H6 t:=by simp[terms]
theorem D2t(l:List Term)(t:Term):terms (t::l)=H6 t++terms l:=by simp[terms]
theorem B2a(l:List Term):∀c∈terms l,c.oneCell'=true:=by
 intro c hc;obtain⟨t,_,ht⟩:=List.mem_flatMap.1 hc;simp[H6] at ht;rcases ht with rfl|rfl|rfl|rfl<;>rfl
theorem C0u(t:Term):∀c∈H6 t,c.oneCell'=true:=by
 intro c hc;simp[H6] at hc;rcases hc with rfl|rfl|rfl|rfl<;>rfl
def Q6(B:Nat)(l:List Term):Prop:=∀t∈l,t.small B
theorem Q6.nil(B:Nat):Q6 B []:=fun t ht=>by cases ht
theorem Q6.snoc{B:Nat}{l:List Term}{t:Term}(h:Q6 B l)(ht:t.small B):Q6 B (l++[t]):=fun u hu=>(E9r.1 hu).elim (h u) fun h=>by simp at h;subst h;exact ht
theorem Q6.cons{B:Nat}{l:List Term}{t:Term}(h:Q6 B l)(ht:t.small B):Q6 B (t::l):=fun u hu=>(F0b.1 hu).elim (fun h=>by subst h;exact ht) (h u)
theorem A4y.get{B:Nat}{v:Value}(h:A4y B v):∃t:Term,v=.agg (H6 t).toArray∧t.small B:=by
 obtain⟨k,n,o,u,rfl,h1,h2⟩:=h;exact⟨⟨k,n,o,u⟩,rfl,h1,h2⟩
theorem C3e(A:SH)(tp:Nat)(lv:Value)(a n:Int)(i:Imm)(R:SH)(hl:I5 i lv)(hn:n≤9223372036854775807)(ha:0≤a∧a≤1000000000000):
 E6 E9c 20 [.pointer (some ⟨tp,0,none⟩),.int .i64 n] i (A++((tp,B5 lv a)::R)) fun r i' L'=>∃x,r=.int .i64 x∧A9w n x∧i'=i∧L'=A++((tp,B5 lv (a+1))::R):=by
 refine(J7 tp A.length lv a n i _ hl (by simp) hn ha).mono ?_
 rintro r i' L' _ ⟨x,h1,h2,h3,rfl⟩;exact⟨x,h1,h2,h3,by simp⟩
theorem B6d(B:Nat)(A:SH)(tp:Nat)(lv:Value)(a:Int)(b n:Nat)(cs:List Value)(i:Imm)(R:SH)(hl:I5 i lv)(hs:Sl i (.slice (some ⟨b,0,none⟩) n n) 1 n cs)(hc:strs (A0q cs)=cs)(hB:D8c B cs=true)(hn:F0e 0 n=true)(hn2:F0n n 1000=true)(ha:0≤a∧a≤1000000000000):
 E6 E9c 49 [.pointer (some ⟨tp,0,none⟩),.slice (some ⟨b,0,none⟩) n n] i (A++((tp,B5 lv a)::R)) fun r i' L'=>∃s,r=.string s∧s.size≤B∧i'=i∧L'=A++((tp,B5 lv (a+1))::R):=by
 refine(A6b B tp A.length lv a b n cs i _ hl hs (by simp) hc hB hn hn2 ha).mono ?_
 rintro r i' L' _ ⟨x,h1,h2,h3,rfl⟩;exact⟨x,h1,h2,h3,by simp⟩
theorem C7w{P:Program}{g:FuncId}{args:List Value}{i:Imm}{tp:Nat}{lv:Value}{a k:Int}{φ:Value→Imm→Prop}(A R:SH)
 (h:∀L,E6 P g args i ((tp,B5 lv a)::L) fun v i' L'=>φ v i'∧∃a',a≤a'∧a'≤a+k∧L'=(tp,B5 lv a')::L):
 E6 P g args i (A++((tp,B5 lv a)::R)) fun v i' L'=>φ v i'∧∃a',a≤a'∧a'≤a+k∧L'=A++((tp,B5 lv a')::R):=by
 have:=E6.ctx (P:=P) (g:=g) (args:=args) (i:=i) A (B:=[(tp,B5 lv a)]) (R:=R) (X:=Int) (φ:=fun a' v i'=>φ v i'∧a≤a'∧a'≤a+k) (B':=fun a'=>[(tp,B5 lv a')])
  ((h (A++R)).mono fun v i' L' _ ⟨h1,a',h2,h3,h4⟩=>⟨a',⟨h1,h2,h3⟩,h4⟩)
 exact this.mono fun v i' L' _ ⟨a',⟨h1,h2,h3⟩,h4⟩=>⟨h1,a',h2,h3,h4⟩
theorem Terms_t(tp:Nat)(lv:Value)(a:Int)(i:Imm)(L:SH)(hl:I5 i lv)(ha:0≤a∧a≤800000000000):
 E6 E9c 52 [.pointer (some ⟨tp,0,none⟩)] i ((tp,B5 lv a)::L) fun r i' L'=>(∃ts,Sl i' r 4 ts.length (terms ts)∧Q6 64 ts∧ts.length≤8)∧∃a',a≤a'∧a'≤a+200∧L'=(tp,B5 lv a')::L:=by
 have key:E6 E9c 52 [.pointer (some ⟨tp,0,none⟩)] i ((tp,B5 lv a)::L) fun r i' L'=>∃(a':Int)(n:Nat)(xs:List Value)(O:SH),(a≤a'∧a'≤a+200∧∃ts:List Term,n=ts.length∧xs=terms ts∧Q6 64 ts∧ts.length≤8)∧J2 54 r 4 n xs O∧L'=O++((tp,B5 lv a')::L):=by
  refine A5 Tryz.func52 rfl rfl (by simp) rfl ?_;repeat' (first|refine zp rfl ?_|refine zn ?_|refine zs [0,1] rfl ?_)
  refine zr 2 ?_;refine zp rfl ?_;refine A7 (C3e [] _ _ _ _ _ _ hl (by omega) (by omega)) rfl (by kernel_rfl) rfl ?_;rintro _ _ _-⟨x,rfl,⟨hx0,hx1⟩,rfl,rfl⟩;refine zp rfl ?_;refine zn ?_;repeat' (first|refine zn ?_|fail)
  refine B1 [0,3,4] (fun m vs i' L'=>∃(x a':Int)(ts:List Term)(O:SH)(ao:Option Addr)(cap:Nat),m=x.toNat∧0≤x∧J2 54 (.slice ao ts.length cap) 4 ts.length (terms ts) O∧Q6 64 ts∧(ts.length:Int)+x≤2∧a≤a'∧a'+11*x≤a+23∧vs=[.pointer (some ⟨tp,0,none⟩),.slice ao ts.length cap,.int .i64 x]∧I5 i' lv∧L'=O++((tp,B5 lv a')::L)) x.toNat
   ⟨x,a+1,[],[],none,0,rfl,by omega,J2.nil 54 4,Q6.nil 64,by simp;omega,by omega,by omega,rfl,hl,rfl⟩ ?_
  rintro m g vs i' L' hi ⟨x,a',ts,O,ao,cap,rfl,hx,hO,hsm0,hlen,ha0,ha1,rfl,hl,rfl⟩;repeat' (first|refine zp rfl ?_|refine zn ?_|refine A2 rfl ?_|refine A0 rfl ?_|refine zs [3,4,5] rfl ?_|refine H0 rfl rfl rfl (fun h=>?_) (fun h=>?_)|refine A6 (H3 rfl rfl (by omega)) rfl ?_|(refine A7 (C7w O _ (fun L=>E0j tp lv _ _ L hl (by omega))) rfl (by kernel_rfl) rfl ?_;rintro _ i' _ hi' ⟨ht,a2,ha1,ha2,rfl⟩;obtain⟨t,rfl,hsm⟩:=ht.get;replace hl:=hl.le hi')|(refine A8 A1 4 rfl rfl rfl (fun b i' hi' hs=>?_);replace hl:=hl.le hi')|(refine P2 A1 (sz:=4) (bytes:=48) rfl rfl rfl hO (hs.rd _) ⟨_,rfl,rfl⟩ ⟨_,rfl,rfl,rfl⟩ (by omega) (F4 rfl) (by omega) (by omega) ?_;intro ao cap O hO))
  ·refine⟨(x-1).toNat,by omega,x-1,a2,ts++[t],O,ao,cap,rfl,by omega,?_,hsm0.snoc hsm,by simp;omega,by omega,by omega,by rw[E9h];rfl,hl,rfl⟩;rw[X0,E9h];exact hO
  have hx0:x=0:=by omega
  subst hx0;refine zr 6 ?_;refine zp rfl ?_;refine A7 (C3e _ _ _ _ _ _ _ hl (by omega) (by omega)) rfl (by kernel_rfl) rfl ?_;rintro _ _ _-⟨x,rfl,⟨hx0,hx1⟩,rfl,rfl⟩;refine zd rfl rfl (by omega) rfl ?_;refine zp rfl ?_;refine zn ?_;repeat' (first|refine zn ?_|fail)
  refine B1 [0,3,5] (fun m vs i' L'=>∃(x a':Int)(ts:List Term)(O:SH)(ao:Option Addr)(cap:Nat),m=x.toNat∧0≤x∧J2 54 (.slice ao ts.length cap) 4 ts.length (terms ts) O∧Q6 64 ts∧(ts.length:Int)+x≤4∧a≤a'∧a'+11*x≤a+60∧vs=[.pointer (some ⟨tp,0,none⟩),.slice ao ts.length cap,.int .i64 x]∧I5 i' lv∧L'=O++((tp,B5 lv a')::L)) (1+x).toNat
   ⟨1+x,a'+1,ts,O,ao,cap,rfl,by omega,hO,hsm0,by omega,by omega,by omega,rfl,hl,rfl⟩ ?_
  rintro m g vs i' L' hi ⟨x,a',ts,O,ao,cap,rfl,hx,hO,hsm0,hlen,ha0,ha1,rfl,hl,rfl⟩;repeat' (first|refine zp rfl ?_|refine zn ?_|refine A2 rfl ?_|refine A0 rfl ?_|refine zs [7,8,9] rfl ?_|refine H0 rfl rfl rfl (fun h=>?_) (fun h=>?_)|refine A6 (H3 rfl rfl (by omega)) rfl ?_|(refine A7 (C7w O _ (fun L=>C2c tp lv _ _ L hl (by omega))) rfl (by kernel_rfl) rfl ?_;rintro _ i' _ hi' ⟨ht,a2,ha1,ha2,rfl⟩;obtain⟨t,rfl,hsm⟩:=ht.get;replace hl:=hl.le hi')|(refine A8 A1 4 rfl rfl rfl (fun b i' hi' hs=>?_);replace hl:=hl.le hi')|(refine P2 A1 (sz:=4) (bytes:=48) rfl rfl rfl hO (hs.rd _) ⟨_,rfl,rfl⟩ ⟨_,rfl,rfl,rfl⟩ (by omega) (F4 rfl) (by omega) (by omega) ?_;intro ao cap O hO))
  ·refine⟨(x-1).toNat,by omega,x-1,a2,ts++[t],O,ao,cap,rfl,by omega,?_,hsm0.snoc hsm,by simp;omega,by omega,by omega,by rw[E9h];rfl,hl,rfl⟩;rw[X0,E9h];exact hO
  have hx0:x=0:=by omega
  subst hx0;refine zr 10 ?_;refine zp rfl ?_;refine A7 (C3e _ _ _ _ _ _ _ hl (by omega) (by omega)) rfl (by kernel_rfl) rfl ?_;rintro _ _ _-⟨x,rfl,⟨hx0,hx1⟩,rfl,rfl⟩;refine zn ?_;repeat' (first|refine zp rfl ?_|refine zn ?_|refine A2 rfl ?_|refine A0 rfl ?_|refine zs [11,12,13,14,15] rfl ?_|refine E1 rfl rfl rfl (fun h=>?_) (fun h=>?_)|(refine A8 A1 1 rfl rfl rfl (fun b i' hi' hs=>?_);replace hl:=hl.le hi')|(refine A7 (B6d 64 _ _ _ _ _ _ _ _ _ hl hs rfl rfl rfl rfl (by omega)) rfl (by kernel_rfl) rfl ?_;rintro _ _ _-⟨s,rfl,hsz,rfl,rfl⟩)|(refine A8 A1 4 rfl rfl rfl (fun b i' hi' hs=>?_);replace hl:=hl.le hi')|(refine P2 A1 (sz:=4) (bytes:=48) rfl rfl rfl hO (hs.rd _) ⟨_,rfl,rfl⟩ ⟨_,rfl,rfl,rfl⟩ (by omega) (F4 rfl) (by omega) (by omega) ?_;intro ao cap O hO))
  ·refine zr 17 ?_;iterate 2 refine zp rfl ?_
   refine zn ?_;repeat' (first|refine zn ?_|fail)
   exact⟨_,_,_,_,⟨by omega,by omega,ts++[⟨23,E9f,3,s⟩],by rw[E9h],rfl,hsm0.snoc ⟨by show(0:Nat)≤64;omega,hsz⟩,by simp;omega⟩,by rw[X0];exact hO,rfl⟩
  ·refine zr 17 ?_;iterate 2 refine zp rfl ?_
   refine zn ?_;repeat' (first|refine zn ?_|fail)
   exact⟨_,_,_,_,⟨by omega,by omega,ts++[⟨24,E9f,3,s⟩],by rw[E9h],rfl,hsm0.snoc ⟨by show(0:Nat)≤64;omega,hsz⟩,by simp;omega⟩,by rw[X0];exact hO,rfl⟩
  ·refine zr 16 ?_;refine zp rfl ?_;refine A7 (C7w O _ (fun L=>C2c tp lv _ _ L hl (by omega))) rfl (by kernel_rfl) rfl ?_;rintro _ i' _ hi' ⟨ht,a2,ha1,ha2,rfl⟩;obtain⟨t,rfl,hsm⟩:=ht.get;replace hl:=hl.le hi';refine V9 A1 rfl rfl (fun b=>?_);refine zp rfl ?_;refine P2 (O:=[_]) (L0:=O++((tp,B5 lv a2)::L)) A1 (sz:=4) (bytes:=48) rfl rfl rfl (A4g 54 4 1 b (H6 t) rfl) ((hO.rd (L:=(tp,B5 lv a2)::L)).ahead [_]) ⟨_,rfl,rfl⟩ ⟨_,rfl,rfl,rfl⟩ (by omega) (B2a ts) (by omega) (by omega) ?_;intro ao cap O' hO';refine B0e O' O _ ?_;refine zp rfl ?_;refine zn ?_;repeat' (first|refine zp rfl ?_|refine zn ?_|refine A3 ?_)
   exact⟨_,1+ts.length,_,_,⟨by omega,by omega,t::ts,by rw[F1h];omega,rfl,hsm0.cons hsm,by simp;omega⟩,by rw[D2t];exact hO',rfl⟩
  ·refine zr 17 ?_;iterate 2 refine zp rfl ?_
   refine zn ?_;repeat' (first|refine zn ?_|fail)
   exact⟨_,_,_,_,⟨by omega,by omega,ts,rfl,rfl,hsm0,by omega⟩,hO,rfl⟩
 have k2:=A7n (φ:=fun a' v i' n xs=>a≤a'∧a'≤a+200∧∃ts:List Term,n=ts.length∧xs=terms ts∧Q6 64 ts∧ts.length≤8) (B:=fun a'=>(tp,B5 lv a')::L) (fun _ _ _ _ _ _ _ h=>h) key;refine k2.mono ?_;rintro v i' L' _ ⟨a',n,xs,⟨h1,h2,ts,rfl,rfl,h3,h4⟩,h5,h6⟩;exact⟨⟨ts,h5,h3,h4⟩,a',h1,h2,h6⟩
theorem YN.drop{P:Program}{g:FuncId}{args:List Value}{i:Imm}{L:SH}{R:Bool→Prop}(h:E6 P g args i L fun v i' L'=>∃G b,v=.bool b∧R b∧i'=i∧L'=G++L):E6 P g args i L fun v i' L'=>∃b,v=.bool b∧R b∧i'=i∧L'=L:=by
 refine E6.state h ?_;rintro v i' L' w _ hs ⟨G,b,h1,h2,h3,rfl⟩;exact⟨i',L,Imm.le.refl i',hs.dropL,b,h1,h2,h3,rfl⟩
theorem YN.of{P:Program}{g:FuncId}{args:List Value}{i:Imm}{L:SH}{R:Bool→Prop}(h:E6 P g args i L fun v i' L'=>∃b,v=.bool b∧R b∧i'=i∧L'=L):E6 P g args i L fun v i' L'=>YN v i i' L L':=
 h.mono fun _ _ _ _ ⟨b,h1,_,h3,h4⟩=>⟨b,h1,h3,h4⟩
theorem D7w(t:Term)(i:Imm)(L:SH):
 E6 E9c 178 [.agg (H6 t).toArray] i L fun v i' L'=>∃b,v=.bool b∧(b=true→1≤t.op∧t.op≤2)∧i'=i∧L'=L:=by
 refine YN.drop (R:=fun b=>b=true→1≤t.op∧t.op≤2) ?_;refine A5 Tryz.func178 rfl rfl (by simp) rfl ?_;repeat' (first|refine zp rfl ?_|refine zn ?_|refine A3 ?_|refine E4 rfl rfl (fun b=>?_)|refine zo 0 rfl rfl rfl rfl ?_|refine E1 rfl rfl rfl (fun h=>?_) (fun h=>?_))
 ·exact⟨[_],_,rfl,fun _=>by omega,rfl,rfl⟩
 ·exact⟨[_],_,rfl,fun _=>by omega,rfl,rfl⟩
 ·exact⟨[_],_,rfl,(fun h=>by cases h),rfl,rfl⟩
theorem named_t(t:Term)(i:Imm)(L:SH)(hs:Y1 t.name):
 E6 E9c 134 [.agg (H6 t).toArray] i L fun v i' L'=>YN v i i' L L':=by
 refine YN.of (R:=fun _=>True) (YN.drop ?_);refine A5 Tryz.func134 rfl rfl (by simp) rfl ?_;repeat' (first|refine zp rfl ?_|refine zn ?_|refine A2 rfl ?_|refine A0 rfl ?_|refine A3 ?_|refine E4 rfl rfl (fun b=>?_)|refine zo 0 rfl rfl rfl rfl ?_|refine E1 rfl rfl rfl (fun h=>?_) (fun h=>?_)|refine C9 _ (W2 _ _ _ (by first|omega|assumption)) rfl (by kernel_rfl) rfl ?_ ?_<;>rintro _ _-⟨rfl,rfl⟩|refine C9 _ (E3r _ _ _ (by first|omega|assumption)) rfl (by kernel_rfl) rfl ?_ ?_<;>rintro _ _-⟨rfl,rfl⟩|refine I9 rfl rfl rfl (fun h=>?_) (fun h=>?_))
 all_goals exact⟨[_],_,rfl,trivial,rfl,rfl⟩
theorem D9w(t:Term)(i:Imm)(L:SH):
 E6 E9c 135 [.agg (H6 t).toArray] i L fun v i' L'=>∃b,v=.bool b∧(b=true→1≤t.op∧t.op≤6)∧i'=i∧L'=L:=by
 refine YN.drop (R:=fun b=>b=true→1≤t.op∧t.op≤6) ?_;refine A5 Tryz.func135 rfl rfl (by simp) rfl ?_;repeat' (first|refine zp rfl ?_|refine zn ?_|refine A2 rfl ?_|refine A0 rfl ?_|refine A3 ?_|refine E4 rfl rfl (fun b=>?_)|refine zo 0 rfl rfl rfl rfl ?_|refine C9 _ (D7w t _ _) rfl (by kernel_rfl) rfl ?_ ?_<;>rintro _ _-⟨hmm,rfl,rfl⟩|refine O5 rfl rfl rfl (fun h=>?_) (fun h=>?_)|refine E1 rfl rfl rfl (fun h=>?_) (fun h=>?_)|refine Y8 rfl rfl rfl (fun h=>?_) (fun h=>?_))
 all_goals first|exact⟨[_],_,rfl,(fun(h:false=true)=>Bool.noConfusion h),rfl,rfl⟩|exact⟨[_],_,rfl,(fun(_:true=true)=>by first|omega|(have:=hmm rfl;omega)),rfl,rfl⟩
theorem D3x(s:ByteArray)(i:Imm)(L:SH)(hg:Glb i):
 E6 E9c 180 [.string s] i L fun v i' L'=>∃x b,v=.tuple #[.int .i64 x,.bool b]∧i'=i∧L'=L:=by
 refine G4 Tryz.func180 rfl rfl (by simp) rfl ?_;repeat' (first|refine zp rfl ?_|refine zn ?_|refine zs [0,1] rfl ?_)
 refine B1 [0,4] (fun m vs i' L'=>∃k:Int,m=(1001-k).toNat∧ -1000≤k∧k≤1001∧vs=[.string s,.int .i64 k]∧i'=i∧L'=L) 2001 ⟨-1000,rfl,by omega,by omega,rfl,rfl,rfl⟩ ?_;rintro m g vs i' L' hi ⟨k,rfl,hk,hk2,rfl,rfl,rfl⟩;repeat' (first|refine zp rfl ?_|refine zn ?_|refine A2 rfl ?_|refine A0 rfl ?_|refine A3 ?_|refine O5 rfl rfl rfl (fun h=>?_) (fun h=>?_)|refine zd rfl rfl (by omega) rfl ?_|(refine A7 (E4p _ _ _ hg (by omega) (by omega)) rfl (by kernel_rfl) rfl ?_;rintro _ _ _-⟨s',rfl,rfl,rfl⟩)|refine I9 rfl rfl rfl (fun h=>?_) (fun h=>?_))
 all_goals first|exact⟨_,_,rfl,rfl,rfl⟩|exact⟨(1001-(k+1)).toNat,by omega,k+1,rfl,by omega,by omega,rfl,rfl,rfl⟩
theorem A0v{α:Type}{l:List α}{k:Nat}{x:α}(h:l[k]?=some x):∃A B,l=A++x::B∧A.length=k:=by
 obtain⟨hk,rfl⟩:=E9e.1 h;exact⟨l.take k,l.drop (k+1),by rw[←List.drop_eq_getElem_cons hk,List.take_append_drop],by simp;omega⟩
theorem B6r{l:List Term}{k:Nat}{t:Term}(h:l[k]?=some t)(d:Nat)(hd:d<4):(terms l)[k*4+d]?=(H6 t)[d]?:=by
 obtain⟨A,B,rfl,rfl⟩:=A0v h;have e:terms (A++t::B)=terms A++(H6 t++terms B):=by simp[terms]
 rw[e,F0r (by rw[A7y];omega),A7y,Nat.add_sub_cancel_left,E9t (by simpa [H6] using hd)]
theorem C4h(v:Value)(key:Int)(ts:List Term)(B:Nat)(i:Imm)(L:SH)(hv:Sl i v 4 ts.length (terms ts))(hB:Q6 B ts)(hn:ts.length≤4294967280):
 E6 E9c 145 [v,.int .i64 key] i L fun v i' L'=>∃s b,v=.tuple #[.string s,.bool b]∧s.size≤B∧i'=i∧L'=L:=by
 obtain⟨ao,cap,hva,_⟩:=id hv;subst hva;refine G4 Tryz.func145 rfl rfl (by simp) rfl ?_;repeat' (first|refine zp rfl ?_|refine zn ?_|refine zs [0,1] rfl ?_)
 refine B1 [0,1,6] (fun m vs i' L'=>∃k:Nat,m=ts.length-k∧k≤ts.length∧vs=[.slice ao ts.length cap,.int .i64 key,.int .i64 (k:Int)]∧i'=i∧L'=L) ts.length ⟨0,rfl,E9k _,rfl,rfl,rfl⟩ ?_;rintro m g vs i' L' hi ⟨k,rfl,hk,rfl,rfl,rfl⟩;by_cases hlt:k<ts.length
 ·obtain⟨b1,o1,c1,t1,z1,p1,e1,g1,h1⟩:=hv.at hlt (by omega);cases e1;obtain⟨x,hx⟩:=zi ts k hlt;have q0:=(h1 0 (by omega)).trans (B6r hx 0 (by omega));have q3:=(h1 3 (by omega)).trans (B6r hx 3 (by omega));have hxs:=hB x (E9g hx);repeat' (first|refine zp rfl ?_|refine zn ?_|refine A2 rfl ?_|refine A0 rfl ?_|refine A3 ?_|refine zt rfl rfl (by omega) rfl ?_|refine zd rfl rfl (by omega) rfl ?_|refine zx rfl rfl rfl (by omega) rfl ?_|refine zm g1 q0 rfl rfl rfl ?_|refine E1 rfl rfl rfl (fun h=>?_) (fun h=>?_)|refine zm g1 q3 rfl rfl rfl ?_)
  all_goals first|exact⟨_,_,rfl,hxs.2,rfl,rfl⟩|exact⟨ts.length-(k+1),by omega,k+1,rfl,by omega,rfl,rfl,rfl⟩
 ·repeat' (first|refine zp rfl ?_|refine zn ?_|refine A0 rfl ?_|refine zs [2,6] rfl ?_|refine zf rfl rfl (by omega) rfl ?_)
  all_goals exact⟨_,_,rfl,E9k _,rfl,rfl⟩
theorem B5m{i:Imm}{v:Value}{n:Nat}{cs:List Value}(h:Sl i v 1 n cs)(hc:strs (A0q cs)=cs):Sl i v 1 n (strs (A0q cs)):=by rw[hc];exact h
theorem words_t(i:Imm)(L:SH):
 E6 E9c 322 [] i L fun v i' L'=>(∃b ss,v=.slice (some ⟨b,0,none⟩) 12 12∧Sl i' v 1 12 (strs ss)∧ss.length=12)∧L'=L:=by
 refine A5 Tryz.func322 rfl rfl (by simp) rfl ?_;repeat' (first|refine zp rfl ?_|refine zn ?_|refine A3 ?_|refine A8 A1 1 rfl rfl rfl (fun b i' hi' hs=>?_))
 exact⟨⟨b,_,rfl,B5m hs rfl,rfl⟩,rfl⟩
theorem kind_t(s:ByteArray)(i:Imm)(L:SH):
 E6 E9c 293 [.string s] i L fun v i' L'=>(∃x,v=.int .i64 x∧0≤x∧x<12)∧L'=L:=by
 refine A5 Tryz.func293 rfl rfl (by simp) rfl ?_;repeat' (first|refine zn ?_|(refine zr 0 ?_;refine zp rfl ?_;refine zn ?_))
 refine zr 1 ?_;refine A7 (words_t _ _) rfl (by kernel_rfl) rfl ?_;rintro v i1 L hi1 ⟨⟨b,ss,rfl,hs,hl⟩,rfl⟩;refine zp rfl ?_;refine zn ?_;repeat' (first|refine zn ?_|(refine zr 2 ?_;refine zp rfl ?_;refine zn ?_))
 refine B1 [0,3,4] (fun m vs i' L'=>∃k:Nat,m=12-k∧2≤k∧k≤12∧vs=[.string s,.slice (some ⟨b,0,none⟩) 12 12,.int .i64 (k:Int)]∧i'=i1∧L'=L) 10 ⟨2,rfl,by omega,by omega,rfl,rfl,rfl⟩ ?_;rintro m g vs i' L' hi ⟨k,rfl,hk2,hk,rfl,rfl,rfl⟩;by_cases hlt:k<12
 ·obtain⟨b1,o1,c1,t1,z1,p1,e1,g1,h1⟩:=hs.at hlt (by omega);cases e1;obtain⟨x,hx⟩:=zi ss k (by omega);have q1:=h1 0 (by omega);rw[A0g,hx] at q1;repeat' (first|refine zp rfl ?_|refine zn ?_|refine A2 rfl ?_|refine A0 rfl ?_|refine A3 ?_|refine zt rfl rfl (by omega) rfl ?_|refine zd rfl rfl (by omega) rfl ?_|refine zx rfl rfl rfl (by omega) rfl ?_|refine zm g1 q1 rfl rfl rfl ?_|refine I9 rfl rfl rfl (fun h=>?_) (fun h=>?_))
  all_goals first|exact⟨⟨_,rfl,by omega,by omega⟩,rfl⟩|exact⟨12-(k+1),by omega,k+1,rfl,by omega,by omega,rfl,rfl,rfl⟩
 ·repeat' (first|refine zp rfl ?_|refine zn ?_|refine A0 rfl ?_|refine zs [3,7] rfl ?_|refine zf rfl rfl (by omega) rfl ?_)
  all_goals exact⟨⟨_,rfl,by omega,by omega⟩,rfl⟩
theorem D1h(s:ByteArray)(c:Int)(i:Imm)(L:SH):
 E6 E9c 187 [.string s,.int .u8 c] i L fun r i' L'=>∃x,r=.int .i64 x∧ -1≤x∧x<s.size∧(0≤x→s.data.toList[x.toNat]?=some c.toNat.toUInt8)∧i'=i∧L'=L:=by
 refine(A0z fun w=>Tryz.strings_IndexByte s c w).mono ?_
 rintro r i' L' _ ⟨rfl,rfl,rfl⟩
 have:=A5p s.data.toList c.toNat.toUInt8
 refine⟨_,rfl,this.1,by rw[Lib.size_eq];exact this.2,fun h=>?_,rfl,rfl⟩;exact(Lib.indexByte_some (o:=(Lib.indexByte s.data.toList c.toNat.toUInt8).toNat) (by omega)).1
theorem E6n(s:ByteArray)(i:Imm)(L:SH)(hs:Y1 s):
 E6 E9c 323 [.string s] i L fun v i' L'=>∃p q b,v=.tuple #[.string p,.string q,.bool b]∧p.size≤s.size∧q.size≤s.size∧i'=i∧L'=L:=by
 refine A9m Tryz.func323 rfl rfl (by simp) rfl ?_;by_cases h0:s.size=0
 ·have hem:s.toList=(F0y #[]).toList:=by
   obtain⟨⟨l⟩⟩:=s
   have:l=[]:=F0t h0
   subst this;rfl
  repeat' (first|refine zp rfl ?_|refine zn ?_|refine zr 0 ?_)
  refine zr 1 ?_;refine zp rfl ?_;refine A6 (B0x rfl rfl hem) rfl ?_;iterate 4 refine zp rfl ?_
  all_goals refine zp rfl ?_
  all_goals refine zn ?_
  repeat' (first|refine zp rfl ?_|refine zn ?_|refine A2 rfl ?_|refine A3 ?_)
  exact⟨_,_,_,rfl,by show(0:Nat)≤_;omega,by omega,rfl,rfl⟩
 ·obtain⟨c0,hc0⟩:=Go.Eng.byte_at (s:=s) (j:=0) (by omega)
  have hne:s.toList≠(F0y #[]).toList:=fun h=>h0 (by
   have:=A2u h
   subst this;rfl)
  repeat' (first|refine zp rfl ?_|refine zn ?_|refine A2 rfl ?_|refine A0 rfl ?_|refine zs [0,1,2,3,4,5] rfl ?_|refine A6 (B0y rfl rfl hne) rfl ?_|refine A6 (A4h A1 rfl rfl rfl (by omega) hc0) rfl ?_|refine J1 rfl rfl rfl (fun h=>?_) (fun h=>?_)|(refine A7 (D1h _ _ _ _) rfl (by kernel_rfl) rfl ?_;rintro _ i L-⟨x,rfl,hx0,hx1,hxe,rfl,rfl⟩)|refine I1 rfl rfl rfl (fun h=>?_) (fun h=>?_))
  ·exact⟨_,_,_,rfl,by show(0:Nat)≤_;omega,by omega,rfl,rfl⟩
  ·exact⟨_,_,_,rfl,by show(0:Nat)≤_;omega,by omega,rfl,rfl⟩
  ·have hx2:x≠0:=by
    rintro rfl;have h1:=hxe (by omega)
    have h2:s.data.toList[0]?=some c0:=by
     have:s.data[0]?=some c0:=by
      have h3:s[0]?=s.data[0]?:=rfl;rw[←h3];exact hc0
     simpa using this
    rw[show(0:Int).toNat=0 from rfl,h2] at h1;have h3:=Option.some.inj h1;have h4:(c0.toNat:Int)=123:= ‹_›;rw[h3] at h4;exact absurd h4 (by decide)
   refine C8 (id:=6) J9 (by kernel_rfl) ?_;iterate 2 refine zq rfl ?_
   refine D3 (K6 A1 (l:=1) (h:=x.toNat) rfl rfl (.inr ⟨_,_,rfl,rfl⟩) (.inr ⟨_,_,rfl,by show F0u _ x=_;congr 1;omega⟩) (by omega) (by omega)) rfl ?_;iterate 2 refine zq rfl ?_
   refine D3 (A3n rfl rfl (by omega)) rfl ?_;refine D3 (K6 A1 (l:=x.toNat+1) (h:=s.size) rfl rfl (.inr ⟨_,_,rfl,by show F0u _ (x+1)=_;congr 1;omega⟩) (.inl ⟨rfl,rfl⟩) (by omega) (by omega)) rfl ?_;iterate 3 refine zq rfl ?_
   refine zn ?_;repeat' (first|refine zn ?_|fail)
   exact⟨_,_,_,rfl,by rw[F0f];omega,by rw[F0f];omega,rfl,rfl⟩
theorem count_t(s:ByteArray)(i:Imm)(L:SH)(hg:Glb i)(hs:Y1 s):
 E6 E9c 324 [.string s] i L fun v i' L'=>∃x b c,v=.tuple #[.int .i64 x,.bool b,.bool c]∧i'=i∧L'=L:=by
 refine A9m Tryz.func324 rfl rfl (by simp) rfl ?_;repeat' (first|refine zp rfl ?_|refine zn ?_|refine zs [0,1,2,3] rfl ?_|refine C9 _ (A7m _ _ _ _ (by omega)) rfl (by kernel_rfl) rfl ?_ ?_<;>rintro i L-⟨-,rfl,rfl⟩|(refine A7 (C5e _ _ _ _ (by omega)) rfl (by kernel_rfl) rfl ?_;rintro _ i L-⟨s1,rfl,hs1,rfl,rfl⟩))
 all_goals
  refine B1 [0,5,6] (fun m vs i' L'=>∃(k:Int)(b:Bool)(s1:ByteArray),m=(100-k).toNat∧1≤k∧k≤100∧vs=[.string s1,.bool b,.int .i64 k]∧i'=i∧L'=L) 99 ⟨1,_,_,rfl,by omega,by omega,rfl,rfl,rfl⟩ ?_;rintro m g vs i' L' hi ⟨k,b,s1,rfl,hk,hk2,rfl,rfl,rfl⟩;repeat' (first|refine zp rfl ?_|refine zn ?_|refine A2 rfl ?_|refine A0 rfl ?_|refine A3 ?_|refine O5 rfl rfl rfl (fun h=>?_) (fun h=>?_)|refine zd rfl rfl (by omega) rfl ?_|(refine A7 (E4p _ _ _ hg (by omega) (by omega)) rfl (by kernel_rfl) rfl ?_;rintro _ i L-⟨s',rfl,rfl,rfl⟩)|refine I9 rfl rfl rfl (fun h=>?_) (fun h=>?_))
  all_goals first|exact⟨_,_,_,rfl,rfl,rfl⟩|exact⟨(100-(k+1)).toNat,by omega,k+1,b,s1,rfl,by omega,by omega,rfl,rfl,rfl⟩
structure Piece where
 kind:Int
 text:ByteArray
 word:Int
 more:Bool
def Z6(p:Piece):List Value:=[.int .i64 p.kind,.string p.text,.int .i64 p.word,.bool p.more]
def K1(l:List Piece):List Value:=l.flatMap Z6
theorem A0a:∀l:List Piece,(K1 l).length=l.length*4
 |[]=>rfl
 |a::l=>by
  have h:=A0a l;have e:K1 (a::l)=Z6 a++K1 l:=rfl;rw[e,E9h,h,F1h];simp[Z6];omega
theorem B3u(l:List Piece)(t:Piece):K1 (l++[t])=K1 l++Z6 t:=by simp[K1]
theorem D8r{l:List Piece}{k:Nat}{t:Piece}(h:l[k]?=some t)(d:Nat)(hd:d<4):(K1 l)[k*4+d]?=(Z6 t)[d]?:=by
 obtain⟨A,B,rfl,rfl⟩:=A0v h;have e:K1 (A++t::B)=K1 A++(Z6 t++K1 B):=by simp[K1]
 rw[e,F0r (by rw[A0a];omega),A0a,Nat.add_sub_cancel_left,E9t (by simpa [Z6] using hd)]
theorem place_t(k:Int)(s:ByteArray)(i:Imm)(L:SH)(hg:Glb i)(hs:Y1 s):
 E6 E9c 294 [.int .i64 k,.string s] i L fun v i' L'=>(∃p rest b,v=.tuple #[.agg (Z6 p).toArray,.string rest,.bool b]∧p.text.size≤s.size∧rest.size≤s.size)∧L'=L:=by
 refine E6.drop ?_;refine B1f A1 Tryz.func294 rfl rfl (by simp) rfl ?_;repeat' (first|refine zn ?_|refine A2 rfl ?_|refine A0 rfl ?_|(refine zr 0 ?_;refine C1 A1 rfl rfl (fun b4=>?_);(all_goals refine zp rfl ?_);(all_goals refine zp rfl ?_);(all_goals refine zn ?_))|(refine zr 1 ?_;refine zp rfl ?_;refine zp rfl ?_;refine C1 A1 rfl rfl (fun b7=>?_);(all_goals(refine zw 0 rfl rfl rfl rfl ?_));(all_goals refine zn ?_))|(refine zr 2 ?_;refine zp rfl ?_;(refine A7 (E6n _ _ _ hs) rfl (by kernel_rfl) rfl ?_;rintro _ i L-⟨p,q,ok,rfl,hp,hq,rfl,rfl⟩;cases ok);(all_goals refine zp rfl ?_);(all_goals refine zp rfl ?_);(all_goals refine zp rfl ?_);(all_goals refine zp rfl ?_);(all_goals refine zp rfl ?_);(all_goals refine zp rfl ?_);(all_goals refine zp rfl ?_);(all_goals refine zn ?_))|(refine zr 3 ?_;refine zp rfl ?_;(refine E1 rfl rfl rfl (fun h=>?_) (fun h=>?_));(all_goals refine zp rfl ?_);(all_goals refine zn ?_))|(refine zr 4 ?_;((refine zo 0 rfl rfl rfl rfl ?_));(all_goals refine zp rfl ?_);(all_goals(refine zw 1 rfl rfl rfl rfl ?_));(all_goals refine zp rfl ?_);(all_goals refine zp rfl ?_);(all_goals refine zn ?_))|(refine zr 5 ?_;refine zp rfl ?_;(refine E1 rfl rfl rfl (fun h=>?_) (fun h=>?_));(all_goals refine zp rfl ?_);(all_goals refine zn ?_))|(refine zr 6 ?_;refine zp rfl ?_;refine zp rfl ?_;(refine zw 0 rfl rfl rfl rfl ?_);refine zn ?_)|(refine zr 8 ?_;refine zp rfl ?_;(refine E1 rfl rfl rfl (fun h=>?_) (fun h=>?_));(all_goals refine zp rfl ?_);(all_goals refine zn ?_))|(refine zr 9 ?_;refine zp rfl ?_;refine zp rfl ?_;(refine zw 0 rfl rfl rfl rfl ?_);refine zn ?_)|(refine zr 11 ?_;refine zp rfl ?_;(refine E1 rfl rfl rfl (fun h=>?_) (fun h=>?_));(all_goals refine zp rfl ?_);(all_goals(first|refine zp rfl ?_|refine zp rfl ?_));(all_goals(first|(refine C9 _ (X4 _ _ _ _) rfl (by kernel_rfl) rfl ?_ ?_<;>rintro i L-⟨-,rfl,rfl⟩)|refine zp rfl ?_));(all_goals refine zp rfl ?_);(all_goals refine zp rfl ?_);(all_goals refine zn ?_))|(refine zr 12 ?_;refine zp rfl ?_;(refine A7 (count_t _ _ _ hg (by omega)) rfl (by kernel_rfl) rfl ?_;rintro _ i L-⟨x,b1,b2,rfl,rfl,rfl⟩);(all_goals refine zp rfl ?_);(all_goals refine zp rfl ?_);(all_goals refine zp rfl ?_);(all_goals refine zp rfl ?_);(all_goals refine zp rfl ?_);(all_goals refine zp rfl ?_);(all_goals refine zp rfl ?_);(all_goals refine zn ?_))|(refine zr 13 ?_;refine zp rfl ?_;refine zp rfl ?_;refine zp rfl ?_;(refine zw 0 rfl rfl rfl rfl ?_);refine zp rfl ?_;(refine zw 0 rfl rfl rfl rfl ?_);refine zn ?_)|(refine zr 14 ?_;((refine zo 0 rfl rfl rfl rfl ?_));(all_goals refine zp rfl ?_);(all_goals refine zp rfl ?_);(all_goals refine zp rfl ?_);(all_goals(first|refine zp rfl ?_|refine zp rfl ?_));(all_goals refine zp rfl ?_);(all_goals(refine zw 1 rfl rfl rfl rfl ?_));(all_goals refine zp rfl ?_);(all_goals refine zp rfl ?_);(all_goals refine zn ?_))|(refine zr 15 ?_;((refine zo 0 rfl rfl rfl rfl ?_));(all_goals refine zp rfl ?_);(all_goals(refine zw 1 rfl rfl rfl rfl ?_));(all_goals refine zp rfl ?_);(all_goals refine zp rfl ?_);(all_goals refine zn ?_)))
 all_goals first
  |exact⟨_,_,_,_,_,_,rfl,Has.own 1 rfl,rfl,[_,_],⟨⟨_,_,_,_⟩,_,_,rfl,by first|(show(0:Nat)≤_;omega)|exact hp,by first|omega|exact hq⟩,rfl⟩
  |skip
 ·refine F9 J9 [0,1,2,3,4,5,6,7,8] [9] [7] (fun L'=>∃o4,L'=(b7,.cells [.int .i64 k,.string p,.int .i64 0,.bool false].toArray 347 (0,0))::(b4,o4)::L) (fun L'=>L'=(b7,.cells [.int .i64 k,.string p,.int .i64 0,.bool false].toArray 347 (0,0))::(b4,.cells [.int .i64 0,.string E9f,.int .i64 0,.bool false].toArray 347 (0,0))::L) (by kernel_rfl) (by decide) rfl ⟨_,rfl⟩ rfl ?_;refine D7 (fun i' hi L' hL=>by obtain⟨o4,rfl⟩:=hL;exact B0 A1 rfl (Has.own 0 rfl) rfl) rfl rfl rfl rfl rfl rfl ?_;iterate 3 refine zg rfl rfl rfl ?_
  iterate 2 refine zg rfl rfl rfl ?_
  refine zg rfl rfl rfl ?_;refine P5 (fun L'=>L'=(b7,.cells [.int .i64 k,.string p,.int .i64 0,.bool false].toArray 347 (0,0))::(b4,.cells [.int .i64 k,.string p,.int .i64 0,.bool false].toArray 347 (0,0))::L) rfl rfl rfl rfl (fun i' hi L' hI hA=>⟨rfl,by subst hA;exact J0 (k:=1) A1 rfl rfl rfl rfl rfl rfl rfl ⟨⟨_,rfl⟩,rfl⟩⟩) ?_;refine zg rfl rfl rfl ?_;refine G1 rfl rfl (fun i2 L2 hi2 _ hA=>?_);subst hA;refine zp rfl ?_;refine zn ?_;repeat' (first|refine zn ?_|fail)
  exact⟨_,_,_,_,_,_,rfl,Has.own 1 rfl,rfl,[_,_],⟨⟨_,_,_,_⟩,_,_,rfl,hp,hq⟩,rfl⟩
 ·refine F9 J9 [0,1,2,3,4,5,6,7,8] [9] [7] (fun L'=>∃o4,L'=(b7,.cells [.int .i64 k,.string p,.int .i64 0,.bool false].toArray 347 (0,0))::(b4,o4)::L) (fun L'=>L'=(b7,.cells [.int .i64 k,.string p,.int .i64 0,.bool false].toArray 347 (0,0))::(b4,.cells [.int .i64 0,.string E9f,.int .i64 0,.bool false].toArray 347 (0,0))::L) (by kernel_rfl) (by decide) rfl ⟨_,rfl⟩ rfl ?_;refine D7 (fun i' hi L' hL=>by obtain⟨o4,rfl⟩:=hL;exact B0 A1 rfl (Has.own 0 rfl) rfl) rfl rfl rfl rfl rfl rfl ?_;iterate 3 refine zg rfl rfl rfl ?_
  iterate 2 refine zg rfl rfl rfl ?_
  refine zg rfl rfl rfl ?_;refine P5 (fun L'=>L'=(b7,.cells [.int .i64 k,.string p,.int .i64 0,.bool false].toArray 347 (0,0))::(b4,.cells [.int .i64 k,.string p,.int .i64 0,.bool false].toArray 347 (0,0))::L) rfl rfl rfl rfl (fun i' hi L' hI hA=>⟨rfl,by subst hA;exact J0 (k:=1) A1 rfl rfl rfl rfl rfl rfl rfl ⟨⟨_,rfl⟩,rfl⟩⟩) ?_;refine zg rfl rfl rfl ?_;refine G1 rfl rfl (fun i2 L2 hi2 _ hA=>?_);subst hA;refine zp rfl ?_;refine zn ?_;repeat' (first|refine zn ?_|fail)
  exact⟨_,_,_,_,_,_,rfl,Has.own 1 rfl,rfl,[_,_],⟨⟨_,_,_,_⟩,_,_,rfl,hp,hq⟩,rfl⟩
 ·refine F9 J9 [0,1,2,3,4,5,6,7,8] [9] [7] (fun L'=>∃o4,L'=(b7,.cells [.int .i64 k,.string p,.int .i64 0,.bool false].toArray 347 (0,0))::(b4,o4)::L) (fun L'=>L'=(b7,.cells [.int .i64 k,.string p,.int .i64 0,.bool false].toArray 347 (0,0))::(b4,.cells [.int .i64 0,.string E9f,.int .i64 0,.bool false].toArray 347 (0,0))::L) (by kernel_rfl) (by decide) rfl ⟨_,rfl⟩ rfl ?_;refine D7 (fun i' hi L' hL=>by obtain⟨o4,rfl⟩:=hL;exact B0 A1 rfl (Has.own 0 rfl) rfl) rfl rfl rfl rfl rfl rfl ?_;iterate 3 refine zg rfl rfl rfl ?_
  refine zg rfl rfl rfl ?_;refine C4 (fun _ v=>∃b,v=.bool b) (fun _ _ _ _ h=>h) rfl rfl rfl rfl (fun i' hi L' _=>⟨rfl,D2 (by kernel_rfl) rfl (W2 _ _ _ (by omega)) (fun _ _ _ _ ⟨b,h1,_,h3⟩=>⟨h3,b,h1⟩)⟩) ?_;refine C4 (fun _ v=>∃b,v=.bool b) (fun _ _ _ _ h=>h) rfl rfl rfl rfl (fun i' hi L' _=>by rintro v ⟨b,rfl⟩;exact⟨rfl,P3.mono (H4 (S6 A1 rfl)) (fun _ _ _ _ ⟨h1,h2⟩=>⟨h1,b,h2⟩)⟩) ?_;refine P5 (fun L'=>L'=(b7,.cells [.int .i64 k,.string p,.int .i64 0,.bool false].toArray 347 (0,0))::(b4,.cells [.int .i64 k,.string p,.int .i64 0,.bool false].toArray 347 (0,0))::L) rfl rfl rfl rfl (fun i' hi L' hI hA=>⟨rfl,by subst hA;exact J0 (k:=1) A1 rfl rfl rfl rfl rfl rfl rfl ⟨⟨_,rfl⟩,rfl⟩⟩) ?_;refine zg rfl rfl rfl ?_;refine G1 rfl rfl (fun i2 L2 hi2 _ hA=>?_);subst hA;rintro _ ⟨b,rfl⟩ _-;refine zp rfl ?_;refine zn ?_;repeat' (first|refine zn ?_|fail)
  exact⟨_,_,_,_,_,_,rfl,Has.own 1 rfl,rfl,[_,_],⟨⟨_,_,_,_⟩,_,_,rfl,hp,hq⟩,rfl⟩
 ·refine F9 J9 [0,1,2,3,4,5,6,7,8] [9] [7] (fun L'=>∃o4,L'=(b7,.cells [.int .i64 k,.string p,.int .i64 0,.bool false].toArray 347 (0,0))::(b4,o4)::L) (fun L'=>L'=(b7,.cells [.int .i64 k,.string p,.int .i64 0,.bool false].toArray 347 (0,0))::(b4,.cells [.int .i64 0,.string E9f,.int .i64 0,.bool false].toArray 347 (0,0))::L) (by kernel_rfl) (by decide) rfl ⟨_,rfl⟩ rfl ?_;refine D7 (fun i' hi L' hL=>by obtain⟨o4,rfl⟩:=hL;exact B0 A1 rfl (Has.own 0 rfl) rfl) rfl rfl rfl rfl rfl rfl ?_;iterate 3 refine zg rfl rfl rfl ?_
  refine zg rfl rfl rfl ?_;refine C4 (fun _ v=>∃b,v=.bool b) (fun _ _ _ _ h=>h) rfl rfl rfl rfl (fun i' hi L' _=>⟨rfl,D2 (by kernel_rfl) rfl (E3r _ _ _ (by omega)) (fun _ _ _ _ ⟨b,h1,_,h3⟩=>⟨h3,b,h1⟩)⟩) ?_;refine C4 (fun _ v=>∃b,v=.bool b) (fun _ _ _ _ h=>h) rfl rfl rfl rfl (fun i' hi L' _=>by rintro v ⟨b,rfl⟩;exact⟨rfl,P3.mono (H4 (S6 A1 rfl)) (fun _ _ _ _ ⟨h1,h2⟩=>⟨h1,b,h2⟩)⟩) ?_;refine P5 (fun L'=>L'=(b7,.cells [.int .i64 k,.string p,.int .i64 0,.bool false].toArray 347 (0,0))::(b4,.cells [.int .i64 k,.string p,.int .i64 0,.bool false].toArray 347 (0,0))::L) rfl rfl rfl rfl (fun i' hi L' hI hA=>⟨rfl,by subst hA;exact J0 (k:=1) A1 rfl rfl rfl rfl rfl rfl rfl ⟨⟨_,rfl⟩,rfl⟩⟩) ?_;refine zg rfl rfl rfl ?_;refine G1 rfl rfl (fun i2 L2 hi2 _ hA=>?_);subst hA;rintro _ ⟨b,rfl⟩ _-;refine zp rfl ?_;refine zn ?_;repeat' (first|refine zn ?_|fail)
  exact⟨_,_,_,_,_,_,rfl,Has.own 1 rfl,rfl,[_,_],⟨⟨_,_,_,_⟩,_,_,rfl,hp,hq⟩,rfl⟩
end Go.Proofs.YtckdkhhpjnefpaaGreatDoor
