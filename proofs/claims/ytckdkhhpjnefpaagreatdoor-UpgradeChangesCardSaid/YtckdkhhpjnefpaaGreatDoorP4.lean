/- What the proof leans on, part 4. No condition. -/
import Derived.Test.YtckdkhhpjnefpaaGreatDoorP3
import Derived.Test.YtckdkhhpjnefpaaGreatDoorProg
import Derived.KernelRfl
import Derived.Shelf.Strings.Builder1
import Derived.Shelf.Strings.Builder2
import Derived.Shelf.Strings.Trim
import Derived.Shelf.Small.Utf8
import Derived.Shelf.Small.Bits
import Derived.Shelf.Small.Strs
import Derived.Shelf.Utf8.RuneCount
import Derived.Shelf.Strconv.Itoa0
import Derived.Shelf.Strconv.Itoa1
import Derived.Shelf.LaysM
import Derived.Shelf.Strconv.Itoa2
import Derived.Shelf.Strconv.Itoa3
import Derived.Shelf.Strings.Search1
import Derived.Shelf.Strings.Search2
import Derived.Shelf.Strings.Search3
import Derived.Shelf.Strings.Cut
import Derived.Shelf.Strings.Count
import Derived.Shelf.Strings.Shaped
import Derived.Shelf.Strings.Prefix
import Derived.Shelf.Strings.Split
import Derived.Shelf.Strings.Replace
import Derived.Shelf.Strings.SplitShaped
import Derived.Shelf.Unicode.Latin
import Derived.Shelf.Unicode.Decode
import Derived.Shelf.Strings.Runes
import Derived.Shelf.Strings.RuneCount
import Derived.Shelf.Strings.IndexAny
import Derived.Shelf.Strings.AsciiSet
import Derived.Shelf.Strings.IndexAnyAll
import Derived.Shelf.Strings.Explode
import Derived.Shelf.Unicode.DecodeSlow
import Derived.Shelf.Unicode.DecodeAny
import Derived.Shelf.Unicode.DecodeLast
import Derived.Shelf.Unicode.CaseLookup
import Derived.Shelf.Unicode.CaseConvert
import Derived.Shelf.Unicode.CaseTo
import Derived.Shelf.Unicode.CaseLaid
import Derived.Ground.Names2Prog
import Derived.Shelf.Slices.Clone
import Derived.Ground.SlgnProg
import Derived.Shelf.SlicesE.Clone
import Derived.Shelf.Strings.SlTrimAscii
set_option linter.unusedVariables false
set_option linter.unusedSectionVars false
set_option linter.unusedSimpArgs false
namespace Go.Proofs.YtckdkhhpjnefpaaGreatDoor
open Go Go.Eng
theorem mkTy {P : Program} {t : Nat} {e : TyE} {z : Value} (hu : P.underlying t = some e.desc) (h : (P.info? t).map (fun i => (i.size, i.bytes, i.zero)) = some (e.size, e.bytes, some z)) (hz : z.cells = e.zero.toArray) (hl : e.zero.length = e.size) (hy : zOf e = some z) (hcm : (P.info? t).all (fun i => !isBasD e.desc || i.comparable) = true) (heq : (!plainD e.desc || (!P.stoodInHeld t && !P.eqGuardType P.depth t)) = true) : TyE.ok P t e ∧ TyE.zok P t e := by
 refine ⟨⟨hu, hl, ?_⟩, fun j y hj hy' => ?_, fun j hj hd => by rw [hj] at hcm; simpa [hd] using hcm, fun hd => by simpa [hd] using heq⟩
 rotate_left
 · rw [hy] at hy'; cases hy'; rw [hj] at h; simp only [Option.map_some, Option.some.injEq, Prod.mk.injEq] at h; exact h.2.2
 cases hi : P.info? t with
 | none => rw [hi] at h; cases h
 | some i =>
   rw [hi] at h
   simp only [Option.map_some, Option.some.injEq, Prod.mk.injEq] at h
   exact ⟨i, z, rfl, h.1, h.2.1, h.2.2, hz⟩
theorem mkTyF {P : Program} {t : Nat} {e : TyE} (hu : P.underlying t = some e.desc) (h : ((P.info? t).map (fun i => (i.size, i.bytes, i.zero)), (zOf e).map Value.cells, e.zero.length, (zOf e).isSome && (P.info? t).all (fun i => !isBasD e.desc || i.comparable) && (!plainD e.desc || (!P.stoodInHeld t && !P.eqGuardType P.depth t))) = (some (e.size, e.bytes, zOf e), some e.zero.toArray, e.size, true)) : TyE.ok P t e ∧ TyE.zok P t e := by
 simp only [Prod.mk.injEq, Bool.and_eq_true] at h
 obtain ⟨h1, h2, h3, ⟨h4, h5⟩, h6⟩ := h
 obtain ⟨z, hz⟩ := Option.isSome_iff_exists.1 h4
 rw [hz] at h1 h2
 exact mkTy hu h1 (by simpa using h2) h3 hz h5 h6
def tab : Tab := [
 (3, ⟨.int .i64, 1, 8, [.int .i64 0]⟩),
 (9, ⟨.string, 1, 16, [.string ByteArray.empty]⟩),
 (30, ⟨.slice 9, 1, 24, [.slice none 0 0]⟩),
 (54, ⟨.struct #[{ name := "Key", type := 3, offset := 0, embedded := false, tag := "", pkgPath := "", byteOffset := 0 }, { name := "Name", type := 9, offset := 1, embedded := false, tag := "", pkgPath := "", byteOffset := 8 }, { name := "Op", type := 3, offset := 2, embedded := false, tag := "", pkgPath := "", byteOffset := 24 }, { name := "Value", type := 9, offset := 3, embedded := false, tag := "", pkgPath := "", byteOffset := 32 }], 4, 48, [.int .i64 0, .string ByteArray.empty, .int .i64 0, .string ByteArray.empty]⟩),
 (26, ⟨.slice 52, 1, 24, [.slice none 0 0]⟩),
 (23, ⟨.pointer 25, 1, 8, [.pointer none]⟩),
 (50, ⟨.slice 54, 1, 24, [.slice none 0 0]⟩),
 (35, ⟨.struct #[{ name := "Dirs", type := 27, offset := 0, embedded := false, tag := "", pkgPath := "", byteOffset := 0 }, { name := "Helpers", type := 28, offset := 1, embedded := false, tag := "", pkgPath := "", byteOffset := 24 }, { name := "Config", type := 33, offset := 2, embedded := false, tag := "", pkgPath := "", byteOffset := 48 }, { name := "Policy", type := 30, offset := 7, embedded := false, tag := "", pkgPath := "", byteOffset := 168 }, { name := "Limit", type := 3, offset := 8, embedded := false, tag := "", pkgPath := "", byteOffset := 192 }], 9, 200, [.slice none 0 0, .slice none 0 0, .slice none 0 0, .slice none 0 0, .slice none 0 0, .slice none 0 0, .slice none 0 0, .slice none 0 0, .int .i64 0]⟩),
 (143, ⟨.struct #[{ name := "Key", type := 9, offset := 0, embedded := false, tag := "", pkgPath := "", byteOffset := 0 }, { name := "Name", type := 9, offset := 1, embedded := false, tag := "", pkgPath := "", byteOffset := 16 }, { name := "Op", type := 9, offset := 2, embedded := false, tag := "", pkgPath := "", byteOffset := 32 }, { name := "Value", type := 9, offset := 3, embedded := false, tag := "", pkgPath := "", byteOffset := 48 }], 4, 64, [.string ByteArray.empty, .string ByteArray.empty, .string ByteArray.empty, .string ByteArray.empty]⟩),
 (5, ⟨.int .u8, 1, 1, [.int .u8 0]⟩),
 (27, ⟨.slice 60, 1, 24, [.slice none 0 0]⟩),
 (52, ⟨.struct #[{ name := "File", type := 9, offset := 0, embedded := false, tag := "", pkgPath := "", byteOffset := 0 }, { name := "Line", type := 3, offset := 1, embedded := false, tag := "", pkgPath := "", byteOffset := 16 }, { name := "Terms", type := 50, offset := 2, embedded := false, tag := "", pkgPath := "", byteOffset := 24 }], 3, 48, [.string ByteArray.empty, .int .i64 0, .slice none 0 0]⟩),
 (60, ⟨.slice 64, 1, 24, [.slice none 0 0]⟩),
 (347, ⟨.struct #[{ name := "Kind", type := 3, offset := 0, embedded := false, tag := "", pkgPath := "", byteOffset := 0 }, { name := "Text", type := 9, offset := 1, embedded := false, tag := "", pkgPath := "", byteOffset := 8 }, { name := "Word", type := 3, offset := 2, embedded := false, tag := "", pkgPath := "", byteOffset := 24 }, { name := "More", type := 4, offset := 3, embedded := false, tag := "", pkgPath := "", byteOffset := 32 }], 4, 40, [.int .i64 0, .string ByteArray.empty, .int .i64 0, .bool false]⟩),
 (64, ⟨.struct #[{ name := "Name", type := 9, offset := 0, embedded := false, tag := "", pkgPath := "", byteOffset := 0 }, { name := "Text", type := 9, offset := 1, embedded := false, tag := "", pkgPath := "", byteOffset := 16 }], 2, 32, [.string ByteArray.empty, .string ByteArray.empty]⟩),
 (33, ⟨.struct #[{ name := "Modules", type := 29, offset := 0, embedded := false, tag := "", pkgPath := "", byteOffset := 0 }, { name := "Blocked", type := 30, offset := 1, embedded := false, tag := "", pkgPath := "", byteOffset := 24 }, { name := "Off", type := 30, offset := 2, embedded := false, tag := "", pkgPath := "", byteOffset := 48 }, { name := "Keep", type := 30, offset := 3, embedded := false, tag := "", pkgPath := "", byteOffset := 72 }, { name := "Extra", type := 31, offset := 4, embedded := false, tag := "", pkgPath := "", byteOffset := 96 }], 5, 120, [.slice none 0 0, .slice none 0 0, .slice none 0 0, .slice none 0 0, .slice none 0 0]⟩),
 (180, ⟨.struct #[{ name := "Name", type := 9, offset := 0, embedded := false, tag := "", pkgPath := "", byteOffset := 0 }, { name := "Aliases", type := 30, offset := 1, embedded := false, tag := "", pkgPath := "", byteOffset := 16 }, { name := "Needs", type := 30, offset := 2, embedded := false, tag := "", pkgPath := "", byteOffset := 40 }, { name := "Pre", type := 30, offset := 3, embedded := false, tag := "", pkgPath := "", byteOffset := 64 }, { name := "Post", type := 30, offset := 4, embedded := false, tag := "", pkgPath := "", byteOffset := 88 }, { name := "Fails", type := 4, offset := 5, embedded := false, tag := "", pkgPath := "", byteOffset := 112 }], 6, 120, [.string ByteArray.empty, .slice none 0 0, .slice none 0 0, .slice none 0 0, .slice none 0 0, .bool false]⟩),
 (141, ⟨.slice 143, 1, 24, [.slice none 0 0]⟩),
 (67, ⟨.int .i64, 1, 8, [.int .i64 0]⟩),
 (28, ⟨.slice 139, 1, 24, [.slice none 0 0]⟩),
 (66, ⟨.slice 155, 1, 24, [.slice none 0 0]⟩),
 (191, ⟨.struct #[{ name := "Number", type := 3, offset := 0, embedded := false, tag := "", pkgPath := "", byteOffset := 0 }, { name := "Text", type := 9, offset := 1, embedded := false, tag := "", pkgPath := "", byteOffset := 8 }], 2, 24, [.int .i64 0, .string ByteArray.empty]⟩),
 (29, ⟨.slice 180, 1, 24, [.slice none 0 0]⟩),
 (139, ⟨.struct #[{ name := "Command", type := 9, offset := 0, embedded := false, tag := "", pkgPath := "", byteOffset := 0 }, { name := "Output", type := 9, offset := 1, embedded := false, tag := "", pkgPath := "", byteOffset := 16 }, { name := "Fails", type := 4, offset := 2, embedded := false, tag := "", pkgPath := "", byteOffset := 32 }, { name := "Ticks", type := 3, offset := 3, embedded := false, tag := "", pkgPath := "", byteOffset := 40 }], 4, 48, [.string ByteArray.empty, .string ByteArray.empty, .bool false, .int .i64 0]⟩),
 (22, ⟨.slice 3, 1, 24, [.slice none 0 0]⟩),
 (4, ⟨.bool, 1, 1, [.bool false]⟩),
 (298, ⟨.slice 347, 1, 24, [.slice none 0 0]⟩),
 (25, ⟨.struct #[{ name := "L", type := 22, offset := 0, embedded := false, tag := "", pkgPath := "", byteOffset := 0 }, { name := "At", type := 3, offset := 1, embedded := false, tag := "", pkgPath := "", byteOffset := 24 }], 2, 32, [.slice none 0 0, .int .i64 0]⟩),
 (31, ⟨.slice 137, 1, 24, [.slice none 0 0]⟩),
 (186, ⟨.slice 191, 1, 24, [.slice none 0 0]⟩),
 (239, ⟨.slice 296, 1, 24, [.slice none 0 0]⟩),
 (314, ⟨.struct #[{ name := "Star", type := 4, offset := 0, embedded := false, tag := "", pkgPath := "", byteOffset := 0 }, { name := "Literal", type := 4, offset := 1, embedded := false, tag := "", pkgPath := "", byteOffset := 1 }, { name := "Set", type := 312, offset := 2, embedded := false, tag := "", pkgPath := "", byteOffset := 2 }], 130, 130, [.bool false, .bool false, .bool false, .bool false, .bool false, .bool false, .bool false, .bool false, .bool false, .bool false, .bool false, .bool false, .bool false, .bool false, .bool false, .bool false, .bool false, .bool false, .bool false, .bool false, .bool false, .bool false, .bool false, .bool false, .bool false, .bool false, .bool false, .bool false, .bool false, .bool false, .bool false, .bool false, .bool false, .bool false, .bool false, .bool false, .bool false, .bool false, .bool false, .bool false, .bool false, .bool false, .bool false, .bool false, .bool false, .bool false, .bool false, .bool false, .bool false, .bool false, .bool false, .bool false, .bool false, .bool false, .bool false, .bool false, .bool false, .bool false, .bool false, .bool false, .bool false, .bool false, .bool false, .bool false, .bool false, .bool false, .bool false, .bool false, .bool false, .bool false, .bool false, .bool false, .bool false, .bool false, .bool false, .bool false, .bool false, .bool false, .bool false, .bool false, .bool false, .bool false, .bool false, .bool false, .bool false, .bool false, .bool false, .bool false, .bool false, .bool false, .bool false, .bool false, .bool false, .bool false, .bool false, .bool false, .bool false, .bool false, .bool false, .bool false, .bool false, .bool false, .bool false, .bool false, .bool false, .bool false, .bool false, .bool false, .bool false, .bool false, .bool false, .bool false, .bool false, .bool false, .bool false, .bool false, .bool false, .bool false, .bool false, .bool false, .bool false, .bool false, .bool false, .bool false, .bool false, .bool false, .bool false, .bool false, .bool false, .bool false]⟩),
 (312, ⟨.array 128 4, 128, 128, [.bool false, .bool false, .bool false, .bool false, .bool false, .bool false, .bool false, .bool false, .bool false, .bool false, .bool false, .bool false, .bool false, .bool false, .bool false, .bool false, .bool false, .bool false, .bool false, .bool false, .bool false, .bool false, .bool false, .bool false, .bool false, .bool false, .bool false, .bool false, .bool false, .bool false, .bool false, .bool false, .bool false, .bool false, .bool false, .bool false, .bool false, .bool false, .bool false, .bool false, .bool false, .bool false, .bool false, .bool false, .bool false, .bool false, .bool false, .bool false, .bool false, .bool false, .bool false, .bool false, .bool false, .bool false, .bool false, .bool false, .bool false, .bool false, .bool false, .bool false, .bool false, .bool false, .bool false, .bool false, .bool false, .bool false, .bool false, .bool false, .bool false, .bool false, .bool false, .bool false, .bool false, .bool false, .bool false, .bool false, .bool false, .bool false, .bool false, .bool false, .bool false, .bool false, .bool false, .bool false, .bool false, .bool false, .bool false, .bool false, .bool false, .bool false, .bool false, .bool false, .bool false, .bool false, .bool false, .bool false, .bool false, .bool false, .bool false, .bool false, .bool false, .bool false, .bool false, .bool false, .bool false, .bool false, .bool false, .bool false, .bool false, .bool false, .bool false, .bool false, .bool false, .bool false, .bool false, .bool false, .bool false, .bool false, .bool false, .bool false, .bool false, .bool false, .bool false, .bool false, .bool false, .bool false, .bool false, .bool false]⟩),
 (105, ⟨.slice 26, 1, 24, [.slice none 0 0]⟩),
 (296, ⟨.slice 314, 1, 24, [.slice none 0 0]⟩),
 (70, ⟨.func #[3] #[52] false, 1, 8, [.nilFunc]⟩),
 (289, ⟨.slice 5, 1, 24, [.slice none 0 0]⟩),
 (155, ⟨.struct #[{ name := "File", type := 9, offset := 0, embedded := false, tag := "", pkgPath := "", byteOffset := 0 }, { name := "Line", type := 3, offset := 1, embedded := false, tag := "", pkgPath := "", byteOffset := 16 }, { name := "Errno", type := 67, offset := 2, embedded := false, tag := "", pkgPath := "", byteOffset := 24 }], 3, 32, [.string ByteArray.empty, .int .i64 0, .int .i64 0]⟩),
 (137, ⟨.struct #[{ name := "Name", type := 9, offset := 0, embedded := false, tag := "", pkgPath := "", byteOffset := 0 }, { name := "Value", type := 9, offset := 1, embedded := false, tag := "", pkgPath := "", byteOffset := 16 }], 2, 32, [.string ByteArray.empty, .string ByteArray.empty]⟩),
 (316, ⟨.pointer 314, 1, 8, [.pointer none]⟩)]
theorem mix : Tryz.prog.follows .mixedOrders = true := by kernel_rfl
theorem tok_cons {P : Program} {t : Nat} {e : TyE} {R : Tab} (h : TyE.ok P t e ∧ TyE.zok P t e) (hr : Tab.ok P R) : Tab.ok P ((t, e) :: R) := fun p hp => (List.mem_cons.1 hp).elim (fun q => by subst q; exact h) (hr p)
theorem tab_ok : tab.ok Tryz.prog := by
 refine tok_cons (mkTyF Tryz.underlying3 (by kernel_rfl)) ?_
 refine tok_cons (mkTyF Tryz.underlying9 (by kernel_rfl)) ?_
 refine tok_cons (mkTyF Tryz.underlying30 (by kernel_rfl)) ?_
 refine tok_cons (mkTyF Tryz.underlying54 (by kernel_rfl)) ?_
 refine tok_cons (mkTyF Tryz.underlying26 (by kernel_rfl)) ?_
 refine tok_cons (mkTyF Tryz.underlying23 (by kernel_rfl)) ?_
 refine tok_cons (mkTyF Tryz.underlying50 (by kernel_rfl)) ?_
 refine tok_cons (mkTyF Tryz.underlying35 (by kernel_rfl)) ?_
 refine tok_cons (mkTyF Tryz.underlying143 (by kernel_rfl)) ?_
 refine tok_cons (mkTyF Tryz.underlying5 (by kernel_rfl)) ?_
 refine tok_cons (mkTyF Tryz.underlying27 (by kernel_rfl)) ?_
 refine tok_cons (mkTyF Tryz.underlying52 (by kernel_rfl)) ?_
 refine tok_cons (mkTyF Tryz.underlying60 (by kernel_rfl)) ?_
 refine tok_cons (mkTyF Tryz.underlying347 (by kernel_rfl)) ?_
 refine tok_cons (mkTyF Tryz.underlying64 (by kernel_rfl)) ?_
 refine tok_cons (mkTyF Tryz.underlying33 (by kernel_rfl)) ?_
 refine tok_cons (mkTyF Tryz.underlying180 (by kernel_rfl)) ?_
 refine tok_cons (mkTyF Tryz.underlying141 (by kernel_rfl)) ?_
 refine tok_cons (mkTyF Tryz.underlying67 (by kernel_rfl)) ?_
 refine tok_cons (mkTyF Tryz.underlying28 (by kernel_rfl)) ?_
 refine tok_cons (mkTyF Tryz.underlying66 (by kernel_rfl)) ?_
 refine tok_cons (mkTyF Tryz.underlying191 (by kernel_rfl)) ?_
 refine tok_cons (mkTyF Tryz.underlying29 (by kernel_rfl)) ?_
 refine tok_cons (mkTyF Tryz.underlying139 (by kernel_rfl)) ?_
 refine tok_cons (mkTyF Tryz.underlying22 (by kernel_rfl)) ?_
 refine tok_cons (mkTyF Tryz.underlying4 (by kernel_rfl)) ?_
 refine tok_cons (mkTyF Tryz.underlying298 (by kernel_rfl)) ?_
 refine tok_cons (mkTyF Tryz.underlying25 (by kernel_rfl)) ?_
 refine tok_cons (mkTyF Tryz.underlying31 (by kernel_rfl)) ?_
 refine tok_cons (mkTyF Tryz.underlying186 (by kernel_rfl)) ?_
 refine tok_cons (mkTyF Tryz.underlying239 (by kernel_rfl)) ?_
 refine tok_cons (mkTyF Tryz.underlying314 (by kernel_rfl)) ?_
 refine tok_cons (mkTyF Tryz.underlying312 (by kernel_rfl)) ?_
 refine tok_cons (mkTyF Tryz.underlying105 (by kernel_rfl)) ?_
 refine tok_cons (mkTyF Tryz.underlying296 (by kernel_rfl)) ?_
 refine tok_cons (mkTyF Tryz.underlying70 (by kernel_rfl)) ?_
 refine tok_cons (mkTyF Tryz.underlying289 (by kernel_rfl)) ?_
 refine tok_cons (mkTyF Tryz.underlying155 (by kernel_rfl)) ?_
 refine tok_cons (mkTyF Tryz.underlying137 (by kernel_rfl)) ?_
 refine tok_cons (mkTyF Tryz.underlying316 (by kernel_rfl)) ?_
 exact fun p hp => by cases hp
end Go.Proofs.YtckdkhhpjnefpaaGreatDoor
namespace Go.Proofs.YtckdkhhpjnefpaaGreatDoor
set_option maxHeartbeats 4000000
open Go Go.Eng
def foldI (v n : Int) : Int := if n ≤ 1 then 0 else v % n
theorem tmod_fold {v n : Int} (h : 1 < n) : v % n = if v.tmod n < 0 then v.tmod n + n else v.tmod n := by
 rw [Int.tmod_eq_emod]
 have h1 := Int.emod_nonneg v (show n ≠ 0 by omega)
 have h2 := Int.emod_lt_of_pos v (show 0 < n by omega)
 split <;> split <;> omega
theorem tmod_bd {v n : Int} (h : 1 < n) : -n < v.tmod n ∧ v.tmod n < n := by
 rw [Int.tmod_eq_emod]
 have h1 := Int.emod_nonneg v (show n ≠ 0 by omega)
 have h2 := Int.emod_lt_of_pos v (show 0 < n by omega)
 split <;> omega
theorem foldI_bd (v : Int) {n : Int} (h : 1 < n) : 0 ≤ foldI v n ∧ foldI v n < n := by
 unfold foldI
 rw [if_neg (by omega)]
 exact ⟨Int.emod_nonneg v (by omega), Int.emod_lt_of_pos v (by omega)⟩
theorem Fold_s (v n : Int) (i : Imm) (L : SH) (hn : n ≤ 9223372036854775807) :
 FnS Tryz.prog 50 [.int .i64 v, .int .i64 n] i L fun r i' L' => r = .int .i64 (foldI v n) ∧ i' = i ∧ L' = L := by
 have hb := fun h : 1 < n => tmod_bd (v := v) h
 refine FnS.intro1 Tryz.func50 rfl Tryz.ntmps50 (by simp) Tryz.results50 ?_
 by_cases h1 : n ≤ 1
 · repeat' (first | refine RS.pv (PV.all tab_ok rfl) rfl ?_ | refine CS.seq ?_ | refine thenQ.normal ?_ | refine CS.cond_true rfl ?_ | refine CS.ret ?_ | refine thenQ.ret ?_ | refine retQ.ret ?_ | refine CS.region ?_ | refine RS.pv (PV.leqT rfl rfl (by omega)) rfl ?_ | refine RS.nil ?_)
   exact ⟨congrArg (Value.int .i64) (by simp [foldI, h1]), rfl, rfl⟩
 · have hb := hb (by omega)
   have hf := tmod_fold (v := v) (n := n) (by omega)
   repeat' (first | refine RS.pv (PV.all tab_ok rfl) rfl ?_ | refine CS.seq ?_ | refine thenQ.normal ?_ | refine CS.cond_true rfl ?_ | refine CS.cond_false rfl ?_ | refine CS.skip ?_ | refine CS.ret ?_ | refine retQ.ret ?_ | refine CS.region ?_ | refine RS.pv (PV.leqF rfl rfl (by omega)) rfl ?_ | refine RS.pv (PV.rem rfl rfl (by omega)) rfl ?_ | refine RS.ifLss rfl rfl rfl (fun h => ?_) (fun h => ?_) | refine RS.pv (PV.add rfl rfl (by omega)) rfl ?_ | refine RS.nil ?_)
   · exact ⟨congrArg (Value.int .i64) (by rw [foldI, if_neg h1, hf, if_pos h]), rfl, rfl⟩
   · exact ⟨congrArg (Value.int .i64) (by rw [foldI, if_neg h1, hf, if_neg (by omega)]), rfl, rfl⟩
def IntSl (i : Imm) (v : Value) : Prop := ∃ ao ln cap, v = .slice ao ln cap ∧ (ln : Int) ≤ 9223372036854775807 ∧ (ln = 0 ∨ ∃ b o cs t fz, ao = some ⟨b, o, none⟩ ∧ i.blk b = some (.cells (List.toArray cs) t fz) ∧ ∀ j, j < ln → ∃ x, cs[o + j]? = some (.int .i64 x))
theorem IntSl.le {i i' : Imm} {v : Value} (h : IntSl i v) (hi : i.le i') : IntSl i' v := by
 obtain ⟨ao, ln, cap, h1, h2, h3⟩ := h
 refine ⟨ao, ln, cap, h1, h2, h3.imp id ?_⟩
 rintro ⟨b, o, cs, t, fz, h4, h5, h6⟩
 exact ⟨b, o, cs, t, fz, h4, hi.blk _ _ h5, h6⟩
def tapeO (lv : Value) (a : Int) : Obj := .cells [lv, .int .i64 a].toArray 25 (0, 0)
theorem Next_s (tp k : Nat) (lv : Value) (at_ n : Int) (i : Imm) (L : SH) (hn : n ≤ 9223372036854775807) (hl : IntSl i lv) (ha : 0 ≤ at_ ∧ at_ ≤ 1000000000000) (hk : L[k]? = some (tp, tapeO lv at_)) :
 FnS Tryz.prog 20 [.pointer (some ⟨tp, 0, none⟩), .int .i64 n] i L fun r i' L' => (∃ x, r = .int .i64 (foldI x n)) ∧ i' = i ∧ L' = L.set k (tp, tapeO lv (at_ + 1)) := by
 obtain ⟨ao, ln, cap, rfl, hln, hcs⟩ := hl
 unfold tapeO at hk
 refine FnS.intro1 Tryz.func20 rfl Tryz.ntmps20 (by simp) Tryz.results20 ?_
 by_cases hlt : at_ < ln
 · obtain ⟨b, o, cs, t, fz, rfl, hb, hel⟩ := hcs.resolve_left (by omega)
   obtain ⟨x, hx⟩ := hel at_.toNat (by omega)
   have hx' : cs[o + at_.toNat * 1]? = some (.int .i64 x) := by rw [Nat.mul_one]; exact hx
   repeat' (first | refine RS.pv (PV.all tab_ok rfl) rfl ?_ | refine QS.pv (PV.all tab_ok rfl) rfl ?_ | refine CS.seq ?_ | refine thenQ.normal ?_ | refine CS.cond_true rfl ?_ | refine CS.ret ?_ | refine retQ.ret ?_ | refine CS.region ?_ | refine CS.drawQ mix (by kernel_rfl) ?_ | refine RS.lv (LV.load tab_ok rfl (Has.own k hk) rfl) rfl ?_ | refine RS.pv (PV.mul rfl rfl (by omega)) rfl ?_ | refine RS.pv (PV.rem rfl rfl (by omega)) rfl ?_ | refine QS.lv (LV.load tab_ok rfl (Has.own k hk) rfl) rfl ?_ | refine QS.pv (PV.lenS tab_ok rfl rfl) rfl ?_ | refine QS.pv (PV.lssT rfl rfl (by omega)) rfl ?_ | refine QS.pv (PV.indexAddr tab_ok rfl rfl rfl (by omega)) rfl ?_ | refine QS.lv (LV.load1 tab_ok rfl (Has.imm hb) rfl hx') rfl ?_ | refine RS.pv (PV.add rfl rfl (by omega)) rfl ?_ | refine RS.store tab_ok rfl rfl rfl rfl hk rfl rfl (setX_some _ _ _ _ hk) ?_ | (refine RS.call (Fold_s _ _ _ _ hn) rfl (by kernel_rfl) rfl ?_; rintro v i' L' hi ⟨rfl, rfl, rfl⟩) | refine RS.nil ?_ | refine QS.nil ?_)
   exact ⟨⟨_, rfl⟩, rfl, rfl⟩
 · have hm := tmod_bd (v := at_ * 7) (n := 11) (by omega)
   repeat' (first | refine RS.pv (PV.all tab_ok rfl) rfl ?_ | refine QS.pv (PV.all tab_ok rfl) rfl ?_ | refine CS.seq ?_ | refine thenQ.normal ?_ | refine CS.cond_false rfl ?_ | refine CS.skip ?_ | refine CS.ret ?_ | refine retQ.ret ?_ | refine CS.region (id := 0) ?_ | refine CS.region (id := 1) ?_ | refine CS.drawQ (id := 2) mix (by kernel_rfl) ?_ | refine CS.region (id := 4) ?_ | refine CS.region (id := 5) ?_ | refine RS.lv (LV.load tab_ok rfl (Has.own k hk) rfl) rfl ?_ | refine RS.pv (PV.mul rfl rfl (by omega)) rfl ?_ | refine RS.pv (PV.rem rfl rfl (by omega)) rfl ?_ | refine QS.lv (LV.load tab_ok rfl (Has.own k hk) rfl) rfl ?_ | refine QS.pv (PV.lenS tab_ok rfl rfl) rfl ?_ | refine QS.pv (PV.lssF rfl rfl (by omega)) rfl ?_ | refine RS.pv (PV.add rfl rfl (by omega)) rfl ?_ | refine RS.store tab_ok rfl rfl rfl rfl hk rfl rfl (setX_some _ _ _ _ hk) ?_ | (refine RS.call (Fold_s _ _ _ _ hn) rfl (by kernel_rfl) rfl ?_; rintro v i' L' hi ⟨rfl, rfl, rfl⟩) | refine RS.nil ?_ | refine QS.nil ?_)
   exact ⟨⟨_, rfl⟩, rfl, rfl⟩
def Drawn (n x : Int) : Prop := 0 ≤ x ∧ (x < n ∨ x = 0)
theorem foldI_drawn (v n : Int) : Drawn n (foldI v n) := by
 by_cases h : 1 < n
 · have := foldI_bd v h
   exact ⟨this.1, .inl this.2⟩
 · have : foldI v n = 0 := by unfold foldI; rw [if_pos (by omega)]
   rw [this]; exact ⟨by omega, .inr rfl⟩
theorem Next_t (tp k : Nat) (lv : Value) (a n : Int) (i : Imm) (L : SH) (hl : IntSl i lv) (hk : L[k]? = some (tp, tapeO lv a)) (hn : n ≤ 9223372036854775807) (ha : 0 ≤ a ∧ a ≤ 1000000000000) :
 FnS Tryz.prog 20 [.pointer (some ⟨tp, 0, none⟩), .int .i64 n] i L fun r i' L' => ∃ x, r = .int .i64 x ∧ Drawn n x ∧ i' = i ∧ L' = L.set k (tp, tapeO lv (a + 1)) :=
 (Next_s tp k lv a n i L hn hl ha hk).mono fun _ _ _ _ ⟨⟨x, h1⟩, h2, h3⟩ => ⟨_, h1, foldI_drawn x n, h2, h3⟩
def strs (l : List ByteArray) : List Value := l.map .string
theorem strs_one (l : List ByteArray) : ∀ c ∈ strs l, c.oneCell' = true := by
 intro c hc; obtain ⟨s, _, rfl⟩ := List.mem_map.1 hc; rfl
theorem strs_at (l : List ByteArray) (k : Nat) : (strs l)[k * 1 + 0]? = l[k]?.map .string := by simp [strs]
theorem One_t (tp k : Nat) (lv lst : Value) (a : Int) (n : Nat) (ss : List ByteArray) (i : Imm) (L : SH) (hl : IntSl i lv) (hs : Sl i lst 1 n (strs ss)) (hk : L[k]? = some (tp, tapeO lv a)) (hn : ss.length = n) (h0 : 0 < n ∧ n ≤ 9223372036854775807) (ha : 0 ≤ a ∧ a ≤ 1000000000000) :
 FnS Tryz.prog 49 [.pointer (some ⟨tp, 0, none⟩), lst] i L fun r i' L' => ∃ s, r = .string s ∧ s ∈ ss ∧ i' = i ∧ L' = L.set k (tp, tapeO lv (a + 1)) := by
 obtain ⟨ao, cap, hv, _⟩ := id hs
 subst hv
 refine FnS.intro1 Tryz.func49 rfl Tryz.ntmps49 (by simp) Tryz.results49 ?_
 repeat' (first | refine CS.seq ?_ | refine thenQ.normal ?_ | refine CS.cond_false rfl ?_ | refine CS.skip ?_ | (refine CS.region (id := 0) ?_; refine RS.pv (PV.all tab_ok rfl) rfl ?_; refine RS.nil ?_) | (refine CS.region (id := 1) ?_; refine RS.pv (PV.all tab_ok rfl) rfl ?_; (refine RS.pv (PV.lenS tab_ok rfl rfl) rfl ?_); (refine RS.pv (PV.eqlF rfl rfl (by omega)) rfl ?_); (all_goals refine RS.nil ?_)))
 refine CS.region (id := 3) ?_
 iterate 3 refine RS.pv (PV.all tab_ok rfl) rfl ?_
 (refine RS.pv (PV.lenS tab_ok rfl rfl) rfl ?_)
 refine RS.call (Next_t tp k lv a n i L hl hk (by omega) ha) rfl (by kernel_rfl) rfl ?_
 rintro _ _ _ - ⟨x, rfl, ⟨hx0, hx1⟩, rfl, rfl⟩
 have hx : x.toNat < n := by omega
 obtain ⟨b1, o1, c1, t1, z1, p1, e1, g1, h1⟩ := hs.at hx (by omega)
 cases e1
 obtain ⟨s, hss⟩ : ∃ s, ss[x.toNat]? = some s := ⟨_, List.getElem?_eq_getElem (by omega)⟩
 have q1 := h1 0 (by omega)
 rw [strs_at, hss] at q1
 rw [show ((x.toNat : Nat) : Int) = x by omega] at q1
 refine RS.pv (PV.indexAddr tab_ok rfl rfl rfl (by omega)) rfl ?_
 refine RS.lv (LV.load1 tab_ok rfl (Has.imm g1) rfl q1) rfl ?_
 refine RS.pv (PV.all tab_ok rfl) rfl ?_
 refine RS.nil ?_
 repeat' (first | refine thenQ.normal ?_ | refine CS.ret ?_ | refine retQ.ret ?_)
 exact ⟨s, rfl, List.mem_of_getElem? hss, rfl, rfl⟩
end Go.Proofs.YtckdkhhpjnefpaaGreatDoor
namespace Go.Proofs.YtckdkhhpjnefpaaGreatDoor
set_option maxHeartbeats 4000000
open Go Go.Eng
def unstr : List Value → List ByteArray
 | [] => []
 | .string s :: l => s :: unstr l
 | _ :: l => unstr l
def szOk (B : Nat) (cs : List Value) : Bool := (unstr cs).all fun s => Nat.ble s.size B
theorem One_c (B : Nat) (tp k : Nat) (lv : Value) (a : Int) (b n : Nat) (cs : List Value) (i : Imm) (L : SH) (hl : IntSl i lv) (hs : Sl i (.slice (some ⟨b, 0, none⟩) n n) 1 n cs) (hk : L[k]? = some (tp, tapeO lv a)) (hc : strs (unstr cs) = cs) (hB : szOk B cs = true) (hn : Nat.blt 0 n = true) (hn2 : Nat.ble n 1000 = true) (ha : 0 ≤ a ∧ a ≤ 1000000000000) :
 FnS Tryz.prog 49 [.pointer (some ⟨tp, 0, none⟩), .slice (some ⟨b, 0, none⟩) n n] i L fun r i' L' => ∃ s, r = .string s ∧ s.size ≤ B ∧ i' = i ∧ L' = L.set k (tp, tapeO lv (a + 1)) := by
 have hlen : (unstr cs).length = n := by
  obtain ⟨_, _, _, h, _⟩ := hs
  rw [← hc] at h; simpa [strs] using h
 have h1 : 0 < n := by simpa [Nat.blt_eq] using hn
 have h2 : n ≤ 1000 := by simpa using hn2
 rw [← hc] at hs
 refine (One_t tp k lv _ a n (unstr cs) i L hl hs hk hlen ⟨h1, by omega⟩ ha).mono ?_
 rintro r i' L' _ ⟨s, h3, h4, h5, h6⟩
 exact ⟨s, h3, by simpa using List.all_eq_true.1 hB s h4, h5, h6⟩
structure Term where
 key : Int
 name : ByteArray
 op : Int
 value : ByteArray
def termC (t : Term) : List Value := [.int .i64 t.key, .string t.name, .int .i64 t.op, .string t.value]
def Term.small (B : Nat) (t : Term) : Prop := t.name.size ≤ B ∧ t.value.size ≤ B
def TermIs (B : Nat) (v : Value) : Prop := ∃ k n o u, v = .agg [.int .i64 k, .string n, .int .i64 o, .string u].toArray ∧ n.size ≤ B ∧ u.size ≤ B
theorem Matches_t (tp : Nat) (lv : Value) (a : Int) (i : Imm) (L : SH) (hl : IntSl i lv) (ha : 0 ≤ a ∧ a ≤ 900000000000) :
 FnS Tryz.prog 91 [.pointer (some ⟨tp, 0, none⟩)] i ((tp, tapeO lv a) :: L) fun r i' L' => TermIs 64 r ∧ ∃ a', a ≤ a' ∧ a' ≤ a + 10 ∧ L' = (tp, tapeO lv a') :: L := by
 refine FnS.state (K := fun r i' L' => ∃ b o, TermIs 64 r ∧ ∃ a', a ≤ a' ∧ a' ≤ a + 10 ∧ L' = (b, o) :: (tp, tapeO lv a') :: L) ?_ ?_
 rotate_left
 · rintro v i' L' w _ hs ⟨b, o, h1, a', h2, h3, rfl⟩
   exact ⟨i', _, Imm.le.refl i', hs.drop, h1, a', h2, h3, rfl⟩
 refine FnS.introC tab_ok Tryz.func91 rfl Tryz.ntmps91 (by simp) Tryz.results91 ?_
 repeat' (first | refine RS.pv (PV.all tab_ok rfl) rfl ?_ | refine CS.seq ?_ | refine thenQ.normal ?_ | refine CS.cond_true rfl ?_ | refine CS.cond_false rfl ?_ | refine CS.skip ?_ | refine CS.ret ?_ | refine thenQ.ret ?_ | refine blkQ.ret ?_ | refine retQ.ret ?_ | refine CS.block ?_ | refine blkQ.normal ?_ | refine CS.region ?_ | refine RS.alloc tab_ok rfl rfl (fun b => ?_) | (refine RS.call (Next_t _ 1 _ _ _ _ _ hl rfl (by omega) (by omega)) rfl (by kernel_rfl) rfl ?_; rintro _ _ _ - ⟨x, rfl, ⟨hx0, hx1⟩, rfl, rfl⟩) | refine RS.ifEql rfl rfl rfl (fun h => ?_) (fun h => ?_) | (refine RS.buildSliceF tab_ok 1 rfl rfl rfl (fun b i' hi' hs => ?_); replace hl := hl.le hi') | (refine RS.call (One_c 64 _ 1 _ _ _ _ _ _ _ hl hs rfl rfl rfl rfl rfl (by omega)) rfl (by kernel_rfl) rfl ?_; rintro _ _ _ - ⟨s, rfl, hsz, rfl, rfl⟩) | refine RS.store (k := 0) tab_ok rfl rfl rfl rfl rfl rfl rfl rfl ?_ | refine RS.nil ?_)
 all_goals exact ⟨_, _, _, _, _, _, rfl, Has.own 0 rfl, rfl, _, _, ⟨_, _, _, _, rfl, by first | omega | decide, by first | omega | decide⟩, _, by omega, by omega, rfl⟩
theorem Drawn.mono (n : Int) : Mono fun _ v => ∃ x, v = .int .i64 x ∧ Drawn n x := fun _ _ _ _ h => h
theorem SizeV.mono (B : Nat) : Mono fun _ v => ∃ s, v = .string s ∧ s.size ≤ B := fun _ _ _ _ h => h
abbrev boxT : Obj := .cells [.int .i64 0, .string ByteArray.empty, .int .i64 0, .string ByteArray.empty].toArray 54 (0, 0)
theorem IntV.mono : Mono fun _ v => ∃ x, v = .int .i64 x := fun _ _ _ _ h => h
theorem TermIs.mono : Mono fun _ v => TermIs 64 v := fun _ _ _ _ h => h
theorem ints2_at (a b x : Int) (h : 0 ≤ x ∧ x < 2) : ∃ y, (([.int .i64 a, .int .i64 b] : List Value).drop (x.toNat * 1)).take 1 = [.int .i64 y] := by
 rcases (show x = 0 ∨ x = 1 by omega) with rfl | rfl <;> exact ⟨_, rfl⟩
theorem ints3_at (a b c x : Int) (h : 0 ≤ x ∧ x < 3) : ∃ y, (([.int .i64 a, .int .i64 b, .int .i64 c] : List Value).drop (x.toNat * 1)).take 1 = [.int .i64 y] := by
 rcases (show x = 0 ∨ x = 1 ∨ x = 2 by omega) with rfl | rfl | rfl <;> exact ⟨_, rfl⟩
theorem Assigns_t (tp : Nat) (lv : Value) (a : Int) (i : Imm) (L : SH) (hl : IntSl i lv) (ha : 0 ≤ a ∧ a ≤ 900000000000) :
 FnS Tryz.prog 92 [.pointer (some ⟨tp, 0, none⟩)] i ((tp, tapeO lv a) :: L) fun r i' L' => TermIs 64 r ∧ ∃ a', a ≤ a' ∧ a' ≤ a + 10 ∧ L' = (tp, tapeO lv a') :: L := by
 refine FnS.state (K := fun r i' L' => ∃ b o, TermIs 64 r ∧ ∃ a', a ≤ a' ∧ a' ≤ a + 10 ∧ L' = (b, o) :: (tp, tapeO lv a') :: L) ?_ ?_
 rotate_left
 · rintro v i' L' w _ hs ⟨b, o, h1, a', h2, h3, rfl⟩
   exact ⟨i', _, Imm.le.refl i', hs.drop, h1, a', h2, h3, rfl⟩
 refine FnS.introC tab_ok Tryz.func92 rfl Tryz.ntmps92 (by simp) Tryz.results92 ?_
 repeat' (first | refine RS.pv (PV.all tab_ok rfl) rfl ?_ | refine CS.seq ?_ | refine thenQ.normal ?_ | refine CS.cond_true rfl ?_ | refine CS.cond_false rfl ?_ | refine CS.skip ?_ | refine CS.ret ?_ | refine thenQ.ret ?_ | refine blkQ.ret ?_ | refine retQ.ret ?_ | refine CS.block ?_ | refine blkQ.normal ?_ | refine CS.region ?_ | refine RS.alloc tab_ok rfl rfl (fun b => ?_) | (refine RS.call (Next_t _ 1 _ _ _ _ _ hl rfl (by omega) (by omega)) rfl (by kernel_rfl) rfl ?_; rintro _ _ _ - ⟨x, rfl, ⟨hx0, hx1⟩, rfl, rfl⟩) | refine RS.ifEql rfl rfl rfl (fun h => ?_) (fun h => ?_) | (refine RS.buildSliceF tab_ok 1 rfl rfl rfl (fun b i' hi' hs => ?_); replace hl := hl.le hi') | (refine RS.call (One_c 64 _ 1 _ _ _ _ _ _ _ hl hs rfl rfl rfl rfl rfl (by omega)) rfl (by kernel_rfl) rfl ?_; rintro _ _ _ - ⟨s, rfl, hsz, rfl, rfl⟩) | refine RS.pv (PV.add rfl rfl (by omega)) rfl ?_ | refine RS.store (k := 0) tab_ok rfl rfl rfl rfl rfl rfl rfl rfl ?_ | refine RS.nil ?_)
 all_goals first
  | exact ⟨_, _, _, _, _, _, rfl, Has.own 0 rfl, rfl, _, _, ⟨_, _, _, _, rfl, by first | omega | decide, by first | omega | decide⟩, _, by omega, by omega, rfl⟩
  | skip
 · refine CS.drawE mix [0,1,2,3,4,5,6,7,8] [9] [2,7] (fun _ => True) (fun L' => L' = (b, boxT) :: (tp, tapeO lv (a + 1)) :: L) (by kernel_rfl) (by decide) rfl trivial rfl ?_
   refine GM.bs tab_ok 1 rfl rfl rfl rfl rfl rfl ?_
   refine GM.pv (PV.all tab_ok rfl) rfl rfl rfl rfl rfl rfl ?_
   refine GM.turnE (fun _ v => ∃ x, v = .int .i64 x ∧ Drawn 2 x) (fun L' => L' = (b, boxT) :: (tp, tapeO lv (a + 1 + 1)) :: L) (Drawn.mono _) rfl rfl rfl rfl (fun i2 hi2 L' _ hA => ⟨rfl, by subst hA; exact OpS.call (by kernel_rfl) rfl (Next_t tp 1 lv _ _ i2 _ (hl.le hi2) rfl (by omega) (by omega)) (fun _ _ _ _ ⟨x, h1, h2, h3, h4⟩ => ⟨trivial, ⟨x, h1, h2⟩, h4⟩)⟩) ?_
   (all_goals (refine GM.fact (PtC 1 fun l => ∃ x, l = [.int .i64 x]) (PtC.mono _ _) rfl rfl rfl rfl (fun i2 hi2 L' _ => by intro v hv w hw; obtain ⟨b3, rfl, hb3⟩ := hv; obtain ⟨x, rfl, hx⟩ := hw; obtain ⟨hx0, hx1⟩ := hx; exact ⟨rfl, OpS.idx tab_ok _ rfl rfl rfl (by omega) hb3 (by omega) (by first | exact ints2_at _ _ _ (by omega) | exact ints3_at _ _ _ _ (by omega))⟩) ?_))
   (all_goals (refine GM.fact (fun _ v => ∃ x, v = .int .i64 x) IntV.mono rfl rfl rfl rfl (fun i2 hi2 L' _ => by intro v hv; exact ⟨rfl, OpS.mono (OpS.ld1 tab_ok rfl rfl hv (by omega)) (fun u i3 L3 _ ⟨h1, l, h2, ⟨x, h3⟩, _⟩ => ⟨h1, x, by rw [h3] at h2; cases h2; rfl⟩)⟩) ?_))
   (all_goals refine GM.pv (PV.all tab_ok rfl) rfl rfl rfl rfl rfl rfl ?_)
   (all_goals refine GM.bs tab_ok 1 rfl rfl rfl rfl rfl rfl ?_)
   (all_goals refine GM.turnE (fun _ v => ∃ s, v = .string s ∧ s.size ≤ 64) (fun L' => L' = (b, boxT) :: (tp, tapeO lv (a + 1 + 1 + 1)) :: L) (SizeV.mono _) rfl rfl rfl rfl (fun i2 hi2 L' _ hA => by intro v hv; obtain ⟨b3, rfl, hb3⟩ := hv; exact ⟨rfl, by subst hA; exact OpS.call (by kernel_rfl) rfl (One_c 64 tp 1 lv _ _ _ _ i2 _ (hl.le hi2) hb3 rfl rfl rfl rfl rfl (by omega)) (fun _ _ _ _ ⟨s, h1, h2, h3, h4⟩ => ⟨trivial, ⟨s, h1, h2⟩, h4⟩)⟩) ?_)
   refine GM.fact (fun _ v => TermIs 64 v) TermIs.mono rfl rfl rfl rfl (fun i2 hi2 L' _ => by rintro v hv w hw; obtain ⟨x1, rfl⟩ := hv; obtain ⟨s1, rfl, hs1⟩ := hw; exact ⟨rfl, OpS.mono (OpS.pv (PV.all tab_ok rfl)) (fun u i3 L3 _ ⟨h1, h2⟩ => ⟨h1, _, _, _, _, h2, by decide, hs1⟩)⟩) ?_
   refine GM.doneE rfl rfl (fun i3 L3 hi3 _ hA => ?_)
   subst hA
   rintro v ⟨k1, n1, o1, u1, rfl, hn1, hu1⟩ - - - - - - - - - - - -
   refine RS.store (k := 0) tab_ok rfl rfl rfl rfl rfl rfl rfl rfl ?_
   refine RS.nil ?_
   repeat' (first | refine thenQ.normal ?_ | refine CS.ret ?_ | refine thenQ.ret ?_ | refine blkQ.ret ?_ | refine retQ.ret ?_)
   exact ⟨_, _, _, _, _, _, rfl, Has.own 0 rfl, rfl, _, _, ⟨_, _, _, _, rfl, hn1, hu1⟩, _, by omega, by omega, rfl⟩
 · refine CS.drawE mix [0,1,2,3,4,5,6,7,8] [9] [2,7] (fun _ => True) (fun L' => L' = (b, boxT) :: (tp, tapeO lv (a + 1)) :: L) (by kernel_rfl) (by decide) rfl trivial rfl ?_
   refine GM.bs tab_ok 1 rfl rfl rfl rfl rfl rfl ?_
   refine GM.pv (PV.all tab_ok rfl) rfl rfl rfl rfl rfl rfl ?_
   refine GM.turnE (fun _ v => ∃ x, v = .int .i64 x ∧ Drawn 2 x) (fun L' => L' = (b, boxT) :: (tp, tapeO lv (a + 1 + 1)) :: L) (Drawn.mono _) rfl rfl rfl rfl (fun i2 hi2 L' _ hA => ⟨rfl, by subst hA; exact OpS.call (by kernel_rfl) rfl (Next_t tp 1 lv _ _ i2 _ (hl.le hi2) rfl (by omega) (by omega)) (fun _ _ _ _ ⟨x, h1, h2, h3, h4⟩ => ⟨trivial, ⟨x, h1, h2⟩, h4⟩)⟩) ?_
   (all_goals (refine GM.fact (PtC 1 fun l => ∃ x, l = [.int .i64 x]) (PtC.mono _ _) rfl rfl rfl rfl (fun i2 hi2 L' _ => by intro v hv w hw; obtain ⟨b3, rfl, hb3⟩ := hv; obtain ⟨x, rfl, hx⟩ := hw; obtain ⟨hx0, hx1⟩ := hx; exact ⟨rfl, OpS.idx tab_ok _ rfl rfl rfl (by omega) hb3 (by omega) (by first | exact ints2_at _ _ _ (by omega) | exact ints3_at _ _ _ _ (by omega))⟩) ?_))
   (all_goals (refine GM.fact (fun _ v => ∃ x, v = .int .i64 x) IntV.mono rfl rfl rfl rfl (fun i2 hi2 L' _ => by intro v hv; exact ⟨rfl, OpS.mono (OpS.ld1 tab_ok rfl rfl hv (by omega)) (fun u i3 L3 _ ⟨h1, l, h2, ⟨x, h3⟩, _⟩ => ⟨h1, x, by rw [h3] at h2; cases h2; rfl⟩)⟩) ?_))
   (all_goals refine GM.pv (PV.all tab_ok rfl) rfl rfl rfl rfl rfl rfl ?_)
   (all_goals refine GM.bs tab_ok 1 rfl rfl rfl rfl rfl rfl ?_)
   (all_goals refine GM.turnE (fun _ v => ∃ s, v = .string s ∧ s.size ≤ 64) (fun L' => L' = (b, boxT) :: (tp, tapeO lv (a + 1 + 1 + 1)) :: L) (SizeV.mono _) rfl rfl rfl rfl (fun i2 hi2 L' _ hA => by intro v hv; obtain ⟨b3, rfl, hb3⟩ := hv; exact ⟨rfl, by subst hA; exact OpS.call (by kernel_rfl) rfl (One_c 64 tp 1 lv _ _ _ _ i2 _ (hl.le hi2) hb3 rfl rfl rfl rfl rfl (by omega)) (fun _ _ _ _ ⟨s, h1, h2, h3, h4⟩ => ⟨trivial, ⟨s, h1, h2⟩, h4⟩)⟩) ?_)
   refine GM.fact (fun _ v => TermIs 64 v) TermIs.mono rfl rfl rfl rfl (fun i2 hi2 L' _ => by rintro v hv w hw; obtain ⟨x1, rfl⟩ := hv; obtain ⟨s1, rfl, hs1⟩ := hw; exact ⟨rfl, OpS.mono (OpS.pv (PV.all tab_ok rfl)) (fun u i3 L3 _ ⟨h1, h2⟩ => ⟨h1, _, _, _, _, h2, by decide, hs1⟩)⟩) ?_
   refine GM.doneE rfl rfl (fun i3 L3 hi3 _ hA => ?_)
   subst hA
   rintro v ⟨k1, n1, o1, u1, rfl, hn1, hu1⟩ - - - - - - - - - - - -
   refine RS.store (k := 0) tab_ok rfl rfl rfl rfl rfl rfl rfl rfl ?_
   refine RS.nil ?_
   repeat' (first | refine thenQ.normal ?_ | refine CS.ret ?_ | refine thenQ.ret ?_ | refine blkQ.ret ?_ | refine retQ.ret ?_)
   exact ⟨_, _, _, _, _, _, rfl, Has.own 0 rfl, rfl, _, _, ⟨_, _, _, _, rfl, hn1, hu1⟩, _, by omega, by omega, rfl⟩
 · refine CS.drawE mix [0,1,2,3,4,5,6,7,8] [9] [2,7] (fun _ => True) (fun L' => L' = (b, boxT) :: (tp, tapeO lv (a + 1)) :: L) (by kernel_rfl) (by decide) rfl trivial rfl ?_
   refine GM.bs tab_ok 1 rfl rfl rfl rfl rfl rfl ?_
   refine GM.pv (PV.all tab_ok rfl) rfl rfl rfl rfl rfl rfl ?_
   refine GM.turnE (fun _ v => ∃ x, v = .int .i64 x ∧ Drawn 3 x) (fun L' => L' = (b, boxT) :: (tp, tapeO lv (a + 1 + 1)) :: L) (Drawn.mono _) rfl rfl rfl rfl (fun i2 hi2 L' _ hA => ⟨rfl, by subst hA; exact OpS.call (by kernel_rfl) rfl (Next_t tp 1 lv _ _ i2 _ (hl.le hi2) rfl (by omega) (by omega)) (fun _ _ _ _ ⟨x, h1, h2, h3, h4⟩ => ⟨trivial, ⟨x, h1, h2⟩, h4⟩)⟩) ?_
   (all_goals (refine GM.fact (PtC 1 fun l => ∃ x, l = [.int .i64 x]) (PtC.mono _ _) rfl rfl rfl rfl (fun i2 hi2 L' _ => by intro v hv w hw; obtain ⟨b3, rfl, hb3⟩ := hv; obtain ⟨x, rfl, hx⟩ := hw; obtain ⟨hx0, hx1⟩ := hx; exact ⟨rfl, OpS.idx tab_ok _ rfl rfl rfl (by omega) hb3 (by omega) (by first | exact ints2_at _ _ _ (by omega) | exact ints3_at _ _ _ _ (by omega))⟩) ?_))
   (all_goals (refine GM.fact (fun _ v => ∃ x, v = .int .i64 x) IntV.mono rfl rfl rfl rfl (fun i2 hi2 L' _ => by intro v hv; exact ⟨rfl, OpS.mono (OpS.ld1 tab_ok rfl rfl hv (by omega)) (fun u i3 L3 _ ⟨h1, l, h2, ⟨x, h3⟩, _⟩ => ⟨h1, x, by rw [h3] at h2; cases h2; rfl⟩)⟩) ?_))
   (all_goals refine GM.pv (PV.all tab_ok rfl) rfl rfl rfl rfl rfl rfl ?_)
   (all_goals refine GM.bs tab_ok 1 rfl rfl rfl rfl rfl rfl ?_)
   (all_goals refine GM.turnE (fun _ v => ∃ s, v = .string s ∧ s.size ≤ 64) (fun L' => L' = (b, boxT) :: (tp, tapeO lv (a + 1 + 1 + 1)) :: L) (SizeV.mono _) rfl rfl rfl rfl (fun i2 hi2 L' _ hA => by intro v hv; obtain ⟨b3, rfl, hb3⟩ := hv; exact ⟨rfl, by subst hA; exact OpS.call (by kernel_rfl) rfl (One_c 64 tp 1 lv _ _ _ _ i2 _ (hl.le hi2) hb3 rfl rfl rfl rfl rfl (by omega)) (fun _ _ _ _ ⟨s, h1, h2, h3, h4⟩ => ⟨trivial, ⟨s, h1, h2⟩, h4⟩)⟩) ?_)
   refine GM.fact (fun _ v => TermIs 64 v) TermIs.mono rfl rfl rfl rfl (fun i2 hi2 L' _ => by rintro v hv w hw; obtain ⟨x1, rfl⟩ := hv; obtain ⟨s1, rfl, hs1⟩ := hw; exact ⟨rfl, OpS.mono (OpS.pv (PV.all tab_ok rfl)) (fun u i3 L3 _ ⟨h1, h2⟩ => ⟨h1, _, _, _, _, h2, by decide, hs1⟩)⟩) ?_
   refine GM.doneE rfl rfl (fun i3 L3 hi3 _ hA => ?_)
   subst hA
   rintro v ⟨k1, n1, o1, u1, rfl, hn1, hu1⟩ - - - - - - - - - - - -
   refine RS.store (k := 0) tab_ok rfl rfl rfl rfl rfl rfl rfl rfl ?_
   refine RS.nil ?_
   repeat' (first | refine thenQ.normal ?_ | refine CS.ret ?_ | refine thenQ.ret ?_ | refine blkQ.ret ?_ | refine retQ.ret ?_)
   exact ⟨_, _, _, _, _, _, rfl, Has.own 0 rfl, rfl, _, _, ⟨_, _, _, _, rfl, hn1, hu1⟩, _, by omega, by omega, rfl⟩
end Go.Proofs.YtckdkhhpjnefpaaGreatDoor
namespace Go.Proofs.YtckdkhhpjnefpaaGreatDoor
set_option maxHeartbeats 4000000
open Go Go.Eng
def terms (l : List Term) : List Value := l.flatMap termC
theorem terms_len : ∀ l : List Term, (terms l).length = l.length * 4
 | [] => rfl
 | a :: l => by
   have h := terms_len l
   have e : terms (a :: l) = termC a ++ terms l := rfl
   rw [e, List.length_append, h, List.length_cons]
   simp [termC]; omega
theorem terms_snoc (l : List Term) (t : Term) : terms (l ++ [t]) = terms l ++ termC t := by simp [terms]
theorem terms_cons (l : List Term) (t : Term) : terms (t :: l) = termC t ++ terms l := by simp [terms]
theorem terms_one (l : List Term) : ∀ c ∈ terms l, c.oneCell' = true := by
 intro c hc
 obtain ⟨t, _, ht⟩ := List.mem_flatMap.1 hc
 simp [termC] at ht
 rcases ht with rfl | rfl | rfl | rfl <;> rfl
def smallL (B : Nat) (l : List Term) : Prop := ∀ t ∈ l, t.small B
theorem smallL.nil (B : Nat) : smallL B [] := fun t ht => by cases ht
theorem smallL.snoc {B : Nat} {l : List Term} {t : Term} (h : smallL B l) (ht : t.small B) : smallL B (l ++ [t]) := fun u hu => (List.mem_append.1 hu).elim (h u) fun h => by simp at h; subst h; exact ht
theorem smallL.cons {B : Nat} {l : List Term} {t : Term} (h : smallL B l) (ht : t.small B) : smallL B (t :: l) := fun u hu => (List.mem_cons.1 hu).elim (fun h => by subst h; exact ht) (h u)
theorem TermIs.get {B : Nat} {v : Value} (h : TermIs B v) : ∃ t : Term, v = .agg (termC t).toArray ∧ t.small B := by
 obtain ⟨k, n, o, u, rfl, h1, h2⟩ := h
 exact ⟨⟨k, n, o, u⟩, rfl, h1, h2⟩
theorem Next_A (A : SH) (tp : Nat) (lv : Value) (a n : Int) (i : Imm) (R : SH) (hl : IntSl i lv) (hn : n ≤ 9223372036854775807) (ha : 0 ≤ a ∧ a ≤ 1000000000000) :
 FnS Tryz.prog 20 [.pointer (some ⟨tp, 0, none⟩), .int .i64 n] i (A ++ ((tp, tapeO lv a) :: R)) fun r i' L' => ∃ x, r = .int .i64 x ∧ Drawn n x ∧ i' = i ∧ L' = A ++ ((tp, tapeO lv (a + 1)) :: R) := by
 refine (Next_t tp A.length lv a n i _ hl (by simp) hn ha).mono ?_
 rintro r i' L' _ ⟨x, h1, h2, h3, rfl⟩
 exact ⟨x, h1, h2, h3, by simp⟩
theorem One_A (B : Nat) (A : SH) (tp : Nat) (lv : Value) (a : Int) (b n : Nat) (cs : List Value) (i : Imm) (R : SH) (hl : IntSl i lv) (hs : Sl i (.slice (some ⟨b, 0, none⟩) n n) 1 n cs) (hc : strs (unstr cs) = cs) (hB : szOk B cs = true) (hn : Nat.blt 0 n = true) (hn2 : Nat.ble n 1000 = true) (ha : 0 ≤ a ∧ a ≤ 1000000000000) :
 FnS Tryz.prog 49 [.pointer (some ⟨tp, 0, none⟩), .slice (some ⟨b, 0, none⟩) n n] i (A ++ ((tp, tapeO lv a) :: R)) fun r i' L' => ∃ s, r = .string s ∧ s.size ≤ B ∧ i' = i ∧ L' = A ++ ((tp, tapeO lv (a + 1)) :: R) := by
 refine (One_c B tp A.length lv a b n cs i _ hl hs (by simp) hc hB hn hn2 ha).mono ?_
 rintro r i' L' _ ⟨x, h1, h2, h3, rfl⟩
 exact ⟨x, h1, h2, h3, by simp⟩
theorem tapeA {P : Program} {g : FuncId} {args : List Value} {i : Imm} {tp : Nat} {lv : Value} {a k : Int} {φ : Value → Imm → Prop} (A R : SH)
 (h : ∀ L, FnS P g args i ((tp, tapeO lv a) :: L) fun v i' L' => φ v i' ∧ ∃ a', a ≤ a' ∧ a' ≤ a + k ∧ L' = (tp, tapeO lv a') :: L) :
 FnS P g args i (A ++ ((tp, tapeO lv a) :: R)) fun v i' L' => φ v i' ∧ ∃ a', a ≤ a' ∧ a' ≤ a + k ∧ L' = A ++ ((tp, tapeO lv a') :: R) := by
 have := FnS.ctx (P := P) (g := g) (args := args) (i := i) A (B := [(tp, tapeO lv a)]) (R := R) (X := Int) (φ := fun a' v i' => φ v i' ∧ a ≤ a' ∧ a' ≤ a + k) (B' := fun a' => [(tp, tapeO lv a')])
  ((h (A ++ R)).mono fun v i' L' _ ⟨h1, a', h2, h3, h4⟩ => ⟨a', ⟨h1, h2, h3⟩, h4⟩)
 exact this.mono fun v i' L' _ ⟨a', ⟨h1, h2, h3⟩, h4⟩ => ⟨h1, a', h2, h3, h4⟩
theorem Terms_t (tp : Nat) (lv : Value) (a : Int) (i : Imm) (L : SH) (hl : IntSl i lv) (ha : 0 ≤ a ∧ a ≤ 800000000000) :
 FnS Tryz.prog 52 [.pointer (some ⟨tp, 0, none⟩)] i ((tp, tapeO lv a) :: L) fun r i' L' => (∃ ts, Sl i' r 4 ts.length (terms ts) ∧ smallL 64 ts ∧ ts.length ≤ 8) ∧ ∃ a', a ≤ a' ∧ a' ≤ a + 200 ∧ L' = (tp, tapeO lv a') :: L := by
 have key : FnS Tryz.prog 52 [.pointer (some ⟨tp, 0, none⟩)] i ((tp, tapeO lv a) :: L) fun r i' L' => ∃ (a' : Int) (n : Nat) (xs : List Value) (O : SH), (a ≤ a' ∧ a' ≤ a + 200 ∧ ∃ ts : List Term, n = ts.length ∧ xs = terms ts ∧ smallL 64 ts ∧ ts.length ≤ 8) ∧ SlO 54 r 4 n xs O ∧ L' = O ++ ((tp, tapeO lv a') :: L) := by
  refine FnS.intro1 Tryz.func52 rfl Tryz.ntmps52 (by simp) Tryz.results52 ?_
  repeat' (first | refine RS.pv (PV.all tab_ok rfl) rfl ?_ | refine CS.seq ?_ | refine thenQ.normal ?_ | refine CS.region (id := 0) ?_ | refine CS.region (id := 1) ?_ | refine RS.nil ?_)
  refine CS.region (id := 2) ?_
  refine RS.pv (PV.all tab_ok rfl) rfl ?_
  refine RS.call (Next_A [] _ _ _ _ _ _ hl (by omega) (by omega)) rfl (by kernel_rfl) rfl ?_
  rintro _ _ _ - ⟨x, rfl, ⟨hx0, hx1⟩, rfl, rfl⟩
  refine RS.pv (PV.all tab_ok rfl) rfl ?_
  refine RS.nil ?_
  repeat' (first | refine thenQ.normal ?_ | refine CS.block ?_)
  refine CS.loop [0, 3, 4] (fun m vs i' L' => ∃ (x a' : Int) (ts : List Term) (O : SH) (ao : Option Addr) (cap : Nat), m = x.toNat ∧ 0 ≤ x ∧ SlO 54 (.slice ao ts.length cap) 4 ts.length (terms ts) O ∧ smallL 64 ts ∧ (ts.length : Int) + x ≤ 2 ∧ a ≤ a' ∧ a' + 11 * x ≤ a + 23 ∧ vs = [.pointer (some ⟨tp, 0, none⟩), .slice ao ts.length cap, .int .i64 x] ∧ IntSl i' lv ∧ L' = O ++ ((tp, tapeO lv a') :: L)) x.toNat
   ⟨x, a + 1, [], [], none, 0, rfl, by omega, SlO.nil 54 4, smallL.nil 64, by simp; omega, by omega, by omega, rfl, hl, rfl⟩ ?_
  rintro m g vs i' L' hi ⟨x, a', ts, O, ao, cap, rfl, hx, hO, hsm0, hlen, ha0, ha1, rfl, hl, rfl⟩
  repeat' (first | refine RS.pv (PV.all tab_ok rfl) rfl ?_ | refine CS.seq ?_ | refine thenQ.normal ?_ | refine CS.cond_true rfl ?_ | refine CS.cond_false rfl ?_ | refine CS.skip ?_ | refine CS.block ?_ | refine CS.exit ?_ | refine thenQ.exit ?_ | refine blkQ.normal ?_ | refine blkQ.here ?_ | refine CS.region (id := 3) ?_ | refine CS.region (id := 4) ?_ | refine CS.region (id := 5) ?_ | refine RS.ifGtr rfl rfl rfl (fun h => ?_) (fun h => ?_) | refine RS.pv (PV.sub rfl rfl (by omega)) rfl ?_ | (refine RS.call (tapeA O _ (fun L => Matches_t tp lv _ _ L hl (by omega))) rfl (by kernel_rfl) rfl ?_; rintro _ i' _ hi' ⟨ht, a2, ha1, ha2, rfl⟩; obtain ⟨t, rfl, hsm⟩ := ht.get; replace hl := hl.le hi') | (refine RS.buildSliceF tab_ok 4 rfl rfl rfl (fun b i' hi' hs => ?_); replace hl := hl.le hi') | (refine RS.app tab_ok (sz := 4) (bytes := 48) rfl rfl rfl hO (hs.rd _) ⟨_, rfl, rfl⟩ ⟨_, rfl, rfl, rfl⟩ (by omega) (allOne rfl) (by omega) (by omega) ?_; intro ao cap O hO) | refine RS.nil ?_)
  · refine ⟨(x - 1).toNat, by omega, x - 1, a2, ts ++ [t], O, ao, cap, rfl, by omega, ?_, hsm0.snoc hsm, by simp; omega, by omega, by omega, by rw [List.length_append]; rfl, hl, rfl⟩
    rw [terms_snoc, List.length_append]; exact hO
  have hx0 : x = 0 := by omega
  subst hx0
  refine CS.region (id := 6) ?_
  refine RS.pv (PV.all tab_ok rfl) rfl ?_
  refine RS.call (Next_A _ _ _ _ _ _ _ hl (by omega) (by omega)) rfl (by kernel_rfl) rfl ?_
  rintro _ _ _ - ⟨x, rfl, ⟨hx0, hx1⟩, rfl, rfl⟩
  refine RS.pv (PV.add rfl rfl (by omega)) rfl ?_
  refine RS.pv (PV.all tab_ok rfl) rfl ?_
  refine RS.nil ?_
  repeat' (first | refine thenQ.normal ?_ | refine CS.block ?_)
  refine CS.loop [0, 3, 5] (fun m vs i' L' => ∃ (x a' : Int) (ts : List Term) (O : SH) (ao : Option Addr) (cap : Nat), m = x.toNat ∧ 0 ≤ x ∧ SlO 54 (.slice ao ts.length cap) 4 ts.length (terms ts) O ∧ smallL 64 ts ∧ (ts.length : Int) + x ≤ 4 ∧ a ≤ a' ∧ a' + 11 * x ≤ a + 60 ∧ vs = [.pointer (some ⟨tp, 0, none⟩), .slice ao ts.length cap, .int .i64 x] ∧ IntSl i' lv ∧ L' = O ++ ((tp, tapeO lv a') :: L)) (1 + x).toNat
   ⟨1 + x, a' + 1, ts, O, ao, cap, rfl, by omega, hO, hsm0, by omega, by omega, by omega, rfl, hl, rfl⟩ ?_
  rintro m g vs i' L' hi ⟨x, a', ts, O, ao, cap, rfl, hx, hO, hsm0, hlen, ha0, ha1, rfl, hl, rfl⟩
  repeat' (first | refine RS.pv (PV.all tab_ok rfl) rfl ?_ | refine CS.seq ?_ | refine thenQ.normal ?_ | refine CS.cond_true rfl ?_ | refine CS.cond_false rfl ?_ | refine CS.skip ?_ | refine CS.block ?_ | refine CS.exit ?_ | refine thenQ.exit ?_ | refine blkQ.normal ?_ | refine blkQ.here ?_ | refine CS.region (id := 7) ?_ | refine CS.region (id := 8) ?_ | refine CS.region (id := 9) ?_ | refine RS.pv (PV.sub rfl rfl (by omega)) rfl ?_ | (refine RS.app tab_ok (sz := 4) (bytes := 48) rfl rfl rfl hO (hs.rd _) ⟨_, rfl, rfl⟩ ⟨_, rfl, rfl, rfl⟩ (by omega) (allOne rfl) (by omega) (by omega) ?_; intro ao cap O hO) | refine RS.ifGtr rfl rfl rfl (fun h => ?_) (fun h => ?_) | (refine RS.call (tapeA O _ (fun L => Assigns_t tp lv _ _ L hl (by omega))) rfl (by kernel_rfl) rfl ?_; rintro _ i' _ hi' ⟨ht, a2, ha1, ha2, rfl⟩; obtain ⟨t, rfl, hsm⟩ := ht.get; replace hl := hl.le hi') | (refine RS.buildSliceF tab_ok 4 rfl rfl rfl (fun b i' hi' hs => ?_); replace hl := hl.le hi') | refine RS.nil ?_)
  · refine ⟨(x - 1).toNat, by omega, x - 1, a2, ts ++ [t], O, ao, cap, rfl, by omega, ?_, hsm0.snoc hsm, by simp; omega, by omega, by omega, by rw [List.length_append]; rfl, hl, rfl⟩
    rw [terms_snoc, List.length_append]; exact hO
  have hx0 : x = 0 := by omega
  subst hx0
  refine CS.region (id := 10) ?_
  refine RS.pv (PV.all tab_ok rfl) rfl ?_
  refine RS.call (Next_A _ _ _ _ _ _ _ hl (by omega) (by omega)) rfl (by kernel_rfl) rfl ?_
  rintro _ _ _ - ⟨x, rfl, ⟨hx0, hx1⟩, rfl, rfl⟩
  refine RS.nil ?_
  repeat' (first | refine RS.pv (PV.all tab_ok rfl) rfl ?_ | refine CS.seq ?_ | refine thenQ.normal ?_ | refine CS.cond_true rfl ?_ | refine CS.cond_false rfl ?_ | refine CS.skip ?_ | refine CS.block ?_ | refine blkQ.normal ?_ | refine CS.region (id := 11) ?_ | refine CS.region (id := 12) ?_ | refine CS.region (id := 13) ?_ | refine CS.region (id := 14) ?_ | refine CS.region (id := 15) ?_ | (refine RS.app tab_ok (sz := 4) (bytes := 48) rfl rfl rfl hO (hs.rd _) ⟨_, rfl, rfl⟩ ⟨_, rfl, rfl, rfl⟩ (by omega) (allOne rfl) (by omega) (by omega) ?_; intro ao cap O hO) | refine RS.ifEql rfl rfl rfl (fun h => ?_) (fun h => ?_) | (refine RS.buildSliceF tab_ok 4 rfl rfl rfl (fun b i' hi' hs => ?_); replace hl := hl.le hi') | (refine RS.buildSliceF tab_ok 1 rfl rfl rfl (fun b i' hi' hs => ?_); replace hl := hl.le hi') | (refine RS.call (One_A 64 _ _ _ _ _ _ _ _ _ hl hs rfl rfl rfl rfl (by omega)) rfl (by kernel_rfl) rfl ?_; rintro _ _ _ - ⟨s, rfl, hsz, rfl, rfl⟩) | refine RS.nil ?_)
  · refine CS.region (id := 17) ?_
    iterate 2 refine RS.pv (PV.all tab_ok rfl) rfl ?_
    refine RS.nil ?_
    repeat' (first | refine thenQ.normal ?_ | refine CS.ret ?_ | refine retQ.ret ?_)
    exact ⟨_, _, _, _, ⟨by omega, by omega, ts ++ [⟨23, ByteArray.empty, 3, s⟩], by rw [List.length_append], rfl, hsm0.snoc ⟨by show (0 : Nat) ≤ 64; omega, hsz⟩, by simp; omega⟩, by rw [terms_snoc]; exact hO, rfl⟩
  · refine CS.region (id := 17) ?_
    iterate 2 refine RS.pv (PV.all tab_ok rfl) rfl ?_
    refine RS.nil ?_
    repeat' (first | refine thenQ.normal ?_ | refine CS.ret ?_ | refine retQ.ret ?_)
    exact ⟨_, _, _, _, ⟨by omega, by omega, ts ++ [⟨24, ByteArray.empty, 3, s⟩], by rw [List.length_append], rfl, hsm0.snoc ⟨by show (0 : Nat) ≤ 64; omega, hsz⟩, by simp; omega⟩, by rw [terms_snoc]; exact hO, rfl⟩
  · refine CS.region (id := 16) ?_
    refine RS.pv (PV.all tab_ok rfl) rfl ?_
    (refine RS.call (tapeA O _ (fun L => Assigns_t tp lv _ _ L hl (by omega))) rfl (by kernel_rfl) rfl ?_; rintro _ i' _ hi' ⟨ht, a2, ha1, ha2, rfl⟩; obtain ⟨t, rfl, hsm⟩ := ht.get; replace hl := hl.le hi')
    refine RS.buildSlice tab_ok rfl rfl (fun b => ?_)
    refine RS.pv (PV.all tab_ok rfl) rfl ?_
    refine RS.app (O := [_]) (L0 := O ++ ((tp, tapeO lv a2) :: L)) tab_ok (sz := 4) (bytes := 48) rfl rfl rfl (SlO.built 54 4 1 b (termC t) rfl) ((hO.rd (L := (tp, tapeO lv a2) :: L)).ahead [_]) ⟨_, rfl, rfl⟩ ⟨_, rfl, rfl, rfl⟩ (by omega) (terms_one ts) (by omega) (by omega) ?_
    intro ao cap O' hO'
    refine RS.garb O' O _ ?_
    refine RS.pv (PV.all tab_ok rfl) rfl ?_
    refine RS.nil ?_
    repeat' (first | refine RS.pv (PV.all tab_ok rfl) rfl ?_ | refine CS.seq ?_ | refine thenQ.normal ?_ | refine CS.ret ?_ | refine retQ.ret ?_ | refine blkQ.normal ?_ | refine CS.region ?_ | refine RS.nil ?_)
    exact ⟨_, 1 + ts.length, _, _, ⟨by omega, by omega, t :: ts, by rw [List.length_cons]; omega, rfl, hsm0.cons hsm, by simp; omega⟩, by rw [terms_cons]; exact hO', rfl⟩
  · refine CS.region (id := 17) ?_
    iterate 2 refine RS.pv (PV.all tab_ok rfl) rfl ?_
    refine RS.nil ?_
    repeat' (first | refine thenQ.normal ?_ | refine CS.ret ?_ | refine retQ.ret ?_)
    exact ⟨_, _, _, _, ⟨by omega, by omega, ts, rfl, rfl, hsm0, by omega⟩, hO, rfl⟩
 have k2 := FnS.frozenA (φ := fun a' v i' n xs => a ≤ a' ∧ a' ≤ a + 200 ∧ ∃ ts : List Term, n = ts.length ∧ xs = terms ts ∧ smallL 64 ts ∧ ts.length ≤ 8) (B := fun a' => (tp, tapeO lv a') :: L) (fun _ _ _ _ _ _ _ h => h) key
 refine k2.mono ?_
 rintro v i' L' _ ⟨a', n, xs, ⟨h1, h2, ts, rfl, rfl, h3, h4⟩, h5, h6⟩
 exact ⟨⟨ts, h5, h3, h4⟩, a', h1, h2, h6⟩
end Go.Proofs.YtckdkhhpjnefpaaGreatDoor
namespace Go.Proofs
open Go.Shelf
def Tryz.lays161_ren : Go.Shelf.Ren := ⟨fun | 161 => 190 | 231 => 255 | 227 => 256 | 233 => 257 | 235 => 258 | 228 => 301 | 197 => 251 | 151 => 302 | 260 => 299 | 152 => 327 | 137 => 187 | 119 => 345 | 224 => 318 | 225 => 317 | 217 => 253 | 266 => 300 | n => n, fun | 9 => 9 | 4 => 4 | 3 => 3 | 5 => 5 | 117 => 319 | 116 => 318 | 0 => 0 | 124 => 322 | 105 => 309 | 21 => 21 | 119 => 372 | 46 => 214 | 139 => 375 | 138 => 374 | n => n, fun | 3 => 1 | 4 => 2 | n => n⟩
theorem Tryz.lays161 : Go.Proofs.Lays.n161 Tryz.prog Tryz.lays161_ren := {
 mixed := by kernel_rfl
 f119 := Tryz.func345.trans (congrArg some (by kernel_rfl))
 f137 := Tryz.func187.trans (congrArg some (by kernel_rfl))
 f151 := Tryz.func302.trans (congrArg some (by kernel_rfl))
 f152 := Tryz.func327.trans (congrArg some (by kernel_rfl))
 f161 := Tryz.func190.trans (congrArg some (by kernel_rfl))
 f197 := Tryz.func251.trans (congrArg some (by kernel_rfl))
 f217 := Tryz.func253.trans (congrArg some (by kernel_rfl))
 f224 := Tryz.func318.trans (congrArg some (by kernel_rfl))
 f225 := Tryz.func317.trans (congrArg some (by kernel_rfl))
 f227 := Tryz.func256.trans (congrArg some (by kernel_rfl))
 f228 := Tryz.func301.trans (congrArg some (by kernel_rfl))
 f231 := Tryz.func255.trans (congrArg some (by kernel_rfl))
 f233 := Tryz.func257.trans (congrArg some (by kernel_rfl))
 f235 := Tryz.func258.trans (congrArg some (by kernel_rfl))
 f260 := Tryz.func299.trans (congrArg some (by kernel_rfl))
 f266 := Tryz.func300.trans (congrArg some (by kernel_rfl))
 t0 := Tryz.underlying0
 a0 := Tryz.isAgg0
 z0 := Tryz.sizeOf0
 v0 := Tryz.zeroValue0
 t3 := Tryz.underlying3
 a3 := Tryz.isAgg3
 z3 := Tryz.sizeOf3
 v3 := Tryz.zeroValue3
 t4 := Tryz.underlying4
 a4 := Tryz.isAgg4
 z4 := Tryz.sizeOf4
 v4 := Tryz.zeroValue4
 t5 := Tryz.underlying5
 a5 := Tryz.isAgg5
 z5 := Tryz.sizeOf5
 v5 := Tryz.zeroValue5
 t9 := Tryz.underlying9
 a9 := Tryz.isAgg9
 z9 := Tryz.sizeOf9
 v9 := Tryz.zeroValue9
 t21 := Tryz.underlying21
 a21 := Tryz.isAgg21
 z21 := Tryz.sizeOf21
 v21 := Tryz.zeroValue21
 t46 := Tryz.underlying214
 a46 := Tryz.isAgg214
 z46 := Tryz.sizeOf214
 v46 := Tryz.zeroValue214
 t105 := Tryz.underlying309
 a105 := Tryz.isAgg309
 z105 := Tryz.sizeOf309
 v105 := Tryz.zeroValue309
 t116 := Tryz.underlying318
 a116 := Tryz.isAgg318
 z116 := Tryz.sizeOf318
 t117 := Tryz.underlying319
 a117 := Tryz.isAgg319
 z117 := Tryz.sizeOf319
 v117 := Tryz.zeroValue319
 t119 := Tryz.underlying372
 a119 := Tryz.isAgg372
 z119 := Tryz.sizeOf372
 t124 := Tryz.underlying322
 a124 := Tryz.isAgg322
 z124 := Tryz.sizeOf322
 v124 := Tryz.zeroValue322
 t138 := Tryz.underlying374
 a138 := Tryz.isAgg374
 z138 := Tryz.sizeOf374
 v138 := Tryz.zeroValue374
 t139 := Tryz.underlying375
 a139 := Tryz.isAgg375
 z139 := Tryz.sizeOf375
 v139 := Tryz.zeroValue375
 g3 := by kernel_rfl
 g4 := by kernel_rfl }
def Tryz.lays137_ren : Go.Shelf.Ren := ⟨fun | 137 => 187 | 217 => 253 | 266 => 300 | n => n, fun | 9 => 9 | 5 => 5 | 3 => 3 | n => n, fun | n => n⟩
theorem Tryz.lays137 : Go.Proofs.Lays.n137 Tryz.prog Tryz.lays137_ren := {
 mixed := by kernel_rfl
 f137 := Tryz.func187.trans (congrArg some (by kernel_rfl))
 f217 := Tryz.func253.trans (congrArg some (by kernel_rfl))
 f266 := Tryz.func300.trans (congrArg some (by kernel_rfl))
 t3 := Tryz.underlying3
 a3 := Tryz.isAgg3
 z3 := Tryz.sizeOf3
 v3 := Tryz.zeroValue3
 t5 := Tryz.underlying5
 a5 := Tryz.isAgg5
 z5 := Tryz.sizeOf5
 v5 := Tryz.zeroValue5
 t9 := Tryz.underlying9
 a9 := Tryz.isAgg9
 z9 := Tryz.sizeOf9
 v9 := Tryz.zeroValue9 }
open Go.RowKit in
theorem Tryz.strings_IndexByte (s : ByteArray) (c : Int) (w : World) :
 Calls Tryz.prog 187 #[.string s, .int .u8 c] w fun e w' => e = .returned (.int .i64 (Lib.indexByte s.data.toList c.toNat.toUInt8)) ∧ w' = w := Any.strings_IndexByte Tryz.lays137 s c w
def Tryz.laysM171_ren : Go.Shelf.Ren := ⟨fun | 171 => 245 | 243 => 291 | 246 => 321 | 283 => 340 | 284 => 341 | 285 => 342 | 286 => 343 | 129 => 211 | 317 => 357 | 318 => 358 | 319 => 359 | 320 => 360 | 337 => 373 | 338 => 374 | n => n, fun | 3 => 3 | 9 => 9 | 2 => 2 | 4 => 4 | 171 => 384 | 0 => 0 | 53 => 264 | 37 => 289 | 5 => 5 | 173 => 386 | 212 => 404 | 51 => 262 | 20 => 20 | 213 => 405 | 46 => 214 | 232 => 432 | 233 => 433 | n => n, fun | 17 => 4 | 18 => 7 | 19 => 8 | n => n⟩
theorem Tryz.laysM171 : Go.Proofs.LaysM.n171 Tryz.prog Tryz.laysM171_ren := {
 mixed := by kernel_rfl
 f129 := Tryz.func211.trans (congrArg some (by kernel_rfl))
 f171 := Tryz.func245.trans (congrArg some (by kernel_rfl))
 f243 := Tryz.func291.trans (congrArg some (by kernel_rfl))
 f246 := Tryz.func321.trans (congrArg some (by kernel_rfl))
 f283 := Tryz.func340.trans (congrArg some (by kernel_rfl))
 f284 := Tryz.func341.trans (congrArg some (by kernel_rfl))
 f285 := Tryz.func342.trans (congrArg some (by kernel_rfl))
 f286 := Tryz.func343.trans (congrArg some (by kernel_rfl))
 f317 := Tryz.func357.trans (congrArg some (by kernel_rfl))
 f318 := Tryz.func358.trans (congrArg some (by kernel_rfl))
 f319 := Tryz.func359.trans (congrArg some (by kernel_rfl))
 f320 := Tryz.func360.trans (congrArg some (by kernel_rfl))
 f337 := Tryz.func373.trans (congrArg some (by kernel_rfl))
 f338 := Tryz.func374.trans (congrArg some (by kernel_rfl))
 t0 := Tryz.underlying0
 a0 := Tryz.isAgg0
 z0 := Tryz.sizeOf0
 v0 := Tryz.zeroValue0
 t2 := Tryz.underlying2
 a2 := Tryz.isAgg2
 z2 := Tryz.sizeOf2
 v2 := Tryz.zeroValue2
 t3 := Tryz.underlying3
 a3 := Tryz.isAgg3
 z3 := Tryz.sizeOf3
 v3 := Tryz.zeroValue3
 t4 := Tryz.underlying4
 a4 := Tryz.isAgg4
 z4 := Tryz.sizeOf4
 v4 := Tryz.zeroValue4
 t5 := Tryz.underlying5
 a5 := Tryz.isAgg5
 z5 := Tryz.sizeOf5
 v5 := Tryz.zeroValue5
 t9 := Tryz.underlying9
 a9 := Tryz.isAgg9
 z9 := Tryz.sizeOf9
 v9 := Tryz.zeroValue9
 t20 := Tryz.underlying20
 a20 := Tryz.isAgg20
 z20 := Tryz.sizeOf20
 v20 := Tryz.zeroValue20
 t37 := Tryz.underlying289
 a37 := Tryz.isAgg289
 z37 := Tryz.sizeOf289
 v37 := Tryz.zeroValue289
 t46 := Tryz.underlying214
 a46 := Tryz.isAgg214
 z46 := Tryz.sizeOf214
 v46 := Tryz.zeroValue214
 t51 := Tryz.underlying262
 a51 := Tryz.isAgg262
 z51 := Tryz.sizeOf262
 v51 := Tryz.zeroValue262
 t53 := Tryz.underlying264
 a53 := Tryz.isAgg264
 z53 := Tryz.sizeOf264
 v53 := Tryz.zeroValue264
 t171 := Tryz.underlying384
 a171 := Tryz.isAgg384
 z171 := Tryz.sizeOf384
 v171 := Tryz.zeroValue384
 t173 := Tryz.underlying386
 a173 := Tryz.isAgg386
 z173 := Tryz.sizeOf386
 v173 := Tryz.zeroValue386
 t212 := Tryz.underlying404
 a212 := Tryz.isAgg404
 z212 := Tryz.sizeOf404
 v212 := Tryz.zeroValue404
 t213 := Tryz.underlying405
 a213 := Tryz.isAgg405
 z213 := Tryz.sizeOf405
 t232 := Tryz.underlying432
 a232 := Tryz.isAgg432
 z232 := Tryz.sizeOf432
 v232 := Tryz.zeroValue432
 t233 := Tryz.underlying433
 a233 := Tryz.isAgg433
 z233 := Tryz.sizeOf433
 v233 := Tryz.zeroValue433
 g17 := by kernel_rfl
 g18 := by kernel_rfl
 g19 := by kernel_rfl
 i0 := by kernel_rfl
 i2 := by kernel_rfl
 i3 := by kernel_rfl
 i4 := by kernel_rfl
 i5 := by kernel_rfl
 i9 := by kernel_rfl
 i20 := by kernel_rfl
 i37 := by kernel_rfl
 i46 := by kernel_rfl
 i51 := by kernel_rfl
 i53 := by kernel_rfl
 i171 := by kernel_rfl
 i173 := by kernel_rfl
 i212 := by kernel_rfl
 i232 := by kernel_rfl
 i233 := by kernel_rfl
 m17 := by kernel_rfl
 m18 := by kernel_rfl
 m19 := by kernel_rfl }
open Go.RowKit Go.Sort Go.Lib in
theorem Tryz.strconv_Itoa (n : Int) (h0 : -9223372036854775808 ≤ n) (h1 : n ≤ 9223372036854775807) (w : World) (htab : Lib.TabIs Tryz.prog w "internal/strconv.uint64pow10" .u64 Lib.pow10Tab) :
 Calls Tryz.prog 245 #[.int .i64 n] w fun e w' => e = .returned (.string ⟨(Lib.itoa n).toArray⟩) ∧ ∃ k os, w' = grow (w.drewN k) os := Any.strconv_Itoa Tryz.laysM171 n h0 h1 w htab
def Tryz.lays99_ren : Go.Shelf.Ren := ⟨fun | 99 => 172 | 206 => 235 | n => n, fun | 9 => 9 | 4 => 4 | 3 => 3 | n => n, fun | n => n⟩
theorem Tryz.lays99 : Go.Proofs.Lays.n99 Tryz.prog Tryz.lays99_ren := {
 mixed := by kernel_rfl
 f99 := Tryz.func172.trans (congrArg some (by kernel_rfl))
 f206 := Tryz.func235.trans (congrArg some (by kernel_rfl))
 t3 := Tryz.underlying3
 a3 := Tryz.isAgg3
 z3 := Tryz.sizeOf3
 v3 := Tryz.zeroValue3
 t4 := Tryz.underlying4
 a4 := Tryz.isAgg4
 z4 := Tryz.sizeOf4
 v4 := Tryz.zeroValue4
 t9 := Tryz.underlying9
 a9 := Tryz.isAgg9
 z9 := Tryz.sizeOf9
 v9 := Tryz.zeroValue9 }
open Go.RowKit Go.Lib in
theorem Tryz.strings_HasPrefix (s p : ByteArray) (w : World) :
 Calls Tryz.prog 172 #[.string s, .string p] w fun e w' => e = .returned (.bool (Lib.hasPrefix s.data.toList p.data.toList)) ∧ w' = w := Any.strings_HasPrefix Tryz.lays99 s p w
def Tryz.lays100_ren : Go.Shelf.Ren := ⟨fun | 100 => 185 | 207 => 247 | n => n, fun | 9 => 9 | 4 => 4 | 3 => 3 | n => n, fun | n => n⟩
theorem Tryz.lays100 : Go.Proofs.Lays.n100 Tryz.prog Tryz.lays100_ren := {
 mixed := by kernel_rfl
 f100 := Tryz.func185.trans (congrArg some (by kernel_rfl))
 f207 := Tryz.func247.trans (congrArg some (by kernel_rfl))
 t3 := Tryz.underlying3
 a3 := Tryz.isAgg3
 z3 := Tryz.sizeOf3
 v3 := Tryz.zeroValue3
 t4 := Tryz.underlying4
 a4 := Tryz.isAgg4
 z4 := Tryz.sizeOf4
 v4 := Tryz.zeroValue4
 t9 := Tryz.underlying9
 a9 := Tryz.isAgg9
 z9 := Tryz.sizeOf9
 v9 := Tryz.zeroValue9 }
open Go.RowKit Go.Lib in
theorem Tryz.strings_HasSuffix (s p : ByteArray) (w : World) (hs : s.size ≤ 9223372036854775807) :
 Calls Tryz.prog 185 #[.string s, .string p] w fun e w' => e = .returned (.bool (Lib.hasSuffix s.data.toList p.data.toList)) ∧ w' = w := Any.strings_HasSuffix Tryz.lays100 s p w hs
def Tryz.lays102_ren : Go.Shelf.Ren := ⟨fun | 102 => 344 | 209 => 361 | 207 => 247 | n => n, fun | 9 => 9 | 4 => 4 | 3 => 3 | n => n, fun | n => n⟩
theorem Tryz.lays102 : Go.Proofs.Lays.n102 Tryz.prog Tryz.lays102_ren := {
 mixed := by kernel_rfl
 f102 := Tryz.func344.trans (congrArg some (by kernel_rfl))
 f207 := Tryz.func247.trans (congrArg some (by kernel_rfl))
 f209 := Tryz.func361.trans (congrArg some (by kernel_rfl))
 t3 := Tryz.underlying3
 a3 := Tryz.isAgg3
 z3 := Tryz.sizeOf3
 v3 := Tryz.zeroValue3
 t4 := Tryz.underlying4
 a4 := Tryz.isAgg4
 z4 := Tryz.sizeOf4
 v4 := Tryz.zeroValue4
 t9 := Tryz.underlying9
 a9 := Tryz.isAgg9
 z9 := Tryz.sizeOf9
 v9 := Tryz.zeroValue9 }
open Go.RowKit Go.Lib in
theorem Tryz.strings_TrimSuffix (s p : ByteArray) (w : World) (hs : s.size ≤ 9223372036854775807) :
 Calls Tryz.prog 344 #[.string s, .string p] w fun e w' => e = .returned (.string ⟨(Lib.trimSuffix s.data.toList p.data.toList).toArray⟩) ∧ w' = w := Any.strings_TrimSuffix Tryz.lays102 s p w hs
def Tryz.lays146_ren : Go.Shelf.Ren := ⟨fun | 146 => 169 | 221 => 233 | 268 => 286 | 138 => 248 | 143 => 232 | 195 => 295 | 197 => 251 | 218 => 296 | 219 => 285 | 260 => 299 | 217 => 253 | 225 => 317 | 224 => 318 | 267 => 319 | 266 => 300 | 314 => 339 | n => n, fun | 9 => 9 | 31 => 30 | 3 => 3 | 4 => 4 | 0 => 0 | 105 => 309 | 21 => 21 | 5 => 5 | 46 => 214 | 119 => 372 | 139 => 375 | 138 => 374 | 146 => 382 | 51 => 262 | n => n, fun | 1 => 0 | 3 => 1 | 4 => 2 | n => n⟩
theorem Tryz.lays146 : Go.Proofs.Lays.n146 Tryz.prog Tryz.lays146_ren := {
 mixed := by kernel_rfl
 f138 := Tryz.func248.trans (congrArg some (by kernel_rfl))
 f143 := Tryz.func232.trans (congrArg some (by kernel_rfl))
 f146 := Tryz.func169.trans (congrArg some (by kernel_rfl))
 f195 := Tryz.func295.trans (congrArg some (by kernel_rfl))
 f197 := Tryz.func251.trans (congrArg some (by kernel_rfl))
 f217 := Tryz.func253.trans (congrArg some (by kernel_rfl))
 f218 := Tryz.func296.trans (congrArg some (by kernel_rfl))
 f219 := Tryz.func285.trans (congrArg some (by kernel_rfl))
 f221 := Tryz.func233.trans (congrArg some (by kernel_rfl))
 f224 := Tryz.func318.trans (congrArg some (by kernel_rfl))
 f225 := Tryz.func317.trans (congrArg some (by kernel_rfl))
 f260 := Tryz.func299.trans (congrArg some (by kernel_rfl))
 f266 := Tryz.func300.trans (congrArg some (by kernel_rfl))
 f267 := Tryz.func319.trans (congrArg some (by kernel_rfl))
 f268 := Tryz.func286.trans (congrArg some (by kernel_rfl))
 f314 := Tryz.func339.trans (congrArg some (by kernel_rfl))
 t0 := Tryz.underlying0
 a0 := Tryz.isAgg0
 z0 := Tryz.sizeOf0
 v0 := Tryz.zeroValue0
 t3 := Tryz.underlying3
 a3 := Tryz.isAgg3
 z3 := Tryz.sizeOf3
 v3 := Tryz.zeroValue3
 t4 := Tryz.underlying4
 a4 := Tryz.isAgg4
 z4 := Tryz.sizeOf4
 v4 := Tryz.zeroValue4
 t5 := Tryz.underlying5
 a5 := Tryz.isAgg5
 z5 := Tryz.sizeOf5
 v5 := Tryz.zeroValue5
 t9 := Tryz.underlying9
 a9 := Tryz.isAgg9
 z9 := Tryz.sizeOf9
 v9 := Tryz.zeroValue9
 t21 := Tryz.underlying21
 a21 := Tryz.isAgg21
 z21 := Tryz.sizeOf21
 v21 := Tryz.zeroValue21
 t31 := Tryz.underlying30
 a31 := Tryz.isAgg30
 z31 := Tryz.sizeOf30
 v31 := Tryz.zeroValue30
 t46 := Tryz.underlying214
 a46 := Tryz.isAgg214
 z46 := Tryz.sizeOf214
 v46 := Tryz.zeroValue214
 t51 := Tryz.underlying262
 a51 := Tryz.isAgg262
 z51 := Tryz.sizeOf262
 v51 := Tryz.zeroValue262
 t105 := Tryz.underlying309
 a105 := Tryz.isAgg309
 z105 := Tryz.sizeOf309
 v105 := Tryz.zeroValue309
 t119 := Tryz.underlying372
 a119 := Tryz.isAgg372
 z119 := Tryz.sizeOf372
 t138 := Tryz.underlying374
 a138 := Tryz.isAgg374
 z138 := Tryz.sizeOf374
 v138 := Tryz.zeroValue374
 t139 := Tryz.underlying375
 a139 := Tryz.isAgg375
 z139 := Tryz.sizeOf375
 v139 := Tryz.zeroValue375
 t146 := Tryz.underlying382
 a146 := Tryz.isAgg382
 z146 := Tryz.sizeOf382
 v146 := Tryz.zeroValue382
 g1 := by kernel_rfl
 g3 := by kernel_rfl
 g4 := by kernel_rfl }
open Go.RowKit Go.Lib in
theorem Tryz.strings_Split (s sep : ByteArray) (m : Int) (w : World) (hs : s.size < 4294967281) (hm : w.cell? ⟨0, 0, none⟩ = some (.int .i64 m)) (h1 : 1 ≤ sep.size) :
 Calls Tryz.prog 169 #[.string s, .string sep] w fun e w' =>
  e = .returned (.slice (some ⟨w.heap.size, 0, none⟩) (Lib.countB s sep + 1) (Lib.countB s sep + 1)) ∧ w' = w.alloc (.cells ((Lib.splitB sep 0 (Lib.countB s sep) s).map Value.string).toArray 9) := Any.strings_Split Tryz.lays146 (by kernel_rfl) s sep m w hs hm h1
def Tryz.lays155_ren : Go.Shelf.Ren := ⟨fun | 155 => 138 | 154 => 186 | 138 => 248 | 165 => 249 | 143 => 232 | 166 => 250 | 197 => 251 | 169 => 252 | 195 => 295 | 218 => 296 | 240 => 297 | 241 => 298 | 219 => 285 | 260 => 299 | 276 => 325 | 277 => 326 | 217 => 253 | 225 => 317 | 224 => 318 | 267 => 319 | 266 => 300 | 314 => 339 | n => n, fun | 9 => 9 | 3 => 3 | 4 => 4 | 72 => 303 | 0 => 0 | 76 => 307 | 105 => 309 | 21 => 21 | 5 => 5 | 70 => 301 | 20 => 20 | 37 => 289 | 75 => 306 | 127 => 351 | 164 => 205 | 46 => 214 | 119 => 372 | 139 => 375 | 138 => 374 | 146 => 382 | 51 => 262 | 80 => 311 | n => n, fun | 1 => 0 | 3 => 1 | 4 => 2 | n => n⟩
theorem Tryz.lays155 : Go.Proofs.Lays.n155 Tryz.prog Tryz.lays155_ren := {
 mixed := by kernel_rfl
 f138 := Tryz.func248.trans (congrArg some (by kernel_rfl))
 f143 := Tryz.func232.trans (congrArg some (by kernel_rfl))
 f154 := Tryz.func186.trans (congrArg some (by kernel_rfl))
 f155 := Tryz.func138.trans (congrArg some (by kernel_rfl))
 f165 := Tryz.func249.trans (congrArg some (by kernel_rfl))
 f166 := Tryz.func250.trans (congrArg some (by kernel_rfl))
 f169 := Tryz.func252.trans (congrArg some (by kernel_rfl))
 f195 := Tryz.func295.trans (congrArg some (by kernel_rfl))
 f197 := Tryz.func251.trans (congrArg some (by kernel_rfl))
 f217 := Tryz.func253.trans (congrArg some (by kernel_rfl))
 f218 := Tryz.func296.trans (congrArg some (by kernel_rfl))
 f219 := Tryz.func285.trans (congrArg some (by kernel_rfl))
 f224 := Tryz.func318.trans (congrArg some (by kernel_rfl))
 f225 := Tryz.func317.trans (congrArg some (by kernel_rfl))
 f240 := Tryz.func297.trans (congrArg some (by kernel_rfl))
 f241 := Tryz.func298.trans (congrArg some (by kernel_rfl))
 f260 := Tryz.func299.trans (congrArg some (by kernel_rfl))
 f266 := Tryz.func300.trans (congrArg some (by kernel_rfl))
 f267 := Tryz.func319.trans (congrArg some (by kernel_rfl))
 f276 := Tryz.func325.trans (congrArg some (by kernel_rfl))
 f277 := Tryz.func326.trans (congrArg some (by kernel_rfl))
 f314 := Tryz.func339.trans (congrArg some (by kernel_rfl))
 t0 := Tryz.underlying0
 a0 := Tryz.isAgg0
 z0 := Tryz.sizeOf0
 v0 := Tryz.zeroValue0
 t3 := Tryz.underlying3
 a3 := Tryz.isAgg3
 z3 := Tryz.sizeOf3
 v3 := Tryz.zeroValue3
 t4 := Tryz.underlying4
 a4 := Tryz.isAgg4
 z4 := Tryz.sizeOf4
 v4 := Tryz.zeroValue4
 t5 := Tryz.underlying5
 a5 := Tryz.isAgg5
 z5 := Tryz.sizeOf5
 v5 := Tryz.zeroValue5
 t9 := Tryz.underlying9
 a9 := Tryz.isAgg9
 z9 := Tryz.sizeOf9
 v9 := Tryz.zeroValue9
 t20 := Tryz.underlying20
 a20 := Tryz.isAgg20
 z20 := Tryz.sizeOf20
 v20 := Tryz.zeroValue20
 t21 := Tryz.underlying21
 a21 := Tryz.isAgg21
 z21 := Tryz.sizeOf21
 v21 := Tryz.zeroValue21
 t37 := Tryz.underlying289
 a37 := Tryz.isAgg289
 z37 := Tryz.sizeOf289
 v37 := Tryz.zeroValue289
 t46 := Tryz.underlying214
 a46 := Tryz.isAgg214
 z46 := Tryz.sizeOf214
 v46 := Tryz.zeroValue214
 t51 := Tryz.underlying262
 a51 := Tryz.isAgg262
 z51 := Tryz.sizeOf262
 v51 := Tryz.zeroValue262
 t70 := Tryz.underlying301
 a70 := Tryz.isAgg301
 z70 := Tryz.sizeOf301
 v70 := Tryz.zeroValue301
 t72 := Tryz.underlying303
 a72 := Tryz.isAgg303
 z72 := Tryz.sizeOf303
 v72 := Tryz.zeroValue303
 t75 := Tryz.underlying306
 a75 := Tryz.isAgg306
 z75 := Tryz.sizeOf306
 v75 := Tryz.zeroValue306
 t76 := Tryz.underlying307
 a76 := Tryz.isAgg307
 z76 := Tryz.sizeOf307
 v76 := Tryz.zeroValue307
 t105 := Tryz.underlying309
 a105 := Tryz.isAgg309
 z105 := Tryz.sizeOf309
 v105 := Tryz.zeroValue309
 t119 := Tryz.underlying372
 a119 := Tryz.isAgg372
 z119 := Tryz.sizeOf372
 t127 := Tryz.underlying351
 a127 := Tryz.isAgg351
 z127 := Tryz.sizeOf351
 v127 := Tryz.zeroValue351
 t138 := Tryz.underlying374
 a138 := Tryz.isAgg374
 z138 := Tryz.sizeOf374
 v138 := Tryz.zeroValue374
 t139 := Tryz.underlying375
 a139 := Tryz.isAgg375
 z139 := Tryz.sizeOf375
 v139 := Tryz.zeroValue375
 t146 := Tryz.underlying382
 a146 := Tryz.isAgg382
 z146 := Tryz.sizeOf382
 v146 := Tryz.zeroValue382
 t164 := Tryz.underlying205
 a164 := Tryz.isAgg205
 z164 := Tryz.sizeOf205
 v164 := Tryz.zeroValue205
 g1 := by kernel_rfl
 g3 := by kernel_rfl
 g4 := by kernel_rfl }
theorem Tryz.Builder_Extra_155 : Builder.Extra Tryz.prog Tryz.lays155_ren := {
 sizeBuilder := by kernel_rfl
 liesBuilder := by kernel_rfl
 t5 := Tryz.underlying5
 a5 := Tryz.isAgg5
 z5 := Tryz.sizeOf5
 v5 := Tryz.zeroValue5
 infoByte := by kernel_rfl
 cellsByte := by kernel_rfl
 sizeByte := by kernel_rfl
 neB5 := by decide }
open Go.RowKit Go.Lib in
theorem Tryz.strings_ReplaceAll (s old new : ByteArray) (m : Int) (w : World) (hs : s.size < 4294967281) (hm : w.cell? ⟨0, 0, none⟩ = some (.int .i64 m)) (h1 : 1 ≤ old.size) (hlen : s.size + Lib.countB s old * new.size ≤ 140737488355328) :
 Calls Tryz.prog 138 #[.string s, .string old, .string new] w fun e w' =>
  e = .returned (.string ⟨(Lib.replaceAll s.data.toList old.data.toList new.data.toList).toArray⟩) ∧ Below w.heap.size w w' := Any.strings_ReplaceAll Tryz.lays155 Tryz.Builder_Extra_155 s old new m w hs hm h1 hlen
end Go.Proofs
namespace Go.Proofs.YtckdkhhpjnefpaaGreatDoor
set_option maxHeartbeats 4000000
open Go Go.Eng Go.RowKit
theorem St.below {i : Imm} {L : SH} {w w' : World} (h : St i L w) (hb : Below w.heap.size w w') : St i L w' := by
 have lt : ∀ {b : Nat} {o : Obj}, w.heap[b]? = some o → b < w.heap.size := fun h => (Array.getElem?_eq_some_iff.1 h).1
 refine ⟨hb.os.trans h.os, hb.tape.trans h.tape, hb.output.trans h.output, fun b o ho => ?_, h.nodup, fun p hp => ?_, h.sep⟩
 · have := h.imm b o ho; rw [hb.block b (lt this)]; exact this
 · have := h.own p hp; rw [hb.block p.1 (lt this)]; exact this
theorem FnS.pure {P : Program} {g : FuncId} {args : List Value} {i : Imm} {L : SH} {v : Value} (h : ∀ w, Calls P g args.toArray w fun e w' => e = .returned v ∧ w' = w) : FnS P g args i L fun r i' L' => r = v ∧ i' = i ∧ L' = L :=
 fun w hw => (h w).mono fun e w' ⟨h1, h2⟩ => ⟨v, i, L, h1, Imm.le.refl i, by rw [h2]; exact hw, rfl, rfl, rfl⟩
theorem FnS.below {P : Program} {g : FuncId} {args : List Value} {i : Imm} {L : SH} {v : Value} (h : ∀ w, St i L w → Calls P g args.toArray w fun e w' => e = .returned v ∧ Below w.heap.size w w') : FnS P g args i L fun r i' L' => r = v ∧ i' = i ∧ L' = L :=
 fun w hw => (h w hw).mono fun e w' ⟨h1, h2⟩ => ⟨v, i, L, h1, Imm.le.refl i, St.below hw h2, rfl, rfl, rfl⟩
structure Glb (i : Imm) : Prop where
 maxLen : ∃ m cs t fz, i.blk 0 = some (.cells (List.toArray cs) t fz) ∧ cs[0]? = some (.int .i64 m)
 pow : ∀ L w, St i L w → Lib.TabIs Tryz.prog w "internal/strconv.uint64pow10" .u64 Lib.pow10Tab
theorem Glb.le {i i' : Imm} (h : Glb i) (hi : i.le i') : Glb i' := by
 obtain ⟨⟨m, cs, t, fz, h1, h2⟩, h3⟩ := h
 exact ⟨⟨m, cs, t, fz, hi.blk _ _ h1, h2⟩, fun L w hw => h3 L w (hw.weaken hi)⟩
theorem Glb.cell {i : Imm} (h : Glb i) : ∃ m, ∀ L w, St i L w → w.cell? ⟨0, 0, none⟩ = some (.int .i64 m) := by
 obtain ⟨m, cs, t, fz, h1, h2⟩ := h.maxLen
 exact ⟨m, fun L w hw => by rw [cell_at (hw.imm _ _ h1) 0]; exact h2⟩
theorem size_mk (l : List UInt8) : (ByteArray.mk l.toArray).size = l.length := by show l.toArray.size = _; simp
theorem HasPrefix_t (s p : ByteArray) (i : Imm) (L : SH) :
 FnS Tryz.prog 172 [.string s, .string p] i L fun r i' L' => ∃ b, r = .bool b ∧ (b = true → p.size ≤ s.size) ∧ i' = i ∧ L' = L := by
 refine (FnS.pure (v := .bool (Lib.hasPrefix s.data.toList p.data.toList)) fun w => Tryz.strings_HasPrefix s p w).mono ?_
 rintro r i' L' _ ⟨rfl, rfl, rfl⟩
 refine ⟨_, rfl, fun h => ?_, rfl, rfl⟩
 unfold Lib.hasPrefix at h
 have := (List.isPrefixOf_iff_prefix.1 h).length_le
 rw [Lib.size_eq, Lib.size_eq]; exact this
theorem HasSuffix_t (s p : ByteArray) (i : Imm) (L : SH) (hs : s.size ≤ 9223372036854775807) :
 FnS Tryz.prog 185 [.string s, .string p] i L fun r i' L' => ∃ b, r = .bool b ∧ (b = true → p.size ≤ s.size) ∧ i' = i ∧ L' = L := by
 refine (FnS.pure (v := .bool (Lib.hasSuffix s.data.toList p.data.toList)) fun w => Tryz.strings_HasSuffix s p w hs).mono ?_
 rintro r i' L' _ ⟨rfl, rfl, rfl⟩
 refine ⟨_, rfl, fun h => ?_, rfl, rfl⟩
 unfold Lib.hasSuffix at h
 have := (List.isSuffixOf_iff_suffix.1 h).length_le
 rw [Lib.size_eq, Lib.size_eq]; exact this
theorem TrimSuffix_t (s p : ByteArray) (i : Imm) (L : SH) (hs : s.size ≤ 9223372036854775807) :
 FnS Tryz.prog 344 [.string s, .string p] i L fun r i' L' => ∃ s', r = .string s' ∧ s'.size ≤ s.size ∧ i' = i ∧ L' = L := by
 refine (FnS.pure fun w => Tryz.strings_TrimSuffix s p w hs).mono ?_
 rintro r i' L' _ ⟨rfl, rfl, rfl⟩
 refine ⟨_, rfl, ?_, rfl, rfl⟩
 rw [size_mk, Lib.size_eq]
 unfold Lib.trimSuffix
 split
 · simp
 · exact Nat.le_refl _
theorem indexByte_lt : ∀ (l : List UInt8) (c : UInt8), -1 ≤ Lib.indexByte l c ∧ Lib.indexByte l c < l.length
 | [], c => by simp [Lib.indexByte]
 | b :: l, c => by
   have ih := indexByte_lt l c
   unfold Lib.indexByte
   rw [List.length_cons]
   split
   · omega
   · split
     · omega
     · omega
theorem IndexByte_t (s : ByteArray) (c : Int) (i : Imm) (L : SH) :
 FnS Tryz.prog 187 [.string s, .int .u8 c] i L fun r i' L' => ∃ x, r = .int .i64 x ∧ -1 ≤ x ∧ x < s.size ∧ i' = i ∧ L' = L := by
 refine (FnS.pure fun w => Tryz.strings_IndexByte s c w).mono ?_
 rintro r i' L' _ ⟨rfl, rfl, rfl⟩
 have := indexByte_lt s.data.toList c.toNat.toUInt8
 exact ⟨_, rfl, this.1, by rw [Lib.size_eq]; exact this.2, rfl, rfl⟩
theorem TrimLeft_t (s cs : ByteArray) (i : Imm) (L : SH) (hcs : cs.size < 4294967281) (hascii : cs.data.toList.all (fun b => decide (b.toNat < 128)) = true) :
 FnS Tryz.prog 190 [.string s, .string cs] i L fun r i' L' => ∃ s', r = .string s' ∧ s'.size ≤ s.size ∧ i' = i ∧ L' = L := by
 have ha : ∀ (j : Nat) b, cs.data.toList[j]? = some b → b.toNat < 128 := fun j b hb => by simpa using List.all_eq_true.1 hascii b (List.mem_of_getElem? hb)
 refine (FnS.below fun w _ => Any.strings_TrimLeft_laid Tryz.lays161 (by kernel_rfl) s cs w hcs ha).mono ?_
 rintro r i' L' _ ⟨rfl, rfl, rfl⟩
 refine ⟨_, rfl, ?_, rfl, rfl⟩
 rw [size_mk, Lib.size_eq]
 unfold Lib.trimLeftS
 exact (List.dropWhile_sublist _).length_le
theorem Itoa_t (n : Int) (i : Imm) (L : SH) (hg : Glb i) (h0 : -9223372036854775808 ≤ n) (h1 : n ≤ 9223372036854775807) :
 FnS Tryz.prog 245 [.int .i64 n] i L fun r i' L' => ∃ s', r = .string s' ∧ i' = i ∧ L' = L := by
 refine (FnS.below (v := .string ⟨(Lib.itoa n).toArray⟩) fun w hw => (Tryz.strconv_Itoa n h0 h1 w (hg.pow L w hw)).mono ?_).mono ?_
 · rintro e w' ⟨h2, k, os, rfl⟩
   refine ⟨h2, rfl, rfl, rfl, by show _ ≤ (w.heap ++ os).size; simp, fun b hb => ?_⟩
   show (w.heap ++ os)[b]? = _
   rw [Array.getElem?_append_left hb]
 · rintro r i' L' _ ⟨rfl, rfl, rfl⟩
   exact ⟨_, rfl, rfl, rfl⟩
theorem splitB_all (sep : ByteArray) (B : Nat) : ∀ (k : Nat) (s : ByteArray), s.size ≤ B → (∀ p ∈ Lib.splitB sep 0 k s, p.size ≤ B) ∧ 1 ≤ (Lib.splitB sep 0 k s).length ∧ (Lib.splitB sep 0 k s).length ≤ k + 1
 | 0, s, h => by
   rw [Lib.splitB_zero]
   exact ⟨fun p hp => by simp at hp; subst hp; exact h, by simp, by simp⟩
 | k + 1, s, h => by
   unfold Lib.splitB
   split
   · exact ⟨fun p hp => by simp at hp; subst hp; exact h, by simp, by simp⟩
   · have ih := splitB_all sep B k (s.extract ((Lib.indexB s sep).toNat + sep.size) s.size) (by rw [ByteArray.size_extract]; omega)
     refine ⟨fun p hp => ?_, by simp, by simp; omega⟩
     rcases List.mem_cons.1 hp with rfl | hp
     · rw [ByteArray.size_extract]; omega
     · exact ih.1 p hp
theorem Split_t (B : Nat) (s sep : ByteArray) (i : Imm) (L : SH) (hg : Glb i) (hs : s.size < 4294967281) (h1 : 1 ≤ sep.size) (hB : s.size ≤ B) :
 FnS Tryz.prog 169 [.string s, .string sep] i L fun r i' L' => (∃ ao ss, r = .slice ao ss.length ss.length ∧ Sl i' r 1 ss.length (strs ss) ∧ (∀ p ∈ ss, p.size ≤ B) ∧ 1 ≤ ss.length ∧ ss.length ≤ s.size + 1) ∧ L' = L := by
 obtain ⟨m, hm⟩ := hg.cell
 intro w hw
 refine (Tryz.strings_Split s sep m w hs (hm L w hw) h1).mono ?_
 rintro e w' ⟨h2, rfl⟩
 have hle := Lib.countB_le sep h1 s.size s (Nat.le_refl _)
 obtain ⟨k1, k2, k3⟩ := splitB_all sep B (Lib.countB s sep) s hB
 have hlen : (Lib.splitB sep 0 (Lib.countB s sep) s).length = Lib.countB s sep + 1 := Lib.splitB_all sep h1 0 _ s rfl
 have hst : St i ((w.heap.size, .cells ((Lib.splitB sep 0 (Lib.countB s sep) s).map Value.string).toArray 9 (0, 0)) :: L) (w.alloc (.cells ((Lib.splitB sep 0 (Lib.countB s sep) s).map Value.string).toArray 9)) := St.push hw rfl rfl rfl rfl
 obtain ⟨h3, h4⟩ := hst.freeze
 refine ⟨_, _, L, h2, h3, h4, ⟨some ⟨w.heap.size, 0, none⟩, Lib.splitB sep 0 (Lib.countB s sep) s, by rw [hlen], ?_, k1, k2, by omega⟩, rfl⟩
 rw [← hlen]
 exact ⟨_, _, rfl, by simp [strs], .inr ⟨w.heap.size, 0, strs (Lib.splitB sep 0 (Lib.countB s sep) s), 9, (0, 0), rfl, by simp [Imm.add, strs], fun j _ => by rw [Nat.zero_add]⟩⟩
theorem replaceK_le (old new : List UInt8) : ∀ (k : Nat) (s : List UInt8), (Lib.replaceK old new k s).length ≤ s.length + k * new.length
 | 0, s => by simp [Lib.replaceK]
 | k + 1, s => by
   unfold Lib.replaceK
   split
   · rw [Nat.add_mul]; omega
   · rename_i hne
     have h0 : 0 ≤ Lib.index s old := by
      have := Lib.index_ge s old
      have h1 : Lib.index s old ≠ -1 := fun e => hne (by simp [e])
      omega
     have hr := Lib.index_room s old h0
     have ih := replaceK_le old new k (s.drop ((Lib.index s old).toNat + old.length))
     simp only [List.length_append, List.length_take, List.length_drop] at *
     rw [Nat.add_mul, Nat.one_mul]
     omega
theorem ReplaceAll_t (s old new : ByteArray) (i : Imm) (L : SH) (hg : Glb i) (hs : s.size ≤ 1048576) (h1 : 1 ≤ old.size) (h2 : new.size ≤ 1024) :
 FnS Tryz.prog 138 [.string s, .string old, .string new] i L fun r i' L' => ∃ s', r = .string s' ∧ s'.size ≤ s.size + (s.size + 1) * new.size ∧ i' = i ∧ L' = L := by
 obtain ⟨m, hm⟩ := hg.cell
 have hle := Lib.countB_le old h1 s.size s (Nat.le_refl _)
 have hmul : Lib.countB s old * new.size ≤ 1048576 * 1024 := Nat.mul_le_mul (by omega) h2
 refine (FnS.below fun w hw => Tryz.strings_ReplaceAll s old new m w (by omega) (hm L w hw) h1 (by omega)).mono ?_
 rintro r i' L' _ ⟨rfl, rfl, rfl⟩
 refine ⟨_, rfl, ?_, rfl, rfl⟩
 rw [size_mk, Lib.size_eq s, Lib.size_eq new]
 unfold Lib.replaceAll Lib.replace
 split
 · omega
 · refine Nat.le_trans (replaceK_le _ _ _ _) (Nat.add_le_add_left (Nat.mul_le_mul_right _ ?_) _)
   unfold Lib.replaceNum
   rw [if_pos (.inl (by omega))]
   exact Lib.count_le _ _
end Go.Proofs.YtckdkhhpjnefpaaGreatDoor
namespace Go.Proofs.YtckdkhhpjnefpaaGreatDoor
set_option maxHeartbeats 4000000
open Go Go.Eng
def YN (v : Value) (i i' : Imm) (L L' : SH) : Prop := ∃ b, v = .bool b ∧ i' = i ∧ L' = L
abbrev shortT (s : ByteArray) : Prop := s.size ≤ 4294967280
theorem in_t (s set : ByteArray) (i : Imm) (L : SH) (hs : shortT s) :
 FnS Tryz.prog 139 [.string s, .string set] i L fun v i' L' => YN v i i' L L' := by
 refine FnS.intro1 Tryz.func139 rfl Tryz.ntmps139 (by simp) Tryz.results139 ?_
 repeat' (first | refine RS.pv (PV.all tab_ok rfl) rfl ?_ | refine CS.seq ?_ | refine thenQ.normal ?_ | refine CS.block ?_ | refine CS.region (id := 0) ?_ | refine CS.region (id := 1) ?_ | refine RS.nil ?_)
 refine CS.loop [0, 1, 5] (fun m vs i' L' => ∃ k : Nat, m = s.size - k ∧ k ≤ s.size ∧ vs = [.string s, .string set, .int .i64 (k : Int)] ∧ i' = i ∧ L' = L) s.size ⟨0, rfl, Nat.zero_le _, rfl, rfl, rfl⟩ ?_
 rintro m g vs i' L' hi ⟨k, rfl, hk, rfl, rfl, rfl⟩
 repeat' (first | refine RS.pv (PV.all tab_ok rfl) rfl ?_ | refine CS.seq ?_ | refine thenQ.normal ?_ | refine CS.cond_true rfl ?_ | refine CS.cond_false rfl ?_ | refine CS.skip ?_ | refine CS.ret ?_ | refine thenQ.ret ?_ | refine blkQ.ret ?_ | refine retQ.ret ?_ | refine CS.block ?_ | refine CS.exit ?_ | refine thenQ.exit ?_ | refine blkQ.normal ?_ | refine blkQ.here ?_ | refine CS.region ?_ | refine RS.pv (PV.lenT tab_ok rfl rfl) rfl ?_ | refine RS.ifLss rfl rfl rfl (fun h => ?_) (fun h => ?_) | refine RS.pv (PV.add rfl rfl (by omega)) rfl ?_ | refine RS.idxT tab_ok rfl rfl rfl rfl (by omega) (fun c hc0 hc1 => ?_) | (refine RS.call (IndexByte_t _ _ _ _) rfl (by kernel_rfl) rfl ?_; rintro _ _ _ - ⟨x, rfl, hx0, hx1, rfl, rfl⟩) | refine RS.nil ?_)
 · exact ⟨_, rfl, rfl, rfl⟩
 · exact ⟨s.size - (k + 1), by omega, k + 1, rfl, by omega, rfl, rfl, rfl⟩
 · exact ⟨_, rfl, rfl, rfl⟩
theorem Printable_t (s : ByteArray) (i : Imm) (L : SH) (hs : shortT s) :
 FnS Tryz.prog 167 [.string s] i L fun v i' L' => YN v i i' L L' := by
 refine FnS.intro1 Tryz.func167 rfl Tryz.ntmps167 (by simp) Tryz.results167 ?_
 repeat' (first | refine RS.pv (PV.all tab_ok rfl) rfl ?_ | refine CS.seq ?_ | refine thenQ.normal ?_ | refine CS.block ?_ | refine CS.region (id := 0) ?_ | refine CS.region (id := 1) ?_ | refine RS.nil ?_)
 refine CS.loop [0, 3] (fun m vs i' L' => ∃ k : Nat, m = s.size - k ∧ k ≤ s.size ∧ vs = [.string s, .int .i64 (k : Int)] ∧ i' = i ∧ L' = L) s.size ⟨0, rfl, Nat.zero_le _, rfl, rfl, rfl⟩ ?_
 rintro m g vs i' L' hi ⟨k, rfl, hk, rfl, rfl, rfl⟩
 repeat' (first | refine RS.pv (PV.all tab_ok rfl) rfl ?_ | refine CS.seq ?_ | refine thenQ.normal ?_ | refine CS.cond_true rfl ?_ | refine CS.cond_false rfl ?_ | refine CS.skip ?_ | refine CS.ret ?_ | refine thenQ.ret ?_ | refine blkQ.ret ?_ | refine retQ.ret ?_ | refine CS.block ?_ | refine CS.exit ?_ | refine thenQ.exit ?_ | refine blkQ.normal ?_ | refine blkQ.here ?_ | refine CS.region ?_ | refine RS.pv (PV.lenT tab_ok rfl rfl) rfl ?_ | refine RS.ifLss rfl rfl rfl (fun h => ?_) (fun h => ?_) | refine RS.pv (PV.add rfl rfl (by omega)) rfl ?_ | refine RS.idxT tab_ok rfl rfl rfl rfl (by omega) (fun c hc0 hc1 => ?_) | refine RS.ifGtr rfl rfl rfl (fun h => ?_) (fun h => ?_) | refine RS.nil ?_ | refine RS.skip rfl ?_)
 all_goals first | exact ⟨_, rfl, rfl, rfl⟩ | exact ⟨s.size - (k + 1), by omega, k + 1, rfl, by omega, rfl, rfl, rfl⟩
theorem Valid_t (s : ByteArray) (i : Imm) (L : SH) (hs : shortT s) :
 FnS Tryz.prog 113 [.string s] i L fun v i' L' => YN v i i' L L' := by
 refine FnS.intro1 Tryz.func113 rfl Tryz.ntmps113 (by simp) Tryz.results113 ?_
 repeat' (first | refine RS.pv (PV.all tab_ok rfl) rfl ?_ | refine CS.seq ?_ | refine thenQ.normal ?_ | refine CS.ret ?_ | refine retQ.ret ?_ | refine CS.region ?_ | refine RS.ifSneq rfl rfl rfl (fun h => ?_) (fun h => ?_) | refine RS.pv (PV.lenT tab_ok rfl rfl) rfl ?_ | refine RS.ifLeq rfl rfl rfl (fun h => ?_) (fun h => ?_) | (refine RS.callY _ (in_t _ _ _ _ (by first | omega | decide)) rfl (by kernel_rfl) rfl ?_ ?_ <;> rintro _ _ - ⟨rfl, rfl⟩) | refine RS.nil ?_ | refine RS.skip rfl ?_)
 all_goals exact ⟨_, rfl, rfl, rfl⟩
theorem Text_t (s : ByteArray) (i : Imm) (L : SH) (hs : shortT s) :
 FnS Tryz.prog 114 [.string s] i L fun v i' L' => YN v i i' L L' := by
 refine FnS.intro1 Tryz.func114 rfl Tryz.ntmps114 (by simp) Tryz.results114 ?_
 repeat' (first | refine RS.pv (PV.all tab_ok rfl) rfl ?_ | refine CS.seq ?_ | refine thenQ.normal ?_ | refine CS.ret ?_ | refine retQ.ret ?_ | refine CS.region ?_ | (refine RS.callY _ (Printable_t _ _ _ hs) rfl (by kernel_rfl) rfl ?_ ?_ <;> rintro _ _ - ⟨rfl, rfl⟩) | refine RS.pv (PV.lenT tab_ok rfl rfl) rfl ?_ | refine RS.ifLeq rfl rfl rfl (fun h => ?_) (fun h => ?_) | refine RS.nil ?_ | refine RS.skip rfl ?_)
 all_goals exact ⟨_, rfl, rfl, rfl⟩
theorem ne_size {s : ByteArray} (h : s.toList ≠ (ByteArray.mk #[]).toList) : 0 < s.size := by
 rcases Nat.eq_zero_or_pos s.size with h0 | h0
 · obtain ⟨⟨l⟩⟩ := s
   have : l = [] := List.eq_nil_of_length_eq_zero h0
   subst this
   exact absurd rfl h
 · exact h0
theorem Key_t (s : ByteArray) (i : Imm) (L : SH) (hs : shortT s) :
 FnS Tryz.prog 93 [.string s] i L fun v i' L' => YN v i i' L L' := by
 refine FnS.intro1 Tryz.func93 rfl Tryz.ntmps93 (by simp) Tryz.results93 ?_
 repeat' (first | refine RS.pv (PV.all tab_ok rfl) rfl ?_ | refine CS.seq ?_ | refine thenQ.normal ?_ | refine CS.ret ?_ | refine retQ.ret ?_ | refine CS.region ?_ | refine RS.ifSneq rfl rfl rfl (fun h => ?_) (fun h => ?_) | refine RS.pv (PV.lenT tab_ok rfl rfl) rfl ?_ | refine RS.ifLeq rfl rfl rfl (fun h => ?_) (fun h => ?_) | (refine RS.callY _ (in_t _ _ _ _ (by first | omega | decide)) rfl (by kernel_rfl) rfl ?_ ?_ <;> rintro _ _ - ⟨rfl, rfl⟩) | refine RS.cutHi tab_ok rfl rfl rfl rfl (by have := ne_size ‹_›; omega) (fun s' hs' => ?_) | refine RS.nil ?_ | refine RS.skip rfl ?_)
 all_goals exact ⟨_, rfl, rfl, rfl⟩
def shortL (B : Nat) (ss : List ByteArray) : Prop := ∀ s ∈ ss, s.size ≤ B
theorem names_t (v : Value) (ss : List ByteArray) (i : Imm) (L : SH) (hv : Sl i v 1 ss.length (strs ss)) (hB : shortL 4294967280 ss) (hn : ss.length ≤ 4294967280) :
 FnS Tryz.prog 189 [v] i L fun v i' L' => YN v i i' L L' := by
 obtain ⟨ao, cap, hva, _⟩ := id hv
 subst hva
 refine FnS.intro1 Tryz.func189 rfl Tryz.ntmps189 (by simp) Tryz.results189 ?_
 repeat' (first | refine RS.pv (PV.all tab_ok rfl) rfl ?_ | refine CS.seq ?_ | refine thenQ.normal ?_ | refine CS.block ?_ | refine CS.region (id := 0) ?_ | refine CS.region (id := 1) ?_ | refine RS.nil ?_)
 refine CS.loop [0, 3] (fun m vs i' L' => ∃ k : Nat, m = ss.length - k ∧ k ≤ ss.length ∧ vs = [.slice ao ss.length cap, .int .i64 (k : Int)] ∧ i' = i ∧ L' = L) ss.length ⟨0, rfl, Nat.zero_le _, rfl, rfl, rfl⟩ ?_
 rintro m g vs i' L' hi ⟨k, rfl, hk, rfl, rfl, rfl⟩
 by_cases hlt : k < ss.length
 · obtain ⟨b1, o1, c1, t1, z1, p1, e1, g1, h1⟩ := hv.at hlt (by omega)
   cases e1
   obtain ⟨x, hx⟩ : ∃ x, ss[k]? = some x := ⟨_, List.getElem?_eq_getElem hlt⟩
   have q1 := h1 0 (by omega)
   rw [strs_at, hx] at q1
   have hxs := hB x (List.mem_of_getElem? hx)
   repeat' (first | refine RS.pv (PV.all tab_ok rfl) rfl ?_ | refine CS.seq ?_ | refine thenQ.normal ?_ | refine CS.cond_true rfl ?_ | refine CS.cond_false rfl ?_ | refine CS.skip ?_ | refine CS.ret ?_ | refine thenQ.ret ?_ | refine blkQ.ret ?_ | refine retQ.ret ?_ | refine CS.block ?_ | refine blkQ.normal ?_ | refine CS.region ?_ | refine RS.pv (PV.lenS tab_ok rfl rfl) rfl ?_ | refine RS.pv (PV.lssT rfl rfl (by omega)) rfl ?_ | refine RS.pv (PV.add rfl rfl (by omega)) rfl ?_ | refine RS.pv (PV.indexAddr tab_ok rfl rfl rfl (by omega)) rfl ?_ | refine RS.lv (LV.load1 tab_ok rfl (Has.imm g1) rfl q1) rfl ?_ | (refine RS.callY _ (Valid_t _ _ _ (by first | omega | assumption)) rfl (by kernel_rfl) rfl ?_ ?_ <;> rintro _ _ - ⟨rfl, rfl⟩) | refine RS.nil ?_)
   all_goals first | exact ⟨_, rfl, rfl, rfl⟩ | exact ⟨ss.length - (k + 1), by omega, k + 1, rfl, by omega, rfl, rfl, rfl⟩
 · repeat' (first | refine RS.pv (PV.all tab_ok rfl) rfl ?_ | refine CS.seq ?_ | refine thenQ.normal ?_ | refine CS.cond_false rfl ?_ | refine CS.ret ?_ | refine retQ.ret ?_ | refine CS.exit ?_ | refine thenQ.exit ?_ | refine blkQ.here ?_ | refine CS.region (id := 2) ?_ | refine CS.region (id := 6) ?_ | refine RS.pv (PV.lenS tab_ok rfl rfl) rfl ?_ | refine RS.pv (PV.lssF rfl rfl (by omega)) rfl ?_ | refine RS.ifLeq rfl rfl rfl (fun h => ?_) (fun h => ?_) | refine RS.nil ?_)
   all_goals exact ⟨_, rfl, rfl, rfl⟩
end Go.Proofs.YtckdkhhpjnefpaaGreatDoor
namespace Go.Proofs.YtckdkhhpjnefpaaGreatDoor
set_option maxHeartbeats 4000000
open Go Go.Eng
theorem YN.drop {P : Program} {g : FuncId} {args : List Value} {i : Imm} {L : SH} {R : Bool → Prop} (h : FnS P g args i L fun v i' L' => ∃ G b, v = .bool b ∧ R b ∧ i' = i ∧ L' = G ++ L) : FnS P g args i L fun v i' L' => ∃ b, v = .bool b ∧ R b ∧ i' = i ∧ L' = L := by
 refine FnS.state h ?_
 rintro v i' L' w _ hs ⟨G, b, h1, h2, h3, rfl⟩
 exact ⟨i', L, Imm.le.refl i', hs.dropL, b, h1, h2, h3, rfl⟩
theorem YN.of {P : Program} {g : FuncId} {args : List Value} {i : Imm} {L : SH} {R : Bool → Prop} (h : FnS P g args i L fun v i' L' => ∃ b, v = .bool b ∧ R b ∧ i' = i ∧ L' = L) : FnS P g args i L fun v i' L' => YN v i i' L L' :=
 h.mono fun _ _ _ _ ⟨b, h1, _, h3, h4⟩ => ⟨b, h1, h3, h4⟩
theorem Match_t (t : Term) (i : Imm) (L : SH) :
 FnS Tryz.prog 178 [.agg (termC t).toArray] i L fun v i' L' => ∃ b, v = .bool b ∧ (b = true → 1 ≤ t.op ∧ t.op ≤ 2) ∧ i' = i ∧ L' = L := by
 refine YN.drop (R := fun b => b = true → 1 ≤ t.op ∧ t.op ≤ 2) ?_
 refine FnS.intro1 Tryz.func178 rfl Tryz.ntmps178 (by simp) Tryz.results178 ?_
 repeat' (first | refine RS.pv (PV.all tab_ok rfl) rfl ?_ | refine CS.seq ?_ | refine thenQ.normal ?_ | refine CS.ret ?_ | refine retQ.ret ?_ | refine CS.region ?_ | refine RS.box rfl rfl (fun b => ?_) | refine RS.lv (LV.load tab_ok rfl (Has.own 0 rfl) rfl) rfl ?_ | refine RS.ifEql rfl rfl rfl (fun h => ?_) (fun h => ?_) | refine RS.nil ?_ | refine RS.skip rfl ?_)
 · exact ⟨[_], _, rfl, fun _ => by omega, rfl, rfl⟩
 · exact ⟨[_], _, rfl, fun _ => by omega, rfl, rfl⟩
 · exact ⟨[_], _, rfl, (fun h => by cases h), rfl, rfl⟩
theorem named_t (t : Term) (i : Imm) (L : SH) (hs : shortT t.name) :
 FnS Tryz.prog 134 [.agg (termC t).toArray] i L fun v i' L' => YN v i i' L L' := by
 refine YN.of (R := fun _ => True) (YN.drop ?_)
 refine FnS.intro1 Tryz.func134 rfl Tryz.ntmps134 (by simp) Tryz.results134 ?_
 repeat' (first | refine RS.pv (PV.all tab_ok rfl) rfl ?_ | refine CS.seq ?_ | refine thenQ.normal ?_ | refine CS.cond_true rfl ?_ | refine CS.cond_false rfl ?_ | refine CS.skip ?_ | refine CS.ret ?_ | refine thenQ.ret ?_ | refine blkQ.ret ?_ | refine retQ.ret ?_ | refine CS.block ?_ | refine blkQ.normal ?_ | refine CS.region ?_ | refine RS.box rfl rfl (fun b => ?_) | refine RS.lv (LV.load tab_ok rfl (Has.own 0 rfl) rfl) rfl ?_ | refine RS.ifEql rfl rfl rfl (fun h => ?_) (fun h => ?_) | (refine RS.callY _ (Valid_t _ _ _ (by first | omega | assumption)) rfl (by kernel_rfl) rfl ?_ ?_ <;> rintro _ _ - ⟨rfl, rfl⟩) | (refine RS.callY _ (Key_t _ _ _ (by first | omega | assumption)) rfl (by kernel_rfl) rfl ?_ ?_ <;> rintro _ _ - ⟨rfl, rfl⟩) | refine RS.ifSeql rfl rfl rfl (fun h => ?_) (fun h => ?_) | refine RS.nil ?_ | refine RS.skip rfl ?_)
 all_goals exact ⟨[_], _, rfl, trivial, rfl, rfl⟩
theorem allowed_t (t : Term) (i : Imm) (L : SH) :
 FnS Tryz.prog 135 [.agg (termC t).toArray] i L fun v i' L' => ∃ b, v = .bool b ∧ (b = true → 1 ≤ t.op ∧ t.op ≤ 6) ∧ i' = i ∧ L' = L := by
 refine YN.drop (R := fun b => b = true → 1 ≤ t.op ∧ t.op ≤ 6) ?_
 refine FnS.intro1 Tryz.func135 rfl Tryz.ntmps135 (by simp) Tryz.results135 ?_
 repeat' (first | refine RS.pv (PV.all tab_ok rfl) rfl ?_ | refine CS.seq ?_ | refine thenQ.normal ?_ | refine CS.cond_true rfl ?_ | refine CS.cond_false rfl ?_ | refine CS.skip ?_ | refine CS.ret ?_ | refine thenQ.ret ?_ | refine blkQ.ret ?_ | refine retQ.ret ?_ | refine CS.block ?_ | refine blkQ.normal ?_ | refine CS.region ?_ | refine RS.box rfl rfl (fun b => ?_) | refine RS.lv (LV.load tab_ok rfl (Has.own 0 rfl) rfl) rfl ?_ | (refine RS.callY _ (Match_t t _ _) rfl (by kernel_rfl) rfl ?_ ?_ <;> rintro _ _ - ⟨hmm, rfl, rfl⟩) | refine RS.ifLeq rfl rfl rfl (fun h => ?_) (fun h => ?_) | refine RS.ifEql rfl rfl rfl (fun h => ?_) (fun h => ?_) | refine RS.ifGeq rfl rfl rfl (fun h => ?_) (fun h => ?_) | refine RS.nil ?_ | refine RS.skip rfl ?_)
 all_goals first | exact ⟨[_], _, rfl, (fun (h : false = true) => Bool.noConfusion h), rfl, rfl⟩ | exact ⟨[_], _, rfl, (fun (_ : true = true) => by first | omega | (have := hmm rfl; omega)), rfl, rfl⟩
theorem Priority_t (s : ByteArray) (i : Imm) (L : SH) (hg : Glb i) :
 FnS Tryz.prog 180 [.string s] i L fun v i' L' => ∃ x b, v = .tuple #[.int .i64 x, .bool b] ∧ i' = i ∧ L' = L := by
 refine FnS.intro2 Tryz.func180 rfl Tryz.ntmps180 (by simp) Tryz.results180 ?_
 repeat' (first | refine RS.pv (PV.all tab_ok rfl) rfl ?_ | refine CS.seq ?_ | refine thenQ.normal ?_ | refine CS.block ?_ | refine CS.region (id := 0) ?_ | refine CS.region (id := 1) ?_ | refine RS.nil ?_)
 refine CS.loop [0, 4] (fun m vs i' L' => ∃ k : Int, m = (1001 - k).toNat ∧ -1000 ≤ k ∧ k ≤ 1001 ∧ vs = [.string s, .int .i64 k] ∧ i' = i ∧ L' = L) 2001 ⟨-1000, rfl, by omega, by omega, rfl, rfl, rfl⟩ ?_
 rintro m g vs i' L' hi ⟨k, rfl, hk, hk2, rfl, rfl, rfl⟩
 repeat' (first | refine RS.pv (PV.all tab_ok rfl) rfl ?_ | refine CS.seq ?_ | refine thenQ.normal ?_ | refine CS.cond_true rfl ?_ | refine CS.cond_false rfl ?_ | refine CS.skip ?_ | refine CS.ret ?_ | refine thenQ.ret ?_ | refine blkQ.ret ?_ | refine retQ.ret ?_ | refine CS.block ?_ | refine CS.exit ?_ | refine thenQ.exit ?_ | refine blkQ.normal ?_ | refine blkQ.here ?_ | refine CS.region ?_ | refine RS.ifLeq rfl rfl rfl (fun h => ?_) (fun h => ?_) | refine RS.pv (PV.add rfl rfl (by omega)) rfl ?_ | (refine RS.call (Itoa_t _ _ _ hg (by omega) (by omega)) rfl (by kernel_rfl) rfl ?_; rintro _ _ _ - ⟨s', rfl, rfl, rfl⟩) | refine RS.ifSeql rfl rfl rfl (fun h => ?_) (fun h => ?_) | refine RS.nil ?_)
 all_goals first | exact ⟨_, _, rfl, rfl, rfl⟩ | exact ⟨(1001 - (k + 1)).toNat, by omega, k + 1, rfl, by omega, by omega, rfl, rfl, rfl⟩
theorem split_at {α : Type} {l : List α} {k : Nat} {x : α} (h : l[k]? = some x) : ∃ A B, l = A ++ x :: B ∧ A.length = k := by
 obtain ⟨hk, rfl⟩ := List.getElem?_eq_some_iff.1 h
 exact ⟨l.take k, l.drop (k + 1), by rw [← List.drop_eq_getElem_cons hk, List.take_append_drop], by simp; omega⟩
theorem terms_at {l : List Term} {k : Nat} {t : Term} (h : l[k]? = some t) (d : Nat) (hd : d < 4) : (terms l)[k * 4 + d]? = (termC t)[d]? := by
 obtain ⟨A, B, rfl, rfl⟩ := split_at h
 have e : terms (A ++ t :: B) = terms A ++ (termC t ++ terms B) := by simp [terms]
 rw [e, List.getElem?_append_right (by rw [terms_len]; omega), terms_len, Nat.add_sub_cancel_left, List.getElem?_append_left (by simpa [termC] using hd)]
theorem Value_t (v : Value) (key : Int) (ts : List Term) (B : Nat) (i : Imm) (L : SH) (hv : Sl i v 4 ts.length (terms ts)) (hB : smallL B ts) (hn : ts.length ≤ 4294967280) :
 FnS Tryz.prog 145 [v, .int .i64 key] i L fun v i' L' => ∃ s b, v = .tuple #[.string s, .bool b] ∧ s.size ≤ B ∧ i' = i ∧ L' = L := by
 obtain ⟨ao, cap, hva, _⟩ := id hv
 subst hva
 refine FnS.intro2 Tryz.func145 rfl Tryz.ntmps145 (by simp) Tryz.results145 ?_
 repeat' (first | refine RS.pv (PV.all tab_ok rfl) rfl ?_ | refine CS.seq ?_ | refine thenQ.normal ?_ | refine CS.block ?_ | refine CS.region (id := 0) ?_ | refine CS.region (id := 1) ?_ | refine RS.nil ?_)
 refine CS.loop [0, 1, 6] (fun m vs i' L' => ∃ k : Nat, m = ts.length - k ∧ k ≤ ts.length ∧ vs = [.slice ao ts.length cap, .int .i64 key, .int .i64 (k : Int)] ∧ i' = i ∧ L' = L) ts.length ⟨0, rfl, Nat.zero_le _, rfl, rfl, rfl⟩ ?_
 rintro m g vs i' L' hi ⟨k, rfl, hk, rfl, rfl, rfl⟩
 by_cases hlt : k < ts.length
 · obtain ⟨b1, o1, c1, t1, z1, p1, e1, g1, h1⟩ := hv.at hlt (by omega)
   cases e1
   obtain ⟨x, hx⟩ : ∃ x, ts[k]? = some x := ⟨_, List.getElem?_eq_getElem hlt⟩
   have q0 := (h1 0 (by omega)).trans (terms_at hx 0 (by omega))
   have q3 := (h1 3 (by omega)).trans (terms_at hx 3 (by omega))
   have hxs := hB x (List.mem_of_getElem? hx)
   repeat' (first | refine RS.pv (PV.all tab_ok rfl) rfl ?_ | refine CS.seq ?_ | refine thenQ.normal ?_ | refine CS.cond_true rfl ?_ | refine CS.cond_false rfl ?_ | refine CS.skip ?_ | refine CS.ret ?_ | refine thenQ.ret ?_ | refine blkQ.ret ?_ | refine retQ.ret ?_ | refine CS.block ?_ | refine blkQ.normal ?_ | refine CS.region ?_ | refine RS.pv (PV.lenS tab_ok rfl rfl) rfl ?_ | refine RS.pv (PV.lssT rfl rfl (by omega)) rfl ?_ | refine RS.pv (PV.add rfl rfl (by omega)) rfl ?_ | refine RS.pv (PV.indexAddr tab_ok rfl rfl rfl (by omega)) rfl ?_ | refine RS.lv (LV.load1 tab_ok rfl (Has.imm g1) rfl q0) rfl ?_ | refine RS.ifEql rfl rfl rfl (fun h => ?_) (fun h => ?_) | refine RS.lv (LV.load1 tab_ok rfl (Has.imm g1) rfl q3) rfl ?_ | refine RS.nil ?_)
   all_goals first | exact ⟨_, _, rfl, hxs.2, rfl, rfl⟩ | exact ⟨ts.length - (k + 1), by omega, k + 1, rfl, by omega, rfl, rfl, rfl⟩
 · repeat' (first | refine RS.pv (PV.all tab_ok rfl) rfl ?_ | refine CS.seq ?_ | refine thenQ.normal ?_ | refine CS.cond_false rfl ?_ | refine CS.ret ?_ | refine retQ.ret ?_ | refine CS.exit ?_ | refine thenQ.exit ?_ | refine blkQ.here ?_ | refine CS.region (id := 2) ?_ | refine CS.region (id := 6) ?_ | refine RS.pv (PV.lenS tab_ok rfl rfl) rfl ?_ | refine RS.pv (PV.lssF rfl rfl (by omega)) rfl ?_ | refine RS.nil ?_)
   all_goals exact ⟨_, _, rfl, Nat.zero_le _, rfl, rfl⟩
end Go.Proofs.YtckdkhhpjnefpaaGreatDoor
namespace Go.Proofs.YtckdkhhpjnefpaaGreatDoor
set_option maxHeartbeats 4000000
open Go Go.Eng
theorem Sl.strs {i : Imm} {v : Value} {n : Nat} {cs : List Value} (h : Sl i v 1 n cs) (hc : strs (unstr cs) = cs) : Sl i v 1 n (strs (unstr cs)) := by rw [hc]; exact h
theorem words_t (i : Imm) (L : SH) :
 FnS Tryz.prog 322 [] i L fun v i' L' => (∃ b ss, v = .slice (some ⟨b, 0, none⟩) 12 12 ∧ Sl i' v 1 12 (strs ss) ∧ ss.length = 12) ∧ L' = L := by
 refine FnS.intro1 Tryz.func322 rfl Tryz.ntmps322 (by simp) Tryz.results322 ?_
 repeat' (first | refine RS.pv (PV.all tab_ok rfl) rfl ?_ | refine CS.seq ?_ | refine thenQ.normal ?_ | refine CS.ret ?_ | refine retQ.ret ?_ | refine CS.region ?_ | refine RS.buildSliceF tab_ok 1 rfl rfl rfl (fun b i' hi' hs => ?_) | refine RS.nil ?_)
 exact ⟨⟨b, _, rfl, Sl.strs hs rfl, rfl⟩, rfl⟩
theorem kind_t (s : ByteArray) (i : Imm) (L : SH) :
 FnS Tryz.prog 293 [.string s] i L fun v i' L' => (∃ x, v = .int .i64 x ∧ 0 ≤ x ∧ x < 12) ∧ L' = L := by
 refine FnS.intro1 Tryz.func293 rfl Tryz.ntmps293 (by simp) Tryz.results293 ?_
 repeat' (first | refine CS.seq ?_ | refine thenQ.normal ?_ | (refine CS.region (id := 0) ?_; refine RS.pv (PV.all tab_ok rfl) rfl ?_; refine RS.nil ?_))
 refine CS.region (id := 1) ?_
 refine RS.call (words_t _ _) rfl (by kernel_rfl) rfl ?_
 rintro v i1 L hi1 ⟨⟨b, ss, rfl, hs, hl⟩, rfl⟩
 refine RS.pv (PV.all tab_ok rfl) rfl ?_
 refine RS.nil ?_
 repeat' (first | refine RS.pv (PV.all tab_ok rfl) rfl ?_ | refine CS.seq ?_ | refine thenQ.normal ?_ | refine CS.block ?_ | refine CS.region (id := 2) ?_ | refine RS.nil ?_)
 refine CS.loop [0, 3, 4] (fun m vs i' L' => ∃ k : Nat, m = 12 - k ∧ 2 ≤ k ∧ k ≤ 12 ∧ vs = [.string s, .slice (some ⟨b, 0, none⟩) 12 12, .int .i64 (k : Int)] ∧ i' = i1 ∧ L' = L) 10 ⟨2, rfl, by omega, by omega, rfl, rfl, rfl⟩ ?_
 rintro m g vs i' L' hi ⟨k, rfl, hk2, hk, rfl, rfl, rfl⟩
 by_cases hlt : k < 12
 · obtain ⟨b1, o1, c1, t1, z1, p1, e1, g1, h1⟩ := hs.at hlt (by omega)
   cases e1
   obtain ⟨x, hx⟩ : ∃ x, ss[k]? = some x := ⟨_, List.getElem?_eq_getElem (by omega)⟩
   have q1 := h1 0 (by omega)
   rw [strs_at, hx] at q1
   repeat' (first | refine RS.pv (PV.all tab_ok rfl) rfl ?_ | refine CS.seq ?_ | refine thenQ.normal ?_ | refine CS.cond_true rfl ?_ | refine CS.cond_false rfl ?_ | refine CS.skip ?_ | refine CS.ret ?_ | refine thenQ.ret ?_ | refine blkQ.ret ?_ | refine retQ.ret ?_ | refine CS.block ?_ | refine blkQ.normal ?_ | refine CS.region ?_ | refine RS.pv (PV.lenS tab_ok rfl rfl) rfl ?_ | refine RS.pv (PV.lssT rfl rfl (by omega)) rfl ?_ | refine RS.pv (PV.add rfl rfl (by omega)) rfl ?_ | refine RS.pv (PV.indexAddr tab_ok rfl rfl rfl (by omega)) rfl ?_ | refine RS.lv (LV.load1 tab_ok rfl (Has.imm g1) rfl q1) rfl ?_ | refine RS.ifSeql rfl rfl rfl (fun h => ?_) (fun h => ?_) | refine RS.nil ?_)
   all_goals first | exact ⟨⟨_, rfl, by omega, by omega⟩, rfl⟩ | exact ⟨12 - (k + 1), by omega, k + 1, rfl, by omega, by omega, rfl, rfl, rfl⟩
 · repeat' (first | refine RS.pv (PV.all tab_ok rfl) rfl ?_ | refine CS.seq ?_ | refine thenQ.normal ?_ | refine CS.cond_false rfl ?_ | refine CS.ret ?_ | refine retQ.ret ?_ | refine CS.exit ?_ | refine thenQ.exit ?_ | refine blkQ.here ?_ | refine CS.region (id := 3) ?_ | refine CS.region (id := 7) ?_ | refine RS.pv (PV.lenS tab_ok rfl rfl) rfl ?_ | refine RS.pv (PV.lssF rfl rfl (by omega)) rfl ?_ | refine RS.nil ?_)
   all_goals exact ⟨⟨_, rfl, by omega, by omega⟩, rfl⟩
theorem IndexByte_e (s : ByteArray) (c : Int) (i : Imm) (L : SH) :
 FnS Tryz.prog 187 [.string s, .int .u8 c] i L fun r i' L' => ∃ x, r = .int .i64 x ∧ -1 ≤ x ∧ x < s.size ∧ (0 ≤ x → s.data.toList[x.toNat]? = some c.toNat.toUInt8) ∧ i' = i ∧ L' = L := by
 refine (FnS.pure fun w => Tryz.strings_IndexByte s c w).mono ?_
 rintro r i' L' _ ⟨rfl, rfl, rfl⟩
 have := indexByte_lt s.data.toList c.toNat.toUInt8
 refine ⟨_, rfl, this.1, by rw [Lib.size_eq]; exact this.2, fun h => ?_, rfl, rfl⟩
 exact (Lib.indexByte_some (o := (Lib.indexByte s.data.toList c.toNat.toUInt8).toNat) (by omega)).1
theorem braces_t (s : ByteArray) (i : Imm) (L : SH) (hs : shortT s) :
 FnS Tryz.prog 323 [.string s] i L fun v i' L' => ∃ p q b, v = .tuple #[.string p, .string q, .bool b] ∧ p.size ≤ s.size ∧ q.size ≤ s.size ∧ i' = i ∧ L' = L := by
 refine FnS.intro3 Tryz.func323 rfl Tryz.ntmps323 (by simp) Tryz.results323 ?_
 by_cases h0 : s.size = 0
 · have hem : s.toList = (ByteArray.mk #[]).toList := by
    obtain ⟨⟨l⟩⟩ := s
    have : l = [] := List.eq_nil_of_length_eq_zero h0
    subst this; rfl
   repeat' (first | refine RS.pv (PV.all tab_ok rfl) rfl ?_ | refine CS.seq ?_ | refine thenQ.normal ?_ | refine CS.region (id := 0) ?_ | refine RS.nil ?_)
   refine CS.region (id := 1) ?_
   refine RS.pv (PV.all tab_ok rfl) rfl ?_
   refine RS.pv (PV.seqlT rfl rfl hem) rfl ?_
   refine RS.pv (PV.all tab_ok rfl) rfl ?_
   (refine RS.skip rfl ?_)
   (refine RS.skip rfl ?_)
   (refine RS.skip rfl ?_)
   (all_goals refine RS.pv (PV.all tab_ok rfl) rfl ?_)
   (all_goals refine RS.nil ?_)
   repeat' (first | refine RS.pv (PV.all tab_ok rfl) rfl ?_ | refine CS.seq ?_ | refine thenQ.normal ?_ | refine CS.cond_true rfl ?_ | refine CS.ret ?_ | refine thenQ.ret ?_ | refine retQ.ret ?_ | refine CS.region ?_ | refine RS.nil ?_)
   exact ⟨_, _, _, rfl, by show (0 : Nat) ≤ _; omega, by omega, rfl, rfl⟩
 · obtain ⟨c0, hc0⟩ := Go.Eng.byte_at (s := s) (j := 0) (by omega)
   have hne : s.toList ≠ (ByteArray.mk #[]).toList := fun h => h0 (by
    have := str_inj h
    subst this; rfl)
   repeat' (first | refine RS.pv (PV.all tab_ok rfl) rfl ?_ | refine CS.seq ?_ | refine thenQ.normal ?_ | refine CS.cond_true rfl ?_ | refine CS.cond_false rfl ?_ | refine CS.skip ?_ | refine CS.ret ?_ | refine thenQ.ret ?_ | refine retQ.ret ?_ | refine CS.region (id := 0) ?_ | refine CS.region (id := 1) ?_ | refine CS.region (id := 2) ?_ | refine CS.region (id := 3) ?_ | refine CS.region (id := 4) ?_ | refine CS.region (id := 5) ?_ | refine RS.pv (PV.seqlF rfl rfl hne) rfl ?_ | refine RS.pv (PV.indexS tab_ok rfl rfl rfl (by omega) hc0) rfl ?_ | refine RS.ifNeq rfl rfl rfl (fun h => ?_) (fun h => ?_) | (refine RS.call (IndexByte_e _ _ _ _) rfl (by kernel_rfl) rfl ?_; rintro _ i L - ⟨x, rfl, hx0, hx1, hxe, rfl, rfl⟩) | refine RS.ifLss rfl rfl rfl (fun h => ?_) (fun h => ?_) | refine RS.nil ?_)
   · exact ⟨_, _, _, rfl, by show (0 : Nat) ≤ _; omega, by omega, rfl, rfl⟩
   · exact ⟨_, _, _, rfl, by show (0 : Nat) ≤ _; omega, by omega, rfl, rfl⟩
   · have hx2 : x ≠ 0 := by
      rintro rfl
      have h1 := hxe (by omega)
      have h2 : s.data.toList[0]? = some c0 := by
       have : s.data[0]? = some c0 := by
        have h3 : s[0]? = s.data[0]? := rfl
        rw [← h3]; exact hc0
       simpa using this
      rw [show (0 : Int).toNat = 0 from rfl, h2] at h1
      have h3 := Option.some.inj h1
      have h4 : (c0.toNat : Int) = 123 := ‹_›
      rw [h3] at h4
      exact absurd h4 (by decide)
     refine CS.drawQ (id := 6) mix (by kernel_rfl) ?_
     iterate 2 refine QS.pv (PV.all tab_ok rfl) rfl ?_
     refine QS.pv (PV.cutT tab_ok (l := 1) (h := x.toNat) rfl rfl (.inr ⟨_, _, rfl, rfl⟩) (.inr ⟨_, _, rfl, by show Value.int _ x = _; congr 1; omega⟩) (by omega) (by omega)) rfl ?_
     iterate 2 refine QS.pv (PV.all tab_ok rfl) rfl ?_
     refine QS.pv (PV.add rfl rfl (by omega)) rfl ?_
     refine QS.pv (PV.cutT tab_ok (l := x.toNat + 1) (h := s.size) rfl rfl (.inr ⟨_, _, rfl, by show Value.int _ (x + 1) = _; congr 1; omega⟩) (.inl ⟨rfl, rfl⟩) (by omega) (by omega)) rfl ?_
     iterate 3 refine QS.pv (PV.all tab_ok rfl) rfl ?_
     refine QS.nil ?_
     repeat' (first | refine thenQ.normal ?_ | refine CS.ret ?_ | refine retQ.ret ?_)
     exact ⟨_, _, _, rfl, by rw [ByteArray.size_extract]; omega, by rw [ByteArray.size_extract]; omega, rfl, rfl⟩
theorem count_t (s : ByteArray) (i : Imm) (L : SH) (hg : Glb i) (hs : shortT s) :
 FnS Tryz.prog 324 [.string s] i L fun v i' L' => ∃ x b c, v = .tuple #[.int .i64 x, .bool b, .bool c] ∧ i' = i ∧ L' = L := by
 refine FnS.intro3 Tryz.func324 rfl Tryz.ntmps324 (by simp) Tryz.results324 ?_
 repeat' (first | refine RS.pv (PV.all tab_ok rfl) rfl ?_ | refine CS.seq ?_ | refine thenQ.normal ?_ | refine CS.block ?_ | refine CS.region (id := 0) ?_ | refine CS.region (id := 1) ?_ | refine CS.region (id := 2) ?_ | refine CS.region (id := 3) ?_ | (refine RS.callY _ (HasSuffix_t _ _ _ _ (by omega)) rfl (by kernel_rfl) rfl ?_ ?_ <;> rintro i L - ⟨-, rfl, rfl⟩) | (refine RS.call (TrimSuffix_t _ _ _ _ (by omega)) rfl (by kernel_rfl) rfl ?_; rintro _ i L - ⟨s1, rfl, hs1, rfl, rfl⟩) | refine RS.nil ?_)
 all_goals
  refine CS.loop [0, 5, 6] (fun m vs i' L' => ∃ (k : Int) (b : Bool) (s1 : ByteArray), m = (100 - k).toNat ∧ 1 ≤ k ∧ k ≤ 100 ∧ vs = [.string s1, .bool b, .int .i64 k] ∧ i' = i ∧ L' = L) 99 ⟨1, _, _, rfl, by omega, by omega, rfl, rfl, rfl⟩ ?_
  rintro m g vs i' L' hi ⟨k, b, s1, rfl, hk, hk2, rfl, rfl, rfl⟩
  repeat' (first | refine RS.pv (PV.all tab_ok rfl) rfl ?_ | refine CS.seq ?_ | refine thenQ.normal ?_ | refine CS.cond_true rfl ?_ | refine CS.cond_false rfl ?_ | refine CS.skip ?_ | refine CS.ret ?_ | refine thenQ.ret ?_ | refine blkQ.ret ?_ | refine retQ.ret ?_ | refine CS.block ?_ | refine CS.exit ?_ | refine thenQ.exit ?_ | refine blkQ.normal ?_ | refine blkQ.here ?_ | refine CS.region ?_ | refine RS.ifLeq rfl rfl rfl (fun h => ?_) (fun h => ?_) | refine RS.pv (PV.add rfl rfl (by omega)) rfl ?_ | (refine RS.call (Itoa_t _ _ _ hg (by omega) (by omega)) rfl (by kernel_rfl) rfl ?_; rintro _ i L - ⟨s', rfl, rfl, rfl⟩) | refine RS.ifSeql rfl rfl rfl (fun h => ?_) (fun h => ?_) | refine RS.nil ?_)
  all_goals first | exact ⟨_, _, _, rfl, rfl, rfl⟩ | exact ⟨(100 - (k + 1)).toNat, by omega, k + 1, b, s1, rfl, by omega, by omega, rfl, rfl, rfl⟩
structure Piece where
 kind : Int
 text : ByteArray
 word : Int
 more : Bool
def pieceC (p : Piece) : List Value := [.int .i64 p.kind, .string p.text, .int .i64 p.word, .bool p.more]
def pieces (l : List Piece) : List Value := l.flatMap pieceC
theorem pieces_len : ∀ l : List Piece, (pieces l).length = l.length * 4
 | [] => rfl
 | a :: l => by
   have h := pieces_len l
   have e : pieces (a :: l) = pieceC a ++ pieces l := rfl
   rw [e, List.length_append, h, List.length_cons]
   simp [pieceC]; omega
theorem pieces_snoc (l : List Piece) (t : Piece) : pieces (l ++ [t]) = pieces l ++ pieceC t := by simp [pieces]
theorem pieces_at {l : List Piece} {k : Nat} {t : Piece} (h : l[k]? = some t) (d : Nat) (hd : d < 4) : (pieces l)[k * 4 + d]? = (pieceC t)[d]? := by
 obtain ⟨A, B, rfl, rfl⟩ := split_at h
 have e : pieces (A ++ t :: B) = pieces A ++ (pieceC t ++ pieces B) := by simp [pieces]
 rw [e, List.getElem?_append_right (by rw [pieces_len]; omega), pieces_len, Nat.add_sub_cancel_left, List.getElem?_append_left (by simpa [pieceC] using hd)]
theorem place_t (k : Int) (s : ByteArray) (i : Imm) (L : SH) (hg : Glb i) (hs : shortT s) :
 FnS Tryz.prog 294 [.int .i64 k, .string s] i L fun v i' L' => (∃ p rest b, v = .tuple #[.agg (pieceC p).toArray, .string rest, .bool b] ∧ p.text.size ≤ s.size ∧ rest.size ≤ s.size) ∧ L' = L := by
 refine FnS.drop ?_
 refine FnS.introCTT tab_ok Tryz.func294 rfl Tryz.ntmps294 (by simp) Tryz.results294 ?_
 repeat' (first | refine CS.seq ?_ | refine thenQ.normal ?_ | refine CS.cond_true rfl ?_ | refine CS.cond_false rfl ?_ | refine CS.skip ?_ | (refine CS.region (id := 0) ?_; refine RS.alloc tab_ok rfl rfl (fun b4 => ?_); (all_goals refine RS.pv (PV.all tab_ok rfl) rfl ?_); (all_goals refine RS.pv (PV.all tab_ok rfl) rfl ?_); (all_goals refine RS.nil ?_)) | (refine CS.region (id := 1) ?_; refine RS.pv (PV.all tab_ok rfl) rfl ?_; refine RS.pv (PV.all tab_ok rfl) rfl ?_; refine RS.alloc tab_ok rfl rfl (fun b7 => ?_); (all_goals (refine RS.store (k := 0) tab_ok rfl rfl rfl rfl rfl rfl rfl rfl ?_)); (all_goals refine RS.nil ?_)) | (refine CS.region (id := 2) ?_; refine RS.pv (PV.all tab_ok rfl) rfl ?_; (refine RS.call (braces_t _ _ _ hs) rfl (by kernel_rfl) rfl ?_; rintro _ i L - ⟨p, q, ok, rfl, hp, hq, rfl, rfl⟩; cases ok); (all_goals refine RS.pv (PV.all tab_ok rfl) rfl ?_); (all_goals refine RS.pv (PV.all tab_ok rfl) rfl ?_); (all_goals refine RS.pv (PV.all tab_ok rfl) rfl ?_); (all_goals refine RS.pv (PV.all tab_ok rfl) rfl ?_); (all_goals refine RS.pv (PV.all tab_ok rfl) rfl ?_); (all_goals refine RS.pv (PV.all tab_ok rfl) rfl ?_); (all_goals refine RS.pv (PV.all tab_ok rfl) rfl ?_); (all_goals refine RS.nil ?_)) | (refine CS.region (id := 3) ?_; refine RS.pv (PV.all tab_ok rfl) rfl ?_; (refine RS.ifEql rfl rfl rfl (fun h => ?_) (fun h => ?_)); (all_goals refine RS.pv (PV.all tab_ok rfl) rfl ?_); (all_goals refine RS.nil ?_)) | (refine CS.region (id := 4) ?_; ((refine RS.lv (LV.load tab_ok rfl (Has.own 0 rfl) rfl) rfl ?_)); (all_goals refine RS.pv (PV.all tab_ok rfl) rfl ?_); (all_goals (refine RS.store (k := 1) tab_ok rfl rfl rfl rfl rfl rfl rfl rfl ?_)); (all_goals refine RS.pv (PV.all tab_ok rfl) rfl ?_); (all_goals refine RS.pv (PV.all tab_ok rfl) rfl ?_); (all_goals refine RS.nil ?_)) | (refine CS.region (id := 5) ?_; refine RS.pv (PV.all tab_ok rfl) rfl ?_; (refine RS.ifEql rfl rfl rfl (fun h => ?_) (fun h => ?_)); (all_goals refine RS.pv (PV.all tab_ok rfl) rfl ?_); (all_goals refine RS.nil ?_)) | (refine CS.region (id := 6) ?_; refine RS.pv (PV.all tab_ok rfl) rfl ?_; refine RS.pv (PV.all tab_ok rfl) rfl ?_; (refine RS.store (k := 0) tab_ok rfl rfl rfl rfl rfl rfl rfl rfl ?_); refine RS.nil ?_) | (refine CS.region (id := 8) ?_; refine RS.pv (PV.all tab_ok rfl) rfl ?_; (refine RS.ifEql rfl rfl rfl (fun h => ?_) (fun h => ?_)); (all_goals refine RS.pv (PV.all tab_ok rfl) rfl ?_); (all_goals refine RS.nil ?_)) | (refine CS.region (id := 9) ?_; refine RS.pv (PV.all tab_ok rfl) rfl ?_; refine RS.pv (PV.all tab_ok rfl) rfl ?_; (refine RS.store (k := 0) tab_ok rfl rfl rfl rfl rfl rfl rfl rfl ?_); refine RS.nil ?_) | (refine CS.region (id := 11) ?_; refine RS.pv (PV.all tab_ok rfl) rfl ?_; (refine RS.ifEql rfl rfl rfl (fun h => ?_) (fun h => ?_)); (all_goals refine RS.pv (PV.all tab_ok rfl) rfl ?_); (all_goals (first | refine RS.pv (PV.all tab_ok rfl) rfl ?_ | refine RS.skip rfl ?_)); (all_goals (first | (refine RS.callY _ (HasPrefix_t _ _ _ _) rfl (by kernel_rfl) rfl ?_ ?_ <;> rintro i L - ⟨-, rfl, rfl⟩) | refine RS.skip rfl ?_)); (all_goals refine RS.pv (PV.all tab_ok rfl) rfl ?_); (all_goals refine RS.pv (PV.all tab_ok rfl) rfl ?_); (all_goals refine RS.nil ?_)) | (refine CS.region (id := 12) ?_; refine RS.pv (PV.all tab_ok rfl) rfl ?_; (refine RS.call (count_t _ _ _ hg (by omega)) rfl (by kernel_rfl) rfl ?_; rintro _ i L - ⟨x, b1, b2, rfl, rfl, rfl⟩); (all_goals refine RS.pv (PV.all tab_ok rfl) rfl ?_); (all_goals refine RS.pv (PV.all tab_ok rfl) rfl ?_); (all_goals refine RS.pv (PV.all tab_ok rfl) rfl ?_); (all_goals refine RS.pv (PV.all tab_ok rfl) rfl ?_); (all_goals refine RS.pv (PV.all tab_ok rfl) rfl ?_); (all_goals refine RS.pv (PV.all tab_ok rfl) rfl ?_); (all_goals refine RS.pv (PV.all tab_ok rfl) rfl ?_); (all_goals refine RS.nil ?_)) | (refine CS.region (id := 13) ?_; refine RS.pv (PV.all tab_ok rfl) rfl ?_; refine RS.pv (PV.all tab_ok rfl) rfl ?_; refine RS.pv (PV.all tab_ok rfl) rfl ?_; (refine RS.store (k := 0) tab_ok rfl rfl rfl rfl rfl rfl rfl rfl ?_); refine RS.pv (PV.all tab_ok rfl) rfl ?_; (refine RS.store (k := 0) tab_ok rfl rfl rfl rfl rfl rfl rfl rfl ?_); refine RS.nil ?_) | (refine CS.region (id := 14) ?_; ((refine RS.lv (LV.load tab_ok rfl (Has.own 0 rfl) rfl) rfl ?_)); (all_goals refine RS.pv (PV.all tab_ok rfl) rfl ?_); (all_goals refine RS.pv (PV.all tab_ok rfl) rfl ?_); (all_goals refine RS.pv (PV.all tab_ok rfl) rfl ?_); (all_goals (first | refine RS.pv (PV.all tab_ok rfl) rfl ?_ | refine RS.skip rfl ?_)); (all_goals refine RS.pv (PV.all tab_ok rfl) rfl ?_); (all_goals (refine RS.store (k := 1) tab_ok rfl rfl rfl rfl rfl rfl rfl rfl ?_)); (all_goals refine RS.pv (PV.all tab_ok rfl) rfl ?_); (all_goals refine RS.pv (PV.all tab_ok rfl) rfl ?_); (all_goals refine RS.nil ?_)) | (refine CS.region (id := 15) ?_; ((refine RS.lv (LV.load tab_ok rfl (Has.own 0 rfl) rfl) rfl ?_)); (all_goals refine RS.pv (PV.all tab_ok rfl) rfl ?_); (all_goals (refine RS.store (k := 1) tab_ok rfl rfl rfl rfl rfl rfl rfl rfl ?_)); (all_goals refine RS.pv (PV.all tab_ok rfl) rfl ?_); (all_goals refine RS.pv (PV.all tab_ok rfl) rfl ?_); (all_goals refine RS.nil ?_)) | refine CS.ret ?_ | refine thenQ.ret ?_ | refine blkQ.ret ?_ | refine retQ.ret ?_ | refine CS.block ?_ | refine blkQ.normal ?_)
 all_goals first
  | exact ⟨_, _, _, _, _, _, rfl, Has.own 1 rfl, rfl, [_, _], ⟨⟨_, _, _, _⟩, _, _, rfl, by first | (show (0 : Nat) ≤ _; omega) | exact hp, by first | omega | exact hq⟩, rfl⟩
  | skip
 · refine CS.drawE mix [0,1,2,3,4,5,6,7,8] [9] [7] (fun L' => ∃ o4, L' = (b7, .cells [.int .i64 k, .string p, .int .i64 0, .bool false].toArray 347 (0, 0)) :: (b4, o4) :: L) (fun L' => L' = (b7, .cells [.int .i64 k, .string p, .int .i64 0, .bool false].toArray 347 (0, 0)) :: (b4, .cells [.int .i64 0, .string ByteArray.empty, .int .i64 0, .bool false].toArray 347 (0, 0)) :: L) (by kernel_rfl) (by decide) rfl ⟨_, rfl⟩ rfl ?_
   refine GM.lv (fun i' hi L' hL => by obtain ⟨o4, rfl⟩ := hL; exact LV.load tab_ok rfl (Has.own 0 rfl) rfl) rfl rfl rfl rfl rfl rfl ?_
   iterate 3 refine GM.pv (PV.all tab_ok rfl) rfl rfl rfl rfl rfl rfl ?_
   iterate 2 refine GM.skip rfl rfl rfl rfl rfl ?_
   refine GM.pv (PV.all tab_ok rfl) rfl rfl rfl rfl rfl rfl ?_
   refine GM.turnE0 (fun L' => L' = (b7, .cells [.int .i64 k, .string p, .int .i64 0, .bool false].toArray 347 (0, 0)) :: (b4, .cells [.int .i64 k, .string p, .int .i64 0, .bool false].toArray 347 (0, 0)) :: L) rfl rfl rfl rfl (fun i' hi L' hI hA => ⟨rfl, by subst hA; exact OpS.store (k := 1) tab_ok rfl rfl rfl rfl rfl rfl rfl ⟨⟨_, rfl⟩, rfl⟩⟩) ?_
   refine GM.pv (PV.all tab_ok rfl) rfl rfl rfl rfl rfl rfl ?_
   refine GM.doneE rfl rfl (fun i2 L2 hi2 _ hA => ?_)
   subst hA
   refine RS.pv (PV.all tab_ok rfl) rfl ?_
   refine RS.nil ?_
   repeat' (first | refine thenQ.normal ?_ | refine CS.ret ?_ | refine thenQ.ret ?_ | refine blkQ.ret ?_ | refine retQ.ret ?_)
   exact ⟨_, _, _, _, _, _, rfl, Has.own 1 rfl, rfl, [_, _], ⟨⟨_, _, _, _⟩, _, _, rfl, hp, hq⟩, rfl⟩
 · refine CS.drawE mix [0,1,2,3,4,5,6,7,8] [9] [7] (fun L' => ∃ o4, L' = (b7, .cells [.int .i64 k, .string p, .int .i64 0, .bool false].toArray 347 (0, 0)) :: (b4, o4) :: L) (fun L' => L' = (b7, .cells [.int .i64 k, .string p, .int .i64 0, .bool false].toArray 347 (0, 0)) :: (b4, .cells [.int .i64 0, .string ByteArray.empty, .int .i64 0, .bool false].toArray 347 (0, 0)) :: L) (by kernel_rfl) (by decide) rfl ⟨_, rfl⟩ rfl ?_
   refine GM.lv (fun i' hi L' hL => by obtain ⟨o4, rfl⟩ := hL; exact LV.load tab_ok rfl (Has.own 0 rfl) rfl) rfl rfl rfl rfl rfl rfl ?_
   iterate 3 refine GM.pv (PV.all tab_ok rfl) rfl rfl rfl rfl rfl rfl ?_
   iterate 2 refine GM.skip rfl rfl rfl rfl rfl ?_
   refine GM.pv (PV.all tab_ok rfl) rfl rfl rfl rfl rfl rfl ?_
   refine GM.turnE0 (fun L' => L' = (b7, .cells [.int .i64 k, .string p, .int .i64 0, .bool false].toArray 347 (0, 0)) :: (b4, .cells [.int .i64 k, .string p, .int .i64 0, .bool false].toArray 347 (0, 0)) :: L) rfl rfl rfl rfl (fun i' hi L' hI hA => ⟨rfl, by subst hA; exact OpS.store (k := 1) tab_ok rfl rfl rfl rfl rfl rfl rfl ⟨⟨_, rfl⟩, rfl⟩⟩) ?_
   refine GM.pv (PV.all tab_ok rfl) rfl rfl rfl rfl rfl rfl ?_
   refine GM.doneE rfl rfl (fun i2 L2 hi2 _ hA => ?_)
   subst hA
   refine RS.pv (PV.all tab_ok rfl) rfl ?_
   refine RS.nil ?_
   repeat' (first | refine thenQ.normal ?_ | refine CS.ret ?_ | refine thenQ.ret ?_ | refine blkQ.ret ?_ | refine retQ.ret ?_)
   exact ⟨_, _, _, _, _, _, rfl, Has.own 1 rfl, rfl, [_, _], ⟨⟨_, _, _, _⟩, _, _, rfl, hp, hq⟩, rfl⟩
 · refine CS.drawE mix [0,1,2,3,4,5,6,7,8] [9] [7] (fun L' => ∃ o4, L' = (b7, .cells [.int .i64 k, .string p, .int .i64 0, .bool false].toArray 347 (0, 0)) :: (b4, o4) :: L) (fun L' => L' = (b7, .cells [.int .i64 k, .string p, .int .i64 0, .bool false].toArray 347 (0, 0)) :: (b4, .cells [.int .i64 0, .string ByteArray.empty, .int .i64 0, .bool false].toArray 347 (0, 0)) :: L) (by kernel_rfl) (by decide) rfl ⟨_, rfl⟩ rfl ?_
   refine GM.lv (fun i' hi L' hL => by obtain ⟨o4, rfl⟩ := hL; exact LV.load tab_ok rfl (Has.own 0 rfl) rfl) rfl rfl rfl rfl rfl rfl ?_
   iterate 3 refine GM.pv (PV.all tab_ok rfl) rfl rfl rfl rfl rfl rfl ?_
   (refine GM.pv (PV.all tab_ok rfl) rfl rfl rfl rfl rfl rfl ?_)
   refine GM.fact (fun _ v => ∃ b, v = .bool b) (fun _ _ _ _ h => h) rfl rfl rfl rfl (fun i' hi L' _ => ⟨rfl, OpS.call (by kernel_rfl) rfl (Valid_t _ _ _ (by omega)) (fun _ _ _ _ ⟨b, h1, _, h3⟩ => ⟨h3, b, h1⟩)⟩) ?_
   refine GM.fact (fun _ v => ∃ b, v = .bool b) (fun _ _ _ _ h => h) rfl rfl rfl rfl (fun i' hi L' _ => by rintro v ⟨b, rfl⟩; exact ⟨rfl, OpS.mono (OpS.pv (PV.all tab_ok rfl)) (fun _ _ _ _ ⟨h1, h2⟩ => ⟨h1, b, h2⟩)⟩) ?_
   refine GM.turnE0 (fun L' => L' = (b7, .cells [.int .i64 k, .string p, .int .i64 0, .bool false].toArray 347 (0, 0)) :: (b4, .cells [.int .i64 k, .string p, .int .i64 0, .bool false].toArray 347 (0, 0)) :: L) rfl rfl rfl rfl (fun i' hi L' hI hA => ⟨rfl, by subst hA; exact OpS.store (k := 1) tab_ok rfl rfl rfl rfl rfl rfl rfl ⟨⟨_, rfl⟩, rfl⟩⟩) ?_
   refine GM.pv (PV.all tab_ok rfl) rfl rfl rfl rfl rfl rfl ?_
   refine GM.doneE rfl rfl (fun i2 L2 hi2 _ hA => ?_)
   subst hA
   rintro _ ⟨b, rfl⟩ _ -
   refine RS.pv (PV.all tab_ok rfl) rfl ?_
   refine RS.nil ?_
   repeat' (first | refine thenQ.normal ?_ | refine CS.ret ?_ | refine thenQ.ret ?_ | refine blkQ.ret ?_ | refine retQ.ret ?_)
   exact ⟨_, _, _, _, _, _, rfl, Has.own 1 rfl, rfl, [_, _], ⟨⟨_, _, _, _⟩, _, _, rfl, hp, hq⟩, rfl⟩
 · refine CS.drawE mix [0,1,2,3,4,5,6,7,8] [9] [7] (fun L' => ∃ o4, L' = (b7, .cells [.int .i64 k, .string p, .int .i64 0, .bool false].toArray 347 (0, 0)) :: (b4, o4) :: L) (fun L' => L' = (b7, .cells [.int .i64 k, .string p, .int .i64 0, .bool false].toArray 347 (0, 0)) :: (b4, .cells [.int .i64 0, .string ByteArray.empty, .int .i64 0, .bool false].toArray 347 (0, 0)) :: L) (by kernel_rfl) (by decide) rfl ⟨_, rfl⟩ rfl ?_
   refine GM.lv (fun i' hi L' hL => by obtain ⟨o4, rfl⟩ := hL; exact LV.load tab_ok rfl (Has.own 0 rfl) rfl) rfl rfl rfl rfl rfl rfl ?_
   iterate 3 refine GM.pv (PV.all tab_ok rfl) rfl rfl rfl rfl rfl rfl ?_
   (refine GM.pv (PV.all tab_ok rfl) rfl rfl rfl rfl rfl rfl ?_)
   refine GM.fact (fun _ v => ∃ b, v = .bool b) (fun _ _ _ _ h => h) rfl rfl rfl rfl (fun i' hi L' _ => ⟨rfl, OpS.call (by kernel_rfl) rfl (Key_t _ _ _ (by omega)) (fun _ _ _ _ ⟨b, h1, _, h3⟩ => ⟨h3, b, h1⟩)⟩) ?_
   refine GM.fact (fun _ v => ∃ b, v = .bool b) (fun _ _ _ _ h => h) rfl rfl rfl rfl (fun i' hi L' _ => by rintro v ⟨b, rfl⟩; exact ⟨rfl, OpS.mono (OpS.pv (PV.all tab_ok rfl)) (fun _ _ _ _ ⟨h1, h2⟩ => ⟨h1, b, h2⟩)⟩) ?_
   refine GM.turnE0 (fun L' => L' = (b7, .cells [.int .i64 k, .string p, .int .i64 0, .bool false].toArray 347 (0, 0)) :: (b4, .cells [.int .i64 k, .string p, .int .i64 0, .bool false].toArray 347 (0, 0)) :: L) rfl rfl rfl rfl (fun i' hi L' hI hA => ⟨rfl, by subst hA; exact OpS.store (k := 1) tab_ok rfl rfl rfl rfl rfl rfl rfl ⟨⟨_, rfl⟩, rfl⟩⟩) ?_
   refine GM.pv (PV.all tab_ok rfl) rfl rfl rfl rfl rfl rfl ?_
   refine GM.doneE rfl rfl (fun i2 L2 hi2 _ hA => ?_)
   subst hA
   rintro _ ⟨b, rfl⟩ _ -
   refine RS.pv (PV.all tab_ok rfl) rfl ?_
   refine RS.nil ?_
   repeat' (first | refine thenQ.normal ?_ | refine CS.ret ?_ | refine thenQ.ret ?_ | refine blkQ.ret ?_ | refine retQ.ret ?_)
   exact ⟨_, _, _, _, _, _, rfl, Has.own 1 rfl, rfl, [_, _], ⟨⟨_, _, _, _⟩, _, _, rfl, hp, hq⟩, rfl⟩
end Go.Proofs.YtckdkhhpjnefpaaGreatDoor
namespace Go.Proofs.YtckdkhhpjnefpaaGreatDoor
set_option maxHeartbeats 4000000
open Go Go.Eng
def textsL (B : Nat) (l : List Piece) : Prop := ∀ p ∈ l, p.text.size ≤ B
theorem FnS.dropMid {P : Program} {g : FuncId} {args : List Value} {i : Imm} {L L0 : SH} {X : Type} {φ : X → Value → Imm → SH → Prop} (h : FnS P g args i L fun v i' L' => ∃ x O G, φ x v i' O ∧ L' = O ++ (G ++ L0)) : FnS P g args i L fun v i' L' => ∃ x O, φ x v i' O ∧ L' = O ++ L0 := by
 refine FnS.state h ?_
 rintro v i' L' w _ hs ⟨x, O, G, h1, rfl⟩
 exact ⟨i', _, Imm.le.refl i', hs.dropMid, x, O, h1, rfl⟩
theorem pieces_set {l : List Piece} {k : Nat} {z : Piece} (h : l[k]? = some z) (t : ByteArray) : (pieces l).set (k * 4 + 1) (.string t) = pieces (l.set k { z with text := t }) := by
 obtain ⟨A, B, rfl, rfl⟩ := split_at h
 have e : pieces (A ++ z :: B) = pieces A ++ (pieceC z ++ pieces B) := by simp [pieces]
 have e2 : (A ++ z :: B).set A.length { z with text := t } = A ++ { z with text := t } :: B := by simp
 have e3 : pieces (A ++ { z with text := t } :: B) = pieces A ++ (pieceC { z with text := t } ++ pieces B) := by simp [pieces]
 rw [e, e2, e3, List.set_append_right _ _ (by rw [pieces_len]; omega), pieces_len, Nat.add_sub_cancel_left]
 rfl
theorem add_t (ao : Option Addr) (cap : Nat) (ps : List Piece) (p : Piece) (B C : Nat) (i : Imm) (O L : SH) (hO : SlO 347 (.slice ao ps.length cap) 4 ps.length (pieces ps) O) (hB : textsL B ps) (hC : p.text.size ≤ C) (hn : ps.length ≤ 1000000) (hBC : B + C ≤ 1000000000) :
 FnS Tryz.prog 292 [.slice ao ps.length cap, .agg (pieceC p).toArray] i (O ++ L) fun v i' L' => ∃ ps' O', (SlO 347 v 4 ps'.length (pieces ps') O' ∧ textsL (B + C) ps' ∧ ps'.length ≤ ps.length + 1) ∧ L' = O' ++ L := by
 refine FnS.dropMid (φ := fun ps' v i' O' => SlO 347 v 4 ps'.length (pieces ps') O' ∧ textsL (B + C) ps' ∧ ps'.length ≤ ps.length + 1) ?_
 refine FnS.intro1 Tryz.func292 rfl Tryz.ntmps292 (by simp) Tryz.results292 ?_
 by_cases h0 : ps.length = 0
 · repeat' (first | refine RS.pv (PV.all tab_ok rfl) rfl ?_ | refine CS.seq ?_ | refine thenQ.normal ?_ | refine CS.cond_false rfl ?_ | refine CS.skip ?_ | refine CS.region (id := 0) ?_ | refine CS.region (id := 1) ?_ | refine CS.region (id := 2) ?_ | refine RS.box rfl rfl (fun b3 => ?_) | refine RS.pv (PV.lenS tab_ok rfl rfl) rfl ?_ | refine RS.pv (PV.sub rfl rfl (by omega)) rfl ?_ | refine RS.pv (PV.geqF rfl rfl (by omega)) rfl ?_ | refine RS.nil ?_ | refine RS.skip rfl ?_)
   refine CS.perm (L' := O ++ ((b3, _) :: L)) (List.perm_middle.symm) ?_
   refine CS.region (id := 5) ?_
   refine RS.pv (PV.all tab_ok rfl) rfl ?_
   refine RS.lv (LV.load tab_ok rfl (Has.mem (List.mem_append_right _ (List.mem_cons_self ..))) rfl) rfl ?_
   refine RS.buildSliceF tab_ok 4 rfl rfl rfl (fun b i' hi' hs => ?_)
   refine RS.app tab_ok (sz := 4) (bytes := 40) rfl rfl rfl hO (hs.rd _) ⟨_, rfl, rfl⟩ ⟨_, rfl, rfl, rfl⟩ (by omega) (allOne rfl) (by omega) (by omega) ?_
   intro ao' cap' O' hO'
   refine RS.pv (PV.all tab_ok rfl) rfl ?_
   refine RS.nil ?_
   repeat' (first | refine thenQ.normal ?_ | refine CS.ret ?_ | refine retQ.ret ?_)
   exact ⟨ps ++ [p], O', [_], ⟨by rw [pieces_snoc, List.length_append]; exact hO', fun x hx => (List.mem_append.1 hx).elim (fun h => Nat.le_trans (hB x h) (Nat.le_add_right _ _)) (fun h => by simp at h; subst h; omega), by simp⟩, rfl⟩
 · obtain ⟨hcp, hao⟩ := hO.addr
   obtain ⟨g, rfl⟩ := hao.resolve_left (by omega)
   obtain ⟨sp, rfl, hsp, _⟩ := hO.block
   obtain ⟨z, hz⟩ : ∃ z, ps[ps.length - 1]? = some z := ⟨_, List.getElem?_eq_getElem (by omega)⟩
   have hlen := pieces_len ps
   have qq : ∀ d, d < 4 → (pieces ps ++ sp)[0 + ((ps.length : Int) - 1).toNat * 4 + d]? = (pieceC z)[d]? := fun d hd => by
    rw [show ((ps.length : Int) - 1).toNat = ps.length - 1 by omega, Nat.zero_add, List.getElem?_append_left (by omega), pieces_at hz d hd]
   have q0 := qq 0 (by omega)
   have q1 := qq 1 (by omega)
   have hzB := hB z (List.mem_of_getElem? hz)
   repeat' (first | refine RS.pv (PV.all tab_ok rfl) rfl ?_ | refine CS.seq ?_ | refine thenQ.normal ?_ | refine CS.cond_true rfl ?_ | refine CS.cond_false rfl ?_ | refine CS.skip ?_ | refine CS.region (id := 0) ?_ | refine CS.region (id := 1) ?_ | refine CS.region (id := 2) ?_ | refine RS.box rfl rfl (fun b3 => ?_) | refine RS.pv (PV.lenS tab_ok rfl rfl) rfl ?_ | refine RS.pv (PV.sub rfl rfl (by omega)) rfl ?_ | refine RS.pv (PV.geqT rfl rfl (by omega)) rfl ?_ | refine RS.lv (LV.load tab_ok rfl (Has.own 0 rfl) rfl) rfl ?_ | refine RS.ifEql rfl rfl rfl (fun h => ?_) (fun h => ?_) | refine RS.pv (PV.indexAddr tab_ok rfl rfl rfl (by omega)) rfl ?_ | refine RS.lv (LV.load1 tab_ok rfl (Has.own 1 rfl) rfl q0) rfl ?_ | refine RS.nil ?_ | refine RS.skip rfl ?_)
   · refine CS.draw0 mix [0,1,2,3,4,5,6,7,8,9] [10] (by kernel_rfl) rfl ?_
     iterate 2 refine GS.pv (PV.all tab_ok rfl) rfl rfl rfl rfl rfl rfl ?_
     (refine GS.pv (PV.indexAddr tab_ok rfl rfl rfl (by omega)) rfl rfl rfl rfl rfl rfl ?_)
     refine GS.pv (PV.all tab_ok rfl) rfl rfl rfl rfl rfl rfl ?_
     refine GS.lv (fun _ _ => LV.load1 tab_ok rfl (Has.own 1 rfl) rfl q1) rfl rfl rfl rfl rfl rfl ?_
     refine GS.pv (PV.all tab_ok rfl) rfl rfl rfl rfl rfl rfl ?_
     (refine GS.lv (fun _i _hi => LV.load tab_ok rfl (Has.own 0 rfl) rfl) rfl rfl rfl rfl rfl rfl ?_)
     refine GS.pv (PV.addT rfl rfl (by omega)) rfl rfl rfl rfl rfl rfl ?_
     (refine GS.pv (PV.indexAddr tab_ok rfl rfl rfl (by omega)) rfl rfl rfl rfl rfl rfl ?_)
     refine GS.pv (PV.all tab_ok rfl) rfl rfl rfl rfl rfl rfl ?_
     refine GS.done rfl rfl (fun i2 hi2 => ?_)
     refine RS.perm (L' := [(g, .cells (pieces ps ++ sp).toArray 347 (0, 0))] ++ ((b3, _) :: L)) (List.Perm.swap _ _ _) ?_
     have hk : 0 + ((ps.length : Int) - 1).toNat * 4 + 1 = (ps.length - 1) * 4 + 1 := by omega
     refine RS.op (OpS.storeO (off := (ps.length - 1) * 4 + 1) (u := .string (z.text ++ p.text)) tab_ok hO (by show Value.pointer (some ⟨g, 0 + ((ps.length : Int) - 1).toNat * 4 + 1, none⟩) = _; rw [hk]) rfl rfl rfl (by omega)) rfl ?_
     rintro _ i3 L3 hi3 ⟨rfl, O', hO', rfl⟩
     refine RS.nil ?_
     repeat' (first | refine RS.pv (PV.all tab_ok rfl) rfl ?_ | refine CS.seq ?_ | refine thenQ.normal ?_ | refine CS.ret ?_ | refine thenQ.ret ?_ | refine retQ.ret ?_ | refine CS.region ?_ | refine RS.nil ?_)
     rw [pieces_set hz] at hO'
     refine ⟨ps.set (ps.length - 1) { z with text := z.text ++ p.text }, O', [_], ⟨by rw [List.length_set]; exact hO', fun x hx => ?_, by simp⟩, rfl⟩
     rcases List.mem_or_eq_of_mem_set hx with h | rfl
     · exact Nat.le_trans (hB x h) (Nat.le_add_right _ _)
     · show (z.text ++ p.text).size ≤ _
       rw [ByteArray.size_append]; omega
   all_goals
    refine CS.perm (L' := [(g, .cells (pieces ps ++ sp).toArray 347 (0, 0))] ++ ((b3, _) :: L)) (List.perm_middle.symm) ?_
    refine CS.region (id := 5) ?_
    refine RS.pv (PV.all tab_ok rfl) rfl ?_
    refine RS.lv (LV.load tab_ok rfl (Has.mem (List.mem_append_right _ (List.mem_cons_self ..))) rfl) rfl ?_
    refine RS.buildSliceF tab_ok 4 rfl rfl rfl (fun b i' hi' hs => ?_)
    refine RS.app tab_ok (sz := 4) (bytes := 40) rfl rfl rfl hO (hs.rd _) ⟨_, rfl, rfl⟩ ⟨_, rfl, rfl, rfl⟩ (by omega) (allOne rfl) (by omega) (by omega) ?_
    intro ao' cap' O' hO'
    refine RS.pv (PV.all tab_ok rfl) rfl ?_
    refine RS.nil ?_
    repeat' (first | refine thenQ.normal ?_ | refine CS.ret ?_ | refine retQ.ret ?_)
    exact ⟨ps ++ [p], O', [_], ⟨by rw [pieces_snoc, List.length_append]; exact hO', fun x hx => (List.mem_append.1 hx).elim (fun h => Nat.le_trans (hB x h) (Nat.le_add_right _ _)) (fun h => by simp at h; subst h; omega), by simp⟩, rfl⟩
def PS (r : Nat) (v : Value) (O : SH) : Prop := ∃ ao cap ps, v = .slice ao (List.length ps) cap ∧ SlO 347 v 4 (List.length ps) (pieces ps) O ∧ textsL (256 * r) ps ∧ ps.length ≤ r
theorem PS.nil : PS 0 (.slice none 0 0) [] := ⟨none, 0, [], rfl, SlO.nil 347 4, (fun p hp => by cases hp), Nat.le_refl _⟩
theorem PS.add {r : Nat} {v : Value} {O L : SH} {i : Imm} (h : PS r v O) (p : Piece) (hp : p.text.size ≤ 256) (hr : r ≤ 1000) :
 FnS Tryz.prog 292 [v, .agg (pieceC p).toArray] i (O ++ L) fun v i' L' => ∃ O', PS (r + 1) v O' ∧ L' = O' ++ L := by
 obtain ⟨ao, cap, ps, rfl, h1, h2, h3⟩ := h
 refine (add_t ao cap ps p (256 * r) 256 i O L h1 h2 hp (by omega) (by omega)).mono ?_
 rintro v i' L' _ ⟨ps', O', ⟨h4, h5, h6⟩, h7⟩
 obtain ⟨ao', cap', rfl⟩ := h4.shape
 exact ⟨O', ⟨ao', cap', ps', rfl, h4, by rw [Nat.mul_add, Nat.mul_one]; exact h5, by omega⟩, h7⟩
theorem Parse9_t (s : ByteArray) (i : Imm) (L : SH) (hg : Glb i) (hs : shortT s) :
 FnS Tryz.prog 246 [.string s] i L fun v i' L' => (∃ ao n c e, v = .tuple #[.slice ao n c, .int .i64 e]) ∧ L' = L := by
 refine FnS.drop ?_
 refine FnS.intro2 Tryz.func246 rfl Tryz.ntmps246 (by simp) Tryz.results246 ?_
 repeat' (first | refine RS.pv (PV.all tab_ok rfl) rfl ?_ | refine CS.seq ?_ | refine thenQ.normal ?_ | refine CS.cond_true rfl ?_ | refine CS.cond_false rfl ?_ | refine CS.skip ?_ | refine CS.ret ?_ | refine thenQ.ret ?_ | refine retQ.ret ?_ | refine CS.block ?_ | refine CS.region ?_ | refine RS.pv (PV.lenT tab_ok rfl rfl) rfl ?_ | refine RS.ifGtr rfl rfl rfl (fun h => ?_) (fun h => ?_) | (refine RS.callY _ (Text_t _ _ _ (by omega)) rfl (by kernel_rfl) rfl ?_ ?_ <;> rintro i L - ⟨rfl, rfl⟩) | refine RS.nil ?_)
 · exact ⟨[], ⟨_, _, _, _, rfl⟩, rfl⟩
 rotate_left
 · exact ⟨[], ⟨_, _, _, _, rfl⟩, rfl⟩
 refine CS.loop [0, 4] (fun m vs i' L' => ∃ (s : ByteArray) (r : Nat) (v : Value) (O : SH), m = s.size ∧ s.size + r ≤ 256 ∧ PS r v O ∧ vs = [.string s, v] ∧ Glb i' ∧ L' = O ++ L) s.size ⟨s, 0, _, [], rfl, by omega, PS.nil, rfl, hg, rfl⟩ ?_
 rintro m g vs i L' hi ⟨s, r, v, O, rfl, hr, hP, rfl, hg, rfl⟩
 have hP2 := hP
 obtain ⟨ao, cap, ps, rfl, -, -, -⟩ := hP2
 by_cases h0 : s.size = 0
 · have hem : s.toList = (ByteArray.mk #[]).toList := by
    obtain ⟨⟨l⟩⟩ := s
    have : l = [] := List.eq_nil_of_length_eq_zero h0
    subst this; rfl
   repeat' (first | refine RS.pv (PV.all tab_ok rfl) rfl ?_ | refine CS.seq ?_ | refine thenQ.normal ?_ | refine CS.cond_false rfl ?_ | refine CS.ret ?_ | refine retQ.ret ?_ | refine CS.exit ?_ | refine thenQ.exit ?_ | refine blkQ.here ?_ | refine CS.region (id := 6) ?_ | refine CS.region (id := 24) ?_ | refine RS.pv (PV.sneqF rfl rfl hem) rfl ?_ | refine RS.nil ?_)
   exact ⟨O, ⟨_, _, _, _, rfl⟩, rfl⟩
 have hne : s.toList ≠ (ByteArray.mk #[]).toList := fun h => h0 (by
  have := str_inj h
  subst this; rfl)
 iterate 2 refine CS.seq ?_
 refine CS.region (id := 6) ?_
 refine RS.pv (PV.all tab_ok rfl) rfl ?_
 refine RS.pv (PV.sneqT rfl rfl hne) rfl ?_
 refine RS.nil ?_
 refine thenQ.normal ?_
 refine CS.cond_true rfl ?_
 refine CS.skip ?_
 refine thenQ.normal ?_
 refine CS.block ?_
 refine CS.cut [0, 4] (fun vs i' L' => vs = [.string s, .slice ao ps.length cap] ∧ Glb i' ∧ L' = O ++ L) ?_ ?_
 · repeat' (first | refine RS.pv (PV.all tab_ok rfl) rfl ?_ | refine CS.seq ?_ | refine thenQ.normal ?_ | refine CS.cond_true rfl ?_ | refine CS.cond_false rfl ?_ | refine CS.skip ?_ | refine CS.region (id := 7) ?_ | refine RS.idxT tab_ok rfl rfl rfl rfl (by omega) (fun c hc0 hc1 => ?_) | refine RS.ifNeq rfl rfl rfl (fun h => ?_) (fun h => ?_) | refine RS.nil ?_ | refine RS.skip rfl ?_)
   all_goals first | exact ⟨rfl, hg, rfl⟩ | skip
   · refine CS.drawM mix [0,1,2,3,4,5,6,7] [8] [4,7] (fun _ => True) (stE fun L' => L' = O ++ L) (by kernel_rfl) (by decide) rfl trivial (stE_mono _) rfl ?_
     iterate 2 refine GM.pv (PV.all tab_ok rfl) rfl rfl rfl rfl rfl rfl ?_
     refine GM.pv (PV.cutT tab_ok (l := 0) (h := 1) rfl rfl (.inl ⟨rfl, rfl⟩) (.inr ⟨_, _, rfl, rfl⟩) (by omega) (by omega)) rfl rfl rfl rfl rfl rfl ?_
     refine GM.pv (PV.all tab_ok rfl) rfl rfl rfl rfl rfl rfl ?_
     refine GM.turn (fun _ _ => True) ⟨[30], fun _ vs L' => ∃ v' O', vs = [v'] ∧ PS (r + 1) v' O' ∧ L' = O' ++ L⟩ (fun _ _ _ _ _ => trivial) (fun _ _ _ _ _ h => h) rfl rfl rfl rfl rfl rfl (fun i' hi L' _ vs _ hm => ?_) ?_
     · intro _
       refine ⟨rfl, ?_⟩
       subst hm
       refine OpS.call (by kernel_rfl) rfl (PS.add (p := ⟨1, s.extract 0 1, 0, false⟩) hP (by show (s.extract 0 1).size ≤ _; rw [ByteArray.size_extract]; omega) (by omega)) ?_
       rintro v' i3 L3 _ ⟨O', h1, h2⟩
       exact ⟨trivial, trivial, v', O', rfl, h1, h2⟩
     refine GM.pv (PV.all tab_ok rfl) rfl rfl rfl rfl rfl rfl ?_
     refine GM.pv (PV.cutT tab_ok (l := 1) (h := s.size) rfl rfl (.inr ⟨_, _, rfl, rfl⟩) (.inl ⟨rfl, rfl⟩) (by omega) (by omega)) rfl rfl rfl rfl rfl rfl ?_
     refine GM.turn (fun _ _ => True) ⟨[4], fun _ vs L' => ∃ v' O', vs = [v'] ∧ PS (r + 1) v' O' ∧ L' = O' ++ L⟩ (fun _ _ _ _ _ => trivial) (fun _ _ _ _ _ h => h) rfl rfl rfl rfl rfl rfl (fun i' hi L' _ vs _ hm => ?_) ?_
     · obtain ⟨v', O', rfl, h1, h2⟩ := hm
       rintro w - hw
       have := hw 0 _ _ rfl rfl rfl
       refine ⟨rfl, OpS.mono (OpS.pv (PV.assign (v := v') ?_)) ?_⟩
       · rw [sv_eq]; exact congrArg some this
       · rintro u i3 L3 _ ⟨rfl, rfl⟩
         exact ⟨trivial, trivial, u, O', rfl, h1, h2⟩
     refine GM.done rfl rfl (fun i2 L2 vs hi2 _ _ hm => ?_)
     obtain ⟨v', O', rfl, hP', rfl⟩ := hm
     rintro w - w2 - hw
     have hwv : w = v' := hw 0 _ _ rfl rfl
     subst hwv
     refine RS.pv (PV.all tab_ok rfl) rfl ?_
     refine RS.nil ?_
     repeat' (first | refine thenQ.normal ?_ | refine CS.exit ?_ | refine thenQ.exit ?_ | refine blkQ.here ?_)
     exact ⟨(s.extract 1 s.size).size, by rw [ByteArray.size_extract]; omega, _, r + 1, w, O', rfl, by rw [ByteArray.size_extract]; omega, hP', rfl, hg.le hi2, rfl⟩
 rintro g vs i L' hi ⟨rfl, hg, rfl⟩
 refine CS.cut [0, 4] (fun vs i' L' => vs = [.string s, .slice ao ps.length cap] ∧ Glb i' ∧ L' = O ++ L) ?_ ?_
 · repeat' (first | refine QS.pv (PV.all tab_ok rfl) rfl ?_ | refine CS.seq ?_ | refine thenQ.normal ?_ | refine CS.cond_true rfl ?_ | refine CS.cond_false rfl ?_ | refine CS.skip ?_ | refine CS.drawQ (id := 9) mix (by kernel_rfl) ?_ | refine QS.pv (PV.lenT tab_ok rfl rfl) rfl ?_ | refine QS.ifGtr rfl rfl rfl (fun h => ?_) (fun h => ?_) | refine QS.idxT tab_ok rfl rfl rfl rfl (by omega) (fun c hc0 hc1 => ?_) | refine QS.ifEql rfl rfl rfl (fun h => ?_) (fun h => ?_) | refine QS.nil ?_ | refine QS.skip rfl ?_)
   all_goals first | exact ⟨rfl, hg, rfl⟩ | skip
   · refine CS.drawM mix [0,1,2,3,4,5,6,7] [8] [4,7] (fun _ => True) (stE fun L' => L' = O ++ L) (by kernel_rfl) (by decide) rfl trivial (stE_mono _) rfl ?_
     iterate 2 refine GM.pv (PV.all tab_ok rfl) rfl rfl rfl rfl rfl rfl ?_
     refine GM.pv (PV.cutT tab_ok (l := 0) (h := 1) rfl rfl (.inl ⟨rfl, rfl⟩) (.inr ⟨_, _, rfl, rfl⟩) (by omega) (by omega)) rfl rfl rfl rfl rfl rfl ?_
     refine GM.pv (PV.all tab_ok rfl) rfl rfl rfl rfl rfl rfl ?_
     refine GM.turn (fun _ _ => True) ⟨[47], fun _ vs L' => ∃ v' O', vs = [v'] ∧ PS (r + 1) v' O' ∧ L' = O' ++ L⟩ (fun _ _ _ _ _ => trivial) (fun _ _ _ _ _ h => h) rfl rfl rfl rfl rfl rfl (fun i' hi L' _ vs _ hm => ?_) ?_
     · intro _
       refine ⟨rfl, ?_⟩
       subst hm
       refine OpS.call (by kernel_rfl) rfl (PS.add (p := ⟨1, s.extract 0 1, 0, false⟩) hP (by show (s.extract 0 1).size ≤ _; rw [ByteArray.size_extract]; omega) (by omega)) ?_
       rintro v' i3 L3 _ ⟨O', h1, h2⟩
       exact ⟨trivial, trivial, v', O', rfl, h1, h2⟩
     refine GM.pv (PV.all tab_ok rfl) rfl rfl rfl rfl rfl rfl ?_
     refine GM.pv (PV.cutT tab_ok (l := 2) (h := s.size) rfl rfl (.inr ⟨_, _, rfl, rfl⟩) (.inl ⟨rfl, rfl⟩) (by omega) (by omega)) rfl rfl rfl rfl rfl rfl ?_
     refine GM.turn (fun _ _ => True) ⟨[4], fun _ vs L' => ∃ v' O', vs = [v'] ∧ PS (r + 1) v' O' ∧ L' = O' ++ L⟩ (fun _ _ _ _ _ => trivial) (fun _ _ _ _ _ h => h) rfl rfl rfl rfl rfl rfl (fun i' hi L' _ vs _ hm => ?_) ?_
     · obtain ⟨v', O', rfl, h1, h2⟩ := hm
       rintro w - hw
       have := hw 0 _ _ rfl rfl rfl
       refine ⟨rfl, OpS.mono (OpS.pv (PV.assign (v := v') ?_)) ?_⟩
       · rw [sv_eq]; exact congrArg some this
       · rintro u i3 L3 _ ⟨rfl, rfl⟩
         exact ⟨trivial, trivial, u, O', rfl, h1, h2⟩
     refine GM.done rfl rfl (fun i2 L2 vs hi2 _ _ hm => ?_)
     obtain ⟨v', O', rfl, hP', rfl⟩ := hm
     rintro w - w2 - hw
     have hwv : w = v' := hw 0 _ _ rfl rfl
     subst hwv
     refine RS.pv (PV.all tab_ok rfl) rfl ?_
     refine RS.nil ?_
     repeat' (first | refine thenQ.normal ?_ | refine CS.exit ?_ | refine thenQ.exit ?_ | refine blkQ.here ?_)
     exact ⟨(s.extract 2 s.size).size, by rw [ByteArray.size_extract]; omega, _, r + 1, w, O', rfl, by rw [ByteArray.size_extract]; omega, hP', rfl, hg.le hi2, rfl⟩
 rintro g vs i L' hi ⟨rfl, hg, rfl⟩
 refine CS.seq ?_
 refine CS.region (id := 11) ?_
 iterate 2 refine RS.pv (PV.all tab_ok rfl) rfl ?_
 refine RS.nil ?_
 refine thenQ.normal ?_
 refine CS.cut [0, 4, 5, 6] (fun vs i' L' => ∃ k n : Int, vs = [.string s, .slice ao ps.length cap, .int .i64 k, .int .i64 n] ∧ 1 ≤ n ∧ n ≤ s.size ∧ Glb i' ∧ L' = O ++ L) ?_ ?_
 · repeat' (first | refine RS.pv (PV.all tab_ok rfl) rfl ?_ | refine CS.seq ?_ | refine thenQ.normal ?_ | refine CS.cond_true rfl ?_ | refine CS.cond_false rfl ?_ | refine CS.skip ?_ | refine CS.region ?_ | refine RS.idxT tab_ok rfl rfl rfl rfl (by omega) (fun c hc0 hc1 => ?_) | refine RS.ifEql rfl rfl rfl (fun h => ?_) (fun h => ?_) | refine RS.pv (PV.lenT tab_ok rfl rfl) rfl ?_ | refine RS.ifGtr rfl rfl rfl (fun h => ?_) (fun h => ?_) | (refine RS.call (IndexByte_t _ _ _ _) rfl (by kernel_rfl) rfl ?_; rintro _ i L - ⟨x, rfl, hx0, hx1, rfl, rfl⟩) | refine RS.pv (PV.maxI rfl rfl) rfl ?_ | refine RS.nil ?_ | refine RS.skip rfl ?_)
   all_goals exact ⟨_, _, rfl, by omega, by omega, hg, rfl⟩
 rintro g vs i L' hi ⟨k, n, rfl, hn1, hn2, hg, rfl⟩
 refine CS.cut [0, 4, 5, 6] (fun vs i' L' => ∃ k n : Int, vs = [.string s, .slice ao ps.length cap, .int .i64 k, .int .i64 n] ∧ 1 ≤ n ∧ n ≤ s.size ∧ Glb i' ∧ L' = O ++ L) ?_ ?_
 · repeat' (first | refine RS.pv (PV.all tab_ok rfl) rfl ?_ | refine CS.seq ?_ | refine thenQ.normal ?_ | refine CS.cond_true rfl ?_ | refine CS.cond_false rfl ?_ | refine CS.skip ?_ | refine CS.block ?_ | refine CS.region ?_ | refine RS.idxT tab_ok rfl rfl rfl rfl (by omega) (fun c hc0 hc1 => ?_) | refine RS.ifEql rfl rfl rfl (fun h => ?_) (fun h => ?_) | refine RS.nil ?_)
   all_goals first | exact ⟨_, _, rfl, by omega, by omega, hg, rfl⟩ | skip
   refine CS.loop [0, 4, 6] (fun m vs i' L' => ∃ n : Int, m = (s.size - n).toNat ∧ 1 ≤ n ∧ n ≤ s.size ∧ vs = [.string s, .slice ao ps.length cap, .int .i64 n] ∧ Glb i' ∧ L' = O ++ L) _ ⟨n, rfl, by omega, by omega, rfl, hg, rfl⟩ ?_
   rintro m g vs i2 L2 hi2 ⟨n, rfl, hn1, hn2, rfl, hg, rfl⟩
   repeat' (first | refine RS.pv (PV.all tab_ok rfl) rfl ?_ | refine CS.seq ?_ | refine thenQ.normal ?_ | refine CS.cond_true rfl ?_ | refine CS.cond_false rfl ?_ | refine CS.skip ?_ | refine CS.block ?_ | refine CS.exit ?_ | refine thenQ.exit ?_ | refine blkQ.normal ?_ | refine blkQ.here ?_ | refine CS.region (id := 17) ?_ | refine CS.region (id := 18) ?_ | refine CS.region (id := 19) ?_ | refine RS.pv (PV.lenT tab_ok rfl rfl) rfl ?_ | refine RS.ifLss rfl rfl rfl (fun h => ?_) (fun h => ?_) | refine RS.idxT tab_ok rfl rfl rfl rfl (by omega) (fun c hc0 hc1 => ?_) | refine RS.ifGeq rfl rfl rfl (fun h => ?_) (fun h => ?_) | refine RS.ifLeq rfl rfl rfl (fun h => ?_) (fun h => ?_) | refine RS.pv (PV.add rfl rfl (by omega)) rfl ?_ | refine RS.cutLH tab_ok rfl rfl rfl rfl rfl (by omega) (fun s1 hs1 => ?_) | (refine RS.call (kind_t _ _ _) rfl (by kernel_rfl) rfl ?_; rintro _ i2 L hi2 ⟨⟨x, rfl, hx0, hx1⟩, rfl⟩; replace hg := hg.le hi2) | refine RS.nil ?_ | refine RS.skip rfl ?_)
   all_goals first | exact ⟨_, _, rfl, by omega, by omega, hg, rfl⟩ | exact ⟨(s.size - (n + 1)).toNat, by omega, n + 1, rfl, by omega, by omega, rfl, hg, rfl⟩
 rintro g vs i L' hi ⟨k, n, rfl, hn1, hn2, hg, rfl⟩
 repeat' (first | refine RS.pv (PV.all tab_ok rfl) rfl ?_ | refine CS.seq ?_ | refine thenQ.normal ?_ | refine CS.cond_true rfl ?_ | refine CS.cond_false rfl ?_ | refine CS.skip ?_ | refine CS.ret ?_ | refine thenQ.ret ?_ | refine blkQ.ret ?_ | refine retQ.ret ?_ | refine blkQ.normal ?_ | refine CS.region (id := 20) ?_ | refine CS.region (id := 21) ?_ | refine CS.region (id := 22) ?_ | refine CS.region (id := 23) ?_ | refine RS.cutLo tab_ok rfl rfl rfl rfl (by omega) (fun s' hs' => ?_) | (refine RS.call (place_t _ _ _ _ hg (by show ByteArray.size _ ≤ _; omega)) rfl (by kernel_rfl) rfl ?_; rintro _ i2 _ hi2 ⟨⟨p, rest, okp, rfl, hp1, hp2⟩, rfl⟩; replace hg := hg.le hi2; cases okp) | refine RS.alloc tab_ok rfl rfl (fun b => ?_) | refine RS.store (k := 0) tab_ok rfl rfl rfl rfl rfl rfl rfl rfl ?_ | refine RS.lv (LV.load tab_ok rfl (Has.own 0 rfl) rfl) rfl ?_ | (refine RS.perm (L' := O ++ (_ :: L)) (List.perm_middle.symm) ?_; refine RS.call (PS.add (p := p) hP (by omega) (by omega)) rfl (by kernel_rfl) rfl ?_; rintro v' i3 _ hi3 ⟨O', hP', rfl⟩; replace hg := hg.le hi3; refine RS.garb O' [_] L ?_; obtain ⟨ao', cap', ps', rfl, -, -, -⟩ := id hP') | refine RS.nil ?_)
 all_goals first
  | exact ⟨_ :: O, ⟨_, _, _, _, rfl⟩, rfl⟩
  | exact ⟨rest.size, by omega, rest, r + 1, _, O', rfl, by omega, hP', rfl, hg, rfl⟩
theorem Check9_t (s : ByteArray) (i : Imm) (L : SH) (hg : Glb i) (hs : shortT s) :
 FnS Tryz.prog 181 [.string s] i L fun v i' L' => (∃ e, v = .int .i64 e) ∧ L' = L := by
 refine FnS.intro1 Tryz.func181 rfl Tryz.ntmps181 (by simp) Tryz.results181 ?_
 repeat' (first | refine RS.pv (PV.all tab_ok rfl) rfl ?_ | refine CS.seq ?_ | refine thenQ.normal ?_ | refine CS.ret ?_ | refine retQ.ret ?_ | refine CS.region ?_ | (refine RS.call (Parse9_t s _ _ hg hs) rfl (by kernel_rfl) rfl ?_; rintro _ i L hi ⟨⟨u1, u2, u3, e, rfl⟩, rfl⟩) | refine RS.nil ?_)
 exact ⟨⟨e, rfl⟩, rfl⟩
end Go.Proofs.YtckdkhhpjnefpaaGreatDoor
namespace Go.Proofs.YtckdkhhpjnefpaaGreatDoor
set_option maxHeartbeats 4000000
open Go Go.Eng
def PrT (s : ByteArray) : Prop := ∀ (m : Nat) (b : UInt8), s[m]? = some b → 32 ≤ (b.toNat : Int) ∧ (b.toNat : Int) ≤ 126
theorem byteOK_e (c : Int) (i : Imm) (L : SH) :
 FnS Tryz.prog 289 [.int .u8 c] i L fun v i' L' => ∃ b, v = .bool b ∧ (b = true → 32 ≤ c ∧ c ≤ 126) ∧ i' = i ∧ L' = L := by
 refine FnS.intro1 Tryz.func289 rfl Tryz.ntmps289 (by simp) Tryz.results289 ?_
 repeat' (first | refine RS.pv (PV.all tab_ok rfl) rfl ?_ | refine CS.seq ?_ | refine thenQ.normal ?_ | refine CS.ret ?_ | refine retQ.ret ?_ | refine CS.region ?_ | refine RS.ifGeq rfl rfl rfl (fun h => ?_) (fun h => ?_) | refine RS.ifLeq rfl rfl rfl (fun h => ?_) (fun h => ?_) | refine RS.nil ?_ | refine RS.skip rfl ?_)
 all_goals first | exact ⟨_, rfl, (fun (h : false = true) => Bool.noConfusion h), rfl, rfl⟩ | exact ⟨_, rfl, (fun _ => by omega), rfl, rfl⟩
theorem Printable2_e (s : ByteArray) (i : Imm) (L : SH) (hs : shortT s) :
 FnS Tryz.prog 243 [.string s] i L fun v i' L' => ∃ b, v = .bool b ∧ (b = true → PrT s) ∧ i' = i ∧ L' = L := by
 refine FnS.intro1 Tryz.func243 rfl Tryz.ntmps243 (by simp) Tryz.results243 ?_
 repeat' (first | refine RS.pv (PV.all tab_ok rfl) rfl ?_ | refine CS.seq ?_ | refine thenQ.normal ?_ | refine CS.block ?_ | refine CS.region (id := 0) ?_ | refine CS.region (id := 1) ?_ | refine RS.nil ?_)
 refine CS.loop [0, 3] (fun m vs i' L' => ∃ k : Nat, m = s.size - k ∧ k ≤ s.size ∧ (∀ (m : Nat) (b : UInt8), m < k → s[m]? = some b → 32 ≤ (b.toNat : Int) ∧ (b.toNat : Int) ≤ 126) ∧ vs = [.string s, .int .i64 (k : Int)] ∧ i' = i ∧ L' = L) s.size ⟨0, rfl, Nat.zero_le _, fun m b hm => absurd hm (by omega), rfl, rfl, rfl⟩ ?_
 rintro m g vs i' L' hi ⟨k, rfl, hk, hpre, rfl, rfl, rfl⟩
 by_cases hlt : k < s.size
 · obtain ⟨c, hc⟩ := Go.Eng.byte_at hlt
   repeat' (first | refine RS.pv (PV.all tab_ok rfl) rfl ?_ | refine CS.seq ?_ | refine thenQ.normal ?_ | refine CS.cond_true rfl ?_ | refine CS.cond_false rfl ?_ | refine CS.skip ?_ | refine CS.ret ?_ | refine thenQ.ret ?_ | refine blkQ.ret ?_ | refine retQ.ret ?_ | refine CS.block ?_ | refine blkQ.normal ?_ | refine CS.region ?_ | refine RS.pv (PV.lenT tab_ok rfl rfl) rfl ?_ | refine RS.pv (PV.lssT rfl rfl (by omega)) rfl ?_ | refine RS.pv (PV.add rfl rfl (by omega)) rfl ?_ | refine RS.pv (PV.indexS tab_ok rfl rfl rfl (by omega) hc) rfl ?_ | (refine RS.callY _ (byteOK_e _ _ _) rfl (by kernel_rfl) rfl ?_ ?_ <;> rintro i L - ⟨hok, rfl, rfl⟩) | refine RS.nil ?_)
   · refine ⟨s.size - (k + 1), by omega, k + 1, rfl, by omega, fun m b hm hb => ?_, rfl, rfl, rfl⟩
     rcases Nat.lt_succ_iff_lt_or_eq.1 hm with hm | rfl
     · exact hpre m b hm hb
     · rw [hc] at hb; cases hb; exact hok rfl
   · exact ⟨_, rfl, (fun (h : false = true) => Bool.noConfusion h), rfl, rfl⟩
 · repeat' (first | refine RS.pv (PV.all tab_ok rfl) rfl ?_ | refine CS.seq ?_ | refine thenQ.normal ?_ | refine CS.cond_false rfl ?_ | refine CS.ret ?_ | refine retQ.ret ?_ | refine CS.exit ?_ | refine thenQ.exit ?_ | refine blkQ.here ?_ | refine CS.region (id := 2) ?_ | refine CS.region (id := 6) ?_ | refine RS.pv (PV.lenT tab_ok rfl rfl) rfl ?_ | refine RS.pv (PV.lssF rfl rfl (by omega)) rfl ?_ | refine RS.nil ?_)
   exact ⟨_, rfl, (fun _ m b hb => hpre m b (by
    rcases Nat.lt_or_ge m s.size with h | h
    · omega
    · have : s[m]? = none := by simp [h]
      rw [this] at hb; cases hb) hb), rfl, rfl⟩
theorem set_t (p : ByteArray) (k : Int) (be : Nat) (cs : List Value) (i : Imm) (L : SH) (hp : PrT p) (hs : shortT p) (hk : 1 ≤ k ∧ k ≤ p.size) (hcs : boolsL cs) (hl : cs.length = 130) :
 FnS Tryz.prog 254 [.string p, .int .i64 k, .pointer (some ⟨be, 0, none⟩)] i ((be, .cells cs.toArray 314 (0, 0)) :: L) fun v i' L' => ∃ e b cs', v = .tuple #[.int .i64 e, .bool b] ∧ (b = true → k ≤ e ∧ e < p.size) ∧ boolsL cs' ∧ cs'.length = 130 ∧ L' = (be, .cells (List.toArray cs') 314 (0, 0)) :: L := by
 refine FnS.state (K := fun v i' L' => ∃ x e b cs', v = .tuple #[.int .i64 e, .bool b] ∧ (b = true → k ≤ e ∧ e < p.size) ∧ boolsL cs' ∧ cs'.length = 130 ∧ L' = x :: (be, .cells (List.toArray cs') 314 (0, 0)) :: L) ?_ ?_
 rotate_left
 · rintro v i' L' w _ hs ⟨x, e, b, cs', h1, h2, h3, h4, rfl⟩
   exact ⟨i', _, Imm.le.refl i', hs.drop, e, b, cs', h1, h2, h3, h4, rfl⟩
 refine FnS.intro2 Tryz.func254 rfl Tryz.ntmps254 (by simp) Tryz.results254 ?_
 repeat' (first | refine RS.pv (PV.all tab_ok rfl) rfl ?_ | refine CS.seq ?_ | refine thenQ.normal ?_ | refine CS.cond_true rfl ?_ | refine CS.cond_false rfl ?_ | refine CS.skip ?_ | refine CS.block ?_ | refine CS.region (id := 0) ?_ | refine CS.region (id := 1) ?_ | refine CS.region (id := 2) ?_ | refine CS.region (id := 3) ?_ | refine CS.region (id := 4) ?_ | refine CS.region (id := 5) ?_ | refine RS.pv (PV.lenT tab_ok rfl rfl) rfl ?_ | refine RS.ifLss rfl rfl rfl (fun h => ?_) (fun h => ?_) | refine RS.idxR (fun c => 32 ≤ c ∧ c ≤ 126) tab_ok hp rfl rfl rfl rfl (by omega) (fun c hc0 hc1 hcR => ?_) | refine RS.ifEql rfl rfl rfl (fun h => ?_) (fun h => ?_) | refine RS.pv (PV.add rfl rfl (by omega)) rfl ?_ | refine RS.alloc tab_ok rfl rfl (fun bi => ?_) | refine RS.nil ?_ | refine RS.skip rfl ?_)
 all_goals
  refine CS.loop [0, 1, 2, 8, 9, 10] (fun m vs i' L' => ∃ (x fi : Int) (nb : Bool) (ics : List Value), m = (p.size - x).toNat ∧ k ≤ x ∧ x ≤ p.size ∧ boolsL ics ∧ ics.length = 128 ∧ vs = [.string p, .int .i64 x, .pointer (some ⟨be, 0, none⟩), .bool nb, .int .i64 fi, .pointer (some ⟨bi, 0, none⟩)] ∧ i' = i ∧ L' = (bi, .cells (List.toArray ics) 312 (0, 0)) :: (be, .cells (List.toArray cs) 314 (0, 0)) :: L) _ ⟨_, _, _, List.replicate 128 (.bool false), rfl, by omega, by omega, boolsL.rep 128, by simp, rfl, rfl, rfl⟩ ?_
  rintro m g vs i L hi ⟨x, fi, nb, ics, rfl, hx1, hx2, hb, hil, rfl, rfl, rfl⟩
  repeat' (first | refine RS.pv (PV.all tab_ok rfl) rfl ?_ | refine QS.pv (PV.all tab_ok rfl) rfl ?_ | refine CS.seq ?_ | refine thenQ.normal ?_ | refine CS.cond_true rfl ?_ | refine CS.cond_false rfl ?_ | refine CS.skip ?_ | refine CS.ret ?_ | refine thenQ.ret ?_ | refine blkQ.ret ?_ | refine retQ.ret ?_ | refine CS.block ?_ | refine CS.exit ?_ | refine thenQ.exit ?_ | refine blkQ.normal ?_ | refine blkQ.here ?_ | refine CS.region (id := 6) ?_ | refine CS.region (id := 7) ?_ | refine CS.drawQ (id := 8) mix (by kernel_rfl) ?_ | refine CS.region (id := 9) ?_ | refine CS.region (id := 10) ?_ | refine CS.region (id := 15) ?_ | refine CS.region (id := 16) ?_ | refine CS.region (id := 17) ?_ | refine CS.region (id := 18) ?_ | refine CS.region (id := 19) ?_ | refine RS.pv (PV.add rfl rfl (by omega)) rfl ?_ | refine RS.pv (PV.lenT tab_ok rfl rfl) rfl ?_ | refine RS.pv (PV.lssF rfl rfl (by omega)) rfl ?_ | refine RS.ifLss rfl rfl rfl (fun h => ?_) (fun h => ?_) | refine RS.idxR (fun c => 32 ≤ c ∧ c ≤ 126) tab_ok hp rfl rfl rfl rfl (by omega) (fun c hc0 hc1 hcR => ?_) | refine RS.ifNeq rfl rfl rfl (fun h => ?_) (fun h => ?_) | refine RS.ifEql rfl rfl rfl (fun h => ?_) (fun h => ?_) | refine QS.idxR (fun c => 32 ≤ c ∧ c ≤ 126) tab_ok hp rfl rfl rfl rfl (by omega) (fun c hc0 hc1 hcR => ?_) | refine QS.pv (PV.add rfl rfl (by omega)) rfl ?_ | refine QS.ifGtr rfl rfl rfl (fun h => ?_) (fun h => ?_) | refine RS.pv (PV.toI tab_ok ⟨_, rfl⟩ ⟨_, rfl, rfl⟩ rfl (by omega)) rfl ?_ | refine RS.pv (PV.indexAddrA tab_ok rfl rfl rfl (by omega)) rfl ?_ | (refine RS.op (OpS.store1 (k := 0) (off := 0 + c.toNat * 1) tab_ok rfl rfl rfl rfl rfl (by omega)) rfl ?_; rintro _ _ _ - ⟨rfl, rfl⟩) | refine RS.pv (PV.geqT rfl rfl (by omega)) rfl ?_ | refine RS.pv (PV.geqF rfl rfl (by omega)) rfl ?_ | refine RS.nil ?_ | refine QS.nil ?_ | refine RS.skip rfl ?_)
  all_goals first
   | exact ⟨_, _, _, cs, rfl, (fun (h : false = true) => Bool.noConfusion h), hcs, hl, rfl⟩
   | exact ⟨(p.size - (x + 1)).toNat, by omega, x + 1, fi, nb, _, rfl, by omega, by omega, hb.set _ _, by rw [List.length_set]; exact hil, rfl, rfl, rfl⟩
   | skip
  all_goals first
   | (refine CS.loop [0, 1, 2, 8, 9, 10, 11] (fun m vs i' L' => ∃ (c : Int) (ics : List Value), m = (127 - c).toNat ∧ 0 ≤ c ∧ c ≤ 127 ∧ boolsL ics ∧ ics.length = 128 ∧ vs = [.string p, .int .i64 x, .pointer (some ⟨be, 0, none⟩), .bool nb, .int .i64 fi, .pointer (some ⟨bi, 0, none⟩), .int .i64 c] ∧ i' = i ∧ L' = (bi, .cells (List.toArray ics) 312 (0, 0)) :: (be, .cells (List.toArray cs) 314 (0, 0)) :: L) _ ⟨_, ics, rfl, by omega, by omega, hb, hil, rfl, rfl, rfl⟩ ?_
      rintro m g vs i L hi ⟨c2, ics, rfl, hc2, hc3, hb, hil, rfl, rfl, rfl⟩
      repeat' (first | refine RS.pv (PV.all tab_ok rfl) rfl ?_ | refine CS.seq ?_ | refine thenQ.normal ?_ | refine CS.cond_true rfl ?_ | refine CS.cond_false rfl ?_ | refine CS.skip ?_ | refine CS.block ?_ | refine CS.exit ?_ | refine thenQ.exit ?_ | refine blkQ.normal ?_ | refine blkQ.here ?_ | refine CS.region ?_ | refine RS.pv (PV.add rfl rfl (by omega)) rfl ?_ | refine RS.pv (PV.toI tab_ok ⟨_, rfl⟩ ⟨_, rfl, rfl⟩ rfl (by omega)) rfl ?_ | refine RS.idxR (fun c => 32 ≤ c ∧ c ≤ 126) tab_ok hp rfl rfl rfl rfl (by omega) (fun c hc0 hc1 hcR => ?_) | refine RS.ifLeq rfl rfl rfl (fun h => ?_) (fun h => ?_) | refine RS.pv (PV.indexAddrA tab_ok rfl rfl rfl (by omega)) rfl ?_ | (refine RS.op (OpS.store1 (k := 0) (off := 0 + c2.toNat * 1) tab_ok rfl rfl rfl rfl rfl (by omega)) rfl ?_; rintro _ _ _ - ⟨rfl, rfl⟩) | refine RS.nil ?_)
      all_goals first
       | exact ⟨(127 - (c2 + 1)).toNat, by omega, c2 + 1, _, rfl, by omega, by omega, hb.set _ _, by rw [List.length_set]; exact hil, rfl, rfl, rfl⟩
       | exact ⟨(p.size - (x + 3)).toNat, by omega, x + 3, fi, nb, ics, rfl, by omega, by omega, hb, hil, rfl, rfl, rfl⟩)
   | (refine CS.loop [1, 2, 8, 10, 12] (fun m vs i' L' => ∃ (c : Int) (cs : List Value), m = (127 - c).toNat ∧ 32 ≤ c ∧ c ≤ 127 ∧ boolsL cs ∧ cs.length = 130 ∧ vs = [.int .i64 x, .pointer (some ⟨be, 0, none⟩), .bool nb, .pointer (some ⟨bi, 0, none⟩), .int .i64 c] ∧ L' = (bi, .cells (List.toArray ics) 312 (0, 0)) :: (be, .cells (List.toArray cs) 314 (0, 0)) :: L) _ ⟨_, cs, rfl, by omega, by omega, hcs, hl, rfl, rfl⟩ ?_
      rintro m g vs i L hi ⟨c2, cs, rfl, hc2, hc3, hcs, hl, rfl, rfl⟩
      by_cases hlt : c2 ≤ 126
      · repeat' (first | refine RS.pv (PV.all tab_ok rfl) rfl ?_ | refine CS.seq ?_ | refine thenQ.normal ?_ | refine CS.cond_true rfl ?_ | refine CS.skip ?_ | refine CS.block ?_ | refine CS.region (id := 20) ?_ | refine RS.pv (PV.leqT rfl rfl (by omega)) rfl ?_ | refine RS.nil ?_)
        obtain ⟨bb, hbb⟩ := hb.at (k := c2.toNat) (by omega)
        have q1 : ics[0 + c2.toNat * 1]? = some (.bool bb) := by rw [Nat.zero_add, Nat.mul_one]; exact hbb
        refine CS.draw0 mix [0,1,2,3,4,5,6,7,8,9] [10] (by kernel_rfl) rfl ?_
        iterate 3 refine GS.pv (PV.all tab_ok rfl) rfl rfl rfl rfl rfl rfl ?_
        (refine GS.pv (PV.indexAddrA tab_ok rfl rfl rfl (by omega)) rfl rfl rfl rfl rfl rfl ?_)
        refine GS.lv (fun _ _ => LV.load1 tab_ok rfl (Has.own 0 rfl) rfl q1) rfl rfl rfl rfl rfl rfl ?_
        refine GS.pv (PV.all tab_ok rfl) rfl rfl rfl rfl rfl rfl ?_
        refine GS.pv (PV.bneq tab_ok ⟨_, rfl, rfl⟩ rfl rfl) rfl rfl rfl rfl rfl rfl ?_
        iterate 2 refine GS.pv (PV.all tab_ok rfl) rfl rfl rfl rfl rfl rfl ?_
        (refine GS.pv (PV.indexAddrA tab_ok rfl rfl rfl (by omega)) rfl rfl rfl rfl rfl rfl ?_)
        refine GS.done rfl rfl (fun i2 hi2 => ?_)
        refine RS.op (OpS.store1 (k := 1) (off := 0 + 2 + c2.toNat * 1) tab_ok rfl rfl rfl rfl rfl (by omega)) rfl ?_
        rintro _ _ _ - ⟨rfl, rfl⟩
        refine RS.nil ?_
        repeat' (first | refine RS.pv (PV.all tab_ok rfl) rfl ?_ | refine thenQ.normal ?_ | refine blkQ.normal ?_ | refine CS.region (id := 21) ?_ | refine RS.pv (PV.add rfl rfl (by omega)) rfl ?_ | refine RS.nil ?_)
        exact ⟨(127 - (c2 + 1)).toNat, by omega, c2 + 1, _, rfl, by omega, by omega, hcs.set _ _, by rw [List.length_set]; exact hl, rfl, rfl⟩
      · repeat' (first | refine RS.pv (PV.all tab_ok rfl) rfl ?_ | refine CS.seq ?_ | refine thenQ.normal ?_ | refine CS.cond_false rfl ?_ | refine CS.ret ?_ | refine retQ.ret ?_ | refine CS.exit ?_ | refine thenQ.exit ?_ | refine blkQ.here ?_ | refine CS.region (id := 20) ?_ | refine CS.region (id := 23) ?_ | refine RS.pv (PV.leqF rfl rfl (by omega)) rfl ?_ | refine RS.nil ?_)
        all_goals exact ⟨_, _, _, cs, rfl, (fun _ => by omega), hcs, hl, rfl⟩)
theorem boolsL_nil : boolsL [] := fun c hc => by cases hc
def OutS (r : Nat) (v : Value) (Oe Oo : SH) : Prop := ∃ g cap m xs ao q cp ys, v = .slice (some ⟨g, 0, none⟩) m cap ∧ 0 < m ∧ m ≤ r + 1 ∧ SlO 296 v 1 m xs Oo ∧ xs[m - 1]? = some (.slice ao q cp) ∧ SlO 314 (.slice ao q cp) 130 q ys Oe ∧ boolsL ys ∧ q ≤ r
theorem Parse2_t (p : ByteArray) (i : Imm) (L : SH) (hs : p.size ≤ 256) :
 FnS Tryz.prog 188 [.string p] i L fun v i' L' => (∃ ao n c b, v = .tuple #[.slice ao n c, .bool b]) ∧ L' = L := by
 refine FnS.drop ?_
 refine FnS.intro2 Tryz.func188 rfl Tryz.ntmps188 (by simp) Tryz.results188 ?_
 repeat' (first | refine RS.pv (PV.all tab_ok rfl) rfl ?_ | refine CS.seq ?_ | refine thenQ.normal ?_ | refine CS.cond_true rfl ?_ | refine CS.cond_false rfl ?_ | refine CS.skip ?_ | refine CS.ret ?_ | refine thenQ.ret ?_ | refine retQ.ret ?_ | refine CS.region (id := 0) ?_ | refine CS.region (id := 1) ?_ | refine CS.region (id := 2) ?_ | (refine RS.callY _ (Printable2_e _ _ _ (by show ByteArray.size _ ≤ _; omega)) rfl (by kernel_rfl) rfl ?_ ?_ <;> rintro i L - ⟨hok, rfl, rfl⟩) | refine RS.nil ?_)
 rotate_left
 · exact ⟨[], ⟨_, _, _, _, rfl⟩, rfl⟩
 have hp := hok rfl
 repeat' (first | refine RS.pv (PV.all tab_ok rfl) rfl ?_ | refine CS.seq ?_ | refine thenQ.normal ?_ | refine CS.block ?_ | refine CS.region (id := 3) ?_ | refine CS.region (id := 4) ?_ | refine RS.buildSlice tab_ok rfl rfl (fun g0 => ?_) | refine RS.nil ?_)
 refine CS.loop [0, 4, 5] (fun m vs i' L' => ∃ (k : Nat) (v : Value) (Oe Oo : SH), m = p.size - k ∧ k ≤ p.size ∧ OutS k v Oe Oo ∧ vs = [.string p, v, .int .i64 (k : Int)] ∧ L' = Oe ++ (Oo ++ L)) p.size ⟨0, _, [], _, rfl, Nat.zero_le _, ⟨g0, 1, 1, [.slice none 0 0], none, 0, 0, [], rfl, by omega, by omega, SlO.built 296 1 1 g0 _ rfl, rfl, SlO.nil 314 130, boolsL_nil, by omega⟩, rfl, rfl⟩ ?_
 rintro m g vs i L' hi ⟨k, v, Oe, Oo, rfl, hk, hO, rfl, rfl⟩
 have hO' := hO
 obtain ⟨gb, cap, m, xs, ao, q, cp, ys, rfl, hm0, hm1, hxs, hlast, hys, hyb, hq⟩ := hO'
 by_cases hlt : k < p.size
 rotate_left
 · repeat' (first | refine RS.pv (PV.all tab_ok rfl) rfl ?_ | refine CS.seq ?_ | refine thenQ.normal ?_ | refine CS.cond_false rfl ?_ | refine CS.ret ?_ | refine retQ.ret ?_ | refine CS.exit ?_ | refine thenQ.exit ?_ | refine blkQ.here ?_ | refine CS.region (id := 5) ?_ | refine CS.region (id := 26) ?_ | refine RS.pv (PV.lenT tab_ok rfl rfl) rfl ?_ | refine RS.pv (PV.lssF rfl rfl (by omega)) rfl ?_ | refine RS.nil ?_)
   exact ⟨Oe ++ Oo, ⟨_, _, _, _, rfl⟩, by rw [List.append_assoc]⟩
 repeat' (first | refine RS.pv (PV.all tab_ok rfl) rfl ?_ | refine CS.seq ?_ | refine thenQ.normal ?_ | refine CS.cond_true rfl ?_ | refine CS.skip ?_ | refine CS.block ?_ | refine CS.region (id := 5) ?_ | refine RS.pv (PV.lenT tab_ok rfl rfl) rfl ?_ | refine RS.pv (PV.lssT rfl rfl (by omega)) rfl ?_ | refine RS.nil ?_)
 refine CS.region (id := 7) ?_
 refine RS.alloc tab_ok rfl rfl (fun be => ?_)
 refine RS.nil ?_
 refine thenQ.normal ?_
 refine CS.cut [0, 4, 5, 6] (fun vs i' L' => ∃ (e : Int) (cs : List Value), vs = [.string p, .slice (some ⟨gb, 0, none⟩) m cap, .int .i64 e, .pointer (some ⟨be, 0, none⟩)] ∧ (k : Int) ≤ e ∧ e < p.size ∧ boolsL cs ∧ cs.length = 130 ∧ L' = (be, .cells (List.toArray cs) 314 (0, 0)) :: (Oe ++ (Oo ++ L))) ?_ ?_
 · repeat' (first | refine RS.pv (PV.all tab_ok rfl) rfl ?_ | refine CS.seq ?_ | refine thenQ.normal ?_ | refine CS.cond_true rfl ?_ | refine CS.cond_false rfl ?_ | refine CS.block ?_ | refine blkQ.normal ?_ | refine CS.region (id := 8) ?_ | refine CS.region (id := 10) ?_ | refine CS.region (id := 12) ?_ | refine CS.region (id := 13) ?_ | refine CS.region (id := 14) ?_ | refine CS.region (id := 15) ?_ | refine CS.region (id := 19) ?_ | refine RS.idxR (fun c => 32 ≤ c ∧ c ≤ 126) tab_ok hp rfl rfl rfl rfl (by omega) (fun c hc0 hc1 hcR => ?_) | refine RS.ifEql rfl rfl rfl (fun h => ?_) (fun h => ?_) | (refine RS.op (OpS.store1 (k := 0) (cs := List.replicate 130 (.bool false)) tab_ok rfl rfl rfl rfl rfl (by simp)) rfl ?_; rintro _ _ _ - ⟨rfl, rfl⟩) | refine RS.nil ?_)
   · refine CS.garb0 ((be, _) :: Oe) (Oo ++ L) ?_
     refine CS.region (id := 11) ?_
     refine RS.pv (PV.all tab_ok rfl) rfl ?_
     refine RS.buildSliceF tab_ok 1 rfl rfl rfl (fun b i' hi' hs2 => ?_)
     refine RS.app tab_ok (sz := 1) (bytes := 24) (m := 1) rfl rfl rfl hxs (hs2.rd _) ⟨_, rfl, rfl⟩ ⟨_, rfl, rfl, rfl⟩ (by omega) (allOne rfl) (by omega) (by omega) ?_
     intro ao' cap' O' hO'
     obtain ⟨g2, rfl⟩ := hO'.addr.2.resolve_left (by omega)
     refine RS.pv (PV.all tab_ok rfl) rfl ?_
     refine RS.nil ?_
     repeat' (first | refine RS.pv (PV.all tab_ok rfl) rfl ?_ | refine thenQ.normal ?_ | refine CS.exit ?_ | refine thenQ.exit ?_ | refine blkQ.here ?_ | refine blkQ.past rfl ?_ | refine CS.region ?_ | refine RS.pv (PV.add rfl rfl (by omega)) rfl ?_ | refine RS.nil ?_)
     have hxl := hxs.1
     exact ⟨p.size - (k + 1), by omega, k + 1, _, [], O', rfl, by omega, ⟨g2, cap', m + 1, _, none, 0, 0, [], rfl, by omega, by omega, hO', by rw [List.getElem?_append_right (by omega)]; rw [show m + 1 - 1 - xs.length = 0 by omega]; rfl, SlO.nil 314 130, boolsL_nil, by omega⟩, rfl, rfl⟩
   · exact ⟨k, _, rfl, by omega, by omega, (boolsL.rep 130).set _ _, by simp, rfl⟩
   · refine CS.loop [0, 4, 5, 6, 7] (fun m1 vs i' L' => ∃ (c : Int) (cs : List Value), m1 = (127 - c).toNat ∧ 32 ≤ c ∧ c ≤ 127 ∧ boolsL cs ∧ cs.length = 130 ∧ vs = [.string p, .slice (some ⟨gb, 0, none⟩) m cap, .int .i64 (k : Int), .pointer (some ⟨be, 0, none⟩), .int .i64 c] ∧ L' = (be, .cells (List.toArray cs) 314 (0, 0)) :: (Oe ++ (Oo ++ L))) _ ⟨32, List.replicate 130 (.bool false), rfl, by omega, by omega, boolsL.rep 130, by simp, rfl, rfl⟩ ?_
     rintro m1 g vs i L' hi ⟨c2, cs, rfl, hc2, hc3, hcs, hl, rfl, rfl⟩
     repeat' (first | refine RS.pv (PV.all tab_ok rfl) rfl ?_ | refine CS.seq ?_ | refine thenQ.normal ?_ | refine CS.cond_true rfl ?_ | refine CS.cond_false rfl ?_ | refine CS.skip ?_ | refine CS.block ?_ | refine CS.exit ?_ | refine thenQ.exit ?_ | refine blkQ.normal ?_ | refine blkQ.here ?_ | refine CS.region ?_ | refine RS.pv (PV.add rfl rfl (by omega)) rfl ?_ | refine RS.ifLeq rfl rfl rfl (fun h => ?_) (fun h => ?_) | refine RS.pv (PV.indexAddrA tab_ok rfl rfl rfl (by omega)) rfl ?_ | (refine RS.op (OpS.store1 (k := 0) (off := 0 + 2 + c2.toNat * 1) tab_ok rfl rfl rfl rfl rfl (by omega)) rfl ?_; rintro _ _ _ - ⟨rfl, rfl⟩) | refine RS.nil ?_)
     all_goals first
      | exact ⟨(127 - (c2 + 1)).toNat, by omega, c2 + 1, _, rfl, by omega, by omega, hcs.set _ _, by rw [List.length_set]; exact hl, rfl, rfl⟩
      | exact ⟨k, _, rfl, by omega, by omega, hcs, hl, rfl⟩
   · refine CS.region (id := 20) ?_
     iterate 2 refine RS.pv (PV.all tab_ok rfl) rfl ?_
     refine RS.pv (PV.add rfl rfl (by omega)) rfl ?_
     refine RS.call (set_t p ((k : Int) + 1) be (List.replicate 130 (.bool false)) _ _ hp (by show p.size ≤ _; omega) (by omega) (boolsL.rep 130) (by simp)) rfl (by kernel_rfl) rfl ?_
     rintro _ i2 _ hi2 ⟨e, b, cs, rfl, he, hcs, hl, rfl⟩
     cases b
     · refine RS.pv (PV.all tab_ok rfl) rfl ?_
       iterate 4 refine RS.pv (PV.all tab_ok rfl) rfl ?_
       refine RS.nil ?_
       repeat' (first | refine RS.pv (PV.all tab_ok rfl) rfl ?_ | refine CS.seq ?_ | refine thenQ.normal ?_ | refine CS.cond_true rfl ?_ | refine CS.ret ?_ | refine thenQ.ret ?_ | refine blkQ.ret ?_ | refine retQ.ret ?_ | refine CS.region (id := 21) ?_ | refine CS.region (id := 22) ?_ | refine RS.nil ?_)
       exact ⟨_ :: (Oe ++ Oo), ⟨_, _, _, _, rfl⟩, by rw [List.cons_append, List.append_assoc]⟩
     · have he := he rfl
       iterate 5 refine RS.pv (PV.all tab_ok rfl) rfl ?_
       refine RS.nil ?_
       repeat' (first | refine RS.pv (PV.all tab_ok rfl) rfl ?_ | refine CS.seq ?_ | refine thenQ.normal ?_ | refine CS.cond_false rfl ?_ | refine CS.skip ?_ | refine blkQ.normal ?_ | refine CS.region (id := 21) ?_ | refine CS.region (id := 23) ?_ | refine RS.nil ?_)
       exact ⟨e, cs, rfl, by omega, by omega, hcs, hl, rfl⟩
   · obtain ⟨c9, hc9⟩ := Go.Eng.byte_at hlt
     have hb9 := hp k c9 hc9
     refine CS.drawE mix [0,1,2,3,4,5,6] [7] [4] (fun _ => True) (fun L' => L' = (be, .cells (List.toArray (List.replicate 130 (.bool false))) 314 (0, 0)) :: (Oe ++ (Oo ++ L))) (by kernel_rfl) (by decide) rfl trivial rfl ?_
     iterate 2 refine GM.pv (PV.all tab_ok rfl) rfl rfl rfl rfl rfl rfl ?_
     refine GM.pv (PV.indexS tab_ok rfl rfl rfl (by omega) hc9) rfl rfl rfl rfl rfl rfl ?_
     refine GM.pv (PV.all tab_ok rfl) rfl rfl rfl rfl rfl rfl ?_
     refine GM.turnE0 (fun L' => L' = (be, .cells (List.toArray ((List.replicate 130 (.bool false)).set (0 + 1) (.bool true))) 314 (0, 0)) :: (Oe ++ (Oo ++ L))) rfl rfl rfl rfl (fun i' hi L' _ hA => ⟨rfl, by subst hA; exact OpS.mono (OpS.store1 (k := 0) (off := 0 + 1) (cs := List.replicate 130 (.bool false)) tab_ok rfl rfl rfl rfl rfl (by simp)) (fun _ _ _ _ ⟨_, h⟩ => ⟨trivial, h⟩)⟩) ?_
     refine GM.pv (PV.all tab_ok rfl) rfl rfl rfl rfl rfl rfl ?_
     (refine GM.pv (PV.indexAddrA tab_ok rfl rfl rfl (by omega)) rfl rfl rfl rfl rfl rfl ?_)
     refine GM.doneE rfl rfl (fun i2 L2 hi2 _ hA => ?_)
     subst hA
     refine RS.op (OpS.store1 (k := 0) (off := 0 + 2 + (c9.toNat : Int).toNat * 1) (cs := (List.replicate 130 (.bool false)).set (0 + 1) (.bool true)) tab_ok rfl rfl rfl rfl rfl (by simp; omega)) rfl ?_
     rintro _ _ _ - ⟨rfl, rfl⟩
     refine RS.nil ?_
     repeat' (first | refine thenQ.normal ?_ | refine blkQ.normal ?_)
     exact ⟨k, _, rfl, by omega, by omega, ((boolsL.rep 130).set _ _).set _ _, by simp, rfl⟩
 rintro g vs i L' hi ⟨e, cs, rfl, he1, he2, hcs, hl, rfl⟩
 refine CS.seq ?_
 refine CS.region (id := 24) ?_
 refine RS.pv (PV.all tab_ok rfl) rfl ?_
 (refine RS.pv (PV.lenS tab_ok rfl rfl) rfl ?_)
 refine RS.pv (PV.sub rfl rfl (by omega)) rfl ?_
 refine RS.pv (PV.all tab_ok rfl) rfl ?_
 refine RS.nil ?_
 refine thenQ.normal ?_
 obtain ⟨sp, hOo, hsp, _⟩ := hxs.block
 have hxl := hxs.1
 have q5 : (xs ++ sp)[0 + ((m : Int) - 1).toNat * 1]? = some (.slice ao q cp) := by
  rw [show 0 + ((m : Int) - 1).toNat * 1 = m - 1 by omega, List.getElem?_append_left (by omega)]; exact hlast
 have hin : ∀ G : SH, (gb, Obj.cells (List.toArray (xs ++ sp)) 296 (0, 0)) ∈ ((be, .cells (List.toArray cs) 314 (0, 0)) :: (G ++ (Oo ++ L)) : SH) := fun G => by rw [hOo]; simp
 refine CS.drawM mix [0,1,2,3,4,5,6,7,8,9] [10] [8] (fun L' => ∃ G : SH, L' = (be, .cells (List.toArray cs) 314 (0, 0)) :: (G ++ (Oo ++ L))) (stE fun L' => L' = (be, .cells (List.toArray cs) 314 (0, 0)) :: (Oe ++ (Oo ++ L))) (by kernel_rfl) (by decide) rfl ⟨Oe, rfl⟩ (stE_mono _) rfl ?_
 iterate 4 refine GM.pv (PV.all tab_ok rfl) rfl rfl rfl rfl rfl rfl ?_
 (refine GM.pv (PV.indexAddr tab_ok rfl rfl rfl (by omega)) rfl rfl rfl rfl rfl rfl ?_)
 refine GM.lv (fun i' hi L' hL => by obtain ⟨G, rfl⟩ := hL; exact LV.load1 tab_ok rfl (Has.mem (hin G)) rfl q5) rfl rfl rfl rfl rfl rfl ?_
 refine GM.lv (fun i' hi L' hL => by obtain ⟨G, rfl⟩ := hL; exact LV.loadL tab_ok rfl (Has.mem (List.mem_cons_self ..)) rfl rfl hl (fun j u hj => by rw [Nat.zero_add]; exact hj)) rfl rfl rfl rfl rfl rfl ?_
 refine GM.bs tab_ok 130 (e := 314) (cs := cs) (bsl_one rfl rfl rfl hl (by decide) (by decide) rfl) (by rw [hl]) rfl rfl rfl rfl ?_
 refine GM.turn (fun _ _ => True) ⟨[70], fun _ vs L' => ∃ ao' cap' ys' O', vs = [.slice ao' (q + 1) cap'] ∧ SlO 314 (.slice ao' (q + 1) cap') 130 (q + 1) ys' O' ∧ boolsL ys' ∧ L' = (be, .cells (List.toArray cs) 314 (0, 0)) :: (O' ++ (Oo ++ L))⟩ (fun _ _ _ _ _ => trivial) (fun _ _ _ _ _ h => h) rfl rfl rfl rfl rfl rfl (fun i' hi L' _ vs _ hm => ?_) ?_
 · rintro v ⟨b, rfl, hbs⟩ -
   refine ⟨rfl, ?_⟩
   subst hm
   refine OpS.mono (OpS.appC [(be, .cells (List.toArray cs) 314 (0, 0))] tab_ok (sz := 130) (bytes := 130) (m := 1) rfl rfl hys (hbs.rd _) ⟨_, rfl, rfl⟩ ⟨_, rfl, rfl, rfl⟩ (by omega) hcs.one (by omega) (by omega)) ?_
   rintro v' i3 L3 _ ⟨O', ⟨ao', cap', rfl, h1⟩, rfl⟩
   refine ⟨⟨O', rfl⟩, trivial, ao', cap', _, O', rfl, h1, fun c hc => ?_, rfl⟩
   exact (List.mem_append.1 hc).elim (hyb c) (hcs c)
 (refine GM.pv (PV.indexAddr tab_ok rfl rfl rfl (by omega)) rfl rfl rfl rfl rfl rfl ?_)
 refine GM.done rfl rfl (fun i2 L2 vs hi2 _ _ hm => ?_)
 obtain ⟨ao', cap', ys', O', rfl, h1, h2, rfl⟩ := hm
 rintro w - w2 - hw
 have hwv : w = .slice ao' (q + 1) cap' := hw 0 _ _ rfl rfl
 subst hwv
 refine RS.op (OpS.storeC ((be, .cells (List.toArray cs) 314 (0, 0)) :: O') (off := m - 1) (u := .slice ao' (q + 1) cap') tab_ok hxs (by show Value.pointer (some ⟨gb, 0 + ((m : Int) - 1).toNat * 1, none⟩) = _; rw [show 0 + ((m : Int) - 1).toNat * 1 = m - 1 by omega]) rfl rfl rfl (by omega)) rfl ?_
 rintro _ i3 L3 hi3 ⟨Oo', hOo', rfl⟩
 refine RS.garb0 [_] (O' ++ (Oo' ++ L)) ?_
 refine RS.nil ?_
 repeat' (first | refine RS.pv (PV.all tab_ok rfl) rfl ?_ | refine thenQ.normal ?_ | refine blkQ.normal ?_ | refine CS.region ?_ | refine RS.pv (PV.add rfl rfl (by omega)) rfl ?_ | refine RS.nil ?_)
 exact ⟨p.size - (e.toNat + 1), by omega, e.toNat + 1, _, O', Oo', rfl, by omega, ⟨gb, cap, m, _, ao', q + 1, cap', ys', rfl, hm0, by omega, hOo', by rw [List.getElem?_set_self (by omega)], h1, h2, by omega⟩, by show List.cons _ _ = _; rw [show ((e.toNat + 1 : Nat) : Int) = e + 1 by omega]; rfl, rfl⟩
theorem Check2_t (s : ByteArray) (i : Imm) (L : SH) :
 FnS Tryz.prog 140 [.string s] i L fun v i' L' => (∃ e, v = .int .i64 e) ∧ L' = L := by
 refine FnS.intro1 Tryz.func140 rfl Tryz.ntmps140 (by simp) Tryz.results140 ?_
 repeat' (first | refine RS.pv (PV.all tab_ok rfl) rfl ?_ | refine CS.seq ?_ | refine thenQ.normal ?_ | refine CS.cond_true rfl ?_ | refine CS.cond_false rfl ?_ | refine CS.skip ?_ | refine CS.ret ?_ | refine thenQ.ret ?_ | refine retQ.ret ?_ | refine CS.region ?_ | refine RS.pv (PV.lenT tab_ok rfl rfl) rfl ?_ | refine RS.ifGtr rfl rfl rfl (fun h => ?_) (fun h => ?_) | (refine RS.call (Parse2_t s _ _ (by omega)) rfl (by kernel_rfl) rfl ?_; rintro _ i L hi ⟨⟨u1, u2, u3, b, rfl⟩, rfl⟩; cases b) | refine RS.nil ?_)
 all_goals exact ⟨⟨_, rfl⟩, rfl⟩
end Go.Proofs.YtckdkhhpjnefpaaGreatDoor
namespace Go.Proofs.YtckdkhhpjnefpaaGreatDoor
set_option maxHeartbeats 4000000
open Go Go.Eng
theorem tuple2 {P : Program} {g : FuncId} {args : List Value} {i : Imm} {L : SH} {φ : Value → Prop} (h : FnS P g args i L fun v i' L' => ∃ G, φ v ∧ L' = G ++ L) : FnS P g args i L fun v i' L' => φ v ∧ L' = L := FnS.drop h
theorem right_t (t : Term) (i : Imm) (L : SH) (hg : Glb i) (hn : shortT t.name) (hv : shortT t.value) :
 FnS Tryz.prog 136 [.agg (termC t).toArray] i L fun v i' L' => (∃ b, v = .bool b) ∧ L' = L := by
 refine tuple2 ?_
 refine FnS.intro1 Tryz.func136 rfl Tryz.ntmps136 (by simp) Tryz.results136 ?_
 repeat' (first | refine RS.pv (PV.all tab_ok rfl) rfl ?_ | refine CS.seq ?_ | refine thenQ.normal ?_ | refine CS.cond_true rfl ?_ | refine CS.cond_false rfl ?_ | refine CS.skip ?_ | refine CS.ret ?_ | refine thenQ.ret ?_ | refine blkQ.ret ?_ | refine retQ.ret ?_ | refine CS.block ?_ | refine blkQ.normal ?_ | refine CS.region ?_ | refine RS.box rfl rfl (fun b => ?_) | refine RS.lv (LV.load tab_ok rfl (Has.own 0 rfl) rfl) rfl ?_ | refine RS.ifEql rfl rfl rfl (fun h => ?_) (fun h => ?_) | (refine RS.call (Priority_t _ _ _ hg) rfl (by kernel_rfl) rfl ?_; rintro _ i L - ⟨x, b, rfl, rfl, rfl⟩) | (refine RS.callY _ (Valid_t _ _ _ (by first | omega | assumption)) rfl (by kernel_rfl) rfl ?_ ?_ <;> rintro i L - ⟨rfl, rfl⟩) | refine RS.ifSeql rfl rfl rfl (fun h => ?_) (fun h => ?_) | (refine RS.call (Check9_t _ _ _ hg hv) rfl (by kernel_rfl) rfl ?_; rintro _ i L hi ⟨⟨e, rfl⟩, rfl⟩; replace hg := hg.le hi) | (refine RS.call (Check2_t _ _ _) rfl (by kernel_rfl) rfl ?_; rintro _ i L hi ⟨⟨e, rfl⟩, rfl⟩; replace hg := hg.le hi) | (refine RS.callY _ (Match_t t _ _) rfl (by kernel_rfl) rfl ?_ ?_ <;> rintro i L - ⟨-, rfl, rfl⟩) | refine RS.ifNeq rfl rfl rfl (fun h => ?_) (fun h => ?_) | refine RS.nil ?_ | refine RS.skip rfl ?_)
 all_goals exact ⟨[_], ⟨_, rfl⟩, rfl⟩
theorem Sl.term {i : Imm} {v : Value} {ts : List Term} {k : Nat} {t : Term} (h : Sl i v 4 ts.length (terms ts)) (hk : ts[k]? = some t) :
 ∃ b o cs tt fz cap, v = .slice (some ⟨b, o, none⟩) ts.length cap ∧ i.blk b = some (.cells (List.toArray cs) tt fz) ∧ ∀ j u, (termC t)[j]? = some u → cs[o + ((k : Nat) : Int).toNat * 4 + j]? = some u := by
 obtain ⟨b, o, cs, tt, fz, cap, h1, h2, h3⟩ := h.at (List.getElem?_eq_some_iff.1 hk).1 (by omega)
 refine ⟨b, o, cs, tt, fz, cap, h1, h2, fun j u hu => ?_⟩
 have hj : j < 4 := (List.getElem?_eq_some_iff.1 hu).1
 rw [h3 j hj, terms_at hk j hj, hu]
def okT (t : Term) : Prop := 1 ≤ t.key ∧ t.key ≤ 24 ∧ 1 ≤ t.op ∧ t.op ≤ 6
theorem Check10_t (v : Value) (ts : List Term) (i : Imm) (L : SH) (hg : Glb i) (hv : Sl i v 4 ts.length (terms ts)) (hB : smallL 4294967280 ts) (hn : ts.length ≤ 4294967280) :
 FnS Tryz.prog 87 [v] i L fun v i' L' => (∃ e, v = .int .i64 e ∧ (e = 0 → 1 ≤ ts.length ∧ ts.length ≤ 16 ∧ ∀ t ∈ ts, okT t)) ∧ L' = L := by
 refine tuple2 ?_
 obtain ⟨ao, cap, hva, _⟩ := id hv
 subst hva
 refine FnS.intro1 Tryz.func87 rfl Tryz.ntmps87 (by simp) Tryz.results87 ?_
 repeat' (first | refine RS.pv (PV.all tab_ok rfl) rfl ?_ | refine CS.seq ?_ | refine thenQ.normal ?_ | refine CS.cond_true rfl ?_ | refine CS.cond_false rfl ?_ | refine CS.skip ?_ | refine CS.ret ?_ | refine thenQ.ret ?_ | refine retQ.ret ?_ | refine CS.block ?_ | refine CS.region (id := 0) ?_ | refine CS.region (id := 1) ?_ | refine CS.region (id := 2) ?_ | refine CS.region (id := 3) ?_ | refine CS.region (id := 4) ?_ | refine CS.region (id := 5) ?_ | refine CS.region (id := 6) ?_ | refine RS.pv (PV.lenS tab_ok rfl rfl) rfl ?_ | refine RS.ifEql rfl rfl rfl (fun h => ?_) (fun h => ?_) | refine RS.ifGtr rfl rfl rfl (fun h => ?_) (fun h => ?_) | refine RS.nil ?_)
 all_goals first | exact ⟨[], ⟨_, rfl, fun h => by omega⟩, rfl⟩ | skip
 refine CS.loop [0, 3, 4, 5] (fun m vs i' L' => ∃ (k : Nat) (a b : Int) (G : SH), m = ts.length - k ∧ k ≤ ts.length ∧ 0 ≤ a ∧ a ≤ k ∧ 0 ≤ b ∧ b ≤ k ∧ (∀ j t, j < k → ts[j]? = some t → okT t) ∧ vs = [.slice ao ts.length cap, .int .i64 a, .int .i64 b, .int .i64 (k : Int)] ∧ Glb i' ∧ Sl i' (.slice ao ts.length cap) 4 ts.length (terms ts) ∧ L' = G ++ L) ts.length ⟨0, 0, 0, [], rfl, Nat.zero_le _, by omega, by omega, by omega, by omega, fun j t hj => absurd hj (by omega), rfl, hg, hv, rfl⟩ ?_
 rintro m g vs i _ hi ⟨k, a, b, G, rfl, hk, ha0, ha1, hb0, hb1, hpre, rfl, hg, hv, rfl⟩
 by_cases hlt : k < ts.length
 · obtain ⟨t, ht⟩ : ∃ t, ts[k]? = some t := ⟨_, List.getElem?_eq_getElem hlt⟩
   have hts := hB t (List.mem_of_getElem? ht)
   obtain ⟨b1, o1, c1, t1, z1, p1, e1, g1, h1⟩ := Sl.term hv ht
   cases e1
   repeat' (first | refine RS.pv (PV.all tab_ok rfl) rfl ?_ | refine CS.seq ?_ | refine thenQ.normal ?_ | refine CS.cond_true rfl ?_ | refine CS.cond_false rfl ?_ | refine CS.skip ?_ | refine CS.ret ?_ | refine thenQ.ret ?_ | refine blkQ.ret ?_ | refine retQ.ret ?_ | refine CS.block ?_ | refine blkQ.normal ?_ | refine CS.region (id := 7) ?_ | refine CS.region (id := 8) ?_ | refine CS.region (id := 9) ?_ | refine CS.region (id := 10) ?_ | refine CS.region (id := 11) ?_ | refine CS.region (id := 12) ?_ | refine CS.region (id := 13) ?_ | refine CS.region (id := 14) ?_ | refine CS.region (id := 15) ?_ | refine CS.region (id := 16) ?_ | refine CS.region (id := 17) ?_ | refine CS.region (id := 18) ?_ | refine CS.region (id := 19) ?_ | refine CS.region (id := 20) ?_ | refine CS.region (id := 21) ?_ | refine RS.pv (PV.lenS tab_ok rfl rfl) rfl ?_ | refine RS.pv (PV.lssT rfl rfl (by omega)) rfl ?_ | refine RS.pv (PV.add rfl rfl (by omega)) rfl ?_ | refine RS.pv (PV.indexAddr tab_ok rfl rfl rfl (by omega)) rfl ?_ | refine RS.lv (LV.loadL (l := termC t) tab_ok rfl (Has.imm g1) rfl rfl rfl h1) rfl ?_ | refine RS.alloc tab_ok rfl rfl (fun b => ?_) | refine RS.store (k := 0) tab_ok rfl rfl rfl rfl rfl rfl rfl rfl ?_ | refine RS.lv (LV.load tab_ok rfl (Has.own 0 rfl) rfl) rfl ?_ | refine RS.ifLss rfl rfl rfl (fun h => ?_) (fun h => ?_) | refine RS.ifGtr rfl rfl rfl (fun h => ?_) (fun h => ?_) | (refine RS.callY _ (named_t t _ _ hts.1) rfl (by kernel_rfl) rfl ?_ ?_ <;> rintro i _ - ⟨rfl, rfl⟩) | (refine RS.callY _ (allowed_t t _ _) rfl (by kernel_rfl) rfl ?_ ?_ <;> rintro i _ - ⟨hall, rfl, rfl⟩) | (refine RS.call (right_t t _ _ hg hts.1 hts.2) rfl (by kernel_rfl) rfl ?_; rintro _ i _ hi ⟨⟨b, rfl⟩, rfl⟩; replace hg := hg.le hi; replace hv := hv.le hi; cases b) | refine RS.pv (PV.eqlF rfl rfl (by omega)) rfl ?_ | refine RS.ifEql rfl rfl rfl (fun h => ?_) (fun h => ?_) | refine RS.nil ?_ | refine RS.skip rfl ?_)
   all_goals first
    | exact ⟨_ :: G, ⟨_, rfl, fun h => by omega⟩, rfl⟩
    | exact ⟨ts.length - (k + 1), by omega, k + 1, _, _, _ :: G, rfl, by omega, by omega, by omega, by omega, by omega, fun j u hj hu => (by
     rcases Nat.lt_succ_iff_lt_or_eq.1 hj with hj | rfl
     · exact hpre j u hj hu
     · rw [ht] at hu; cases hu
       exact ⟨by omega, by omega, (hall rfl).1, (hall rfl).2⟩), rfl, hg, hv, rfl⟩
 · repeat' (first | refine RS.pv (PV.all tab_ok rfl) rfl ?_ | refine CS.seq ?_ | refine thenQ.normal ?_ | refine CS.cond_true rfl ?_ | refine CS.cond_false rfl ?_ | refine CS.skip ?_ | refine CS.ret ?_ | refine thenQ.ret ?_ | refine retQ.ret ?_ | refine CS.exit ?_ | refine thenQ.exit ?_ | refine blkQ.here ?_ | refine CS.region (id := 7) ?_ | refine CS.region (id := 22) ?_ | refine CS.region (id := 23) ?_ | refine CS.region (id := 24) ?_ | refine RS.pv (PV.lenS tab_ok rfl rfl) rfl ?_ | refine RS.pv (PV.lssF rfl rfl (by omega)) rfl ?_ | refine RS.ifGtr rfl rfl rfl (fun h => ?_) (fun h => ?_) | refine RS.nil ?_ | refine RS.skip rfl ?_)
   all_goals first
    | exact ⟨G, ⟨_, rfl, fun h => by omega⟩, rfl⟩
    | exact ⟨G, ⟨_, rfl, fun _ => ⟨by omega, by omega, fun t ht => by
     obtain ⟨j, hj⟩ := List.mem_iff_getElem?.1 ht
     exact hpre j t (by have := (List.getElem?_eq_some_iff.1 hj).1; omega) hj⟩⟩, rfl⟩
theorem Keys_t (i : Imm) (L : SH) :
 FnS Tryz.prog 88 [] i L fun v i' L' => (∃ b ss, v = .slice (some ⟨b, 0, none⟩) 25 25 ∧ Sl i' v 1 25 (strs ss) ∧ ss.length = 25 ∧ shortL 16 ss) ∧ L' = L := by
 refine FnS.intro1 Tryz.func88 rfl Tryz.ntmps88 (by simp) Tryz.results88 ?_
 repeat' (first | refine RS.pv (PV.all tab_ok rfl) rfl ?_ | refine CS.seq ?_ | refine thenQ.normal ?_ | refine CS.ret ?_ | refine retQ.ret ?_ | refine CS.region ?_ | refine RS.buildSliceF tab_ok 1 rfl rfl rfl (fun b i' hi' hs => ?_) | refine RS.nil ?_)
 exact ⟨⟨b, _, rfl, Sl.strs hs rfl, rfl, by intro s hs; revert s; decide⟩, rfl⟩
theorem Ops_t (i : Imm) (L : SH) :
 FnS Tryz.prog 89 [] i L fun v i' L' => (∃ b ss, v = .slice (some ⟨b, 0, none⟩) 7 7 ∧ Sl i' v 1 7 (strs ss) ∧ ss.length = 7 ∧ shortL 16 ss) ∧ L' = L := by
 refine FnS.intro1 Tryz.func89 rfl Tryz.ntmps89 (by simp) Tryz.results89 ?_
 repeat' (first | refine RS.pv (PV.all tab_ok rfl) rfl ?_ | refine CS.seq ?_ | refine thenQ.normal ?_ | refine CS.ret ?_ | refine retQ.ret ?_ | refine CS.region ?_ | refine RS.buildSliceF tab_ok 1 rfl rfl rfl (fun b i' hi' hs => ?_) | refine RS.nil ?_)
 exact ⟨⟨b, _, rfl, Sl.strs hs rfl, rfl, by intro s hs; revert s; decide⟩, rfl⟩
end Go.Proofs.YtckdkhhpjnefpaaGreatDoor
namespace Go.Proofs.YtckdkhhpjnefpaaGreatDoor
set_option maxHeartbeats 4000000
open Go Go.Eng
structure Tok where
 key : ByteArray
 name : ByteArray
 op : ByteArray
 value : ByteArray
def tokC (t : Tok) : List Value := [.string t.key, .string t.name, .string t.op, .string t.value]
def toks (l : List Tok) : List Value := l.flatMap tokC
def Tok.small (B : Nat) (t : Tok) : Prop := t.key.size ≤ B ∧ t.name.size ≤ B ∧ t.op.size ≤ B ∧ t.value.size ≤ B
def smallK (B : Nat) (l : List Tok) : Prop := ∀ t ∈ l, t.small B
theorem toks_len : ∀ l : List Tok, (toks l).length = l.length * 4
 | [] => rfl
 | a :: l => by
   have h := toks_len l
   have e : toks (a :: l) = tokC a ++ toks l := rfl
   rw [e, List.length_append, h, List.length_cons]
   simp [tokC]; omega
theorem toks_snoc (l : List Tok) (t : Tok) : toks (l ++ [t]) = toks l ++ tokC t := by simp [toks]
theorem toks_at {l : List Tok} {k : Nat} {t : Tok} (h : l[k]? = some t) (d : Nat) (hd : d < 4) : (toks l)[k * 4 + d]? = (tokC t)[d]? := by
 obtain ⟨A, B, rfl, rfl⟩ := split_at h
 have e : toks (A ++ t :: B) = toks A ++ (tokC t ++ toks B) := by simp [toks]
 rw [e, List.getElem?_append_right (by rw [toks_len]; omega), toks_len, Nat.add_sub_cancel_left, List.getElem?_append_left (by simpa [tokC] using hd)]
theorem Sl.tok {i : Imm} {v : Value} {ts : List Tok} {k : Nat} {t : Tok} (h : Sl i v 4 ts.length (toks ts)) (hk : ts[k]? = some t) :
 ∃ b o cs tt fz cap, v = .slice (some ⟨b, o, none⟩) ts.length cap ∧ i.blk b = some (.cells (List.toArray cs) tt fz) ∧ ∀ j u, (tokC t)[j]? = some u → cs[o + ((k : Nat) : Int).toNat * 4 + j]? = some u := by
 obtain ⟨b, o, cs, tt, fz, cap, h1, h2, h3⟩ := h.at (List.getElem?_eq_some_iff.1 hk).1 (by omega)
 refine ⟨b, o, cs, tt, fz, cap, h1, h2, fun j u hu => ?_⟩
 have hj : j < 4 := (List.getElem?_eq_some_iff.1 hu).1
 rw [h3 j hj, toks_at hk j hj, hu]
theorem upper_t (c : Int) (i : Imm) (L : SH) :
 FnS Tryz.prog 182 [.int .u8 c] i L fun v i' L' => YN v i i' L L' := by
 refine FnS.intro1 Tryz.func182 rfl Tryz.ntmps182 (by simp) Tryz.results182 ?_
 repeat' (first | refine RS.pv (PV.all tab_ok rfl) rfl ?_ | refine CS.seq ?_ | refine thenQ.normal ?_ | refine CS.ret ?_ | refine retQ.ret ?_ | refine CS.region ?_ | refine RS.ifGeq rfl rfl rfl (fun h => ?_) (fun h => ?_) | refine RS.ifLeq rfl rfl rfl (fun h => ?_) (fun h => ?_) | refine RS.nil ?_ | refine RS.skip rfl ?_)
 all_goals exact ⟨_, rfl, rfl, rfl⟩
theorem named8_t (c : Int) (i : Imm) (L : SH) :
 FnS Tryz.prog 183 [.int .u8 c] i L fun v i' L' => YN v i i' L L' := by
 refine FnS.intro1 Tryz.func183 rfl Tryz.ntmps183 (by simp) Tryz.results183 ?_
 repeat' (first | refine RS.pv (PV.all tab_ok rfl) rfl ?_ | refine CS.seq ?_ | refine thenQ.normal ?_ | refine CS.ret ?_ | refine retQ.ret ?_ | refine CS.region ?_ | refine RS.ifGeq rfl rfl rfl (fun h => ?_) (fun h => ?_) | refine RS.ifLeq rfl rfl rfl (fun h => ?_) (fun h => ?_) | refine RS.ifNeq rfl rfl rfl (fun h => ?_) (fun h => ?_) | refine RS.nil ?_ | refine RS.skip rfl ?_)
 all_goals exact ⟨_, rfl, rfl, rfl⟩
theorem ops8_t (i : Imm) (L : SH) :
 FnS Tryz.prog 184 [] i L fun v i' L' => (∃ b ss, v = .slice (some ⟨b, 0, none⟩) 6 6 ∧ Sl i' v 1 6 (strs ss) ∧ ss.length = 6 ∧ shortL 2 ss) ∧ L' = L := by
 refine FnS.intro1 Tryz.func184 rfl Tryz.ntmps184 (by simp) Tryz.results184 ?_
 repeat' (first | refine RS.pv (PV.all tab_ok rfl) rfl ?_ | refine CS.seq ?_ | refine thenQ.normal ?_ | refine CS.ret ?_ | refine retQ.ret ?_ | refine CS.region ?_ | refine RS.buildSliceF tab_ok 1 rfl rfl rfl (fun b i' hi' hs => ?_) | refine RS.nil ?_)
 exact ⟨⟨b, _, rfl, Sl.strs hs rfl, rfl, by intro s hs; revert s; decide⟩, rfl⟩
theorem Good_t (t : Tok) (i : Imm) (L : SH) (ht : t.small 4294967280) :
 FnS Tryz.prog 137 [.agg (tokC t).toArray] i L fun v i' L' => (∃ b, v = .bool b) ∧ L' = L := by
 refine tuple2 ?_
 obtain ⟨hk1, hk2, hk3, hk4⟩ := ht
 refine FnS.intro1 Tryz.func137 rfl Tryz.ntmps137 (by simp) Tryz.results137 ?_
 repeat' (first | refine RS.pv (PV.all tab_ok rfl) rfl ?_ | refine CS.seq ?_ | refine thenQ.normal ?_ | refine CS.block ?_ | refine CS.region (id := 0) ?_ | refine CS.region (id := 1) ?_ | refine RS.box rfl rfl (fun b1 => ?_) | refine RS.nil ?_)
 refine CS.loop [1, 3] (fun m vs i' L' => ∃ k : Nat, m = t.key.size - k ∧ k ≤ t.key.size ∧ vs = [.pointer (some ⟨b1, 0, none⟩), .int .i64 (k : Int)] ∧ L' = (b1, .cells (tokC t).toArray 143 (0, 0)) :: L) _ ⟨0, rfl, Nat.zero_le _, rfl, rfl⟩ ?_
 rintro m g vs i L' hi ⟨k, rfl, hk, rfl, rfl⟩
 repeat' (first | refine RS.pv (PV.all tab_ok rfl) rfl ?_ | refine CS.seq ?_ | refine thenQ.normal ?_ | refine CS.cond_true rfl ?_ | refine CS.cond_false rfl ?_ | refine CS.skip ?_ | refine CS.ret ?_ | refine thenQ.ret ?_ | refine blkQ.ret ?_ | refine retQ.ret ?_ | refine CS.block ?_ | refine CS.exit ?_ | refine thenQ.exit ?_ | refine blkQ.normal ?_ | refine blkQ.here ?_ | refine CS.region (id := 2) ?_ | refine CS.region (id := 3) ?_ | refine CS.region (id := 4) ?_ | refine CS.region (id := 5) ?_ | refine CS.region (id := 6) ?_ | refine RS.lv (LV.load tab_ok rfl (Has.own 0 rfl) rfl) rfl ?_ | refine RS.pv (PV.lenT tab_ok rfl rfl) rfl ?_ | refine RS.ifLss rfl rfl rfl (fun h => ?_) (fun h => ?_) | refine RS.pv (PV.add rfl rfl (by omega)) rfl ?_ | refine RS.idxT tab_ok rfl rfl rfl rfl (by omega) (fun c hc0 hc1 => ?_) | (refine RS.callY _ (upper_t _ _ _) rfl (by kernel_rfl) rfl ?_ ?_ <;> rintro i L' - ⟨rfl, rfl⟩) | refine RS.nil ?_)
 · exact ⟨t.key.size - (k + 1), by omega, k + 1, rfl, by omega, rfl, rfl⟩
 · exact ⟨[_], ⟨_, rfl⟩, rfl⟩
 refine CS.loop [1, 4] (fun m vs i' L' => ∃ k : Nat, m = t.name.size - k ∧ k ≤ t.name.size ∧ vs = [.pointer (some ⟨b1, 0, none⟩), .int .i64 (k : Int)] ∧ L' = (b1, .cells (tokC t).toArray 143 (0, 0)) :: L) _ ⟨0, rfl, Nat.zero_le _, rfl, rfl⟩ ?_
 rintro m g vs i L' hi ⟨k, rfl, hk, rfl, rfl⟩
 repeat' (first | refine RS.pv (PV.all tab_ok rfl) rfl ?_ | refine CS.seq ?_ | refine thenQ.normal ?_ | refine CS.cond_true rfl ?_ | refine CS.cond_false rfl ?_ | refine CS.skip ?_ | refine CS.ret ?_ | refine thenQ.ret ?_ | refine blkQ.ret ?_ | refine retQ.ret ?_ | refine CS.block ?_ | refine CS.exit ?_ | refine thenQ.exit ?_ | refine blkQ.normal ?_ | refine blkQ.here ?_ | refine CS.region (id := 7) ?_ | refine CS.region (id := 8) ?_ | refine CS.region (id := 9) ?_ | refine CS.region (id := 10) ?_ | refine CS.region (id := 11) ?_ | refine RS.pv (PV.add rfl rfl (by omega)) rfl ?_ | refine RS.lv (LV.load tab_ok rfl (Has.own 0 rfl) rfl) rfl ?_ | refine RS.pv (PV.lenT tab_ok rfl rfl) rfl ?_ | refine RS.ifLss rfl rfl rfl (fun h => ?_) (fun h => ?_) | refine RS.idxT tab_ok rfl rfl rfl rfl (by omega) (fun c hc0 hc1 => ?_) | (refine RS.callY _ (named8_t _ _ _) rfl (by kernel_rfl) rfl ?_ ?_ <;> rintro i L' - ⟨rfl, rfl⟩) | refine RS.nil ?_)
 · exact ⟨t.name.size - (k + 1), by omega, k + 1, rfl, by omega, rfl, rfl⟩
 · exact ⟨[_], ⟨_, rfl⟩, rfl⟩
 refine CS.loop [1, 5] (fun m vs i' L' => ∃ k : Nat, m = t.value.size - k ∧ k ≤ t.value.size ∧ vs = [.pointer (some ⟨b1, 0, none⟩), .int .i64 (k : Int)] ∧ L' = (b1, .cells (tokC t).toArray 143 (0, 0)) :: L) _ ⟨0, rfl, Nat.zero_le _, rfl, rfl⟩ ?_
 rintro m g vs i L' hi ⟨k, rfl, hk, rfl, rfl⟩
 repeat' (first | refine RS.pv (PV.all tab_ok rfl) rfl ?_ | refine CS.seq ?_ | refine thenQ.normal ?_ | refine CS.cond_true rfl ?_ | refine CS.cond_false rfl ?_ | refine CS.skip ?_ | refine CS.ret ?_ | refine thenQ.ret ?_ | refine blkQ.ret ?_ | refine retQ.ret ?_ | refine CS.block ?_ | refine CS.exit ?_ | refine thenQ.exit ?_ | refine blkQ.normal ?_ | refine blkQ.here ?_ | refine CS.region (id := 12) ?_ | refine CS.region (id := 13) ?_ | refine CS.region (id := 14) ?_ | refine CS.region (id := 15) ?_ | refine CS.region (id := 16) ?_ | refine CS.region (id := 17) ?_ | refine CS.region (id := 18) ?_ | refine RS.pv (PV.add rfl rfl (by omega)) rfl ?_ | refine RS.lv (LV.load tab_ok rfl (Has.own 0 rfl) rfl) rfl ?_ | refine RS.pv (PV.lenT tab_ok rfl rfl) rfl ?_ | refine RS.ifLss rfl rfl rfl (fun h => ?_) (fun h => ?_) | refine RS.idxT tab_ok rfl rfl rfl rfl (by omega) (fun c hc0 hc1 => ?_) | refine RS.ifGtr rfl rfl rfl (fun h => ?_) (fun h => ?_) | (refine RS.call (ops8_t _ _) rfl (by kernel_rfl) rfl ?_; rintro _ i _ hi ⟨⟨bo, ss, rfl, hss, hsl, -⟩, rfl⟩) | refine RS.nil ?_ | refine RS.skip rfl ?_)
 all_goals first
  | exact ⟨[_], ⟨_, rfl⟩, rfl⟩
  | exact ⟨t.value.size - (k + 1), by omega, k + 1, rfl, by omega, rfl, rfl⟩
  | skip
 refine CS.loop [1, 6, 7, 8] (fun m vs i' L' => ∃ (k : Nat) (b : Bool), m = 6 - k ∧ k ≤ 6 ∧ vs = [.pointer (some ⟨b1, 0, none⟩), .bool b, .slice (some ⟨bo, 0, none⟩) 6 6, .int .i64 (k : Int)] ∧ Sl i' (.slice (some ⟨bo, 0, none⟩) 6 6) 1 6 (strs ss) ∧ L' = (b1, .cells (tokC t).toArray 143 (0, 0)) :: L) _ ⟨0, _, rfl, by omega, rfl, hss, rfl⟩ ?_
 rintro m g vs i L' hi ⟨k, b, rfl, hk, rfl, hss, rfl⟩
 by_cases hlt : k < 6
 · obtain ⟨b2, o1, c1, t1, z1, p1, e1, g1, h1⟩ := hss.at hlt (by omega)
   cases e1
   obtain ⟨x, hx⟩ : ∃ x, ss[k]? = some x := ⟨_, List.getElem?_eq_getElem (by omega)⟩
   have q1 := h1 0 (by omega)
   rw [strs_at, hx] at q1
   cases b
   all_goals
    repeat' (first | refine RS.pv (PV.all tab_ok rfl) rfl ?_ | refine QS.pv (PV.all tab_ok rfl) rfl ?_ | refine CS.seq ?_ | refine thenQ.normal ?_ | refine CS.cond_true rfl ?_ | refine CS.skip ?_ | refine CS.block ?_ | refine blkQ.normal ?_ | refine CS.region (id := 19) ?_ | refine CS.region (id := 20) ?_ | refine CS.drawQ (id := 21) mix (by kernel_rfl) ?_ | refine RS.pv (PV.add rfl rfl (by omega)) rfl ?_ | refine RS.pv (PV.lenS tab_ok rfl rfl) rfl ?_ | refine RS.pv (PV.lssT rfl rfl (by omega)) rfl ?_ | refine QS.pv (PV.indexAddr tab_ok rfl rfl rfl (by omega)) rfl ?_ | refine QS.lv (LV.load1 tab_ok rfl (Has.imm g1) rfl q1) rfl ?_ | refine QS.lv (LV.load tab_ok rfl (Has.own 0 rfl) rfl) rfl ?_ | refine QS.ifSeql rfl rfl rfl (fun h => ?_) (fun h => ?_) | refine RS.nil ?_ | refine QS.nil ?_ | refine QS.skip rfl ?_)
    all_goals exact ⟨6 - (k + 1), by omega, k + 1, _, rfl, by omega, rfl, hss, rfl⟩
 · cases b
   all_goals
    repeat' (first | refine RS.pv (PV.all tab_ok rfl) rfl ?_ | refine CS.seq ?_ | refine thenQ.normal ?_ | refine CS.cond_false rfl ?_ | refine CS.ret ?_ | refine retQ.ret ?_ | refine CS.exit ?_ | refine thenQ.exit ?_ | refine blkQ.here ?_ | refine CS.region (id := 19) ?_ | refine CS.region (id := 22) ?_ | refine RS.pv (PV.lenS tab_ok rfl rfl) rfl ?_ | refine RS.pv (PV.lssF rfl rfl (by omega)) rfl ?_ | refine RS.lv (LV.load tab_ok rfl (Has.own 0 rfl) rfl) rfl ?_ | refine RS.ifSneq rfl rfl rfl (fun h => ?_) (fun h => ?_) | (refine RS.callY _ (HasSuffix_t _ _ _ _ (by omega)) rfl (by kernel_rfl) rfl ?_ ?_ <;> rintro i L' - ⟨-, rfl, rfl⟩) | refine RS.nil ?_ | refine RS.skip rfl ?_)
    all_goals exact ⟨[_], ⟨_, rfl⟩, rfl⟩
end Go.Proofs.YtckdkhhpjnefpaaGreatDoor
namespace Go.Proofs.YtckdkhhpjnefpaaGreatDoor
set_option maxHeartbeats 4000000
open Go Go.Eng
theorem StrLe.mono (B : Nat) : Mono fun _ v => ∃ s, v = .string s ∧ s.size ≤ B := fun _ _ _ _ h => h
theorem Format8_t (v : Value) (ts : List Tok) (i : Imm) (L : SH) (hg : Glb i) (hv : Sl i v 4 ts.length (toks ts)) (hB : smallK 64 ts) (hn : ts.length ≤ 16) :
 FnS Tryz.prog 90 [v] i L fun v i' L' => (∃ s e, v = .tuple #[.string s, .int .i64 e] ∧ s.size ≤ 1024) ∧ L' = L := by
 obtain ⟨ao, cap, hva, _⟩ := id hv
 subst hva
 have hz1 : (ByteArray.mk #[44, 32]).size = 2 := rfl
 have hz2 : (ByteArray.mk #[123]).size = 1 := rfl
 have hz3 : (ByteArray.mk #[125]).size = 1 := rfl
 have hz4 : (ByteArray.mk #[34]).size = 1 := rfl
 refine FnS.intro2 Tryz.func90 rfl Tryz.ntmps90 (by simp) Tryz.results90 ?_
 repeat' (first | refine RS.pv (PV.all tab_ok rfl) rfl ?_ | refine CS.seq ?_ | refine thenQ.normal ?_ | refine CS.block ?_ | refine CS.region (id := 0) ?_ | refine CS.region (id := 1) ?_ | refine CS.region (id := 2) ?_ | refine RS.nil ?_)
 refine CS.loop [0, 4, 5] (fun m vs i' L' => ∃ (k : Nat) (s : ByteArray), m = ts.length - k ∧ k ≤ ts.length ∧ s.size ≤ 500 * k ∧ vs = [.slice ao ts.length cap, .string s, .int .i64 (k : Int)] ∧ Glb i' ∧ Sl i' (.slice ao ts.length cap) 4 ts.length (toks ts) ∧ L' = L) ts.length ⟨0, _, rfl, Nat.zero_le _, Nat.zero_le _, rfl, hg, hv, rfl⟩ ?_
 rintro m g vs i L hi ⟨k, s, rfl, hk, hs, rfl, hg, hv, rfl⟩
 by_cases hlt : k < ts.length
 · obtain ⟨t, ht⟩ : ∃ t, ts[k]? = some t := ⟨_, List.getElem?_eq_getElem hlt⟩
   have hts := hB t (List.mem_of_getElem? ht)
   have ht1 := hts.1
   have ht2 := hts.2.1
   have ht3 := hts.2.2.1
   have ht4 := hts.2.2.2
   obtain ⟨b1, o1, c1, t1, z1, p1, e1, g1, h1⟩ := Sl.tok hv ht
   cases e1
   repeat' (first | refine RS.pv (PV.all tab_ok rfl) rfl ?_ | refine CS.seq ?_ | refine thenQ.normal ?_ | refine CS.cond_true rfl ?_ | refine CS.cond_false rfl ?_ | refine CS.skip ?_ | refine CS.ret ?_ | refine thenQ.ret ?_ | refine blkQ.ret ?_ | refine retQ.ret ?_ | refine CS.block ?_ | refine CS.region (id := 3) ?_ | refine CS.region (id := 5) ?_ | refine CS.region (id := 6) ?_ | refine CS.region (id := 7) ?_ | refine CS.region (id := 8) ?_ | refine CS.region (id := 9) ?_ | refine CS.region (id := 10) ?_ | refine CS.region (id := 11) ?_ | refine RS.pv (PV.lenS tab_ok rfl rfl) rfl ?_ | refine RS.pv (PV.lssT rfl rfl (by omega)) rfl ?_ | refine RS.pv (PV.indexAddr tab_ok rfl rfl rfl (by omega)) rfl ?_ | refine RS.lv (LV.loadL (l := tokC t) tab_ok rfl (Has.imm g1) rfl rfl rfl h1) rfl ?_ | (refine RS.call (Good_t t _ _ (by obtain ⟨h1, h2, h3, h4⟩ := hts; exact ⟨by omega, by omega, by omega, by omega⟩)) rfl (by kernel_rfl) rfl ?_; rintro _ i L hi ⟨⟨b, rfl⟩, rfl⟩; replace hg := hg.le hi; replace hv := hv.le hi; replace g1 := hi.blk _ _ g1; cases b) | refine RS.ifGtr rfl rfl rfl (fun h => ?_) (fun h => ?_) | refine RS.addT rfl rfl rfl (by first | omega | (simp only [szc]; omega)) (fun s' hs' => ?_) | refine RS.lv (LV.load1 tab_ok rfl (Has.imm g1) rfl (h1 0 _ rfl)) rfl ?_ | refine RS.lv (LV.load1 tab_ok rfl (Has.imm g1) rfl (h1 1 _ rfl)) rfl ?_ | refine RS.ifSneq rfl rfl rfl (fun h => ?_) (fun h => ?_) | refine RS.nil ?_)
   all_goals first | exact ⟨⟨_, _, rfl, by show (0 : Nat) ≤ _; omega⟩, rfl⟩ | skip
   · refine CS.drawE mix [0,1,2,3,4,5,6,7,8,9,10,11,12,13,14,15] [16] [] (fun _ => True) (fun L' => L' = L) (by kernel_rfl) (by decide) rfl trivial rfl ?_
     iterate 3 refine GM.pv (PV.all tab_ok rfl) rfl rfl rfl rfl rfl rfl ?_
     (refine GM.pv (PV.indexAddr tab_ok rfl rfl rfl (by omega)) rfl rfl rfl rfl rfl rfl ?_)
     refine GM.pv (PV.all tab_ok rfl) rfl rfl rfl rfl rfl rfl ?_
     refine GM.lv (fun i' hi L' hL => LV.load1 tab_ok rfl (Has.imm (hi.blk _ _ g1)) rfl (h1 2 _ rfl)) rfl rfl rfl rfl rfl rfl ?_
     refine GM.pv (PV.addT rfl rfl (by first | omega | (simp only [szc]; omega))) rfl rfl rfl rfl rfl rfl ?_
     iterate 2 refine GM.pv (PV.all tab_ok rfl) rfl rfl rfl rfl rfl rfl ?_
     (refine GM.pv (PV.indexAddr tab_ok rfl rfl rfl (by omega)) rfl rfl rfl rfl rfl rfl ?_)
     refine GM.pv (PV.all tab_ok rfl) rfl rfl rfl rfl rfl rfl ?_
     refine GM.lv (fun i' hi L' hL => LV.load1 tab_ok rfl (Has.imm (hi.blk _ _ g1)) rfl (h1 3 _ rfl)) rfl rfl rfl rfl rfl rfl ?_
     refine GM.fact (fun _ v => ∃ s, v = .string s ∧ s.size ≤ 194) (StrLe.mono 194) rfl rfl rfl rfl (fun i' hi L' _ => ⟨rfl, OpS.call (by kernel_rfl) rfl (ReplaceAll_t _ _ _ _ _ (hg.le hi) (by omega) (by decide) (by decide)) (fun _ _ _ _ ⟨s', h1, h2, h3, h4⟩ => ⟨h4, s', h1, by have hz : (ByteArray.mk #[92, 34]).size = 2 := rfl; rw [hz] at h2; omega⟩)⟩) ?_
     refine GM.fact (fun _ v => ∃ s, v = .string s ∧ s.size ≤ 259) (StrLe.mono 259) rfl rfl rfl rfl (fun i' hi L' _ => by rintro v ⟨s1, rfl, hs1⟩; exact ⟨rfl, OpS.mono (OpS.pv (PV.addT rfl rfl (by first | omega | (simp only [ByteArray.size_append]; omega)))) (fun _ _ _ _ ⟨h1, h2⟩ => ⟨h1, _, h2, by (try simp only [ByteArray.size_append]); omega⟩)⟩) ?_
     refine GM.fact (fun _ v => ∃ s, v = .string s ∧ s.size ≤ 260) (StrLe.mono 260) rfl rfl rfl rfl (fun i' hi L' _ => by rintro v ⟨s1, rfl, hs1⟩; exact ⟨rfl, OpS.mono (OpS.pv (PV.addT rfl rfl (by first | omega | (simp only [ByteArray.size_append]; omega)))) (fun _ _ _ _ ⟨h1, h2⟩ => ⟨h1, _, h2, by (try simp only [ByteArray.size_append]); omega⟩)⟩) ?_
     refine GM.fact (fun _ v => ∃ s, v = .string s ∧ s.size ≤ 500 * (k + 1)) (StrLe.mono _) rfl rfl rfl rfl (fun i' hi L' _ => by rintro v ⟨s1, rfl, hs1⟩; exact ⟨rfl, OpS.mono (OpS.pv (PV.addT rfl rfl (by first | omega | (simp only [ByteArray.size_append]; omega)))) (fun _ _ _ _ ⟨h1, h2⟩ => ⟨h1, _, h2, by (try simp only [ByteArray.size_append]); omega⟩)⟩) ?_
     refine GM.doneE rfl rfl (fun i2 L2 hi2 _ hA => ?_)
     subst hA
     replace hg := hg.le hi2
     replace hv := hv.le hi2
     rintro _ ⟨s9, rfl, hs9⟩ - - - - - -
     refine RS.pv (PV.all tab_ok rfl) rfl ?_
     refine RS.nil ?_
     repeat' (first | refine RS.pv (PV.all tab_ok rfl) rfl ?_ | refine thenQ.normal ?_ | refine blkQ.normal ?_ | refine CS.region ?_ | refine RS.pv (PV.add rfl rfl (by omega)) rfl ?_ | refine RS.nil ?_)
     exact ⟨ts.length - (k + 1), by omega, k + 1, s9, rfl, by omega, hs9, rfl, hg, hv, rfl⟩
   · refine CS.drawE mix [0,1,2,3,4,5,6,7,8,9,10,11,12,13,14,15] [16] [] (fun _ => True) (fun L' => L' = L) (by kernel_rfl) (by decide) rfl trivial rfl ?_
     iterate 3 refine GM.pv (PV.all tab_ok rfl) rfl rfl rfl rfl rfl rfl ?_
     (refine GM.pv (PV.indexAddr tab_ok rfl rfl rfl (by omega)) rfl rfl rfl rfl rfl rfl ?_)
     refine GM.pv (PV.all tab_ok rfl) rfl rfl rfl rfl rfl rfl ?_
     refine GM.lv (fun i' hi L' hL => LV.load1 tab_ok rfl (Has.imm (hi.blk _ _ g1)) rfl (h1 2 _ rfl)) rfl rfl rfl rfl rfl rfl ?_
     refine GM.pv (PV.addT rfl rfl (by first | omega | (simp only [szc]; omega))) rfl rfl rfl rfl rfl rfl ?_
     iterate 2 refine GM.pv (PV.all tab_ok rfl) rfl rfl rfl rfl rfl rfl ?_
     (refine GM.pv (PV.indexAddr tab_ok rfl rfl rfl (by omega)) rfl rfl rfl rfl rfl rfl ?_)
     refine GM.pv (PV.all tab_ok rfl) rfl rfl rfl rfl rfl rfl ?_
     refine GM.lv (fun i' hi L' hL => LV.load1 tab_ok rfl (Has.imm (hi.blk _ _ g1)) rfl (h1 3 _ rfl)) rfl rfl rfl rfl rfl rfl ?_
     refine GM.fact (fun _ v => ∃ s, v = .string s ∧ s.size ≤ 194) (StrLe.mono 194) rfl rfl rfl rfl (fun i' hi L' _ => ⟨rfl, OpS.call (by kernel_rfl) rfl (ReplaceAll_t _ _ _ _ _ (hg.le hi) (by omega) (by decide) (by decide)) (fun _ _ _ _ ⟨s', h1, h2, h3, h4⟩ => ⟨h4, s', h1, by have hz : (ByteArray.mk #[92, 34]).size = 2 := rfl; rw [hz] at h2; omega⟩)⟩) ?_
     refine GM.fact (fun _ v => ∃ s, v = .string s ∧ s.size ≤ 259) (StrLe.mono 259) rfl rfl rfl rfl (fun i' hi L' _ => by rintro v ⟨s1, rfl, hs1⟩; exact ⟨rfl, OpS.mono (OpS.pv (PV.addT rfl rfl (by first | omega | (simp only [ByteArray.size_append]; omega)))) (fun _ _ _ _ ⟨h1, h2⟩ => ⟨h1, _, h2, by (try simp only [ByteArray.size_append]); omega⟩)⟩) ?_
     refine GM.fact (fun _ v => ∃ s, v = .string s ∧ s.size ≤ 260) (StrLe.mono 260) rfl rfl rfl rfl (fun i' hi L' _ => by rintro v ⟨s1, rfl, hs1⟩; exact ⟨rfl, OpS.mono (OpS.pv (PV.addT rfl rfl (by first | omega | (simp only [ByteArray.size_append]; omega)))) (fun _ _ _ _ ⟨h1, h2⟩ => ⟨h1, _, h2, by (try simp only [ByteArray.size_append]); omega⟩)⟩) ?_
     refine GM.fact (fun _ v => ∃ s, v = .string s ∧ s.size ≤ 500 * (k + 1)) (StrLe.mono _) rfl rfl rfl rfl (fun i' hi L' _ => by rintro v ⟨s1, rfl, hs1⟩; exact ⟨rfl, OpS.mono (OpS.pv (PV.addT rfl rfl (by first | omega | (simp only [ByteArray.size_append]; omega)))) (fun _ _ _ _ ⟨h1, h2⟩ => ⟨h1, _, h2, by (try simp only [ByteArray.size_append]); omega⟩)⟩) ?_
     refine GM.doneE rfl rfl (fun i2 L2 hi2 _ hA => ?_)
     subst hA
     replace hg := hg.le hi2
     replace hv := hv.le hi2
     rintro _ ⟨s9, rfl, hs9⟩ - - - - - -
     refine RS.pv (PV.all tab_ok rfl) rfl ?_
     refine RS.nil ?_
     repeat' (first | refine RS.pv (PV.all tab_ok rfl) rfl ?_ | refine thenQ.normal ?_ | refine blkQ.normal ?_ | refine CS.region ?_ | refine RS.pv (PV.add rfl rfl (by omega)) rfl ?_ | refine RS.nil ?_)
     exact ⟨ts.length - (k + 1), by omega, k + 1, s9, rfl, by omega, hs9, rfl, hg, hv, rfl⟩
   · refine CS.drawE mix [0,1,2,3,4,5,6,7,8,9,10,11,12,13,14,15] [16] [] (fun _ => True) (fun L' => L' = L) (by kernel_rfl) (by decide) rfl trivial rfl ?_
     iterate 3 refine GM.pv (PV.all tab_ok rfl) rfl rfl rfl rfl rfl rfl ?_
     (refine GM.pv (PV.indexAddr tab_ok rfl rfl rfl (by omega)) rfl rfl rfl rfl rfl rfl ?_)
     refine GM.pv (PV.all tab_ok rfl) rfl rfl rfl rfl rfl rfl ?_
     refine GM.lv (fun i' hi L' hL => LV.load1 tab_ok rfl (Has.imm (hi.blk _ _ g1)) rfl (h1 2 _ rfl)) rfl rfl rfl rfl rfl rfl ?_
     refine GM.pv (PV.addT rfl rfl (by first | omega | (simp only [szc]; omega))) rfl rfl rfl rfl rfl rfl ?_
     iterate 2 refine GM.pv (PV.all tab_ok rfl) rfl rfl rfl rfl rfl rfl ?_
     (refine GM.pv (PV.indexAddr tab_ok rfl rfl rfl (by omega)) rfl rfl rfl rfl rfl rfl ?_)
     refine GM.pv (PV.all tab_ok rfl) rfl rfl rfl rfl rfl rfl ?_
     refine GM.lv (fun i' hi L' hL => LV.load1 tab_ok rfl (Has.imm (hi.blk _ _ g1)) rfl (h1 3 _ rfl)) rfl rfl rfl rfl rfl rfl ?_
     refine GM.fact (fun _ v => ∃ s, v = .string s ∧ s.size ≤ 194) (StrLe.mono 194) rfl rfl rfl rfl (fun i' hi L' _ => ⟨rfl, OpS.call (by kernel_rfl) rfl (ReplaceAll_t _ _ _ _ _ (hg.le hi) (by omega) (by decide) (by decide)) (fun _ _ _ _ ⟨s', h1, h2, h3, h4⟩ => ⟨h4, s', h1, by have hz : (ByteArray.mk #[92, 34]).size = 2 := rfl; rw [hz] at h2; omega⟩)⟩) ?_
     refine GM.fact (fun _ v => ∃ s, v = .string s ∧ s.size ≤ 259) (StrLe.mono 259) rfl rfl rfl rfl (fun i' hi L' _ => by rintro v ⟨s1, rfl, hs1⟩; exact ⟨rfl, OpS.mono (OpS.pv (PV.addT rfl rfl (by first | omega | (simp only [ByteArray.size_append]; omega)))) (fun _ _ _ _ ⟨h1, h2⟩ => ⟨h1, _, h2, by (try simp only [ByteArray.size_append]); omega⟩)⟩) ?_
     refine GM.fact (fun _ v => ∃ s, v = .string s ∧ s.size ≤ 260) (StrLe.mono 260) rfl rfl rfl rfl (fun i' hi L' _ => by rintro v ⟨s1, rfl, hs1⟩; exact ⟨rfl, OpS.mono (OpS.pv (PV.addT rfl rfl (by first | omega | (simp only [ByteArray.size_append]; omega)))) (fun _ _ _ _ ⟨h1, h2⟩ => ⟨h1, _, h2, by (try simp only [ByteArray.size_append]); omega⟩)⟩) ?_
     refine GM.fact (fun _ v => ∃ s, v = .string s ∧ s.size ≤ 500 * (k + 1)) (StrLe.mono _) rfl rfl rfl rfl (fun i' hi L' _ => by rintro v ⟨s1, rfl, hs1⟩; exact ⟨rfl, OpS.mono (OpS.pv (PV.addT rfl rfl (by first | omega | (simp only [ByteArray.size_append]; omega)))) (fun _ _ _ _ ⟨h1, h2⟩ => ⟨h1, _, h2, by (try simp only [ByteArray.size_append]); omega⟩)⟩) ?_
     refine GM.doneE rfl rfl (fun i2 L2 hi2 _ hA => ?_)
     subst hA
     replace hg := hg.le hi2
     replace hv := hv.le hi2
     rintro _ ⟨s9, rfl, hs9⟩ - - - - - -
     refine RS.pv (PV.all tab_ok rfl) rfl ?_
     refine RS.nil ?_
     repeat' (first | refine RS.pv (PV.all tab_ok rfl) rfl ?_ | refine thenQ.normal ?_ | refine blkQ.normal ?_ | refine CS.region ?_ | refine RS.pv (PV.add rfl rfl (by omega)) rfl ?_ | refine RS.nil ?_)
     exact ⟨ts.length - (k + 1), by omega, k + 1, s9, rfl, by omega, hs9, rfl, hg, hv, rfl⟩
   · refine CS.drawE mix [0,1,2,3,4,5,6,7,8,9,10,11,12,13,14,15] [16] [] (fun _ => True) (fun L' => L' = L) (by kernel_rfl) (by decide) rfl trivial rfl ?_
     iterate 3 refine GM.pv (PV.all tab_ok rfl) rfl rfl rfl rfl rfl rfl ?_
     (refine GM.pv (PV.indexAddr tab_ok rfl rfl rfl (by omega)) rfl rfl rfl rfl rfl rfl ?_)
     refine GM.pv (PV.all tab_ok rfl) rfl rfl rfl rfl rfl rfl ?_
     refine GM.lv (fun i' hi L' hL => LV.load1 tab_ok rfl (Has.imm (hi.blk _ _ g1)) rfl (h1 2 _ rfl)) rfl rfl rfl rfl rfl rfl ?_
     refine GM.pv (PV.addT rfl rfl (by first | omega | (simp only [szc]; omega))) rfl rfl rfl rfl rfl rfl ?_
     iterate 2 refine GM.pv (PV.all tab_ok rfl) rfl rfl rfl rfl rfl rfl ?_
     (refine GM.pv (PV.indexAddr tab_ok rfl rfl rfl (by omega)) rfl rfl rfl rfl rfl rfl ?_)
     refine GM.pv (PV.all tab_ok rfl) rfl rfl rfl rfl rfl rfl ?_
     refine GM.lv (fun i' hi L' hL => LV.load1 tab_ok rfl (Has.imm (hi.blk _ _ g1)) rfl (h1 3 _ rfl)) rfl rfl rfl rfl rfl rfl ?_
     refine GM.fact (fun _ v => ∃ s, v = .string s ∧ s.size ≤ 194) (StrLe.mono 194) rfl rfl rfl rfl (fun i' hi L' _ => ⟨rfl, OpS.call (by kernel_rfl) rfl (ReplaceAll_t _ _ _ _ _ (hg.le hi) (by omega) (by decide) (by decide)) (fun _ _ _ _ ⟨s', h1, h2, h3, h4⟩ => ⟨h4, s', h1, by have hz : (ByteArray.mk #[92, 34]).size = 2 := rfl; rw [hz] at h2; omega⟩)⟩) ?_
     refine GM.fact (fun _ v => ∃ s, v = .string s ∧ s.size ≤ 259) (StrLe.mono 259) rfl rfl rfl rfl (fun i' hi L' _ => by rintro v ⟨s1, rfl, hs1⟩; exact ⟨rfl, OpS.mono (OpS.pv (PV.addT rfl rfl (by first | omega | (simp only [ByteArray.size_append]; omega)))) (fun _ _ _ _ ⟨h1, h2⟩ => ⟨h1, _, h2, by (try simp only [ByteArray.size_append]); omega⟩)⟩) ?_
     refine GM.fact (fun _ v => ∃ s, v = .string s ∧ s.size ≤ 260) (StrLe.mono 260) rfl rfl rfl rfl (fun i' hi L' _ => by rintro v ⟨s1, rfl, hs1⟩; exact ⟨rfl, OpS.mono (OpS.pv (PV.addT rfl rfl (by first | omega | (simp only [ByteArray.size_append]; omega)))) (fun _ _ _ _ ⟨h1, h2⟩ => ⟨h1, _, h2, by (try simp only [ByteArray.size_append]); omega⟩)⟩) ?_
     refine GM.fact (fun _ v => ∃ s, v = .string s ∧ s.size ≤ 500 * (k + 1)) (StrLe.mono _) rfl rfl rfl rfl (fun i' hi L' _ => by rintro v ⟨s1, rfl, hs1⟩; exact ⟨rfl, OpS.mono (OpS.pv (PV.addT rfl rfl (by first | omega | (simp only [ByteArray.size_append]; omega)))) (fun _ _ _ _ ⟨h1, h2⟩ => ⟨h1, _, h2, by (try simp only [ByteArray.size_append]); omega⟩)⟩) ?_
     refine GM.doneE rfl rfl (fun i2 L2 hi2 _ hA => ?_)
     subst hA
     replace hg := hg.le hi2
     replace hv := hv.le hi2
     rintro _ ⟨s9, rfl, hs9⟩ - - - - - -
     refine RS.pv (PV.all tab_ok rfl) rfl ?_
     refine RS.nil ?_
     repeat' (first | refine RS.pv (PV.all tab_ok rfl) rfl ?_ | refine thenQ.normal ?_ | refine blkQ.normal ?_ | refine CS.region ?_ | refine RS.pv (PV.add rfl rfl (by omega)) rfl ?_ | refine RS.nil ?_)
     exact ⟨ts.length - (k + 1), by omega, k + 1, s9, rfl, by omega, hs9, rfl, hg, hv, rfl⟩
 · repeat' (first | refine RS.pv (PV.all tab_ok rfl) rfl ?_ | refine CS.seq ?_ | refine thenQ.normal ?_ | refine CS.cond_true rfl ?_ | refine CS.cond_false rfl ?_ | refine CS.skip ?_ | refine CS.ret ?_ | refine thenQ.ret ?_ | refine retQ.ret ?_ | refine CS.exit ?_ | refine thenQ.exit ?_ | refine blkQ.here ?_ | refine CS.region (id := 3) ?_ | refine CS.region (id := 13) ?_ | refine CS.region (id := 14) ?_ | refine CS.region (id := 15) ?_ | refine RS.pv (PV.lenS tab_ok rfl rfl) rfl ?_ | refine RS.pv (PV.lssF rfl rfl (by omega)) rfl ?_ | refine RS.pv (PV.lenT tab_ok rfl rfl) rfl ?_ | refine RS.ifGtr rfl rfl rfl (fun h => ?_) (fun h => ?_) | refine RS.nil ?_)
   · exact ⟨⟨_, _, rfl, by show (0 : Nat) ≤ _; omega⟩, rfl⟩
   · exact ⟨⟨_, _, rfl, by omega⟩, rfl⟩
end Go.Proofs.YtckdkhhpjnefpaaGreatDoor
namespace Go.Proofs.YtckdkhhpjnefpaaGreatDoor
open Go Go.Eng
theorem small_cons {t : Tok} {B : Nat} (h : t.small B) {l : List Tok} (hl : smallK B l) : smallK B (l ++ [t]) := fun u hu => (List.mem_append.1 hu).elim (hl u) fun h' => by simp at h'; subst h'; exact h
theorem at_strs {ss : List ByteArray} {B len : Nat} {i : Imm} {v : Value} {xs : List Value} (hx : Sl i v 1 len xs) (he : xs = strs ss) (hB : shortL B ss) {j : Int} (hj : 0 ≤ j ∧ j < len) : ∃ s, (xs.drop (j.toNat * 1)).take 1 = [.string s] ∧ s.size ≤ B := by
 obtain ⟨_, _, _, hl, _⟩ := hx
 subst he
 have h1 : j.toNat < ss.length := by have := hl; simp [strs] at this; omega
 refine ⟨ss[j.toNat], ?_, hB _ (List.getElem_mem h1)⟩
 have h2 : j.toNat * 1 < (strs ss).length := by simp [strs]; omega
 rw [List.drop_eq_getElem_cons h2]
 simp [strs]
def SS (B len : Nat) (i : Imm) (v : Value) : Prop := ∃ b ss, v = .slice (some ⟨b, 0, none⟩) len len ∧ Sl i v 1 len (strs ss) ∧ shortL B ss
theorem SS.mono (B len : Nat) : Mono (SS B len) := fun _ _ hi _ ⟨b, ss, h1, h2, h3⟩ => ⟨b, ss, h1, h2.le hi, h3⟩
def Str1 (B : Nat) (l : List Value) : Prop := ∃ s, l = [.string s] ∧ s.size ≤ B
set_option maxHeartbeats 2000000 in
set_option maxRecDepth 4000 in
theorem Format10_t (v : Value) (ts : List Term) (i : Imm) (L : SH) (hg : Glb i) (hv : Sl i v 4 ts.length (terms ts)) (hB : smallL 64 ts) (hn : ts.length ≤ 4294967280) :
 FnS Tryz.prog 51 [v] i L fun v i' L' => (∃ s e, v = .tuple #[.string s, .int .i64 e] ∧ s.size ≤ 1024) ∧ L' = L := by
 obtain ⟨ao, cap, hva, _⟩ := id hv
 subst hva
 refine FnS.intro2 Tryz.func51 rfl Tryz.ntmps51 (by simp) Tryz.results51 ?_
 repeat' (first | refine RS.pv (PV.all tab_ok rfl) rfl ?_ | refine CS.seq ?_ | refine thenQ.normal ?_ | refine CS.cond_true rfl ?_ | refine CS.cond_false rfl ?_ | refine CS.skip ?_ | refine CS.ret ?_ | refine thenQ.ret ?_ | refine retQ.ret ?_ | refine CS.block ?_ | refine CS.region (id := 0) ?_ | refine CS.region (id := 1) ?_ | refine CS.region (id := 2) ?_ | refine CS.region (id := 3) ?_ | refine CS.region (id := 4) ?_ | refine CS.region (id := 5) ?_ | (refine RS.call (Check10_t _ _ _ _ hg hv (fun t ht => ⟨Nat.le_trans (hB t ht).1 (by decide), Nat.le_trans (hB t ht).2 (by decide)⟩) hn) rfl (by kernel_rfl) rfl ?_; rintro _ i L hi ⟨⟨e, rfl, hok⟩, rfl⟩; replace hg := hg.le hi; replace hv := hv.le hi) | refine RS.ifNeq rfl rfl rfl (fun h => ?_) (fun h => ?_) | refine RS.nil ?_)
 · exact ⟨⟨_, _, rfl, by show (0 : Nat) ≤ _; omega⟩, rfl⟩
 have hok := hok (by omega)
 obtain ⟨hn1, hn2, hok⟩ := hok
 refine CS.loop [0, 5, 6] (fun m vs i' L' => ∃ (k : Nat) (ao2 : Option Addr) (cap2 : Nat) (us : List Tok) (O : SH), m = ts.length - k ∧ k ≤ ts.length ∧ us.length = k ∧ smallK 64 us ∧ SlO 143 (.slice ao2 k cap2) 4 k (toks us) O ∧ vs = [.slice ao ts.length cap, .slice ao2 k cap2, .int .i64 (k : Int)] ∧ Glb i' ∧ Sl i' (.slice ao ts.length cap) 4 ts.length (terms ts) ∧ L' = O ++ L) ts.length ⟨0, _, _, [], [], rfl, Nat.zero_le _, rfl, (fun t ht => by cases ht), SlO.nil _ _, rfl, hg, hv, rfl⟩ ?_
 rintro m g vs i _ hi ⟨k, ao2, cap2, us, O, rfl, hk, hus, hsm, hO, rfl, hg, hv, rfl⟩
 by_cases hlt : k < ts.length
 · obtain ⟨t, ht⟩ : ∃ t, ts[k]? = some t := ⟨_, List.getElem?_eq_getElem hlt⟩
   have hts := hB t (List.mem_of_getElem? ht)
   obtain ⟨ht1, ht2⟩ := hts
   obtain ⟨ho1, ho2, ho3, ho4⟩ := hok t (List.mem_of_getElem? ht)
   obtain ⟨b1, o1, c1, t1, z1, p1, e1, g1, h1⟩ := Sl.term hv ht
   cases e1
   repeat' (first | refine RS.pv (PV.all tab_ok rfl) rfl ?_ | refine CS.seq ?_ | refine thenQ.normal ?_ | refine CS.cond_true rfl ?_ | refine CS.skip ?_ | refine CS.block ?_ | refine CS.region (id := 6) ?_ | refine RS.pv (PV.lenS tab_ok rfl rfl) rfl ?_ | refine RS.pv (PV.lssT rfl rfl (by omega)) rfl ?_ | refine RS.nil ?_)
   refine CS.drawM mix [0,1,2,3,4,5,6,7,8,9,10,11,12,13,14,15,16,17,18,19,20,21,22,23,24,25,26,27,28,29] [30] [29] (fun _ => True) (stE fun L' => L' = O ++ L) (by kernel_rfl) (by decide) rfl trivial (stE_mono _) rfl ?_
   refine GM.pv (PV.all tab_ok rfl) rfl rfl rfl rfl rfl rfl ?_
   refine GM.fact (SS 16 25) (SS.mono _ _) rfl rfl rfl rfl (fun i' hi L' _ => ⟨rfl, OpS.call (by kernel_rfl) rfl (Keys_t _ _) (fun _ _ _ _ ⟨⟨b, ss, h1, h2, h3, h4⟩, h5⟩ => ⟨h5, b, ss, h1, h2, h4⟩)⟩) ?_
   iterate 2 refine GM.pv (PV.all tab_ok rfl) rfl rfl rfl rfl rfl rfl ?_
   (refine GM.pv (PV.indexAddr tab_ok rfl rfl rfl (by omega)) rfl rfl rfl rfl rfl rfl ?_)
   refine GM.pv (PV.all tab_ok rfl) rfl rfl rfl rfl rfl rfl ?_
   refine GM.lv (fun i' hi L' hL => LV.load1 tab_ok rfl (Has.imm (hi.blk _ _ g1)) rfl (h1 0 _ rfl)) rfl rfl rfl rfl rfl rfl ?_
   refine GM.fact (PtC 1 (Str1 16)) (PtC.mono _ _) rfl rfl rfl rfl (fun i2 hi2 L' _ => by rintro v ⟨b, ss, h1, h2, h3⟩; exact ⟨rfl, OpS.idx tab_ok (Str1 16) rfl rfl rfl (by omega) h2 (by omega) (at_strs h2 rfl h3 (by omega))⟩) ?_
   refine GM.fact (fun _ v => ∃ s, v = .string s ∧ s.size ≤ 16) (StrLe.mono 16) rfl rfl rfl rfl (fun i2 hi2 L' _ => by intro v hv; exact ⟨rfl, OpS.mono (OpS.ld1 tab_ok rfl rfl hv (by omega)) (fun u i3 L3 _ ⟨h1, l, h2, ⟨x, h3, h4⟩, _⟩ => ⟨h1, x, by rw [h3] at h2; cases h2; rfl, h4⟩)⟩) ?_
   iterate 2 refine GM.pv (PV.all tab_ok rfl) rfl rfl rfl rfl rfl rfl ?_
   (refine GM.pv (PV.indexAddr tab_ok rfl rfl rfl (by omega)) rfl rfl rfl rfl rfl rfl ?_)
   refine GM.pv (PV.all tab_ok rfl) rfl rfl rfl rfl rfl rfl ?_
   refine GM.lv (fun i' hi L' hL => LV.load1 tab_ok rfl (Has.imm (hi.blk _ _ g1)) rfl (h1 1 _ rfl)) rfl rfl rfl rfl rfl rfl ?_
   refine GM.fact (SS 16 7) (SS.mono _ _) rfl rfl rfl rfl (fun i' hi L' _ => ⟨rfl, OpS.call (by kernel_rfl) rfl (Ops_t _ _) (fun _ _ _ _ ⟨⟨b, ss, h1, h2, h3, h4⟩, h5⟩ => ⟨h5, b, ss, h1, h2, h4⟩)⟩) ?_
   iterate 2 refine GM.pv (PV.all tab_ok rfl) rfl rfl rfl rfl rfl rfl ?_
   (refine GM.pv (PV.indexAddr tab_ok rfl rfl rfl (by omega)) rfl rfl rfl rfl rfl rfl ?_)
   refine GM.pv (PV.all tab_ok rfl) rfl rfl rfl rfl rfl rfl ?_
   refine GM.lv (fun i' hi L' hL => LV.load1 tab_ok rfl (Has.imm (hi.blk _ _ g1)) rfl (h1 2 _ rfl)) rfl rfl rfl rfl rfl rfl ?_
   refine GM.fact (PtC 1 (Str1 16)) (PtC.mono _ _) rfl rfl rfl rfl (fun i2 hi2 L' _ => by rintro v ⟨b, ss, h1, h2, h3⟩; exact ⟨rfl, OpS.idx tab_ok (Str1 16) rfl rfl rfl (by omega) h2 (by omega) (at_strs h2 rfl h3 (by omega))⟩) ?_
   refine GM.fact (fun _ v => ∃ s, v = .string s ∧ s.size ≤ 16) (StrLe.mono 16) rfl rfl rfl rfl (fun i2 hi2 L' _ => by intro v hv; exact ⟨rfl, OpS.mono (OpS.ld1 tab_ok rfl rfl hv (by omega)) (fun u i3 L3 _ ⟨h1, l, h2, ⟨x, h3, h4⟩, _⟩ => ⟨h1, x, by rw [h3] at h2; cases h2; rfl, h4⟩)⟩) ?_
   iterate 2 refine GM.pv (PV.all tab_ok rfl) rfl rfl rfl rfl rfl rfl ?_
   (refine GM.pv (PV.indexAddr tab_ok rfl rfl rfl (by omega)) rfl rfl rfl rfl rfl rfl ?_)
   refine GM.pv (PV.all tab_ok rfl) rfl rfl rfl rfl rfl rfl ?_
   refine GM.lv (fun i' hi L' hL => LV.load1 tab_ok rfl (Has.imm (hi.blk _ _ g1)) rfl (h1 3 _ rfl)) rfl rfl rfl rfl rfl rfl ?_
   refine GM.fact (fun _ v => ∃ t : Tok, v = .agg (tokC t).toArray ∧ t.small 64) (fun _ _ _ _ h => h) rfl rfl rfl rfl (fun i' hi L' _ => by rintro v ⟨s1, rfl, hs1⟩ w ⟨s2, rfl, hs2⟩; exact ⟨rfl, OpS.mono (OpS.pv (PV.all tab_ok rfl)) (fun _ _ _ _ ⟨h1, h2⟩ => ⟨h1, ⟨_, _, _, _⟩, h2, by show s1.size ≤ 64; omega, ht1, by show s2.size ≤ 64; omega, ht2⟩)⟩) ?_
   refine GM.fact (fun i v => ∃ (b : Nat) (t : Tok), v = .slice (some ⟨b, 0, none⟩) 1 1 ∧ Sl i v 4 1 (tokC t) ∧ t.small 64) (fun _ _ hi _ ⟨b, t, h1, h2, h3⟩ => ⟨b, t, h1, h2.le hi, h3⟩) rfl rfl rfl rfl (fun i' hi L' _ => by rintro v ⟨u, rfl, hu⟩; exact ⟨rfl, OpS.mono (OpS.buildSliceF tab_ok (sz := 4) (cs := tokC u) (bsl_one rfl rfl rfl rfl (by decide) (by decide) rfl) rfl) (fun _ _ _ _ ⟨h1, b, h2, h3⟩ => ⟨h1, b, u, h2, h3, hu⟩)⟩) ?_
   refine GM.turn (fun _ _ => True) ⟨[47], fun _ vs L' => ∃ ao' cap' us' O', vs = [.slice ao' (k + 1) cap'] ∧ SlO 143 (.slice ao' (k + 1) cap') 4 (k + 1) (toks us') O' ∧ us'.length = k + 1 ∧ smallK 64 us' ∧ L' = O' ++ L⟩ (fun _ _ _ _ _ => trivial) (fun _ _ _ _ _ h => h) rfl rfl rfl rfl rfl rfl (fun i' hi L' _ vs _ hm => ?_) ?_
   · rintro v ⟨b, u, rfl, hbs, hu⟩ -
     refine ⟨rfl, ?_⟩
     subst hm
     refine OpS.mono (OpS.app tab_ok (sz := 4) (bytes := 64) (m := 1) rfl rfl hO (hbs.rd _) ⟨_, rfl, rfl⟩ ⟨_, rfl, rfl, rfl⟩ (by omega) (allOne rfl) (by omega) (by omega)) ?_
     rintro v' i3 L3 _ ⟨rfl, ao', cap', O', rfl, h1, rfl⟩
     exact ⟨trivial, trivial, ao', cap', us ++ [u], O', rfl, by rw [toks_snoc]; exact h1, by simp [hus], small_cons hu hsm, rfl⟩
   refine GM.done rfl rfl (fun i2 L2 vs hi2 _ _ hm => ?_)
   obtain ⟨ao', cap', us', O', rfl, h1, h2, h3, rfl⟩ := hm
   rintro w - w2 - w3 - w4 - w5 - w6 - w7 - w8 - w9 - hw
   have hwv : w = .slice ao' (k + 1) cap' := hw 0 _ _ rfl rfl
   subst hwv
   replace hg := hg.le hi2
   replace hv := hv.le hi2
   refine RS.pv (PV.all tab_ok rfl) rfl ?_
   refine RS.nil ?_
   repeat' (first | refine RS.pv (PV.all tab_ok rfl) rfl ?_ | refine thenQ.normal ?_ | refine blkQ.normal ?_ | refine CS.region ?_ | refine RS.pv (PV.add rfl rfl (by omega)) rfl ?_ | refine RS.nil ?_)
   exact ⟨ts.length - (k + 1), by omega, k + 1, _, _, us', O', rfl, by omega, h2, h3, h1, rfl, hg, hv, rfl⟩
 · obtain rfl : k = ts.length := by omega
   repeat' (first | refine RS.pv (PV.all tab_ok rfl) rfl ?_ | refine CS.seq ?_ | refine thenQ.normal ?_ | refine CS.cond_false rfl ?_ | refine CS.exit ?_ | refine thenQ.exit ?_ | refine blkQ.here ?_ | refine CS.region (id := 6) ?_ | refine RS.pv (PV.lenS tab_ok rfl rfl) rfl ?_ | refine RS.pv (PV.lssF rfl rfl (by omega)) rfl ?_ | refine RS.nil ?_)
   refine CS.freezeSl hO (List.Perm.refl _) (fun i2 hi2 hv2 => ?_)
   replace hg := hg.le hi2
   repeat' (first | refine RS.pv (PV.all tab_ok rfl) rfl ?_ | refine thenQ.normal ?_ | refine CS.ret ?_ | refine retQ.ret ?_ | refine CS.region ?_ | (refine RS.call (Format8_t _ us _ _ hg (by first | (rw [hus]; assumption) | (rw [← hus]; assumption) | assumption) hsm (by omega)) rfl (by kernel_rfl) rfl ?_; rintro _ i _ hi ⟨⟨s9, e9, rfl, hs9⟩, rfl⟩) | refine RS.nil ?_)
   exact ⟨⟨_, _, rfl, hs9⟩, rfl⟩
end Go.Proofs.YtckdkhhpjnefpaaGreatDoor
namespace Go.Proofs.YtckdkhhpjnefpaaGreatDoor
set_option maxHeartbeats 4000000
open Go Go.Eng
theorem TextW_t (tp : Nat) (lv : Value) (a n : Int) (i : Imm) (L : SH) (hg : Glb i) (hl : IntSl i lv) (hn : 0 ≤ n ∧ n ≤ 8) (ha : 0 ≤ a ∧ a ≤ 700000000000) :
 FnS Tryz.prog 21 [.pointer (some ⟨tp, 0, none⟩), .int .i64 n] i ((tp, tapeO lv a) :: L) fun v i' L' => (∃ s, v = .string s ∧ s.size ≤ 10000) ∧ ∃ a', a ≤ a' ∧ a' ≤ a + 2000 ∧ L' = (tp, tapeO lv a') :: L := by
 have hz1 : (ByteArray.mk #[35, 32]).size = 2 := rfl
 have hz2 : (ByteArray.mk #[32, 120]).size = 2 := rfl
 have hz3 : (ByteArray.mk #[10]).size = 1 := rfl
 refine FnS.intro1 Tryz.func21 rfl Tryz.ntmps21 (by simp) Tryz.results21 ?_
 repeat' (first | refine RS.pv (PV.all tab_ok rfl) rfl ?_ | refine CS.seq ?_ | refine thenQ.normal ?_ | refine CS.block ?_ | refine CS.region (id := 0) ?_ | refine CS.region (id := 1) ?_ | refine CS.region (id := 2) ?_ | refine RS.pv (PV.add rfl rfl (by omega)) rfl ?_ | (refine RS.call (Next_t _ 0 _ _ _ _ _ hl rfl (by omega) (by omega)) rfl (by kernel_rfl) rfl ?_; rintro _ _ _ - ⟨x, rfl, ⟨hx0, hx1⟩, rfl, rfl⟩) | refine RS.nil ?_)
 refine CS.loop [0, 1, 5, 6] (fun m vs i' L' => ∃ (k : Int) (s : ByteArray) (a' : Int), m = k.toNat ∧ 0 ≤ k ∧ k ≤ 8 ∧ s.size ≤ 1100 * (8 - k).toNat ∧ a ≤ a' ∧ a' ≤ a + 1 + 210 * (8 - k) ∧ vs = [.pointer (some ⟨tp, 0, none⟩), .int .i64 n, .string s, .int .i64 k] ∧ Glb i' ∧ IntSl i' lv ∧ L' = (tp, tapeO lv a') :: L) _ ⟨_, _, _, rfl, hx0, by omega, by show (0 : Nat) ≤ _; omega, by omega, by omega, rfl, hg, hl, rfl⟩ ?_
 rintro m g vs i _ hi ⟨k, s, a', rfl, hk0, hk, hs, ha0, ha1, rfl, hg, hl, rfl⟩
 by_cases hlt : 0 < k
 · repeat' (first | refine RS.pv (PV.all tab_ok rfl) rfl ?_ | refine CS.seq ?_ | refine thenQ.normal ?_ | refine CS.cond_true rfl ?_ | refine CS.cond_false rfl ?_ | refine CS.skip ?_ | refine CS.block ?_ | refine blkQ.normal ?_ | refine CS.region (id := 3) ?_ | refine CS.region (id := 4) ?_ | refine CS.region (id := 5) ?_ | refine CS.region (id := 6) ?_ | refine CS.region (id := 7) ?_ | refine CS.region (id := 8) ?_ | refine CS.region (id := 9) ?_ | refine CS.region (id := 10) ?_ | refine CS.region (id := 11) ?_ | (refine RS.call (Next_t _ 0 _ _ _ _ _ hl rfl (by omega) (by omega)) rfl (by kernel_rfl) rfl ?_; rintro _ _ _ - ⟨x, rfl, ⟨hx0, hx1⟩, rfl, rfl⟩) | refine RS.pv (PV.gtrT rfl rfl (by omega)) rfl ?_ | refine RS.pv (PV.sub rfl rfl (by omega)) rfl ?_ | (refine RS.call (Terms_t _ _ _ _ _ hl (by omega)) rfl (by kernel_rfl) rfl ?_; rintro vt i _ hi ⟨⟨ts, hts, hsm, htn⟩, a1, ha1, ha2, rfl⟩; replace hg := hg.le hi; replace hl := hl.le hi) | (refine RS.call (Format10_t _ ts _ _ hg hts hsm (by omega)) rfl (by kernel_rfl) rfl ?_; rintro _ i _ hi ⟨⟨x, e, rfl, hxs⟩, rfl⟩; replace hg := hg.le hi; replace hl := hl.le hi) | refine RS.ifEql rfl rfl rfl (fun h => ?_) (fun h => ?_) | refine RS.addT rfl rfl rfl (by first | omega | (simp only [szc]; omega)) (fun s' hs' => ?_) | refine RS.nil ?_)
   all_goals exact ⟨(k - 1).toNat, by omega, k - 1, _, _, rfl, by omega, by omega, by omega, by omega, by omega, rfl, hg, hl, rfl⟩
 · repeat' (first | refine RS.pv (PV.all tab_ok rfl) rfl ?_ | refine CS.seq ?_ | refine thenQ.normal ?_ | refine CS.cond_false rfl ?_ | refine CS.ret ?_ | refine retQ.ret ?_ | refine CS.exit ?_ | refine thenQ.exit ?_ | refine blkQ.here ?_ | refine CS.region (id := 3) ?_ | refine CS.region (id := 12) ?_ | refine RS.pv (PV.gtrF rfl rfl (by omega)) rfl ?_ | refine RS.nil ?_)
   exact ⟨⟨_, rfl, by omega⟩, _, ha0, by omega, rfl⟩
structure Fil where
 name : ByteArray
 text : ByteArray
def filC (f : Fil) : List Value := [.string f.name, .string f.text]
def fils (l : List Fil) : List Value := l.flatMap filC
theorem fils_len : ∀ l : List Fil, (fils l).length = l.length * 2
 | [] => rfl
 | a :: l => by
   have h := fils_len l
   have e : fils (a :: l) = filC a ++ fils l := rfl
   rw [e, List.length_append, h, List.length_cons]
   simp [filC]; omega
theorem fils_snoc (l : List Fil) (t : Fil) : fils (l ++ [t]) = fils l ++ filC t := by simp [fils]
theorem fils_at {l : List Fil} {k : Nat} {t : Fil} (h : l[k]? = some t) (d : Nat) (hd : d < 2) : (fils l)[k * 2 + d]? = (filC t)[d]? := by
 obtain ⟨A, B, rfl, rfl⟩ := split_at h
 have e : fils (A ++ t :: B) = fils A ++ (filC t ++ fils B) := by simp [fils]
 rw [e, List.getElem?_append_right (by rw [fils_len]; omega), fils_len, Nat.add_sub_cancel_left, List.getElem?_append_left (by simpa [filC] using hd)]
theorem fils_one (l : List Fil) : ∀ c ∈ fils l, c.oneCell' = true := by
 intro c hc
 obtain ⟨t, _, ht⟩ := List.mem_flatMap.1 hc
 simp [filC] at ht
 rcases ht with rfl | rfl <;> rfl
def filOk (f : Fil) : Prop := f.name.size ≤ 16 ∧ f.text.size ≤ 10000
def filsOk (l : List Fil) : Prop := l.length ≤ 3 ∧ ∀ f ∈ l, filOk f
def DirO (v : Value) (fs : List Fil) (O : SH) : Prop := SlO 64 v 2 fs.length (fils fs) O ∧ filsOk fs
def CapOk (v : Value) : Prop := ∃ ao n cap, v = .slice ao n cap ∧ n ≤ cap ∧ ((ao = none ∧ n = 0 ∧ cap = 0) ∨ ∃ b, ao = some ⟨b, 0, none⟩)
theorem SlO.capOk {e : TypeId} {v : Value} {sz n : Nat} {xs : List Value} {O : SH} (h : SlO e v sz n xs O) : CapOk v := by
 obtain ⟨ao, cap, rfl⟩ := h.shape
 exact ⟨ao, n, cap, rfl, h.addr⟩
def DirI (i : Imm) (v : Value) : Prop := ∃ fs, Sl i v 2 fs.length (fils fs) ∧ filsOk fs ∧ CapOk v
theorem DirI.le {i i' : Imm} {v : Value} (h : DirI i v) (hi : i.le i') : DirI i' v := let ⟨fs, h1, h2⟩ := h; ⟨fs, h1.le hi, h2⟩
def OLs : List Value → SH → Prop
 | [], R => R = []
 | v :: vs, R => ∃ fs O R', DirO v fs O ∧ OLs vs R' ∧ R = O ++ R'
theorem OLs.snoc : ∀ {vs : List Value} {R : SH}, OLs vs R → ∀ {v : Value} {fs : List Fil} {O : SH}, DirO v fs O → OLs (vs ++ [v]) (R ++ O)
 | [], R, h, v, fs, O, hv => by cases h; exact ⟨fs, O, [], hv, rfl, by simp⟩
 | u :: vs, R, h, v, fs, O, hv => by
   obtain ⟨fs1, O1, R1, h1, h2, rfl⟩ := h
   exact ⟨fs1, O1, R1 ++ O, h1, h2.snoc hv, by rw [List.append_assoc]⟩
theorem OLs.at : ∀ {vs : List Value} {R : SH}, OLs vs R → ∀ {k : Nat} {v : Value}, vs[k]? = some v → ∃ A O B fs, DirO v fs O ∧ R = A ++ (O ++ B) ∧ ∀ fs' O', DirO v fs' O' → OLs vs (A ++ (O' ++ B))
 | [], R, h, k, v, hk => by simp at hk
 | u :: vs, R, h, 0, v, hk => by
   obtain ⟨fs1, O1, R1, h1, h2, rfl⟩ := h
   simp at hk; subst hk
   exact ⟨[], O1, R1, fs1, h1, rfl, fun fs' O' h' => ⟨fs', O', R1, h', h2, rfl⟩⟩
 | u :: vs, R, h, k + 1, v, hk => by
   obtain ⟨fs1, O1, R1, h1, h2, rfl⟩ := h
   obtain ⟨A, O, B, fs, h3, rfl, h4⟩ := h2.at (k := k) (by simpa using hk)
   exact ⟨O1 ++ A, O, B, fs, h3, by rw [List.append_assoc], fun fs' O' h' => ⟨fs1, O1, _, h1, h4 fs' O' h', by rw [List.append_assoc]⟩⟩
theorem OLs.freeze : ∀ {vs : List Value} {R : SH}, OLs vs R → ∀ {i : Imm} {L : SH} {w : World}, St i (R ++ L) w → ∃ i', i.le i' ∧ St i' L w ∧ ∀ v ∈ vs, DirI i' v
 | [], R, h, i, L, w, hw => by cases h; exact ⟨i, Imm.le.refl i, hw, fun v hv => by cases hv⟩
 | u :: vs, R, h, i, L, w, hw => by
   obtain ⟨fs1, O1, R1, h1, h2, rfl⟩ := h
   rw [List.append_assoc] at hw
   obtain ⟨i1, h3, h4, h5⟩ := h1.1.freeze hw
   obtain ⟨i2, h6, h7, h8⟩ := h2.freeze h4
   refine ⟨i2, h3.trans h6, h7, fun v hv => ?_⟩
   rcases List.mem_cons.1 hv with rfl | hv
   · exact ⟨fs1, h5.le h6, h1.2, SlO.capOk h1.1⟩
   · exact h8 v hv
end Go.Proofs.YtckdkhhpjnefpaaGreatDoor
namespace Go.Proofs.YtckdkhhpjnefpaaGreatDoor
set_option maxHeartbeats 4000000
open Go Go.Eng
theorem permD (Od Oo R L : SH) (p : Nat × Obj) : List.Perm (((p :: Od) ++ (Oo ++ (R ++ L))) : SH) (p :: (Oo ++ ((R ++ Od) ++ L))) := by
 refine List.Perm.cons p ?_
 refine (List.perm_append_comm_assoc Od Oo (R ++ L)).trans (List.Perm.append_left Oo ?_)
 rw [List.append_assoc]
 exact List.perm_append_comm_assoc Od R L
theorem Dirs_t (tp : Nat) (lv : Value) (a : Int) (i : Imm) (L : SH) (hg : Glb i) (hl : IntSl i lv) (ha : 0 ≤ a ∧ a ≤ 600000000000) :
 FnS Tryz.prog 22 [.pointer (some ⟨tp, 0, none⟩)] i ((tp, tapeO lv a) :: L) fun v i' L' => ∃ (a' : Int) (ao : Option Addr) (n cap : Nat) (vs : List Value) (Oo R : SH), v = .slice ao n cap ∧ a ≤ a' ∧ a' ≤ a + 20000 ∧ SlO 60 v 1 n vs Oo ∧ OLs vs R ∧ n ≤ 2 ∧ L' = (tp, tapeO lv a') :: (Oo ++ (R ++ L)) := by
 refine FnS.intro1 Tryz.func22 rfl Tryz.ntmps22 (by simp) Tryz.results22 ?_
 repeat' (first | refine RS.pv (PV.all tab_ok rfl) rfl ?_ | refine CS.seq ?_ | refine thenQ.normal ?_ | refine CS.block ?_ | refine CS.region (id := 0) ?_ | refine CS.region (id := 1) ?_ | refine CS.region (id := 2) ?_ | (refine RS.call (Next_t _ 0 _ _ _ _ _ hl rfl (by omega) (by omega)) rfl (by kernel_rfl) rfl ?_; rintro _ _ _ - ⟨x, rfl, ⟨hx0, hx1⟩, rfl, rfl⟩) | refine RS.pv (PV.add rfl rfl (by omega)) rfl ?_ | refine RS.nil ?_)
 refine CS.loop [0, 3, 4] (fun m vs' i' L' => ∃ (k : Int) (a' : Int) (ao : Option Addr) (n cap : Nat) (vs : List Value) (Oo R : SH), m = k.toNat ∧ 0 ≤ k ∧ k + n ≤ 2 ∧ a ≤ a' ∧ a' ≤ a + 1 + 7000 * n ∧ vs' = [.pointer (some ⟨tp, 0, none⟩), .slice ao n cap, .int .i64 k] ∧ SlO 60 (.slice ao n cap) 1 n vs Oo ∧ OLs vs R ∧ Glb i' ∧ IntSl i' lv ∧ L' = (tp, tapeO lv a') :: (Oo ++ (R ++ L))) _ ⟨_, _, _, 0, _, [], [], [], rfl, by omega, by omega, by omega, by omega, rfl, SlO.nil _ _, rfl, hg, hl, rfl⟩ ?_
 rintro m g vs' i _ hi ⟨k, a', ao, n, cap, vs, Oo, R, rfl, hk0, hk, ha0, ha1, rfl, hO, hR, hg, hl, rfl⟩
 by_cases hlt : 0 < k
 · repeat' (first | refine RS.pv (PV.all tab_ok rfl) rfl ?_ | refine CS.seq ?_ | refine thenQ.normal ?_ | refine CS.cond_true rfl ?_ | refine CS.skip ?_ | refine CS.block ?_ | refine CS.region (id := 3) ?_ | refine CS.region (id := 5) ?_ | refine CS.region (id := 6) ?_ | refine CS.region (id := 7) ?_ | refine RS.pv (PV.gtrT rfl rfl (by omega)) rfl ?_ | refine RS.buildSliceF tab_ok 1 rfl rfl rfl (fun bn i hi' hnm => ?_) | refine RS.nil ?_)
   replace hg := hg.le hi'
   replace hl := hl.le hi'
   refine CS.loop [0, 3, 4, 5, 6, 7] (fun m vs' i' L' => ∃ (j : Nat) (b' : Int) (ad : Option Addr) (cd : Nat) (fs : List Fil) (Od : SH), m = 3 - j ∧ j ≤ 3 ∧ fs.length ≤ j ∧ (∀ f ∈ fs, filOk f) ∧ a' ≤ b' ∧ b' ≤ a' + 2010 * j ∧ vs' = [.pointer (some ⟨tp, 0, none⟩), .slice ao n cap, .int .i64 k, .slice ad fs.length cd, .slice (some ⟨bn, 0, none⟩) 3 3, .int .i64 (j : Int)] ∧ SlO 64 (.slice ad fs.length cd) 2 fs.length (fils fs) Od ∧ Glb i' ∧ IntSl i' lv ∧ Sl i' (.slice (some ⟨bn, 0, none⟩) 3 3) 1 3 [.string ⟨#[53, 48, 45, 98, 46, 114, 117, 108, 101, 115]⟩, .string ⟨#[49, 48, 45, 97, 46, 114, 117, 108, 101, 115]⟩, .string ⟨#[57, 48, 45, 99, 46, 114, 117, 108, 101, 115]⟩] ∧ L' = (tp, tapeO lv b') :: (Od ++ (Oo ++ (R ++ L)))) _ ⟨0, _, _, _, [], [], rfl, by omega, by simp, (fun f hf => by cases hf), by omega, by omega, rfl, SlO.nil _ _, hg, hl, hnm, rfl⟩ ?_
   rintro m g vs' i _ hi ⟨j, b', ad, cd, fs, Od, rfl, hj, hjl, hfs, hb0, hb1, rfl, hOd, hg, hl, hnm, rfl⟩
   by_cases hlt2 : j < 3
   · obtain ⟨nm, hnm1, hnm2⟩ : ∃ s : ByteArray, ([.string ⟨#[53, 48, 45, 98, 46, 114, 117, 108, 101, 115]⟩, .string ⟨#[49, 48, 45, 97, 46, 114, 117, 108, 101, 115]⟩, .string ⟨#[57, 48, 45, 99, 46, 114, 117, 108, 101, 115]⟩] : List Value)[j]? = some (.string s) ∧ s.size ≤ 16 := by
      have : j = 0 ∨ j = 1 ∨ j = 2 := by omega
      rcases this with rfl | rfl | rfl <;> exact ⟨_, rfl, by decide⟩
     obtain ⟨b1, o1, c1, t1, z1, cp1, e1, g1, h1⟩ := hnm.at (k := j) hlt2 (by omega)
     cases e1
     have h2 : c1[0 + ((j : Nat) : Int).toNat * 1 + 0]? = some (.string nm) := by rw [h1 0 (by omega)]; simpa using hnm1
     have elen : ∀ f : Fil, (fs ++ [f]).length = fs.length + 1 := fun f => by simp
     repeat' (first | refine RS.pv (PV.all tab_ok rfl) rfl ?_ | refine CS.seq ?_ | refine thenQ.normal ?_ | refine CS.cond_true rfl ?_ | refine CS.cond_false rfl ?_ | refine CS.skip ?_ | refine CS.block ?_ | refine blkQ.normal ?_ | refine CS.region (id := 8) ?_ | refine CS.region (id := 9) ?_ | refine CS.region (id := 10) ?_ | refine CS.region (id := 11) ?_ | refine CS.region (id := 12) ?_ | refine CS.region (id := 13) ?_ | refine CS.region (id := 14) ?_ | (refine RS.call (Next_t _ 0 _ _ _ _ _ hl rfl (by omega) (by omega)) rfl (by kernel_rfl) rfl ?_; rintro _ _ _ - ⟨x, rfl, ⟨hx0, hx1⟩, rfl, rfl⟩) | refine RS.pv (PV.add rfl rfl (by omega)) rfl ?_ | refine RS.pv (PV.lenS tab_ok rfl rfl) rfl ?_ | refine RS.pv (PV.lssT rfl rfl (by omega)) rfl ?_ | refine RS.ifEql rfl rfl rfl (fun h => ?_) (fun h => ?_) | refine RS.pv (PV.indexAddr tab_ok rfl rfl rfl (by omega)) rfl ?_ | refine RS.lv (LV.load1 tab_ok rfl (Has.imm g1) rfl h2) rfl ?_ | refine RS.buildSliceF tab_ok 2 rfl rfl rfl (fun b9 i hi' hbs => ?_) | (refine RS.op (OpS.appC [(tp, _)] tab_ok (sz := 2) (bytes := 32) (m := 1) rfl rfl hOd (hbs.rd _) ⟨_, rfl, rfl⟩ ⟨_, rfl, rfl, rfl⟩ (by omega) (allOne rfl) (by omega) (by omega)) rfl ?_; rintro _ i _ hi3 ⟨O', ⟨ao', cap', rfl, hO'⟩, rfl⟩) | refine RS.nil ?_)
     · exact ⟨3 - (j + 1), by omega, j + 1, _, _, _, fs ++ [⟨nm, ByteArray.empty⟩], O', rfl, by omega, by rw [elen]; omega, (fun f hf => (List.mem_append.1 hf).elim (hfs f) fun h' => by simp at h'; subst h'; exact ⟨hnm2, by show (0 : Nat) ≤ _; omega⟩), by omega, by omega, by rw [elen]; rfl, by rw [elen, fils_snoc]; exact hO', hg.le (hi'.trans hi3), hl.le (hi'.trans hi3), hnm.le (hi'.trans hi3), rfl⟩
     · refine CS.drawE mix [0,1,2,3,4,5,6,7,8,9] [10] [6,9] (fun _ => True) (fun L' => L' = (tp, tapeO lv (b' + 1)) :: (Od ++ (Oo ++ (R ++ L)))) (by kernel_rfl) (by decide) rfl trivial rfl ?_
       iterate 3 refine GM.pv (PV.all tab_ok rfl) rfl rfl rfl rfl rfl rfl ?_
       (refine GM.pv (PV.indexAddr tab_ok rfl rfl rfl (by omega)) rfl rfl rfl rfl rfl rfl ?_)
       refine GM.lv (fun i' hi L' hL => LV.load1 tab_ok rfl (Has.imm (hi.blk _ _ g1)) rfl h2) rfl rfl rfl rfl rfl rfl ?_
       refine GM.pv (PV.all tab_ok rfl) rfl rfl rfl rfl rfl rfl ?_
       refine GM.turnE (fun _ v => ∃ s, v = .string s ∧ s.size ≤ 10000) (fun L' => ∃ b2, b' ≤ b2 ∧ b2 ≤ b' + 2001 ∧ L' = (tp, tapeO lv b2) :: (Od ++ (Oo ++ (R ++ L)))) (StrLe.mono 10000) rfl rfl rfl rfl (fun i2 hi2 L' _ hA => ⟨rfl, by subst hA; exact OpS.call (by kernel_rfl) rfl (TextW_t tp lv _ 4 i2 _ (hg.le hi2) (hl.le hi2) (by omega) (by omega)) (fun _ _ _ _ ⟨h1, a2, h3, h4, h5⟩ => ⟨trivial, h1, a2, by omega, by omega, h5⟩)⟩) ?_
       refine GM.fact (fun _ v => ∃ f : Fil, v = .agg (filC f).toArray ∧ filOk f) (fun _ _ _ _ h => h) rfl rfl rfl rfl (fun i' hi L' _ => by rintro v ⟨s1, rfl, hs1⟩; exact ⟨rfl, OpS.mono (OpS.pv (PV.all tab_ok rfl)) (fun _ _ _ _ ⟨h1, h2⟩ => ⟨h1, ⟨_, _⟩, h2, hnm2, hs1⟩)⟩) ?_
       refine GM.fact (fun i v => ∃ (b : Nat) (f : Fil), v = .slice (some ⟨b, 0, none⟩) 1 1 ∧ Sl i v 2 1 (filC f) ∧ filOk f) (fun _ _ hi _ ⟨b, t, h1, h2, h3⟩ => ⟨b, t, h1, h2.le hi, h3⟩) rfl rfl rfl rfl (fun i' hi L' _ => by rintro v ⟨u, rfl, hu⟩; exact ⟨rfl, OpS.mono (OpS.buildSliceF tab_ok (sz := 2) (cs := filC u) (bsl_one rfl rfl rfl rfl (by decide) (by decide) rfl) rfl) (fun _ _ _ _ ⟨h1, b, h2, h3⟩ => ⟨h1, b, u, h2, h3, hu⟩)⟩) ?_
       refine GM.turn (fun _ _ => True) ⟨[46], fun _ vs L' => ∃ ao' cap' fs' O' b2, vs = [.slice ao' (fs.length + 1) cap'] ∧ SlO 64 (.slice ao' (fs.length + 1) cap') 2 (fs.length + 1) (fils (fs ++ [fs'])) O' ∧ filOk fs' ∧ b' ≤ b2 ∧ b2 ≤ b' + 2001 ∧ L' = (tp, tapeO lv b2) :: (O' ++ (Oo ++ (R ++ L)))⟩ (fun _ _ _ _ _ => trivial) (fun _ _ _ _ _ h => h) rfl rfl rfl rfl rfl rfl (fun i' hi L' _ vs _ hm => ?_) ?_
       · rintro v ⟨b, u, rfl, hbs, hu⟩ -
         refine ⟨rfl, ?_⟩
         obtain ⟨b2, hb2, hb3, rfl⟩ := hm
         refine OpS.mono (OpS.appC [(tp, tapeO lv b2)] tab_ok (sz := 2) (bytes := 32) (m := 1) rfl rfl hOd (hbs.rd _) ⟨_, rfl, rfl⟩ ⟨_, rfl, rfl, rfl⟩ (by omega) (allOne rfl) (by omega) (by omega)) ?_
         rintro v' i3 L3 _ ⟨O', ⟨ao', cap', rfl, h1⟩, rfl⟩
         exact ⟨trivial, trivial, ao', cap', u, O', b2, rfl, by rw [fils_snoc]; exact h1, hu, hb2, hb3, rfl⟩
       refine GM.done rfl rfl (fun i2 L2 vs hi2 _ _ hm => ?_)
       obtain ⟨ao', cap', u, O', b2, rfl, h1, h2, h3, h4, rfl⟩ := hm
       rintro w - w2 - w3 - w4 - hw
       have hwv : w = .slice ao' (fs.length + 1) cap' := hw 0 _ _ rfl rfl
       subst hwv
       refine RS.pv (PV.all tab_ok rfl) rfl ?_
       refine RS.nil ?_
       repeat' (first | refine RS.pv (PV.all tab_ok rfl) rfl ?_ | refine thenQ.normal ?_ | refine blkQ.normal ?_ | refine CS.region ?_ | refine RS.pv (PV.add rfl rfl (by omega)) rfl ?_ | refine RS.nil ?_)
       exact ⟨3 - (j + 1), by omega, j + 1, _, _, _, fs ++ [u], O', rfl, by omega, by rw [elen]; omega, (fun f hf => (List.mem_append.1 hf).elim (hfs f) fun h' => by simp at h'; subst h'; exact h2), by omega, by omega, by rw [elen]; rfl, by rw [elen]; exact h1, hg.le hi2, hl.le hi2, hnm.le hi2, rfl⟩
     · refine CS.drawE mix [0,1,2,3,4,5,6,7,8,9] [10] [6,9] (fun _ => True) (fun L' => L' = (tp, tapeO lv (b' + 1)) :: (Od ++ (Oo ++ (R ++ L)))) (by kernel_rfl) (by decide) rfl trivial rfl ?_
       iterate 3 refine GM.pv (PV.all tab_ok rfl) rfl rfl rfl rfl rfl rfl ?_
       (refine GM.pv (PV.indexAddr tab_ok rfl rfl rfl (by omega)) rfl rfl rfl rfl rfl rfl ?_)
       refine GM.lv (fun i' hi L' hL => LV.load1 tab_ok rfl (Has.imm (hi.blk _ _ g1)) rfl h2) rfl rfl rfl rfl rfl rfl ?_
       refine GM.pv (PV.all tab_ok rfl) rfl rfl rfl rfl rfl rfl ?_
       refine GM.turnE (fun _ v => ∃ s, v = .string s ∧ s.size ≤ 10000) (fun L' => ∃ b2, b' ≤ b2 ∧ b2 ≤ b' + 2001 ∧ L' = (tp, tapeO lv b2) :: (Od ++ (Oo ++ (R ++ L)))) (StrLe.mono 10000) rfl rfl rfl rfl (fun i2 hi2 L' _ hA => ⟨rfl, by subst hA; exact OpS.call (by kernel_rfl) rfl (TextW_t tp lv _ 4 i2 _ (hg.le hi2) (hl.le hi2) (by omega) (by omega)) (fun _ _ _ _ ⟨h1, a2, h3, h4, h5⟩ => ⟨trivial, h1, a2, by omega, by omega, h5⟩)⟩) ?_
       refine GM.fact (fun _ v => ∃ f : Fil, v = .agg (filC f).toArray ∧ filOk f) (fun _ _ _ _ h => h) rfl rfl rfl rfl (fun i' hi L' _ => by rintro v ⟨s1, rfl, hs1⟩; exact ⟨rfl, OpS.mono (OpS.pv (PV.all tab_ok rfl)) (fun _ _ _ _ ⟨h1, h2⟩ => ⟨h1, ⟨_, _⟩, h2, hnm2, hs1⟩)⟩) ?_
       refine GM.fact (fun i v => ∃ (b : Nat) (f : Fil), v = .slice (some ⟨b, 0, none⟩) 1 1 ∧ Sl i v 2 1 (filC f) ∧ filOk f) (fun _ _ hi _ ⟨b, t, h1, h2, h3⟩ => ⟨b, t, h1, h2.le hi, h3⟩) rfl rfl rfl rfl (fun i' hi L' _ => by rintro v ⟨u, rfl, hu⟩; exact ⟨rfl, OpS.mono (OpS.buildSliceF tab_ok (sz := 2) (cs := filC u) (bsl_one rfl rfl rfl rfl (by decide) (by decide) rfl) rfl) (fun _ _ _ _ ⟨h1, b, h2, h3⟩ => ⟨h1, b, u, h2, h3, hu⟩)⟩) ?_
       refine GM.turn (fun _ _ => True) ⟨[46], fun _ vs L' => ∃ ao' cap' fs' O' b2, vs = [.slice ao' (fs.length + 1) cap'] ∧ SlO 64 (.slice ao' (fs.length + 1) cap') 2 (fs.length + 1) (fils (fs ++ [fs'])) O' ∧ filOk fs' ∧ b' ≤ b2 ∧ b2 ≤ b' + 2001 ∧ L' = (tp, tapeO lv b2) :: (O' ++ (Oo ++ (R ++ L)))⟩ (fun _ _ _ _ _ => trivial) (fun _ _ _ _ _ h => h) rfl rfl rfl rfl rfl rfl (fun i' hi L' _ vs _ hm => ?_) ?_
       · rintro v ⟨b, u, rfl, hbs, hu⟩ -
         refine ⟨rfl, ?_⟩
         obtain ⟨b2, hb2, hb3, rfl⟩ := hm
         refine OpS.mono (OpS.appC [(tp, tapeO lv b2)] tab_ok (sz := 2) (bytes := 32) (m := 1) rfl rfl hOd (hbs.rd _) ⟨_, rfl, rfl⟩ ⟨_, rfl, rfl, rfl⟩ (by omega) (allOne rfl) (by omega) (by omega)) ?_
         rintro v' i3 L3 _ ⟨O', ⟨ao', cap', rfl, h1⟩, rfl⟩
         exact ⟨trivial, trivial, ao', cap', u, O', b2, rfl, by rw [fils_snoc]; exact h1, hu, hb2, hb3, rfl⟩
       refine GM.done rfl rfl (fun i2 L2 vs hi2 _ _ hm => ?_)
       obtain ⟨ao', cap', u, O', b2, rfl, h1, h2, h3, h4, rfl⟩ := hm
       rintro w - w2 - w3 - w4 - hw
       have hwv : w = .slice ao' (fs.length + 1) cap' := hw 0 _ _ rfl rfl
       subst hwv
       refine RS.pv (PV.all tab_ok rfl) rfl ?_
       refine RS.nil ?_
       repeat' (first | refine RS.pv (PV.all tab_ok rfl) rfl ?_ | refine thenQ.normal ?_ | refine blkQ.normal ?_ | refine CS.region ?_ | refine RS.pv (PV.add rfl rfl (by omega)) rfl ?_ | refine RS.nil ?_)
       exact ⟨3 - (j + 1), by omega, j + 1, _, _, _, fs ++ [u], O', rfl, by omega, by rw [elen]; omega, (fun f hf => (List.mem_append.1 hf).elim (hfs f) fun h' => by simp at h'; subst h'; exact h2), by omega, by omega, by rw [elen]; rfl, by rw [elen]; exact h1, hg.le hi2, hl.le hi2, hnm.le hi2, rfl⟩
     all_goals exact ⟨3 - (j + 1), by omega, j + 1, _, _, _, fs, Od, rfl, by omega, by omega, hfs, by omega, by omega, rfl, hOd, hg, hl, hnm, rfl⟩
   · have hfo : filsOk fs := ⟨by omega, hfs⟩
     repeat' (first | refine CS.seq ?_ | refine thenQ.normal ?_ | refine CS.cond_false rfl ?_ | (refine CS.region (id := 4) ?_; refine RS.pv (PV.all tab_ok rfl) rfl ?_; refine RS.pv (PV.sub rfl rfl (by omega)) rfl ?_; refine RS.pv (PV.all tab_ok rfl) rfl ?_; refine RS.nil ?_) | (refine CS.region (id := 8) ?_; refine RS.pv (PV.all tab_ok rfl) rfl ?_; refine RS.pv (PV.all tab_ok rfl) rfl ?_; (refine RS.pv (PV.lenS tab_ok rfl rfl) rfl ?_); (refine RS.pv (PV.lssF rfl rfl (by omega)) rfl ?_); (all_goals refine RS.nil ?_)) | (refine CS.region (id := 16) ?_; refine RS.pv (PV.all tab_ok rfl) rfl ?_; refine RS.pv (PV.all tab_ok rfl) rfl ?_; refine RS.buildSliceF tab_ok 1 rfl rfl rfl (fun b9 i hi' hbs => ?_); (all_goals (refine RS.op (OpS.appC ((tp, _) :: Od) tab_ok (sz := 1) (bytes := 24) (m := 1) rfl rfl hO (hbs.rd _) ⟨_, rfl, rfl⟩ ⟨_, rfl, rfl, rfl⟩ (by omega) (allOne rfl) (by omega) (by omega)) rfl ?_; rintro _ i _ hi3 ⟨O', ⟨ao', cap', rfl, hO'⟩, rfl⟩; refine RS.perm (permD _ _ _ _ _) ?_)); (all_goals refine RS.pv (PV.all tab_ok rfl) rfl ?_); (all_goals refine RS.nil ?_)) | refine CS.exit ?_ | refine thenQ.exit ?_ | refine blkQ.normal ?_ | refine blkQ.here ?_)
     exact ⟨(k - 1).toNat, by omega, k - 1, b', ao', n + 1, cap', _, O', R ++ Od, rfl, by omega, by omega, by omega, by omega, rfl, hO', hR.snoc ⟨hOd, hfo⟩, hg.le (hi'.trans hi3), hl.le (hi'.trans hi3), rfl⟩
 · repeat' (first | refine CS.seq ?_ | refine thenQ.normal ?_ | refine CS.cond_false rfl ?_ | (refine CS.region (id := 3) ?_; refine RS.pv (PV.all tab_ok rfl) rfl ?_; (refine RS.pv (PV.gtrF rfl rfl (by omega)) rfl ?_); (all_goals refine RS.nil ?_)) | (refine CS.region (id := 17) ?_; refine RS.pv (PV.all tab_ok rfl) rfl ?_; refine RS.pv (PV.all tab_ok rfl) rfl ?_; refine RS.nil ?_) | refine CS.ret ?_ | refine retQ.ret ?_ | refine CS.exit ?_ | refine thenQ.exit ?_ | refine blkQ.here ?_)
   exact ⟨_, _, _, _, _, _, _, rfl, ha0, by omega, hO, hR, by omega, rfl⟩
end Go.Proofs.YtckdkhhpjnefpaaGreatDoor
