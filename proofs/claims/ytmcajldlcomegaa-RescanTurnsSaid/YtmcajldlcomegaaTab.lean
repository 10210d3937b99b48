/- The table of the types of the translation, for the engine. No condition. -/
import Derived.Test.YtmcajldlcomegaaProg
import Derived.Test.YtmcajldlcomegaaEng7
import Derived.KernelRfl
namespace Go.Proofs.Ytmcajldlcomegaa
open Go Go.Eng

theorem inf2 : (Try.prog.info? 2).map (fun i => (i.size, i.bytes, i.zero)) = some (1, 8, some (.int .i64 0)) := by kernel_rfl
theorem inf3 : (Try.prog.info? 3).map (fun i => (i.size, i.bytes, i.zero)) = some (1, 8, some (.int .i64 0)) := by kernel_rfl
theorem inf4 : (Try.prog.info? 4).map (fun i => (i.size, i.bytes, i.zero)) = some (1, 1, some (.bool false)) := by kernel_rfl
theorem inf5 : (Try.prog.info? 5).map (fun i => (i.size, i.bytes, i.zero)) = some (1, 1, some (.int .u8 0)) := by kernel_rfl
theorem inf7 : (Try.prog.info? 7).map (fun i => (i.size, i.bytes, i.zero)) = some (4, 24, some (.agg #[.int .i64 0, .int .i64 0, .bool false, .int .u8 0])) := by kernel_rfl
theorem inf9 : (Try.prog.info? 9).map (fun i => (i.size, i.bytes, i.zero)) = some (1, 16, some (.string ByteArray.empty)) := by kernel_rfl
theorem inf12 : (Try.prog.info? 12).map (fun i => (i.size, i.bytes, i.zero)) = some (1, 8, some (.int .u64 0)) := by kernel_rfl
theorem inf13 : (Try.prog.info? 13).map (fun i => (i.size, i.bytes, i.zero)) = some (2, 24, some (.agg #[.string ByteArray.empty, .int .u64 0])) := by kernel_rfl
theorem inf15 : (Try.prog.info? 15).map (fun i => (i.size, i.bytes, i.zero)) = some (1, 8, some (.pointer none)) := by kernel_rfl
theorem inf16 : (Try.prog.info? 16).map (fun i => (i.size, i.bytes, i.zero)) = some (1, 8, some (.pointer none)) := by kernel_rfl
theorem inf17 : (Try.prog.info? 17).map (fun i => (i.size, i.bytes, i.zero)) = some (1, 8, some (.pointer none)) := by kernel_rfl
theorem inf18 : (Try.prog.info? 18).map (fun i => (i.size, i.bytes, i.zero)) = some (1, 8, some (.agg #[.pointer none])) := by kernel_rfl
theorem inf21 : (Try.prog.info? 21).map (fun i => (i.size, i.bytes, i.zero)) = some (1, 4, some (.int .i32 0)) := by kernel_rfl
theorem inf22 : (Try.prog.info? 22).map (fun i => (i.size, i.bytes, i.zero)) = some (1, 24, some (.slice none 0 0)) := by kernel_rfl
theorem inf23 : (Try.prog.info? 23).map (fun i => (i.size, i.bytes, i.zero)) = some (1, 8, some (.pointer none)) := by kernel_rfl
theorem inf24 : (Try.prog.info? 24).map (fun i => (i.size, i.bytes, i.zero)) = some (1, 8, some (.int .i64 0)) := by kernel_rfl
theorem inf27 : (Try.prog.info? 27).map (fun i => (i.size, i.bytes, i.zero)) = some (1, 8, some (.pointer none)) := by kernel_rfl
theorem inf28 : (Try.prog.info? 28).map (fun i => (i.size, i.bytes, i.zero)) = some (2, 32, some (.agg #[.slice none 0 0, .int .i64 0])) := by kernel_rfl
theorem inf29 : (Try.prog.info? 29).map (fun i => (i.size, i.bytes, i.zero)) = some (2, 32, some (.agg #[.slice none 0 0, .int .i64 0])) := by kernel_rfl
theorem inf30 : (Try.prog.info? 30).map (fun i => (i.size, i.bytes, i.zero)) = some (1, 8, some (.map none)) := by kernel_rfl
theorem inf33 : (Try.prog.info? 33).map (fun i => (i.size, i.bytes, i.zero)) = some (1, 24, some (.slice none 0 0)) := by kernel_rfl
theorem inf34 : (Try.prog.info? 34).map (fun i => (i.size, i.bytes, i.zero)) = some (1, 24, some (.slice none 0 0)) := by kernel_rfl
theorem inf35 : (Try.prog.info? 35).map (fun i => (i.size, i.bytes, i.zero)) = some (12, 208, some (.agg #[.string ByteArray.empty, .int .i64 0, .slice none 0 0, .slice none 0 0, .slice none 0 0, .slice none 0 0, .slice none 0 0, .string ByteArray.empty, .int .i64 0, .string ByteArray.empty, .string ByteArray.empty, .int .i64 0])) := by kernel_rfl
theorem inf36 : (Try.prog.info? 36).map (fun i => (i.size, i.bytes, i.zero)) = some (12, 208, some (.agg #[.string ByteArray.empty, .int .i64 0, .slice none 0 0, .slice none 0 0, .slice none 0 0, .slice none 0 0, .slice none 0 0, .string ByteArray.empty, .int .i64 0, .string ByteArray.empty, .string ByteArray.empty, .int .i64 0])) := by kernel_rfl
theorem inf37 : (Try.prog.info? 37).map (fun i => (i.size, i.bytes, i.zero)) = some (1, 24, some (.slice none 0 0)) := by kernel_rfl
theorem inf40 : (Try.prog.info? 40).map (fun i => (i.size, i.bytes, i.zero)) = some (14, 224, some (.agg #[.int .i64 0, .int .i64 0, .string ByteArray.empty, .int .i64 0, .slice none 0 0, .slice none 0 0, .slice none 0 0, .slice none 0 0, .slice none 0 0, .string ByteArray.empty, .int .i64 0, .string ByteArray.empty, .string ByteArray.empty, .int .i64 0])) := by kernel_rfl
theorem inf41 : (Try.prog.info? 41).map (fun i => (i.size, i.bytes, i.zero)) = some (14, 224, some (.agg #[.int .i64 0, .int .i64 0, .string ByteArray.empty, .int .i64 0, .slice none 0 0, .slice none 0 0, .slice none 0 0, .slice none 0 0, .slice none 0 0, .string ByteArray.empty, .int .i64 0, .string ByteArray.empty, .string ByteArray.empty, .int .i64 0])) := by kernel_rfl
theorem inf44 : (Try.prog.info? 44).map (fun i => (i.size, i.bytes, i.zero)) = some (1, 24, some (.agg #[.slice none 0 0])) := by kernel_rfl
theorem inf45 : (Try.prog.info? 45).map (fun i => (i.size, i.bytes, i.zero)) = some (1, 24, some (.agg #[.slice none 0 0])) := by kernel_rfl
theorem inf68 : (Try.prog.info? 68).map (fun i => (i.size, i.bytes, i.zero)) = some (4, 56, some (.agg #[.bool false, .bool false, .slice none 0 0, .slice none 0 0])) := by kernel_rfl
theorem inf69 : (Try.prog.info? 69).map (fun i => (i.size, i.bytes, i.zero)) = some (4, 56, some (.agg #[.bool false, .bool false, .slice none 0 0, .slice none 0 0])) := by kernel_rfl
theorem inf72 : (Try.prog.info? 72).map (fun i => (i.size, i.bytes, i.zero)) = some (1, 8, some (.map none)) := by kernel_rfl
theorem inf73 : (Try.prog.info? 73).map (fun i => (i.size, i.bytes, i.zero)) = some (1, 24, some (.slice none 0 0)) := by kernel_rfl
theorem inf74 : (Try.prog.info? 74).map (fun i => (i.size, i.bytes, i.zero)) = some (1, 24, some (.slice none 0 0)) := by kernel_rfl
theorem inf75 : (Try.prog.info? 75).map (fun i => (i.size, i.bytes, i.zero)) = some (1, 24, some (.slice none 0 0)) := by kernel_rfl
theorem inf76 : (Try.prog.info? 76).map (fun i => (i.size, i.bytes, i.zero)) = some (5, 120, some (.agg #[.slice none 0 0, .slice none 0 0, .slice none 0 0, .slice none 0 0, .slice none 0 0])) := by kernel_rfl
theorem inf77 : (Try.prog.info? 77).map (fun i => (i.size, i.bytes, i.zero)) = some (5, 120, some (.agg #[.slice none 0 0, .slice none 0 0, .slice none 0 0, .slice none 0 0, .slice none 0 0])) := by kernel_rfl
theorem inf80 : (Try.prog.info? 80).map (fun i => (i.size, i.bytes, i.zero)) = some (1, 24, some (.slice none 0 0)) := by kernel_rfl
theorem inf84 : (Try.prog.info? 84).map (fun i => (i.size, i.bytes, i.zero)) = some (3, 32, some (.agg #[.int .i64 0, .int .i64 0, .string ByteArray.empty])) := by kernel_rfl
theorem inf85 : (Try.prog.info? 85).map (fun i => (i.size, i.bytes, i.zero)) = some (3, 32, some (.agg #[.int .i64 0, .int .i64 0, .string ByteArray.empty])) := by kernel_rfl
theorem inf87 : (Try.prog.info? 87).map (fun i => (i.size, i.bytes, i.zero)) = some (1, 8, some (.pointer none)) := by kernel_rfl
theorem inf88 : (Try.prog.info? 88).map (fun i => (i.size, i.bytes, i.zero)) = some (8, 64, some (.agg #[.pointer none, .pointer none, .pointer none, .pointer none, .pointer none, .pointer none, .pointer none, .pointer none])) := by kernel_rfl
theorem inf89 : (Try.prog.info? 89).map (fun i => (i.size, i.bytes, i.zero)) = some (9, 72, some (.agg #[.pointer none, .pointer none, .pointer none, .pointer none, .pointer none, .pointer none, .pointer none, .pointer none, .int .i64 0])) := by kernel_rfl
theorem inf90 : (Try.prog.info? 90).map (fun i => (i.size, i.bytes, i.zero)) = some (9, 72, some (.agg #[.pointer none, .pointer none, .pointer none, .pointer none, .pointer none, .pointer none, .pointer none, .pointer none, .int .i64 0])) := by kernel_rfl
theorem inf92 : (Try.prog.info? 92).map (fun i => (i.size, i.bytes, i.zero)) = some (1, 24, some (.slice none 0 0)) := by kernel_rfl
theorem inf102 : (Try.prog.info? 102).map (fun i => (i.size, i.bytes, i.zero)) = some (2, 32, some (.agg #[.string ByteArray.empty, .string ByteArray.empty])) := by kernel_rfl
theorem inf103 : (Try.prog.info? 103).map (fun i => (i.size, i.bytes, i.zero)) = some (2, 32, some (.agg #[.string ByteArray.empty, .string ByteArray.empty])) := by kernel_rfl
theorem inf104 : (Try.prog.info? 104).map (fun i => (i.size, i.bytes, i.zero)) = some (1, 24, some (.slice none 0 0)) := by kernel_rfl
theorem inf108 : (Try.prog.info? 108).map (fun i => (i.size, i.bytes, i.zero)) = some (7, 88, some (.agg #[.string ByteArray.empty, .int .i64 0, .int .i64 0, .string ByteArray.empty, .string ByteArray.empty, .int .i64 0, .string ByteArray.empty])) := by kernel_rfl
theorem inf109 : (Try.prog.info? 109).map (fun i => (i.size, i.bytes, i.zero)) = some (7, 88, some (.agg #[.string ByteArray.empty, .int .i64 0, .int .i64 0, .string ByteArray.empty, .string ByteArray.empty, .int .i64 0, .string ByteArray.empty])) := by kernel_rfl
theorem inf111 : (Try.prog.info? 111).map (fun i => (i.size, i.bytes, i.zero)) = some (1, 24, some (.slice none 0 0)) := by kernel_rfl
theorem inf112 : (Try.prog.info? 112).map (fun i => (i.size, i.bytes, i.zero)) = some (1, 24, some (.agg #[.slice none 0 0])) := by kernel_rfl
theorem inf113 : (Try.prog.info? 113).map (fun i => (i.size, i.bytes, i.zero)) = some (1, 24, some (.agg #[.slice none 0 0])) := by kernel_rfl
theorem inf114 : (Try.prog.info? 114).map (fun i => (i.size, i.bytes, i.zero)) = some (13, 256, some (.agg #[.slice none 0 0, .slice none 0 0, .slice none 0 0, .slice none 0 0, .slice none 0 0, .slice none 0 0, .slice none 0 0, .slice none 0 0, .slice none 0 0, .slice none 0 0, .int .i64 0, .bool false, .bool false])) := by kernel_rfl
theorem inf115 : (Try.prog.info? 115).map (fun i => (i.size, i.bytes, i.zero)) = some (13, 256, some (.agg #[.slice none 0 0, .slice none 0 0, .slice none 0 0, .slice none 0 0, .slice none 0 0, .slice none 0 0, .slice none 0 0, .slice none 0 0, .slice none 0 0, .slice none 0 0, .int .i64 0, .bool false, .bool false])) := by kernel_rfl
theorem inf123 : (Try.prog.info? 123).map (fun i => (i.size, i.bytes, i.zero)) = some (3, 48, some (.agg #[.string ByteArray.empty, .string ByteArray.empty, .string ByteArray.empty])) := by kernel_rfl
theorem inf124 : (Try.prog.info? 124).map (fun i => (i.size, i.bytes, i.zero)) = some (3, 48, some (.agg #[.string ByteArray.empty, .string ByteArray.empty, .string ByteArray.empty])) := by kernel_rfl
theorem inf143 : (Try.prog.info? 143).map (fun i => (i.size, i.bytes, i.zero)) = some (1, 24, some (.slice none 0 0)) := by kernel_rfl
theorem inf145 : (Try.prog.info? 145).map (fun i => (i.size, i.bytes, i.zero)) = some (1, 8, some (.map none)) := by kernel_rfl
theorem inf152 : (Try.prog.info? 152).map (fun i => (i.size, i.bytes, i.zero)) = some (1, 8, some (.map none)) := by kernel_rfl
theorem inf155 : (Try.prog.info? 155).map (fun i => (i.size, i.bytes, i.zero)) = some (1, 8, some (.map none)) := by kernel_rfl
theorem inf158 : (Try.prog.info? 158).map (fun i => (i.size, i.bytes, i.zero)) = some (1, 8, some (.map none)) := by kernel_rfl
theorem inf161 : (Try.prog.info? 161).map (fun i => (i.size, i.bytes, i.zero)) = some (1, 8, some (.map none)) := by kernel_rfl
theorem inf164 : (Try.prog.info? 164).map (fun i => (i.size, i.bytes, i.zero)) = some (1, 24, some (.slice none 0 0)) := by kernel_rfl
theorem inf187 : (Try.prog.info? 187).map (fun i => (i.size, i.bytes, i.zero)) = some (1, 8, some (.int .u64 0)) := by kernel_rfl
theorem inf197 : (Try.prog.info? 197).map (fun i => (i.size, i.bytes, i.zero)) = some (1, 8, some (.int .i64 0)) := by kernel_rfl
theorem inf205 : (Try.prog.info? 205).map (fun i => (i.size, i.bytes, i.zero)) = some (1, 4, some (.int .u32 0)) := by kernel_rfl
theorem inf207 : (Try.prog.info? 207).map (fun i => (i.size, i.bytes, i.zero)) = some (1, 8, some (.int .u64 0)) := by kernel_rfl
theorem inf208 : (Try.prog.info? 208).map (fun i => (i.size, i.bytes, i.zero)) = some (1, 8, some (.int .u64 0)) := by kernel_rfl
theorem inf212 : (Try.prog.info? 212).map (fun i => (i.size, i.bytes, i.zero)) = some (1, 8, some (.pointer none)) := by kernel_rfl
theorem inf214 : (Try.prog.info? 214).map (fun i => (i.size, i.bytes, i.zero)) = some (1, 8, some (.pointer none)) := by kernel_rfl
theorem inf218 : (Try.prog.info? 218).map (fun i => (i.size, i.bytes, i.zero)) = some (4, 40, some (.agg #[.pointer none, .pointer none, .pointer none, .string ByteArray.empty])) := by kernel_rfl
theorem inf220 : (Try.prog.info? 220).map (fun i => (i.size, i.bytes, i.zero)) = some (0, 0, some (.agg #[])) := by kernel_rfl
theorem inf221 : (Try.prog.info? 221).map (fun i => (i.size, i.bytes, i.zero)) = some (0, 0, some (.agg #[])) := by kernel_rfl
theorem inf226 : (Try.prog.info? 226).map (fun i => (i.size, i.bytes, i.zero)) = some (1, 8, some (.pointer none)) := by kernel_rfl
theorem inf229 : (Try.prog.info? 229).map (fun i => (i.size, i.bytes, i.zero)) = some (11, 48, some (.agg #[.int .u64 0, .int .u64 0, .int .u32 0, .int .u8 0, .int .u8 0, .int .u8 0, .int .u8 0, .nilFunc, .pointer none, .int .i32 0, .int .i32 0])) := by kernel_rfl
theorem inf231 : (Try.prog.info? 231).map (fun i => (i.size, i.bytes, i.zero)) = some (10, 136, some (.agg #[.int .i64 0, .int .i64 0, .string ByteArray.empty, .string ByteArray.empty, .string ByteArray.empty, .string ByteArray.empty, .string ByteArray.empty, .int .i64 0, .int .i64 0, .slice none 0 0])) := by kernel_rfl
theorem inf232 : (Try.prog.info? 232).map (fun i => (i.size, i.bytes, i.zero)) = some (10, 136, some (.agg #[.int .i64 0, .int .i64 0, .string ByteArray.empty, .string ByteArray.empty, .string ByteArray.empty, .string ByteArray.empty, .string ByteArray.empty, .int .i64 0, .int .i64 0, .slice none 0 0])) := by kernel_rfl
theorem mkTy {P : Program} {t : Nat} {e : TyE} {z : Value} (hu : P.underlying t = some e.desc) (h : (P.info? t).map (fun i => (i.size, i.bytes, i.zero)) = some (e.size, e.bytes, some z)) (hz : z.cells = e.zero.toArray) (hl : e.zero.length = e.size) : TyE.ok P t e := by
  refine ⟨hu, hl, ?_⟩
  cases hi : P.info? t with
  | none => rw [hi] at h; cases h
  | some i =>
    rw [hi] at h
    simp only [Option.map_some, Option.some.injEq, Prod.mk.injEq] at h
    exact ⟨i, z, rfl, h.1, h.2.1, h.2.2, hz⟩
def tab : Tab := [
  (2, ⟨.int .i64, 1, 8, [.int .i64 0]⟩),
  (3, ⟨.int .i64, 1, 8, [.int .i64 0]⟩),
  (4, ⟨.bool, 1, 1, [.bool false]⟩),
  (5, ⟨.int .u8, 1, 1, [.int .u8 0]⟩),
  (7, ⟨.struct #[{ name := "x", type := 2, offset := 0, embedded := false, tag := "", pkgPath := "runtime", byteOffset := 0 }, { name := "y", type := 3, offset := 1, embedded := false, tag := "", pkgPath := "runtime", byteOffset := 8 }, { name := "signed", type := 4, offset := 2, embedded := false, tag := "", pkgPath := "runtime", byteOffset := 16 }, { name := "code", type := 6, offset := 3, embedded := false, tag := "", pkgPath := "runtime", byteOffset := 17 }], 4, 24, [.int .i64 0, .int .i64 0, .bool false, .int .u8 0]⟩),
  (9, ⟨.string, 1, 16, [.string ByteArray.empty]⟩),
  (12, ⟨.int .u64, 1, 8, [.int .u64 0]⟩),
  (13, ⟨.struct #[{ name := "msg", type := 9, offset := 0, embedded := false, tag := "", pkgPath := "runtime", byteOffset := 0 }, { name := "addr", type := 12, offset := 1, embedded := false, tag := "", pkgPath := "runtime", byteOffset := 16 }], 2, 24, [.string ByteArray.empty, .int .u64 0]⟩),
  (15, ⟨.pointer 219, 1, 8, [.pointer none]⟩),
  (16, ⟨.pointer 222, 1, 8, [.pointer none]⟩),
  (17, ⟨.pointer 230, 1, 8, [.pointer none]⟩),
  (18, ⟨.struct #[{ name := "typ", type := 17, offset := 0, embedded := false, tag := "", pkgPath := "internal/runtime/maps", byteOffset := 0 }], 1, 8, [.pointer none]⟩),
  (21, ⟨.int .i32, 1, 4, [.int .i32 0]⟩),
  (22, ⟨.slice 3, 1, 24, [.slice none 0 0]⟩),
  (23, ⟨.pointer 90, 1, 8, [.pointer none]⟩),
  (24, ⟨.int .i64, 1, 8, [.int .i64 0]⟩),
  (27, ⟨.pointer 29, 1, 8, [.pointer none]⟩),
  (28, ⟨.struct #[{ name := "L", type := 22, offset := 0, embedded := false, tag := "", pkgPath := "", byteOffset := 0 }, { name := "At", type := 3, offset := 1, embedded := false, tag := "", pkgPath := "", byteOffset := 24 }], 2, 32, [.slice none 0 0, .int .i64 0]⟩),
  (29, ⟨.struct #[{ name := "L", type := 22, offset := 0, embedded := false, tag := "", pkgPath := "", byteOffset := 0 }, { name := "At", type := 3, offset := 1, embedded := false, tag := "", pkgPath := "", byteOffset := 24 }], 2, 32, [.slice none 0 0, .int .i64 0]⟩),
  (30, ⟨.map 3 3, 1, 8, [.map none]⟩),
  (33, ⟨.slice 103, 1, 24, [.slice none 0 0]⟩),
  (34, ⟨.slice 9, 1, 24, [.slice none 0 0]⟩),
  (35, ⟨.struct #[{ name := "Path", type := 9, offset := 0, embedded := false, tag := "", pkgPath := "", byteOffset := 0 }, { name := "Index", type := 3, offset := 1, embedded := false, tag := "", pkgPath := "", byteOffset := 16 }, { name := "Props", type := 33, offset := 2, embedded := false, tag := "", pkgPath := "", byteOffset := 24 }, { name := "Tags", type := 34, offset := 3, embedded := false, tag := "", pkgPath := "", byteOffset := 48 }, { name := "Links", type := 34, offset := 4, embedded := false, tag := "", pkgPath := "", byteOffset := 72 }, { name := "Run", type := 34, offset := 5, embedded := false, tag := "", pkgPath := "", byteOffset := 96 }, { name := "Load", type := 34, offset := 6, embedded := false, tag := "", pkgPath := "", byteOffset := 120 }, { name := "Name", type := 9, offset := 7, embedded := false, tag := "", pkgPath := "", byteOffset := 144 }, { name := "Priority", type := 3, offset := 8, embedded := false, tag := "", pkgPath := "", byteOffset := 160 }, { name := "Owner", type := 9, offset := 9, embedded := false, tag := "", pkgPath := "", byteOffset := 168 }, { name := "Group", type := 9, offset := 10, embedded := false, tag := "", pkgPath := "", byteOffset := 184 }, { name := "Mode", type := 3, offset := 11, embedded := false, tag := "", pkgPath := "", byteOffset := 200 }], 12, 208, [.string ByteArray.empty, .int .i64 0, .slice none 0 0, .slice none 0 0, .slice none 0 0, .slice none 0 0, .slice none 0 0, .string ByteArray.empty, .int .i64 0, .string ByteArray.empty, .string ByteArray.empty, .int .i64 0]⟩),
  (36, ⟨.struct #[{ name := "Path", type := 9, offset := 0, embedded := false, tag := "", pkgPath := "", byteOffset := 0 }, { name := "Index", type := 3, offset := 1, embedded := false, tag := "", pkgPath := "", byteOffset := 16 }, { name := "Props", type := 33, offset := 2, embedded := false, tag := "", pkgPath := "", byteOffset := 24 }, { name := "Tags", type := 34, offset := 3, embedded := false, tag := "", pkgPath := "", byteOffset := 48 }, { name := "Links", type := 34, offset := 4, embedded := false, tag := "", pkgPath := "", byteOffset := 72 }, { name := "Run", type := 34, offset := 5, embedded := false, tag := "", pkgPath := "", byteOffset := 96 }, { name := "Load", type := 34, offset := 6, embedded := false, tag := "", pkgPath := "", byteOffset := 120 }, { name := "Name", type := 9, offset := 7, embedded := false, tag := "", pkgPath := "", byteOffset := 144 }, { name := "Priority", type := 3, offset := 8, embedded := false, tag := "", pkgPath := "", byteOffset := 160 }, { name := "Owner", type := 9, offset := 9, embedded := false, tag := "", pkgPath := "", byteOffset := 168 }, { name := "Group", type := 9, offset := 10, embedded := false, tag := "", pkgPath := "", byteOffset := 184 }, { name := "Mode", type := 3, offset := 11, embedded := false, tag := "", pkgPath := "", byteOffset := 200 }], 12, 208, [.string ByteArray.empty, .int .i64 0, .slice none 0 0, .slice none 0 0, .slice none 0 0, .slice none 0 0, .slice none 0 0, .string ByteArray.empty, .int .i64 0, .string ByteArray.empty, .string ByteArray.empty, .int .i64 0]⟩),
  (37, ⟨.slice 41, 1, 24, [.slice none 0 0]⟩),
  (40, ⟨.struct #[{ name := "Index", type := 3, offset := 0, embedded := false, tag := "", pkgPath := "", byteOffset := 0 }, { name := "Left", type := 3, offset := 1, embedded := false, tag := "", pkgPath := "", byteOffset := 8 }, { name := "Record", type := 36, offset := 2, embedded := false, tag := "", pkgPath := "", byteOffset := 16 }], 14, 224, [.int .i64 0, .int .i64 0, .string ByteArray.empty, .int .i64 0, .slice none 0 0, .slice none 0 0, .slice none 0 0, .slice none 0 0, .slice none 0 0, .string ByteArray.empty, .int .i64 0, .string ByteArray.empty, .string ByteArray.empty, .int .i64 0]⟩),
  (41, ⟨.struct #[{ name := "Index", type := 3, offset := 0, embedded := false, tag := "", pkgPath := "", byteOffset := 0 }, { name := "Left", type := 3, offset := 1, embedded := false, tag := "", pkgPath := "", byteOffset := 8 }, { name := "Record", type := 36, offset := 2, embedded := false, tag := "", pkgPath := "", byteOffset := 16 }], 14, 224, [.int .i64 0, .int .i64 0, .string ByteArray.empty, .int .i64 0, .slice none 0 0, .slice none 0 0, .slice none 0 0, .slice none 0 0, .slice none 0 0, .string ByteArray.empty, .int .i64 0, .string ByteArray.empty, .string ByteArray.empty, .int .i64 0]⟩),
  (44, ⟨.struct #[{ name := "Jobs", type := 37, offset := 0, embedded := false, tag := "", pkgPath := "", byteOffset := 0 }], 1, 24, [.slice none 0 0]⟩),
  (45, ⟨.struct #[{ name := "Jobs", type := 37, offset := 0, embedded := false, tag := "", pkgPath := "", byteOffset := 0 }], 1, 24, [.slice none 0 0]⟩),
  (68, ⟨.struct #[{ name := "Record", type := 4, offset := 0, embedded := false, tag := "", pkgPath := "", byteOffset := 0 }, { name := "Below", type := 4, offset := 1, embedded := false, tag := "", pkgPath := "", byteOffset := 1 }, { name := "Gone", type := 34, offset := 2, embedded := false, tag := "", pkgPath := "", byteOffset := 8 }, { name := "Come", type := 34, offset := 3, embedded := false, tag := "", pkgPath := "", byteOffset := 32 }], 4, 56, [.bool false, .bool false, .slice none 0 0, .slice none 0 0]⟩),
  (69, ⟨.struct #[{ name := "Record", type := 4, offset := 0, embedded := false, tag := "", pkgPath := "", byteOffset := 0 }, { name := "Below", type := 4, offset := 1, embedded := false, tag := "", pkgPath := "", byteOffset := 1 }, { name := "Gone", type := 34, offset := 2, embedded := false, tag := "", pkgPath := "", byteOffset := 8 }, { name := "Come", type := 34, offset := 3, embedded := false, tag := "", pkgPath := "", byteOffset := 32 }], 4, 56, [.bool false, .bool false, .slice none 0 0, .slice none 0 0]⟩),
  (72, ⟨.map 9 4, 1, 8, [.map none]⟩),
  (73, ⟨.slice 36, 1, 24, [.slice none 0 0]⟩),
  (74, ⟨.slice 109, 1, 24, [.slice none 0 0]⟩),
  (75, ⟨.slice 124, 1, 24, [.slice none 0 0]⟩),
  (76, ⟨.struct #[{ name := "Records", type := 73, offset := 0, embedded := false, tag := "", pkgPath := "", byteOffset := 0 }, { name := "Nodes", type := 74, offset := 1, embedded := false, tag := "", pkgPath := "", byteOffset := 24 }, { name := "Links", type := 75, offset := 2, embedded := false, tag := "", pkgPath := "", byteOffset := 48 }, { name := "Names", type := 33, offset := 3, embedded := false, tag := "", pkgPath := "", byteOffset := 72 }, { name := "Modules", type := 34, offset := 4, embedded := false, tag := "", pkgPath := "", byteOffset := 96 }], 5, 120, [.slice none 0 0, .slice none 0 0, .slice none 0 0, .slice none 0 0, .slice none 0 0]⟩),
  (77, ⟨.struct #[{ name := "Records", type := 73, offset := 0, embedded := false, tag := "", pkgPath := "", byteOffset := 0 }, { name := "Nodes", type := 74, offset := 1, embedded := false, tag := "", pkgPath := "", byteOffset := 24 }, { name := "Links", type := 75, offset := 2, embedded := false, tag := "", pkgPath := "", byteOffset := 48 }, { name := "Names", type := 33, offset := 3, embedded := false, tag := "", pkgPath := "", byteOffset := 72 }, { name := "Modules", type := 34, offset := 4, embedded := false, tag := "", pkgPath := "", byteOffset := 96 }], 5, 120, [.slice none 0 0, .slice none 0 0, .slice none 0 0, .slice none 0 0, .slice none 0 0]⟩),
  (80, ⟨.slice 85, 1, 24, [.slice none 0 0]⟩),
  (84, ⟨.struct #[{ name := "Of", type := 3, offset := 0, embedded := false, tag := "", pkgPath := "", byteOffset := 0 }, { name := "How", type := 3, offset := 1, embedded := false, tag := "", pkgPath := "", byteOffset := 8 }, { name := "Name", type := 9, offset := 2, embedded := false, tag := "", pkgPath := "", byteOffset := 16 }], 3, 32, [.int .i64 0, .int .i64 0, .string ByteArray.empty]⟩),
  (85, ⟨.struct #[{ name := "Of", type := 3, offset := 0, embedded := false, tag := "", pkgPath := "", byteOffset := 0 }, { name := "How", type := 3, offset := 1, embedded := false, tag := "", pkgPath := "", byteOffset := 8 }, { name := "Name", type := 9, offset := 2, embedded := false, tag := "", pkgPath := "", byteOffset := 16 }], 3, 32, [.int .i64 0, .int .i64 0, .string ByteArray.empty]⟩),
  (87, ⟨.pointer 41, 1, 8, [.pointer none]⟩),
  (88, ⟨.array 8 87, 8, 64, [.pointer none, .pointer none, .pointer none, .pointer none, .pointer none, .pointer none, .pointer none, .pointer none]⟩),
  (89, ⟨.struct #[{ name := "jobs", type := 88, offset := 0, embedded := false, tag := "", pkgPath := "coldplug/worker", byteOffset := 0 }, { name := "workers", type := 3, offset := 8, embedded := false, tag := "", pkgPath := "coldplug/worker", byteOffset := 64 }], 9, 72, [.pointer none, .pointer none, .pointer none, .pointer none, .pointer none, .pointer none, .pointer none, .pointer none, .int .i64 0]⟩),
  (90, ⟨.struct #[{ name := "jobs", type := 88, offset := 0, embedded := false, tag := "", pkgPath := "coldplug/worker", byteOffset := 0 }, { name := "workers", type := 3, offset := 8, embedded := false, tag := "", pkgPath := "coldplug/worker", byteOffset := 64 }], 9, 72, [.pointer none, .pointer none, .pointer none, .pointer none, .pointer none, .pointer none, .pointer none, .pointer none, .int .i64 0]⟩),
  (92, ⟨.slice 87, 1, 24, [.slice none 0 0]⟩),
  (102, ⟨.struct #[{ name := "Name", type := 9, offset := 0, embedded := false, tag := "", pkgPath := "", byteOffset := 0 }, { name := "Value", type := 9, offset := 1, embedded := false, tag := "", pkgPath := "", byteOffset := 16 }], 2, 32, [.string ByteArray.empty, .string ByteArray.empty]⟩),
  (103, ⟨.struct #[{ name := "Name", type := 9, offset := 0, embedded := false, tag := "", pkgPath := "", byteOffset := 0 }, { name := "Value", type := 9, offset := 1, embedded := false, tag := "", pkgPath := "", byteOffset := 16 }], 2, 32, [.string ByteArray.empty, .string ByteArray.empty]⟩),
  (104, ⟨.slice 5, 1, 24, [.slice none 0 0]⟩),
  (108, ⟨.struct #[{ name := "Name", type := 9, offset := 0, embedded := false, tag := "", pkgPath := "", byteOffset := 0 }, { name := "Kind", type := 3, offset := 1, embedded := false, tag := "", pkgPath := "", byteOffset := 16 }, { name := "Number", type := 3, offset := 2, embedded := false, tag := "", pkgPath := "", byteOffset := 24 }, { name := "Owner", type := 9, offset := 3, embedded := false, tag := "", pkgPath := "", byteOffset := 32 }, { name := "Group", type := 9, offset := 4, embedded := false, tag := "", pkgPath := "", byteOffset := 48 }, { name := "Mode", type := 3, offset := 5, embedded := false, tag := "", pkgPath := "", byteOffset := 64 }, { name := "Path", type := 9, offset := 6, embedded := false, tag := "", pkgPath := "", byteOffset := 72 }], 7, 88, [.string ByteArray.empty, .int .i64 0, .int .i64 0, .string ByteArray.empty, .string ByteArray.empty, .int .i64 0, .string ByteArray.empty]⟩),
  (109, ⟨.struct #[{ name := "Name", type := 9, offset := 0, embedded := false, tag := "", pkgPath := "", byteOffset := 0 }, { name := "Kind", type := 3, offset := 1, embedded := false, tag := "", pkgPath := "", byteOffset := 16 }, { name := "Number", type := 3, offset := 2, embedded := false, tag := "", pkgPath := "", byteOffset := 24 }, { name := "Owner", type := 9, offset := 3, embedded := false, tag := "", pkgPath := "", byteOffset := 32 }, { name := "Group", type := 9, offset := 4, embedded := false, tag := "", pkgPath := "", byteOffset := 48 }, { name := "Mode", type := 3, offset := 5, embedded := false, tag := "", pkgPath := "", byteOffset := 64 }, { name := "Path", type := 9, offset := 6, embedded := false, tag := "", pkgPath := "", byteOffset := 72 }], 7, 88, [.string ByteArray.empty, .int .i64 0, .int .i64 0, .string ByteArray.empty, .string ByteArray.empty, .int .i64 0, .string ByteArray.empty]⟩),
  (111, ⟨.slice 232, 1, 24, [.slice none 0 0]⟩),
  (112, ⟨.struct #[{ name := "Devices", type := 111, offset := 0, embedded := false, tag := "", pkgPath := "", byteOffset := 0 }], 1, 24, [.slice none 0 0]⟩),
  (113, ⟨.struct #[{ name := "Devices", type := 111, offset := 0, embedded := false, tag := "", pkgPath := "", byteOffset := 0 }], 1, 24, [.slice none 0 0]⟩),
  (114, ⟨.struct #[{ name := "Tree", type := 113, offset := 0, embedded := false, tag := "", pkgPath := "", byteOffset := 0 }, { name := "Records", type := 73, offset := 1, embedded := false, tag := "", pkgPath := "", byteOffset := 24 }, { name := "Nodes", type := 74, offset := 2, embedded := false, tag := "", pkgPath := "", byteOffset := 48 }, { name := "Links", type := 75, offset := 3, embedded := false, tag := "", pkgPath := "", byteOffset := 72 }, { name := "Ready", type := 34, offset := 4, embedded := false, tag := "", pkgPath := "", byteOffset := 96 }, { name := "Dirty", type := 22, offset := 5, embedded := false, tag := "", pkgPath := "", byteOffset := 120 }, { name := "Busy", type := 22, offset := 6, embedded := false, tag := "", pkgPath := "", byteOffset := 144 }, { name := "Waiting", type := 22, offset := 7, embedded := false, tag := "", pkgPath := "", byteOffset := 168 }, { name := "Stale", type := 34, offset := 8, embedded := false, tag := "", pkgPath := "", byteOffset := 192 }, { name := "Loaded", type := 34, offset := 9, embedded := false, tag := "", pkgPath := "", byteOffset := 216 }, { name := "Events", type := 3, offset := 10, embedded := false, tag := "", pkgPath := "", byteOffset := 240 }, { name := "Lost", type := 4, offset := 11, embedded := false, tag := "", pkgPath := "", byteOffset := 248 }, { name := "Down", type := 4, offset := 12, embedded := false, tag := "", pkgPath := "", byteOffset := 249 }], 13, 256, [.slice none 0 0, .slice none 0 0, .slice none 0 0, .slice none 0 0, .slice none 0 0, .slice none 0 0, .slice none 0 0, .slice none 0 0, .slice none 0 0, .slice none 0 0, .int .i64 0, .bool false, .bool false]⟩),
  (115, ⟨.struct #[{ name := "Tree", type := 113, offset := 0, embedded := false, tag := "", pkgPath := "", byteOffset := 0 }, { name := "Records", type := 73, offset := 1, embedded := false, tag := "", pkgPath := "", byteOffset := 24 }, { name := "Nodes", type := 74, offset := 2, embedded := false, tag := "", pkgPath := "", byteOffset := 48 }, { name := "Links", type := 75, offset := 3, embedded := false, tag := "", pkgPath := "", byteOffset := 72 }, { name := "Ready", type := 34, offset := 4, embedded := false, tag := "", pkgPath := "", byteOffset := 96 }, { name := "Dirty", type := 22, offset := 5, embedded := false, tag := "", pkgPath := "", byteOffset := 120 }, { name := "Busy", type := 22, offset := 6, embedded := false, tag := "", pkgPath := "", byteOffset := 144 }, { name := "Waiting", type := 22, offset := 7, embedded := false, tag := "", pkgPath := "", byteOffset := 168 }, { name := "Stale", type := 34, offset := 8, embedded := false, tag := "", pkgPath := "", byteOffset := 192 }, { name := "Loaded", type := 34, offset := 9, embedded := false, tag := "", pkgPath := "", byteOffset := 216 }, { name := "Events", type := 3, offset := 10, embedded := false, tag := "", pkgPath := "", byteOffset := 240 }, { name := "Lost", type := 4, offset := 11, embedded := false, tag := "", pkgPath := "", byteOffset := 248 }, { name := "Down", type := 4, offset := 12, embedded := false, tag := "", pkgPath := "", byteOffset := 249 }], 13, 256, [.slice none 0 0, .slice none 0 0, .slice none 0 0, .slice none 0 0, .slice none 0 0, .slice none 0 0, .slice none 0 0, .slice none 0 0, .slice none 0 0, .slice none 0 0, .int .i64 0, .bool false, .bool false]⟩),
  (123, ⟨.struct #[{ name := "Name", type := 9, offset := 0, embedded := false, tag := "", pkgPath := "", byteOffset := 0 }, { name := "Node", type := 9, offset := 1, embedded := false, tag := "", pkgPath := "", byteOffset := 16 }, { name := "Path", type := 9, offset := 2, embedded := false, tag := "", pkgPath := "", byteOffset := 32 }], 3, 48, [.string ByteArray.empty, .string ByteArray.empty, .string ByteArray.empty]⟩),
  (124, ⟨.struct #[{ name := "Name", type := 9, offset := 0, embedded := false, tag := "", pkgPath := "", byteOffset := 0 }, { name := "Node", type := 9, offset := 1, embedded := false, tag := "", pkgPath := "", byteOffset := 16 }, { name := "Path", type := 9, offset := 2, embedded := false, tag := "", pkgPath := "", byteOffset := 32 }], 3, 48, [.string ByteArray.empty, .string ByteArray.empty, .string ByteArray.empty]⟩),
  (143, ⟨.slice 80, 1, 24, [.slice none 0 0]⟩),
  (145, ⟨.map 9 36, 1, 8, [.map none]⟩),
  (152, ⟨.map 9 109, 1, 8, [.map none]⟩),
  (155, ⟨.map 9 124, 1, 8, [.map none]⟩),
  (158, ⟨.map 9 103, 1, 8, [.map none]⟩),
  (161, ⟨.map 9 9, 1, 8, [.map none]⟩),
  (164, ⟨.slice 77, 1, 24, [.slice none 0 0]⟩),
  (187, ⟨.int .u64, 1, 8, [.int .u64 0]⟩),
  (197, ⟨.int .i64, 1, 8, [.int .i64 0]⟩),
  (205, ⟨.int .u32, 1, 4, [.int .u32 0]⟩),
  (207, ⟨.int .u64, 1, 8, [.int .u64 0]⟩),
  (208, ⟨.int .u64, 1, 8, [.int .u64 0]⟩),
  (212, ⟨.pointer 3, 1, 8, [.pointer none]⟩),
  (214, ⟨.pointer 208, 1, 8, [.pointer none]⟩),
  (218, ⟨.struct #[{ name := "_interface", type := 17, offset := 0, embedded := false, tag := "", pkgPath := "runtime", byteOffset := 0 }, { name := "concrete", type := 17, offset := 1, embedded := false, tag := "", pkgPath := "runtime", byteOffset := 8 }, { name := "asserted", type := 17, offset := 2, embedded := false, tag := "", pkgPath := "runtime", byteOffset := 16 }, { name := "missingMethod", type := 9, offset := 3, embedded := false, tag := "", pkgPath := "runtime", byteOffset := 24 }], 4, 40, [.pointer none, .pointer none, .pointer none, .string ByteArray.empty]⟩),
  (220, ⟨.array 0 16, 0, 0, []⟩),
  (221, ⟨.struct #[{ name := "_", type := 220, offset := 0, embedded := false, tag := "", pkgPath := "runtime", byteOffset := 0 }], 0, 0, []⟩),
  (226, ⟨.pointer 5, 1, 8, [.pointer none]⟩),
  (229, ⟨.struct #[{ name := "Size_", type := 12, offset := 0, embedded := false, tag := "", pkgPath := "", byteOffset := 0 }, { name := "PtrBytes", type := 12, offset := 1, embedded := false, tag := "", pkgPath := "", byteOffset := 8 }, { name := "Hash", type := 205, offset := 2, embedded := false, tag := "", pkgPath := "", byteOffset := 16 }, { name := "TFlag", type := 223, offset := 3, embedded := false, tag := "", pkgPath := "", byteOffset := 20 }, { name := "Align_", type := 5, offset := 4, embedded := false, tag := "", pkgPath := "", byteOffset := 21 }, { name := "FieldAlign_", type := 5, offset := 5, embedded := false, tag := "", pkgPath := "", byteOffset := 22 }, { name := "Kind_", type := 224, offset := 6, embedded := false, tag := "", pkgPath := "", byteOffset := 23 }, { name := "Equal", type := 225, offset := 7, embedded := false, tag := "", pkgPath := "", byteOffset := 24 }, { name := "GCData", type := 226, offset := 8, embedded := false, tag := "", pkgPath := "", byteOffset := 32 }, { name := "Str", type := 227, offset := 9, embedded := false, tag := "", pkgPath := "", byteOffset := 40 }, { name := "PtrToThis", type := 228, offset := 10, embedded := false, tag := "", pkgPath := "", byteOffset := 44 }], 11, 48, [.int .u64 0, .int .u64 0, .int .u32 0, .int .u8 0, .int .u8 0, .int .u8 0, .int .u8 0, .nilFunc, .pointer none, .int .i32 0, .int .i32 0]⟩),
  (231, ⟨.struct #[{ name := "Index", type := 3, offset := 0, embedded := false, tag := "", pkgPath := "", byteOffset := 0 }, { name := "Parent", type := 3, offset := 1, embedded := false, tag := "", pkgPath := "", byteOffset := 8 }, { name := "Name", type := 9, offset := 2, embedded := false, tag := "", pkgPath := "", byteOffset := 16 }, { name := "Original", type := 9, offset := 3, embedded := false, tag := "", pkgPath := "", byteOffset := 32 }, { name := "Subsystem", type := 9, offset := 4, embedded := false, tag := "", pkgPath := "", byteOffset := 48 }, { name := "Driver", type := 9, offset := 5, embedded := false, tag := "", pkgPath := "", byteOffset := 64 }, { name := "Alias", type := 9, offset := 6, embedded := false, tag := "", pkgPath := "", byteOffset := 80 }, { name := "Kind", type := 3, offset := 7, embedded := false, tag := "", pkgPath := "", byteOffset := 96 }, { name := "Number", type := 3, offset := 8, embedded := false, tag := "", pkgPath := "", byteOffset := 104 }, { name := "Attrs", type := 33, offset := 9, embedded := false, tag := "", pkgPath := "", byteOffset := 112 }], 10, 136, [.int .i64 0, .int .i64 0, .string ByteArray.empty, .string ByteArray.empty, .string ByteArray.empty, .string ByteArray.empty, .string ByteArray.empty, .int .i64 0, .int .i64 0, .slice none 0 0]⟩),
  (232, ⟨.struct #[{ name := "Index", type := 3, offset := 0, embedded := false, tag := "", pkgPath := "", byteOffset := 0 }, { name := "Parent", type := 3, offset := 1, embedded := false, tag := "", pkgPath := "", byteOffset := 8 }, { name := "Name", type := 9, offset := 2, embedded := false, tag := "", pkgPath := "", byteOffset := 16 }, { name := "Original", type := 9, offset := 3, embedded := false, tag := "", pkgPath := "", byteOffset := 32 }, { name := "Subsystem", type := 9, offset := 4, embedded := false, tag := "", pkgPath := "", byteOffset := 48 }, { name := "Driver", type := 9, offset := 5, embedded := false, tag := "", pkgPath := "", byteOffset := 64 }, { name := "Alias", type := 9, offset := 6, embedded := false, tag := "", pkgPath := "", byteOffset := 80 }, { name := "Kind", type := 3, offset := 7, embedded := false, tag := "", pkgPath := "", byteOffset := 96 }, { name := "Number", type := 3, offset := 8, embedded := false, tag := "", pkgPath := "", byteOffset := 104 }, { name := "Attrs", type := 33, offset := 9, embedded := false, tag := "", pkgPath := "", byteOffset := 112 }], 10, 136, [.int .i64 0, .int .i64 0, .string ByteArray.empty, .string ByteArray.empty, .string ByteArray.empty, .string ByteArray.empty, .string ByteArray.empty, .int .i64 0, .int .i64 0, .slice none 0 0]⟩)]
theorem mix : Try.prog.follows .mixedOrders = true := by kernel_rfl
theorem tab_ok : tab.ok Try.prog := by
  intro p hp
  simp only [tab, List.mem_cons, List.not_mem_nil, or_false] at hp
  rcases hp with rfl | rfl | rfl | rfl | rfl | rfl | rfl | rfl | rfl | rfl | rfl | rfl | rfl | rfl | rfl | rfl | rfl | rfl | rfl | rfl | rfl | rfl | rfl | rfl | rfl | rfl | rfl | rfl | rfl | rfl | rfl | rfl | rfl | rfl | rfl | rfl | rfl | rfl | rfl | rfl | rfl | rfl | rfl | rfl | rfl | rfl | rfl | rfl | rfl | rfl | rfl | rfl | rfl | rfl | rfl | rfl | rfl | rfl | rfl | rfl | rfl | rfl | rfl | rfl | rfl | rfl | rfl | rfl | rfl | rfl | rfl | rfl | rfl | rfl | rfl | rfl | rfl | rfl
  · exact mkTy Try.underlying2 inf2 rfl rfl
  · exact mkTy Try.underlying3 inf3 rfl rfl
  · exact mkTy Try.underlying4 inf4 rfl rfl
  · exact mkTy Try.underlying5 inf5 rfl rfl
  · exact mkTy Try.underlying7 inf7 rfl rfl
  · exact mkTy Try.underlying9 inf9 rfl rfl
  · exact mkTy Try.underlying12 inf12 rfl rfl
  · exact mkTy Try.underlying13 inf13 rfl rfl
  · exact mkTy Try.underlying15 inf15 rfl rfl
  · exact mkTy Try.underlying16 inf16 rfl rfl
  · exact mkTy Try.underlying17 inf17 rfl rfl
  · exact mkTy Try.underlying18 inf18 rfl rfl
  · exact mkTy Try.underlying21 inf21 rfl rfl
  · exact mkTy Try.underlying22 inf22 rfl rfl
  · exact mkTy Try.underlying23 inf23 rfl rfl
  · exact mkTy Try.underlying24 inf24 rfl rfl
  · exact mkTy Try.underlying27 inf27 rfl rfl
  · exact mkTy Try.underlying28 inf28 rfl rfl
  · exact mkTy Try.underlying29 inf29 rfl rfl
  · exact mkTy Try.underlying30 inf30 rfl rfl
  · exact mkTy Try.underlying33 inf33 rfl rfl
  · exact mkTy Try.underlying34 inf34 rfl rfl
  · exact mkTy Try.underlying35 inf35 rfl rfl
  · exact mkTy Try.underlying36 inf36 rfl rfl
  · exact mkTy Try.underlying37 inf37 rfl rfl
  · exact mkTy Try.underlying40 inf40 rfl rfl
  · exact mkTy Try.underlying41 inf41 rfl rfl
  · exact mkTy Try.underlying44 inf44 rfl rfl
  · exact mkTy Try.underlying45 inf45 rfl rfl
  · exact mkTy Try.underlying68 inf68 rfl rfl
  · exact mkTy Try.underlying69 inf69 rfl rfl
  · exact mkTy Try.underlying72 inf72 rfl rfl
  · exact mkTy Try.underlying73 inf73 rfl rfl
  · exact mkTy Try.underlying74 inf74 rfl rfl
  · exact mkTy Try.underlying75 inf75 rfl rfl
  · exact mkTy Try.underlying76 inf76 rfl rfl
  · exact mkTy Try.underlying77 inf77 rfl rfl
  · exact mkTy Try.underlying80 inf80 rfl rfl
  · exact mkTy Try.underlying84 inf84 rfl rfl
  · exact mkTy Try.underlying85 inf85 rfl rfl
  · exact mkTy Try.underlying87 inf87 rfl rfl
  · exact mkTy Try.underlying88 inf88 rfl rfl
  · exact mkTy Try.underlying89 inf89 rfl rfl
  · exact mkTy Try.underlying90 inf90 rfl rfl
  · exact mkTy Try.underlying92 inf92 rfl rfl
  · exact mkTy Try.underlying102 inf102 rfl rfl
  · exact mkTy Try.underlying103 inf103 rfl rfl
  · exact mkTy Try.underlying104 inf104 rfl rfl
  · exact mkTy Try.underlying108 inf108 rfl rfl
  · exact mkTy Try.underlying109 inf109 rfl rfl
  · exact mkTy Try.underlying111 inf111 rfl rfl
  · exact mkTy Try.underlying112 inf112 rfl rfl
  · exact mkTy Try.underlying113 inf113 rfl rfl
  · exact mkTy Try.underlying114 inf114 rfl rfl
  · exact mkTy Try.underlying115 inf115 rfl rfl
  · exact mkTy Try.underlying123 inf123 rfl rfl
  · exact mkTy Try.underlying124 inf124 rfl rfl
  · exact mkTy Try.underlying143 inf143 rfl rfl
  · exact mkTy Try.underlying145 inf145 rfl rfl
  · exact mkTy Try.underlying152 inf152 rfl rfl
  · exact mkTy Try.underlying155 inf155 rfl rfl
  · exact mkTy Try.underlying158 inf158 rfl rfl
  · exact mkTy Try.underlying161 inf161 rfl rfl
  · exact mkTy Try.underlying164 inf164 rfl rfl
  · exact mkTy Try.underlying187 inf187 rfl rfl
  · exact mkTy Try.underlying197 inf197 rfl rfl
  · exact mkTy Try.underlying205 inf205 rfl rfl
  · exact mkTy Try.underlying207 inf207 rfl rfl
  · exact mkTy Try.underlying208 inf208 rfl rfl
  · exact mkTy Try.underlying212 inf212 rfl rfl
  · exact mkTy Try.underlying214 inf214 rfl rfl
  · exact mkTy Try.underlying218 inf218 rfl rfl
  · exact mkTy Try.underlying220 inf220 rfl rfl
  · exact mkTy Try.underlying221 inf221 rfl rfl
  · exact mkTy Try.underlying226 inf226 rfl rfl
  · exact mkTy Try.underlying229 inf229 rfl rfl
  · exact mkTy Try.underlying231 inf231 rfl rfl
  · exact mkTy Try.underlying232 inf232 rfl rfl
end Go.Proofs.Ytmcajldlcomegaa
