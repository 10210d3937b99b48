/- The contracts of maps.Keys and slices.Sorted at this program, as the kit's tools (lay-iter.mjs, lay-plain.mjs) wrote them. No condition. -/
import Derived.Shelf.SlIter.Nil
import Derived.Shelf.SortM.Plain
import Derived.Shelf.SortM.SortNone
import Derived.Ground.GgzProg
import Derived.Ground.SlgmProg
import Derived.Test.YtmcajldlcomegaaProg
namespace Go.Proofs
open Go.RowKit Go.Maps Go.Sort Go.Shelf

def Try.keys94_ren : Go.Shelf.Ren := ⟨fun | 7 => 94 | 10 => 108 | n => n, fun | 23 => 72 | 26 => 9 | 3 => 4 | 28 => 149 | 0 => 0 | 27 => 148 | 33 => 174 | 4 => 4 | n => n, fun | n => n⟩
theorem Try.keys94 : Go.Proofs.SlLaysZ.n7 Try.prog Try.keys94_ren := {
  mixed := by kernel_rfl
  f7 := ⟨Try.f94.name, by decide, Try.func94.trans (congrArg some (by kernel_rfl))⟩
  f10 := ⟨Try.f108.name, by decide, Try.func108.trans (congrArg some (by kernel_rfl))⟩
  t0 := Try.underlying0
  a0 := Try.isAgg0
  z0 := Try.sizeOf0
  v0 := Try.zeroValue0
  t4 := Try.underlying4
  a4 := Try.isAgg4
  z4 := Try.sizeOf4
  v4 := Try.zeroValue4
  t23 := Try.underlying72
  a23 := Try.isAgg72
  z23 := Try.sizeOf72
  v23 := Try.zeroValue72
  t26 := Try.underlying9
  a26 := Try.isAgg9
  z26 := Try.sizeOf9
  v26 := Try.zeroValue9
  t27 := Try.underlying148
  a27 := Try.isAgg148
  z27 := Try.sizeOf148
  v27 := Try.zeroValue148
  t28 := Try.underlying149
  a28 := Try.isAgg149
  z28 := Try.sizeOf149
  v28 := Try.zeroValue149
  t33 := Try.underlying174
  a33 := Try.isAgg174
  z33 := Try.sizeOf174
  v33 := Try.zeroValue174 }
def Try.sorted93_ren : Go.Shelf.Ren := ⟨fun | 6 => 93 | 8 => 106 | 9 => 107 | 11 => 115 | 13 => 117 | 12 => 116 | 23 => 132 | 24 => 133 | 14 => 123 | 15 => 124 | 16 => 125 | 17 => 126 | 18 => 127 | 19 => 128 | 20 => 129 | 21 => 130 | 22 => 131 | 25 => 134 | 26 => 135 | 27 => 136 | 28 => 137 | 29 => 138 | 30 => 139 | 31 => 140 | n => n, fun | 26 => 9 | 28 => 149 | 24 => 34 | 0 => 0 | 3 => 3 | 37 => 187 | 48 => 205 | 50 => 207 | 4 => 4 | 40 => 198 | 39 => 197 | 45 => 202 | 5 => 5 | 9 => 9 | 51 => 208 | 55 => 212 | 57 => 214 | 58 => 215 | 33 => 174 | n => n, fun | n => n⟩
theorem Try.sorted93 : Go.Proofs.SlLaysZ.n6 Try.prog Try.sorted93_ren := {
  mixed := by kernel_rfl
  f6 := ⟨Try.f93.name, by decide, Try.func93.trans (congrArg some (by kernel_rfl))⟩
  f8 := ⟨Try.f106.name, by decide, Try.func106.trans (congrArg some (by kernel_rfl))⟩
  f11 := ⟨Try.f115.name, by decide, Try.func115.trans (congrArg some (by kernel_rfl))⟩
  t0 := Try.underlying0
  a0 := Try.isAgg0
  z0 := Try.sizeOf0
  v0 := Try.zeroValue0
  t24 := Try.underlying34
  a24 := Try.isAgg34
  z24 := Try.sizeOf34
  v24 := Try.zeroValue34
  t26 := Try.underlying9
  a26 := Try.isAgg9
  z26 := Try.sizeOf9
  v26 := Try.zeroValue9
  t28 := Try.underlying149
  a28 := Try.isAgg149
  z28 := Try.sizeOf149
  v28 := Try.zeroValue149
  i26 := by kernel_rfl }
def Try.sort107_ren : Go.Shelf.Ren := ⟨fun | 6 => 107 | 8 => 117 | 9 => 116 | 19 => 132 | 20 => 133 | 21 => 123 | 22 => 124 | 23 => 125 | 24 => 126 | 25 => 127 | 26 => 128 | 27 => 129 | 28 => 130 | 29 => 131 | 36 => 134 | 31 => 135 | 32 => 136 | 37 => 137 | 38 => 138 | 39 => 139 | 41 => 140 | n => n, fun | 27 => 34 | 29 => 9 | 3 => 3 | 32 => 187 | 26 => 34 | 0 => 0 | 44 => 205 | 46 => 207 | 4 => 4 | 36 => 198 | 35 => 197 | 41 => 202 | 5 => 5 | 9 => 9 | 53 => 208 | 57 => 212 | 63 => 214 | 64 => 215 | n => n, fun | n => n⟩
theorem Try.sort107 : Go.Proofs.SlLaysM.n6 Try.prog Try.sort107_ren := {
  mixed := by kernel_rfl
  f6 := ⟨Try.f107.name, by decide, Try.func107.trans (congrArg some (by kernel_rfl))⟩
  f8 := Try.func117.trans (congrArg some (by kernel_rfl))
  f9 := ⟨Try.f116.name, by decide, Try.func116.trans (congrArg some (by kernel_rfl))⟩
  f19 := Try.func132.trans (congrArg some (by kernel_rfl))
  f20 := Try.func133.trans (congrArg some (by kernel_rfl))
  f21 := ⟨Try.f123.name, by decide, Try.func123.trans (congrArg some (by kernel_rfl))⟩
  f22 := ⟨Try.f124.name, by decide, Try.func124.trans (congrArg some (by kernel_rfl))⟩
  f23 := ⟨Try.f125.name, by decide, Try.func125.trans (congrArg some (by kernel_rfl))⟩
  f24 := ⟨Try.f126.name, by decide, Try.func126.trans (congrArg some (by kernel_rfl))⟩
  f25 := ⟨Try.f127.name, by decide, Try.func127.trans (congrArg some (by kernel_rfl))⟩
  f26 := ⟨Try.f128.name, by decide, Try.func128.trans (congrArg some (by kernel_rfl))⟩
  f27 := ⟨Try.f129.name, by decide, Try.func129.trans (congrArg some (by kernel_rfl))⟩
  f28 := ⟨Try.f130.name, by decide, Try.func130.trans (congrArg some (by kernel_rfl))⟩
  f29 := ⟨Try.f131.name, by decide, Try.func131.trans (congrArg some (by kernel_rfl))⟩
  f31 := Try.func135.trans (congrArg some (by kernel_rfl))
  f32 := Try.func136.trans (congrArg some (by kernel_rfl))
  f36 := ⟨Try.f134.name, by decide, Try.func134.trans (congrArg some (by kernel_rfl))⟩
  f37 := ⟨Try.f137.name, by decide, Try.func137.trans (congrArg some (by kernel_rfl))⟩
  f38 := ⟨Try.f138.name, by decide, Try.func138.trans (congrArg some (by kernel_rfl))⟩
  f39 := ⟨Try.f139.name, by decide, Try.func139.trans (congrArg some (by kernel_rfl))⟩
  f41 := ⟨Try.f140.name, by decide, Try.func140.trans (congrArg some (by kernel_rfl))⟩
  t0 := Try.underlying0
  a0 := Try.isAgg0
  z0 := Try.sizeOf0
  v0 := Try.zeroValue0
  t3 := Try.underlying3
  a3 := Try.isAgg3
  z3 := Try.sizeOf3
  v3 := Try.zeroValue3
  t4 := Try.underlying4
  a4 := Try.isAgg4
  z4 := Try.sizeOf4
  v4 := Try.zeroValue4
  t5 := Try.underlying5
  a5 := Try.isAgg5
  z5 := Try.sizeOf5
  v5 := Try.zeroValue5
  t9 := Try.underlying9
  a9 := Try.isAgg9
  z9 := Try.sizeOf9
  v9 := Try.zeroValue9
  t26 := Try.underlying34
  a26 := Try.isAgg34
  z26 := Try.sizeOf34
  v26 := Try.zeroValue34
  t27 := Try.underlying34
  a27 := Try.isAgg34
  z27 := Try.sizeOf34
  v27 := Try.zeroValue34
  t29 := Try.underlying9
  a29 := Try.isAgg9
  z29 := Try.sizeOf9
  v29 := Try.zeroValue9
  t32 := Try.underlying187
  a32 := Try.isAgg187
  z32 := Try.sizeOf187
  v32 := Try.zeroValue187
  t35 := Try.underlying197
  a35 := Try.isAgg197
  z35 := Try.sizeOf197
  v35 := Try.zeroValue197
  t36 := Try.underlying198
  a36 := Try.isAgg198
  z36 := Try.sizeOf198
  v36 := Try.zeroValue198
  t41 := Try.underlying202
  a41 := Try.isAgg202
  z41 := Try.sizeOf202
  v41 := Try.zeroValue202
  t44 := Try.underlying205
  a44 := Try.isAgg205
  z44 := Try.sizeOf205
  v44 := Try.zeroValue205
  t46 := Try.underlying207
  a46 := Try.isAgg207
  z46 := Try.sizeOf207
  v46 := Try.zeroValue207
  t53 := Try.underlying208
  a53 := Try.isAgg208
  z53 := Try.sizeOf208
  v53 := Try.zeroValue208
  t57 := Try.underlying212
  a57 := Try.isAgg212
  z57 := Try.sizeOf212
  v57 := Try.zeroValue212
  t63 := Try.underlying214
  a63 := Try.isAgg214
  z63 := Try.sizeOf214
  v63 := Try.zeroValue214
  t64 := Try.underlying215
  a64 := Try.isAgg215
  z64 := Try.sizeOf215
  v64 := Try.zeroValue215 }

theorem Try.sorts93 (m : Nat) : AnyZ.SortsIn Try.prog Try.sorted93_ren Fence.wide m :=
  ⟨fun blk off cap ss W hH hblk hsz => callsIn_wide.2 (AnyM.slices_Sort_string Try.sort107 blk off cap ss W hH hblk hsz),
   fun p cap W => callsIn_wide.2 (AnyM.slices_Sort_string_none Try.sort107 p cap W)⟩

theorem Try.maps_Keys_94 (mb : Option Nat) (W : World) : CallsIn Fence.wide 5 Try.prog 94 #[.map mb] W fun e w' => e = .returned (.func (.func 108) #[] #[.pointer (some ⟨W.heap.size, 0, none⟩)]) ∧ w' = W.alloc (.cells #[.map mb] 72) :=
  AnyZ.keys_in Try.keys94 Fence.wide 5 trivial rfl mb W

set_option maxHeartbeats 1000000 in
theorem Try.slices_Sorted_keys_93_94 {H : Type} (b nn : Nat) (D0 : DataW H) (R : Value → Option (DataW H × List MemPlace)) (w : World) (hown : w.ownsMap Try.prog 9 R b nn D0) (hmax : Maps.size D0 ≤ maxLen) (hbytes : Maps.size D0 * 16 ≤ 140737488355328) :
    CallsIn Fence.wide 5 Try.prog 93 #[.func (.func 108) #[] #[.pointer (some ⟨w.heap.size, 0, none⟩)]] (w.alloc (.cells #[.map (some b)] 72)) fun e w' => ∃ (v : Value) (ss : List (List UInt8)), e = .returned v ∧ ss.Perm (strKeys D0) ∧
      w'.ownsRow (w.alloc (.cells #[.map (some b)] 72)).heap.size 9 1 v ss.length ((ss.mergeSort (fun x y => decide (x ≤ y))).map encStr) ∧ (v = .slice none 0 0 ↔ ss = []) ∧ Below (w.alloc (.cells #[.map (some b)] 72)).heap.size (w.alloc (.cells #[.map (some b)] 72)) w' := by
  have hbl := hown.lt
  have hseq : SeqGives Fence.wide 2 Try.prog 108 #[.pointer (some ⟨w.heap.size, 0, none⟩)] encStr (fun ss => ss.Perm (strKeys D0)) (Maps.size D0) (w.alloc (.cells #[.map (some b)] 72)) :=
    AnyZ.keys_gives (ρ := Try.keys94_ren) { Try.keys94 with } Fence.wide _ trivial rfl (by omega) w.heap.size b nn D0 _ (by simp) (by simp) (by
      obtain ⟨es, clock, hb, Ft, hs, hD⟩ := hown
      exact ⟨es, clock, (Below.heap_alloc _ _ b hbl).trans hb, Ft, hs, hD⟩)
  exact AnyZ.sorted_in Try.sorted93 Fence.wide 5 trivial trivial trivial trivial rfl (by omega) (Try.sorts93 _) (enters_of Try.func107 (by kernel_rfl) rfl) 108 #[.pointer (some ⟨w.heap.size, 0, none⟩)] trivial (enters_of Try.func108 (by kernel_rfl) rfl) _ _ hmax hbytes _ hseq

set_option maxHeartbeats 1000000 in
theorem Try.slices_Sorted_keys_nil_93_94 (w : World) :
    CallsIn Fence.wide 5 Try.prog 93 #[.func (.func 108) #[] #[.pointer (some ⟨w.heap.size, 0, none⟩)]] (w.alloc (.cells #[.map none] 72)) fun e w' => ∃ (v : Value) (ss : List (List UInt8)), e = .returned v ∧ ss = [] ∧
      w'.ownsRow (w.alloc (.cells #[.map none] 72)).heap.size 9 1 v ss.length ((ss.mergeSort (fun x y => decide (x ≤ y))).map encStr) ∧ (v = .slice none 0 0 ↔ ss = []) ∧ Below (w.alloc (.cells #[.map none] 72)).heap.size (w.alloc (.cells #[.map none] 72)) w' := by
  have hseq : SeqGives Fence.wide 2 Try.prog 108 #[.pointer (some ⟨w.heap.size, 0, none⟩)] encStr (fun ss : List (List UInt8) => ss = []) 0 (w.alloc (.cells #[.map none] 72)) :=
    AnyZ.keys_gives_nil (ρ := Try.keys94_ren) { Try.keys94 with } Fence.wide _ trivial rfl w.heap.size _ (by simp) (by simp)
  exact AnyZ.sorted_in Try.sorted93 Fence.wide 5 trivial trivial trivial trivial rfl (by omega) (Try.sorts93 _) (enters_of Try.func107 (by kernel_rfl) rfl) 108 #[.pointer (some ⟨w.heap.size, 0, none⟩)] trivial (enters_of Try.func108 (by kernel_rfl) rfl) _ 0 (Nat.zero_le _) (by omega) _ hseq

end Go.Proofs
