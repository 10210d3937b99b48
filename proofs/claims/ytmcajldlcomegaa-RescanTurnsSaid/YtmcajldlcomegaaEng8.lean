/- The proof engine, part 8: make of a slice, a struct result behind an error path. No condition. -/
import Derived.Test.YtmcajldlcomegaaEng7
import Derived.Laws.MakeOwn
namespace Go.Eng
open Go
section
variable {P : Program} {all : List Oper} {n : Nat} {r : List Oper} {f : Fr} {i : Imm} {L : SH} {K : Fr → Imm → SH → Prop} {dst : Option Nat} {ty : TypeId} {pos : String} {aft : Array Edge} {gd : Option (Nat × Bool)} {T : Tab}
theorem RS.make (hT : T.ok P) {t e sz bytes m : Nat} {k k' : IntKind} {zs : List Value} {x y : Operand} (hg : gok n f all ⟨dst, .makeSlice t x y, ty, pos, aft, gd⟩ = true) (hx : ev n f x = .int k (m : Int)) (hy : ev n f y = .int k' (m : Int))
    (hte : ∃ d, tget T t = some d ∧ d.desc = .slice e) (hee : ∃ d, tget T e = some d ∧ d.size = sz ∧ d.bytes = bytes ∧ d.zero = zs) (hsz : 0 < sz) (hb : bytes * m ≤ 140737488355328) (hm : m ≤ 9223372036854775807)
    (h : ∀ b cs, cs.length = m * sz → (∀ j, j < m * sz → cs[j]? = zs[j % sz]?) → RS P all n r (updO f dst (.slice (some ⟨b, 0, none⟩) m m)) i ((b, .cells (List.toArray cs) e (0, 0)) :: L) K) : RS P all n (⟨dst, .makeSlice t x y, ty, pos, aft, gd⟩ :: r) f i L K := by
  refine RS.step hg (OpS.valueW fun w hw => ?_)
  obtain ⟨d1, ht, hd⟩ := hte
  obtain ⟨d2, he, hes, heb, hez⟩ := hee
  have hu1 := (tget_ok hT ht).und
  rw [hd] at hu1
  obtain ⟨_, hzl, ti, z, hi, hs, hbb, hz, hzc⟩ := tget_ok hT he
  rw [hes] at hs hzl
  rw [heb] at hbb
  have hr := run_make (P := P) w t e ti z hu1 hi hz k k' m m (by omega) (by omega) (by rw [hbb]; omega) (by omega)
  rw [Int.toNat_natCast, hs] at hr
  refine ⟨.slice (some ⟨w.heap.size, 0, none⟩) m m, w.alloc (.cells (madeCells z.cells (m * sz)) e (0, 0)), i, (w.heap.size, .cells (madeCells z.cells (m * sz)) e (0, 0)) :: L, ?_, Imm.le.refl i, St.push hw rfl rfl rfl rfl, ?_⟩
  · simp only [execOp]
    rw [hx, hy, run_bind' _ _ _ _ _ hr]
    rfl
  · have := h w.heap.size (madeCells z.cells (m * sz)).toList (by simp [size_madeCells]) (fun j hj => by
      have hzz : 0 < z.cells.size := by rw [hzc, List.size_toArray, hzl]; exact hsz
      have hlt : j % sz < zs.length := by rw [← hez, hzl]; exact Nat.mod_lt _ hsz
      have hzl' : zs.length = sz := by rw [← hez]; exact hzl
      unfold madeCells
      rw [Array.getElem?_toList, Array.getElem?_map, Array.getElem?_range, if_pos hj, hzc, Option.map_some]
      simp only [List.size_toArray, hez, hzl']
      rw [getElem!_pos _ _ (by simpa using hlt), List.getElem?_eq_getElem hlt]
      rfl)
    rw [Array.toArray_toList] at this
    exact this
end
end Go.Eng
namespace Go.Eng
open Go
section
variable {P : Program} {n : Nat} {f : Fr} {dst : Option Nat} {ty t t2 : TypeId} {pos : String} {aft : Array Edge} {gd : Option (Nat × Bool)} {x y : Operand} {p q : Bool}
theorem run_eq_bool0 {P : Program} {t : TypeId} {p q : Bool} (h : P.underlying t = some .bool) (d : Nat) (w : World) : (Op.equalIn (d + 1) t (.bool p) (.bool q)).run P w = .ok (p == q) w := by
  simp [Op.equalIn, run_underlying h]
theorem run_eq_bool {P : Program} {t : TypeId} {p q : Bool} (h : P.underlying t = some .bool) (w : World) : (Op.equal t (.bool p) (.bool q)).run P w = .ok (p == q) w :=
  run_eq_bool0 h _ w
theorem PV.bneq {T : Tab} (hT : T.ok P) (ht : ∃ d, tget T t = some d ∧ d.desc = .bool) (hx : ev n f x = .bool p) (hy : ev n f y = .bool q) : PV P n f ⟨dst, .binOp .neq t x y t2, ty, pos, aft, gd⟩ (.bool (!(p == q))) := by
  obtain ⟨d, h1, h2⟩ := ht
  have h3 := (tget_ok hT h1).und
  rw [h2] at h3
  unfold PV; intro w; simp [execOp, hx, hy, eqGuard, binOp, run_eq_bool h3, Result.andThen]
theorem PV.beql {T : Tab} (hT : T.ok P) (ht : ∃ d, tget T t = some d ∧ d.desc = .bool) (hx : ev n f x = .bool p) (hy : ev n f y = .bool q) : PV P n f ⟨dst, .binOp .eql t x y t2, ty, pos, aft, gd⟩ (.bool (p == q)) := by
  obtain ⟨d, h1, h2⟩ := ht
  have h3 := (tget_ok hT h1).und
  rw [h2] at h3
  unfold PV; intro w; simp [execOp, hx, hy, eqGuard, binOp, run_eq_bool h3, Result.andThen]
end
end Go.Eng
