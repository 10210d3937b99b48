/- The proof engine, part 18: room asked for ahead (append of a make), cap, parts of slices. No condition. -/
import Derived.Test.YtmcajldlcomegaaEng17
namespace Go.Eng
open Go
def isIntD : TypeDesc → Bool
  | .int _ => true
  | _ => false
section
variable {P : Program} {n : Nat} {f : Fr} {i : Imm} {L : SH} {K : Value → Imm → SH → Prop} {dst : Option Nat} {ty : TypeId} {pos : String} {aft : Array Edge} {gd : Option (Nat × Bool)} {T : Tab}
theorem PV.capS (hT : T.ok P) {t : Nat} {x : Operand} {a : Option Addr} {l c : Nat} (ht : tIs T isSlD t = true) (hx : ev n f x = .slice a l c) :
    PV P n f ⟨dst, .call ⟨.builtin .cap, #[x], #[t]⟩, ty, pos, aft, gd⟩ (.int .i64 c) := by
  unfold PV; intro w; obtain ⟨e, he⟩ := tIs_sl hT ht; simp [execOp, resolve, invoke, builtin, Builtin.cap_, hx, run_underlying he, goInt]
theorem PV.steqlB (hT : T.ok P) {t t2 : Nat} {x y : Operand} {xs ys : List Value} {b : Bool} (hp : P.stoodInHeld t = false) (hq : P.eqGuardType P.depth t = false) (hx : ev n f x = .agg xs.toArray) (hy : ev n f y = .agg ys.toArray) (h : stOk T t xs ys = true) (hb : allEq xs ys = b) :
    PV P n f ⟨dst, .binOp .eql t x y t2, ty, pos, aft, gd⟩ (.bool b) := by subst hb; exact PV.steql hT hp hq hx hy h
theorem PV.stneqB (hT : T.ok P) {t t2 : Nat} {x y : Operand} {xs ys : List Value} {b : Bool} (hp : P.stoodInHeld t = false) (hq : P.eqGuardType P.depth t = false) (hx : ev n f x = .agg xs.toArray) (hy : ev n f y = .agg ys.toArray) (h : stOk T t xs ys = true) (hb : allEq xs ys = b) :
    PV P n f ⟨dst, .binOp .neq t x y t2, ty, pos, aft, gd⟩ (.bool (!b)) := by subst hb; exact PV.stneq hT hp hq hx hy h
/-- a sum that may wrap -/
theorem PV.addW {t t2 : Nat} {x y : Operand} {a b : Int} (hx : ev n f x = .int .i64 a) (hy : ev n f y = .int .i64 b) : PV P n f ⟨dst, .binOp .add t x y t2, ty, pos, aft, gd⟩ (.int .i64 (IntKind.i64.wrap (a + b))) := by
  unfold PV; intro w; simp [execOp, hx, hy, eqGuard, binOp, Op.intArith]
/-- 's[:j]' -/
theorem PV.sliceHi (hT : T.ok P) {t sz l c : Nat} {x y : Operand} {a : Option Addr} {j : Int} {k : IntKind} (hx : ev n f x = .slice a l c) (hy : ev n f y = .int k j) (hs : elSz T t = some sz) (ha : a = none ∨ ∃ b o, a = some ⟨b, o, none⟩) (h : 0 ≤ j ∧ j ≤ c) :
    PV P n f ⟨dst, .slice t x none (some y) none, ty, pos, aft, gd⟩ (.slice a j.toNat c) := by
  unfold PV; intro w
  obtain ⟨e, i, z, x', h1, h2, h3, h4, _⟩ := elSz_ok hT hs
  rcases ha with rfl | ⟨b, o, rfl⟩
  · simp [execOp, hx, hy, Instr.sliceAt, Instr.slice, Instr.sliceBounds, Instr.sliceBound, asIntOf, run_underlying h1, h, sizeOf, run_info h2]
  · simp [execOp, hx, hy, Instr.sliceAt, Instr.slice, Instr.sliceBounds, Instr.sliceBound, asIntOf, run_underlying h1, h, sizeOf, run_info h2, Addr.add_none]
/-- 's[j:]' -/
theorem PV.sliceLo (hT : T.ok P) {t sz l c b o : Nat} {x y : Operand} {j : Int} {k : IntKind} (hx : ev n f x = .slice (some ⟨b, o, none⟩) l c) (hy : ev n f y = .int k j) (hs : elSz T t = some sz) (h : 0 ≤ j ∧ j ≤ l) :
    PV P n f ⟨dst, .slice t x (some y) none none, ty, pos, aft, gd⟩ (.slice (some ⟨b, if c = j.toNat then o else o + j.toNat * sz, none⟩) (l - j.toNat) (c - j.toNat)) := by
  unfold PV; intro w
  obtain ⟨e, i, z, x', h1, h2, h3, h4, _⟩ := elSz_ok hT hs
  by_cases hc : c = j.toNat
  · simp [execOp, hx, hy, Instr.sliceAt, Instr.slice, Instr.sliceBounds, Instr.sliceBound, asIntOf, run_underlying h1, h, sizeOf, run_info h2, hc]
  · simp [execOp, hx, hy, Instr.sliceAt, Instr.slice, Instr.sliceBounds, Instr.sliceBound, asIntOf, run_underlying h1, h, sizeOf, run_info h2, hc, h3, Addr.add_none]
/-- 'append(nil, make([]T, m)...)' -/
theorem OpS.appendZ (hT : T.ok P) {t t1 e sz bytes m : Nat} {k : IntKind} {x y : Operand} (hx : ev n f x = .slice none 0 0) (hy : ev n f y = .int k (m : Int)) (hte : ∃ d, tget T t = some d ∧ d.desc = .slice e) (hti : tIs T isIntD t1 = true) (hee : ∃ d, tget T e = some d ∧ d.size = sz ∧ d.bytes = bytes) (hsz : 0 < sz)
    (hm : 0 < m) (hmax : m * bytes ≤ 140737488355328) (hmax2 : m ≤ 9223372036854775807)
    (h : ∀ b cap cs, m ≤ cap → cs.length = cap * sz → K (.slice (some ⟨b, 0, none⟩) m cap) i ((b, .cells (List.toArray cs) e (0, 0)) :: L)) : OpS P n ⟨dst, .call ⟨.builtin .append, #[x, y], #[t, t1]⟩, ty, pos, aft, gd⟩ f i L K := by
  obtain ⟨d1, ht, hd⟩ := hte
  obtain ⟨d2, he, hes, heb⟩ := hee
  have hu1 := (tget_ok hT ht).und
  rw [hd] at hu1
  obtain ⟨_, hzl, ti, z, hi, hs, hb, hz, hzc⟩ := tget_ok hT he
  have hzs : z.cells.size = sz := by rw [hzc, List.size_toArray, hzl, hes]
  rw [hes] at hs
  rw [heb] at hb
  obtain ⟨kk, hu2⟩ : ∃ kk, P.underlying t1 = some (.int kk) := by
    unfold tIs at hti
    split at hti
    · rename_i x hx
      have h1 := (tget_ok hT hx).und
      cases hd : x.desc <;> rw [hd] at hti <;> first | (cases hti; done) | exact ⟨_, by rw [h1, hd]⟩
    · cases hti
  refine OpS.valueW fun w hw => ?_
  have hw1 : IntKind.i64.wrap (m : Int) = m := wrap_in _ (by omega)
  have hge := grownCap_ge w m 0 e
  have h48' : ¬ (281474976710656 < Builtin.nextslicecap m 0 * ti.bytes) := by rw [nextslicecap_zero hm, hb]; omega
  have h47 : (m : Int) * (ti.bytes : Int) ≤ 140737488355328 := by
    rw [hb, ← Int.natCast_mul]; omega
  have h48 : ¬ (281474976710656 < (m : Int) * (ti.bytes : Int)) := by omega
  have h63 : ¬ (9223372036854775807 < (m : Int)) := by omega
  have hm0 : ¬ m = 0 := by omega
  have hneg : ¬ (m : Int) < 0 := by omega
  have hms : ¬ m * sz = 0 := fun h0 => by have := Nat.mul_pos hm hsz; omega
  have hr : (Builtin.append_ #[t, t1] ty #[.slice none 0 0, .int k (m : Int)]).run P w =
      .ok (.slice (some ⟨w.heap.size, 0, none⟩) m (grownCap w m 0 e)) (w.drew.alloc (.cells (Builtin.zeroCells z.cells m ++ Builtin.zeroCells z.cells (grownCap w m 0 e - m)) e)) := by
    simp [Builtin.append_, run_underlying hu1, run_underlying hu2, sizeOf, typeInfo, zeroValue, hi, hz, asInt, asIntOf, hw1, h48, h48', h63, hm0, hs, hneg, hms, Question.forced, run_firstCells_none, newRow, grownCap]
  obtain ⟨arr, harr⟩ : ∃ arr, arr = Builtin.zeroCells z.cells m ++ Builtin.zeroCells z.cells (grownCap w m 0 e - m) := ⟨_, rfl⟩
  rw [← harr] at hr
  refine ⟨_, w.drew.alloc (.cells arr e), i, (w.heap.size, .cells arr e) :: L, by simp [execOp, resolve, hx, hy, invoke, builtin, hr]; rfl, Imm.le.refl i, St.push (w := w.drew) hw.drew rfl rfl rfl rfl, ?_⟩
  subst harr
  refine h w.heap.size (grownCap w m 0 e) (Builtin.zeroCells z.cells m ++ Builtin.zeroCells z.cells (grownCap w m 0 e - m)).toList hge ?_
  rw [Array.length_toList, Array.size_append, size_zeroCells, size_zeroCells, hzs, ← Nat.add_mul]
  congr 1; omega
end
section
variable {P : Program} {all : List Oper} {n : Nat} {r : List Oper} {f : Fr} {i : Imm} {L : SH} {K : Fr → Imm → SH → Prop} {dst : Option Nat} {ty : TypeId} {pos : String} {aft : Array Edge} {gd : Option (Nat × Bool)} {T : Tab}
theorem RS.appendZ (hT : T.ok P) {t t1 e sz bytes m : Nat} {k : IntKind} {x y : Operand} (hg : gok n f all ⟨dst, .call ⟨.builtin .append, #[x, y], #[t, t1]⟩, ty, pos, aft, gd⟩ = true) (hx : ev n f x = .slice none 0 0) (hy : ev n f y = .int k (m : Int)) (hte : ∃ d, tget T t = some d ∧ d.desc = .slice e) (hti : tIs T isIntD t1 = true) (hee : ∃ d, tget T e = some d ∧ d.size = sz ∧ d.bytes = bytes) (hsz : 0 < sz)
    (hm : 0 < m) (hmax : m * bytes ≤ 140737488355328) (hmax2 : m ≤ 9223372036854775807)
    (h : ∀ b cap cs, m ≤ cap → cs.length = cap * sz → RS P all n r (updO f dst (.slice (some ⟨b, 0, none⟩) m cap)) i ((b, .cells (List.toArray cs) e (0, 0)) :: L) K) : RS P all n (⟨dst, .call ⟨.builtin .append, #[x, y], #[t, t1]⟩, ty, pos, aft, gd⟩ :: r) f i L K :=
  RS.step hg (OpS.appendZ hT hx hy hte hti hee hsz hm hmax hmax2 h)
end
end Go.Eng
