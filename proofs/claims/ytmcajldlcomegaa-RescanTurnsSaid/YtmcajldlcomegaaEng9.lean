/- The proof engine, part 9: maps with integer keys. No condition. -/
import Derived.Test.YtmcajldlcomegaaEng8
import Derived.MapKept
namespace Go.Eng
open Go
/-- key, value, born -/
abbrev ME := Int × Value × Nat
def ents (es : List ME) : Array MapEntry := (es.map fun e => (⟨.int .i64 e.1, e.2.1, e.2.2⟩ : MapEntry)).toArray
def findI (a : Int) : List ME → Nat → Option (Nat × Value)
  | [], _ => none
  | e :: es, i => if a = e.1 then some (i, e.2.1) else findI a es (i + 1)
theorem findNow_int (kk : IntKind) (a : Int) : ∀ (es : List ME) (i : Nat), Instr.findNow (.int kk) (.int .i64 a) (es.map fun e => (⟨.int .i64 e.1, e.2.1, e.2.2⟩ : MapEntry)) i = some (findI a es i)
  | [], _ => rfl
  | e :: es, i => by
    have ih := findNow_int kk a es (i + 1)
    simp only [List.map_cons, Instr.findNow, Instr.sameNow, findI]
    by_cases h : a = e.1
    · simp [h]
    · have hb : (a == e.1) = false := by simpa using h
      simp only [hb, if_neg h, if_true]
      exact ih
section
variable {P : Program} {n : Nat} {f : Fr} {i : Imm} {L : SH} {K : Value → Imm → SH → Prop} {dst : Option Nat} {ty : TypeId} {pos : String} {aft : Array Edge} {gd : Option (Nat × Bool)} {T : Tab}
theorem run_checkKey_int {w : World} {kt : TypeId} {kk : IntKind} (hd : P.underlying kt = some (.int kk)) (a : Int) (e : Bool) (n : Nat) : (Instr.checkKey e (n + 1) kt (.int .i64 a)).run P w = .ok () w := by
  simp [Instr.checkKey, run_underlying hd]
theorem run_findKey_int {w : World} {kt : TypeId} {kk : IntKind} (hd : P.underlying kt = some (.int kk)) (a : Int) (es : List ME) : (Instr.findKey kt (.int .i64 a) (ents es).toList).run P w = .ok (findI a es 0) w := by
  simp [Instr.findKey, run_underlying hd, ents, findNow_int]
theorem run_getObj_m {w : World} {r : Nat} {es : Array MapEntry} {c : Nat} (hb : w.heap[r]? = some (.map es c)) : (getObj r).run P w = .ok (.map es c) w := by
  simp [getObj, Sem.run, hb]
theorem run_setObj_m {w : World} {r : Nat} {es : Array MapEntry} {c : Nat} (o' : Obj) (hb : w.heap[r]? = some (.map es c)) : (setObj r o').run P w = .ok () { w with heap := w.heap.setIfInBounds r o' } := by
  simp [setObj, Sem.run, hb]
theorem OpS.makeMap {t : TypeId} (h : ∀ b, K (.map (some b)) i ((b, .map (ents []) 0) :: L)) : OpS P n ⟨dst, .makeMap t none, ty, pos, aft, gd⟩ f i L K := by
  refine OpS.valueW fun w hw => ?_
  refine ⟨.map (some w.heap.size), { w with heap := w.heap.push (.map #[] 0) }, i, _, ?_, Imm.le.refl i, hw.push rfl rfl rfl rfl, h _⟩
  simp [execOp, Instr.makeMap, newObj]
  rfl
theorem LV.lookup (hT : T.ok P) {t kt et : TypeId} {kk : IntKind} {x y : Operand} {b c j : Nat} {a : Int} {es : List ME} {v : Value} (hx : ev n f x = .map (some b)) (hy : ev n f y = .int .i64 a) (ht : ∃ d, tget T t = some d ∧ d.desc = .map kt et) (hk : ∃ d, tget T kt = some d ∧ d.desc = .int kk)
    (hb : Has i L b (.map (ents es) c)) (hv : findI a es 0 = some (j, v)) : LV P n f i L ⟨dst, .lookup t x y false, ty, pos, aft, gd⟩ v := by
  obtain ⟨d, h1, h2⟩ := ht
  obtain ⟨d', h3, h4⟩ := hk
  have h5 := (tget_ok hT h1).und
  have h6 := (tget_ok hT h3).und
  rw [h2] at h5
  rw [h4] at h6
  unfold LV; intro w hw
  have h7 := hb.block hw
  have h8 := run_findKey_int (w := w) h6 a es
  rw [hv] at h8
  have h9 : (Instr.checkKey (ents es).isEmpty 10000 kt (.int .i64 a)).run P w = .ok () w := run_checkKey_int h6 a _ 9999
  simp only [execOp, hx, hy, Instr.lookup]
  have g1 : (getObj b).run P w = .ok (.map (ents es) c) w := run_getObj_m h7
  simp [run_underlying h5, g1, h9, h8]
theorem OpS.mapUpdate (hT : T.ok P) {t kt et : TypeId} {kk : IntKind} {x y z : Operand} {b c k : Nat} {a : Int} {es : List ME} {u : Value} {L' : SH} (hx : ev n f x = .map (some b)) (hy : ev n f y = .int .i64 a) (hz : ev n f z = u) (ht : ∃ d, tget T t = some d ∧ d.desc = .map kt et) (hk : ∃ d, tget T kt = some d ∧ d.desc = .int kk)
    (hb : L[k]? = some (b, .map (ents es) c)) (hv : findI a es 0 = none) (hL : setX L k (b, .map (ents (es ++ [(a, u, c)])) (c + 1)) = some L') (h : K undef i L') : OpS P n ⟨dst, .mapUpdate t x y z, ty, pos, aft, gd⟩ f i L K := by
  obtain ⟨d, h1, h2⟩ := ht
  obtain ⟨d', h3, h4⟩ := hk
  have h5 := (tget_ok hT h1).und
  have h6 := (tget_ok hT h3).und
  rw [h2] at h5
  rw [h4] at h6
  refine OpS.skipW fun w hw => ?_
  have h7 := hw.own _ (List.mem_of_getElem? hb)
  have h8 := run_findKey_int (w := w) h6 a es
  rw [hv] at h8
  have h9 : (Instr.checkKey false 10000 kt (.int .i64 a)).run P w = .ok () w := run_checkKey_int h6 a _ 9999
  have e1 : (ents es).push ⟨.int .i64 a, u, c⟩ = ents (es ++ [(a, u, c)]) := by simp [ents]
  refine ⟨{ w with heap := w.heap.setIfInBounds b (.map (ents (es ++ [(a, u, c)])) (c + 1)) }, i, L', ?_, Imm.le.refl i, ?_, h⟩
  · simp only [execOp, hx, hy, hz, Instr.mapUpdate]
    have g1 : (getObj b).run P w = .ok (.map (ents es) c) w := run_getObj_m h7
    have g2 := run_setObj_m (P := P) (.map (ents (es ++ [(a, u, c)])) (c + 1)) h7
    simp [run_underlying h5, g1, h9, h8, e1, g2]
  · rw [← (setX_eq _ _ _ _ hL).1]
    refine hw.put hb rfl rfl rfl fun x => ?_
    show (w.heap.setIfInBounds b _)[x]? = _
    rw [Array.getElem?_setIfInBounds]
    have hlt : b < w.heap.size := (Array.getElem?_eq_some_iff.1 h7).1
    by_cases hxb : b = x
    · subst hxb
      rw [if_pos rfl, if_pos hlt, if_pos rfl]
    · rw [if_neg hxb, if_neg (fun e => hxb e.symm)]
end
section
variable {P : Program} {all : List Oper} {n : Nat} {r : List Oper} {f : Fr} {i : Imm} {L : SH} {K : Fr → Imm → SH → Prop} {dst : Option Nat} {ty : TypeId} {pos : String} {aft : Array Edge} {gd : Option (Nat × Bool)} {T : Tab}
theorem RS.makeMap {t : TypeId} (hg : gok n f all ⟨dst, .makeMap t none, ty, pos, aft, gd⟩ = true) (h : ∀ b, RS P all n r (updO f dst (.map (some b))) i ((b, .map (ents []) 0) :: L) K) : RS P all n (⟨dst, .makeMap t none, ty, pos, aft, gd⟩ :: r) f i L K :=
  RS.step hg (OpS.makeMap h)
theorem RS.mapUpdate (hT : T.ok P) {t kt et : TypeId} {kk : IntKind} {x y z : Operand} {b c k : Nat} {a : Int} {es : List ME} {u : Value} {L' : SH} (hg : gok n f all ⟨dst, .mapUpdate t x y z, ty, pos, aft, gd⟩ = true) (hx : ev n f x = .map (some b)) (hy : ev n f y = .int .i64 a) (hz : ev n f z = u) (ht : ∃ d, tget T t = some d ∧ d.desc = .map kt et) (hk : ∃ d, tget T kt = some d ∧ d.desc = .int kk)
    (hb : L[k]? = some (b, .map (ents es) c)) (hv : findI a es 0 = none) (hL : setX L k (b, .map (ents (es ++ [(a, u, c)])) (c + 1)) = some L') (h : RS P all n r (updO f dst undef) i L' K) : RS P all n (⟨dst, .mapUpdate t x y z, ty, pos, aft, gd⟩ :: r) f i L K :=
  RS.step hg (OpS.mapUpdate hT hx hy hz ht hk hb hv hL h)
end
end Go.Eng
