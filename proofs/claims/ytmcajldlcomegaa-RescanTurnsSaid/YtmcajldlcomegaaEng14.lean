/- The proof engine, part 14: maps from strings to a bool that is true (sets). No condition. -/
import Derived.Test.YtmcajldlcomegaaEng13
namespace Go.Eng
open Go
def memB (a : ByteArray) (l : List ByteArray) : Bool := l.any fun x => decide (a = x)
theorem memB_iff {a : ByteArray} {l : List ByteArray} : memB a l = true ↔ a ∈ l := by
  unfold memB
  rw [List.any_eq_true]
  constructor
  · rintro ⟨x, h1, h2⟩
    rw [of_decide_eq_true h2]; exact h1
  · intro h
    exact ⟨a, h, decide_eq_true rfl⟩
instance memDec (a : ByteArray) (l : List ByteArray) : Decidable (a ∈ l) := decidable_of_iff (memB a l = true) memB_iff
theorem map_eraseIdx' {α β : Type} (f : α → β) : ∀ (l : List α) (j : Nat), (l.map f).eraseIdx j = (l.eraseIdx j).map f
  | [], _ => rfl
  | _ :: _, 0 => rfl
  | x :: l, j + 1 => by simp [map_eraseIdx' f l j]
/-- key, born -/
abbrev KE := ByteArray × Nat
def entS (ks : List KE) : Array MapEntry := (ks.map fun e => (⟨.string e.1, .bool true, e.2⟩ : MapEntry)).toArray
def keysS (ks : List KE) : List ByteArray := ks.map Prod.fst
def findS (a : ByteArray) : List KE → Nat → Option (Nat × Value)
  | [], _ => none
  | e :: es, i => if a = e.1 then some (i, .bool true) else findS a es (i + 1)
theorem beq_str (a b : ByteArray) : (a == b) = decide (a = b) := by
  rw [beq_toListBytes]
  by_cases e : a = b
  · simp [e]
  · rw [decide_eq_false e]
    have : a.toList ≠ b.toList := fun h => e (str_inj h)
    simpa using this
theorem findNow_str (a : ByteArray) : ∀ (es : List KE) (i : Nat), Instr.findNow .string (.string a) (es.map fun e => (⟨.string e.1, .bool true, e.2⟩ : MapEntry)) i = some (findS a es i)
  | [], _ => rfl
  | e :: es, i => by
    have ih := findNow_str a es (i + 1)
    simp only [List.map_cons, Instr.findNow, Instr.sameNow, findS, beq_str]
    by_cases h : a = e.1
    · simp [h]
    · simp only [decide_eq_false h, if_neg h]
      exact ih
theorem findS_none {a : ByteArray} : ∀ {es : List KE} {i : Nat}, a ∉ keysS es → findS a es i = none
  | [], _, _ => rfl
  | e :: es, i, h => by
    simp only [keysS, List.map_cons, List.mem_cons, not_or] at h
    rw [findS, if_neg h.1]
    exact findS_none h.2
theorem findS_some {a : ByteArray} : ∀ {es : List KE} {i : Nat}, a ∈ keysS es → ∃ j, findS a es i = some (i + j, .bool true) ∧ (keysS es)[j]? = some a
  | [], _, h => by cases h
  | e :: es, i, h => by
    by_cases he : a = e.1
    · exact ⟨0, by rw [findS, if_pos he]; rfl, by simp [keysS, he]⟩
    · have h' : a ∈ keysS es := by
        simp only [keysS, List.map_cons, List.mem_cons] at h
        exact h.resolve_left he
      obtain ⟨j, h1, h2⟩ := findS_some (i := i + 1) h'
      exact ⟨j + 1, by rw [findS, if_neg he, h1]; congr 2; omega, by simpa [keysS] using h2⟩
section
variable {P : Program} {n : Nat} {f : Fr} {i : Imm} {L : SH} {K : Value → Imm → SH → Prop} {dst : Option Nat} {ty : TypeId} {pos : String} {aft : Array Edge} {gd : Option (Nat × Bool)} {T : Tab}
theorem run_checkKey_str {w : World} {kt : TypeId} (hd : P.underlying kt = some .string) (a : ByteArray) (e : Bool) (n : Nat) : (Instr.checkKey e (n + 1) kt (.string a)).run P w = .ok () w := by
  simp [Instr.checkKey, run_underlying hd]
theorem run_findKey_str {w : World} {kt : TypeId} (hd : P.underlying kt = some .string) (a : ByteArray) (es : List KE) : (Instr.findKey kt (.string a) (entS es).toList).run P w = .ok (findS a es 0) w := by
  simp [Instr.findKey, run_underlying hd, entS, findNow_str]
theorem OpS.makeMapS {t : TypeId} (h : ∀ b, K (.map (some b)) i ((b, .map (entS []) 0) :: L)) : OpS P n ⟨dst, .makeMap t none, ty, pos, aft, gd⟩ f i L K := OpS.makeMap h
theorem LV.lookupS (hT : T.ok P) {t kt et : TypeId} {x y : Operand} {b c : Nat} {a : ByteArray} {ks : List KE} (hx : ev n f x = .map (some b)) (hy : ev n f y = .string a) (ht : ∃ d, tget T t = some d ∧ d.desc = .map kt et) (hk : ∃ d, tget T kt = some d ∧ d.desc = .string)
    (he : ∃ d, tget T et = some d ∧ d.desc = .bool ∧ d.zero = [.bool false]) (hz : ∀ i, P.info? et = some i → i.zero = some (.bool false)) (hb : Has i L b (.map (entS ks) c)) : LV P n f i L ⟨dst, .lookup t x y false, ty, pos, aft, gd⟩ (.bool (decide (a ∈ keysS ks))) := by
  obtain ⟨d, h1, h2⟩ := ht
  obtain ⟨d', h3, h4⟩ := hk
  obtain ⟨d2, h5, h6, h7⟩ := he
  have u1 := (tget_ok hT h1).und
  have u2 := (tget_ok hT h3).und
  obtain ⟨_, _, ti, z, hi, _, _, hzz, _⟩ := tget_ok hT h5
  have hz' := hz ti hi
  rw [h2] at u1
  rw [h4] at u2
  unfold LV; intro w hw
  have h7 := hb.block hw
  have h8 := run_findKey_str (w := w) u2 a ks
  have h9 : (Instr.checkKey (entS ks).isEmpty 10000 kt (.string a)).run P w = .ok () w := run_checkKey_str u2 a _ 9999
  have g1 : (getObj b).run P w = .ok (.map (entS ks) c) w := run_getObj_m h7
  simp only [execOp, hx, hy, Instr.lookup]
  by_cases hm : a ∈ keysS ks
  · obtain ⟨j, hj, _⟩ := findS_some (i := 0) hm
    rw [hj] at h8
    rw [decide_eq_true hm]
    simp [run_underlying u1, g1, h9, h8]
  · rw [findS_none hm] at h8
    rw [decide_eq_false hm]
    simp [run_underlying u1, g1, h9, h8, zeroValue, run_info hi, hz']
theorem OpS.mapAddS (hT : T.ok P) {t kt et : TypeId} {x y z : Operand} {b c k : Nat} {a : ByteArray} {ks : List KE} {L' : SH} (hx : ev n f x = .map (some b)) (hy : ev n f y = .string a) (hz : ev n f z = .bool true) (ht : ∃ d, tget T t = some d ∧ d.desc = .map kt et) (hk : ∃ d, tget T kt = some d ∧ d.desc = .string)
    (hb : L[k]? = some (b, .map (entS ks) c)) (hv : a ∉ keysS ks) (hL : setX L k (b, .map (entS (ks ++ [(a, c)])) (c + 1)) = some L') (h : K undef i L') : OpS P n ⟨dst, .mapUpdate t x y z, ty, pos, aft, gd⟩ f i L K := by
  obtain ⟨d, h1, h2⟩ := ht
  obtain ⟨d', h3, h4⟩ := hk
  have h5 := (tget_ok hT h1).und
  have h6 := (tget_ok hT h3).und
  rw [h2] at h5
  rw [h4] at h6
  refine OpS.skipW fun w hw => ?_
  have h7 := hw.own _ (List.mem_of_getElem? hb)
  have h8 := run_findKey_str (w := w) h6 a ks
  rw [findS_none hv] at h8
  have h9 : (Instr.checkKey false 10000 kt (.string a)).run P w = .ok () w := run_checkKey_str h6 a _ 9999
  have e1 : (entS ks).push ⟨.string a, .bool true, c⟩ = entS (ks ++ [(a, c)]) := by simp [entS]
  refine ⟨{ w with heap := w.heap.setIfInBounds b (.map (entS (ks ++ [(a, c)])) (c + 1)) }, i, L', ?_, Imm.le.refl i, ?_, h⟩
  · simp only [execOp, hx, hy, hz, Instr.mapUpdate]
    have g1 : (getObj b).run P w = .ok (.map (entS ks) c) w := run_getObj_m h7
    have g2 := run_setObj_m (P := P) (.map (entS (ks ++ [(a, c)])) (c + 1)) h7
    simp [run_underlying h5, g1, h9, h8, e1, g2]
  · rw [← (setX_eq _ _ _ _ hL).1]
    refine hw.put hb rfl rfl rfl fun x => ?_
    show (w.heap.setIfInBounds b _)[x]? = _
    rw [Array.getElem?_setIfInBounds]
    have hlt : b < w.heap.size := (Array.getElem?_eq_some_iff.1 h7).1
    by_cases hxb : b = x
    · subst hxb
      rw [if_pos rfl, if_pos hlt, if_pos rfl]
    · rw [if_neg hxb, if_neg (fun e => hxb e.symm)]
theorem OpS.mapDelS (hT : T.ok P) {t kt et t2 : TypeId} {x y : Operand} {b c k j : Nat} {a : ByteArray} {ks : List KE} {L' : SH} (hx : ev n f x = .map (some b)) (hy : ev n f y = .string a) (ht : ∃ d, tget T t = some d ∧ d.desc = .map kt et) (hk : ∃ d, tget T kt = some d ∧ d.desc = .string)
    (hb : L[k]? = some (b, .map (entS ks) c)) (hv : findS a ks 0 = some (j, .bool true)) (hL : setX L k (b, .map (entS (ks.eraseIdx j)) c) = some L') (h : K (.tuple #[]) i L') : OpS P n ⟨dst, .call ⟨.builtin .delete, #[x, y], #[t, t2]⟩, ty, pos, aft, gd⟩ f i L K := by
  obtain ⟨d, h1, h2⟩ := ht
  obtain ⟨d', h3, h4⟩ := hk
  have h5 := (tget_ok hT h1).und
  have h6 := (tget_ok hT h3).und
  rw [h2] at h5
  rw [h4] at h6
  refine OpS.valueW fun w hw => ?_
  have h7 := hw.own _ (List.mem_of_getElem? hb)
  have h8 := run_findKey_str (w := w) h6 a ks
  rw [hv] at h8
  have h9 : (Instr.checkKey (entS ks).isEmpty 10000 kt (.string a)).run P w = .ok () w := run_checkKey_str h6 a _ 9999
  have e1 : (entS ks).eraseIdxIfInBounds j = entS (ks.eraseIdx j) := by
    apply Array.ext'
    simp [entS, map_eraseIdx']
  refine ⟨.tuple #[], { w with heap := w.heap.setIfInBounds b (.map (entS (ks.eraseIdx j)) c) }, i, L', ?_, Imm.le.refl i, ?_, h⟩
  · have g1 : (getObj b).run P w = .ok (.map (entS ks) c) w := run_getObj_m h7
    have g2 := run_setObj_m (P := P) (.map (entS (ks.eraseIdx j)) c) h7
    simp [execOp, resolve, hx, hy, invoke, builtin, Builtin.delete_, run_underlying h5, g1, h9, h8, e1, g2]
  · rw [← (setX_eq _ _ _ _ hL).1]
    refine hw.put hb rfl rfl rfl fun x => ?_
    show (w.heap.setIfInBounds b _)[x]? = _
    rw [Array.getElem?_setIfInBounds]
    have hlt : b < w.heap.size := (Array.getElem?_eq_some_iff.1 h7).1
    by_cases hxb : b = x
    · subst hxb
      rw [if_pos rfl, if_pos hlt, if_pos rfl]
    · rw [if_neg hxb, if_neg (fun e => hxb e.symm)]
theorem LV.lenM (hT : T.ok P) {t kt et : TypeId} {x : Operand} {b c : Nat} {ks : List KE} (hx : ev n f x = .map (some b)) (ht : ∃ d, tget T t = some d ∧ d.desc = .map kt et) (hb : Has i L b (.map (entS ks) c)) :
    LV P n f i L ⟨dst, .call ⟨.builtin .len, #[x], #[t]⟩, ty, pos, aft, gd⟩ (.int .i64 ks.length) := by
  obtain ⟨d, h1, h2⟩ := ht
  have u1 := (tget_ok hT h1).und
  rw [h2] at u1
  unfold LV; intro w hw
  have g1 : (getObj b).run P w = .ok (.map (entS ks) c) w := run_getObj_m (hb.block hw)
  simp [execOp, resolve, hx, invoke, builtin, Builtin.len_, run_underlying u1, g1, entS]
  rfl
end
section
variable {P : Program} {all : List Oper} {n : Nat} {r : List Oper} {f : Fr} {i : Imm} {L : SH} {K : Fr → Imm → SH → Prop} {dst : Option Nat} {ty : TypeId} {pos : String} {aft : Array Edge} {gd : Option (Nat × Bool)} {T : Tab}
theorem RS.makeMapS {t : TypeId} (hg : gok n f all ⟨dst, .makeMap t none, ty, pos, aft, gd⟩ = true) (h : ∀ b, RS P all n r (updO f dst (.map (some b))) i ((b, .map (entS []) 0) :: L) K) : RS P all n (⟨dst, .makeMap t none, ty, pos, aft, gd⟩ :: r) f i L K :=
  RS.step hg (OpS.makeMapS h)
theorem RS.mapAddS (hT : T.ok P) {t kt et : TypeId} {x y z : Operand} {b c k : Nat} {a : ByteArray} {ks : List KE} {L' : SH} (hg : gok n f all ⟨dst, .mapUpdate t x y z, ty, pos, aft, gd⟩ = true) (hx : ev n f x = .map (some b)) (hy : ev n f y = .string a) (hz : ev n f z = .bool true) (ht : ∃ d, tget T t = some d ∧ d.desc = .map kt et) (hk : ∃ d, tget T kt = some d ∧ d.desc = .string)
    (hb : L[k]? = some (b, .map (entS ks) c)) (hv : a ∉ keysS ks) (hL : setX L k (b, .map (entS (ks ++ [(a, c)])) (c + 1)) = some L') (h : RS P all n r (updO f dst undef) i L' K) : RS P all n (⟨dst, .mapUpdate t x y z, ty, pos, aft, gd⟩ :: r) f i L K :=
  RS.step hg (OpS.mapAddS hT hx hy hz ht hk hb hv hL h)
theorem RS.mapDelS (hT : T.ok P) {t kt et t2 : TypeId} {x y : Operand} {b c k j : Nat} {a : ByteArray} {ks : List KE} {L' : SH} (hg : gok n f all ⟨dst, .call ⟨.builtin .delete, #[x, y], #[t, t2]⟩, ty, pos, aft, gd⟩ = true) (hx : ev n f x = .map (some b)) (hy : ev n f y = .string a) (ht : ∃ d, tget T t = some d ∧ d.desc = .map kt et) (hk : ∃ d, tget T kt = some d ∧ d.desc = .string)
    (hb : L[k]? = some (b, .map (entS ks) c)) (hv : findS a ks 0 = some (j, .bool true)) (hL : setX L k (b, .map (entS (ks.eraseIdx j)) c) = some L') (h : RS P all n r (updO f dst (.tuple #[])) i L' K) : RS P all n (⟨dst, .call ⟨.builtin .delete, #[x, y], #[t, t2]⟩, ty, pos, aft, gd⟩ :: r) f i L K :=
  RS.step hg (OpS.mapDelS hT hx hy ht hk hb hv hL h)
end
end Go.Eng
