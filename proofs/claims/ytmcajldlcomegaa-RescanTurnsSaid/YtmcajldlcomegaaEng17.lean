/- The proof engine, part 17: maps from strings to any values, a range over a map, whole blocks stored. No condition. -/
import Derived.Test.YtmcajldlcomegaaEng16
import Derived.Maps.RangeRun
namespace Go.Eng
open Go
/-- key, value, born -/
abbrev VE := ByteArray × Value × Nat
def ent1 (e : VE) : MapEntry := ⟨.string e.1, e.2.1, e.2.2⟩
def entV (es : List VE) : Array MapEntry := (es.map ent1).toArray
def findV (a : ByteArray) : List VE → Nat → Option (Nat × Value)
  | [], _ => none
  | e :: es, i => if a = e.1 then some (i, e.2.1) else findV a es (i + 1)
def mget : List VE → ByteArray → Option Value
  | [], _ => none
  | e :: es, a => if a = e.1 then some e.2.1 else mget es a
def mput : List VE → ByteArray → Value → Nat → List VE
  | [], a, v, c => [(a, v, c)]
  | e :: es, a, v, c => if a = e.1 then (e.1, v, e.2.2) :: es else e :: mput es a v c
def mclk (es : List VE) (a : ByteArray) (c : Nat) : Nat := if (mget es a).isSome then c else c + 1
/-- keys once, stamps once, all below the clock -/
structure MapOk (es : List VE) (c : Nat) : Prop where
  keys : (es.map fun e => e.1).Nodup
  born : (es.map fun e => e.2.2).Nodup
  lt : ∀ e ∈ es, e.2.2 < c
theorem MapOk.nil : MapOk [] 0 := ⟨List.nodup_nil, List.nodup_nil, nofun⟩
theorem mget_key {es : List VE} {a : ByteArray} : (mget es a).isSome = true ↔ a ∈ es.map fun e => e.1 := by
  induction es with
  | nil => simp [mget]
  | cons e es ih =>
    simp only [mget, List.map_cons, List.mem_cons]
    by_cases h : a = e.1
    · simp [h]
    · rw [if_neg h]
      constructor
      · intro k; exact .inr (ih.1 k)
      · rintro (k | k)
        · exact absurd k h
        · exact ih.2 k
theorem mget_put (es : List VE) (a : ByteArray) (v : Value) (c : Nat) (b : ByteArray) : mget (mput es a v c) b = if b = a then some v else mget es b := by
  induction es with
  | nil => simp [mput, mget]
  | cons e es ih =>
    simp only [mput]
    by_cases h : a = e.1
    · subst h
      rw [if_pos rfl]
      simp only [mget]
      split <;> rfl
    · rw [if_neg h]
      simp only [mget, ih]
      by_cases hb : b = e.1
      · subst hb
        rw [if_pos rfl, if_neg (fun e => h e.symm), if_pos rfl]
      · rw [if_neg hb, if_neg hb]
theorem mput_keys (es : List VE) (a : ByteArray) (v : Value) (c : Nat) : (mput es a v c).map (fun e => e.1) = if (mget es a).isSome then es.map (fun e => e.1) else es.map (fun e => e.1) ++ [a] := by
  induction es with
  | nil => simp [mput, mget]
  | cons e es ih =>
    simp only [mput, mget]
    by_cases h : a = e.1
    · subst h; simp
    · simp only [if_neg h, List.map_cons, ih]
      split <;> simp
theorem mput_born (es : List VE) (a : ByteArray) (v : Value) (c : Nat) : (mput es a v c).map (fun e => e.2.2) = if (mget es a).isSome then es.map (fun e => e.2.2) else es.map (fun e => e.2.2) ++ [c] := by
  induction es with
  | nil => simp [mput, mget]
  | cons e es ih =>
    simp only [mput, mget]
    by_cases h : a = e.1
    · subst h; simp
    · simp only [if_neg h, List.map_cons, ih]
      split <;> simp
theorem mput_len (es : List VE) (a : ByteArray) (v : Value) (c : Nat) : (mput es a v c).length ≤ es.length + 1 := by
  have h := congrArg List.length (mput_keys es a v c)
  simp only [List.length_map] at h
  rw [h]
  split <;> simp
theorem MapOk.put {es : List VE} {c : Nat} (h : MapOk es c) (a : ByteArray) (v : Value) : MapOk (mput es a v c) (mclk es a c) := by
  have hk := mput_keys es a v c
  have hb := mput_born es a v c
  unfold mclk
  cases hs : (mget es a).isSome with
  | true =>
    rw [hs] at hk hb
    rw [if_pos rfl] at hk hb ⊢
    refine ⟨by rw [hk]; exact h.keys, by rw [hb]; exact h.born, fun e he => ?_⟩
    have : e.2.2 ∈ (mput es a v c).map (fun e => e.2.2) := List.mem_map.2 ⟨e, he, rfl⟩
    rw [hb] at this
    obtain ⟨e', he', h2⟩ := List.mem_map.1 this
    rw [← h2]; exact h.lt e' he'
  | false =>
    rw [hs] at hk hb
    rw [if_neg (by decide)] at hk hb ⊢
    have hna : a ∉ es.map fun e => e.1 := fun hm => by rw [← mget_key, hs] at hm; cases hm
    refine ⟨by rw [hk]; exact List.nodup_append.2 ⟨h.keys, by simp, fun x hx y hy e => by
        rw [List.mem_singleton] at hy; subst hy; subst e; exact hna hx⟩, by rw [hb]; exact List.nodup_append.2 ⟨h.born, by simp, fun x hx y hy e => by
        rw [List.mem_singleton] at hy; subst hy; subst e
        obtain ⟨e', he', h2⟩ := List.mem_map.1 hx
        have := h.lt e' he'; omega⟩, fun e he => ?_⟩
    have : e.2.2 ∈ (mput es a v c).map (fun e => e.2.2) := List.mem_map.2 ⟨e, he, rfl⟩
    rw [hb] at this
    rcases List.mem_append.1 this with h1 | h1
    · obtain ⟨e', he', h2⟩ := List.mem_map.1 h1
      have := h.lt e' he'; omega
    · rw [List.mem_singleton] at h1; omega
theorem mget_mem {es : List VE} {c : Nat} (h : MapOk es c) {e : VE} (he : e ∈ es) : mget es e.1 = some e.2.1 := by
  have hk := h.keys
  clear h
  induction es with
  | nil => cases he
  | cons x es ih =>
    simp only [List.map_cons, List.nodup_cons] at hk
    simp only [mget]
    rcases List.mem_cons.1 he with rfl | he
    · rw [if_pos rfl]
    · rw [if_neg (fun k => hk.1 (by rw [← k]; exact List.mem_map.2 ⟨e, he, rfl⟩))]
      exact ih he hk.2
theorem findNow_v (a : ByteArray) : ∀ (es : List VE) (i : Nat), Instr.findNow .string (.string a) (es.map ent1) i = some (findV a es i)
  | [], _ => rfl
  | e :: es, i => by
    have ih := findNow_v a es (i + 1)
    simp only [List.map_cons, ent1, Instr.findNow, Instr.sameNow, findV, beq_str]
    by_cases h : a = e.1
    · simp [h]
    · simp only [decide_eq_false h, if_neg h]
      exact ih
theorem findV_none {a : ByteArray} : ∀ {es : List VE} {i : Nat}, mget es a = none → findV a es i = none
  | [], _, _ => rfl
  | e :: es, i, h => by
    simp only [mget] at h
    simp only [findV]
    split at h
    · cases h
    · rename_i hn; rw [if_neg hn]; exact findV_none h
theorem findV_some {a : ByteArray} {v : Value} : ∀ {es : List VE} {i : Nat}, mget es a = some v → ∃ j b, findV a es i = some (i + j, v) ∧ es[j]? = some (a, v, b) ∧ ∀ u c, mput es a u c = es.set j (a, u, b)
  | [], _, h => by cases h
  | e :: es, i, h => by
    simp only [mget] at h
    by_cases he : a = e.1
    · rw [if_pos he] at h
      cases h
      exact ⟨0, e.2.2, by simp [findV, he], by simp [he], fun u c => by simp [mput, he]⟩
    · rw [if_neg he] at h
      obtain ⟨j, b, h1, h2, h3⟩ := findV_some (i := i + 1) h
      exact ⟨j + 1, b, by rw [findV, if_neg he, h1]; congr 2; omega, by simpa using h2, fun u c => by simp [mput, he, h3]⟩
section
variable {P : Program} {n : Nat} {f : Fr} {i : Imm} {L : SH} {K : Value → Imm → SH → Prop} {dst : Option Nat} {ty : TypeId} {pos : String} {aft : Array Edge} {gd : Option (Nat × Bool)} {T : Tab}
theorem run_findKey_v {w : World} {kt : TypeId} (hd : P.underlying kt = some .string) (a : ByteArray) (es : List VE) : (Instr.findKey kt (.string a) (entV es).toList).run P w = .ok (findV a es 0) w := by
  simp [Instr.findKey, run_underlying hd, entV, findNow_v]
theorem OpS.makeMapV {t : TypeId} (h : ∀ b, K (.map (some b)) i ((b, .map (entV []) 0) :: L)) : OpS P n ⟨dst, .makeMap t none, ty, pos, aft, gd⟩ f i L K := OpS.makeMap h
/-- 'v, ok := m[a]' -/
theorem LV.lookupV (hT : T.ok P) {t kt et : TypeId} {x y : Operand} {b c : Nat} {a : ByteArray} {es : List VE} {zv : Value} (hx : ev n f x = .map (some b)) (hy : ev n f y = .string a) (ht : ∃ d, tget T t = some d ∧ d.desc = .map kt et) (hk : ∃ d, tget T kt = some d ∧ d.desc = .string)
    (hz : ∀ w, (zeroValue et).run P w = .ok zv w) (hb : Has i L b (.map (entV es) c)) : LV P n f i L ⟨dst, .lookup t x y true, ty, pos, aft, gd⟩ (.tuple #[(mget es a).getD zv, .bool (mget es a).isSome]) := by
  obtain ⟨d, h1, h2⟩ := ht
  obtain ⟨d', h3, h4⟩ := hk
  have u1 := (tget_ok hT h1).und
  have u2 := (tget_ok hT h3).und
  rw [h2] at u1
  rw [h4] at u2
  unfold LV; intro w hw
  have h7 := hb.block hw
  have h8 := run_findKey_v (w := w) u2 a es
  have h9 : (Instr.checkKey (entV es).isEmpty 10000 kt (.string a)).run P w = .ok () w := run_checkKey_str u2 a _ 9999
  have g1 : (getObj b).run P w = .ok (.map (entV es) c) w := run_getObj_m h7
  simp only [execOp, hx, hy, Instr.lookup]
  cases hm : mget es a with
  | some v =>
    obtain ⟨j, _, hj, _⟩ := findV_some (i := 0) hm
    rw [hj] at h8
    simp [run_underlying u1, g1, h9, h8]
  | none =>
    rw [findV_none hm] at h8
    simp [run_underlying u1, g1, h9, h8, hz w]
theorem LV.lookupVs (hT : T.ok P) {t kt et : TypeId} {x y : Operand} {b c : Nat} {a : ByteArray} {es : List VE} {zv v : Value} (hx : ev n f x = .map (some b)) (hy : ev n f y = .string a) (ht : ∃ d, tget T t = some d ∧ d.desc = .map kt et) (hk : ∃ d, tget T kt = some d ∧ d.desc = .string)
    (hz : ∀ w, (zeroValue et).run P w = .ok zv w) (hb : Has i L b (.map (entV es) c)) (hg : mget es a = some v) : LV P n f i L ⟨dst, .lookup t x y true, ty, pos, aft, gd⟩ (.tuple #[v, .bool true]) := by
  have h := LV.lookupV (dst := dst) (ty := ty) (pos := pos) (aft := aft) (gd := gd) (P := P) (n := n) (f := f) (i := i) (L := L) hT hx hy ht hk hz hb
  rw [hg] at h; exact h
theorem LV.lookupVn (hT : T.ok P) {t kt et : TypeId} {x y : Operand} {b c : Nat} {a : ByteArray} {es : List VE} {zv : Value} (hx : ev n f x = .map (some b)) (hy : ev n f y = .string a) (ht : ∃ d, tget T t = some d ∧ d.desc = .map kt et) (hk : ∃ d, tget T kt = some d ∧ d.desc = .string)
    (hz : ∀ w, (zeroValue et).run P w = .ok zv w) (hb : Has i L b (.map (entV es) c)) (hg : mget es a = none) : LV P n f i L ⟨dst, .lookup t x y true, ty, pos, aft, gd⟩ (.tuple #[zv, .bool false]) := by
  have h := LV.lookupV (dst := dst) (ty := ty) (pos := pos) (aft := aft) (gd := gd) (P := P) (n := n) (f := f) (i := i) (L := L) hT hx hy ht hk hz hb
  rw [hg] at h; exact h
/-- 'm[a] = u' -/
theorem OpS.mapPut (hT : T.ok P) {t kt et : TypeId} {x y z : Operand} {b c k : Nat} {a : ByteArray} {es : List VE} {u : Value} {L' : SH} (hx : ev n f x = .map (some b)) (hy : ev n f y = .string a) (hz : ev n f z = u) (ht : ∃ d, tget T t = some d ∧ d.desc = .map kt et) (hk : ∃ d, tget T kt = some d ∧ d.desc = .string)
    (hb : L[k]? = some (b, .map (entV es) c)) (hL : setX L k (b, .map (entV (mput es a u c)) (mclk es a c)) = some L') (h : K undef i L') : OpS P n ⟨dst, .mapUpdate t x y z, ty, pos, aft, gd⟩ f i L K := by
  obtain ⟨d, h1, h2⟩ := ht
  obtain ⟨d', h3, h4⟩ := hk
  have h5 := (tget_ok hT h1).und
  have h6 := (tget_ok hT h3).und
  rw [h2] at h5
  rw [h4] at h6
  refine OpS.skipW fun w hw => ?_
  have h7 := hw.own _ (List.mem_of_getElem? hb)
  have h8 := run_findKey_v (w := w) h6 a es
  have h9 : (Instr.checkKey false 10000 kt (.string a)).run P w = .ok () w := run_checkKey_str h6 a _ 9999
  have g1 : (getObj b).run P w = .ok (.map (entV es) c) w := run_getObj_m h7
  have g2 := run_setObj_m (P := P) (.map (entV (mput es a u c)) (mclk es a c)) h7
  refine ⟨{ w with heap := w.heap.setIfInBounds b (.map (entV (mput es a u c)) (mclk es a c)) }, i, L', ?_, Imm.le.refl i, ?_, h⟩
  · simp only [execOp, hx, hy, hz, Instr.mapUpdate]
    cases hm : mget es a with
    | none =>
      rw [findV_none hm] at h8
      have e1 : (entV es).push ⟨.string a, u, c⟩ = entV (mput es a u c) := by
        have : ∀ es : List VE, mget es a = none → mput es a u c = es ++ [(a, u, c)] := by
          intro es
          induction es with
          | nil => intro _; rfl
          | cons e es ih =>
            intro h
            simp only [mget] at h
            split at h
            · cases h
            · rename_i hn; simp [mput, hn, ih h]
        rw [this es hm]; simp [entV, ent1]
      have e2 : mclk es a c = c + 1 := by simp [mclk, hm]
      rw [e2] at g2 ⊢
      simp [run_underlying h5, g1, h9, h8, e1, g2]
    | some v =>
      obtain ⟨j, bn, hj, hes, hput⟩ := findV_some (i := 0) hm
      rw [hj] at h8
      simp only [Nat.zero_add] at h8
      have e2 : mclk es a c = c := by simp [mclk, hm]
      have hjl : j < es.length := (List.getElem?_eq_some_iff.1 hes).1
      have e0 : (entV es)[j]? = some ⟨.string a, v, bn⟩ := by simp [entV, hes, ent1]
      have e1 : ((entV es).modify j fun e => { e with key := .string a, val := u }) = entV (mput es a u c) := by
        rw [hput]
        apply Array.ext_getElem?
        intro m
        rw [Array.getElem?_modify]
        by_cases hmj : j = m
        · subst hmj
          simp only [if_pos rfl, e0, Option.map_some]
          simp [entV, ent1, hjl]
        · rw [if_neg hmj]
          simp [entV, List.getElem?_set_ne hmj]
      have e3 : (Instr.keyThatStays (.string a) (.string a)).run P w = .ok (.string a) w := by
        have : (a == a) = true := by rw [beq_str]; simp
        simp [Instr.keyThatStays, Instr.sameBits, this]
      rw [e2] at g2 ⊢
      simp [run_underlying h5, g1, h9, h8, e0, e1, e3, g2]
  · rw [← (setX_eq _ _ _ _ hL).1]
    refine hw.put hb rfl rfl rfl fun x => ?_
    show (w.heap.setIfInBounds b _)[x]? = _
    rw [Array.getElem?_setIfInBounds]
    have hlt : b < w.heap.size := (Array.getElem?_eq_some_iff.1 h7).1
    by_cases hxb : b = x
    · subst hxb
      rw [if_pos rfl, if_pos hlt, if_pos rfl]
    · rw [if_neg hxb, if_neg (fun e => hxb e.symm)]
/-! ### a range over a map -/
theorem OpS.rangeM (hT : T.ok P) {t kt et : TypeId} {x : Operand} {b c : Nat} {es : Array MapEntry} (hx : ev n f x = .map (some b)) (ht : ∃ d, tget T t = some d ∧ d.desc = .map kt et) (hb : Has i L b (.map es c))
    (h : ∀ it, K (.pointer (some ⟨it, 0, none⟩)) i ((it, .mapIter (some b) c #[] c) :: L)) : OpS P n ⟨dst, .range t x, ty, pos, aft, gd⟩ f i L K := by
  obtain ⟨d, h1, h2⟩ := ht
  have h5 := (tget_ok hT h1).und
  rw [h2] at h5
  refine OpS.valueW fun w hw => ?_
  have g1 : (getObj b).run P w = .ok (.map es c) w := run_getObj_m (hb.block hw)
  refine ⟨.pointer (some ⟨w.heap.size, 0, none⟩), w.alloc (.mapIter (some b) c #[] c), i, _, ?_, Imm.le.refl i, hw.push rfl rfl rfl rfl, h w.heap.size⟩
  simp [execOp, hx, Instr.range, run_underlying h5, g1, run_newObj_alloc]
theorem St.setBlock {i : Imm} {L : SH} {w : World} {k b : Nat} {o : Obj} (o' : Obj) (h : St i L w) (hk : L[k]? = some (b, o)) : St i (L.set k (b, o')) (ChangeMaps.setBlock w b o') := by
  have h7 := h.own _ (List.mem_of_getElem? hk)
  refine h.put hk rfl rfl rfl fun x => ?_
  show (w.heap.setIfInBounds b _)[x]? = _
  rw [Array.getElem?_setIfInBounds]
  have hlt : b < w.heap.size := (Array.getElem?_eq_some_iff.1 h7).1
  by_cases hxb : b = x
  · subst hxb
    rw [if_pos rfl, if_pos hlt, if_pos rfl]
  · rw [if_neg hxb, if_neg (fun e => hxb e.symm)]
/-- nothing is left, or some entry that is left comes out -/
theorem OpS.nextM {x : Operand} {it b c since c0 k : Nat} {seen : Array Nat} {es : List VE} (hx : ev n f x = .pointer (some ⟨it, 0, none⟩)) (hit : L[k]? = some (it, .mapIter (some b) since seen c0)) (hb : Has i L b (.map (entV es) c))
    (hold : ∀ e ∈ es, e.2.2 < since) (hsc : since ≤ c0) (h0 : (∀ e ∈ es, e.2.2 ∈ seen) → K (.tuple #[.bool false]) i L)
    (h1 : ∀ e ∈ es, e.2.2 ∉ seen → K (.tuple #[.bool true, .string e.1, e.2.1]) i (L.set k (it, .mapIter (some b) since (seen.push e.2.2) c))) : OpS P n ⟨dst, .next x false, ty, pos, aft, gd⟩ f i L K := by
  refine OpS.valueW fun w hw => ?_
  have hi := hw.own _ (List.mem_of_getElem? hit)
  have hm := hb.block hw
  have hold' : ∀ x ∈ (entV es).toList, x.born < since := fun x hx => by
    simp only [entV, List.toList_toArray, List.mem_map] at hx
    obtain ⟨e, he, rfl⟩ := hx
    exact hold e he
  rcases run_next_at (P := P) w ty it b since c0 seen (entV es) c hi hm hold' hsc with ⟨hl, hr⟩ | ⟨e, he, w1, hal, hr⟩
  · refine ⟨_, w, i, L, by simp only [execOp, hx]; simp [hr], Imm.le.refl i, hw, h0 fun e he => ?_⟩
    have h2 : leftOf (entV es) seen = #[] := Array.eq_empty_of_size_eq_zero hl
    unfold leftOf at h2
    rw [Array.filter_eq_empty_iff] at h2
    have := h2 (ent1 e) (by simp [entV]; exact ⟨_, _, _, he, rfl⟩)
    simpa [ent1] using this
  · unfold leftOf at he
    simp only [Array.toList_filter, List.mem_filter] at he
    obtain ⟨he1, he2⟩ := he
    simp only [entV, List.toList_toArray, List.mem_map] at he1
    obtain ⟨e', he', rfl⟩ := he1
    have hw1 : St i L w1 := by
      rcases hal with rfl | rfl
      · exact hw
      · exact hw.drew
    refine ⟨_, _, i, _, by simp only [execOp, hx]; simp [hr]; exact ⟨⟨rfl, rfl⟩, rfl⟩, Imm.le.refl i, hw1.setBlock _ hit, h1 e' he' ?_⟩
    simpa [ent1] using he2
theorem LV.entryM {x : Operand} {it b c since k : Nat} {seen : Array Nat} {es : List VE} {e : VE} (hx : ev n f x = .pointer (some ⟨it, 0, none⟩)) (hit : L[k]? = some (it, .mapIter (some b) since (seen.push e.2.2) c)) (hb : Has i L b (.map (entV es) c)) (hok : MapOk es c) (he : e ∈ es) :
    LV P n f i L ⟨dst, .entry x, ty, pos, aft, gd⟩ (.tuple #[.string e.1, e.2.1]) := by
  unfold LV; intro w hw
  have hi := hw.own _ (List.mem_of_getElem? hit)
  have hm := hb.block hw
  have h1 := run_entry_at (P := P) w it b since seen (entV es) c (ent1 e) hi hm (by simp [entV]; exact ⟨_, _, _, he, rfl⟩) (by
    have : (entV es).toList.map (·.born) = es.map fun e => e.2.2 := by simp [entV, ent1, Function.comp_def]
    rw [this]; exact hok.born)
  simp only [execOp, hx]
  simp [h1, ent1]
/-- a cell of a type that the table lacks (a function's) -/
theorem LV.loadU {t t' : TypeId} {d : TypeDesc} {x : Operand} {b off : Nat} {cs : List Value} {fz : Nat × Nat} {v : Value} (hd : P.underlying t = some d) (ha : isAggD d = false) (hx : ev n f x = .pointer (some ⟨b, off, none⟩)) (hb : Has i L b (.cells cs.toArray t' fz)) (hv : cs[off]? = some v) :
    LV P n f i L ⟨dst, .load t x, ty, pos, aft, gd⟩ v := by
  unfold LV; intro w hw
  have h1 := run_load_one hd ha (w := w) (b := b) (off := off) (u := v) (by rw [cell_at (hb.block hw)]; exact hv)
  simp [execOp, hx, h1]
/-! ### a whole block stored -/
theorem OpS.storeW (hT : T.ok P) {t t' : TypeId} {x y : Operand} {b k : Nat} {cs vs : List Value} (hx : ev n f x = .pointer (some ⟨b, 0, none⟩)) (hy : ev n f y = .agg vs.toArray) (hk : L[k]? = some (b, .cells cs.toArray t' (0, 0)))
    (hl : cs.length = vs.length) (hne : vs ≠ []) (hok : okStore T t vs = true) (h : K undef i (L.set k (b, .cells vs.toArray t' (0, 0)))) : OpS P n ⟨dst, .store t x y, ty, pos, aft, gd⟩ f i L K := by
  refine OpS.store hT (cs' := vs) (k := k) hx hy (by simp [cellsL]) hk hok ?_ (setX_some _ _ _ _ hk) h
  have := putAt_some vs cs 0 (by omega)
  rw [this]
  simp [hl]
end
section
variable {P : Program} {all : List Oper} {n : Nat} {r : List Oper} {f : Fr} {i : Imm} {L : SH} {K : Fr → Imm → SH → Prop} {dst : Option Nat} {ty : TypeId} {pos : String} {aft : Array Edge} {gd : Option (Nat × Bool)} {T : Tab}
theorem RS.makeMapV {t : TypeId} (hg : gok n f all ⟨dst, .makeMap t none, ty, pos, aft, gd⟩ = true) (h : ∀ b, RS P all n r (updO f dst (.map (some b))) i ((b, .map (entV []) 0) :: L) K) : RS P all n (⟨dst, .makeMap t none, ty, pos, aft, gd⟩ :: r) f i L K :=
  RS.step hg (OpS.makeMapV h)
theorem RS.mapPut (hT : T.ok P) {t kt et : TypeId} {x y z : Operand} {b c k : Nat} {a : ByteArray} {es : List VE} {u : Value} {L' : SH} (hg : gok n f all ⟨dst, .mapUpdate t x y z, ty, pos, aft, gd⟩ = true) (hx : ev n f x = .map (some b)) (hy : ev n f y = .string a) (hz : ev n f z = u) (ht : ∃ d, tget T t = some d ∧ d.desc = .map kt et) (hk : ∃ d, tget T kt = some d ∧ d.desc = .string)
    (hb : L[k]? = some (b, .map (entV es) c)) (hL : setX L k (b, .map (entV (mput es a u c)) (mclk es a c)) = some L') (h : RS P all n r (updO f dst undef) i L' K) : RS P all n (⟨dst, .mapUpdate t x y z, ty, pos, aft, gd⟩ :: r) f i L K :=
  RS.step hg (OpS.mapPut hT hx hy hz ht hk hb hL h)
theorem RS.rangeM (hT : T.ok P) {t kt et : TypeId} {x : Operand} {b c : Nat} {es : Array MapEntry} (hg : gok n f all ⟨dst, .range t x, ty, pos, aft, gd⟩ = true) (hx : ev n f x = .map (some b)) (ht : ∃ d, tget T t = some d ∧ d.desc = .map kt et) (hb : Has i L b (.map es c))
    (h : ∀ it, RS P all n r (updO f dst (.pointer (some ⟨it, 0, none⟩))) i ((it, .mapIter (some b) c #[] c) :: L) K) : RS P all n (⟨dst, .range t x, ty, pos, aft, gd⟩ :: r) f i L K := RS.step hg (OpS.rangeM hT hx ht hb h)
theorem RS.nextM {x : Operand} {it b c since c0 k : Nat} {seen : Array Nat} {es : List VE} (hg : gok n f all ⟨dst, .next x false, ty, pos, aft, gd⟩ = true) (hx : ev n f x = .pointer (some ⟨it, 0, none⟩)) (hit : L[k]? = some (it, .mapIter (some b) since seen c0)) (hb : Has i L b (.map (entV es) c))
    (hold : ∀ e ∈ es, e.2.2 < since) (hsc : since ≤ c0) (h0 : (∀ e ∈ es, e.2.2 ∈ seen) → RS P all n r (updO f dst (.tuple #[.bool false])) i L K)
    (h1 : ∀ e ∈ es, e.2.2 ∉ seen → RS P all n r (updO f dst (.tuple #[.bool true, .string e.1, e.2.1])) i (L.set k (it, .mapIter (some b) since (seen.push e.2.2) c)) K) : RS P all n (⟨dst, .next x false, ty, pos, aft, gd⟩ :: r) f i L K := RS.step hg (OpS.nextM hx hit hb hold hsc h0 h1)
theorem RS.storeW (hT : T.ok P) {t t' : TypeId} {x y : Operand} {b k : Nat} {cs vs : List Value} (hg : gok n f all ⟨dst, .store t x y, ty, pos, aft, gd⟩ = true) (hx : ev n f x = .pointer (some ⟨b, 0, none⟩)) (hy : ev n f y = .agg vs.toArray) (hk : L[k]? = some (b, .cells cs.toArray t' (0, 0)))
    (hl : cs.length = vs.length) (hne : vs ≠ []) (hok : okStore T t vs = true) (h : RS P all n r (updO f dst undef) i (L.set k (b, .cells vs.toArray t' (0, 0))) K) : RS P all n (⟨dst, .store t x y, ty, pos, aft, gd⟩ :: r) f i L K := RS.step hg (OpS.storeW hT hx hy hk hl hne hok h)
end
end Go.Eng
