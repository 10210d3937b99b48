/- The proof engine, part 3: loads, stores, new blocks, append, calls. No condition. -/
import Derived.Test.YtmcajldlcomegaaEng2
namespace Go.Eng
open Go

/-- block b holds o: immutable, or owned -/
def Has (i : Imm) (L : SH) (b : Nat) (o : Obj) : Prop := i.blk b = some o ∨ (b, o) ∈ L
theorem Has.own {i : Imm} {L : SH} {b : Nat} {o : Obj} (k : Nat) (h : L[k]? = some (b, o)) : Has i L b o := .inr (List.mem_of_getElem? h)
theorem Has.imm {i : Imm} {L : SH} {b : Nat} {o : Obj} (h : i.blk b = some o) : Has i L b o := .inl h
theorem Has.block {i : Imm} {L : SH} {b : Nat} {o : Obj} {w : World} (h : Has i L b o) (hs : St i L w) : w.heap[b]? = some o := by
  rcases h with h | h
  · exact hs.imm b o h
  · exact hs.own (b, o) h
theorem Has.le {i i' : Imm} {b : Nat} {o : Obj} (h : i.blk b = some o) (hi : i.le i') : i'.blk b = some o := hi.blk b o h

theorem St.put {i : Imm} {L : SH} {w w' : World} {k b : Nat} {o o' : Obj} (h : St i L w) (hk : L[k]? = some (b, o)) (h1 : w'.os = w.os) (h2 : w'.tape = w.tape) (h3 : w'.output = w.output)
    (hh : ∀ c, w'.heap[c]? = if c = b then some o' else w.heap[c]?) : St i (L.set k (b, o')) w' := by
  have hkl : k < L.length := by
    rcases Nat.lt_or_ge k L.length with h | h
    · exact h
    · rw [List.getElem?_eq_none h] at hk; cases hk
  have hmem : (b, o) ∈ L := List.mem_of_getElem? hk
  have hmap : (L.set k (b, o')).map Prod.fst = L.map Prod.fst := by
    rw [List.map_set]
    apply List.ext_getElem?
    intro j
    rw [List.getElem?_set]
    split
    · rename_i e; subst e
      have : L[k] = (b, o) := (List.getElem?_eq_some_iff.1 hk).2
      simp [hkl, this]
    · rfl
  have other : ∀ p ∈ L.set k (b, o'), p = (b, o') ∨ (p ∈ L ∧ p.1 ≠ b) := by
    intro p hp
    obtain ⟨j, hj⟩ := List.mem_iff_getElem?.1 hp
    rw [List.getElem?_set] at hj
    split at hj
    · first
        | exact .inl (Option.some.inj hj).symm
        | (split at hj
           · exact .inl (Option.some.inj hj).symm
           · cases hj)
    · rename_i hne
      refine .inr ⟨List.mem_of_getElem? hj, fun e => hne ?_⟩
      have e1 : (L.map Prod.fst)[j]? = some b := by simp [hj, e]
      have e2 : (L.map Prod.fst)[k]? = some b := by simp [hk]
      have hjl : j < (L.map Prod.fst).length := (List.getElem?_eq_some_iff.1 e1).1
      exact ((List.getElem?_inj hjl h.nodup).1 (e1.trans e2.symm)).symm
  refine ⟨h1.trans h.os, h2.trans h.tape, h3.trans h.output, fun c o₁ hc => ?_, by rw [hmap]; exact h.nodup, fun p hp => ?_, fun p hp => ?_⟩
  · have hne : c ≠ b := by
      rintro rfl
      have := h.sep _ hmem
      rw [hc] at this; cases this
    rw [hh, if_neg hne]; exact h.imm c o₁ hc
  · rcases other p hp with rfl | ⟨hp', hne⟩
    · rw [hh, if_pos rfl]
    · rw [hh, if_neg hne]; exact h.own p hp'
  · rcases other p hp with rfl | ⟨hp', hne⟩
    · exact h.sep (b, o) hmem
    · exact h.sep p hp'

theorem St.push {i : Imm} {L : SH} {w w' : World} {o : Obj} (h : St i L w) (h1 : w'.os = w.os) (h2 : w'.tape = w.tape) (h3 : w'.output = w.output)
    (hh : w'.heap = w.heap.push o) : St i ((w.heap.size, o) :: L) w' := by
  have lt : ∀ {b : Nat} {o' : Obj}, w.heap[b]? = some o' → b < w.heap.size := fun h => (Array.getElem?_eq_some_iff.1 h).1
  refine ⟨h1.trans h.os, h2.trans h.tape, h3.trans h.output, fun c o' hc => ?_, ?_, fun p hp => ?_, fun p hp => ?_⟩
  · have := h.imm c o' hc
    rw [hh, Array.getElem?_push_lt (lt this), ← this, Array.getElem?_eq_getElem (lt this)]
  · simp only [List.map_cons, List.nodup_cons]
    refine ⟨fun hm => ?_, h.nodup⟩
    obtain ⟨p, hp, e⟩ := List.mem_map.1 hm
    have := lt (h.own p hp)
    omega
  · rcases List.mem_cons.1 hp with rfl | hp
    · rw [hh]; simp
    · have := h.own p hp
      rw [hh, Array.getElem?_push_lt (lt this), ← this, Array.getElem?_eq_getElem (lt this)]
  · rcases List.mem_cons.1 hp with rfl | hp
    · cases hb : i.blk w.heap.size with
      | none => rfl
      | some o' => have := lt (h.imm _ _ hb); omega
    · exact h.sep p hp

theorem heap_setRow (w : World) (g : Nat) (cs cur : Array Value) (e : TypeId) (fz : Nat × Nat) (h : w.heap[g]? = some (.cells cur e fz)) :
    ∀ c, (w.setRow g cs).heap[c]? = if c = g then some (.cells cs e fz) else w.heap[c]? := by
  intro c
  simp only [World.setRow, Array.getElem?_modify]
  by_cases hc : c = g
  · subst hc; simp [h]
  · rw [if_neg (Ne.symm hc), if_neg hc]

section
variable {P : Program} {n : Nat} {f : Fr} {i : Imm} {L : SH} {dst : Option Nat} {ty : TypeId} {pos : String} {aft : Array Edge} {gd : Option (Nat × Bool)} {v : Value} {T : Tab} {K : Value → Imm → SH → Prop}

/-! ### loads -/
def ldV (T : Tab) (t off : Nat) (cs : List Value) : Option Value :=
  match tget T t with
  | some e => bif isAggD e.desc then (match takeX e.size (cs.drop off) with | some l => some (.agg l.toArray) | none => none) else (match cs[off]? with | some v => sv v | none => none)
  | none => none
theorem cell_at {w : World} {b : Nat} {cs : List Value} {t : TypeId} {fz : Nat × Nat} (h : w.heap[b]? = some (.cells cs.toArray t fz)) (off : Nat) : w.cell? ⟨b, off, none⟩ = cs[off]? := by
  simp [World.cell?, h]
theorem run_load_one {w : World} {b off : Nat} {u : Value} {t : TypeId} {d : TypeDesc} (hd : P.underlying t = some d) (ha : isAggD d = false) (h : w.cell? ⟨b, off, none⟩ = some u) :
    (Instr.loadAt t (.pointer (some ⟨b, off, none⟩))).run P w = .ok u w := by
  simp [Instr.loadAt, Instr.sureAddr, loadVar, run_isAgg hd, ha, h]
theorem run_load_agg {w : World} {b off : Nat} {l : List Value} {t : TypeId} {d : TypeDesc} {ti : TypeInfo} (hd : P.underlying t = some d) (ha : isAggD d = true) (hi : P.info? t = some ti) (hs : ti.size = l.length)
    (h : ∀ j u, l[j]? = some u → w.cell? ⟨b, off + j, none⟩ = some u) : (Instr.loadAt t (.pointer (some ⟨b, off, none⟩))).run P w = .ok (.agg l.toArray) w := by
  have := run_loadCells_list (P := P) (w := w) ⟨b, off, none⟩ l (fun j u hj => by rw [Addr.add_none]; exact h j u hj)
  simp [Instr.loadAt, Instr.sureAddr, loadVar, run_isAgg hd, ha, sizeOf, run_info hi, hs, this]
theorem run_ldV (hT : T.ok P) {w : World} {b off : Nat} {cs : List Value} {t t' : TypeId} {fz : Nat × Nat} (h : w.heap[b]? = some (.cells cs.toArray t' fz)) (hv : ldV T t off cs = some v) :
    (Instr.loadAt t (.pointer (some ⟨b, off, none⟩))).run P w = .ok v w := by
  unfold ldV at hv
  split at hv
  · rename_i e he
    obtain ⟨h2, _, ti, z, hi, hs, _⟩ := tget_ok hT he
    cases hb : isAggD e.desc with
    | true =>
      simp only [hb, cond_true] at hv
      split at hv
      · rename_i l hl
        cases hv
        obtain ⟨e1, e2⟩ := takeX_eq _ _ _ hl
        refine run_load_agg (l := l) h2 hb hi (by omega) fun j u hj => ?_
        rw [cell_at h]
        rw [← e1, List.getElem?_take] at hj
        split at hj
        · simpa using hj
        · cases hj
      · cases hv
    | false =>
      simp only [hb, cond_false] at hv
      split at hv
      · rename_i u hu
        rw [sv_eq] at hv; cases hv
        exact run_load_one h2 hb (by rw [cell_at h]; exact hu)
      · cases hv
  · cases hv
theorem LV.load (hT : T.ok P) {t t' : TypeId} {x : Operand} {b off : Nat} {cs : List Value} {fz : Nat × Nat} (hx : ev n f x = .pointer (some ⟨b, off, none⟩)) (hb : Has i L b (.cells cs.toArray t' fz))
    (hv : ldV T t off cs = some v) : LV P n f i L ⟨dst, .load t x, ty, pos, aft, gd⟩ v := by
  unfold LV; intro w hw
  have := run_ldV hT (hb.block hw) hv
  simp [execOp, hx, this]
/-- a cell whose value is not written out -/
theorem LV.load1 (hT : T.ok P) {t t' : TypeId} {x : Operand} {b off : Nat} {cs : List Value} {fz : Nat × Nat} (hx : ev n f x = .pointer (some ⟨b, off, none⟩)) (hb : Has i L b (.cells cs.toArray t' fz))
    (ht : tIs T (fun d => !isAggD d) t = true) (hv : cs[off]? = some v) : LV P n f i L ⟨dst, .load t x, ty, pos, aft, gd⟩ v := by
  unfold LV; intro w hw
  unfold tIs at ht
  split at ht
  · rename_i e he
    have := run_load_one (P := P) (tget_ok hT he).und (by simpa using ht) ((cell_at (hb.block hw) off).trans hv)
    simp [execOp, hx, this]
  · cases ht
/-- some cells, as an aggregate -/
theorem LV.loadL (hT : T.ok P) {t t' : TypeId} {x : Operand} {b off : Nat} {cs l : List Value} {fz : Nat × Nat} (hx : ev n f x = .pointer (some ⟨b, off, none⟩)) (hb : Has i L b (.cells cs.toArray t' fz))
    {e : TyE} (ht : tget T t = some e) (ha : isAggD e.desc = true) (hl : l.length = e.size) (hv : ∀ j u, l[j]? = some u → cs[off + j]? = some u) : LV P n f i L ⟨dst, .load t x, ty, pos, aft, gd⟩ (.agg l.toArray) := by
  unfold LV; intro w hw
  obtain ⟨h2, _, ti, z, hi, hs, _⟩ := tget_ok hT ht
  have := run_load_agg (P := P) (b := b) (off := off) (w := w) (l := l) h2 ha hi (by omega) (fun j u hj => by rw [cell_at (hb.block hw)]; exact hv j u hj)
  simp [execOp, hx, this]

/-! ### stores -/
theorem putAt_eq : ∀ (vs cs : List Value) (off : Nat) (cs' : List Value), putAt cs off vs = some cs' → cs' = cs.take off ++ vs ++ cs.drop (off + vs.length) ∧ off + vs.length ≤ max off cs.length
  | [], cs, off, cs', h => by cases h; simp; omega
  | v :: vs, cs, off, cs', h => by
    simp only [putAt] at h
    split at h
    · rename_i c1 h1
      obtain ⟨e1, e2⟩ := setX_eq _ _ _ _ h1
      obtain ⟨e3, e4⟩ := putAt_eq vs c1 (off + 1) cs' h
      subst e1
      simp only [List.length_set] at e4
      refine ⟨?_, by simp only [List.length_cons]; omega⟩
      rw [e3]
      have a1 : (cs.set off v).take (off + 1) = cs.take off ++ [v] := by
        rw [List.take_add_one]
        simp [e2, List.take_set_of_le]
      have a2 : (cs.set off v).drop (off + 1 + vs.length) = cs.drop (off + (v :: vs).length) := by
        rw [List.drop_set_of_lt (by omega)]
        congr 1; simp; omega
      rw [a1, a2]; simp
    · cases h
def okStore (T : Tab) (t : Nat) (vs : List Value) : Bool :=
  match tget T t with
  | some e => Nat.beq vs.length e.size && vs.all (·.oneCell')
  | none => false
theorem run_storeAt (hT : T.ok P) {w : World} {b off : Nat} {cs cs' vs : List Value} {t t' : TypeId} (h : w.heap[b]? = some (.cells cs.toArray t' (0, 0))) {u : Value} (hc : cellsL u = some vs) (hok : okStore T t vs = true) (hvs : vs ≠ [])
    (hp : putAt cs off vs = some cs') : (Instr.storeAt t (.pointer (some ⟨b, off, none⟩)) u).run P w = .ok () (w.setRow b cs'.toArray) := by
  unfold okStore at hok
  split at hok
  · rename_i e he
    obtain ⟨h2, _, ti, z, hi, hs, _⟩ := tget_ok hT he
    simp only [Bool.and_eq_true] at hok
    have hlen : vs.length = e.size := Nat.eq_of_beq_eq_true hok.1
    obtain ⟨e1, e2⟩ := putAt_eq _ _ _ _ hp
    have hle : off + vs.length ≤ cs.length := by
      have : 0 < vs.length := List.length_pos_iff.2 hvs
      omega
    have hr := run_storeCells_at P b off t' vs 0 cs.toArray w h (by simpa using hle) (by simpa using hok.2)
    simp only [Nat.add_zero] at hr
    simp [Instr.storeAt, Instr.sureAddr, storeVar, cellsL_eq hc, sizeOf, run_info hi, hs, hlen, hr, e1]
  · cases hok
theorem OpS.store (hT : T.ok P) {t t' : TypeId} {x y : Operand} {b off k : Nat} {cs cs' vs : List Value} {u : Value} {L' : SH} (hx : ev n f x = .pointer (some ⟨b, off, none⟩)) (hy : ev n f y = u) (hc : cellsL u = some vs)
    (hk : L[k]? = some (b, .cells cs.toArray t' (0, 0))) (hok : okStore T t vs = true) (hp : putAt cs off vs = some cs') (hL : setX L k (b, .cells cs'.toArray t' (0, 0)) = some L') (h : K undef i L') :
    OpS P n ⟨dst, .store t x y, ty, pos, aft, gd⟩ f i L K := by
  refine OpS.skipW fun w hw => ?_
  have hb := hw.own _ (List.mem_of_getElem? hk)
  by_cases hvs : vs = []
  · subst hvs
    cases hp
    refine ⟨w, i, L, ?_, Imm.le.refl i, hw, ?_⟩
    · unfold okStore at hok
      split at hok
      · rename_i e he
        obtain ⟨h2, _, ti, z, hi, hs, _⟩ := tget_ok hT he
        simp only [Bool.and_eq_true] at hok
        have hlen : ([] : List Value).length = e.size := Nat.eq_of_beq_eq_true hok.1
        simp [execOp, hx, hy, Instr.storeAt, Instr.sureAddr, storeVar, cellsL_eq hc, sizeOf, run_info hi, hs, ← hlen, storeCells]
      · cases hok
    · have e := (setX_eq _ _ _ _ hL).1
      have e2 : L.set k (b, .cells cs.toArray t' (0, 0)) = L := by
        obtain ⟨hkl, hkv⟩ := List.getElem?_eq_some_iff.1 hk
        rw [← hkv]; exact List.set_getElem_self hkl
      rw [e2] at e
      rw [e]; exact h
  · have hr := run_storeAt hT hb hc hok hvs hp
    refine ⟨_, i, L', by simp [execOp, hx, hy, hr]; rfl, Imm.le.refl i, ?_, h⟩
    rw [← (setX_eq _ _ _ _ hL).1]
    exact hw.put hk rfl rfl rfl (heap_setRow w b _ _ _ _ hb)

/-! ### new blocks -/
def zeroL (T : Tab) (t : Nat) : Option (List Value) :=
  match tget T t with
  | some e => some e.zero
  | none => none
theorem OpS.alloc (hT : T.ok P) {t : Nat} {zs : List Value} (hz : zeroL T t = some zs) (h : ∀ b, K (.pointer (some ⟨b, 0, none⟩)) i ((b, .cells zs.toArray t (0, 0)) :: L)) :
    OpS P n ⟨dst, .alloc t, ty, pos, aft, gd⟩ f i L K := by
  refine OpS.valueW fun w hw => ?_
  unfold zeroL at hz
  split at hz
  · rename_i e he
    cases hz
    obtain ⟨h2, _, ti, z, hi, hs, hby, hzz, hzc⟩ := tget_ok hT he
    refine ⟨.pointer (some ⟨w.heap.size, 0, none⟩), { w with heap := w.heap.push (.cells e.zero.toArray t (0, 0)) }, i, _, ?_, Imm.le.refl i, hw.push rfl rfl rfl rfl, h _⟩
    simp [execOp, Instr.alloc, zeroValue, run_info hi, hzz, newVar, newRow, hzc]
  · cases hz
theorem OpS.box {t : Nat} {x : Operand} {vs : List Value} (hx : cellsL (ev n f x) = some vs) (h : ∀ b, K (.pointer (some ⟨b, 0, none⟩)) i ((b, .cells vs.toArray t (0, 0)) :: L)) :
    OpS P n ⟨dst, .box t x, ty, pos, aft, gd⟩ f i L K := by
  refine OpS.valueW fun w hw => ?_
  refine ⟨.pointer (some ⟨w.heap.size, 0, none⟩), { w with heap := w.heap.push (.cells vs.toArray t (0, 0)) }, i, _, ?_, Imm.le.refl i, hw.push rfl rfl rfl rfl, h _⟩
  simp [execOp, Instr.box, newVar, newRow, cellsL_eq hx]

/-! ### calls -/
def fnOk (P : Program) (g : FuncId) : Bool :=
  match P.funcs[g]? with
  | some fn => !(fn.name == "runtime.NumGoroutine") && fn.body.isSome
  | none => false
theorem run_callFunc {g : FuncId} (h : fnOk P g = true) (args : Array Value) (w : World) : (callFunc g args).run P w = .ok (.enter g args) w := by
  unfold fnOk at h
  split at h
  · rename_i fn hfn
    simp only [Bool.and_eq_true, Bool.not_eq_true'] at h
    have h1 : ¬ fn.name = "runtime.NumGoroutine" := by simpa using h.1
    have h2 : ¬ fn.body = none := by intro hb; rw [hb] at h; exact absurd h.2 (by simp)
    simp [callFunc, hfn, h1, h2]
  · cases h
theorem OpS.call {g : FuncId} {as : Array Operand} {ts : Array TypeId} {vs : List Value} {Post : Value → Imm → SH → Prop} (hg : fnOk P g = true) (ha : as.toList.map (ev n f) = vs) (h : FnS P g vs i L Post)
    (k : ∀ v i' L', i.le i' → Post v i' L' → K v i' L') : OpS P n ⟨dst, .call ⟨.value (.func g), as, ts⟩, ty, pos, aft, gd⟩ f i L K := by
  refine OpS.enter (g := g) (args := vs) (fun w => ?_) (h.mono k)
  have : as.map (ev n f) = vs.toArray := by rw [← ha]; exact Array.ext' (by simp)
  simp [execOp, resolve, this, ev, Deferred.ofValue, invoke, run_callFunc hg]
/-- a function value that is called -/
theorem OpS.callV {g : FuncId} {x : Operand} {fst cap : Array Value} {as : Array Operand} {ts : Array TypeId} {vs : List Value} {Post : Value → Imm → SH → Prop} (hx : ev n f x = .func (.func g) fst cap) (hg : fnOk P g = true)
    (ha : fst.toList ++ as.toList.map (ev n f) ++ cap.toList = vs) (h : FnS P g vs i L Post)
    (k : ∀ v i' L', i.le i' → Post v i' L' → K v i' L') : OpS P n ⟨dst, .call ⟨.value x, as, ts⟩, ty, pos, aft, gd⟩ f i L K := by
  refine OpS.enter (g := g) (args := vs) (fun w => ?_) (h.mono k)
  have : fst ++ (as.map (ev n f) ++ cap) = vs.toArray := by rw [← ha]; exact Array.ext' (by simp)
  simp [execOp, resolve, hx, Deferred.ofValue, invoke, run_callFunc hg, this]
end

section
variable {P : Program} {all : List Oper} {n : Nat} {r : List Oper} {f : Fr} {i : Imm} {L : SH} {K : Fr → Imm → SH → Prop} {dst : Option Nat} {ty : TypeId} {pos : String} {aft : Array Edge} {gd : Option (Nat × Bool)} {T : Tab} {v : Value}
theorem RS.store (hT : T.ok P) {t t' : TypeId} {x y : Operand} {b off k : Nat} {cs cs' vs : List Value} {u : Value} {L' : SH} (hg : gok n f all ⟨dst, .store t x y, ty, pos, aft, gd⟩ = true) (hx : ev n f x = .pointer (some ⟨b, off, none⟩)) (hy : ev n f y = u) (hc : cellsL u = some vs)
    (hk : L[k]? = some (b, .cells cs.toArray t' (0, 0))) (hok : okStore T t vs = true) (hp : putAt cs off vs = some cs') (hL : setX L k (b, .cells cs'.toArray t' (0, 0)) = some L') (h : RS P all n r (updO f dst undef) i L' K) :
    RS P all n (⟨dst, .store t x y, ty, pos, aft, gd⟩ :: r) f i L K :=
  RS.step hg (OpS.store hT hx hy hc hk hok hp hL h)
theorem RS.alloc (hT : T.ok P) {t : Nat} {zs : List Value} (hg : gok n f all ⟨dst, .alloc t, ty, pos, aft, gd⟩ = true) (hz : zeroL T t = some zs)
    (h : ∀ b, RS P all n r (updO f dst (.pointer (some ⟨b, 0, none⟩))) i ((b, .cells zs.toArray t (0, 0)) :: L) K) : RS P all n (⟨dst, .alloc t, ty, pos, aft, gd⟩ :: r) f i L K :=
  RS.step hg (OpS.alloc hT hz h)
theorem RS.box {t : Nat} {x : Operand} {vs : List Value} (hg : gok n f all ⟨dst, .box t x, ty, pos, aft, gd⟩ = true) (hx : cellsL (ev n f x) = some vs)
    (h : ∀ b, RS P all n r (updO f dst (.pointer (some ⟨b, 0, none⟩))) i ((b, .cells vs.toArray t (0, 0)) :: L) K) : RS P all n (⟨dst, .box t x, ty, pos, aft, gd⟩ :: r) f i L K :=
  RS.step hg (OpS.box hx h)
theorem RS.call {g : FuncId} {as : Array Operand} {ts : Array TypeId} {vs : List Value} {Post : Value → Imm → SH → Prop} (h : FnS P g vs i L Post) (hg : gok n f all ⟨dst, .call ⟨.value (.func g), as, ts⟩, ty, pos, aft, gd⟩ = true) (hf : fnOk P g = true)
    (ha : as.toList.map (ev n f) = vs) (k : ∀ v i' L', i.le i' → Post v i' L' → RS P all n r (updO f dst v) i' L' K) : RS P all n (⟨dst, .call ⟨.value (.func g), as, ts⟩, ty, pos, aft, gd⟩ :: r) f i L K :=
  RS.step hg (OpS.call hf ha h k)
theorem RS.callV {g : FuncId} {x : Operand} {fst cap : Array Value} {as : Array Operand} {ts : Array TypeId} {vs : List Value} {Post : Value → Imm → SH → Prop} (h : FnS P g vs i L Post) (hg : gok n f all ⟨dst, .call ⟨.value x, as, ts⟩, ty, pos, aft, gd⟩ = true)
    (hx : ev n f x = .func (.func g) fst cap) (hf : fnOk P g = true) (ha : fst.toList ++ as.toList.map (ev n f) ++ cap.toList = vs) (k : ∀ v i' L', i.le i' → Post v i' L' → RS P all n r (updO f dst v) i' L' K) :
    RS P all n (⟨dst, .call ⟨.value x, as, ts⟩, ty, pos, aft, gd⟩ :: r) f i L K :=
  RS.step hg (OpS.callV hx hf ha h k)
theorem RS.perm {L' : SH} (hp : L.Perm L') (h : RS P all n r f i L' K) : RS P all n r f i L K :=
  RS.state fun _ hw => ⟨i, L', Imm.le.refl i, hw.perm hp, h⟩
theorem RS.drop {p : Nat × Obj} (h : RS P all n r f i L K) : RS P all n r f i (p :: L) K :=
  RS.state fun _ hw => ⟨i, L, Imm.le.refl i, hw.drop, h⟩
theorem RS.freeze {b : Nat} {o : Obj} (h : ∀ i', i.le i' → i'.blk b = some o → RS P all n r f i' L K) : RS P all n r f i ((b, o) :: L) K :=
  RS.state fun _ hw => ⟨i.add b o, L, hw.freeze.1, hw.freeze.2, h _ hw.freeze.1 (by simp [Imm.add])⟩
end
section
variable {P : Program} {n : Nat} {c : Code} {f : Fr} {i : Imm} {L : SH} {Q : Ex → Fr → Imm → SH → Prop}
theorem CS.perm {L' : SH} (hp : L.Perm L') (h : CS P n c f i L' Q) : CS P n c f i L Q :=
  CS.state fun _ hw => ⟨i, L', Imm.le.refl i, hw.perm hp, h⟩
theorem CS.drop {p : Nat × Obj} (h : CS P n c f i L Q) : CS P n c f i (p :: L) Q :=
  CS.state fun _ hw => ⟨i, L, Imm.le.refl i, hw.drop, h⟩
theorem CS.freeze {b : Nat} {o : Obj} (h : ∀ i', i.le i' → i'.blk b = some o → CS P n c f i' L Q) : CS P n c f i ((b, o) :: L) Q :=
  CS.state fun _ hw => ⟨i.add b o, L, hw.freeze.1, hw.freeze.2, h _ hw.freeze.1 (by simp [Imm.add])⟩
end
/-! what a function leaves may be let go of, or frozen, at its end -/
theorem FnS.state {P : Program} {g : FuncId} {args : List Value} {i : Imm} {L : SH} {K K' : Value → Imm → SH → Prop} (h : FnS P g args i L K)
    (hk : ∀ v i' L' w, i.le i' → St i' L' w → K v i' L' → ∃ i'' L'', i'.le i'' ∧ St i'' L'' w ∧ K' v i'' L'') : FnS P g args i L K' :=
  fun w hw => (h w hw).mono fun _ w' ⟨v, i', L', he, hi, hs, k⟩ => let ⟨i'', L'', hi', hs', k'⟩ := hk v i' L' w' hi hs k; ⟨v, i'', L'', he, hi.trans hi', hs', k'⟩
theorem FnS.frame {P : Program} {g : FuncId} {args : List Value} {i : Imm} {L L0 : SH} {K : Value → Imm → SH → Prop} (hp : L.Perm L0) (h : FnS P g args i L0 K) : FnS P g args i L K :=
  fun w hw => h w (hw.perm hp)
end Go.Eng
namespace Go.Eng
open Go
section
variable {P : Program} {all : List Oper} {n : Nat} {r : List Oper} {f : Fr} {i : Imm} {L : SH} {K : Fr → Imm → SH → Prop} {dst : Option Nat} {ty : TypeId} {pos : String} {aft : Array Edge} {gd : Option (Nat × Bool)}
  {t t2 : Nat} {x y : Operand} {a b : Int} {k : IntKind} {p q : ByteArray}
theorem RS.ifLss (hx : ev n f x = .int k a) (hy : ev n f y = .int k b) (hg : gok n f all ⟨dst, .binOp .lss t x y t2, ty, pos, aft, gd⟩ = true)
    (hT : a < b → RS P all n r (updO f dst (.bool true)) i L K) (hF : b ≤ a → RS P all n r (updO f dst (.bool false)) i L K) : RS P all n (⟨dst, .binOp .lss t x y t2, ty, pos, aft, gd⟩ :: r) f i L K := by
  by_cases h : a < b
  · exact RS.pv (PV.lssT hx hy h) hg (hT h)
  · exact RS.pv (PV.lssF hx hy (by omega)) hg (hF (by omega))
theorem RS.ifLeq (hx : ev n f x = .int k a) (hy : ev n f y = .int k b) (hg : gok n f all ⟨dst, .binOp .leq t x y t2, ty, pos, aft, gd⟩ = true)
    (hT : a ≤ b → RS P all n r (updO f dst (.bool true)) i L K) (hF : b < a → RS P all n r (updO f dst (.bool false)) i L K) : RS P all n (⟨dst, .binOp .leq t x y t2, ty, pos, aft, gd⟩ :: r) f i L K := by
  by_cases h : a ≤ b
  · exact RS.pv (PV.leqT hx hy h) hg (hT h)
  · exact RS.pv (PV.leqF hx hy (by omega)) hg (hF (by omega))
theorem RS.ifGtr (hx : ev n f x = .int k a) (hy : ev n f y = .int k b) (hg : gok n f all ⟨dst, .binOp .gtr t x y t2, ty, pos, aft, gd⟩ = true)
    (hT : b < a → RS P all n r (updO f dst (.bool true)) i L K) (hF : a ≤ b → RS P all n r (updO f dst (.bool false)) i L K) : RS P all n (⟨dst, .binOp .gtr t x y t2, ty, pos, aft, gd⟩ :: r) f i L K := by
  by_cases h : b < a
  · exact RS.pv (PV.gtrT hx hy h) hg (hT h)
  · exact RS.pv (PV.gtrF hx hy (by omega)) hg (hF (by omega))
theorem RS.ifGeq (hx : ev n f x = .int k a) (hy : ev n f y = .int k b) (hg : gok n f all ⟨dst, .binOp .geq t x y t2, ty, pos, aft, gd⟩ = true)
    (hT : b ≤ a → RS P all n r (updO f dst (.bool true)) i L K) (hF : a < b → RS P all n r (updO f dst (.bool false)) i L K) : RS P all n (⟨dst, .binOp .geq t x y t2, ty, pos, aft, gd⟩ :: r) f i L K := by
  by_cases h : b ≤ a
  · exact RS.pv (PV.geqT hx hy h) hg (hT h)
  · exact RS.pv (PV.geqF hx hy (by omega)) hg (hF (by omega))
theorem RS.ifEql (hx : ev n f x = .int k a) (hy : ev n f y = .int k b) (hg : gok n f all ⟨dst, .binOp .eql t x y t2, ty, pos, aft, gd⟩ = true)
    (hT : a = b → RS P all n r (updO f dst (.bool true)) i L K) (hF : a ≠ b → RS P all n r (updO f dst (.bool false)) i L K) : RS P all n (⟨dst, .binOp .eql t x y t2, ty, pos, aft, gd⟩ :: r) f i L K := by
  by_cases h : a = b
  · exact RS.pv (PV.eqlT hx hy h) hg (hT h)
  · exact RS.pv (PV.eqlF hx hy h) hg (hF h)
theorem RS.ifNeq (hx : ev n f x = .int k a) (hy : ev n f y = .int k b) (hg : gok n f all ⟨dst, .binOp .neq t x y t2, ty, pos, aft, gd⟩ = true)
    (hT : a ≠ b → RS P all n r (updO f dst (.bool true)) i L K) (hF : a = b → RS P all n r (updO f dst (.bool false)) i L K) : RS P all n (⟨dst, .binOp .neq t x y t2, ty, pos, aft, gd⟩ :: r) f i L K := by
  by_cases h : a = b
  · exact RS.pv (PV.neqF hx hy h) hg (hF h)
  · exact RS.pv (PV.neqT hx hy h) hg (hT h)
theorem RS.ifSeql (hx : ev n f x = .string p) (hy : ev n f y = .string q) (hg : gok n f all ⟨dst, .binOp .eql t x y t2, ty, pos, aft, gd⟩ = true)
    (hT : p.toList = q.toList → RS P all n r (updO f dst (.bool true)) i L K) (hF : p.toList ≠ q.toList → RS P all n r (updO f dst (.bool false)) i L K) : RS P all n (⟨dst, .binOp .eql t x y t2, ty, pos, aft, gd⟩ :: r) f i L K := by
  by_cases h : p.toList = q.toList
  · exact RS.pv (PV.seqlT hx hy h) hg (hT h)
  · exact RS.pv (PV.seqlF hx hy h) hg (hF h)
theorem RS.ifSneq (hx : ev n f x = .string p) (hy : ev n f y = .string q) (hg : gok n f all ⟨dst, .binOp .neq t x y t2, ty, pos, aft, gd⟩ = true)
    (hT : p.toList ≠ q.toList → RS P all n r (updO f dst (.bool true)) i L K) (hF : p.toList = q.toList → RS P all n r (updO f dst (.bool false)) i L K) : RS P all n (⟨dst, .binOp .neq t x y t2, ty, pos, aft, gd⟩ :: r) f i L K := by
  by_cases h : p.toList = q.toList
  · exact RS.pv (PV.sneqF hx hy h) hg (hF h)
  · exact RS.pv (PV.sneqT hx hy h) hg (hT h)
end
end Go.Eng
