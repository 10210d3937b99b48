/- The pool's calls in a context; how many jobs there are. -/
import Derived.Test.YtmcajldlcomegaaW18
namespace Go.Proofs.Ytmcajldlcomegaa
open Go Go.Eng

theorem GiveC_s (A : SH) (p nw : Nat) (js : List (Option JobP)) (index ticks : Int) (rc : List Value) (r : Rec) (i : Imm) (R : SH) (hp : PoolSt i js nw) (hr : RecV i rc r) (hok : r.ok) :
    FnS Try.prog 16 [.pointer (some ⟨p, 0, none⟩), .int .i64 index, .agg rc.toArray, .int .i64 ticks] i (A ++ (poolL p js nw ++ R)) fun v i' L' => ∃ e js', v = .int .i64 e ∧ GiveTo js nw index ticks r i' e js' ∧ L' = A ++ (poolL p js' nw ++ R) :=
  (FnS.ctx A (B' := fun x : Int × List (Option JobP) => poolL p x.2 nw) (φ := fun x v i' => v = .int .i64 x.1 ∧ GiveTo js nw index ticks r i' x.1 x.2) ((Give_s p nw js index ticks rc r i (A ++ R) hp hr hok).mono fun _ _ _ _ ⟨e, js', h1, h2, h3⟩ => ⟨(e, js'), ⟨h1, h2⟩, h3⟩)).mono fun _ _ _ _ ⟨x, ⟨h1, h2⟩, h3⟩ => ⟨x.1, x.2, h1, h2, h3⟩
theorem CancelC_s (A : SH) (p nw : Nat) (js : List (Option JobP)) (index : Int) (i : Imm) (R : SH) (hp : PoolSt i js nw) :
    FnS Try.prog 30 [.pointer (some ⟨p, 0, none⟩), .int .i64 index] i (A ++ (poolL p js nw ++ R)) fun v _ L' => ∃ e js', v = .int .i64 e ∧ CancelTo js nw index e js' ∧ L' = A ++ (poolL p js' nw ++ R) :=
  (FnS.ctx A (B' := fun x : Int × List (Option JobP) => poolL p x.2 nw) (φ := fun x v _ => v = .int .i64 x.1 ∧ CancelTo js nw index x.1 x.2) ((Cancel_s p nw js index i (A ++ R) hp).mono fun _ _ _ _ ⟨e, js', h1, h2, h3⟩ => ⟨(e, js'), ⟨h1, h2⟩, h3⟩)).mono fun _ _ _ _ ⟨x, ⟨h1, h2⟩, h3⟩ => ⟨x.1, x.2, h1, h2, h3⟩
/-- what ended, in its order, its ticks at zero -/
def endedC (js : List (Option JobP)) (t : Nat) : List Value := flat ((isort ((js.filterMap (fin t)).map toSJ)).map zr)
theorem TickC_s (A : SH) (p nw : Nat) (js : List (Option JobP)) (t : Nat) (ht : t ≤ 1000) (i : Imm) (R : SH) (hp : PoolSt i js nw) :
    FnS Try.prog 17 [.pointer (some ⟨p, 0, none⟩), .int .i64 t] i (A ++ (poolL p js nw ++ R)) fun v i' L' => ∃ sv, v = .tuple #[sv, .int .i64 0] ∧ Sl i' sv 14 (js.filterMap (fin t)).length (endedC js t) ∧ L' = A ++ (poolL p (js.map (tick1 t)) nw ++ R) := by
  refine (FnS.ctx A (B := poolL p js nw) (R := R) (B' := fun _ : Value => poolL p (js.map (tick1 t)) nw) (φ := fun sv v i' => v = .tuple #[sv, .int .i64 0] ∧ Sl i' sv 14 (js.filterMap (fin t)).length (endedC js t)) ?_).mono fun _ _ _ _ ⟨x, ⟨h1, h2⟩, h3⟩ => ⟨x, h1, h2, h3⟩
  refine FnS.state (TickG_s p nw js t ht i (A ++ R) hp) ?_
  rintro v i' L' w _ hs ⟨sv, O, rfl, hO, rfl⟩
  obtain ⟨i2, h3, h4, h5⟩ := SlO.freeze hO hs
  exact ⟨i2, _, h3, h4, sv, ⟨rfl, h5⟩, rfl⟩
theorem JobsC_s (A : SH) (p nw : Nat) (js : List (Option JobP)) (i : Imm) (R : SH) (hp : PoolSt i js nw) :
    FnS Try.prog 21 [.pointer (some ⟨p, 0, none⟩)] i (A ++ (poolL p js nw ++ R)) fun v i' L' => ∃ cs, Sl i' v 14 (jds js nw).length cs ∧ JL i' cs (jds js nw) ∧ L' = A ++ (poolL p js nw ++ R) :=
  (FnS.ctx A (B' := fun _ : List Value => poolL p js nw) (φ := fun cs v i' => Sl i' v 14 (jds js nw).length cs ∧ JL i' cs (jds js nw)) ((JobsF_s p nw js i (A ++ R) hp).mono fun _ _ _ _ ⟨cs, h1, h2, h3⟩ => ⟨cs, ⟨h1, h2⟩, h3⟩)).mono fun _ _ _ _ ⟨x, ⟨h1, h2⟩, h3⟩ => ⟨x, h1, h2, h3⟩
theorem RoomC_s (A : SH) (p nw : Nat) (js : List (Option JobP)) (i : Imm) (R : SH) (hp : PoolSt i js nw) :
    FnS Try.prog 20 [.pointer (some ⟨p, 0, none⟩)] i (A ++ (poolL p js nw ++ R)) fun v _ L' => v = .int .i64 ((nw : Int) - (jds js nw).length) ∧ L' = A ++ (poolL p js nw ++ R) :=
  (FnS.ctx A (B' := fun _ : Unit => poolL p js nw) (φ := fun _ v _ => v = .int .i64 ((nw : Int) - (jds js nw).length)) ((Room_s p nw js i (A ++ R) hp).mono fun _ _ _ _ ⟨h1, h2⟩ => ⟨(), h1, h2⟩)).mono fun _ _ _ _ ⟨_, h1, h2⟩ => ⟨h1, h2⟩

/-! ### how many jobs -/
def cnt (js : List (Option JobP)) : Nat := js.countP Option.isSome
theorem jds_cnt {i : Imm} {js : List (Option JobP)} {nw : Nat} (h : PoolSt i js nw) : (jds js nw).length = cnt js := by
  unfold jds cnt
  rw [List.length_filterMap_eq_countP]
  conv => rhs; rw [← List.take_append_drop nw js, List.countP_append]
  have h0 : (js.drop nw).countP Option.isSome = 0 := by
    rw [List.countP_eq_zero]
    intro o ho
    obtain ⟨k, hk⟩ := List.mem_iff_getElem?.1 ho
    rw [List.getElem?_drop] at hk
    have hl := (List.getElem?_eq_some_iff.1 hk).1
    have := h.idle (nw + k) (by omega) (by rw [← h.len]; exact hl)
    rw [this] at hk; cases hk
    decide
  rw [h0, Nat.add_zero]
  congr 1
  funext o
  cases o <;> rfl
theorem cnt_set_some {js : List (Option JobP)} {k : Nat} (x : JobP) (h : js[k]? = some none) : cnt (js.set k (some x)) = cnt js + 1 := by
  obtain ⟨A, B, rfl, rfl, h3⟩ := split_at h
  unfold cnt
  rw [h3]
  simp [List.countP_append]
  omega
theorem cnt_set_none {js : List (Option JobP)} {k : Nat} {x : JobP} (h : js[k]? = some (some x)) : cnt (js.set k none) + 1 = cnt js := by
  obtain ⟨A, B, rfl, rfl, h3⟩ := split_at h
  unfold cnt
  rw [h3]
  simp [List.countP_append]
  omega
theorem cnt_tick (t : Int) : ∀ js : List (Option JobP), (js.filterMap (fin t)).length + cnt (js.map (tick1 t)) = cnt js
  | [] => rfl
  | none :: js => by
    have ih := cnt_tick t js
    unfold cnt at ih ⊢
    simp only [List.map_cons, List.filterMap_cons, fin, tick1, List.countP_cons]
    simpa using ih
  | some x :: js => by
    have ih := cnt_tick t js
    unfold cnt at ih ⊢
    by_cases hx : x.jd.left ≤ t
    · rw [List.filterMap_cons_some (b := x) (by exact if_pos hx), List.map_cons, show tick1 t (some x) = none from if_pos hx]
      simp only [List.countP_cons, List.length_cons, Option.isSome_some, Option.isSome_none, if_true, Bool.false_eq_true, if_false]
      omega
    · rw [List.filterMap_cons_none (by exact if_neg hx), List.map_cons, show tick1 t (some x) = _ from if_neg hx]
      simp only [List.countP_cons, Option.isSome_some, if_true]
      omega
theorem GiveTo.cnt {js js' : List (Option JobP)} {nw : Nat} {index ticks e : Int} {r : Rec} {i : Imm} (h : GiveTo js nw index ticks r i e js') : (e = 0 ∧ cnt js' = cnt js + 1) ∨ (e ≠ 0 ∧ js' = js) := by
  cases h with
  | low _ => exact .inr ⟨by decide, rfl⟩
  | taken _ _ => exact .inr ⟨by decide, rfl⟩
  | full _ _ _ => exact .inr ⟨by decide, rfl⟩
  | ok k x _ _ _ h4 _ _ _ => exact .inl ⟨rfl, cnt_set_some x h4⟩
theorem CancelTo.at {js : List (Option JobP)} {nw k : Nat} {index : Int} (h : fidx (isIdx index) (js.take nw) = k) : ∃ x, js[k]? = some (some x) ∧ x.jd.index = index := by
  obtain ⟨k', y, h1, h2, h3, _⟩ := fidx_pos (p := isIdx index) (l := js.take nw) (by omega)
  have : k' = k := by omega
  subst this
  rw [List.getElem?_take] at h2
  split at h2
  · cases y with
    | none => cases h3
    | some x => exact ⟨x, h2, by simpa [isIdx] using h3⟩
  · cases h2
theorem CancelTo.cnt {js js' : List (Option JobP)} {nw : Nat} {index e : Int} (h : CancelTo js nw index e js') : (e = 0 ∧ cnt js' + 1 = cnt js) ∨ (e ≠ 0 ∧ js' = js) := by
  cases h with
  | none _ => exact .inr ⟨by decide, rfl⟩
  | ok k h1 h2 =>
    obtain ⟨x, hx, _⟩ := CancelTo.at h1
    exact .inl ⟨rfl, cnt_set_none hx⟩
theorem PoolSt.cancel {i : Imm} {js js' : List (Option JobP)} {nw : Nat} {index e : Int} (h : PoolSt i js nw) (hc : CancelTo js nw index e js') : PoolSt i js' nw := by
  cases hc with
  | none _ => exact h
  | ok k h1 h2 =>
    refine ⟨by rw [List.length_set]; exact h.len, h.nwpos, h.nwle, fun j hj hj8 => ?_, fun y hy => ?_⟩
    · rw [List.getElem?_set, if_neg (by omega)]; exact h.idle j hj hj8
    · rcases List.mem_or_eq_of_mem_set hy with hy | hy
      · exact h.job y hy
      · cases hy
theorem cnt_le {i : Imm} {js : List (Option JobP)} {nw : Nat} (h : PoolSt i js nw) : cnt js ≤ nw := by
  rw [← jds_cnt h]; exact jds_len js nw
/-- no job is longer than this -/
def leftLe (js : List (Option JobP)) (b : Int) : Prop := ∀ x, some x ∈ js → x.jd.left ≤ b
theorem leftLe.give {js js' : List (Option JobP)} {nw : Nat} {index ticks e b : Int} {r : Rec} {i : Imm} (hb : leftLe js b) (h1 : 1 ≤ b) (ht : ticks ≤ b) (h : GiveTo js nw index ticks r i e js') : leftLe js' b := by
  cases h with
  | low _ => exact hb
  | taken _ _ => exact hb
  | full _ _ _ => exact hb
  | ok k x _ _ _ h4 _ h6 _ =>
    intro y hy
    rcases List.mem_or_eq_of_mem_set hy with hy | hy
    · exact hb y hy
    · cases hy; rw [h6]; simp only; omega
theorem leftLe.cancel {js js' : List (Option JobP)} {nw : Nat} {index e b : Int} (hb : leftLe js b) (h : CancelTo js nw index e js') : leftLe js' b := by
  cases h with
  | none _ => exact hb
  | ok k h1 h2 =>
    intro y hy
    rcases List.mem_or_eq_of_mem_set hy with hy | hy
    · exact hb y hy
    · cases hy
theorem leftLe.tick {js : List (Option JobP)} {b : Int} {t : Int} (hb : leftLe js b) (ht : 0 ≤ t) : leftLe (js.map (tick1 t)) b := by
  intro y hy
  obtain ⟨o, ho, he⟩ := List.mem_map.1 hy
  cases o with
  | none => cases he
  | some x =>
    by_cases hx : x.jd.left ≤ t
    · rw [show tick1 t (some x) = none from if_pos hx] at he; cases he
    · rw [show tick1 t (some x) = _ from if_neg hx] at he
      cases he
      have := hb x ho
      simp only; omega
theorem cnt_allEnd {js : List (Option JobP)} {b t : Int} (hb : leftLe js b) (h : b ≤ t) : cnt (js.map (tick1 t)) = 0 := by
  unfold cnt
  rw [List.countP_eq_zero]
  intro o ho
  obtain ⟨y, hy, rfl⟩ := List.mem_map.1 ho
  cases y with
  | none => exact fun h => by cases h
  | some x =>
    have := hb x hy
    rw [show tick1 t (some x) = none from if_pos (by omega)]
    decide
end Go.Proofs.Ytmcajldlcomegaa
