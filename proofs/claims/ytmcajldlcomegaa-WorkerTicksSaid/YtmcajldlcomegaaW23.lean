/- Plain laws: what ends, the job of one's own. -/
import Derived.Test.YtmcajldlcomegaaW22
namespace Go.Proofs.Ytmcajldlcomegaa
open Go Go.Eng

theorem insAt_perm (x : SJ) (l : List SJ) (j : Nat) : (insAt x l j).Perm (x :: l) := by
  unfold insAt
  refine List.perm_middle.trans (.cons _ ?_)
  rw [List.take_append_drop]
theorem isort_perm_aux : ∀ (l acc : List SJ), (l.foldl (fun acc x => insL x acc) acc).Perm (acc ++ l)
  | [], acc => by simp
  | x :: l, acc => by
    rw [List.foldl_cons]
    refine (isort_perm_aux l _).trans ?_
    refine (List.Perm.append_right l (insAt_perm x acc _)).trans ?_
    exact List.perm_middle.symm
theorem isort_perm (l : List SJ) : (isort l).Perm l := by
  have := isort_perm_aux l []
  simpa [isort] using this
/-- the sorted row of what ends -/
def endedS (js : List (Option JobP)) (t : Nat) : List SJ := isort ((js.filterMap (fin t)).map toSJ)
theorem fin_some {t : Int} {o : Option JobP} {x : JobP} (h : fin t o = some x) : o = some x ∧ x.jd.left ≤ t := by
  cases o with
  | none => cases h
  | some y =>
    rw [show fin t (some y) = if y.jd.left ≤ t then some y else none from rfl] at h
    by_cases hy : y.jd.left ≤ t
    · rw [if_pos hy] at h; cases h; exact ⟨rfl, hy⟩
    · rw [if_neg hy] at h; cases h
theorem endedS_mem {js : List (Option JobP)} {t : Nat} {z : SJ} : z ∈ endedS js t ↔ ∃ x, some x ∈ js ∧ x.jd.left ≤ t ∧ z = toSJ x := by
  unfold endedS
  rw [(isort_perm _).mem_iff, List.mem_map]
  constructor
  · rintro ⟨x, hx, rfl⟩
    obtain ⟨o, h1, h2⟩ := List.mem_filterMap.1 hx
    obtain ⟨rfl, h3⟩ := fin_some h2
    exact ⟨x, h1, h3, rfl⟩
  · rintro ⟨x, h1, h2, rfl⟩
    exact ⟨x, List.mem_filterMap.2 ⟨some x, h1, if_pos h2⟩, rfl⟩
theorem endedS_len (js : List (Option JobP)) (t : Nat) : (endedS js t).length = (js.filterMap (fin t)).length := by
  unfold endedS; rw [isort_len, List.length_map]
theorem ended_at {i : Imm} {js : List (Option JobP)} {nw t j : Nat} {z : SJ} (hp : PoolSt i js nw) (h : (endedS js t)[j]? = some z) :
    ∃ x, some x ∈ js ∧ x.jd.left ≤ t ∧ z.1 = x.jd.index ∧ z.2.1 = x.jd.left ∧ RecV i z.2.2 x.jd.rcd ∧ x.jd.rcd.ok ∧ ∀ d u, (.int .i64 z.1 :: .int .i64 0 :: z.2.2 : List Value)[d]? = some u → (endedC js t)[j * 14 + d]? = some u := by
  obtain ⟨x, h1, h2, rfl⟩ := endedS_mem.1 (List.mem_of_getElem? h)
  obtain ⟨⟨rc, h3, h4⟩, h5, _⟩ := hp.job x h1
  have hok : sjOk ((endedS js t).map zr) := by
    unfold endedS
    rw [← zk_end]
    refine zk_ok (isort_ok (jcs_flat (i := i) fun y hy => ?_).2) _
    obtain ⟨o, g1, g2⟩ := List.mem_filterMap.1 hy
    obtain ⟨rfl, _⟩ := fin_some g2
    exact (hp.job y g1).1
  refine ⟨x, h1, h2, rfl, rfl, ?_, h5, fun d u hu => ?_⟩
  · simp only [toSJ, h3]
    exact h4
  · have hz : ((endedS js t).map zr)[j]? = some (zr (toSJ x)) := by rw [List.getElem?_map, h]; rfl
    have := flat_at [] hz hok d u hu
    rw [List.append_nil, Nat.zero_add, Int.toNat_natCast] at this
    exact this

/-! ### small indices; one's own -/
def idxLe (js : List (Option JobP)) : Prop := ∀ x, some x ∈ js → x.jd.index ≤ 5
theorem idxLe.give {js js' : List (Option JobP)} {nw : Nat} {index ticks e : Int} {r : Rec} {i : Imm} (hb : idxLe js) (h1 : index ≤ 5) (h : GiveTo js nw index ticks r i e js') : idxLe js' := by
  cases h with
  | low _ => exact hb
  | taken _ _ => exact hb
  | full _ _ _ => exact hb
  | ok k x _ _ _ h4 _ h6 _ =>
    intro y hy
    rcases List.mem_or_eq_of_mem_set hy with hy | hy
    · exact hb y hy
    · cases hy; rw [h6]; exact h1
theorem idxLe.cancel {js js' : List (Option JobP)} {nw : Nat} {index e : Int} (hb : idxLe js) (h : CancelTo js nw index e js') : idxLe js' := by
  cases h with
  | none _ => exact hb
  | ok k h1 h2 =>
    intro y hy
    rcases List.mem_or_eq_of_mem_set hy with hy | hy
    · exact hb y hy
    · cases hy
theorem tick1_some {t : Int} {o : Option JobP} {y : JobP} (h : tick1 t o = some y) : ∃ x, o = some x ∧ t < x.jd.left ∧ y.b = x.b ∧ y.jd = ⟨x.jd.index, x.jd.left - t, x.jd.rcd⟩ := by
  cases o with
  | none => cases h
  | some x =>
    by_cases hx : x.jd.left ≤ t
    · rw [show tick1 t (some x) = none from if_pos hx] at h; cases h
    · rw [show tick1 t (some x) = _ from if_neg hx] at h
      cases h
      exact ⟨x, rfl, by omega, rfl, rfl⟩
theorem idxLe.tick {js : List (Option JobP)} {t : Int} (hb : idxLe js) : idxLe (js.map (tick1 t)) := by
  intro y hy
  obtain ⟨o, ho, he⟩ := List.mem_map.1 hy
  obtain ⟨x, rfl, _, _, h⟩ := tick1_some he
  rw [h]; exact hb x ho
def Own (js : List (Option JobP)) (nw : Nat) (left : Int) (r : Rec) : Prop :=
  ∃ k x, k < nw ∧ js[k]? = some (some x) ∧ x.jd = ⟨50, left, r⟩ ∧ ∀ j y, j ≠ k → js[j]? = some (some y) → y.jd.index ≤ 5
theorem Own.give {js js' : List (Option JobP)} {nw : Nat} {left index ticks e : Int} {r q : Rec} {i : Imm} (ho : Own js nw left r) (h1 : index ≤ 5) (h : GiveTo js nw index ticks q i e js') : Own js' nw left r := by
  obtain ⟨k, x, hk, hx, hj, hb⟩ := ho
  cases h with
  | low _ => exact ⟨k, x, hk, hx, hj, hb⟩
  | taken _ _ => exact ⟨k, x, hk, hx, hj, hb⟩
  | full _ _ _ => exact ⟨k, x, hk, hx, hj, hb⟩
  | ok m z _ _ _ h4 _ h6 _ =>
    have hne : m ≠ k := by rintro rfl; rw [h4] at hx; cases hx
    refine ⟨k, x, hk, by rw [List.getElem?_set, if_neg hne]; exact hx, hj, fun j y hjk hy => ?_⟩
    rw [List.getElem?_set] at hy
    split at hy
    · split at hy
      · cases hy; rw [h6]; exact h1
      · cases hy
    · exact hb j y hjk hy
theorem Own.cancel {js js' : List (Option JobP)} {nw : Nat} {left index e : Int} {r : Rec} (ho : Own js nw left r) (h1 : index ≤ 5) (h : CancelTo js nw index e js') : Own js' nw left r := by
  obtain ⟨k, x, hk, hx, hj, hb⟩ := ho
  cases h with
  | none _ => exact ⟨k, x, hk, hx, hj, hb⟩
  | ok m h2 h3 =>
    obtain ⟨z, hz, hzi⟩ := CancelTo.at h2
    have hne : m ≠ k := by
      rintro rfl
      rw [hz] at hx; cases hx
      rw [hj] at hzi; simp only at hzi; omega
    refine ⟨k, x, hk, by rw [List.getElem?_set, if_neg hne]; exact hx, hj, fun j y hjk hy => ?_⟩
    rw [List.getElem?_set] at hy
    split at hy
    · split at hy
      · cases hy
      · cases hy
    · exact hb j y hjk hy
theorem Own.stay {js : List (Option JobP)} {nw : Nat} {left t : Int} {r : Rec} (ho : Own js nw left r) (ht : t < left) : Own (js.map (tick1 t)) nw (left - t) r := by
  obtain ⟨k, x, hk, hx, hj, hb⟩ := ho
  have hl : x.jd.left = left := by rw [hj]
  refine ⟨k, _, hk, by rw [List.getElem?_map, hx]; exact congrArg some (if_neg (by omega)), ?_, fun j y hjk hy => ?_⟩
  · rw [hj]
  · rw [List.getElem?_map] at hy
    obtain ⟨o, ho, he⟩ := Option.map_eq_some_iff.1 hy
    obtain ⟨z, rfl, _, _, h⟩ := tick1_some he
    rw [h]; exact hb j z hjk ho
theorem Own.goes {js : List (Option JobP)} {nw : Nat} {left t : Int} {r : Rec} (ho : Own js nw left r) (ht : left ≤ t) : idxLe (js.map (tick1 t)) := by
  obtain ⟨k, x, hk, hx, hj, hb⟩ := ho
  have hl : x.jd.left = left := by rw [hj]
  intro y hy
  obtain ⟨j, hy⟩ := List.mem_iff_getElem?.1 hy
  rw [List.getElem?_map] at hy
  obtain ⟨o, ho, he⟩ := Option.map_eq_some_iff.1 hy
  obtain ⟨z, rfl, hz, _, h⟩ := tick1_some he
  rw [h]
  by_cases hjk : j = k
  · subst hjk
    rw [hx] at ho; cases ho; omega
  · exact hb j z hjk ho
/-- of what is there, fifty is one's own -/
theorem Own.mem {js : List (Option JobP)} {nw : Nat} {left : Int} {r : Rec} (ho : Own js nw left r) : (∃ x, some x ∈ js ∧ x.jd.index = 50 ∧ x.jd.left = left) ∧ ∀ y, some y ∈ js → y.jd.index = 50 → y.jd.left = left ∧ y.jd.rcd = r := by
  obtain ⟨k, x, hk, hx, hj, hb⟩ := ho
  refine ⟨⟨x, List.mem_of_getElem? hx, by rw [hj], by rw [hj]⟩, fun y hy h50 => ?_⟩
  obtain ⟨j, hy⟩ := List.mem_iff_getElem?.1 hy
  by_cases hjk : j = k
  · subst hjk
    rw [hx] at hy; cases hy
    rw [hj]; exact ⟨rfl, rfl⟩
  · have := hb j y hjk hy; omega
theorem own_new {i i' : Imm} {js js' : List (Option JobP)} {nw : Nat} {ticks e : Int} {r : Rec} (hp : PoolSt i js nw) (hb : idxLe js) (hc : cnt js < nw) (h : GiveTo js nw 50 ticks r i' e js') : e = 0 ∧ Own js' nw (min (max ticks 1) 16000) r := by
  cases h with
  | low h => omega
  | taken _ h =>
    obtain ⟨k, y, _, hy, hp2, _⟩ := fidx_pos h
    cases y with
    | none => cases hp2
    | some x =>
      have h1 := hb x (List.mem_of_mem_take (List.mem_of_getElem? hy))
      have h2 : x.jd.index = 50 := by simpa [isIdx] using hp2
      omega
  | full _ _ h =>
    have : (jds js nw).length = nw := by
      unfold jds
      rw [List.length_filterMap_eq_countP]
      have hall : ∀ o ∈ js.take nw, (o.map fun x : JobP => x.jd).isSome = true := fun o ho => by
        cases o with
        | some x => rfl
        | none =>
          exfalso
          obtain ⟨j, hj⟩ := List.mem_iff_getElem?.1 ho
          unfold fidx at h
          cases hf : (js.take nw).findIdx? Option.isNone with
          | none =>
            rw [List.findIdx?_eq_none_iff] at hf
            exact absurd (hf none ho) (by decide)
          | some k => rw [hf] at h; simp only at h; omega
      rw [List.countP_eq_length.2 hall, List.length_take, hp.len]
      have := hp.nwle; omega
    rw [jds_cnt hp] at this
    omega
  | ok k x _ _ _ h4 h5 h6 _ =>
    refine ⟨rfl, k, x, h5, by rw [List.getElem?_set, if_pos rfl, if_pos (List.getElem?_eq_some_iff.1 h4).1], h6, fun j y hjk hy => ?_⟩
    rw [List.getElem?_set, if_neg (Ne.symm hjk)] at hy
    exact hb y (List.mem_of_getElem? hy)
theorem none_of_idxLe {js : List (Option JobP)} {nw : Nat} {index e : Int} {js' : List (Option JobP)} (hb : idxLe js) (h5 : 5 < index) (h : CancelTo js nw index e js') : e = 294 ∧ js' = js := by
  cases h with
  | none _ => exact ⟨rfl, rfl⟩
  | ok k h1 h2 =>
    obtain ⟨x, hx, hi⟩ := CancelTo.at h1
    have := hb x (List.mem_of_getElem? hx)
    omega
end Go.Proofs.Ytmcajldlcomegaa
