/- WorkerOrder: the pool into which jobs are given one after the other. -/
import Derived.Test.YtmcajldlcomegaaW12
import Derived.Test.YtmcajldlcomegaaEng9
namespace Go.Proofs.Ytmcajldlcomegaa
open Go Go.Eng

def JX (xs : List JobP) : List (Option JobP) := xs.map some ++ List.replicate (8 - xs.length) none
def Idx (xs : List JobP) : Prop := ∀ (k : Nat) (x : JobP), xs[k]? = some x → x.jd.index = k + 1 ∧ 1 ≤ x.jd.left ∧ x.jd.left ≤ 4
theorem JX_len {xs : List JobP} (h : xs.length ≤ 8) : (JX xs).length = 8 := by simp [JX]; omega
theorem JX_take {xs : List JobP} (h : xs.length ≤ 8) : (JX xs).take 8 = JX xs := List.take_of_length_le (by rw [JX_len h]; omega)
theorem JX_free {xs : List JobP} (h : xs.length < 8) : (JX xs)[xs.length]? = some none := by
  unfold JX
  rw [List.getElem?_append_right (by simp)]
  simp only [List.length_map, Nat.sub_self, List.getElem?_replicate]
  rw [if_pos (by omega)]
theorem JX_set {xs : List JobP} (x : JobP) (h : xs.length < 8) : (JX xs).set xs.length (some x) = JX (xs ++ [x]) := by
  unfold JX
  obtain ⟨m, hm⟩ : ∃ m, 8 - xs.length = m + 1 := ⟨7 - xs.length, by omega⟩
  have hm' : 8 - (xs ++ [x]).length = m := by simp; omega
  rw [hm, hm', List.replicate_succ, List.set_append_right _ _ (by simp)]
  simp
theorem Idx_snoc {xs : List JobP} {x : JobP} (h : Idx xs) (h1 : x.jd.index = xs.length + 1) (h2 : 1 ≤ x.jd.left ∧ x.jd.left ≤ 4) : Idx (xs ++ [x]) := by
  intro k y hy
  rcases Nat.lt_or_ge k xs.length with hk | hk
  · rw [List.getElem?_append_left hk] at hy
    exact h k y hy
  · rw [List.getElem?_append_right hk] at hy
    have hk0 : k - xs.length = 0 := by
      have := (List.getElem?_eq_some_iff.1 hy).1
      simp at this; omega
    rw [hk0] at hy
    cases hy
    have : k = xs.length := by omega
    subst this
    exact ⟨h1, h2⟩
theorem give_next {xs : List JobP} {index ticks : Int} {r : Rec} {i : Imm} {e : Int} {js' : List (Option JobP)} (hx : Idx xs) (hl : xs.length < 8) (hi : index = xs.length + 1) (ht : 1 ≤ ticks ∧ ticks ≤ 4) (h : GiveTo (JX xs) 8 index ticks r i e js') :
    e = 0 ∧ ∃ x, js' = JX (xs ++ [x]) ∧ x.jd = ⟨index, ticks, r⟩ := by
  have hF : fidx Option.isNone ((JX xs).take 8) = xs.length := by
    rw [JX_take (by omega)]
    refine fidx_at (JX_free hl) rfl fun j y hj hy => ?_
    unfold JX at hy
    rw [List.getElem?_append_left (by simpa using hj), List.getElem?_map] at hy
    obtain ⟨z, _, rfl⟩ := Option.map_eq_some_iff.1 hy
    rfl
  have hD : fidx (isIdx index) ((JX xs).take 8) < 0 := by
    refine Int.not_le.1 fun h0 => ?_
    obtain ⟨k, y, _, hy, hp, _⟩ := fidx_pos h0
    rw [JX_take (by omega)] at hy
    cases y with
    | none => cases hp
    | some z =>
      unfold JX at hy
      rcases Nat.lt_or_ge k xs.length with hk | hk
      · rw [List.getElem?_append_left (by simpa using hk), List.getElem?_map] at hy
        obtain ⟨z', hz, hzz⟩ := Option.map_eq_some_iff.1 hy
        cases hzz
        have := (hx k z hz).1
        have hp' : z.jd.index = index := by simpa [isIdx] using hp
        omega
      · rw [List.getElem?_append_right (by simpa using hk), List.getElem?_replicate] at hy
        split at hy <;> cases hy
  cases h with
  | low h => omega
  | taken _ h => omega
  | full _ _ h => omega
  | ok k x _ _ h3 _ _ h6 _ =>
    have : k = xs.length := by omega
    subst this
    refine ⟨rfl, x, JX_set x hl, ?_⟩
    rw [h6, show min (max ticks 1) 16000 = ticks by omega]
/-- the map of the ticks -/
def esOf (xs : List JobP) : List ME := xs.map fun x => (x.jd.index, .int .i64 x.jd.left, (x.jd.index - 1).toNat)
theorem findI_map (a : Int) : ∀ (xs : List JobP) (b : Nat) (k : Nat) (x : JobP), (∀ (j : Nat) (y : JobP), xs[j]? = some y → y.jd.index = b + j + 1) → xs[k]? = some x → a = x.jd.index → ∃ j, ∀ n, findI a (esOf xs) n = some (n + j, .int .i64 x.jd.left)
  | [], _, _, _, _, h, _ => by cases h
  | y :: xs, b, 0, x, hi, h, ha => by
    cases h
    exact ⟨0, fun n => by simp [esOf, findI, ha]⟩
  | y :: xs, b, k + 1, x, hi, h, ha => by
    have h' : xs[k]? = some x := by simpa using h
    obtain ⟨j, hj⟩ := findI_map a xs (b + 1) k x (fun j y hy => by have := hi (j + 1) y (by simpa using hy); omega) h' ha
    have hy := hi 0 y rfl
    have hx := hi (k + 1) x h
    refine ⟨j + 1, fun n => ?_⟩
    have hj' := hj (n + 1)
    unfold esOf at hj' ⊢
    rw [List.map_cons, findI, if_neg (by simp only; omega), hj']
    congr 2; omega
theorem findI_none {a : Int} : ∀ {xs : List JobP} (n : Nat), (∀ x ∈ xs, a ≠ x.jd.index) → findI a (esOf xs) n = none
  | [], _, _ => rfl
  | y :: xs, n, h => by
    have ih := findI_none (a := a) (xs := xs) (n + 1) fun x hx => h x (List.mem_cons_of_mem _ hx)
    unfold esOf at ih ⊢
    rw [List.map_cons, findI, if_neg (h y (List.mem_cons_self ..)), ih]
end Go.Proofs.Ytmcajldlcomegaa
