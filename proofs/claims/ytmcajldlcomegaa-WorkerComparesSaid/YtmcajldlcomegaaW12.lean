/- Plain law: the sort leaves the jobs in the order of their ticks, then of their indices. -/
import Derived.Test.YtmcajldlcomegaaW11
namespace Go.Proofs.Ytmcajldlcomegaa
open Go Go.Eng

def lexR (x y : SJ) : Prop := x.2.1 < y.2.1 ∨ (x.2.1 = y.2.1 ∧ x.1 < y.1)
theorem bub_spec (x : SJ) (l : List SJ) : ∀ j, j ≤ l.length → bub x l j ≤ j ∧ (∀ i, bub x l j ≤ i → i < j → ∀ y, l[i]? = some y → x.2.1 < y.2.1) ∧ (bub x l j = 0 ∨ ∃ y, l[bub x l j - 1]? = some y ∧ ¬ x.2.1 < y.2.1)
  | 0, _ => ⟨Nat.le_refl _, fun i _ h => absurd h (Nat.not_lt_zero i), .inl rfl⟩
  | j + 1, h => by
    obtain ⟨y, hy⟩ : ∃ y, l[j]? = some y := ⟨_, List.getElem?_eq_getElem (by omega)⟩
    obtain ⟨h1, h2, h3⟩ := bub_spec x l j (by omega)
    have e : bub x l (j + 1) = if x.2.1 < y.2.1 then bub x l j else j + 1 := by
      show (match l[j]? with | some y => if x.2.1 < y.2.1 then bub x l j else j + 1 | none => j + 1) = _
      rw [hy]
    by_cases hlt : x.2.1 < y.2.1
    · rw [if_pos hlt] at e
      rw [e]
      refine ⟨by omega, fun i hi hij z hz => ?_, h3⟩
      rcases Nat.lt_succ_iff_lt_or_eq.1 hij with hl | rfl
      · exact h2 i hi hl z hz
      · rw [hy] at hz; cases hz; exact hlt
    · rw [if_neg hlt] at e
      rw [e]
      exact ⟨Nat.le_refl _, fun i hi hij => absurd hij (by omega), .inr ⟨y, hy, hlt⟩⟩
theorem insL_sorted {x : SJ} {l : List SJ} (hs : l.Pairwise lexR) (hi : ∀ y ∈ l, y.1 < x.1) : (insL x l).Pairwise lexR := by
  obtain ⟨h1, h2, h3⟩ := bub_spec x l l.length (Nat.le_refl _)
  unfold insL insAt
  revert h1 h2 h3
  generalize bub x l l.length = p
  intro h1 h2 h3
  have hs' := hs
  rw [← List.take_append_drop p l, List.pairwise_append] at hs
  obtain ⟨s1, s2, s3⟩ := hs
  rw [List.pairwise_append]
  refine ⟨s1, List.pairwise_cons.2 ⟨fun b hb => ?_, s2⟩, fun a ha b hb => ?_⟩
  · obtain ⟨i, hb⟩ := List.mem_iff_getElem?.1 hb
    rw [List.getElem?_drop] at hb
    exact .inl (h2 (p + i) (by omega) (List.getElem?_eq_some_iff.1 hb).1 b hb)
  · rcases List.mem_cons.1 hb with rfl | hb
    · have hal : a.1 < b.1 := hi a (List.mem_of_mem_take ha)
      obtain ⟨i, hai⟩ := List.mem_iff_getElem?.1 ha
      have hip : i < p := by have := (List.getElem?_eq_some_iff.1 hai).1; simp at this; omega
      rw [List.getElem?_take, if_pos hip] at hai
      rcases h3 with h3 | ⟨y, hy, hny⟩
      · omega
      · have hay : a.2.1 ≤ y.2.1 := by
          rcases Nat.lt_or_ge i (p - 1) with hlt | hge
          · obtain ⟨g1, g2⟩ := List.getElem?_eq_some_iff.1 hai
            obtain ⟨g3, g4⟩ := List.getElem?_eq_some_iff.1 hy
            have := List.pairwise_iff_getElem.1 hs' i (p - 1) g1 g3 hlt
            rw [g2, g4] at this
            rcases this with h | h <;> omega
          · have : i = p - 1 := by omega
            rw [this, hy] at hai
            cases hai
            omega
        unfold lexR
        omega
    · exact s3 a ha b hb
theorem isort_sorted_aux : ∀ (l acc : List SJ), acc.Pairwise lexR → (acc ++ l).Pairwise (fun x y => x.1 < y.1) ∨ (∀ x ∈ acc, ∀ y ∈ l, x.1 < y.1) ∧ l.Pairwise (fun x y => x.1 < y.1) → (l.foldl (fun acc x => insL x acc) acc).Pairwise lexR
  | [], acc, h, _ => h
  | x :: l, acc, h, hx => by
    have hx' : (∀ a ∈ acc, ∀ y ∈ x :: l, a.1 < y.1) ∧ (x :: l).Pairwise (fun x y => x.1 < y.1) := by
      rcases hx with hx | hx
      · obtain ⟨_, h2, h3⟩ := List.pairwise_append.1 hx
        exact ⟨h3, h2⟩
      · exact hx
    obtain ⟨h1, h2⟩ := hx'
    obtain ⟨h3, h4⟩ := List.pairwise_cons.1 h2
    rw [List.foldl_cons]
    refine isort_sorted_aux l _ (insL_sorted h fun y hy => h1 y hy x (List.mem_cons_self ..)) (.inr ⟨fun a ha y hy => ?_, h4⟩)
    rcases insAt_mem ha with rfl | ha
    · exact h3 y hy
    · exact h1 a ha y (List.mem_cons_of_mem _ hy)
theorem isort_sorted {l : List SJ} (h : l.Pairwise (fun x y => x.1 < y.1)) : (isort l).Pairwise lexR :=
  isort_sorted_aux l [] .nil (.inl (by simpa using h))
theorem isort_mem {l : List SJ} {y : SJ} (h : y ∈ isort l) : y ∈ l := by
  rcases isort_mem_aux l [] y h with h' | h'
  · cases h'
  · exact h'
end Go.Proofs.Ytmcajldlcomegaa
