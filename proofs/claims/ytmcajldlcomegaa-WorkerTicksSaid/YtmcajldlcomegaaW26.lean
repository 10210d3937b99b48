/- Plain law: what ends in the pool, sorted, is what ends tick by tick in the reference's pool. -/
import Derived.Test.YtmcajldlcomegaaW25
namespace Go.Proofs.Ytmcajldlcomegaa
open Go Go.Eng

def endAt (m : Int) : Option JobD → Option JobD
  | some j => if j.left = m then some ⟨j.index, 0, j.rcd⟩ else none
  | none => none
def tkD (t : Int) : Option JobD → Option JobD
  | some j => if j.left ≤ t then none else some ⟨j.index, j.left - t, j.rcd⟩
  | none => none
/-- what ends in t ticks, in its order -/
def outs (l : List (Option JobD)) (t : Nat) : List JobD := (List.range t).flatMap fun (m : Nat) => l.filterMap (endAt ((m : Int) + 1))
theorem outs_succ (l : List (Option JobD)) (t : Nat) : outs l (t + 1) = outs l t ++ l.filterMap (endAt ((t : Int) + 1)) := by
  unfold outs
  rw [List.range_succ, List.flatMap_append]
  simp
def endJ (x : JobP) : JobD := ⟨x.jd.index, 0, x.jd.rcd⟩
def grp (t : Nat) (D : List JobP) : List JobP := (List.range t).flatMap fun (m : Nat) => D.filter fun x => decide (x.jd.left = (m : Int) + 1)
theorem bub_split (x : SJ) (A B : List SJ) (hA : ∀ a ∈ A, ¬ x.2.1 < a.2.1) (hB : ∀ b ∈ B, x.2.1 < b.2.1) : ∀ n, n ≤ B.length → bub x (A ++ B) (A.length + n) = A.length
  | 0, _ => by
    rw [Nat.add_zero]
    cases hl : A.length with
    | zero => rfl
    | succ a =>
      have ha : (A ++ B)[a]? = some A[a] := by rw [List.getElem?_append_left (by omega)]; exact List.getElem?_eq_getElem (by omega)
      show (match (A ++ B)[a]? with | some y => if x.2.1 < y.2.1 then bub x (A ++ B) a else a + 1 | none => a + 1) = a + 1
      rw [ha]
      exact if_neg (hA _ (List.getElem_mem _))
  | n + 1, h => by
    have hb : (A ++ B)[A.length + n]? = some B[n] := by rw [List.getElem?_append_right (by omega), Nat.add_sub_cancel_left]; exact List.getElem?_eq_getElem (by omega)
    show (match (A ++ B)[A.length + n]? with | some y => if x.2.1 < y.2.1 then bub x (A ++ B) (A.length + n) else A.length + n + 1 | none => A.length + n + 1) = A.length
    rw [hb]
    simp only
    rw [if_pos (hB _ (List.getElem_mem _))]
    exact bub_split x A B hA hB n (by omega)
theorem insL_split (x : SJ) (A B : List SJ) (hA : ∀ a ∈ A, ¬ x.2.1 < a.2.1) (hB : ∀ b ∈ B, x.2.1 < b.2.1) : insL x (A ++ B) = A ++ x :: B := by
  have h := bub_split x A B hA hB B.length (Nat.le_refl _)
  unfold insL
  rw [List.length_append, h]
  unfold insAt
  rw [List.take_left, List.drop_left]
theorem grp_mem {t : Nat} {D : List JobP} {x : JobP} (h : x ∈ grp t D) : x ∈ D := by
  obtain ⟨m, _, hx⟩ := List.mem_flatMap.1 h
  exact (List.mem_filter.1 hx).1
theorem range_split {t m : Nat} (h : m < t) : List.range t = List.range m ++ m :: (List.range (t - m - 1)).map (fun k => m + 1 + k) := by
  have : t = m + (1 + (t - m - 1)) := by omega
  conv => lhs; rw [this, List.range_add, List.range_add]
  simp [Nat.add_assoc]
theorem isort_grp (t : Nat) : ∀ (n : Nat) (D : List JobP), D.length = n → (∀ x ∈ D, 1 ≤ x.jd.left ∧ x.jd.left ≤ t) → isort (D.map toSJ) = (grp t D).map toSJ
  | 0, D, hl, _ => by
    have : D = [] := List.eq_nil_of_length_eq_zero hl
    subst this
    have : grp t [] = [] := by simp [grp]
    rw [this]; rfl
  | n + 1, D, hl, h => by
    obtain ⟨E, x, rfl⟩ : ∃ E x, D = E ++ [x] := ⟨D.dropLast, D.getLast (by intro e; rw [e] at hl; cases hl), (List.dropLast_concat_getLast _).symm⟩
    have ih := isort_grp t n E (by simpa using hl) fun y hy => h y (List.mem_append_left _ hy)
    obtain ⟨h1, h2⟩ := h x (List.mem_append_right _ (List.mem_singleton.2 rfl))
    rw [List.map_append, List.map_cons, List.map_nil, isort_snoc, ih]
    obtain ⟨m, hm⟩ : ∃ m : Nat, x.jd.left = (m : Int) + 1 := ⟨(x.jd.left - 1).toNat, by omega⟩
    have hmt : m < t := by omega
    have e1 : ∀ D' : List JobP, grp t D' = (((List.range m).flatMap fun (k : Nat) => D'.filter fun x => decide (x.jd.left = (k : Int) + 1)) ++ (D'.filter fun x => decide (x.jd.left = (m : Int) + 1))) ++ (((List.range (t - m - 1)).map (fun k => m + 1 + k)).flatMap fun (k : Nat) => D'.filter fun x => decide (x.jd.left = (k : Int) + 1)) := by
      intro D'
      unfold grp
      rw [range_split hmt, List.flatMap_append, List.flatMap_cons, List.append_assoc]
    have ne : ∀ k : Nat, k ≠ m → ((E ++ [x]).filter fun x => decide (x.jd.left = (k : Int) + 1)) = E.filter fun x => decide (x.jd.left = (k : Int) + 1) := by
      intro k hk
      rw [List.filter_append]
      have : ([x].filter fun x => decide (x.jd.left = (k : Int) + 1)) = [] := by
        simp only [List.filter_cons, List.filter_nil]
        rw [if_neg]
        simp only [decide_eq_true_eq]
        omega
      rw [this, List.append_nil]
    have e2 : ((List.range m).flatMap fun (k : Nat) => (E ++ [x]).filter fun x => decide (x.jd.left = (k : Int) + 1)) = (List.range m).flatMap fun (k : Nat) => E.filter fun x => decide (x.jd.left = (k : Int) + 1) := by
      simp only [List.flatMap_def]
      congr 1
      exact List.map_congr_left fun (k : Nat) hk => ne k (by have := List.mem_range.1 hk; omega)
    have e3 : (((List.range (t - m - 1)).map (fun k => m + 1 + k)).flatMap fun (k : Nat) => (E ++ [x]).filter fun x => decide (x.jd.left = (k : Int) + 1)) = ((List.range (t - m - 1)).map (fun k => m + 1 + k)).flatMap fun (k : Nat) => E.filter fun x => decide (x.jd.left = (k : Int) + 1) := by
      simp only [List.flatMap_def]
      congr 1
      exact List.map_congr_left fun (k : Nat) hk => ne k (by obtain ⟨q, _, rfl⟩ := List.mem_map.1 hk; omega)
    have e4 : ((E ++ [x]).filter fun x => decide (x.jd.left = (m : Int) + 1)) = (E.filter fun x => decide (x.jd.left = (m : Int) + 1)) ++ [x] := by
      rw [List.filter_append]
      congr 1
      simp only [List.filter_cons, List.filter_nil]
      rw [if_pos]
      simpa using hm
    rw [e1 E, e1 (E ++ [x]), e2, e3, e4, List.map_append]
    rw [insL_split]
    · simp
    · intro a ha
      obtain ⟨y, hy, rfl⟩ := List.mem_map.1 ha
      simp only [toSJ]
      rcases List.mem_append.1 hy with hy | hy
      · obtain ⟨k, hk, hy⟩ := List.mem_flatMap.1 hy
        have := of_decide_eq_true (List.mem_filter.1 hy).2
        have := List.mem_range.1 hk
        omega
      · have := of_decide_eq_true (List.mem_filter.1 hy).2
        omega
    · intro a ha
      obtain ⟨y, hy, rfl⟩ := List.mem_map.1 ha
      simp only [toSJ]
      obtain ⟨k, hk, hy⟩ := List.mem_flatMap.1 hy
      have := of_decide_eq_true (List.mem_filter.1 hy).2
      obtain ⟨q, _, rfl⟩ := List.mem_map.1 hk
      omega
theorem flatMap_congr' {α β : Type} {l : List α} {f g : α → List β} (h : ∀ a ∈ l, f a = g a) : l.flatMap f = l.flatMap g := by
  simp only [List.flatMap_def]
  congr 1
  exact List.map_congr_left h
theorem grp_end (t m : Nat) (hm : m < t) : ∀ js : List (Option JobP), ((js.filterMap (fin t)).filter fun x => decide (x.jd.left = (m : Int) + 1)).map endJ = (js.map fun o => o.map fun x => x.jd).filterMap (endAt ((m : Int) + 1))
  | [] => rfl
  | none :: js => by
    have ih := grp_end t m hm js
    rw [List.filterMap_cons_none rfl, List.map_cons, List.filterMap_cons_none rfl]
    exact ih
  | some x :: js => by
    have ih := grp_end t m hm js
    by_cases h : x.jd.left = (m : Int) + 1
    · rw [List.filterMap_cons_some (b := x) (by exact if_pos (by omega)), List.filter_cons, if_pos (by simpa using h), List.map_cons, ih, List.map_cons, List.filterMap_cons_some (b := endJ x)]
      exact if_pos h
    · rw [List.map_cons, show (Option.map (fun x : JobP => x.jd) (some x)) = some x.jd from rfl, List.filterMap_cons_none (show endAt ((m : Int) + 1) (some x.jd) = none from if_neg h), ← ih]
      by_cases hx : x.jd.left ≤ t
      · rw [List.filterMap_cons_some (b := x) (by exact if_pos hx), List.filter_cons, if_neg (by simpa using h)]
      · rw [List.filterMap_cons_none (by exact if_neg hx)]
theorem ods_js {i : Imm} {js : List (Option JobP)} {nw : Nat} (hp : PoolSt i js nw) : (js.map fun o => o.map fun x => x.jd) = ods js nw ++ List.replicate (8 - nw) none := by
  unfold ods
  conv => lhs; rw [← List.take_append_drop nw js, List.map_append]
  congr 1
  apply List.ext_getElem?
  intro k
  rw [List.getElem?_map, List.getElem?_drop, List.getElem?_replicate]
  by_cases hk : k < 8 - nw
  · rw [if_pos hk, hp.idle (nw + k) (by omega) (by omega)]; rfl
  · rw [if_neg hk, List.getElem?_eq_none (by have := hp.len; omega)]; rfl
theorem grp_outs {i : Imm} {js : List (Option JobP)} {nw : Nat} (hp : PoolSt i js nw) (t : Nat) : (grp t (js.filterMap (fin t))).map endJ = outs (ods js nw) t := by
  unfold grp outs
  rw [List.map_flatMap]
  refine flatMap_congr' fun (m : Nat) hm => ?_
  rw [grp_end t m (List.mem_range.1 hm) js, ods_js hp, List.filterMap_append]
  have : (List.replicate (8 - nw) none).filterMap (endAt ((m : Int) + 1)) = [] := List.filterMap_eq_nil_iff.2 fun o ho => by rw [List.eq_of_mem_replicate ho]; rfl
  rw [this, List.append_nil]
theorem Rw.append {α : Type} {V : List Value → α → Prop} {cs cs' : List Value} {l l' : List α} (h : Rw V cs l) (h' : Rw V cs' l') : Rw V (cs ++ cs') (l ++ l') := by
  obtain ⟨rows, rfl, h2, h3⟩ := h
  obtain ⟨rows', rfl, h2', h3'⟩ := h'
  refine ⟨rows ++ rows', by simp, by simp [h2, h2'], fun k o hk => ?_⟩
  rcases Nat.lt_or_ge k l.length with h | h
  · rw [List.getElem?_append_left h] at hk
    rw [List.getElem?_append_left (by omega)]
    exact h3 k o hk
  · rw [List.getElem?_append_right h] at hk
    rw [List.getElem?_append_right (by omega), h2]
    exact h3' _ o hk
theorem Rw.one1 {α : Type} {V : List Value → α → Prop} {r : List Value} {o : α} (h : V r o) : Rw V r [o] := by
  have := (Rw.nil (V := V)).snoc h
  simpa using this
theorem flat_rw {i : Imm} : ∀ {D : List JobP}, (∀ x ∈ D, JobV i x.jc x.jd) → Rw (JobV i) (flat ((D.map toSJ).map zr)) (D.map endJ)
  | [], _ => Rw.nil
  | x :: D, h => by
    have ih := flat_rw (D := D) fun y hy => h y (List.mem_cons_of_mem _ hy)
    obtain ⟨rc, h1, h2⟩ := h x (List.mem_cons_self ..)
    rw [List.map_cons, List.map_cons, flat_cons, List.map_cons]
    refine Rw.append (l := [endJ x]) (Rw.one1 ?_) ih
    refine ⟨rc, ?_, h2⟩
    simp only [sjc, zr, toSJ, h1, endJ]
    rfl
/-- what ends reads as what ends tick by tick -/
theorem ended_rw {i : Imm} {js : List (Option JobP)} {nw : Nat} (hp : PoolSt i js nw) (t : Nat) : Rw (JobV i) (endedC js t) (outs (ods js nw) t) := by
  have hD : ∀ x ∈ js.filterMap (fin t), JobV i x.jc x.jd ∧ 1 ≤ x.jd.left ∧ x.jd.left ≤ t := fun x hx => by
    obtain ⟨o, h1, h2⟩ := List.mem_filterMap.1 hx
    obtain ⟨rfl, h3⟩ := fin_some h2
    exact ⟨(hp.job x h1).1, (hp.job x h1).2.2.1, h3⟩
  unfold endedC
  rw [isort_grp t _ _ rfl fun x hx => (hD x hx).2, ← grp_outs hp t]
  exact flat_rw fun x hx => (hD x (grp_mem hx)).1
theorem outs_len {i : Imm} {js : List (Option JobP)} {nw : Nat} (hp : PoolSt i js nw) (t : Nat) : (outs (ods js nw) t).length = (js.filterMap (fin t)).length := by
  have h := ended_rw hp t
  have h1 := Rw.len (V := JobV i) JobV.len h
  have hD : ∀ x ∈ js.filterMap (fin t), JobV i x.jc x.jd := fun x hx => by
    obtain ⟨o, h1, h2⟩ := List.mem_filterMap.1 hx
    obtain ⟨rfl, h3⟩ := fin_some h2
    exact (hp.job x h1).1
  have h2 := Rw.len (V := JobV i) JobV.len (flat_rw (D := grp t (js.filterMap (fin t))) fun x hx => hD x (grp_mem hx))
  have h3 := congrArg List.length (grp_outs hp t)
  rw [List.length_map] at h3
  rw [← h3]
  have h4 : (isort ((js.filterMap (fin t)).map toSJ)).length = (js.filterMap (fin t)).length := by rw [isort_len, List.length_map]
  rw [isort_grp t _ _ rfl (fun x hx => by
    obtain ⟨o, g1, g2⟩ := List.mem_filterMap.1 hx
    obtain ⟨rfl, g3⟩ := fin_some g2
    exact ⟨(hp.job x g1).2.2.1, g3⟩), List.length_map] at h4
  exact h4
theorem ods_tick (js : List (Option JobP)) (nw : Nat) (t : Int) : ods (js.map (tick1 t)) nw = (ods js nw).map (tkD t) := by
  unfold ods
  rw [← List.map_take, List.map_map, List.map_map]
  refine List.map_congr_left fun o _ => ?_
  cases o with
  | none => rfl
  | some x =>
    by_cases h : x.jd.left ≤ t
    · simp only [Function.comp]
      rw [show tick1 t (some x) = none from if_pos h]
      exact (if_pos h).symm
    · simp only [Function.comp]
      rw [show tick1 t (some x) = _ from if_neg h]
      exact (if_neg h).symm
end Go.Proofs.Ytmcajldlcomegaa
