/- Contracts: comparing two jobs. -/
import Derived.Test.YtmcajldlcomegaaW7
namespace Go.Proofs.Ytmcajldlcomegaa
open Go Go.Eng

def cmpI (a b : Int) : Int := if a < b then -1 else if b < a then 1 else 0
theorem isNaN_s (a : Int) (i : Imm) (L : SH) : FnS Try.prog 87 [.int .i64 a] i L fun v i' L' => v = .bool false ∧ i' = i ∧ L' = L := by
  refine FnS.intro1 Try.func87 rfl Try.ntmps87 (by simp) Try.results87 ?_
  repeat' (first
    | refine CS.seq ?_
    | refine thenQ.normal ?_
    | refine CS.cond_true rfl ?_
    | refine CS.cond_false rfl ?_
    | refine CS.skip ?_
    | (refine CS.region (id := 0) ?_;
        refine RS.pv (PV.all tab_ok rfl) rfl ?_;
        refine RS.nil ?_)
    | (refine CS.region (id := 1) ?_;
        refine RS.pv (PV.all tab_ok rfl) rfl ?_;
        refine RS.pv (PV.all tab_ok rfl) rfl ?_;
        (first | refine RS.pv (PV.all tab_ok rfl) rfl ?_ | refine RS.pv (PV.neqT rfl rfl (by omega)) rfl ?_ | refine RS.pv (PV.neqF rfl rfl (by omega)) rfl ?_ | refine RS.ifNeq rfl rfl rfl (fun h => ?_) (fun h => ?_) | refine RS.ifSneq rfl rfl rfl (fun h => ?_) (fun h => ?_));
        (all_goals refine RS.pv (PV.all tab_ok rfl) rfl ?_);
        (all_goals refine RS.nil ?_))
    | refine CS.ret ?_
    | refine thenQ.ret ?_
    | refine blkQ.ret ?_
    | refine retQ.ret ?_
    | refine CS.block ?_
    | refine CS.exit ?_
    | refine thenQ.exit ?_
    | refine blkQ.normal ?_
    | refine blkQ.here ?_
    | refine blkQ.past rfl ?_
    | refine retQ.normal ?_)
  exact ⟨rfl, rfl, rfl⟩
theorem cmp_s (a b : Int) (i : Imm) (L : SH) : FnS Try.prog 48 [.int .i64 a, .int .i64 b] i L fun v i' L' => v = .int .i64 (cmpI a b) ∧ i' = i ∧ L' = L := by
  refine FnS.intro1 Try.func48 rfl Try.ntmps48 (by simp) Try.results48 ?_
  repeat' (first
    | refine CS.seq ?_
    | refine thenQ.normal ?_
    | refine CS.cond_true rfl ?_
    | refine CS.cond_false rfl ?_
    | refine CS.skip ?_
    | (refine CS.region (id := 0) ?_;
        refine RS.pv (PV.all tab_ok rfl) rfl ?_;
        refine RS.nil ?_)
    | (refine CS.region (id := 1) ?_;
        refine RS.pv (PV.all tab_ok rfl) rfl ?_;
        (refine RS.call (isNaN_s a _ _) rfl (by kernel_rfl) rfl ?_; rintro v i1 L1 hi1 ⟨rfl, rfl, rfl⟩);
        (all_goals refine RS.pv (PV.all tab_ok rfl) rfl ?_);
        (all_goals refine RS.nil ?_))
    | (refine CS.region (id := 2) ?_;
        refine RS.pv (PV.all tab_ok rfl) rfl ?_;
        (refine RS.call (isNaN_s b _ _) rfl (by kernel_rfl) rfl ?_; rintro v i2 L2 hi2 ⟨rfl, rfl, rfl⟩);
        (all_goals refine RS.pv (PV.all tab_ok rfl) rfl ?_);
        (all_goals refine RS.nil ?_))
    | (refine CS.region (id := 3) ?_;
        refine RS.pv (PV.all tab_ok rfl) rfl ?_;
        refine RS.nil ?_)
    | (refine CS.region (id := 4) ?_;
        refine RS.pv (PV.all tab_ok rfl) rfl ?_;
        refine RS.nil ?_)
    | (refine CS.region (id := 5) ?_;
        refine RS.pv (PV.all tab_ok rfl) rfl ?_;
        refine RS.nil ?_)
    | (refine CS.region (id := 6) ?_;
        refine RS.pv (PV.all tab_ok rfl) rfl ?_;
        refine RS.nil ?_)
    | (refine CS.region (id := 7) ?_;
        refine RS.pv (PV.all tab_ok rfl) rfl ?_;
        refine RS.nil ?_)
    | (refine CS.region (id := 8) ?_;
        refine RS.pv (PV.all tab_ok rfl) rfl ?_;
        refine RS.nil ?_)
    | (refine CS.region (id := 9) ?_;
        refine RS.pv (PV.all tab_ok rfl) rfl ?_;
        refine RS.pv (PV.all tab_ok rfl) rfl ?_;
        (first | refine RS.pv (PV.lssT rfl rfl (by omega)) rfl ?_ | refine RS.pv (PV.lssF rfl rfl (by omega)) rfl ?_ | refine RS.ifLss rfl rfl rfl (fun h => ?_) (fun h => ?_));
        (all_goals refine RS.nil ?_))
    | (refine CS.region (id := 10) ?_;
        refine RS.pv (PV.all tab_ok rfl) rfl ?_;
        refine RS.nil ?_)
    | (refine CS.region (id := 11) ?_;
        refine RS.pv (PV.all tab_ok rfl) rfl ?_;
        refine RS.pv (PV.all tab_ok rfl) rfl ?_;
        (first | refine RS.pv (PV.gtrT rfl rfl (by omega)) rfl ?_ | refine RS.pv (PV.gtrF rfl rfl (by omega)) rfl ?_ | refine RS.ifGtr rfl rfl rfl (fun h => ?_) (fun h => ?_));
        (all_goals refine RS.nil ?_))
    | (refine CS.region (id := 12) ?_;
        refine RS.pv (PV.all tab_ok rfl) rfl ?_;
        refine RS.nil ?_)
    | (refine CS.region (id := 13) ?_;
        refine RS.pv (PV.all tab_ok rfl) rfl ?_;
        refine RS.nil ?_)
    | refine CS.ret ?_
    | refine thenQ.ret ?_
    | refine blkQ.ret ?_
    | refine retQ.ret ?_
    | refine CS.block ?_
    | refine CS.exit ?_
    | refine thenQ.exit ?_
    | refine blkQ.normal ?_
    | refine blkQ.here ?_
    | refine blkQ.past rfl ?_
    | refine retQ.normal ?_)
  all_goals (refine ⟨congrArg (Value.int .i64) ?_, rfl, rfl⟩; unfold cmpI)
  · rw [if_pos (by assumption)]
  · rw [if_neg (by omega), if_pos (by omega)]
  · rw [if_neg (by omega), if_neg (by omega)]
theorem less_s (la lb xa xb : Int) (rc rc' : List Value) (i : Imm) (L : SH) : FnS Try.prog 47 [.agg (List.toArray (.int .i64 xa :: .int .i64 la :: rc)), .agg (List.toArray (.int .i64 xb :: .int .i64 lb :: rc'))] i L fun v i' L' => v = .int .i64 (cmpI la lb) ∧ i' = i ∧ L' = L := by
  refine FnS.state (K := fun v i' L' => ∃ M, v = .int .i64 (cmpI la lb) ∧ i' = i ∧ L' = M ++ L) ?_ ?_
  rotate_left
  · rintro v i' L' w _ hs ⟨M, hv, rfl, rfl⟩
    exact ⟨i', _, Imm.le.refl i', hs.dropL, hv, rfl, rfl⟩
  refine FnS.intro1 Try.func47 rfl Try.ntmps47 (by simp) Try.results47 ?_
  repeat' (first
    | refine CS.seq ?_
    | refine thenQ.normal ?_
    | refine CS.cond_true rfl ?_
    | refine CS.cond_false rfl ?_
    | refine CS.skip ?_
    | (refine CS.region (id := 0) ?_;
        refine RS.box rfl rfl (fun b => ?_);
        refine RS.box rfl rfl (fun b => ?_);
        refine RS.pv (PV.all tab_ok rfl) rfl ?_;
        refine RS.nil ?_)
    | (refine CS.region (id := 1) ?_;
        refine RS.pv (PV.all tab_ok rfl) rfl ?_;
        (first | refine RS.lv (LV.load tab_ok rfl (Has.own 0 rfl) rfl) rfl ?_ | refine RS.lv (LV.load tab_ok rfl (Has.own 1 rfl) rfl) rfl ?_ | refine RS.lv (LV.load tab_ok rfl (Has.own 2 rfl) rfl) rfl ?_);
        refine RS.pv (PV.all tab_ok rfl) rfl ?_;
        (first | refine RS.lv (LV.load tab_ok rfl (Has.own 0 rfl) rfl) rfl ?_ | refine RS.lv (LV.load tab_ok rfl (Has.own 1 rfl) rfl) rfl ?_ | refine RS.lv (LV.load tab_ok rfl (Has.own 2 rfl) rfl) rfl ?_);
        (refine RS.call (cmp_s la lb _ _) rfl (by kernel_rfl) rfl ?_; rintro v i1 L1 hi1 ⟨rfl, rfl, rfl⟩);
        (all_goals refine RS.pv (PV.all tab_ok rfl) rfl ?_);
        (all_goals refine RS.nil ?_))
    | refine CS.ret ?_
    | refine thenQ.ret ?_
    | refine blkQ.ret ?_
    | refine retQ.ret ?_
    | refine CS.block ?_
    | refine CS.exit ?_
    | refine thenQ.exit ?_
    | refine blkQ.normal ?_
    | refine blkQ.here ?_
    | refine blkQ.past rfl ?_
    | refine retQ.normal ?_)
  exact ⟨[_, _], rfl, rfl, rfl⟩

/-! ### jobs in a row of cells -/
/-- index, ticks left, the record's cells -/
abbrev SJ := Int × Int × List Value
def sjc (x : SJ) : List Value := .int .i64 x.1 :: .int .i64 x.2.1 :: x.2.2
def sjOne (x : SJ) : Prop := x.2.2.length = 12 ∧ x.2.2.all (·.oneCell') = true
def sjOk (l : List SJ) : Prop := ∀ x ∈ l, sjOne x
theorem sjc_len {x : SJ} (h : sjOne x) : (sjc x).length = 14 := by simp [sjc, h.1]
theorem sjc_store {x : SJ} (h : sjOne x) : okStore tab 41 (sjc x) = true := by
  show (Nat.beq (sjc x).length 14 && (sjc x).all (·.oneCell')) = true
  rw [sjc_len h, sjc, List.all_cons, List.all_cons, h.2]
  rfl
def flat (l : List SJ) : List Value := (l.map sjc).flatten
theorem flat_append (l l' : List SJ) : flat (l ++ l') = flat l ++ flat l' := by simp [flat]
theorem flat_cons (x : SJ) (l : List SJ) : flat (x :: l) = sjc x ++ flat l := by simp [flat]
theorem flat_len : ∀ {l : List SJ}, sjOk l → (flat l).length = l.length * 14
  | [], _ => rfl
  | x :: l, h => by
    have h1 := (h x (List.mem_cons_self ..)).1
    have h2 := flat_len (l := l) fun y hy => h y (List.mem_cons_of_mem _ hy)
    rw [flat_cons, List.length_append, h2]
    simp [sjc, h1]
    omega
theorem split_at {α : Type} : ∀ {l : List α} {j : Nat} {x : α}, l[j]? = some x → ∃ A B, l = A ++ x :: B ∧ A.length = j ∧ ∀ y, l.set j y = A ++ y :: B
  | [], _, _, h => by cases h
  | a :: l, 0, x, h => by
    cases h
    exact ⟨[], l, rfl, rfl, fun _ => rfl⟩
  | a :: l, j + 1, x, h => by
    obtain ⟨A, B, h1, h2, h3⟩ := split_at (l := l) (j := j) (by simpa using h)
    exact ⟨a :: A, B, by rw [h1]; rfl, by simp [h2], fun y => by simp [h3]⟩
theorem putAt_mid : ∀ (v u A R : List Value), u.length = v.length → putAt (A ++ (u ++ R)) A.length v = some (A ++ (v ++ R))
  | [], u, A, R, h => by
    have : u = [] := List.eq_nil_of_length_eq_zero h
    subst this
    rfl
  | v0 :: v, [], _, _, h => by simp at h
  | v0 :: v, u0 :: u, A, R, h => by
    have h0 : (A ++ (u0 :: u ++ R))[A.length]? = some u0 := by simp
    have ih := putAt_mid v u (A ++ [v0]) R (by simpa using h)
    simp only [putAt, setX_some _ _ v0 _ h0]
    have e : (A ++ (u0 :: u ++ R)).set A.length v0 = (A ++ [v0]) ++ (u ++ R) := by simp
    rw [e, show A.length + 1 = (A ++ [v0]).length by simp, ih]
    simp
theorem flat_at {l : List SJ} {j : Nat} {x : SJ} (sp : List Value) (h : l[j]? = some x) (hok : sjOk l) (k : Nat) (u : Value) (hu : (sjc x)[k]? = some u) : (flat l ++ sp)[0 + ((j : Nat) : Int).toNat * 14 + k]? = some u := by
  obtain ⟨A, B, rfl, rfl, _⟩ := split_at h
  have hA := flat_len (l := A) fun y hy => hok y (List.mem_append_left _ hy)
  rw [flat_append, flat_cons, Int.toNat_natCast, Nat.zero_add, ← hA, List.append_assoc, List.getElem?_append_right (by omega), Nat.add_sub_cancel_left, List.append_assoc, List.getElem?_append_left (List.getElem?_eq_some_iff.1 hu).1, hu]
theorem flat_put {l : List SJ} {j : Nat} {x y : SJ} (sp : List Value) (h : l[j]? = some x) (hok : sjOk l) (hy : sjOne y) : putAt (flat l ++ sp) (0 + ((j : Nat) : Int).toNat * 14) (sjc y) = some (flat (l.set j y) ++ sp) := by
  obtain ⟨A, B, rfl, rfl, h3⟩ := split_at h
  have hA := flat_len (l := A) fun y hy => hok y (List.mem_append_left _ hy)
  have hx := (hok x (by simp)).1
  rw [h3, flat_append, flat_cons, flat_append, flat_cons, Int.toNat_natCast, Nat.zero_add, ← hA, List.append_assoc, List.append_assoc, List.append_assoc, List.append_assoc]
  exact putAt_mid (sjc y) (sjc x) (flat A) (flat B ++ sp) (by simp [sjc, hx, hy.1])

/-! ### insertion -/
/-- the place to which x goes, seen from place j on -/
def bub (x : SJ) (l : List SJ) : Nat → Nat
  | 0 => 0
  | j + 1 => match l[j]? with
    | some y => if x.2.1 < y.2.1 then bub x l j else j + 1
    | none => j + 1
def insAt (x : SJ) (l : List SJ) (j : Nat) : List SJ := l.take j ++ x :: l.drop j
def insL (x : SJ) (l : List SJ) : List SJ := insAt x l (bub x l l.length)
def isort (l : List SJ) : List SJ := l.foldl (fun acc x => insL x acc) []
theorem insAt_len (x : SJ) (l : List SJ) (j : Nat) : (insAt x l j).length = l.length + 1 := by
  simp [insAt]; omega
theorem insAt_mem {x y : SJ} {l : List SJ} {j : Nat} (h : y ∈ insAt x l j) : y = x ∨ y ∈ l := by
  unfold insAt at h
  rcases List.mem_append.1 h with h | h
  · exact .inr (List.mem_of_mem_take h)
  · rcases List.mem_cons.1 h with h | h
    · exact .inl h
    · exact .inr (List.mem_of_mem_drop h)
theorem isort_snoc (l : List SJ) (x : SJ) : isort (l ++ [x]) = insL x (isort l) := by simp [isort]
theorem isort_len_aux : ∀ (l acc : List SJ), (l.foldl (fun acc x => insL x acc) acc).length = acc.length + l.length
  | [], acc => by simp
  | x :: l, acc => by
    rw [List.foldl_cons, isort_len_aux l, insL, insAt_len, List.length_cons]; omega
theorem isort_len (l : List SJ) : (isort l).length = l.length := by
  unfold isort; rw [isort_len_aux]; simp
theorem isort_mem_aux : ∀ (l acc : List SJ) (y : SJ), y ∈ l.foldl (fun acc x => insL x acc) acc → y ∈ acc ∨ y ∈ l
  | [], acc, y, h => .inl h
  | x :: l, acc, y, h => by
    rcases isort_mem_aux l _ y h with h | h
    · rcases insAt_mem h with h | h
      · exact .inr (by rw [h]; exact List.mem_cons_self ..)
      · exact .inl h
    · exact .inr (List.mem_cons_of_mem _ h)
theorem isort_ok {l : List SJ} (h : sjOk l) : sjOk (isort l) := fun y hy => by
  rcases isort_mem_aux l [] y hy with h' | h'
  · cases h'
  · exact h y h'
/-- one swap -/
theorem insAt_swap {x y : SJ} {l : List SJ} {j : Nat} (rest : List SJ) (h : l[j]? = some y) :
    (insAt x l (j + 1) ++ rest)[j + 1]? = some x ∧ (insAt x l (j + 1) ++ rest)[j]? = some y ∧ ((insAt x l (j + 1) ++ rest).set (j + 1) y).set j x = insAt x l j ++ rest := by
  obtain ⟨A, B, rfl, rfl, _⟩ := split_at h
  have e1 : insAt x (A ++ y :: B) (A.length + 1) = A ++ y :: x :: B := by
    simp only [insAt, List.take_append, List.drop_append, List.take_of_length_le (show A.length ≤ A.length + 1 by omega), List.drop_eq_nil_of_le (show A.length ≤ A.length + 1 by omega)]
    simp
  have e2 : insAt x (A ++ y :: B) A.length = A ++ x :: y :: B := by simp [insAt]
  rw [e1, e2]
  refine ⟨?_, ?_, ?_⟩
  · simp
  · simp
  · simp
end Go.Proofs.Ytmcajldlcomegaa
