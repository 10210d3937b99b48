/- Contracts: lists of texts and records compared. -/
import Derived.Test.YtmcajldlcomegaaW2
import Derived.Test.YtmcajldlcomegaaEng11
namespace Go.Proofs.Ytmcajldlcomegaa
open Go Go.Eng

theorem strs_at (l : List ByteArray) (k : Nat) : (strs l)[k * 1 + 0]? = l[k]?.map .string := by simp [strs]
theorem list_ext_upto {α : Type} {a b : List α} (hl : a.length = b.length) (h : ∀ j, j < a.length → a[j]? = b[j]?) : a = b := by
  apply List.ext_getElem?
  intro j
  by_cases hj : j < a.length
  · exact h j hj
  · rw [List.getElem?_eq_none (by omega), List.getElem?_eq_none (by omega)]
theorem upto_succ {α : Type} {a b : List α} {k : Nat} (h : ∀ j, j < k → a[j]? = b[j]?) (h' : a[k]? = b[k]?) : ∀ j, j < k + 1 → a[j]? = b[j]? := fun j hj => by
  rcases Nat.lt_succ_iff_lt_or_eq.1 hj with hj | rfl
  · exact h j hj
  · exact h'
theorem SameTexts_s (va vb : Value) (a b : List ByteArray) (i : Imm) (L : SH) (ha : Sl i va 1 a.length (strs a)) (hb : Sl i vb 1 b.length (strs b)) (hn : a.length ≤ 9223372036854775807) :
    FnS Try.prog 55 [va, vb] i L fun v i' L' => v = .bool (decide (a = b)) ∧ i' = i ∧ L' = L := by
  obtain ⟨aa, ac, hva, _⟩ := id ha
  obtain ⟨ba, bc, hvb, _⟩ := id hb
  subst hva
  subst hvb
  refine FnS.intro1 Try.func55 rfl Try.ntmps55 (by simp) Try.results55 ?_
  by_cases hl : a.length = b.length
  · repeat' (first
      | refine CS.seq ?_
      | refine thenQ.normal ?_
      | refine CS.cond_true rfl ?_
      | refine CS.cond_false rfl ?_
      | refine CS.skip ?_
      | (refine CS.region (id := 0) ?_;
          refine RS.pv (PV.all tab_ok rfl) rfl ?_;
          refine RS.nil ?_)
      | (refine CS.region (id := 1) ?_;
          refine RS.pv (PV.all tab_ok rfl) rfl ?_;
          (first | refine RS.pv (PV.lenS tab_ok rfl rfl) rfl ?_ | refine RS.pv (PV.lenT tab_ok rfl rfl) rfl ?_);
          refine RS.pv (PV.all tab_ok rfl) rfl ?_;
          (first | refine RS.pv (PV.lenS tab_ok rfl rfl) rfl ?_ | refine RS.pv (PV.lenT tab_ok rfl rfl) rfl ?_);
          (first | refine RS.pv (PV.all tab_ok rfl) rfl ?_ | refine RS.pv (PV.neqT rfl rfl (by omega)) rfl ?_ | refine RS.pv (PV.neqF rfl rfl (by omega)) rfl ?_ | refine RS.ifNeq rfl rfl rfl (fun h => ?_) (fun h => ?_) | refine RS.ifSneq rfl rfl rfl (fun h => ?_) (fun h => ?_));
          (all_goals refine RS.nil ?_))
      | (refine CS.region (id := 2) ?_;
          refine RS.pv (PV.all tab_ok rfl) rfl ?_;
          refine RS.nil ?_)
      | (refine CS.region (id := 3) ?_;
          refine RS.pv (PV.all tab_ok rfl) rfl ?_;
          refine RS.nil ?_)
      | refine CS.ret ?_
      | refine thenQ.ret ?_
      | refine blkQ.ret ?_
      | refine retQ.ret ?_
      | refine CS.block ?_
      | refine CS.exit ?_
      | refine thenQ.exit ?_
      | refine blkQ.normal ?_
      | refine blkQ.here ?_
      | refine blkQ.past rfl ?_
      | refine retQ.normal ?_)
    refine CS.loop [0, 1, 5] (fun m vs i' L' => ∃ k : Nat, m = a.length - k ∧ k ≤ a.length ∧ (∀ j, j < k → a[j]? = b[j]?) ∧ vs = [.slice aa a.length ac, .slice ba b.length bc, .int .i64 (k : Int)] ∧ i' = i ∧ L' = L) a.length ⟨0, rfl, Nat.zero_le _, fun j hj => absurd hj (by omega), rfl, rfl, rfl⟩ ?_
    rintro m g vs i' L' hi ⟨k, rfl, hk, hpre, rfl, rfl, rfl⟩
    by_cases hlt : k < a.length
    · obtain ⟨b1, o1, c1, t1, z1, p1, e1, g1, h1⟩ := ha.at hlt (by omega)
      obtain ⟨b2, o2, c2, t2, z2, p2, e2, g2, h2⟩ := hb.at (k := k) (by omega) (by omega)
      cases e1
      cases e2
      obtain ⟨x, hx⟩ : ∃ x, a[k]? = some x := ⟨_, List.getElem?_eq_getElem hlt⟩
      obtain ⟨y, hy⟩ : ∃ y, b[k]? = some y := ⟨_, List.getElem?_eq_getElem (by omega)⟩
      have q1 := h1 0 (by omega)
      have q2 := h2 0 (by omega)
      rw [strs_at, hx] at q1
      rw [strs_at, hy] at q2
      repeat' (first
        | refine CS.seq ?_
        | refine thenQ.normal ?_
        | refine CS.cond_true rfl ?_
        | refine CS.cond_false rfl ?_
        | refine CS.skip ?_
        | (refine CS.region (id := 0) ?_;
            refine RS.pv (PV.all tab_ok rfl) rfl ?_;
            refine RS.nil ?_)
        | (refine CS.region (id := 1) ?_;
            refine RS.pv (PV.all tab_ok rfl) rfl ?_;
            (first | refine RS.pv (PV.lenS tab_ok rfl rfl) rfl ?_ | refine RS.pv (PV.lenT tab_ok rfl rfl) rfl ?_);
            refine RS.pv (PV.all tab_ok rfl) rfl ?_;
            (first | refine RS.pv (PV.lenS tab_ok rfl rfl) rfl ?_ | refine RS.pv (PV.lenT tab_ok rfl rfl) rfl ?_);
            (first | refine RS.pv (PV.all tab_ok rfl) rfl ?_ | refine RS.pv (PV.neqT rfl rfl (by omega)) rfl ?_ | refine RS.pv (PV.neqF rfl rfl (by omega)) rfl ?_ | refine RS.ifNeq rfl rfl rfl (fun h => ?_) (fun h => ?_) | refine RS.ifSneq rfl rfl rfl (fun h => ?_) (fun h => ?_));
            (all_goals refine RS.nil ?_))
        | (refine CS.region (id := 2) ?_;
            refine RS.pv (PV.all tab_ok rfl) rfl ?_;
            refine RS.nil ?_)
        | (refine CS.region (id := 3) ?_;
            refine RS.pv (PV.all tab_ok rfl) rfl ?_;
            refine RS.nil ?_)
        | (refine CS.region (id := 4) ?_;
            refine RS.pv (PV.all tab_ok rfl) rfl ?_;
            refine RS.pv (PV.all tab_ok rfl) rfl ?_;
            (first | refine RS.pv (PV.lenS tab_ok rfl rfl) rfl ?_ | refine RS.pv (PV.lenT tab_ok rfl rfl) rfl ?_);
            (first | refine RS.pv (PV.lssT rfl rfl (by omega)) rfl ?_ | refine RS.pv (PV.lssF rfl rfl (by omega)) rfl ?_ | refine RS.ifLss rfl rfl rfl (fun h => ?_) (fun h => ?_));
            (all_goals refine RS.nil ?_))
        | (refine CS.region (id := 5) ?_;
            refine RS.pv (PV.all tab_ok rfl) rfl ?_;
            refine RS.pv (PV.add rfl rfl (by omega)) rfl ?_;
            refine RS.pv (PV.all tab_ok rfl) rfl ?_;
            refine RS.nil ?_)
        | (refine CS.drawQ (id := 6) mix (by kernel_rfl) ?_;
            refine QS.pv (PV.all tab_ok rfl) rfl ?_;
            refine QS.pv (PV.all tab_ok rfl) rfl ?_;
            (first | refine QS.pv (PV.indexAddr tab_ok rfl rfl rfl (by omega)) rfl ?_ | refine QS.pv (PV.indexAddrA tab_ok rfl rfl rfl (by omega)) rfl ?_);
            refine QS.lv (LV.load1 tab_ok rfl (Has.imm g1) rfl q1) rfl ?_;
            (all_goals refine QS.pv (PV.all tab_ok rfl) rfl ?_);
            (all_goals refine QS.pv (PV.all tab_ok rfl) rfl ?_);
            (all_goals (first | refine QS.pv (PV.indexAddr tab_ok rfl rfl rfl (by omega)) rfl ?_ | refine QS.pv (PV.indexAddrA tab_ok rfl rfl rfl (by omega)) rfl ?_));
            (all_goals refine QS.lv (LV.load1 tab_ok rfl (Has.imm g2) rfl q2) rfl ?_);
            (all_goals refine QS.pvN (PV.sneq rfl rfl) rfl (fun h => ?_) (fun h => ?_));
            (all_goals refine QS.nil ?_))
        | (refine CS.region (id := 7) ?_;
            refine RS.pv (PV.all tab_ok rfl) rfl ?_;
            refine RS.nil ?_)
        | refine CS.ret ?_
        | refine thenQ.ret ?_
        | refine blkQ.ret ?_
        | refine retQ.ret ?_
        | refine CS.block ?_
        | refine CS.exit ?_
        | refine thenQ.exit ?_
        | refine blkQ.normal ?_
        | refine blkQ.here ?_
        | refine blkQ.past rfl ?_
        | refine retQ.normal ?_)
      · exact ⟨a.length - (k + 1), by omega, k + 1, rfl, hlt, upto_succ hpre (by rw [hx, hy, h]), rfl, rfl, rfl⟩
      · refine ⟨congrArg Value.bool (decide_eq_false fun e => h ?_).symm, rfl, rfl⟩
        rw [e, hy] at hx
        cases hx; rfl
    · have : k = a.length := by omega
      subst this
      repeat' (first
        | refine CS.seq ?_
        | refine thenQ.normal ?_
        | refine CS.cond_true rfl ?_
        | refine CS.cond_false rfl ?_
        | refine CS.skip ?_
        | (refine CS.region (id := 0) ?_;
            refine RS.pv (PV.all tab_ok rfl) rfl ?_;
            refine RS.nil ?_)
        | (refine CS.region (id := 1) ?_;
            refine RS.pv (PV.all tab_ok rfl) rfl ?_;
            (first | refine RS.pv (PV.lenS tab_ok rfl rfl) rfl ?_ | refine RS.pv (PV.lenT tab_ok rfl rfl) rfl ?_);
            refine RS.pv (PV.all tab_ok rfl) rfl ?_;
            (first | refine RS.pv (PV.lenS tab_ok rfl rfl) rfl ?_ | refine RS.pv (PV.lenT tab_ok rfl rfl) rfl ?_);
            (first | refine RS.pv (PV.all tab_ok rfl) rfl ?_ | refine RS.pv (PV.neqT rfl rfl (by omega)) rfl ?_ | refine RS.pv (PV.neqF rfl rfl (by omega)) rfl ?_ | refine RS.ifNeq rfl rfl rfl (fun h => ?_) (fun h => ?_) | refine RS.ifSneq rfl rfl rfl (fun h => ?_) (fun h => ?_));
            (all_goals refine RS.nil ?_))
        | (refine CS.region (id := 2) ?_;
            refine RS.pv (PV.all tab_ok rfl) rfl ?_;
            refine RS.nil ?_)
        | (refine CS.region (id := 3) ?_;
            refine RS.pv (PV.all tab_ok rfl) rfl ?_;
            refine RS.nil ?_)
        | (refine CS.region (id := 4) ?_;
            refine RS.pv (PV.all tab_ok rfl) rfl ?_;
            refine RS.pv (PV.all tab_ok rfl) rfl ?_;
            (first | refine RS.pv (PV.lenS tab_ok rfl rfl) rfl ?_ | refine RS.pv (PV.lenT tab_ok rfl rfl) rfl ?_);
            (first | refine RS.pv (PV.lssT rfl rfl (by omega)) rfl ?_ | refine RS.pv (PV.lssF rfl rfl (by omega)) rfl ?_ | refine RS.ifLss rfl rfl rfl (fun h => ?_) (fun h => ?_));
            (all_goals refine RS.nil ?_))
        | (refine CS.region (id := 8) ?_;
            refine RS.pv (PV.all tab_ok rfl) rfl ?_;
            refine RS.nil ?_)
        | refine CS.ret ?_
        | refine thenQ.ret ?_
        | refine blkQ.ret ?_
        | refine retQ.ret ?_
        | refine CS.block ?_
        | refine CS.exit ?_
        | refine thenQ.exit ?_
        | refine blkQ.normal ?_
        | refine blkQ.here ?_
        | refine blkQ.past rfl ?_
        | refine retQ.normal ?_)
      exact ⟨congrArg Value.bool (decide_eq_true (list_ext_upto hl hpre)).symm, rfl, rfl⟩
  · repeat' (first
      | refine CS.seq ?_
      | refine thenQ.normal ?_
      | refine CS.cond_true rfl ?_
      | refine CS.cond_false rfl ?_
      | refine CS.skip ?_
      | (refine CS.region (id := 0) ?_;
          refine RS.pv (PV.all tab_ok rfl) rfl ?_;
          refine RS.nil ?_)
      | (refine CS.region (id := 1) ?_;
          refine RS.pv (PV.all tab_ok rfl) rfl ?_;
          (first | refine RS.pv (PV.lenS tab_ok rfl rfl) rfl ?_ | refine RS.pv (PV.lenT tab_ok rfl rfl) rfl ?_);
          refine RS.pv (PV.all tab_ok rfl) rfl ?_;
          (first | refine RS.pv (PV.lenS tab_ok rfl rfl) rfl ?_ | refine RS.pv (PV.lenT tab_ok rfl rfl) rfl ?_);
          (first | refine RS.pv (PV.all tab_ok rfl) rfl ?_ | refine RS.pv (PV.neqT rfl rfl (by omega)) rfl ?_ | refine RS.pv (PV.neqF rfl rfl (by omega)) rfl ?_ | refine RS.ifNeq rfl rfl rfl (fun h => ?_) (fun h => ?_) | refine RS.ifSneq rfl rfl rfl (fun h => ?_) (fun h => ?_));
          (all_goals refine RS.nil ?_))
      | (refine CS.region (id := 2) ?_;
          refine RS.pv (PV.all tab_ok rfl) rfl ?_;
          refine RS.nil ?_)
      | (refine CS.region (id := 3) ?_;
          refine RS.pv (PV.all tab_ok rfl) rfl ?_;
          refine RS.nil ?_)
      | refine CS.ret ?_
      | refine thenQ.ret ?_
      | refine blkQ.ret ?_
      | refine retQ.ret ?_
      | refine CS.block ?_
      | refine CS.exit ?_
      | refine thenQ.exit ?_
      | refine blkQ.normal ?_
      | refine blkQ.here ?_
      | refine blkQ.past rfl ?_
      | refine retQ.normal ?_)
    exact ⟨congrArg Value.bool (decide_eq_false fun e => hl (by rw [e])).symm, rfl, rfl⟩
theorem attrs_len : ∀ l : List (ByteArray × ByteArray), (attrs l).length = l.length * 2
  | [] => rfl
  | a :: l => by
    have h := attrs_len l
    have e : attrs (a :: l) = .string a.1 :: .string a.2 :: attrs l := rfl
    rw [e, List.length_cons, List.length_cons, h, List.length_cons]
    omega
theorem attrs_at {l : List (ByteArray × ByteArray)} {k : Nat} {x y : ByteArray} (h : l[k]? = some (x, y)) (d : Nat) (hd : d < 2) : (attrs l)[k * 2 + d]? = [Value.string x, .string y][d]? := by
  obtain ⟨A, B, rfl, rfl, _⟩ := split_at h
  have e : attrs (A ++ (x, y) :: B) = attrs A ++ ([.string x, .string y] ++ attrs B) := by simp [attrs]
  rw [e, List.getElem?_append_right (by rw [attrs_len]; omega), attrs_len, Nat.add_sub_cancel_left, List.getElem?_append_left (by simpa using hd)]
theorem SameAttrs_s (va vb : Value) (a b : List (ByteArray × ByteArray)) (i : Imm) (L : SH) (ha : Sl i va 2 a.length (attrs a)) (hb : Sl i vb 2 b.length (attrs b)) (hn : a.length ≤ 9223372036854775807) :
    FnS Try.prog 61 [va, vb] i L fun v i' L' => v = .bool (decide (a = b)) ∧ i' = i ∧ L' = L := by
  obtain ⟨aa, ac, hva, _⟩ := id ha
  obtain ⟨ba, bc, hvb, _⟩ := id hb
  subst hva
  subst hvb
  refine FnS.intro1 Try.func61 rfl Try.ntmps61 (by simp) Try.results61 ?_
  by_cases hl : a.length = b.length
  · repeat' (first
      | refine CS.seq ?_
      | refine thenQ.normal ?_
      | refine CS.cond_true rfl ?_
      | refine CS.cond_false rfl ?_
      | refine CS.skip ?_
      | (refine CS.region (id := 0) ?_;
          refine RS.pv (PV.all tab_ok rfl) rfl ?_;
          refine RS.nil ?_)
      | (refine CS.region (id := 1) ?_;
          refine RS.pv (PV.all tab_ok rfl) rfl ?_;
          (first | refine RS.pv (PV.lenS tab_ok rfl rfl) rfl ?_ | refine RS.pv (PV.lenT tab_ok rfl rfl) rfl ?_);
          refine RS.pv (PV.all tab_ok rfl) rfl ?_;
          (first | refine RS.pv (PV.lenS tab_ok rfl rfl) rfl ?_ | refine RS.pv (PV.lenT tab_ok rfl rfl) rfl ?_);
          (first | refine RS.pv (PV.all tab_ok rfl) rfl ?_ | refine RS.pv (PV.neqT rfl rfl (by omega)) rfl ?_ | refine RS.pv (PV.neqF rfl rfl (by omega)) rfl ?_ | refine RS.ifNeq rfl rfl rfl (fun h => ?_) (fun h => ?_) | refine RS.ifSneq rfl rfl rfl (fun h => ?_) (fun h => ?_));
          (all_goals refine RS.nil ?_))
      | (refine CS.region (id := 2) ?_;
          refine RS.pv (PV.all tab_ok rfl) rfl ?_;
          refine RS.nil ?_)
      | (refine CS.region (id := 3) ?_;
          refine RS.pv (PV.all tab_ok rfl) rfl ?_;
          refine RS.nil ?_)
      | refine CS.ret ?_
      | refine thenQ.ret ?_
      | refine blkQ.ret ?_
      | refine retQ.ret ?_
      | refine CS.block ?_
      | refine CS.exit ?_
      | refine thenQ.exit ?_
      | refine blkQ.normal ?_
      | refine blkQ.here ?_
      | refine blkQ.past rfl ?_
      | refine retQ.normal ?_)
    refine CS.loop [0, 1, 5] (fun m vs i' L' => ∃ k : Nat, m = a.length - k ∧ k ≤ a.length ∧ (∀ j, j < k → a[j]? = b[j]?) ∧ vs = [.slice aa a.length ac, .slice ba b.length bc, .int .i64 (k : Int)] ∧ i' = i ∧ L' = L) a.length ⟨0, rfl, Nat.zero_le _, fun j hj => absurd hj (by omega), rfl, rfl, rfl⟩ ?_
    rintro m g vs i' L' hi ⟨k, rfl, hk, hpre, rfl, rfl, rfl⟩
    by_cases hlt : k < a.length
    · obtain ⟨b1, o1, c1, t1, z1, p1, e1, g1, h1⟩ := ha.at hlt (by omega)
      obtain ⟨b2, o2, c2, t2, z2, p2, e2, g2, h2⟩ := hb.at (k := k) (by omega) (by omega)
      cases e1
      cases e2
      obtain ⟨x, hx⟩ : ∃ x, a[k]? = some x := ⟨_, List.getElem?_eq_getElem hlt⟩
      obtain ⟨y, hy⟩ : ∃ y, b[k]? = some y := ⟨_, List.getElem?_eq_getElem (by omega)⟩
      obtain ⟨x1, x2⟩ := x
      obtain ⟨y1, y2⟩ := y
      have q1 : ∀ j u, [Value.string x1, .string x2][j]? = some u → c1[o1 + ((k : Nat) : Int).toNat * 2 + j]? = some u := fun j u hu => by
        have hj : j < 2 := (List.getElem?_eq_some_iff.1 hu).1
        rw [h1 j hj, attrs_at hx j hj]; exact hu
      have q2 : ∀ j u, [Value.string y1, .string y2][j]? = some u → c2[o2 + ((k : Nat) : Int).toNat * 2 + j]? = some u := fun j u hu => by
        have hj : j < 2 := (List.getElem?_eq_some_iff.1 hu).1
        rw [h2 j hj, attrs_at hy j hj]; exact hu
      have hst : allEq [.string x1, .string x2] [.string y1, .string y2] = decide ((x1, x2) = (y1, y2)) := by
        simp [allEq, scEq]
      repeat' (first
        | refine CS.seq ?_
        | refine thenQ.normal ?_
        | refine CS.cond_true rfl ?_
        | refine CS.cond_false rfl ?_
        | refine CS.skip ?_
        | (refine CS.region (id := 0) ?_;
            refine RS.pv (PV.all tab_ok rfl) rfl ?_;
            refine RS.nil ?_)
        | (refine CS.region (id := 1) ?_;
            refine RS.pv (PV.all tab_ok rfl) rfl ?_;
            (first | refine RS.pv (PV.lenS tab_ok rfl rfl) rfl ?_ | refine RS.pv (PV.lenT tab_ok rfl rfl) rfl ?_);
            refine RS.pv (PV.all tab_ok rfl) rfl ?_;
            (first | refine RS.pv (PV.lenS tab_ok rfl rfl) rfl ?_ | refine RS.pv (PV.lenT tab_ok rfl rfl) rfl ?_);
            (first | refine RS.pv (PV.all tab_ok rfl) rfl ?_ | refine RS.pv (PV.neqT rfl rfl (by omega)) rfl ?_ | refine RS.pv (PV.neqF rfl rfl (by omega)) rfl ?_ | refine RS.ifNeq rfl rfl rfl (fun h => ?_) (fun h => ?_) | refine RS.ifSneq rfl rfl rfl (fun h => ?_) (fun h => ?_));
            (all_goals refine RS.nil ?_))
        | (refine CS.region (id := 2) ?_;
            refine RS.pv (PV.all tab_ok rfl) rfl ?_;
            refine RS.nil ?_)
        | (refine CS.region (id := 3) ?_;
            refine RS.pv (PV.all tab_ok rfl) rfl ?_;
            refine RS.nil ?_)
        | (refine CS.region (id := 4) ?_;
            refine RS.pv (PV.all tab_ok rfl) rfl ?_;
            refine RS.pv (PV.all tab_ok rfl) rfl ?_;
            (first | refine RS.pv (PV.lenS tab_ok rfl rfl) rfl ?_ | refine RS.pv (PV.lenT tab_ok rfl rfl) rfl ?_);
            (first | refine RS.pv (PV.lssT rfl rfl (by omega)) rfl ?_ | refine RS.pv (PV.lssF rfl rfl (by omega)) rfl ?_ | refine RS.ifLss rfl rfl rfl (fun h => ?_) (fun h => ?_));
            (all_goals refine RS.nil ?_))
        | (refine CS.region (id := 5) ?_;
            refine RS.pv (PV.all tab_ok rfl) rfl ?_;
            refine RS.pv (PV.add rfl rfl (by omega)) rfl ?_;
            refine RS.pv (PV.all tab_ok rfl) rfl ?_;
            refine RS.nil ?_)
        | (refine CS.drawQ (id := 6) mix (by kernel_rfl) ?_;
            refine QS.pv (PV.all tab_ok rfl) rfl ?_;
            refine QS.pv (PV.all tab_ok rfl) rfl ?_;
            (first | refine QS.pv (PV.indexAddr tab_ok rfl rfl rfl (by omega)) rfl ?_ | refine QS.pv (PV.indexAddrA tab_ok rfl rfl rfl (by omega)) rfl ?_);
            refine QS.lv (LV.loadL tab_ok rfl (Has.imm g1) (l := [.string x1, .string x2]) rfl rfl rfl q1) rfl ?_;
            (all_goals refine QS.pv (PV.all tab_ok rfl) rfl ?_);
            (all_goals refine QS.pv (PV.all tab_ok rfl) rfl ?_);
            (all_goals (first | refine QS.pv (PV.indexAddr tab_ok rfl rfl rfl (by omega)) rfl ?_ | refine QS.pv (PV.indexAddrA tab_ok rfl rfl rfl (by omega)) rfl ?_));
            (all_goals refine QS.lv (LV.loadL tab_ok rfl (Has.imm g2) (l := [.string y1, .string y2]) rfl rfl rfl q2) rfl ?_);
            (all_goals refine QS.pvN (p := (x1, x2) = (y1, y2)) (by rw [← hst]; exact PV.stneq tab_ok (by kernel_rfl) (by kernel_rfl) rfl rfl (by kernel_rfl)) rfl (fun h => ?_) (fun h => ?_));
            (all_goals refine QS.nil ?_))
        | (refine CS.region (id := 7) ?_;
            refine RS.pv (PV.all tab_ok rfl) rfl ?_;
            refine RS.nil ?_)
        | refine CS.ret ?_
        | refine thenQ.ret ?_
        | refine blkQ.ret ?_
        | refine retQ.ret ?_
        | refine CS.block ?_
        | refine CS.exit ?_
        | refine thenQ.exit ?_
        | refine blkQ.normal ?_
        | refine blkQ.here ?_
        | refine blkQ.past rfl ?_
        | refine retQ.normal ?_)
      · exact ⟨a.length - (k + 1), by omega, k + 1, rfl, hlt, upto_succ hpre (by rw [hx, hy, h]), rfl, rfl, rfl⟩
      · refine ⟨congrArg Value.bool (decide_eq_false fun e => h ?_).symm, rfl, rfl⟩
        rw [e, hy] at hx
        cases hx; rfl
    · have : k = a.length := by omega
      subst this
      repeat' (first
        | refine CS.seq ?_
        | refine thenQ.normal ?_
        | refine CS.cond_true rfl ?_
        | refine CS.cond_false rfl ?_
        | refine CS.skip ?_
        | (refine CS.region (id := 0) ?_;
            refine RS.pv (PV.all tab_ok rfl) rfl ?_;
            refine RS.nil ?_)
        | (refine CS.region (id := 1) ?_;
            refine RS.pv (PV.all tab_ok rfl) rfl ?_;
            (first | refine RS.pv (PV.lenS tab_ok rfl rfl) rfl ?_ | refine RS.pv (PV.lenT tab_ok rfl rfl) rfl ?_);
            refine RS.pv (PV.all tab_ok rfl) rfl ?_;
            (first | refine RS.pv (PV.lenS tab_ok rfl rfl) rfl ?_ | refine RS.pv (PV.lenT tab_ok rfl rfl) rfl ?_);
            (first | refine RS.pv (PV.all tab_ok rfl) rfl ?_ | refine RS.pv (PV.neqT rfl rfl (by omega)) rfl ?_ | refine RS.pv (PV.neqF rfl rfl (by omega)) rfl ?_ | refine RS.ifNeq rfl rfl rfl (fun h => ?_) (fun h => ?_) | refine RS.ifSneq rfl rfl rfl (fun h => ?_) (fun h => ?_));
            (all_goals refine RS.nil ?_))
        | (refine CS.region (id := 2) ?_;
            refine RS.pv (PV.all tab_ok rfl) rfl ?_;
            refine RS.nil ?_)
        | (refine CS.region (id := 3) ?_;
            refine RS.pv (PV.all tab_ok rfl) rfl ?_;
            refine RS.nil ?_)
        | (refine CS.region (id := 4) ?_;
            refine RS.pv (PV.all tab_ok rfl) rfl ?_;
            refine RS.pv (PV.all tab_ok rfl) rfl ?_;
            (first | refine RS.pv (PV.lenS tab_ok rfl rfl) rfl ?_ | refine RS.pv (PV.lenT tab_ok rfl rfl) rfl ?_);
            (first | refine RS.pv (PV.lssT rfl rfl (by omega)) rfl ?_ | refine RS.pv (PV.lssF rfl rfl (by omega)) rfl ?_ | refine RS.ifLss rfl rfl rfl (fun h => ?_) (fun h => ?_));
            (all_goals refine RS.nil ?_))
        | (refine CS.region (id := 8) ?_;
            refine RS.pv (PV.all tab_ok rfl) rfl ?_;
            refine RS.nil ?_)
        | refine CS.ret ?_
        | refine thenQ.ret ?_
        | refine blkQ.ret ?_
        | refine retQ.ret ?_
        | refine CS.block ?_
        | refine CS.exit ?_
        | refine thenQ.exit ?_
        | refine blkQ.normal ?_
        | refine blkQ.here ?_
        | refine blkQ.past rfl ?_
        | refine retQ.normal ?_)
      exact ⟨congrArg Value.bool (decide_eq_true (list_ext_upto hl hpre)).symm, rfl, rfl⟩
  · repeat' (first
      | refine CS.seq ?_
      | refine thenQ.normal ?_
      | refine CS.cond_true rfl ?_
      | refine CS.cond_false rfl ?_
      | refine CS.skip ?_
      | (refine CS.region (id := 0) ?_;
          refine RS.pv (PV.all tab_ok rfl) rfl ?_;
          refine RS.nil ?_)
      | (refine CS.region (id := 1) ?_;
          refine RS.pv (PV.all tab_ok rfl) rfl ?_;
          (first | refine RS.pv (PV.lenS tab_ok rfl rfl) rfl ?_ | refine RS.pv (PV.lenT tab_ok rfl rfl) rfl ?_);
          refine RS.pv (PV.all tab_ok rfl) rfl ?_;
          (first | refine RS.pv (PV.lenS tab_ok rfl rfl) rfl ?_ | refine RS.pv (PV.lenT tab_ok rfl rfl) rfl ?_);
          (first | refine RS.pv (PV.all tab_ok rfl) rfl ?_ | refine RS.pv (PV.neqT rfl rfl (by omega)) rfl ?_ | refine RS.pv (PV.neqF rfl rfl (by omega)) rfl ?_ | refine RS.ifNeq rfl rfl rfl (fun h => ?_) (fun h => ?_) | refine RS.ifSneq rfl rfl rfl (fun h => ?_) (fun h => ?_));
          (all_goals refine RS.nil ?_))
      | (refine CS.region (id := 2) ?_;
          refine RS.pv (PV.all tab_ok rfl) rfl ?_;
          refine RS.nil ?_)
      | (refine CS.region (id := 3) ?_;
          refine RS.pv (PV.all tab_ok rfl) rfl ?_;
          refine RS.nil ?_)
      | refine CS.ret ?_
      | refine thenQ.ret ?_
      | refine blkQ.ret ?_
      | refine retQ.ret ?_
      | refine CS.block ?_
      | refine CS.exit ?_
      | refine thenQ.exit ?_
      | refine blkQ.normal ?_
      | refine blkQ.here ?_
      | refine blkQ.past rfl ?_
      | refine retQ.normal ?_)
    exact ⟨congrArg Value.bool (decide_eq_false fun e => hl (by rw [e])).symm, rfl, rfl⟩

/-- lists as long as memory bears -/
structure Rec.small (r : Rec) : Prop where
  props : r.props.length ≤ 9223372036854775807
  tags : r.tags.length ≤ 9223372036854775807
  links : r.links.length ≤ 9223372036854775807
  run : r.run.length ≤ 9223372036854775807
  load : r.load.length ≤ 9223372036854775807
theorem Rec.ok.small {r : Rec} (h : r.ok) : r.small := by
  obtain ⟨h1, h2, h3, h4, h5⟩ := h
  unfold lenOk at h1 h2 h3 h4 h5
  exact ⟨by omega, by omega, by omega, by omega, by omega⟩
theorem RecV.iff {r s : Rec} : r = s ↔ r.path = s.path ∧ r.index = s.index ∧ r.props = s.props ∧ r.tags = s.tags ∧ r.links = s.links ∧ r.run = s.run ∧ r.load = s.load ∧ r.name = s.name ∧ r.priority = s.priority ∧ r.owner = s.owner ∧ r.group = s.group ∧ r.mode = s.mode := by
  cases r; cases s; simp
open Classical in
theorem SameRecord_s (rc sc : List Value) (r s : Rec) (i : Imm) (L : SH) (hr : RecV i rc r) (hs : RecV i sc s) (hok : r.small) :
    FnS Try.prog 54 [.agg rc.toArray, .agg sc.toArray] i L fun v i' L' => v = .bool (decide (r = s)) ∧ i' = i ∧ L' = L := by
  refine FnS.state (K := fun v i' L' => ∃ M, v = .bool (decide (r = s)) ∧ i' = i ∧ L' = M ++ L) ?_ ?_
  rotate_left
  · rintro v i' L' w _ hs ⟨M, hv, rfl, rfl⟩
    exact ⟨i', _, Imm.le.refl i', hs.dropL, hv, rfl, rfl⟩
  obtain ⟨v2, v3, v4, v5, v6, rfl, g2, g3, g4, g5, g6⟩ := hr
  obtain ⟨u2, u3, u4, u5, u6, rfl, k2, k3, k4, k5, k6⟩ := hs
  have p2 := hok.props; have p3 := hok.tags; have p4 := hok.links; have p5 := hok.run; have p6 := hok.load
  obtain ⟨a2, c2, rfl, _⟩ := id g2
  obtain ⟨a3, c3, rfl, _⟩ := id g3
  obtain ⟨a4, c4, rfl, _⟩ := id g4
  obtain ⟨a5, c5, rfl, _⟩ := id g5
  obtain ⟨a6, c6, rfl, _⟩ := id g6
  obtain ⟨b2, d2, rfl, _⟩ := id k2
  obtain ⟨b3, d3, rfl, _⟩ := id k3
  obtain ⟨b4, d4, rfl, _⟩ := id k4
  obtain ⟨b5, d5, rfl, _⟩ := id k5
  obtain ⟨b6, d6, rfl, _⟩ := id k6
  have q := RecV.iff (r := r) (s := s)
  refine FnS.intro1 Try.func54 rfl Try.ntmps54 (by simp) Try.results54 ?_
  refine CS.seq ?_
  refine CS.region (id := 0) ?_
  refine RS.box rfl rfl (fun b => ?_)
  refine RS.box rfl rfl (fun b => ?_)
  refine RS.pv (PV.all tab_ok rfl) rfl ?_
  refine RS.nil ?_
  refine thenQ.normal ?_
  refine CS.seq ?_
  refine CS.region (id := 1) ?_
  refine RS.pv (PV.all tab_ok rfl) rfl ?_
  (first | refine RS.lv (LV.load tab_ok rfl (Has.own 0 rfl) rfl) rfl ?_ | refine RS.lv (LV.load tab_ok rfl (Has.own 1 rfl) rfl) rfl ?_ | refine RS.lv (LV.load tab_ok rfl (Has.own 2 rfl) rfl) rfl ?_)
  refine RS.pv (PV.all tab_ok rfl) rfl ?_
  (first | refine RS.lv (LV.load tab_ok rfl (Has.own 0 rfl) rfl) rfl ?_ | refine RS.lv (LV.load tab_ok rfl (Has.own 1 rfl) rfl) rfl ?_ | refine RS.lv (LV.load tab_ok rfl (Has.own 2 rfl) rfl) rfl ?_)
  refine RS.pvB (PV.seql rfl rfl) rfl (fun h => ?_) (fun h => ?_)
  (all_goals refine RS.pv (PV.all tab_ok rfl) rfl ?_)
  (all_goals (first | refine RS.pv (PV.all tab_ok rfl) rfl ?_ | refine RS.skip rfl ?_))
  (all_goals (first | refine RS.lv (LV.load tab_ok rfl (Has.own 0 rfl) rfl) rfl ?_ | refine RS.lv (LV.load tab_ok rfl (Has.own 1 rfl) rfl) rfl ?_ | refine RS.lv (LV.load tab_ok rfl (Has.own 2 rfl) rfl) rfl ?_ | refine RS.skip rfl ?_))
  (all_goals (first | refine RS.pv (PV.all tab_ok rfl) rfl ?_ | refine RS.skip rfl ?_))
  (all_goals (first | refine RS.lv (LV.load tab_ok rfl (Has.own 0 rfl) rfl) rfl ?_ | refine RS.lv (LV.load tab_ok rfl (Has.own 1 rfl) rfl) rfl ?_ | refine RS.lv (LV.load tab_ok rfl (Has.own 2 rfl) rfl) rfl ?_ | refine RS.skip rfl ?_))
  (all_goals (first | refine RS.pv (PV.all tab_ok rfl) rfl ?_ | refine RS.pv (PV.eqlT rfl rfl (by omega)) rfl ?_ | refine RS.pv (PV.eqlF rfl rfl (by omega)) rfl ?_ | refine RS.ifEql rfl rfl rfl (fun h => ?_) (fun h => ?_) | refine RS.ifSeql rfl rfl rfl (fun h => ?_) (fun h => ?_) | refine RS.skip rfl ?_))
  (all_goals refine RS.pv (PV.all tab_ok rfl) rfl ?_)
  (all_goals refine RS.pv (PV.all tab_ok rfl) rfl ?_)
  (all_goals (first | refine RS.pv (PV.all tab_ok rfl) rfl ?_ | refine RS.skip rfl ?_))
  (all_goals (first | refine RS.lv (LV.load tab_ok rfl (Has.own 0 rfl) rfl) rfl ?_ | refine RS.lv (LV.load tab_ok rfl (Has.own 1 rfl) rfl) rfl ?_ | refine RS.lv (LV.load tab_ok rfl (Has.own 2 rfl) rfl) rfl ?_ | refine RS.skip rfl ?_))
  (all_goals (first | refine RS.pv (PV.all tab_ok rfl) rfl ?_ | refine RS.skip rfl ?_))
  (all_goals (first | refine RS.lv (LV.load tab_ok rfl (Has.own 0 rfl) rfl) rfl ?_ | refine RS.lv (LV.load tab_ok rfl (Has.own 1 rfl) rfl) rfl ?_ | refine RS.lv (LV.load tab_ok rfl (Has.own 2 rfl) rfl) rfl ?_ | refine RS.skip rfl ?_))
  (all_goals (first | refine RS.callB (SameAttrs_s _ _ _ _ _ _ g2 k2 p2) rfl (by kernel_rfl) rfl (fun h => ?_) (fun h => ?_) | refine RS.skip rfl ?_))
  (all_goals refine RS.pv (PV.all tab_ok rfl) rfl ?_)
  (all_goals refine RS.pv (PV.all tab_ok rfl) rfl ?_)
  (all_goals (first | refine RS.pv (PV.all tab_ok rfl) rfl ?_ | refine RS.skip rfl ?_))
  (all_goals (first | refine RS.lv (LV.load tab_ok rfl (Has.own 0 rfl) rfl) rfl ?_ | refine RS.lv (LV.load tab_ok rfl (Has.own 1 rfl) rfl) rfl ?_ | refine RS.lv (LV.load tab_ok rfl (Has.own 2 rfl) rfl) rfl ?_ | refine RS.skip rfl ?_))
  (all_goals (first | refine RS.pv (PV.all tab_ok rfl) rfl ?_ | refine RS.skip rfl ?_))
  (all_goals (first | refine RS.lv (LV.load tab_ok rfl (Has.own 0 rfl) rfl) rfl ?_ | refine RS.lv (LV.load tab_ok rfl (Has.own 1 rfl) rfl) rfl ?_ | refine RS.lv (LV.load tab_ok rfl (Has.own 2 rfl) rfl) rfl ?_ | refine RS.skip rfl ?_))
  (all_goals (first | refine RS.callB (SameTexts_s _ _ _ _ _ _ g3 k3 p3) rfl (by kernel_rfl) rfl (fun h => ?_) (fun h => ?_) | refine RS.skip rfl ?_))
  (all_goals refine RS.pv (PV.all tab_ok rfl) rfl ?_)
  (all_goals refine RS.pv (PV.all tab_ok rfl) rfl ?_)
  (all_goals (first | refine RS.pv (PV.all tab_ok rfl) rfl ?_ | refine RS.skip rfl ?_))
  (all_goals (first | refine RS.lv (LV.load tab_ok rfl (Has.own 0 rfl) rfl) rfl ?_ | refine RS.lv (LV.load tab_ok rfl (Has.own 1 rfl) rfl) rfl ?_ | refine RS.lv (LV.load tab_ok rfl (Has.own 2 rfl) rfl) rfl ?_ | refine RS.skip rfl ?_))
  (all_goals (first | refine RS.pv (PV.all tab_ok rfl) rfl ?_ | refine RS.skip rfl ?_))
  (all_goals (first | refine RS.lv (LV.load tab_ok rfl (Has.own 0 rfl) rfl) rfl ?_ | refine RS.lv (LV.load tab_ok rfl (Has.own 1 rfl) rfl) rfl ?_ | refine RS.lv (LV.load tab_ok rfl (Has.own 2 rfl) rfl) rfl ?_ | refine RS.skip rfl ?_))
  (all_goals (first | refine RS.callB (SameTexts_s _ _ _ _ _ _ g4 k4 p4) rfl (by kernel_rfl) rfl (fun h => ?_) (fun h => ?_) | refine RS.skip rfl ?_))
  (all_goals refine RS.pv (PV.all tab_ok rfl) rfl ?_)
  (all_goals refine RS.pv (PV.all tab_ok rfl) rfl ?_)
  (all_goals (first | refine RS.pv (PV.all tab_ok rfl) rfl ?_ | refine RS.skip rfl ?_))
  (all_goals (first | refine RS.lv (LV.load tab_ok rfl (Has.own 0 rfl) rfl) rfl ?_ | refine RS.lv (LV.load tab_ok rfl (Has.own 1 rfl) rfl) rfl ?_ | refine RS.lv (LV.load tab_ok rfl (Has.own 2 rfl) rfl) rfl ?_ | refine RS.skip rfl ?_))
  (all_goals (first | refine RS.pv (PV.all tab_ok rfl) rfl ?_ | refine RS.skip rfl ?_))
  (all_goals (first | refine RS.lv (LV.load tab_ok rfl (Has.own 0 rfl) rfl) rfl ?_ | refine RS.lv (LV.load tab_ok rfl (Has.own 1 rfl) rfl) rfl ?_ | refine RS.lv (LV.load tab_ok rfl (Has.own 2 rfl) rfl) rfl ?_ | refine RS.skip rfl ?_))
  (all_goals (first | refine RS.callB (SameTexts_s _ _ _ _ _ _ g5 k5 p5) rfl (by kernel_rfl) rfl (fun h => ?_) (fun h => ?_) | refine RS.skip rfl ?_))
  (all_goals refine RS.pv (PV.all tab_ok rfl) rfl ?_)
  (all_goals refine RS.pv (PV.all tab_ok rfl) rfl ?_)
  (all_goals (first | refine RS.pv (PV.all tab_ok rfl) rfl ?_ | refine RS.skip rfl ?_))
  (all_goals (first | refine RS.lv (LV.load tab_ok rfl (Has.own 0 rfl) rfl) rfl ?_ | refine RS.lv (LV.load tab_ok rfl (Has.own 1 rfl) rfl) rfl ?_ | refine RS.lv (LV.load tab_ok rfl (Has.own 2 rfl) rfl) rfl ?_ | refine RS.skip rfl ?_))
  (all_goals (first | refine RS.pv (PV.all tab_ok rfl) rfl ?_ | refine RS.skip rfl ?_))
  (all_goals (first | refine RS.lv (LV.load tab_ok rfl (Has.own 0 rfl) rfl) rfl ?_ | refine RS.lv (LV.load tab_ok rfl (Has.own 1 rfl) rfl) rfl ?_ | refine RS.lv (LV.load tab_ok rfl (Has.own 2 rfl) rfl) rfl ?_ | refine RS.skip rfl ?_))
  (all_goals (first | refine RS.callB (SameTexts_s _ _ _ _ _ _ g6 k6 p6) rfl (by kernel_rfl) rfl (fun h => ?_) (fun h => ?_) | refine RS.skip rfl ?_))
  (all_goals refine RS.pv (PV.all tab_ok rfl) rfl ?_)
  (all_goals refine RS.pv (PV.all tab_ok rfl) rfl ?_)
  (all_goals (first | refine RS.pv (PV.all tab_ok rfl) rfl ?_ | refine RS.skip rfl ?_))
  (all_goals (first | refine RS.lv (LV.load tab_ok rfl (Has.own 0 rfl) rfl) rfl ?_ | refine RS.lv (LV.load tab_ok rfl (Has.own 1 rfl) rfl) rfl ?_ | refine RS.lv (LV.load tab_ok rfl (Has.own 2 rfl) rfl) rfl ?_ | refine RS.skip rfl ?_))
  (all_goals (first | refine RS.pv (PV.all tab_ok rfl) rfl ?_ | refine RS.skip rfl ?_))
  (all_goals (first | refine RS.lv (LV.load tab_ok rfl (Has.own 0 rfl) rfl) rfl ?_ | refine RS.lv (LV.load tab_ok rfl (Has.own 1 rfl) rfl) rfl ?_ | refine RS.lv (LV.load tab_ok rfl (Has.own 2 rfl) rfl) rfl ?_ | refine RS.skip rfl ?_))
  (all_goals (first | refine RS.pvB (PV.seql rfl rfl) rfl (fun h => ?_) (fun h => ?_) | refine RS.skip rfl ?_))
  (all_goals refine RS.pv (PV.all tab_ok rfl) rfl ?_)
  (all_goals refine RS.pv (PV.all tab_ok rfl) rfl ?_)
  (all_goals (first | refine RS.pv (PV.all tab_ok rfl) rfl ?_ | refine RS.skip rfl ?_))
  (all_goals (first | refine RS.lv (LV.load tab_ok rfl (Has.own 0 rfl) rfl) rfl ?_ | refine RS.lv (LV.load tab_ok rfl (Has.own 1 rfl) rfl) rfl ?_ | refine RS.lv (LV.load tab_ok rfl (Has.own 2 rfl) rfl) rfl ?_ | refine RS.skip rfl ?_))
  (all_goals (first | refine RS.pv (PV.all tab_ok rfl) rfl ?_ | refine RS.skip rfl ?_))
  (all_goals (first | refine RS.lv (LV.load tab_ok rfl (Has.own 0 rfl) rfl) rfl ?_ | refine RS.lv (LV.load tab_ok rfl (Has.own 1 rfl) rfl) rfl ?_ | refine RS.lv (LV.load tab_ok rfl (Has.own 2 rfl) rfl) rfl ?_ | refine RS.skip rfl ?_))
  (all_goals (first | refine RS.pv (PV.all tab_ok rfl) rfl ?_ | refine RS.pv (PV.eqlT rfl rfl (by omega)) rfl ?_ | refine RS.pv (PV.eqlF rfl rfl (by omega)) rfl ?_ | refine RS.ifEql rfl rfl rfl (fun h => ?_) (fun h => ?_) | refine RS.ifSeql rfl rfl rfl (fun h => ?_) (fun h => ?_) | refine RS.skip rfl ?_))
  (all_goals refine RS.pv (PV.all tab_ok rfl) rfl ?_)
  (all_goals refine RS.pv (PV.all tab_ok rfl) rfl ?_)
  (all_goals (first | refine RS.pv (PV.all tab_ok rfl) rfl ?_ | refine RS.skip rfl ?_))
  (all_goals (first | refine RS.lv (LV.load tab_ok rfl (Has.own 0 rfl) rfl) rfl ?_ | refine RS.lv (LV.load tab_ok rfl (Has.own 1 rfl) rfl) rfl ?_ | refine RS.lv (LV.load tab_ok rfl (Has.own 2 rfl) rfl) rfl ?_ | refine RS.skip rfl ?_))
  (all_goals (first | refine RS.pv (PV.all tab_ok rfl) rfl ?_ | refine RS.skip rfl ?_))
  (all_goals (first | refine RS.lv (LV.load tab_ok rfl (Has.own 0 rfl) rfl) rfl ?_ | refine RS.lv (LV.load tab_ok rfl (Has.own 1 rfl) rfl) rfl ?_ | refine RS.lv (LV.load tab_ok rfl (Has.own 2 rfl) rfl) rfl ?_ | refine RS.skip rfl ?_))
  (all_goals (first | refine RS.pvB (PV.seql rfl rfl) rfl (fun h => ?_) (fun h => ?_) | refine RS.skip rfl ?_))
  (all_goals refine RS.pv (PV.all tab_ok rfl) rfl ?_)
  (all_goals refine RS.pv (PV.all tab_ok rfl) rfl ?_)
  (all_goals (first | refine RS.pv (PV.all tab_ok rfl) rfl ?_ | refine RS.skip rfl ?_))
  (all_goals (first | refine RS.lv (LV.load tab_ok rfl (Has.own 0 rfl) rfl) rfl ?_ | refine RS.lv (LV.load tab_ok rfl (Has.own 1 rfl) rfl) rfl ?_ | refine RS.lv (LV.load tab_ok rfl (Has.own 2 rfl) rfl) rfl ?_ | refine RS.skip rfl ?_))
  (all_goals (first | refine RS.pv (PV.all tab_ok rfl) rfl ?_ | refine RS.skip rfl ?_))
  (all_goals (first | refine RS.lv (LV.load tab_ok rfl (Has.own 0 rfl) rfl) rfl ?_ | refine RS.lv (LV.load tab_ok rfl (Has.own 1 rfl) rfl) rfl ?_ | refine RS.lv (LV.load tab_ok rfl (Has.own 2 rfl) rfl) rfl ?_ | refine RS.skip rfl ?_))
  (all_goals (first | refine RS.pvB (PV.seql rfl rfl) rfl (fun h => ?_) (fun h => ?_) | refine RS.skip rfl ?_))
  (all_goals refine RS.pv (PV.all tab_ok rfl) rfl ?_)
  (all_goals refine RS.pv (PV.all tab_ok rfl) rfl ?_)
  (all_goals (first | refine RS.pv (PV.all tab_ok rfl) rfl ?_ | refine RS.skip rfl ?_))
  (all_goals (first | refine RS.lv (LV.load tab_ok rfl (Has.own 0 rfl) rfl) rfl ?_ | refine RS.lv (LV.load tab_ok rfl (Has.own 1 rfl) rfl) rfl ?_ | refine RS.lv (LV.load tab_ok rfl (Has.own 2 rfl) rfl) rfl ?_ | refine RS.skip rfl ?_))
  (all_goals (first | refine RS.pv (PV.all tab_ok rfl) rfl ?_ | refine RS.skip rfl ?_))
  (all_goals (first | refine RS.lv (LV.load tab_ok rfl (Has.own 0 rfl) rfl) rfl ?_ | refine RS.lv (LV.load tab_ok rfl (Has.own 1 rfl) rfl) rfl ?_ | refine RS.lv (LV.load tab_ok rfl (Has.own 2 rfl) rfl) rfl ?_ | refine RS.skip rfl ?_))
  (all_goals (first | refine RS.pv (PV.all tab_ok rfl) rfl ?_ | refine RS.pv (PV.eqlT rfl rfl (by omega)) rfl ?_ | refine RS.pv (PV.eqlF rfl rfl (by omega)) rfl ?_ | refine RS.ifEql rfl rfl rfl (fun h => ?_) (fun h => ?_) | refine RS.ifSeql rfl rfl rfl (fun h => ?_) (fun h => ?_) | refine RS.skip rfl ?_))
  (all_goals refine RS.pv (PV.all tab_ok rfl) rfl ?_)
  (all_goals refine RS.pv (PV.all tab_ok rfl) rfl ?_)
  (all_goals refine RS.nil ?_)
  all_goals refine thenQ.normal ?_
  all_goals refine CS.ret ?_
  all_goals refine retQ.ret ?_
  all_goals first
    | exact ⟨[_, _], congrArg Value.bool (decide_eq_false fun e => h (by rw [e])).symm, rfl, rfl⟩
    | exact ⟨[_, _], congrArg Value.bool (decide_eq_true (q.2 ⟨by assumption, by assumption, by assumption, by assumption, by assumption, by assumption, by assumption, by assumption, by assumption, by assumption, by assumption, by assumption⟩)).symm, rfl, rfl⟩
open Classical in
theorem Same_s (rc sc : List Value) (r s : Rec) (i : Imm) (L : SH) (hr : RecV i rc r) (hs : RecV i sc s) (hok : r.small) :
    FnS Try.prog 29 [.agg rc.toArray, .agg sc.toArray] i L fun v i' L' => v = .bool (decide (r = s)) ∧ i' = i ∧ L' = L := by
  refine FnS.state (K := fun v i' L' => ∃ M, v = .bool (decide (r = s)) ∧ i' = i ∧ L' = M ++ L) ?_ ?_
  rotate_left
  · rintro v i' L' w _ hs ⟨M, hv, rfl, rfl⟩
    exact ⟨i', _, Imm.le.refl i', hs.dropL, hv, rfl, rfl⟩
  obtain ⟨a2, c2, a3, c3, a4, c4, a5, c5, a6, c6, rfl⟩ := hr.lit
  obtain ⟨b2, d2, b3, d3, b4, d4, b5, d5, b6, d6, rfl⟩ := hs.lit
  refine FnS.intro1 Try.func29 rfl Try.ntmps29 (by simp) Try.results29 ?_
  repeat' (first
    | refine CS.seq ?_
    | refine thenQ.normal ?_
    | refine CS.cond_true rfl ?_
    | refine CS.cond_false rfl ?_
    | refine CS.skip ?_
    | (refine CS.region (id := 0) ?_;
        refine RS.box rfl rfl (fun b => ?_);
        refine RS.box rfl rfl (fun b => ?_);
        refine RS.pv (PV.all tab_ok rfl) rfl ?_;
        refine RS.nil ?_)
    | (refine CS.region (id := 1) ?_;
        (first | refine RS.lv (LV.load tab_ok rfl (Has.own 0 rfl) rfl) rfl ?_ | refine RS.lv (LV.load tab_ok rfl (Has.own 1 rfl) rfl) rfl ?_ | refine RS.lv (LV.load tab_ok rfl (Has.own 2 rfl) rfl) rfl ?_);
        (first | refine RS.lv (LV.load tab_ok rfl (Has.own 0 rfl) rfl) rfl ?_ | refine RS.lv (LV.load tab_ok rfl (Has.own 1 rfl) rfl) rfl ?_ | refine RS.lv (LV.load tab_ok rfl (Has.own 2 rfl) rfl) rfl ?_);
        (refine RS.callB (SameRecord_s _ _ _ _ _ _ hr hs hok) rfl (by kernel_rfl) rfl (fun h => ?_) (fun h => ?_));
        (all_goals refine RS.pv (PV.all tab_ok rfl) rfl ?_);
        (all_goals refine RS.nil ?_))
    | refine CS.ret ?_
    | refine thenQ.ret ?_
    | refine blkQ.ret ?_
    | refine retQ.ret ?_
    | refine CS.block ?_
    | refine CS.exit ?_
    | refine thenQ.exit ?_
    | refine blkQ.normal ?_
    | refine blkQ.here ?_
    | refine blkQ.past rfl ?_
    | refine retQ.normal ?_)
  · exact ⟨[_, _], congrArg Value.bool (decide_eq_true h).symm, rfl, rfl⟩
  · exact ⟨[_, _], congrArg Value.bool (decide_eq_false h).symm, rfl, rfl⟩
end Go.Proofs.Ytmcajldlcomegaa
