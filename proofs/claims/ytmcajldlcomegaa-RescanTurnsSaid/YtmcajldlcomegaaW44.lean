/- RescanCompares, part 1: lists of differences. -/
import Derived.Test.YtmcajldlcomegaaW46
namespace Go.Proofs.Ytmcajldlcomegaa
open Go Go.Eng

structure Diff where
  of_ : Int
  how : Int
  name : ByteArray
def diffs (l : List Diff) : List Value := l.flatMap fun d => [.int .i64 d.of_, .int .i64 d.how, .string d.name]
theorem diffs_len : ∀ l : List Diff, (diffs l).length = l.length * 3
  | [] => rfl
  | a :: l => by
    have h := diffs_len l
    have e : diffs (a :: l) = .int .i64 a.of_ :: .int .i64 a.how :: .string a.name :: diffs l := rfl
    rw [e]; simp only [List.length_cons, h]; omega
theorem diffs_at {l : List Diff} {k : Nat} {x : Diff} (h : l[k]? = some x) (d : Nat) (hd : d < 3) : (diffs l)[k * 3 + d]? = [Value.int .i64 x.of_, .int .i64 x.how, .string x.name][d]? := by
  obtain ⟨A, B, e, hA⟩ : ∃ A B, l = A ++ x :: B ∧ A.length = k := by
    obtain ⟨hk, hx⟩ := List.getElem?_eq_some_iff.1 h
    exact ⟨l.take k, l.drop (k + 1), by rw [← hx, List.getElem_cons_drop]; exact (List.take_append_drop k l).symm, by simp; omega⟩
  subst hA
  rw [e]
  have e2 : diffs (A ++ x :: B) = diffs A ++ ([.int .i64 x.of_, .int .i64 x.how, .string x.name] ++ diffs B) := by simp [diffs]
  rw [e2, List.getElem?_append_right (by rw [diffs_len]; omega), diffs_len, Nat.add_sub_cancel_left, List.getElem?_append_left (by simpa using hd)]
/-- equal lists are found equal -/
theorem SameDiffs_s (va vb : Value) (a : List Diff) (i : Imm) (L : SH) (ha : Sl i va 3 a.length (diffs a)) (hb : Sl i vb 3 a.length (diffs a)) (hn : a.length ≤ 9223372036854775807) :
    FnS Try.prog 39 [va, vb] i L fun v i' L' => v = .bool true ∧ i' = i ∧ L' = L := by
  obtain ⟨aa, ac, hva, -⟩ := id ha
  obtain ⟨ba, bc, hvb, -⟩ := id hb
  subst hva
  subst hvb
  refine FnS.intro1 Try.func39 rfl Try.ntmps39 (by simp) Try.results39 ?_
  repeat' (first
    | refine CS.seq ?_
    | refine thenQ.normal ?_
    | refine CS.cond_true rfl ?_
    | refine CS.cond_false rfl ?_
    | refine CS.skip ?_
    | (refine CS.region (id := 0) ?_;
        refine RS.pv (PV.all tab_ok rfl) rfl ?_;
        refine RS.nil ?_)
    | (refine CS.region (id := 1) ?_;
        refine RS.pv (PV.all tab_ok rfl) rfl ?_;
        (first | refine RS.pv (PV.lenS tab_ok rfl rfl) rfl ?_ | refine RS.pv (PV.lenT tab_ok rfl rfl) rfl ?_);
        refine RS.pv (PV.all tab_ok rfl) rfl ?_;
        (first | refine RS.pv (PV.lenS tab_ok rfl rfl) rfl ?_ | refine RS.pv (PV.lenT tab_ok rfl rfl) rfl ?_);
        (first | refine RS.pv (PV.all tab_ok rfl) rfl ?_ | refine RS.pv (PV.neqT rfl rfl (by omega)) rfl ?_ | refine RS.pv (PV.neqF rfl rfl (by omega)) rfl ?_ | refine RS.ifNeq rfl rfl rfl (fun h => ?_) (fun h => ?_) | refine RS.ifSneq rfl rfl rfl (fun h => ?_) (fun h => ?_));
        (all_goals refine RS.nil ?_))
    | (refine CS.region (id := 2) ?_;
        refine RS.pv (PV.all tab_ok rfl) rfl ?_;
        refine RS.nil ?_)
    | (refine CS.region (id := 3) ?_;
        refine RS.pv (PV.all tab_ok rfl) rfl ?_;
        refine RS.nil ?_)
    | refine CS.ret ?_
    | refine thenQ.ret ?_
    | refine blkQ.ret ?_
    | refine retQ.ret ?_
    | refine CS.block ?_
    | refine CS.exit ?_
    | refine thenQ.exit ?_
    | refine blkQ.normal ?_
    | refine blkQ.here ?_
    | refine blkQ.past rfl ?_
    | refine retQ.normal ?_)
  refine CS.loop [0, 1, 5] (fun m vs i' L' => ∃ k : Nat, m = a.length - k ∧ k ≤ a.length ∧ vs = [.slice aa a.length ac, .slice ba a.length bc, .int .i64 (k : Int)] ∧ i' = i ∧ L' = L) a.length ⟨0, rfl, Nat.zero_le _, rfl, rfl, rfl⟩ ?_
  rintro m g vs i' L' hi ⟨k, rfl, hk, rfl, rfl, rfl⟩
  by_cases hlt : k < a.length
  · obtain ⟨b1, o1, c1, t1, z1, p1, e1, g1, h1⟩ := ha.at hlt (by omega)
    obtain ⟨b2, o2, c2, t2, z2, p2, e2, g2, h2⟩ := hb.at (k := k) (by omega) (by omega)
    cases e1
    cases e2
    obtain ⟨x, hx⟩ : ∃ x, a[k]? = some x := ⟨_, List.getElem?_eq_getElem hlt⟩
    have q1 : ∀ j u, [Value.int .i64 x.of_, .int .i64 x.how, .string x.name][j]? = some u → c1[o1 + ((k : Nat) : Int).toNat * 3 + j]? = some u := fun j u hu => by
      have hj : j < 3 := (List.getElem?_eq_some_iff.1 hu).1
      rw [h1 j hj, diffs_at hx j hj]; exact hu
    have q2 : ∀ j u, [Value.int .i64 x.of_, .int .i64 x.how, .string x.name][j]? = some u → c2[o2 + ((k : Nat) : Int).toNat * 3 + j]? = some u := fun j u hu => by
      have hj : j < 3 := (List.getElem?_eq_some_iff.1 hu).1
      rw [h2 j hj, diffs_at hx j hj]; exact hu
    have hst : allEq [.int .i64 x.of_, .int .i64 x.how, .string x.name] [.int .i64 x.of_, .int .i64 x.how, .string x.name] = decide True := by
      simp [allEq, scEq]
    repeat' (first
      | refine CS.seq ?_
      | refine thenQ.normal ?_
      | refine CS.cond_true rfl ?_
      | refine CS.cond_false rfl ?_
      | refine CS.skip ?_
      | (refine CS.region (id := 0) ?_;
          refine RS.pv (PV.all tab_ok rfl) rfl ?_;
          refine RS.nil ?_)
      | (refine CS.region (id := 1) ?_;
          refine RS.pv (PV.all tab_ok rfl) rfl ?_;
          (first | refine RS.pv (PV.lenS tab_ok rfl rfl) rfl ?_ | refine RS.pv (PV.lenT tab_ok rfl rfl) rfl ?_);
          refine RS.pv (PV.all tab_ok rfl) rfl ?_;
          (first | refine RS.pv (PV.lenS tab_ok rfl rfl) rfl ?_ | refine RS.pv (PV.lenT tab_ok rfl rfl) rfl ?_);
          (first | refine RS.pv (PV.all tab_ok rfl) rfl ?_ | refine RS.pv (PV.neqT rfl rfl (by omega)) rfl ?_ | refine RS.pv (PV.neqF rfl rfl (by omega)) rfl ?_ | refine RS.ifNeq rfl rfl rfl (fun h => ?_) (fun h => ?_) | refine RS.ifSneq rfl rfl rfl (fun h => ?_) (fun h => ?_));
          (all_goals refine RS.nil ?_))
      | (refine CS.region (id := 2) ?_;
          refine RS.pv (PV.all tab_ok rfl) rfl ?_;
          refine RS.nil ?_)
      | (refine CS.region (id := 3) ?_;
          refine RS.pv (PV.all tab_ok rfl) rfl ?_;
          refine RS.nil ?_)
      | (refine CS.region (id := 4) ?_;
          refine RS.pv (PV.all tab_ok rfl) rfl ?_;
          refine RS.pv (PV.all tab_ok rfl) rfl ?_;
          (first | refine RS.pv (PV.lenS tab_ok rfl rfl) rfl ?_ | refine RS.pv (PV.lenT tab_ok rfl rfl) rfl ?_);
          (first | refine RS.pv (PV.lssT rfl rfl (by omega)) rfl ?_ | refine RS.pv (PV.lssF rfl rfl (by omega)) rfl ?_ | refine RS.ifLss rfl rfl rfl (fun h => ?_) (fun h => ?_));
          (all_goals refine RS.nil ?_))
      | (refine CS.region (id := 5) ?_;
          refine RS.pv (PV.all tab_ok rfl) rfl ?_;
          refine RS.pv (PV.add rfl rfl (by omega)) rfl ?_;
          refine RS.pv (PV.all tab_ok rfl) rfl ?_;
          refine RS.nil ?_)
      | (refine CS.drawQ (id := 6) mix (by kernel_rfl) ?_;
          refine QS.pv (PV.all tab_ok rfl) rfl ?_;
          refine QS.pv (PV.all tab_ok rfl) rfl ?_;
          (first | refine QS.pv (PV.indexAddr tab_ok rfl rfl rfl (by omega)) rfl ?_ | refine QS.pv (PV.indexAddrA tab_ok rfl rfl rfl (by omega)) rfl ?_);
          refine QS.lv (LV.loadL tab_ok rfl (Has.imm g1) (l := [.int .i64 x.of_, .int .i64 x.how, .string x.name]) rfl rfl rfl q1) rfl ?_;
          (all_goals refine QS.pv (PV.all tab_ok rfl) rfl ?_);
          (all_goals refine QS.pv (PV.all tab_ok rfl) rfl ?_);
          (all_goals (first | refine QS.pv (PV.indexAddr tab_ok rfl rfl rfl (by omega)) rfl ?_ | refine QS.pv (PV.indexAddrA tab_ok rfl rfl rfl (by omega)) rfl ?_));
          (all_goals refine QS.lv (LV.loadL tab_ok rfl (Has.imm g2) (l := [.int .i64 x.of_, .int .i64 x.how, .string x.name]) rfl rfl rfl q2) rfl ?_);
          (all_goals refine QS.pvN (p := True) (by rw [← hst]; exact PV.stneq tab_ok (by kernel_rfl) (by kernel_rfl) rfl rfl (by kernel_rfl)) rfl (fun h => ?_) (fun h => absurd trivial h));
          (all_goals refine QS.nil ?_))
      | (refine CS.region (id := 7) ?_;
          refine RS.pv (PV.all tab_ok rfl) rfl ?_;
          refine RS.nil ?_)
      | refine CS.ret ?_
      | refine thenQ.ret ?_
      | refine blkQ.ret ?_
      | refine retQ.ret ?_
      | refine CS.block ?_
      | refine CS.exit ?_
      | refine thenQ.exit ?_
      | refine blkQ.normal ?_
      | refine blkQ.here ?_
      | refine blkQ.past rfl ?_
      | refine retQ.normal ?_)
    exact ⟨a.length - (k + 1), by omega, k + 1, rfl, hlt, rfl, rfl, rfl⟩
  · repeat' (first
      | refine CS.seq ?_
      | refine thenQ.normal ?_
      | refine CS.cond_true rfl ?_
      | refine CS.cond_false rfl ?_
      | refine CS.skip ?_
      | (refine CS.region (id := 0) ?_;
          refine RS.pv (PV.all tab_ok rfl) rfl ?_;
          refine RS.nil ?_)
      | (refine CS.region (id := 1) ?_;
          refine RS.pv (PV.all tab_ok rfl) rfl ?_;
          (first | refine RS.pv (PV.lenS tab_ok rfl rfl) rfl ?_ | refine RS.pv (PV.lenT tab_ok rfl rfl) rfl ?_);
          refine RS.pv (PV.all tab_ok rfl) rfl ?_;
          (first | refine RS.pv (PV.lenS tab_ok rfl rfl) rfl ?_ | refine RS.pv (PV.lenT tab_ok rfl rfl) rfl ?_);
          (first | refine RS.pv (PV.all tab_ok rfl) rfl ?_ | refine RS.pv (PV.neqT rfl rfl (by omega)) rfl ?_ | refine RS.pv (PV.neqF rfl rfl (by omega)) rfl ?_ | refine RS.ifNeq rfl rfl rfl (fun h => ?_) (fun h => ?_) | refine RS.ifSneq rfl rfl rfl (fun h => ?_) (fun h => ?_));
          (all_goals refine RS.nil ?_))
      | (refine CS.region (id := 2) ?_;
          refine RS.pv (PV.all tab_ok rfl) rfl ?_;
          refine RS.nil ?_)
      | (refine CS.region (id := 3) ?_;
          refine RS.pv (PV.all tab_ok rfl) rfl ?_;
          refine RS.nil ?_)
      | (refine CS.region (id := 4) ?_;
          refine RS.pv (PV.all tab_ok rfl) rfl ?_;
          refine RS.pv (PV.all tab_ok rfl) rfl ?_;
          (first | refine RS.pv (PV.lenS tab_ok rfl rfl) rfl ?_ | refine RS.pv (PV.lenT tab_ok rfl rfl) rfl ?_);
          (first | refine RS.pv (PV.lssT rfl rfl (by omega)) rfl ?_ | refine RS.pv (PV.lssF rfl rfl (by omega)) rfl ?_ | refine RS.ifLss rfl rfl rfl (fun h => ?_) (fun h => ?_));
          (all_goals refine RS.nil ?_))
      | (refine CS.region (id := 8) ?_;
          refine RS.pv (PV.all tab_ok rfl) rfl ?_;
          refine RS.nil ?_)
      | refine CS.ret ?_
      | refine thenQ.ret ?_
      | refine blkQ.ret ?_
      | refine retQ.ret ?_
      | refine CS.block ?_
      | refine CS.exit ?_
      | refine thenQ.exit ?_
      | refine blkQ.normal ?_
      | refine blkQ.here ?_
      | refine blkQ.past rfl ?_
      | refine retQ.normal ?_)
    exact ⟨rfl, rfl, rfl⟩
end Go.Proofs.Ytmcajldlcomegaa
