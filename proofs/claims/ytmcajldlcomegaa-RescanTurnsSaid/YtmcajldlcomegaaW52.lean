/- RescanCompares, part 7: slices.Grow and slices.Concat of lists of differences. -/
import Derived.Test.YtmcajldlcomegaaW50
import Derived.Test.YtmcajldlcomegaaEng18
namespace Go.Proofs.Ytmcajldlcomegaa
open Go Go.Eng

theorem Grow_91 (n : Nat) (hn : n ≤ 1000000000000) (i : Imm) (L : SH) : FnS Try.prog 91 [.slice none 0 0, .int .i64 (n : Int)] i L fun v i' L' => i = i' ∧ ∃ O, SlO 85 v 3 0 [] O ∧ L' = O ++ L := by
  refine FnS.intro1 Try.func91 rfl Try.ntmps91 (by simp) Try.results91 ?_
  have hz : ((n : Nat) : Int) - ((((0 : Nat)) : Int) - (((0 : Nat)) : Int)) = (n : Int) := by omega
  by_cases h0 : n = 0
  · subst h0
    repeat' (first
      | refine CS.seq ?_
      | refine thenQ.normal ?_
      | refine CS.cond_true rfl ?_
      | refine CS.cond_false rfl ?_
      | refine CS.skip ?_
      | (refine CS.region (id := 0) ?_;
          refine RS.pv (PV.all tab_ok rfl) rfl ?_;
          refine RS.nil ?_)
      | (refine CS.region (id := 1) ?_;
          refine RS.pv (PV.all tab_ok rfl) rfl ?_;
          (first | refine RS.pv (PV.lssT rfl rfl (by omega)) rfl ?_ | refine RS.pv (PV.lssF rfl rfl (by omega)) rfl ?_ | refine RS.ifLss rfl rfl rfl (fun h => ?_) (fun h => ?_));
          (all_goals refine RS.nil ?_))
      | (refine CS.region (id := 3) ?_;
          refine RS.pv (PV.all tab_ok rfl) rfl ?_;
          refine RS.pv (PV.all tab_ok rfl) rfl ?_;
          refine RS.pv (PV.capS tab_ok rfl rfl) rfl ?_;
          (all_goals refine RS.pv (PV.all tab_ok rfl) rfl ?_);
          (all_goals (first | refine RS.pv (PV.lenS tab_ok rfl rfl) rfl ?_ | refine RS.pv (PV.lenT tab_ok rfl rfl) rfl ?_));
          (all_goals refine RS.pv (PV.sub rfl rfl (by omega)) rfl ?_);
          (all_goals refine RS.pv (PV.sub rfl rfl (by omega)) rfl ?_);
          (all_goals refine RS.pv (PV.all tab_ok rfl) rfl ?_);
          (all_goals refine RS.nil ?_))
      | (refine CS.region (id := 4) ?_;
          refine RS.pv (PV.all tab_ok rfl) rfl ?_;
          (first | refine RS.pv (PV.gtrT rfl rfl (by omega)) rfl ?_ | refine RS.pv (PV.gtrF rfl rfl (by omega)) rfl ?_ | refine RS.ifGtr rfl rfl rfl (fun h => ?_) (fun h => ?_));
          (all_goals refine RS.nil ?_))
      | (refine CS.region (id := 6) ?_;
          refine RS.pv (PV.all tab_ok rfl) rfl ?_;
          refine RS.pv (PV.all tab_ok rfl) rfl ?_;
          refine RS.nil ?_)
      | refine CS.ret ?_
      | refine thenQ.ret ?_
      | refine blkQ.ret ?_
      | refine retQ.ret ?_
      | refine CS.block ?_
      | refine CS.exit ?_
      | refine thenQ.exit ?_
      | refine blkQ.normal ?_
      | refine blkQ.here ?_
      | refine blkQ.past rfl ?_
      | refine retQ.normal ?_)
    exact ⟨rfl, [], SlO.nil 85 3, rfl⟩
  · repeat' (first
      | refine CS.seq ?_
      | refine thenQ.normal ?_
      | refine CS.cond_true rfl ?_
      | refine CS.cond_false rfl ?_
      | refine CS.skip ?_
      | (refine CS.region (id := 0) ?_;
          refine RS.pv (PV.all tab_ok rfl) rfl ?_;
          refine RS.nil ?_)
      | (refine CS.region (id := 1) ?_;
          refine RS.pv (PV.all tab_ok rfl) rfl ?_;
          (first | refine RS.pv (PV.lssT rfl rfl (by omega)) rfl ?_ | refine RS.pv (PV.lssF rfl rfl (by omega)) rfl ?_ | refine RS.ifLss rfl rfl rfl (fun h => ?_) (fun h => ?_));
          (all_goals refine RS.nil ?_))
      | (refine CS.region (id := 3) ?_;
          refine RS.pv (PV.all tab_ok rfl) rfl ?_;
          refine RS.pv (PV.all tab_ok rfl) rfl ?_;
          refine RS.pv (PV.capS tab_ok rfl rfl) rfl ?_;
          (all_goals refine RS.pv (PV.all tab_ok rfl) rfl ?_);
          (all_goals (first | refine RS.pv (PV.lenS tab_ok rfl rfl) rfl ?_ | refine RS.pv (PV.lenT tab_ok rfl rfl) rfl ?_));
          (all_goals refine RS.pv (PV.sub rfl rfl (by omega)) rfl ?_);
          (all_goals (refine RS.pv (PV.sub rfl rfl (by omega)) rfl ?_; rw [hz]));
          (all_goals refine RS.pv (PV.all tab_ok rfl) rfl ?_);
          (all_goals refine RS.nil ?_))
      | (refine CS.region (id := 4) ?_;
          refine RS.pv (PV.all tab_ok rfl) rfl ?_;
          (first | refine RS.pv (PV.gtrT rfl rfl (by omega)) rfl ?_ | refine RS.pv (PV.gtrF rfl rfl (by omega)) rfl ?_ | refine RS.ifGtr rfl rfl rfl (fun h => ?_) (fun h => ?_));
          (all_goals refine RS.nil ?_))
      | (refine CS.region (id := 5) ?_;
          refine RS.pv (PV.all tab_ok rfl) rfl ?_;
          refine RS.pv (PV.all tab_ok rfl) rfl ?_;
          refine RS.pv (PV.capS tab_ok rfl rfl) rfl ?_;
          (all_goals refine RS.pv (PV.sliceHi tab_ok rfl rfl rfl (.inl rfl) ⟨by omega, by omega⟩) rfl ?_);
          (all_goals refine RS.pv (PV.all tab_ok rfl) rfl ?_);
          (all_goals refine RS.appendZ tab_ok (sz := 3) (bytes := 32) (m := n) rfl rfl rfl ⟨_, rfl, rfl⟩ rfl ⟨_, rfl, rfl, rfl⟩ (by omega) (by omega) (by omega) (by omega) (fun b cap cs h1 h2 => ?_));
          (all_goals refine RS.pv (PV.all tab_ok rfl) rfl ?_);
          (all_goals (first | refine RS.pv (PV.lenS tab_ok rfl rfl) rfl ?_ | refine RS.pv (PV.lenT tab_ok rfl rfl) rfl ?_));
          (all_goals refine RS.pv (PV.sliceHi tab_ok rfl rfl rfl (.inr ⟨_, _, rfl⟩) ⟨by omega, by omega⟩) rfl ?_);
          (all_goals refine RS.pv (PV.all tab_ok rfl) rfl ?_);
          (all_goals refine RS.nil ?_))
      | (refine CS.region (id := 6) ?_;
          refine RS.pv (PV.all tab_ok rfl) rfl ?_;
          refine RS.pv (PV.all tab_ok rfl) rfl ?_;
          refine RS.nil ?_)
      | refine CS.ret ?_
      | refine thenQ.ret ?_
      | refine blkQ.ret ?_
      | refine retQ.ret ?_
      | refine CS.block ?_
      | refine CS.exit ?_
      | refine thenQ.exit ?_
      | refine blkQ.normal ?_
      | refine blkQ.here ?_
      | refine blkQ.past rfl ?_
      | refine retQ.normal ?_)
    exact ⟨rfl, _, ⟨rfl, .inr ⟨b, cap, cs, rfl, Nat.zero_le _, by simpa using h2, rfl⟩⟩, rfl⟩
/-- how many in all -/
def lens (ps : List (Value × List Diff)) : Nat := (ps.map fun p => p.2.length).sum
theorem lens_cat (ps : List (Value × List Diff)) : (ps.flatMap fun p => p.2).length = lens ps := by simp [lens, List.length_flatMap]
theorem lens_take {ps : List (Value × List Diff)} {k : Nat} {p : Value × List Diff} (h : ps[k]? = some p) : lens (ps.take (k + 1)) = lens (ps.take k) + p.2.length := by
  simp [lens, List.take_add_one, h]
theorem cat_take {ps : List (Value × List Diff)} {k : Nat} {p : Value × List Diff} (h : ps[k]? = some p) : (ps.take (k + 1)).flatMap (fun p => p.2) = (ps.take k).flatMap (fun p => p.2) ++ p.2 := by
  simp [List.take_add_one, h]
theorem lens_le (ps : List (Value × List Diff)) (k : Nat) : lens (ps.take k) ≤ lens ps := by
  have h : lens ps = lens (ps.take k) + lens (ps.drop k) := by
    unfold lens
    rw [← List.sum_append, ← List.map_append, List.take_append_drop]
  omega
theorem diffs_app (a b : List Diff) : diffs (a ++ b) = diffs a ++ diffs b := by simp [diffs]
theorem diffs_one (l : List Diff) : ∀ c ∈ diffs l, c.oneCell' = true := by
  intro c hc
  simp only [diffs, List.mem_flatMap, List.mem_cons, List.not_mem_nil, or_false] at hc
  obtain ⟨d, _, rfl | rfl | rfl⟩ := hc <;> rfl
theorem Concat_63 (ps : List (Value × List Diff)) (v : Value) (i : Imm) (L : SH) (hv : Sl i v 1 ps.length (ps.map fun p => p.1)) (hp : ∀ p ∈ ps, Sl i p.1 3 p.2.length (diffs p.2)) (hn : ps.length ≤ 1000) (hl : lens ps ≤ 1000000000000) :
    FnS Try.prog 63 [v] i L fun u i' L' => L' = L ∧ Sl i' u 3 (ps.flatMap fun p => p.2).length (diffs (ps.flatMap fun p => p.2)) := by
  refine FnS.state (K := fun u i' L' => ∃ O, SlO 85 u 3 (ps.flatMap fun p => p.2).length (diffs (ps.flatMap fun p => p.2)) O ∧ L' = O ++ L) ?_ ?_
  rotate_left
  · rintro v i' L' w _ hs ⟨O, hO, rfl⟩
    obtain ⟨i2, h1, h2, h3⟩ := hO.freeze hs
    exact ⟨i2, L, h1, h2, rfl, h3⟩
  obtain ⟨ao, cap, rfl, -⟩ := id hv
  refine FnS.intro1 Try.func63 rfl Try.ntmps63 (by simp) Try.results63 ?_
  repeat' (first
    | refine CS.seq ?_
    | refine thenQ.normal ?_
    | refine CS.cond_true rfl ?_
    | refine CS.cond_false rfl ?_
    | refine CS.skip ?_
    | (refine CS.region (id := 0) ?_;
        refine RS.pv (PV.all tab_ok rfl) rfl ?_;
        refine RS.nil ?_)
    | (refine CS.region (id := 1) ?_;
        refine RS.pv (PV.all tab_ok rfl) rfl ?_;
        refine RS.nil ?_)
    | (refine CS.region (id := 2) ?_;
        refine RS.pv (PV.all tab_ok rfl) rfl ?_;
        (first | refine RS.pv (PV.lenS tab_ok rfl rfl) rfl ?_ | refine RS.pv (PV.lenT tab_ok rfl rfl) rfl ?_);
        refine RS.pv (PV.all tab_ok rfl) rfl ?_;
        refine RS.nil ?_)
    | refine CS.ret ?_
    | refine thenQ.ret ?_
    | refine blkQ.ret ?_
    | refine retQ.ret ?_
    | refine CS.block ?_
    | refine CS.exit ?_
    | refine thenQ.exit ?_
    | refine blkQ.normal ?_
    | refine blkQ.here ?_
    | refine blkQ.past rfl ?_
    | refine retQ.normal ?_)
  refine CS.loop [0, 3, 9, 10, 11] (fun m vs i' L' => ∃ k : Nat, m = ps.length - k ∧ k ≤ ps.length ∧ vs = [.slice ao ps.length cap, .int .i64 (lens (ps.take k) : Int), .slice ao ps.length cap, .int .i64 ps.length, .int .i64 (k : Int)] ∧ i = i' ∧ L = L') ps.length ⟨0, rfl, Nat.zero_le _, rfl, rfl, rfl⟩ ?_
  rintro m g vs i' L' hi ⟨k, rfl, hk, rfl, rfl, rfl⟩
  by_cases hlt : k < ps.length
  · obtain ⟨b1, o1, c1, t1, z1, p1, e1, g1, h1⟩ := hv.at hlt (by omega)
    cases e1
    obtain ⟨⟨pv, pl⟩, hpk⟩ : ∃ p, ps[k]? = some p := ⟨_, List.getElem?_eq_getElem hlt⟩
    have q1 := h1 0 (by omega)
    rw [show (ps.map fun p => p.1)[k * 1 + 0]? = some pv by simp [hpk]] at q1
    have hs : Sl i pv 3 pl.length (diffs pl) := hp _ (List.mem_of_getElem? hpk)
    obtain ⟨pa, pc, rfl, -⟩ := id hs
    have hlk := lens_take hpk
    have hle := lens_le ps (k + 1)
    simp only at hlk
    repeat' (first
      | refine CS.seq ?_
      | refine thenQ.normal ?_
      | refine CS.cond_true rfl ?_
      | refine CS.cond_false rfl ?_
      | refine CS.skip ?_
      | (refine CS.region (id := 3) ?_;
          (first | refine RS.pv (PV.lssT rfl rfl (by omega)) rfl ?_ | refine RS.pv (PV.lssF rfl rfl (by omega)) rfl ?_ | refine RS.ifLss rfl rfl rfl (fun h => ?_) (fun h => ?_));
          (all_goals refine RS.nil ?_))
      | (refine CS.region (id := 4) ?_;
          (first | refine RS.pv (PV.indexAddr tab_ok rfl rfl rfl (by omega)) rfl ?_ | refine RS.pv (PV.indexAddrA tab_ok rfl rfl rfl (by omega)) rfl ?_);
          refine RS.lv (LV.load1 tab_ok rfl (Has.imm g1) rfl q1) rfl ?_;
          (all_goals refine RS.pv (PV.all tab_ok rfl) rfl ?_);
          (all_goals refine RS.nil ?_))
      | (refine CS.region (id := 5) ?_;
          refine RS.pv (PV.all tab_ok rfl) rfl ?_;
          refine RS.pv (PV.all tab_ok rfl) rfl ?_;
          (first | refine RS.pv (PV.lenS tab_ok rfl rfl) rfl ?_ | refine RS.pv (PV.lenT tab_ok rfl rfl) rfl ?_);
          refine RS.pv (PV.add rfl rfl (by omega)) rfl ?_;
          refine RS.pv (PV.all tab_ok rfl) rfl ?_;
          refine RS.nil ?_)
      | (refine CS.region (id := 6) ?_;
          refine RS.pv (PV.all tab_ok rfl) rfl ?_;
          (first | refine RS.pv (PV.lssT rfl rfl (by omega)) rfl ?_ | refine RS.pv (PV.lssF rfl rfl (by omega)) rfl ?_ | refine RS.ifLss rfl rfl rfl (fun h => ?_) (fun h => ?_));
          (all_goals refine RS.nil ?_))
      | (refine CS.region (id := 8) ?_;
          refine RS.pv (PV.add rfl rfl (by omega)) rfl ?_;
          refine RS.pv (PV.all tab_ok rfl) rfl ?_;
          refine RS.nil ?_)
      | refine CS.ret ?_
      | refine thenQ.ret ?_
      | refine blkQ.ret ?_
      | refine retQ.ret ?_
      | refine CS.block ?_
      | refine CS.exit ?_
      | refine thenQ.exit ?_
      | refine blkQ.normal ?_
      | refine blkQ.here ?_
      | refine blkQ.past rfl ?_
      | refine retQ.normal ?_)
    exact ⟨ps.length - (k + 1), by omega, k + 1, rfl, hlt, by rw [hlk]; rfl, rfl, rfl⟩
  · have : k = ps.length := by omega
    subst this
    rw [List.take_length]
    repeat' (first
      | refine CS.seq ?_
      | refine thenQ.normal ?_
      | refine CS.cond_true rfl ?_
      | refine CS.cond_false rfl ?_
      | refine CS.skip ?_
      | (refine CS.region (id := 3) ?_;
          (first | refine RS.pv (PV.lssT rfl rfl (by omega)) rfl ?_ | refine RS.pv (PV.lssF rfl rfl (by omega)) rfl ?_ | refine RS.ifLss rfl rfl rfl (fun h => ?_) (fun h => ?_));
          (all_goals refine RS.nil ?_))
      | (refine CS.region (id := 9) ?_;
          refine RS.pv (PV.all tab_ok rfl) rfl ?_;
          (refine RS.call (Grow_91 (lens ps) hl _ _) rfl (by kernel_rfl) rfl ?_; rintro v i2 L2 hi2 ⟨rfl, O, hO, rfl⟩; obtain ⟨ga, gc, rfl⟩ := SlO.shape hO);
          (all_goals refine RS.pv (PV.all tab_ok rfl) rfl ?_);
          (all_goals refine RS.nil ?_))
      | (refine CS.region (id := 10) ?_;
          refine RS.pv (PV.all tab_ok rfl) rfl ?_;
          (first | refine RS.pv (PV.lenS tab_ok rfl rfl) rfl ?_ | refine RS.pv (PV.lenT tab_ok rfl rfl) rfl ?_);
          refine RS.pv (PV.all tab_ok rfl) rfl ?_;
          refine RS.nil ?_)
      | refine CS.ret ?_
      | refine thenQ.ret ?_
      | refine blkQ.ret ?_
      | refine retQ.ret ?_
      | refine CS.block ?_
      | refine CS.exit ?_
      | refine thenQ.exit ?_
      | refine blkQ.normal ?_
      | refine blkQ.here ?_
      | refine blkQ.past rfl ?_
      | refine retQ.normal ?_)
    refine CS.loop [6, 25, 26, 27] (fun m vs i' L' => ∃ (k : Nat) (O : SH) (oa : Option Addr) (oc : Nat), m = ps.length - k ∧ k ≤ ps.length ∧ SlO 85 (.slice oa (lens (ps.take k)) oc) 3 (lens (ps.take k)) (diffs ((ps.take k).flatMap fun p => p.2)) O ∧ vs = [.slice oa (lens (ps.take k)) oc, .slice ao ps.length cap, .int .i64 ps.length, .int .i64 (k : Int)] ∧ i = i' ∧ L' = O ++ L) ps.length ⟨0, O, ga, gc, rfl, Nat.zero_le _, hO, rfl, rfl, rfl⟩ ?_
    rintro m g vs i' L' hi ⟨k, O, oa, oc, rfl, hk, hO, rfl, rfl, rfl⟩
    by_cases hlt : k < ps.length
    · obtain ⟨b1, o1, c1, t1, z1, p1, e1, g1, h1⟩ := hv.at hlt (by omega)
      cases e1
      obtain ⟨⟨pv, pl⟩, hpk⟩ : ∃ p, ps[k]? = some p := ⟨_, List.getElem?_eq_getElem hlt⟩
      have q1 := h1 0 (by omega)
      rw [show (ps.map fun p => p.1)[k * 1 + 0]? = some pv by simp [hpk]] at q1
      have hs : Sl i pv 3 pl.length (diffs pl) := hp _ (List.mem_of_getElem? hpk)
      obtain ⟨pa, pc, rfl, -⟩ := id hs
      have hlk := lens_take hpk
      have hle := lens_le ps (k + 1)
      have hck := cat_take hpk
      simp only at hlk hck
      repeat' (first
        | refine CS.seq ?_
        | refine thenQ.normal ?_
        | refine CS.cond_true rfl ?_
        | refine CS.cond_false rfl ?_
        | refine CS.skip ?_
        | (refine CS.region (id := 11) ?_;
            (first | refine RS.pv (PV.lssT rfl rfl (by omega)) rfl ?_ | refine RS.pv (PV.lssF rfl rfl (by omega)) rfl ?_ | refine RS.ifLss rfl rfl rfl (fun h => ?_) (fun h => ?_));
            (all_goals refine RS.nil ?_))
        | (refine CS.region (id := 12) ?_;
            (first | refine RS.pv (PV.indexAddr tab_ok rfl rfl rfl (by omega)) rfl ?_ | refine RS.pv (PV.indexAddrA tab_ok rfl rfl rfl (by omega)) rfl ?_);
            refine RS.lv (LV.load1 tab_ok rfl (Has.imm g1) rfl q1) rfl ?_;
            (all_goals refine RS.pv (PV.all tab_ok rfl) rfl ?_);
            (all_goals refine RS.nil ?_))
        | (refine CS.region (id := 13) ?_;
            refine RS.pv (PV.all tab_ok rfl) rfl ?_;
            refine RS.pv (PV.all tab_ok rfl) rfl ?_;
            (refine RS.append tab_ok (sz := 3) (bytes := 32) (k := lens (ps.take k)) (m := pl.length) (xs := diffs ((ps.take k).flatMap (fun p : Value × List Diff => p.2))) (news := diffs pl) rfl rfl rfl ⟨_, rfl, rfl⟩ ⟨_, rfl, rfl, rfl⟩ (by omega) hO rfl (hs.rd _) (diffs_one pl) (by omega) (by omega) ?_; intro v' O' hO' hnil; obtain ⟨oa', oc', rfl⟩ := SlO.shape hO'; have hlen' := hO');
            (all_goals refine RS.pv (PV.all tab_ok rfl) rfl ?_);
            (all_goals refine RS.nil ?_))
        | (refine CS.region (id := 14) ?_;
            refine RS.pv (PV.add rfl rfl (by omega)) rfl ?_;
            refine RS.pv (PV.all tab_ok rfl) rfl ?_;
            refine RS.nil ?_)
        | refine CS.ret ?_
        | refine thenQ.ret ?_
        | refine blkQ.ret ?_
        | refine retQ.ret ?_
        | refine CS.block ?_
        | refine CS.exit ?_
        | refine thenQ.exit ?_
        | refine blkQ.normal ?_
        | refine blkQ.here ?_
        | refine blkQ.past rfl ?_
        | refine retQ.normal ?_)
      exact ⟨ps.length - (k + 1), by omega, k + 1, O', oa', oc', rfl, hlt, by rw [hlk, hck, diffs_app]; exact hO', by rw [hlk]; rfl, rfl, rfl⟩
    · have : k = ps.length := by omega
      subst this
      rw [List.take_length] at hO ⊢
      repeat' (first
        | refine CS.seq ?_
        | refine thenQ.normal ?_
        | refine CS.cond_true rfl ?_
        | refine CS.cond_false rfl ?_
        | refine CS.skip ?_
        | (refine CS.region (id := 11) ?_;
            (first | refine RS.pv (PV.lssT rfl rfl (by omega)) rfl ?_ | refine RS.pv (PV.lssF rfl rfl (by omega)) rfl ?_ | refine RS.ifLss rfl rfl rfl (fun h => ?_) (fun h => ?_));
            (all_goals refine RS.nil ?_))
        | (refine CS.region (id := 15) ?_;
            refine RS.pv (PV.all tab_ok rfl) rfl ?_;
            refine RS.pv (PV.all tab_ok rfl) rfl ?_;
            refine RS.nil ?_)
        | refine CS.ret ?_
        | refine thenQ.ret ?_
        | refine blkQ.ret ?_
        | refine retQ.ret ?_
        | refine CS.block ?_
        | refine CS.exit ?_
        | refine thenQ.exit ?_
        | refine blkQ.normal ?_
        | refine blkQ.here ?_
        | refine blkQ.past rfl ?_
        | refine retQ.normal ?_)
      refine ⟨O, ?_, rfl⟩
      rw [lens_cat]
      exact hO
end Go.Proofs.Ytmcajldlcomegaa
