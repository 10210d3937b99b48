/- RescanCompares: the walk. -/
import Derived.Test.YtmcajldlcomegaaW61
namespace Go.Proofs.Ytmcajldlcomegaa
open Go Go.Eng

theorem RCompares_s (ac bc : List Value) (A B : WorldD) (i : Imm) (L : SH) (hA : WorldV i ac A) (oA : A.ok) (la0 : A.recs.length ≤ 10000000000000) (la4 : A.mods.length ≤ 10000000000000) (hB : WorldV i bc B) (oB : B.ok) (lb0 : B.recs.length ≤ 10000000000000) (lb4 : B.mods.length ≤ 10000000000000) :
    FnS Try.prog 12 [.agg ac.toArray, .agg bc.toArray] i L fun v _ _ => v = .bool true := by
  obtain ⟨a0, c0, a1, c1, a2, c2, a3, c3, a4, c4, rfl, -⟩ := hA.lit
  obtain ⟨b0, d0, b1, d1, b2, d2, b3, d3, b4, d4, rfl, -⟩ := hB.lit
  refine FnS.intro1 Try.func12 rfl Try.ntmps12 (by simp) Try.results12 ?_
  repeat' (first
    | refine CS.seq ?_
    | refine thenQ.normal ?_
    | refine CS.cond_true rfl ?_
    | refine CS.cond_false rfl ?_
    | refine CS.skip ?_
    | (refine CS.region (id := 0) ?_;
        refine RS.box rfl rfl (fun b => ?_);
        refine RS.box rfl rfl (fun b => ?_);
        refine RS.pv (PV.all tab_ok rfl) rfl ?_;
        refine RS.nil ?_)
    | (refine CS.region (id := 1) ?_;
        (first | refine RS.lv (LV.load tab_ok rfl (Has.own 0 rfl) rfl) rfl ?_ | refine RS.lv (LV.load tab_ok rfl (Has.own 1 rfl) rfl) rfl ?_ | refine RS.lv (LV.load tab_ok rfl (Has.own 2 rfl) rfl) rfl ?_);
        (refine RS.call (few_37 _ A _ _ hA oA la0 la4) rfl (by kernel_rfl) rfl ?_; rintro v i1 L1 hi1 ⟨hL1, q1, rfl, hf1⟩; subst hL1; cases q1);
        (all_goals refine RS.pv (PV.all tab_ok rfl) rfl ?_);
        (all_goals refine RS.pv (PV.all tab_ok rfl) rfl ?_);
        (all_goals (first | refine RS.lv (LV.load tab_ok rfl (Has.own 0 rfl) rfl) rfl ?_ | refine RS.lv (LV.load tab_ok rfl (Has.own 1 rfl) rfl) rfl ?_ | refine RS.lv (LV.load tab_ok rfl (Has.own 2 rfl) rfl) rfl ?_ | refine RS.skip rfl ?_));
        (all_goals (first | (refine RS.call (few_37 _ B _ _ (hB.le hi1) oB lb0 lb4) rfl (by kernel_rfl) rfl ?_; rintro v i2 L2 hi2 ⟨hL2, q2, rfl, hf2⟩; subst hL2; cases q2) | refine RS.skip rfl ?_));
        (all_goals (first | refine RS.pv (PV.all tab_ok rfl) rfl ?_ | refine RS.skip rfl ?_));
        (all_goals refine RS.pv (PV.all tab_ok rfl) rfl ?_);
        (all_goals refine RS.nil ?_))
    | (refine CS.region (id := 2) ?_;
        (refine RS.call (known_38 _ _) rfl (by kernel_rfl) rfl ?_; rintro v i3 L3 hi3 ⟨rfl, hL3⟩; subst hL3);
        (all_goals refine RS.pv (PV.all tab_ok rfl) rfl ?_);
        (all_goals refine RS.nil ?_))
    | refine CS.ret ?_
    | refine thenQ.ret ?_
    | refine blkQ.ret ?_
    | refine retQ.ret ?_
    | refine CS.block ?_
    | refine CS.exit ?_
    | refine thenQ.exit ?_
    | refine blkQ.normal ?_
    | refine blkQ.here ?_
    | refine blkQ.past rfl ?_
    | refine retQ.normal ?_)
  · rfl
  · rfl
  have fA := hf1 rfl
  have fB := hf2 rfl
  replace hA := (hA.le hi1).le hi2
  replace hB := (hB.le hi1).le hi2
  refine CS.draw0 mix [0, 1, 2, 3, 4, 5, 6, 7, 8, 9, 10, 11, 12, 13, 14, 15, 16] [17] (by kernel_rfl) rfl ?_
  (first | refine GS.lv (fun _i _hi => LV.load tab_ok rfl (Has.own 0 rfl) rfl) rfl rfl rfl rfl rfl rfl ?_ | refine GS.lv (fun _i _hi => LV.load tab_ok rfl (Has.own 1 rfl) rfl) rfl rfl rfl rfl rfl rfl ?_ | refine GS.lv (fun _i _hi => LV.load tab_ok rfl (Has.own 2 rfl) rfl) rfl rfl rfl rfl rfl rfl ?_)
  (first | refine GS.lv (fun _i _hi => LV.load tab_ok rfl (Has.own 0 rfl) rfl) rfl rfl rfl rfl rfl rfl ?_ | refine GS.lv (fun _i _hi => LV.load tab_ok rfl (Has.own 1 rfl) rfl) rfl rfl rfl rfl rfl rfl ?_ | refine GS.lv (fun _i _hi => LV.load tab_ok rfl (Has.own 2 rfl) rfl) rfl rfl rfl rfl rfl rfl ?_)
  refine GS.fact0 (fun i v => ∃ l : List Diff, Sl i v 3 l.length (diffs l) ∧ WDiff A B l ∧ l.length ≤ 10000000) (fun _ _ hi _ ⟨l, h1, h2⟩ => ⟨l, h1.le hi, h2⟩) rfl rfl rfl rfl rfl rfl (fun i' hi => OpS.call (by kernel_rfl) rfl (Compare_40 _ _ A B i' _ (hA.le hi) (hB.le hi) oA oB fA fB) (fun _ _ _ _ h => h)) ?_
  (first | refine GS.lv (fun _i _hi => LV.load tab_ok rfl (Has.own 0 rfl) rfl) rfl rfl rfl rfl rfl rfl ?_ | refine GS.lv (fun _i _hi => LV.load tab_ok rfl (Has.own 1 rfl) rfl) rfl rfl rfl rfl rfl rfl ?_ | refine GS.lv (fun _i _hi => LV.load tab_ok rfl (Has.own 2 rfl) rfl) rfl rfl rfl rfl rfl rfl ?_)
  (first | refine GS.lv (fun _i _hi => LV.load tab_ok rfl (Has.own 0 rfl) rfl) rfl rfl rfl rfl rfl rfl ?_ | refine GS.lv (fun _i _hi => LV.load tab_ok rfl (Has.own 1 rfl) rfl) rfl rfl rfl rfl rfl rfl ?_ | refine GS.lv (fun _i _hi => LV.load tab_ok rfl (Has.own 2 rfl) rfl) rfl rfl rfl rfl rfl rfl ?_)
  refine GS.fact0 (fun i v => ∃ l : List Diff, Sl i v 3 l.length (diffs l) ∧ WDiff A B l) (fun _ _ hi _ ⟨l, h1, h2⟩ => ⟨l, h1.le hi, h2⟩) rfl rfl rfl rfl rfl rfl (fun i' hi => OpS.call (by kernel_rfl) rfl (Compare_41 _ _ A B i' _ (hA.le hi) (hB.le hi) oA oB fA fB) (fun _ _ _ _ h => h)) ?_
  refine GS.valF (v := .bool true) rfl rfl rfl rfl (fun i' hi => by rintro v1 ⟨l1, h1, e1, n1⟩ v2 ⟨l2, h2, e2⟩; obtain rfl := e1.unique e2; exact ⟨rfl, OpS.call (by kernel_rfl) rfl (SameDiffs_s _ _ l1 i' _ h1 h2 (by omega)) (fun _ _ _ _ ⟨h1, _, h2⟩ => ⟨h2, h1⟩)⟩) ?_
  refine GS.pv (PV.all tab_ok rfl) rfl rfl rfl rfl rfl rfl ?_
  (first | refine GS.lv (fun _i _hi => LV.load tab_ok rfl (Has.own 0 rfl) rfl) rfl rfl rfl rfl rfl rfl ?_ | refine GS.lv (fun _i _hi => LV.load tab_ok rfl (Has.own 1 rfl) rfl) rfl rfl rfl rfl rfl rfl ?_ | refine GS.lv (fun _i _hi => LV.load tab_ok rfl (Has.own 2 rfl) rfl) rfl rfl rfl rfl rfl rfl ?_ | refine GS.skip rfl rfl rfl rfl rfl ?_)
  (first | refine GS.lv (fun _i _hi => LV.load tab_ok rfl (Has.own 0 rfl) rfl) rfl rfl rfl rfl rfl rfl ?_ | refine GS.lv (fun _i _hi => LV.load tab_ok rfl (Has.own 1 rfl) rfl) rfl rfl rfl rfl rfl rfl ?_ | refine GS.lv (fun _i _hi => LV.load tab_ok rfl (Has.own 2 rfl) rfl) rfl rfl rfl rfl rfl rfl ?_ | refine GS.skip rfl rfl rfl rfl rfl ?_)
  refine GS.fact0 (fun (_ : Imm) v => ∃ (ao : Option Addr) (cap : Nat), v = Value.slice ao 0 cap) (fun _ _ _ _ h => h) rfl rfl rfl rfl rfl rfl (fun i' hi => OpS.call (by kernel_rfl) rfl (Compare_40 _ _ A A i' _ (hA.le hi) (hA.le hi) oA oA fA fA) (fun _ _ _ _ ⟨h1, l, ⟨ao, cap, hv, _⟩, h3, _⟩ => ⟨h1, ao, cap, by rw [hv, h3.self oA]; rfl⟩)) ?_
  refine GS.valF (v := .int .i64 ((0 : Nat) : Int)) rfl rfl rfl rfl (fun i' hi => by rintro v ⟨ao, cap, rfl⟩; exact ⟨rfl, OpS.len tab_ok rfl rfl⟩) ?_
  (first | refine GS.pv (PV.all tab_ok rfl) rfl rfl rfl rfl rfl rfl ?_ | refine GS.pv (PV.eqlT rfl rfl (by omega)) rfl rfl rfl rfl rfl rfl ?_ | refine GS.pv (PV.eqlF rfl rfl (by omega)) rfl rfl rfl rfl rfl rfl ?_ | refine GS.ifEql rfl rfl rfl rfl rfl rfl rfl (fun h => ?_) (fun h => ?_) | refine GS.ifSeql rfl rfl rfl rfl rfl rfl rfl (fun h => ?_) (fun h => ?_) | refine GS.skip rfl rfl rfl rfl rfl ?_)
  (all_goals refine GS.pv (PV.all tab_ok rfl) rfl rfl rfl rfl rfl rfl ?_)
  (all_goals refine GS.pv (PV.all tab_ok rfl) rfl rfl rfl rfl rfl rfl ?_)
  (all_goals refine GS.val0 (v := .bool true) rfl rfl rfl rfl rfl rfl (fun i' hi => OpS.call (by kernel_rfl) rfl (known_38 _ _) (fun _ _ _ _ ⟨h1, h2⟩ => ⟨h2, h1⟩)) ?_)
  (all_goals refine GS.pv (PV.all tab_ok rfl) rfl rfl rfl rfl rfl rfl ?_)
  refine GS.done rfl rfl (fun i5 hi5 => ?_)
  rintro v24 _ v19 _ v16 _
  refine RS.pv (PV.all tab_ok rfl) rfl ?_
  refine RS.nil ?_
  refine thenQ.normal ?_
  refine CS.ret ?_
  refine retQ.ret ?_
  rfl
end Go.Proofs.Ytmcajldlcomegaa
