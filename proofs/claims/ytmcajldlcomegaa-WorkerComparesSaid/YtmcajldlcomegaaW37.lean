/- Contracts: what a record changes (the program's and the reference's). -/
import Derived.Test.YtmcajldlcomegaaW36
namespace Go.Proofs.Ytmcajldlcomegaa
open Go Go.Eng

structure Eff where
  rcd : Bool
  below : Bool
  gone : List ByteArray
  come : List ByteArray
def EffV (i : Imm) (v : Value) (e : Eff) : Prop := ∃ ga gc ca cc, v = .agg (List.toArray [.bool e.rcd, .bool e.below, .slice ga e.gone.length gc, .slice ca e.come.length cc]) ∧ Sl i (.slice ga e.gone.length gc) 1 e.gone.length (strs e.gone) ∧ Sl i (.slice ca e.come.length cc) 1 e.come.length (strs e.come)
theorem EffV.le {i i' : Imm} {v : Value} {e : Eff} (h : EffV i v e) (hi : i.le i') : EffV i' v e := by
  obtain ⟨ga, gc, ca, cc, h1, h2, h3⟩ := h
  exact ⟨ga, gc, ca, cc, h1, h2.le hi, h3.le hi⟩
def belowP (r s : Rec) : Prop := r.index ≠ s.index ∨ r.props ≠ s.props ∨ r.tags ≠ s.tags
/-- what a record in another's place changes -/
def EffOf (r : Rec) (had : Bool) (s : Rec) (e : Eff) : Prop :=
  if had = true then (e.rcd = true ↔ r ≠ s) ∧ (e.below = true ↔ belowP r s) ∧ e.gone = wout r.links s.links ∧ e.come = wout s.links r.links
  else e = ⟨true, true, [], wout s.links []⟩
theorem EffOf.eq {r s : Rec} {had : Bool} {e e' : Eff} (h : EffOf r had s e) (h' : EffOf r had s e') : e = e' := by
  unfold EffOf at h h'
  cases had with
  | false =>
    rw [if_neg (by decide)] at h h'
    rw [h, h']
  | true =>
    rw [if_pos rfl] at h h'
    obtain ⟨h1, h2, h3, h4⟩ := h
    obtain ⟨g1, g2, g3, g4⟩ := h'
    cases e; cases e'
    simp only at h1 h2 h3 h4 g1 g2 g3 g4
    subst h3; subst h4; subst g3; subst g4
    congr 1
    · rw [Bool.eq_iff_iff, h1, g1]
    · rw [Bool.eq_iff_iff, h2, g2]
open Classical in
theorem Compare_s (rc sc : List Value) (r s : Rec) (had : Bool) (i : Imm) (L : SH) (hr : RecV i rc r) (hs : RecV i sc s) (hok : r.small) (hlr : r.links.length ≤ 1000000) (hls : s.links.length ≤ 1000000) :
    FnS Try.prog 35 [.agg rc.toArray, .bool had, .agg sc.toArray] i L fun v i' L' => (∃ e, EffV i' v e ∧ EffOf r had s e) ∧ L' = L := by
  refine FnS.state (K := fun v i' L' => ∃ M e, EffV i' v e ∧ EffOf r had s e ∧ L' = M ++ L) ?_ ?_
  rotate_left
  · rintro v i' L' w _ hs ⟨M, e, h1, h2, rfl⟩
    exact ⟨i', _, Imm.le.refl i', hs.dropL, ⟨e, h1, h2⟩, rfl⟩
  have hcall := fun i' (hi : i.le i') L => recSame_s rc sc r s i' L (hr.le hi) (hs.le hi) hok
  obtain ⟨v2, v3, v4, v5, v6, rfl, g2, g3, g4, -, -⟩ := id hr
  obtain ⟨u2, u3, u4, u5, u6, rfl, k2, k3, k4, -, -⟩ := id hs
  obtain ⟨a2, c2, a3, c3, a4, c4, a5, c5, a6, c6, e1⟩ := hr.lit
  obtain ⟨b2, d2, b3, d3, b4, d4, b5, d5, b6, d6, e2⟩ := hs.lit
  simp only [List.cons.injEq, true_and, and_true] at e1 e2
  obtain ⟨rfl, rfl, rfl, rfl, rfl⟩ := e1
  obtain ⟨rfl, rfl, rfl, rfl, rfl⟩ := e2
  refine FnS.introC tab_ok Try.func35 rfl Try.ntmps35 (by simp) Try.results35 ?_
  cases had with
  | false =>
    repeat' (first
      | refine CS.seq ?_
      | refine thenQ.normal ?_
      | refine CS.cond_true rfl ?_
      | refine CS.cond_false rfl ?_
      | refine CS.skip ?_
      | (refine CS.region (id := 0) ?_;
          refine RS.box rfl rfl (fun b => ?_);
          refine RS.box rfl rfl (fun b => ?_);
          refine RS.alloc tab_ok rfl rfl (fun b => ?_);
          refine RS.nil ?_)
      | (refine CS.region (id := 1) ?_;
          refine RS.pv (PV.all tab_ok rfl) rfl ?_;
          refine RS.pv (PV.all tab_ok rfl) rfl ?_;
          refine RS.nil ?_)
      | (refine CS.region (id := 2) ?_;
          refine RS.pv (PV.all tab_ok rfl) rfl ?_;
          (first | refine RS.lv (LV.load tab_ok rfl (Has.own 0 rfl) rfl) rfl ?_ | refine RS.lv (LV.load tab_ok rfl (Has.own 1 rfl) rfl) rfl ?_ | refine RS.lv (LV.load tab_ok rfl (Has.own 2 rfl) rfl) rfl ?_);
          (refine RS.call (without_s _ _ s.links [] _ _ k4 (Sl.nil _ 1) (by omega) (by simp)) rfl (by kernel_rfl) rfl ?_; rintro v i2 L2 hi2 ⟨hw, rfl⟩; obtain ⟨wa, wc, rfl, -⟩ := id hw);
          (all_goals refine RS.pv (PV.all tab_ok rfl) rfl ?_);
          (all_goals (first | refine RS.store (k := 0) tab_ok rfl rfl rfl rfl rfl rfl rfl rfl ?_ | refine RS.store (k := 1) tab_ok rfl rfl rfl rfl rfl rfl rfl rfl ?_ | refine RS.store (k := 2) tab_ok rfl rfl rfl rfl rfl rfl rfl rfl ?_));
          (all_goals refine RS.nil ?_))
      | refine CS.ret ?_
      | refine thenQ.ret ?_
      | refine blkQ.ret ?_
      | refine retQ.ret ?_
      | refine CS.block ?_
      | refine CS.exit ?_
      | refine thenQ.exit ?_
      | refine blkQ.normal ?_
      | refine blkQ.here ?_
      | refine blkQ.past rfl ?_
      | refine retQ.normal ?_)
    exact ⟨_, 0, _, _, _, _, rfl, Has.own 0 rfl, rfl, [_, _, _], ⟨true, true, [], wout s.links []⟩, ⟨_, _, _, _, rfl, Sl.nil _ 1, hw⟩, by unfold EffOf; rw [if_neg (by decide)], rfl⟩
  | true =>
    obtain ⟨bs, hbs⟩ : ∃ b : Bool, b = decide (r = s) := ⟨_, rfl⟩
    obtain ⟨bp, hbp⟩ : ∃ b : Bool, b = decide (r.props = s.props) := ⟨_, rfl⟩
    obtain ⟨bt, hbt⟩ : ∃ b : Bool, b = decide (r.tags = s.tags) := ⟨_, rfl⟩
    have fs : (!bs) = true ↔ r ≠ s := by rw [hbs]; simp
    repeat' (first
      | refine CS.seq ?_
      | refine thenQ.normal ?_
      | refine CS.cond_true rfl ?_
      | refine CS.cond_false rfl ?_
      | refine CS.skip ?_
      | (refine CS.region (id := 0) ?_;
          refine RS.box rfl rfl (fun b => ?_);
          refine RS.box rfl rfl (fun b => ?_);
          refine RS.alloc tab_ok rfl rfl (fun b => ?_);
          refine RS.nil ?_)
      | (refine CS.region (id := 1) ?_;
          refine RS.pv (PV.all tab_ok rfl) rfl ?_;
          refine RS.pv (PV.all tab_ok rfl) rfl ?_;
          refine RS.nil ?_)
      | refine CS.ret ?_
      | refine thenQ.ret ?_
      | refine blkQ.ret ?_
      | refine retQ.ret ?_
      | refine CS.block ?_
      | refine CS.exit ?_
      | refine thenQ.exit ?_
      | refine blkQ.normal ?_
      | refine blkQ.here ?_
      | refine blkQ.past rfl ?_
      | refine retQ.normal ?_)
    by_cases hix : r.index = s.index
    · have fb : (!bp || !bt) = true ↔ belowP r s := by rw [hbp, hbt]; simp [belowP, hix]
      cases bs <;> cases bp <;> cases bt
      all_goals
        refine CS.draw0 mix [0, 1, 2, 3, 4, 5, 6, 7, 8, 9, 10, 11, 12, 13, 14, 15, 16, 17, 18, 19, 20, 21, 22, 23, 24, 25, 26, 27, 28, 29, 30, 31, 32, 33, 34, 35] [36] (by kernel_rfl) rfl ?_
        (first | refine GS.lv (fun _ _ => LV.load tab_ok rfl (Has.own 0 rfl) rfl) rfl rfl rfl rfl rfl rfl ?_ | refine GS.lv (fun _ _ => LV.load tab_ok rfl (Has.own 1 rfl) rfl) rfl rfl rfl rfl rfl rfl ?_ | refine GS.lv (fun _ _ => LV.load tab_ok rfl (Has.own 2 rfl) rfl) rfl rfl rfl rfl rfl rfl ?_)
        (first | refine GS.lv (fun _ _ => LV.load tab_ok rfl (Has.own 0 rfl) rfl) rfl rfl rfl rfl rfl rfl ?_ | refine GS.lv (fun _ _ => LV.load tab_ok rfl (Has.own 1 rfl) rfl) rfl rfl rfl rfl rfl rfl ?_ | refine GS.lv (fun _ _ => LV.load tab_ok rfl (Has.own 2 rfl) rfl) rfl rfl rfl rfl rfl rfl ?_)
        (first | refine GS.valF rfl rfl rfl rfl (fun i' hi => ⟨rfl, OpS.call (by kernel_rfl) rfl (hcall i' hi _) (fun _ _ _ _ h => ⟨h.2.2, h.1.trans (congrArg Value.bool hbs.symm)⟩)⟩) ?_ | refine GS.skip rfl rfl rfl rfl rfl ?_)
        (all_goals refine GS.pv (PV.all tab_ok rfl) rfl rfl rfl rfl rfl rfl ?_)
        (all_goals refine GS.pv (PV.all tab_ok rfl) rfl rfl rfl rfl rfl rfl ?_)
        (all_goals (first | refine GS.lv (fun _ _ => LV.load tab_ok rfl (Has.own 0 rfl) rfl) rfl rfl rfl rfl rfl rfl ?_ | refine GS.lv (fun _ _ => LV.load tab_ok rfl (Has.own 1 rfl) rfl) rfl rfl rfl rfl rfl rfl ?_ | refine GS.lv (fun _ _ => LV.load tab_ok rfl (Has.own 2 rfl) rfl) rfl rfl rfl rfl rfl rfl ?_))
        (all_goals refine GS.pv (PV.all tab_ok rfl) rfl rfl rfl rfl rfl rfl ?_)
        (all_goals (first | refine GS.lv (fun _ _ => LV.load tab_ok rfl (Has.own 0 rfl) rfl) rfl rfl rfl rfl rfl rfl ?_ | refine GS.lv (fun _ _ => LV.load tab_ok rfl (Has.own 1 rfl) rfl) rfl rfl rfl rfl rfl rfl ?_ | refine GS.lv (fun _ _ => LV.load tab_ok rfl (Has.own 2 rfl) rfl) rfl rfl rfl rfl rfl rfl ?_))
        (all_goals (first | refine GS.pv (PV.all tab_ok rfl) rfl rfl rfl rfl rfl rfl ?_ | refine GS.pv (PV.neqT rfl rfl (by omega)) rfl rfl rfl rfl rfl rfl ?_ | refine GS.pv (PV.neqF rfl rfl (by omega)) rfl rfl rfl rfl rfl rfl ?_ | refine GS.ifNeq rfl rfl rfl rfl rfl rfl rfl (fun h => ?_) (fun h => ?_) | refine GS.ifSneq rfl rfl rfl rfl rfl rfl rfl (fun h => ?_) (fun h => ?_)))
        (all_goals refine GS.pv (PV.all tab_ok rfl) rfl rfl rfl rfl rfl rfl ?_)
        (all_goals (first | refine GS.pv (PV.all tab_ok rfl) rfl rfl rfl rfl rfl rfl ?_ | refine GS.skip rfl rfl rfl rfl rfl ?_))
        (all_goals (first | refine GS.lv (fun _ _ => LV.load tab_ok rfl (Has.own 0 rfl) rfl) rfl rfl rfl rfl rfl rfl ?_ | refine GS.lv (fun _ _ => LV.load tab_ok rfl (Has.own 1 rfl) rfl) rfl rfl rfl rfl rfl rfl ?_ | refine GS.lv (fun _ _ => LV.load tab_ok rfl (Has.own 2 rfl) rfl) rfl rfl rfl rfl rfl rfl ?_ | refine GS.skip rfl rfl rfl rfl rfl ?_))
        (all_goals (first | refine GS.pv (PV.all tab_ok rfl) rfl rfl rfl rfl rfl rfl ?_ | refine GS.skip rfl rfl rfl rfl rfl ?_))
        (all_goals (first | refine GS.lv (fun _ _ => LV.load tab_ok rfl (Has.own 0 rfl) rfl) rfl rfl rfl rfl rfl rfl ?_ | refine GS.lv (fun _ _ => LV.load tab_ok rfl (Has.own 1 rfl) rfl) rfl rfl rfl rfl rfl rfl ?_ | refine GS.lv (fun _ _ => LV.load tab_ok rfl (Has.own 2 rfl) rfl) rfl rfl rfl rfl rfl rfl ?_ | refine GS.skip rfl rfl rfl rfl rfl ?_))
        (all_goals (first | refine GS.valF rfl rfl rfl rfl (fun i' hi => ⟨rfl, OpS.call (by kernel_rfl) rfl (EqualA_s _ _ _ _ i' _ (g2.le hi) (k2.le hi) hok.props) (fun _ _ _ _ h => ⟨h.2.2, h.1.trans (congrArg Value.bool hbp.symm)⟩)⟩) ?_ | refine GS.skip rfl rfl rfl rfl rfl ?_))
        (all_goals (first | refine GS.pv (PV.all tab_ok rfl) rfl rfl rfl rfl rfl rfl ?_ | refine GS.skip rfl rfl rfl rfl rfl ?_))
        (all_goals refine GS.pv (PV.all tab_ok rfl) rfl rfl rfl rfl rfl rfl ?_)
        (all_goals refine GS.pv (PV.all tab_ok rfl) rfl rfl rfl rfl rfl rfl ?_)
        (all_goals (first | refine GS.pv (PV.all tab_ok rfl) rfl rfl rfl rfl rfl rfl ?_ | refine GS.skip rfl rfl rfl rfl rfl ?_))
        (all_goals (first | refine GS.lv (fun _ _ => LV.load tab_ok rfl (Has.own 0 rfl) rfl) rfl rfl rfl rfl rfl rfl ?_ | refine GS.lv (fun _ _ => LV.load tab_ok rfl (Has.own 1 rfl) rfl) rfl rfl rfl rfl rfl rfl ?_ | refine GS.lv (fun _ _ => LV.load tab_ok rfl (Has.own 2 rfl) rfl) rfl rfl rfl rfl rfl rfl ?_ | refine GS.skip rfl rfl rfl rfl rfl ?_))
        (all_goals (first | refine GS.pv (PV.all tab_ok rfl) rfl rfl rfl rfl rfl rfl ?_ | refine GS.skip rfl rfl rfl rfl rfl ?_))
        (all_goals (first | refine GS.lv (fun _ _ => LV.load tab_ok rfl (Has.own 0 rfl) rfl) rfl rfl rfl rfl rfl rfl ?_ | refine GS.lv (fun _ _ => LV.load tab_ok rfl (Has.own 1 rfl) rfl) rfl rfl rfl rfl rfl rfl ?_ | refine GS.lv (fun _ _ => LV.load tab_ok rfl (Has.own 2 rfl) rfl) rfl rfl rfl rfl rfl rfl ?_ | refine GS.skip rfl rfl rfl rfl rfl ?_))
        (all_goals (first | refine GS.valF rfl rfl rfl rfl (fun i' hi => ⟨rfl, OpS.call (by kernel_rfl) rfl (EqualS_s _ _ _ _ i' _ (g3.le hi) (k3.le hi) hok.tags) (fun _ _ _ _ h => ⟨h.2.2, h.1.trans (congrArg Value.bool hbt.symm)⟩)⟩) ?_ | refine GS.skip rfl rfl rfl rfl rfl ?_))
        (all_goals (first | refine GS.pv (PV.all tab_ok rfl) rfl rfl rfl rfl rfl rfl ?_ | refine GS.skip rfl rfl rfl rfl rfl ?_))
        (all_goals refine GS.pv (PV.all tab_ok rfl) rfl rfl rfl rfl rfl rfl ?_)
        (all_goals refine GS.pv (PV.all tab_ok rfl) rfl rfl rfl rfl rfl rfl ?_)
        (all_goals (first | refine GS.lv (fun _ _ => LV.load tab_ok rfl (Has.own 0 rfl) rfl) rfl rfl rfl rfl rfl rfl ?_ | refine GS.lv (fun _ _ => LV.load tab_ok rfl (Has.own 1 rfl) rfl) rfl rfl rfl rfl rfl rfl ?_ | refine GS.lv (fun _ _ => LV.load tab_ok rfl (Has.own 2 rfl) rfl) rfl rfl rfl rfl rfl rfl ?_))
        (all_goals refine GS.pv (PV.all tab_ok rfl) rfl rfl rfl rfl rfl rfl ?_)
        (all_goals (first | refine GS.lv (fun _ _ => LV.load tab_ok rfl (Has.own 0 rfl) rfl) rfl rfl rfl rfl rfl rfl ?_ | refine GS.lv (fun _ _ => LV.load tab_ok rfl (Has.own 1 rfl) rfl) rfl rfl rfl rfl rfl rfl ?_ | refine GS.lv (fun _ _ => LV.load tab_ok rfl (Has.own 2 rfl) rfl) rfl rfl rfl rfl rfl rfl ?_))
        (all_goals refine GS.fact0 (fun i v => ∃ a c, v = .slice a (wout r.links s.links).length c ∧ Sl i v 1 (wout r.links s.links).length (strs (wout r.links s.links))) (fun _ _ hi _ ⟨a, c, h1, h2⟩ => ⟨a, c, h1, h2.le hi⟩) rfl rfl rfl rfl rfl rfl (fun i' hi => OpS.call (by kernel_rfl) rfl (without_s _ _ r.links s.links i' _ (g4.le hi) (k4.le hi) (by omega) (by omega)) (fun _ _ _ _ ⟨hw, hL⟩ => ⟨hL, by obtain ⟨wa, wc, h, -⟩ := id hw; exact ⟨wa, wc, h, hw⟩⟩)) ?_)
        (all_goals refine GS.pv (PV.all tab_ok rfl) rfl rfl rfl rfl rfl rfl ?_)
        (all_goals (first | refine GS.lv (fun _ _ => LV.load tab_ok rfl (Has.own 0 rfl) rfl) rfl rfl rfl rfl rfl rfl ?_ | refine GS.lv (fun _ _ => LV.load tab_ok rfl (Has.own 1 rfl) rfl) rfl rfl rfl rfl rfl rfl ?_ | refine GS.lv (fun _ _ => LV.load tab_ok rfl (Has.own 2 rfl) rfl) rfl rfl rfl rfl rfl rfl ?_))
        (all_goals refine GS.pv (PV.all tab_ok rfl) rfl rfl rfl rfl rfl rfl ?_)
        (all_goals (first | refine GS.lv (fun _ _ => LV.load tab_ok rfl (Has.own 0 rfl) rfl) rfl rfl rfl rfl rfl rfl ?_ | refine GS.lv (fun _ _ => LV.load tab_ok rfl (Has.own 1 rfl) rfl) rfl rfl rfl rfl rfl rfl ?_ | refine GS.lv (fun _ _ => LV.load tab_ok rfl (Has.own 2 rfl) rfl) rfl rfl rfl rfl rfl rfl ?_))
        (all_goals refine GS.fact0 (fun i v => ∃ a c, v = .slice a (wout s.links r.links).length c ∧ Sl i v 1 (wout s.links r.links).length (strs (wout s.links r.links))) (fun _ _ hi _ ⟨a, c, h1, h2⟩ => ⟨a, c, h1, h2.le hi⟩) rfl rfl rfl rfl rfl rfl (fun i' hi => OpS.call (by kernel_rfl) rfl (without_s _ _ s.links r.links i' _ (k4.le hi) (g4.le hi) (by omega) (by omega)) (fun _ _ _ _ ⟨hw, hL⟩ => ⟨hL, by obtain ⟨wa, wc, h, -⟩ := id hw; exact ⟨wa, wc, h, hw⟩⟩)) ?_)
        (all_goals refine GS.factF (fun i v => ∃ rb bb, (rb = true ↔ r ≠ s) ∧ (bb = true ↔ belowP r s) ∧ EffV i v ⟨rb, bb, wout r.links s.links, wout s.links r.links⟩) (fun _ _ hi _ ⟨rb, bb, q1, q2, q3⟩ => ⟨rb, bb, q1, q2, q3.le hi⟩) rfl rfl rfl rfl (fun i' hi => by rintro x1 ⟨y1, z1, rfl, s1⟩ x2 ⟨y2, z2, rfl, s2⟩; exact ⟨rfl, OpS.mono (OpS.pv (PV.all tab_ok rfl)) (fun _ _ _ hi' ⟨h1, h2⟩ => ⟨h1, _, _, fs, fb, _, _, _, _, h2, s1.le hi', s2.le hi'⟩)⟩) ?_)
        refine GS.done rfl rfl (fun i5 hi5 => ?_)
        rintro w1 ⟨rb, bb, q1, q2, ga, gc, ca, cc, rfl, s1, s2⟩ w2 _ w3 _
        refine RS.store (k := 0) tab_ok rfl rfl rfl rfl rfl rfl rfl rfl ?_
        refine RS.nil ?_
        refine thenQ.normal ?_
        refine CS.ret ?_
        refine retQ.ret ?_
        exact ⟨_, 0, _, _, _, _, rfl, Has.own 0 rfl, rfl, [_, _, _], ⟨rb, bb, _, _⟩, ⟨_, _, _, _, rfl, s1, s2⟩, by unfold EffOf; rw [if_pos rfl]; exact ⟨q1, q2, rfl, rfl⟩, rfl⟩
    · have fb : true = true ↔ belowP r s := by simp [belowP, hix]
      cases bs
      all_goals
        refine CS.draw0 mix [0, 1, 2, 3, 4, 5, 6, 7, 8, 9, 10, 11, 12, 13, 14, 15, 16, 17, 18, 19, 20, 21, 22, 23, 24, 25, 26, 27, 28, 29, 30, 31, 32, 33, 34, 35] [36] (by kernel_rfl) rfl ?_
        (first | refine GS.lv (fun _ _ => LV.load tab_ok rfl (Has.own 0 rfl) rfl) rfl rfl rfl rfl rfl rfl ?_ | refine GS.lv (fun _ _ => LV.load tab_ok rfl (Has.own 1 rfl) rfl) rfl rfl rfl rfl rfl rfl ?_ | refine GS.lv (fun _ _ => LV.load tab_ok rfl (Has.own 2 rfl) rfl) rfl rfl rfl rfl rfl rfl ?_)
        (first | refine GS.lv (fun _ _ => LV.load tab_ok rfl (Has.own 0 rfl) rfl) rfl rfl rfl rfl rfl rfl ?_ | refine GS.lv (fun _ _ => LV.load tab_ok rfl (Has.own 1 rfl) rfl) rfl rfl rfl rfl rfl rfl ?_ | refine GS.lv (fun _ _ => LV.load tab_ok rfl (Has.own 2 rfl) rfl) rfl rfl rfl rfl rfl rfl ?_)
        (first | refine GS.valF rfl rfl rfl rfl (fun i' hi => ⟨rfl, OpS.call (by kernel_rfl) rfl (hcall i' hi _) (fun _ _ _ _ h => ⟨h.2.2, h.1.trans (congrArg Value.bool hbs.symm)⟩)⟩) ?_ | refine GS.skip rfl rfl rfl rfl rfl ?_)
        (all_goals refine GS.pv (PV.all tab_ok rfl) rfl rfl rfl rfl rfl rfl ?_)
        (all_goals refine GS.pv (PV.all tab_ok rfl) rfl rfl rfl rfl rfl rfl ?_)
        (all_goals (first | refine GS.lv (fun _ _ => LV.load tab_ok rfl (Has.own 0 rfl) rfl) rfl rfl rfl rfl rfl rfl ?_ | refine GS.lv (fun _ _ => LV.load tab_ok rfl (Has.own 1 rfl) rfl) rfl rfl rfl rfl rfl rfl ?_ | refine GS.lv (fun _ _ => LV.load tab_ok rfl (Has.own 2 rfl) rfl) rfl rfl rfl rfl rfl rfl ?_))
        (all_goals refine GS.pv (PV.all tab_ok rfl) rfl rfl rfl rfl rfl rfl ?_)
        (all_goals (first | refine GS.lv (fun _ _ => LV.load tab_ok rfl (Has.own 0 rfl) rfl) rfl rfl rfl rfl rfl rfl ?_ | refine GS.lv (fun _ _ => LV.load tab_ok rfl (Has.own 1 rfl) rfl) rfl rfl rfl rfl rfl rfl ?_ | refine GS.lv (fun _ _ => LV.load tab_ok rfl (Has.own 2 rfl) rfl) rfl rfl rfl rfl rfl rfl ?_))
        (all_goals (first | refine GS.pv (PV.all tab_ok rfl) rfl rfl rfl rfl rfl rfl ?_ | refine GS.pv (PV.neqT rfl rfl (by omega)) rfl rfl rfl rfl rfl rfl ?_ | refine GS.pv (PV.neqF rfl rfl (by omega)) rfl rfl rfl rfl rfl rfl ?_ | refine GS.ifNeq rfl rfl rfl rfl rfl rfl rfl (fun h => ?_) (fun h => ?_) | refine GS.ifSneq rfl rfl rfl rfl rfl rfl rfl (fun h => ?_) (fun h => ?_)))
        (all_goals refine GS.pv (PV.all tab_ok rfl) rfl rfl rfl rfl rfl rfl ?_)
        (all_goals (first | refine GS.pv (PV.all tab_ok rfl) rfl rfl rfl rfl rfl rfl ?_ | refine GS.skip rfl rfl rfl rfl rfl ?_))
        (all_goals (first | refine GS.lv (fun _ _ => LV.load tab_ok rfl (Has.own 0 rfl) rfl) rfl rfl rfl rfl rfl rfl ?_ | refine GS.lv (fun _ _ => LV.load tab_ok rfl (Has.own 1 rfl) rfl) rfl rfl rfl rfl rfl rfl ?_ | refine GS.lv (fun _ _ => LV.load tab_ok rfl (Has.own 2 rfl) rfl) rfl rfl rfl rfl rfl rfl ?_ | refine GS.skip rfl rfl rfl rfl rfl ?_))
        (all_goals (first | refine GS.pv (PV.all tab_ok rfl) rfl rfl rfl rfl rfl rfl ?_ | refine GS.skip rfl rfl rfl rfl rfl ?_))
        (all_goals (first | refine GS.lv (fun _ _ => LV.load tab_ok rfl (Has.own 0 rfl) rfl) rfl rfl rfl rfl rfl rfl ?_ | refine GS.lv (fun _ _ => LV.load tab_ok rfl (Has.own 1 rfl) rfl) rfl rfl rfl rfl rfl rfl ?_ | refine GS.lv (fun _ _ => LV.load tab_ok rfl (Has.own 2 rfl) rfl) rfl rfl rfl rfl rfl rfl ?_ | refine GS.skip rfl rfl rfl rfl rfl ?_))
        (all_goals (first | refine GS.valF rfl rfl rfl rfl (fun i' hi => ⟨rfl, OpS.call (by kernel_rfl) rfl (EqualA_s _ _ _ _ i' _ (g2.le hi) (k2.le hi) hok.props) (fun _ _ _ _ h => ⟨h.2.2, h.1.trans (congrArg Value.bool hbp.symm)⟩)⟩) ?_ | refine GS.skip rfl rfl rfl rfl rfl ?_))
        (all_goals (first | refine GS.pv (PV.all tab_ok rfl) rfl rfl rfl rfl rfl rfl ?_ | refine GS.skip rfl rfl rfl rfl rfl ?_))
        (all_goals refine GS.pv (PV.all tab_ok rfl) rfl rfl rfl rfl rfl rfl ?_)
        (all_goals refine GS.pv (PV.all tab_ok rfl) rfl rfl rfl rfl rfl rfl ?_)
        (all_goals (first | refine GS.pv (PV.all tab_ok rfl) rfl rfl rfl rfl rfl rfl ?_ | refine GS.skip rfl rfl rfl rfl rfl ?_))
        (all_goals (first | refine GS.lv (fun _ _ => LV.load tab_ok rfl (Has.own 0 rfl) rfl) rfl rfl rfl rfl rfl rfl ?_ | refine GS.lv (fun _ _ => LV.load tab_ok rfl (Has.own 1 rfl) rfl) rfl rfl rfl rfl rfl rfl ?_ | refine GS.lv (fun _ _ => LV.load tab_ok rfl (Has.own 2 rfl) rfl) rfl rfl rfl rfl rfl rfl ?_ | refine GS.skip rfl rfl rfl rfl rfl ?_))
        (all_goals (first | refine GS.pv (PV.all tab_ok rfl) rfl rfl rfl rfl rfl rfl ?_ | refine GS.skip rfl rfl rfl rfl rfl ?_))
        (all_goals (first | refine GS.lv (fun _ _ => LV.load tab_ok rfl (Has.own 0 rfl) rfl) rfl rfl rfl rfl rfl rfl ?_ | refine GS.lv (fun _ _ => LV.load tab_ok rfl (Has.own 1 rfl) rfl) rfl rfl rfl rfl rfl rfl ?_ | refine GS.lv (fun _ _ => LV.load tab_ok rfl (Has.own 2 rfl) rfl) rfl rfl rfl rfl rfl rfl ?_ | refine GS.skip rfl rfl rfl rfl rfl ?_))
        (all_goals (first | refine GS.valF rfl rfl rfl rfl (fun i' hi => ⟨rfl, OpS.call (by kernel_rfl) rfl (EqualS_s _ _ _ _ i' _ (g3.le hi) (k3.le hi) hok.tags) (fun _ _ _ _ h => ⟨h.2.2, h.1.trans (congrArg Value.bool hbt.symm)⟩)⟩) ?_ | refine GS.skip rfl rfl rfl rfl rfl ?_))
        (all_goals (first | refine GS.pv (PV.all tab_ok rfl) rfl rfl rfl rfl rfl rfl ?_ | refine GS.skip rfl rfl rfl rfl rfl ?_))
        (all_goals refine GS.pv (PV.all tab_ok rfl) rfl rfl rfl rfl rfl rfl ?_)
        (all_goals refine GS.pv (PV.all tab_ok rfl) rfl rfl rfl rfl rfl rfl ?_)
        (all_goals (first | refine GS.lv (fun _ _ => LV.load tab_ok rfl (Has.own 0 rfl) rfl) rfl rfl rfl rfl rfl rfl ?_ | refine GS.lv (fun _ _ => LV.load tab_ok rfl (Has.own 1 rfl) rfl) rfl rfl rfl rfl rfl rfl ?_ | refine GS.lv (fun _ _ => LV.load tab_ok rfl (Has.own 2 rfl) rfl) rfl rfl rfl rfl rfl rfl ?_))
        (all_goals refine GS.pv (PV.all tab_ok rfl) rfl rfl rfl rfl rfl rfl ?_)
        (all_goals (first | refine GS.lv (fun _ _ => LV.load tab_ok rfl (Has.own 0 rfl) rfl) rfl rfl rfl rfl rfl rfl ?_ | refine GS.lv (fun _ _ => LV.load tab_ok rfl (Has.own 1 rfl) rfl) rfl rfl rfl rfl rfl rfl ?_ | refine GS.lv (fun _ _ => LV.load tab_ok rfl (Has.own 2 rfl) rfl) rfl rfl rfl rfl rfl rfl ?_))
        (all_goals refine GS.fact0 (fun i v => ∃ a c, v = .slice a (wout r.links s.links).length c ∧ Sl i v 1 (wout r.links s.links).length (strs (wout r.links s.links))) (fun _ _ hi _ ⟨a, c, h1, h2⟩ => ⟨a, c, h1, h2.le hi⟩) rfl rfl rfl rfl rfl rfl (fun i' hi => OpS.call (by kernel_rfl) rfl (without_s _ _ r.links s.links i' _ (g4.le hi) (k4.le hi) (by omega) (by omega)) (fun _ _ _ _ ⟨hw, hL⟩ => ⟨hL, by obtain ⟨wa, wc, h, -⟩ := id hw; exact ⟨wa, wc, h, hw⟩⟩)) ?_)
        (all_goals refine GS.pv (PV.all tab_ok rfl) rfl rfl rfl rfl rfl rfl ?_)
        (all_goals (first | refine GS.lv (fun _ _ => LV.load tab_ok rfl (Has.own 0 rfl) rfl) rfl rfl rfl rfl rfl rfl ?_ | refine GS.lv (fun _ _ => LV.load tab_ok rfl (Has.own 1 rfl) rfl) rfl rfl rfl rfl rfl rfl ?_ | refine GS.lv (fun _ _ => LV.load tab_ok rfl (Has.own 2 rfl) rfl) rfl rfl rfl rfl rfl rfl ?_))
        (all_goals refine GS.pv (PV.all tab_ok rfl) rfl rfl rfl rfl rfl rfl ?_)
        (all_goals (first | refine GS.lv (fun _ _ => LV.load tab_ok rfl (Has.own 0 rfl) rfl) rfl rfl rfl rfl rfl rfl ?_ | refine GS.lv (fun _ _ => LV.load tab_ok rfl (Has.own 1 rfl) rfl) rfl rfl rfl rfl rfl rfl ?_ | refine GS.lv (fun _ _ => LV.load tab_ok rfl (Has.own 2 rfl) rfl) rfl rfl rfl rfl rfl rfl ?_))
        (all_goals refine GS.fact0 (fun i v => ∃ a c, v = .slice a (wout s.links r.links).length c ∧ Sl i v 1 (wout s.links r.links).length (strs (wout s.links r.links))) (fun _ _ hi _ ⟨a, c, h1, h2⟩ => ⟨a, c, h1, h2.le hi⟩) rfl rfl rfl rfl rfl rfl (fun i' hi => OpS.call (by kernel_rfl) rfl (without_s _ _ s.links r.links i' _ (k4.le hi) (g4.le hi) (by omega) (by omega)) (fun _ _ _ _ ⟨hw, hL⟩ => ⟨hL, by obtain ⟨wa, wc, h, -⟩ := id hw; exact ⟨wa, wc, h, hw⟩⟩)) ?_)
        (all_goals refine GS.factF (fun i v => ∃ rb bb, (rb = true ↔ r ≠ s) ∧ (bb = true ↔ belowP r s) ∧ EffV i v ⟨rb, bb, wout r.links s.links, wout s.links r.links⟩) (fun _ _ hi _ ⟨rb, bb, q1, q2, q3⟩ => ⟨rb, bb, q1, q2, q3.le hi⟩) rfl rfl rfl rfl (fun i' hi => by rintro x1 ⟨y1, z1, rfl, s1⟩ x2 ⟨y2, z2, rfl, s2⟩; exact ⟨rfl, OpS.mono (OpS.pv (PV.all tab_ok rfl)) (fun _ _ _ hi' ⟨h1, h2⟩ => ⟨h1, _, _, fs, fb, _, _, _, _, h2, s1.le hi', s2.le hi'⟩)⟩) ?_)
        refine GS.done rfl rfl (fun i5 hi5 => ?_)
        rintro w1 ⟨rb, bb, q1, q2, ga, gc, ca, cc, rfl, s1, s2⟩ w2 _ w3 _
        refine RS.store (k := 0) tab_ok rfl rfl rfl rfl rfl rfl rfl rfl ?_
        refine RS.nil ?_
        refine thenQ.normal ?_
        refine CS.ret ?_
        refine retQ.ret ?_
        exact ⟨_, 0, _, _, _, _, rfl, Has.own 0 rfl, rfl, [_, _, _], ⟨rb, bb, _, _⟩, ⟨_, _, _, _, rfl, s1, s2⟩, by unfold EffOf; rw [if_pos rfl]; exact ⟨q1, q2, rfl, rfl⟩, rfl⟩
open Classical in
theorem rCompare_s (rc sc : List Value) (r s : Rec) (had : Bool) (i : Imm) (L : SH) (hr : RecV i rc r) (hs : RecV i sc s) (hok : r.small) (hlr : r.links.length ≤ 1000000) (hls : s.links.length ≤ 1000000) :
    FnS Try.prog 36 [.agg rc.toArray, .bool had, .agg sc.toArray] i L fun v i' L' => (∃ e, EffV i' v e ∧ EffOf r had s e) ∧ L' = L := by
  refine FnS.state (K := fun v i' L' => ∃ M e, EffV i' v e ∧ EffOf r had s e ∧ L' = M ++ L) ?_ ?_
  rotate_left
  · rintro v i' L' w _ hs ⟨M, e, h1, h2, rfl⟩
    exact ⟨i', _, Imm.le.refl i', hs.dropL, ⟨e, h1, h2⟩, rfl⟩
  have hcall := fun i' (hi : i.le i') L => Same_s rc sc r s i' L (hr.le hi) (hs.le hi) hok
  obtain ⟨v2, v3, v4, v5, v6, rfl, g2, g3, g4, -, -⟩ := id hr
  obtain ⟨u2, u3, u4, u5, u6, rfl, k2, k3, k4, -, -⟩ := id hs
  obtain ⟨a2, c2, a3, c3, a4, c4, a5, c5, a6, c6, e1⟩ := hr.lit
  obtain ⟨b2, d2, b3, d3, b4, d4, b5, d5, b6, d6, e2⟩ := hs.lit
  simp only [List.cons.injEq, true_and, and_true] at e1 e2
  obtain ⟨rfl, rfl, rfl, rfl, rfl⟩ := e1
  obtain ⟨rfl, rfl, rfl, rfl, rfl⟩ := e2
  refine FnS.introC tab_ok Try.func36 rfl Try.ntmps36 (by simp) Try.results36 ?_
  cases had with
  | false =>
    repeat' (first
      | refine CS.seq ?_
      | refine thenQ.normal ?_
      | refine CS.cond_true rfl ?_
      | refine CS.cond_false rfl ?_
      | refine CS.skip ?_
      | (refine CS.region (id := 0) ?_;
          refine RS.box rfl rfl (fun b => ?_);
          refine RS.box rfl rfl (fun b => ?_);
          refine RS.alloc tab_ok rfl rfl (fun b => ?_);
          refine RS.nil ?_)
      | (refine CS.region (id := 1) ?_;
          refine RS.pv (PV.all tab_ok rfl) rfl ?_;
          refine RS.pv (PV.all tab_ok rfl) rfl ?_;
          refine RS.nil ?_)
      | (refine CS.region (id := 2) ?_;
          refine RS.pv (PV.all tab_ok rfl) rfl ?_;
          (first | refine RS.lv (LV.load tab_ok rfl (Has.own 0 rfl) rfl) rfl ?_ | refine RS.lv (LV.load tab_ok rfl (Has.own 1 rfl) rfl) rfl ?_ | refine RS.lv (LV.load tab_ok rfl (Has.own 2 rfl) rfl) rfl ?_);
          (refine RS.call (less_s' _ _ s.links [] _ _ k4 (Sl.nil _ 1) (by omega) (by simp)) rfl (by kernel_rfl) rfl ?_; rintro v i2 L2 hi2 ⟨hw, rfl⟩; obtain ⟨wa, wc, rfl, -⟩ := id hw);
          (all_goals refine RS.pv (PV.all tab_ok rfl) rfl ?_);
          (all_goals (first | refine RS.store (k := 0) tab_ok rfl rfl rfl rfl rfl rfl rfl rfl ?_ | refine RS.store (k := 1) tab_ok rfl rfl rfl rfl rfl rfl rfl rfl ?_ | refine RS.store (k := 2) tab_ok rfl rfl rfl rfl rfl rfl rfl rfl ?_));
          (all_goals refine RS.nil ?_))
      | refine CS.ret ?_
      | refine thenQ.ret ?_
      | refine blkQ.ret ?_
      | refine retQ.ret ?_
      | refine CS.block ?_
      | refine CS.exit ?_
      | refine thenQ.exit ?_
      | refine blkQ.normal ?_
      | refine blkQ.here ?_
      | refine blkQ.past rfl ?_
      | refine retQ.normal ?_)
    exact ⟨_, 0, _, _, _, _, rfl, Has.own 0 rfl, rfl, [_, _, _], ⟨true, true, [], wout s.links []⟩, ⟨_, _, _, _, rfl, Sl.nil _ 1, hw⟩, by unfold EffOf; rw [if_neg (by decide)], rfl⟩
  | true =>
    obtain ⟨bs, hbs⟩ : ∃ b : Bool, b = decide (r = s) := ⟨_, rfl⟩
    obtain ⟨bp, hbp⟩ : ∃ b : Bool, b = decide (r.props = s.props) := ⟨_, rfl⟩
    obtain ⟨bt, hbt⟩ : ∃ b : Bool, b = decide (r.tags = s.tags) := ⟨_, rfl⟩
    have fs : (!bs) = true ↔ r ≠ s := by rw [hbs]; simp
    by_cases hix : r.index = s.index
    · have fb : (!bp || !bt) = true ↔ belowP r s := by rw [hbp, hbt]; simp [belowP, hix]
      cases bs <;> cases bp <;> cases bt
      all_goals
        repeat' (first
          | refine CS.seq ?_
          | refine thenQ.normal ?_
          | refine CS.cond_true rfl ?_
          | refine CS.cond_false rfl ?_
          | refine CS.skip ?_
          | (refine CS.region (id := 0) ?_;
              refine RS.box rfl rfl (fun b => ?_);
              refine RS.box rfl rfl (fun b => ?_);
              refine RS.alloc tab_ok rfl rfl (fun b => ?_);
              refine RS.nil ?_)
          | (refine CS.region (id := 1) ?_;
              refine RS.pv (PV.all tab_ok rfl) rfl ?_;
              refine RS.pv (PV.all tab_ok rfl) rfl ?_;
              refine RS.nil ?_)
          | (refine CS.region (id := 3) ?_;
              refine RS.pv (PV.all tab_ok rfl) rfl ?_;
              (first | refine RS.lv (LV.load tab_ok rfl (Has.own 0 rfl) rfl) rfl ?_ | refine RS.lv (LV.load tab_ok rfl (Has.own 1 rfl) rfl) rfl ?_ | refine RS.lv (LV.load tab_ok rfl (Has.own 2 rfl) rfl) rfl ?_);
              refine RS.pv (PV.all tab_ok rfl) rfl ?_;
              (first | refine RS.lv (LV.load tab_ok rfl (Has.own 0 rfl) rfl) rfl ?_ | refine RS.lv (LV.load tab_ok rfl (Has.own 1 rfl) rfl) rfl ?_ | refine RS.lv (LV.load tab_ok rfl (Has.own 2 rfl) rfl) rfl ?_);
              (first | refine RS.pv (PV.all tab_ok rfl) rfl ?_ | refine RS.pv (PV.neqT rfl rfl (by omega)) rfl ?_ | refine RS.pv (PV.neqF rfl rfl (by omega)) rfl ?_ | refine RS.ifNeq rfl rfl rfl (fun h => ?_) (fun h => ?_) | refine RS.ifSneq rfl rfl rfl (fun h => ?_) (fun h => ?_));
              (all_goals refine RS.pv (PV.all tab_ok rfl) rfl ?_);
              (all_goals (first | refine RS.pv (PV.all tab_ok rfl) rfl ?_ | refine RS.skip rfl ?_));
              (all_goals (first | refine RS.lv (LV.load tab_ok rfl (Has.own 0 rfl) rfl) rfl ?_ | refine RS.lv (LV.load tab_ok rfl (Has.own 1 rfl) rfl) rfl ?_ | refine RS.lv (LV.load tab_ok rfl (Has.own 2 rfl) rfl) rfl ?_ | refine RS.skip rfl ?_));
              (all_goals (first | refine RS.pv (PV.all tab_ok rfl) rfl ?_ | refine RS.skip rfl ?_));
              (all_goals (first | refine RS.lv (LV.load tab_ok rfl (Has.own 0 rfl) rfl) rfl ?_ | refine RS.lv (LV.load tab_ok rfl (Has.own 1 rfl) rfl) rfl ?_ | refine RS.lv (LV.load tab_ok rfl (Has.own 2 rfl) rfl) rfl ?_ | refine RS.skip rfl ?_));
              (all_goals (first | (refine RS.call (SameAttrs_s _ _ _ _ _ _ g2 k2 hok.props) rfl (by kernel_rfl) rfl ?_; rintro v i9 L9 hi9 ⟨hv, rfl, rfl⟩; rw [← hbp] at hv; subst hv) | refine RS.skip rfl ?_));
              (all_goals (first | refine RS.pv (PV.all tab_ok rfl) rfl ?_ | refine RS.skip rfl ?_));
              (all_goals refine RS.pv (PV.all tab_ok rfl) rfl ?_);
              (all_goals refine RS.pv (PV.all tab_ok rfl) rfl ?_);
              (all_goals (first | refine RS.pv (PV.all tab_ok rfl) rfl ?_ | refine RS.skip rfl ?_));
              (all_goals (first | refine RS.lv (LV.load tab_ok rfl (Has.own 0 rfl) rfl) rfl ?_ | refine RS.lv (LV.load tab_ok rfl (Has.own 1 rfl) rfl) rfl ?_ | refine RS.lv (LV.load tab_ok rfl (Has.own 2 rfl) rfl) rfl ?_ | refine RS.skip rfl ?_));
              (all_goals (first | refine RS.pv (PV.all tab_ok rfl) rfl ?_ | refine RS.skip rfl ?_));
              (all_goals (first | refine RS.lv (LV.load tab_ok rfl (Has.own 0 rfl) rfl) rfl ?_ | refine RS.lv (LV.load tab_ok rfl (Has.own 1 rfl) rfl) rfl ?_ | refine RS.lv (LV.load tab_ok rfl (Has.own 2 rfl) rfl) rfl ?_ | refine RS.skip rfl ?_));
              (all_goals (first | (refine RS.call (SameTexts_s _ _ _ _ _ _ g3 k3 hok.tags) rfl (by kernel_rfl) rfl ?_; rintro v i9 L9 hi9 ⟨hv, rfl, rfl⟩; rw [← hbt] at hv; subst hv) | refine RS.skip rfl ?_));
              (all_goals (first | refine RS.pv (PV.all tab_ok rfl) rfl ?_ | refine RS.skip rfl ?_));
              (all_goals refine RS.pv (PV.all tab_ok rfl) rfl ?_);
              (all_goals refine RS.pv (PV.all tab_ok rfl) rfl ?_);
              (all_goals refine RS.nil ?_))
          | refine CS.ret ?_
          | refine thenQ.ret ?_
          | refine blkQ.ret ?_
          | refine retQ.ret ?_
          | refine CS.block ?_
          | refine CS.exit ?_
          | refine thenQ.exit ?_
          | refine blkQ.normal ?_
          | refine blkQ.here ?_
          | refine blkQ.past rfl ?_
          | refine retQ.normal ?_)
        refine CS.draw0 mix [0, 1, 2, 3, 4, 5, 6, 7, 8, 9, 10, 11, 12, 13, 14, 15] [16] (by kernel_rfl) rfl ?_
        (first | refine GS.lv (fun _ _ => LV.load tab_ok rfl (Has.own 0 rfl) rfl) rfl rfl rfl rfl rfl rfl ?_ | refine GS.lv (fun _ _ => LV.load tab_ok rfl (Has.own 1 rfl) rfl) rfl rfl rfl rfl rfl rfl ?_ | refine GS.lv (fun _ _ => LV.load tab_ok rfl (Has.own 2 rfl) rfl) rfl rfl rfl rfl rfl rfl ?_)
        (first | refine GS.lv (fun _ _ => LV.load tab_ok rfl (Has.own 0 rfl) rfl) rfl rfl rfl rfl rfl rfl ?_ | refine GS.lv (fun _ _ => LV.load tab_ok rfl (Has.own 1 rfl) rfl) rfl rfl rfl rfl rfl rfl ?_ | refine GS.lv (fun _ _ => LV.load tab_ok rfl (Has.own 2 rfl) rfl) rfl rfl rfl rfl rfl rfl ?_)
        (first | refine GS.valF rfl rfl rfl rfl (fun i' hi => ⟨rfl, OpS.call (by kernel_rfl) rfl (hcall i' hi _) (fun _ _ _ _ h => ⟨h.2.2, h.1.trans (congrArg Value.bool hbs.symm)⟩)⟩) ?_ | refine GS.skip rfl rfl rfl rfl rfl ?_)
        (all_goals refine GS.pv (PV.all tab_ok rfl) rfl rfl rfl rfl rfl rfl ?_)
        (all_goals refine GS.pv (PV.all tab_ok rfl) rfl rfl rfl rfl rfl rfl ?_)
        (all_goals refine GS.pv (PV.all tab_ok rfl) rfl rfl rfl rfl rfl rfl ?_)
        (all_goals (first | refine GS.lv (fun _ _ => LV.load tab_ok rfl (Has.own 0 rfl) rfl) rfl rfl rfl rfl rfl rfl ?_ | refine GS.lv (fun _ _ => LV.load tab_ok rfl (Has.own 1 rfl) rfl) rfl rfl rfl rfl rfl rfl ?_ | refine GS.lv (fun _ _ => LV.load tab_ok rfl (Has.own 2 rfl) rfl) rfl rfl rfl rfl rfl rfl ?_))
        (all_goals refine GS.pv (PV.all tab_ok rfl) rfl rfl rfl rfl rfl rfl ?_)
        (all_goals (first | refine GS.lv (fun _ _ => LV.load tab_ok rfl (Has.own 0 rfl) rfl) rfl rfl rfl rfl rfl rfl ?_ | refine GS.lv (fun _ _ => LV.load tab_ok rfl (Has.own 1 rfl) rfl) rfl rfl rfl rfl rfl rfl ?_ | refine GS.lv (fun _ _ => LV.load tab_ok rfl (Has.own 2 rfl) rfl) rfl rfl rfl rfl rfl rfl ?_))
        (all_goals refine GS.fact0 (fun i v => ∃ a c, v = .slice a (wout r.links s.links).length c ∧ Sl i v 1 (wout r.links s.links).length (strs (wout r.links s.links))) (fun _ _ hi _ ⟨a, c, h1, h2⟩ => ⟨a, c, h1, h2.le hi⟩) rfl rfl rfl rfl rfl rfl (fun i' hi => OpS.call (by kernel_rfl) rfl (less_s' _ _ r.links s.links i' _ (g4.le hi) (k4.le hi) (by omega) (by omega)) (fun _ _ _ _ ⟨hw, hL⟩ => ⟨hL, by obtain ⟨wa, wc, h, -⟩ := id hw; exact ⟨wa, wc, h, hw⟩⟩)) ?_)
        (all_goals refine GS.pv (PV.all tab_ok rfl) rfl rfl rfl rfl rfl rfl ?_)
        (all_goals (first | refine GS.lv (fun _ _ => LV.load tab_ok rfl (Has.own 0 rfl) rfl) rfl rfl rfl rfl rfl rfl ?_ | refine GS.lv (fun _ _ => LV.load tab_ok rfl (Has.own 1 rfl) rfl) rfl rfl rfl rfl rfl rfl ?_ | refine GS.lv (fun _ _ => LV.load tab_ok rfl (Has.own 2 rfl) rfl) rfl rfl rfl rfl rfl rfl ?_))
        (all_goals refine GS.pv (PV.all tab_ok rfl) rfl rfl rfl rfl rfl rfl ?_)
        (all_goals (first | refine GS.lv (fun _ _ => LV.load tab_ok rfl (Has.own 0 rfl) rfl) rfl rfl rfl rfl rfl rfl ?_ | refine GS.lv (fun _ _ => LV.load tab_ok rfl (Has.own 1 rfl) rfl) rfl rfl rfl rfl rfl rfl ?_ | refine GS.lv (fun _ _ => LV.load tab_ok rfl (Has.own 2 rfl) rfl) rfl rfl rfl rfl rfl rfl ?_))
        (all_goals refine GS.fact0 (fun i v => ∃ a c, v = .slice a (wout s.links r.links).length c ∧ Sl i v 1 (wout s.links r.links).length (strs (wout s.links r.links))) (fun _ _ hi _ ⟨a, c, h1, h2⟩ => ⟨a, c, h1, h2.le hi⟩) rfl rfl rfl rfl rfl rfl (fun i' hi => OpS.call (by kernel_rfl) rfl (less_s' _ _ s.links r.links i' _ (k4.le hi) (g4.le hi) (by omega) (by omega)) (fun _ _ _ _ ⟨hw, hL⟩ => ⟨hL, by obtain ⟨wa, wc, h, -⟩ := id hw; exact ⟨wa, wc, h, hw⟩⟩)) ?_)
        (all_goals refine GS.factF (fun i v => ∃ rb bb, (rb = true ↔ r ≠ s) ∧ (bb = true ↔ belowP r s) ∧ EffV i v ⟨rb, bb, wout r.links s.links, wout s.links r.links⟩) (fun _ _ hi _ ⟨rb, bb, q1, q2, q3⟩ => ⟨rb, bb, q1, q2, q3.le hi⟩) rfl rfl rfl rfl (fun i' hi => by rintro x1 ⟨y1, z1, rfl, s1⟩ x2 ⟨y2, z2, rfl, s2⟩; exact ⟨rfl, OpS.mono (OpS.pv (PV.all tab_ok rfl)) (fun _ _ _ hi' ⟨h1, h2⟩ => ⟨h1, _, _, fs, fb, _, _, _, _, h2, s1.le hi', s2.le hi'⟩)⟩) ?_)
        refine GS.done rfl rfl (fun i5 hi5 => ?_)
        rintro w1 ⟨rb, bb, q1, q2, ga, gc, ca, cc, rfl, s1, s2⟩ w2 _ w3 _
        refine RS.store (k := 0) tab_ok rfl rfl rfl rfl rfl rfl rfl rfl ?_
        refine RS.nil ?_
        refine thenQ.normal ?_
        refine CS.ret ?_
        refine retQ.ret ?_
        exact ⟨_, 0, _, _, _, _, rfl, Has.own 0 rfl, rfl, [_, _, _], ⟨rb, bb, _, _⟩, ⟨_, _, _, _, rfl, s1, s2⟩, by unfold EffOf; rw [if_pos rfl]; exact ⟨q1, q2, rfl, rfl⟩, rfl⟩
    · have fb : true = true ↔ belowP r s := by simp [belowP, hix]
      cases bs
      all_goals
        repeat' (first
          | refine CS.seq ?_
          | refine thenQ.normal ?_
          | refine CS.cond_true rfl ?_
          | refine CS.cond_false rfl ?_
          | refine CS.skip ?_
          | (refine CS.region (id := 0) ?_;
              refine RS.box rfl rfl (fun b => ?_);
              refine RS.box rfl rfl (fun b => ?_);
              refine RS.alloc tab_ok rfl rfl (fun b => ?_);
              refine RS.nil ?_)
          | (refine CS.region (id := 1) ?_;
              refine RS.pv (PV.all tab_ok rfl) rfl ?_;
              refine RS.pv (PV.all tab_ok rfl) rfl ?_;
              refine RS.nil ?_)
          | (refine CS.region (id := 3) ?_;
              refine RS.pv (PV.all tab_ok rfl) rfl ?_;
              (first | refine RS.lv (LV.load tab_ok rfl (Has.own 0 rfl) rfl) rfl ?_ | refine RS.lv (LV.load tab_ok rfl (Has.own 1 rfl) rfl) rfl ?_ | refine RS.lv (LV.load tab_ok rfl (Has.own 2 rfl) rfl) rfl ?_);
              refine RS.pv (PV.all tab_ok rfl) rfl ?_;
              (first | refine RS.lv (LV.load tab_ok rfl (Has.own 0 rfl) rfl) rfl ?_ | refine RS.lv (LV.load tab_ok rfl (Has.own 1 rfl) rfl) rfl ?_ | refine RS.lv (LV.load tab_ok rfl (Has.own 2 rfl) rfl) rfl ?_);
              (first | refine RS.pv (PV.all tab_ok rfl) rfl ?_ | refine RS.pv (PV.neqT rfl rfl (by omega)) rfl ?_ | refine RS.pv (PV.neqF rfl rfl (by omega)) rfl ?_ | refine RS.ifNeq rfl rfl rfl (fun h => ?_) (fun h => ?_) | refine RS.ifSneq rfl rfl rfl (fun h => ?_) (fun h => ?_));
              (all_goals refine RS.pv (PV.all tab_ok rfl) rfl ?_);
              (all_goals (first | refine RS.pv (PV.all tab_ok rfl) rfl ?_ | refine RS.skip rfl ?_));
              (all_goals (first | refine RS.lv (LV.load tab_ok rfl (Has.own 0 rfl) rfl) rfl ?_ | refine RS.lv (LV.load tab_ok rfl (Has.own 1 rfl) rfl) rfl ?_ | refine RS.lv (LV.load tab_ok rfl (Has.own 2 rfl) rfl) rfl ?_ | refine RS.skip rfl ?_));
              (all_goals (first | refine RS.pv (PV.all tab_ok rfl) rfl ?_ | refine RS.skip rfl ?_));
              (all_goals (first | refine RS.lv (LV.load tab_ok rfl (Has.own 0 rfl) rfl) rfl ?_ | refine RS.lv (LV.load tab_ok rfl (Has.own 1 rfl) rfl) rfl ?_ | refine RS.lv (LV.load tab_ok rfl (Has.own 2 rfl) rfl) rfl ?_ | refine RS.skip rfl ?_));
              (all_goals refine RS.skip rfl ?_);
              (all_goals (first | refine RS.pv (PV.all tab_ok rfl) rfl ?_ | refine RS.skip rfl ?_));
              (all_goals refine RS.pv (PV.all tab_ok rfl) rfl ?_);
              (all_goals refine RS.pv (PV.all tab_ok rfl) rfl ?_);
              (all_goals (first | refine RS.pv (PV.all tab_ok rfl) rfl ?_ | refine RS.skip rfl ?_));
              (all_goals (first | refine RS.lv (LV.load tab_ok rfl (Has.own 0 rfl) rfl) rfl ?_ | refine RS.lv (LV.load tab_ok rfl (Has.own 1 rfl) rfl) rfl ?_ | refine RS.lv (LV.load tab_ok rfl (Has.own 2 rfl) rfl) rfl ?_ | refine RS.skip rfl ?_));
              (all_goals (first | refine RS.pv (PV.all tab_ok rfl) rfl ?_ | refine RS.skip rfl ?_));
              (all_goals (first | refine RS.lv (LV.load tab_ok rfl (Has.own 0 rfl) rfl) rfl ?_ | refine RS.lv (LV.load tab_ok rfl (Has.own 1 rfl) rfl) rfl ?_ | refine RS.lv (LV.load tab_ok rfl (Has.own 2 rfl) rfl) rfl ?_ | refine RS.skip rfl ?_));
              (all_goals refine RS.skip rfl ?_);
              (all_goals (first | refine RS.pv (PV.all tab_ok rfl) rfl ?_ | refine RS.skip rfl ?_));
              (all_goals refine RS.pv (PV.all tab_ok rfl) rfl ?_);
              (all_goals refine RS.pv (PV.all tab_ok rfl) rfl ?_);
              (all_goals refine RS.nil ?_))
          | refine CS.ret ?_
          | refine thenQ.ret ?_
          | refine blkQ.ret ?_
          | refine retQ.ret ?_
          | refine CS.block ?_
          | refine CS.exit ?_
          | refine thenQ.exit ?_
          | refine blkQ.normal ?_
          | refine blkQ.here ?_
          | refine blkQ.past rfl ?_
          | refine retQ.normal ?_)
        refine CS.draw0 mix [0, 1, 2, 3, 4, 5, 6, 7, 8, 9, 10, 11, 12, 13, 14, 15] [16] (by kernel_rfl) rfl ?_
        (first | refine GS.lv (fun _ _ => LV.load tab_ok rfl (Has.own 0 rfl) rfl) rfl rfl rfl rfl rfl rfl ?_ | refine GS.lv (fun _ _ => LV.load tab_ok rfl (Has.own 1 rfl) rfl) rfl rfl rfl rfl rfl rfl ?_ | refine GS.lv (fun _ _ => LV.load tab_ok rfl (Has.own 2 rfl) rfl) rfl rfl rfl rfl rfl rfl ?_)
        (first | refine GS.lv (fun _ _ => LV.load tab_ok rfl (Has.own 0 rfl) rfl) rfl rfl rfl rfl rfl rfl ?_ | refine GS.lv (fun _ _ => LV.load tab_ok rfl (Has.own 1 rfl) rfl) rfl rfl rfl rfl rfl rfl ?_ | refine GS.lv (fun _ _ => LV.load tab_ok rfl (Has.own 2 rfl) rfl) rfl rfl rfl rfl rfl rfl ?_)
        (first | refine GS.valF rfl rfl rfl rfl (fun i' hi => ⟨rfl, OpS.call (by kernel_rfl) rfl (hcall i' hi _) (fun _ _ _ _ h => ⟨h.2.2, h.1.trans (congrArg Value.bool hbs.symm)⟩)⟩) ?_ | refine GS.skip rfl rfl rfl rfl rfl ?_)
        (all_goals refine GS.pv (PV.all tab_ok rfl) rfl rfl rfl rfl rfl rfl ?_)
        (all_goals refine GS.pv (PV.all tab_ok rfl) rfl rfl rfl rfl rfl rfl ?_)
        (all_goals refine GS.pv (PV.all tab_ok rfl) rfl rfl rfl rfl rfl rfl ?_)
        (all_goals (first | refine GS.lv (fun _ _ => LV.load tab_ok rfl (Has.own 0 rfl) rfl) rfl rfl rfl rfl rfl rfl ?_ | refine GS.lv (fun _ _ => LV.load tab_ok rfl (Has.own 1 rfl) rfl) rfl rfl rfl rfl rfl rfl ?_ | refine GS.lv (fun _ _ => LV.load tab_ok rfl (Has.own 2 rfl) rfl) rfl rfl rfl rfl rfl rfl ?_))
        (all_goals refine GS.pv (PV.all tab_ok rfl) rfl rfl rfl rfl rfl rfl ?_)
        (all_goals (first | refine GS.lv (fun _ _ => LV.load tab_ok rfl (Has.own 0 rfl) rfl) rfl rfl rfl rfl rfl rfl ?_ | refine GS.lv (fun _ _ => LV.load tab_ok rfl (Has.own 1 rfl) rfl) rfl rfl rfl rfl rfl rfl ?_ | refine GS.lv (fun _ _ => LV.load tab_ok rfl (Has.own 2 rfl) rfl) rfl rfl rfl rfl rfl rfl ?_))
        (all_goals refine GS.fact0 (fun i v => ∃ a c, v = .slice a (wout r.links s.links).length c ∧ Sl i v 1 (wout r.links s.links).length (strs (wout r.links s.links))) (fun _ _ hi _ ⟨a, c, h1, h2⟩ => ⟨a, c, h1, h2.le hi⟩) rfl rfl rfl rfl rfl rfl (fun i' hi => OpS.call (by kernel_rfl) rfl (less_s' _ _ r.links s.links i' _ (g4.le hi) (k4.le hi) (by omega) (by omega)) (fun _ _ _ _ ⟨hw, hL⟩ => ⟨hL, by obtain ⟨wa, wc, h, -⟩ := id hw; exact ⟨wa, wc, h, hw⟩⟩)) ?_)
        (all_goals refine GS.pv (PV.all tab_ok rfl) rfl rfl rfl rfl rfl rfl ?_)
        (all_goals (first | refine GS.lv (fun _ _ => LV.load tab_ok rfl (Has.own 0 rfl) rfl) rfl rfl rfl rfl rfl rfl ?_ | refine GS.lv (fun _ _ => LV.load tab_ok rfl (Has.own 1 rfl) rfl) rfl rfl rfl rfl rfl rfl ?_ | refine GS.lv (fun _ _ => LV.load tab_ok rfl (Has.own 2 rfl) rfl) rfl rfl rfl rfl rfl rfl ?_))
        (all_goals refine GS.pv (PV.all tab_ok rfl) rfl rfl rfl rfl rfl rfl ?_)
        (all_goals (first | refine GS.lv (fun _ _ => LV.load tab_ok rfl (Has.own 0 rfl) rfl) rfl rfl rfl rfl rfl rfl ?_ | refine GS.lv (fun _ _ => LV.load tab_ok rfl (Has.own 1 rfl) rfl) rfl rfl rfl rfl rfl rfl ?_ | refine GS.lv (fun _ _ => LV.load tab_ok rfl (Has.own 2 rfl) rfl) rfl rfl rfl rfl rfl rfl ?_))
        (all_goals refine GS.fact0 (fun i v => ∃ a c, v = .slice a (wout s.links r.links).length c ∧ Sl i v 1 (wout s.links r.links).length (strs (wout s.links r.links))) (fun _ _ hi _ ⟨a, c, h1, h2⟩ => ⟨a, c, h1, h2.le hi⟩) rfl rfl rfl rfl rfl rfl (fun i' hi => OpS.call (by kernel_rfl) rfl (less_s' _ _ s.links r.links i' _ (k4.le hi) (g4.le hi) (by omega) (by omega)) (fun _ _ _ _ ⟨hw, hL⟩ => ⟨hL, by obtain ⟨wa, wc, h, -⟩ := id hw; exact ⟨wa, wc, h, hw⟩⟩)) ?_)
        (all_goals refine GS.factF (fun i v => ∃ rb bb, (rb = true ↔ r ≠ s) ∧ (bb = true ↔ belowP r s) ∧ EffV i v ⟨rb, bb, wout r.links s.links, wout s.links r.links⟩) (fun _ _ hi _ ⟨rb, bb, q1, q2, q3⟩ => ⟨rb, bb, q1, q2, q3.le hi⟩) rfl rfl rfl rfl (fun i' hi => by rintro x1 ⟨y1, z1, rfl, s1⟩ x2 ⟨y2, z2, rfl, s2⟩; exact ⟨rfl, OpS.mono (OpS.pv (PV.all tab_ok rfl)) (fun _ _ _ hi' ⟨h1, h2⟩ => ⟨h1, _, _, fs, fb, _, _, _, _, h2, s1.le hi', s2.le hi'⟩)⟩) ?_)
        refine GS.done rfl rfl (fun i5 hi5 => ?_)
        rintro w1 ⟨rb, bb, q1, q2, ga, gc, ca, cc, rfl, s1, s2⟩ w2 _ w3 _
        refine RS.store (k := 0) tab_ok rfl rfl rfl rfl rfl rfl rfl rfl ?_
        refine RS.nil ?_
        refine thenQ.normal ?_
        refine CS.ret ?_
        refine retQ.ret ?_
        exact ⟨_, 0, _, _, _, _, rfl, Has.own 0 rfl, rfl, [_, _, _], ⟨rb, bb, _, _⟩, ⟨_, _, _, _, rfl, s1, s2⟩, by unfold EffOf; rw [if_pos rfl]; exact ⟨q1, q2, rfl, rfl⟩, rfl⟩
theorem SameEffects_s (va vb : Value) (e : Eff) (i : Imm) (L : SH) (ha : EffV i va e) (hb : EffV i vb e) (hg : e.gone.length ≤ 1000000) (hc : e.come.length ≤ 1000000) :
    FnS Try.prog 34 [va, vb] i L fun v _ L' => v = .bool true ∧ L' = L := by
  refine FnS.state (K := fun v _ L' => ∃ M, v = .bool true ∧ L' = M ++ L) ?_ ?_
  rotate_left
  · rintro v i' L' w _ hs ⟨M, hv, rfl⟩
    exact ⟨i', _, Imm.le.refl i', hs.dropL, hv, rfl⟩
  obtain ⟨ga, gc, ca, cc, rfl, h1, h2⟩ := ha
  obtain ⟨ga', gc', ca', cc', rfl, h3, h4⟩ := hb
  obtain ⟨rb, bb, gn, cm⟩ := e
  simp only at hg hc h1 h2 h3 h4
  refine FnS.intro1 Try.func34 rfl Try.ntmps34 (by simp) Try.results34 ?_
  cases rb <;> cases bb
  all_goals
    repeat' (first
      | refine CS.seq ?_
      | refine thenQ.normal ?_
      | refine CS.cond_true rfl ?_
      | refine CS.cond_false rfl ?_
      | refine CS.skip ?_
      | (refine CS.region (id := 0) ?_;
          refine RS.box rfl rfl (fun b => ?_);
          refine RS.box rfl rfl (fun b => ?_);
          refine RS.pv (PV.all tab_ok rfl) rfl ?_;
          refine RS.nil ?_)
      | (refine CS.region (id := 1) ?_;
          refine RS.pv (PV.all tab_ok rfl) rfl ?_;
          (first | refine RS.lv (LV.load tab_ok rfl (Has.own 0 rfl) rfl) rfl ?_ | refine RS.lv (LV.load tab_ok rfl (Has.own 1 rfl) rfl) rfl ?_ | refine RS.lv (LV.load tab_ok rfl (Has.own 2 rfl) rfl) rfl ?_);
          refine RS.pv (PV.all tab_ok rfl) rfl ?_;
          (first | refine RS.lv (LV.load tab_ok rfl (Has.own 0 rfl) rfl) rfl ?_ | refine RS.lv (LV.load tab_ok rfl (Has.own 1 rfl) rfl) rfl ?_ | refine RS.lv (LV.load tab_ok rfl (Has.own 2 rfl) rfl) rfl ?_);
          refine RS.pv (PV.beql tab_ok ⟨_, rfl, rfl⟩ rfl rfl) rfl ?_;
          (all_goals refine RS.pv (PV.all tab_ok rfl) rfl ?_);
          (all_goals (first | refine RS.pv (PV.all tab_ok rfl) rfl ?_ | refine RS.skip rfl ?_));
          (all_goals (first | refine RS.lv (LV.load tab_ok rfl (Has.own 0 rfl) rfl) rfl ?_ | refine RS.lv (LV.load tab_ok rfl (Has.own 1 rfl) rfl) rfl ?_ | refine RS.lv (LV.load tab_ok rfl (Has.own 2 rfl) rfl) rfl ?_ | refine RS.skip rfl ?_));
          (all_goals (first | refine RS.pv (PV.all tab_ok rfl) rfl ?_ | refine RS.skip rfl ?_));
          (all_goals (first | refine RS.lv (LV.load tab_ok rfl (Has.own 0 rfl) rfl) rfl ?_ | refine RS.lv (LV.load tab_ok rfl (Has.own 1 rfl) rfl) rfl ?_ | refine RS.lv (LV.load tab_ok rfl (Has.own 2 rfl) rfl) rfl ?_ | refine RS.skip rfl ?_));
          (all_goals refine RS.pv (PV.beql tab_ok ⟨_, rfl, rfl⟩ rfl rfl) rfl ?_);
          (all_goals refine RS.pv (PV.all tab_ok rfl) rfl ?_);
          (all_goals refine RS.pv (PV.all tab_ok rfl) rfl ?_);
          (all_goals (first | refine RS.pv (PV.all tab_ok rfl) rfl ?_ | refine RS.skip rfl ?_));
          (all_goals (first | refine RS.lv (LV.load tab_ok rfl (Has.own 0 rfl) rfl) rfl ?_ | refine RS.lv (LV.load tab_ok rfl (Has.own 1 rfl) rfl) rfl ?_ | refine RS.lv (LV.load tab_ok rfl (Has.own 2 rfl) rfl) rfl ?_ | refine RS.skip rfl ?_));
          (all_goals (first | refine RS.pv (PV.all tab_ok rfl) rfl ?_ | refine RS.skip rfl ?_));
          (all_goals (first | refine RS.lv (LV.load tab_ok rfl (Has.own 0 rfl) rfl) rfl ?_ | refine RS.lv (LV.load tab_ok rfl (Has.own 1 rfl) rfl) rfl ?_ | refine RS.lv (LV.load tab_ok rfl (Has.own 2 rfl) rfl) rfl ?_ | refine RS.skip rfl ?_));
          (all_goals refine RS.callB (SameTexts_s _ _ gn gn _ _ h1 h3 (by omega)) rfl (by kernel_rfl) rfl (fun h => ?_) (fun h => absurd rfl h));
          (all_goals refine RS.pv (PV.all tab_ok rfl) rfl ?_);
          (all_goals refine RS.pv (PV.all tab_ok rfl) rfl ?_);
          (all_goals (first | refine RS.pv (PV.all tab_ok rfl) rfl ?_ | refine RS.skip rfl ?_));
          (all_goals (first | refine RS.lv (LV.load tab_ok rfl (Has.own 0 rfl) rfl) rfl ?_ | refine RS.lv (LV.load tab_ok rfl (Has.own 1 rfl) rfl) rfl ?_ | refine RS.lv (LV.load tab_ok rfl (Has.own 2 rfl) rfl) rfl ?_ | refine RS.skip rfl ?_));
          (all_goals (first | refine RS.pv (PV.all tab_ok rfl) rfl ?_ | refine RS.skip rfl ?_));
          (all_goals (first | refine RS.lv (LV.load tab_ok rfl (Has.own 0 rfl) rfl) rfl ?_ | refine RS.lv (LV.load tab_ok rfl (Has.own 1 rfl) rfl) rfl ?_ | refine RS.lv (LV.load tab_ok rfl (Has.own 2 rfl) rfl) rfl ?_ | refine RS.skip rfl ?_));
          (all_goals refine RS.callB (SameTexts_s _ _ cm cm _ _ h2 h4 (by omega)) rfl (by kernel_rfl) rfl (fun h => ?_) (fun h => absurd rfl h));
          (all_goals refine RS.pv (PV.all tab_ok rfl) rfl ?_);
          (all_goals refine RS.pv (PV.all tab_ok rfl) rfl ?_);
          (all_goals refine RS.nil ?_))
      | refine CS.ret ?_
      | refine thenQ.ret ?_
      | refine blkQ.ret ?_
      | refine retQ.ret ?_
      | refine CS.block ?_
      | refine CS.exit ?_
      | refine thenQ.exit ?_
      | refine blkQ.normal ?_
      | refine blkQ.here ?_
      | refine blkQ.past rfl ?_
      | refine retQ.normal ?_)
    exact ⟨[_, _], rfl, rfl⟩
end Go.Proofs.Ytmcajldlcomegaa
