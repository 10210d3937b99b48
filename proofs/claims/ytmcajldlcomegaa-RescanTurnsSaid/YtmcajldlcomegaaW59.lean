/- RescanCompares, part 14: few. -/
import Derived.Test.YtmcajldlcomegaaW58
namespace Go.Proofs.Ytmcajldlcomegaa
open Go Go.Eng

theorem few_37 (wc : List Value) (W : WorldD) (i : Imm) (L : SH) (hW : WorldV i wc W) (oW : W.ok) (hl0 : W.recs.length ≤ 10000000000000) (hl4 : W.mods.length ≤ 10000000000000) :
    FnS Try.prog 37 [.agg wc.toArray] i L fun v i' L' => L' = L ∧ ∃ b, v = .bool b ∧ (b = true → W.few) := by
  obtain ⟨a0, c0, a1, c1, a2, c2, a3, c3, a4, c4, rfl, h0, h1, h2, h3, h4, h5⟩ := hW.lit
  refine FnS.intro1 Try.func37 rfl Try.ntmps37 (by simp) Try.results37 ?_
  repeat' (first
    | refine CS.seq ?_
    | refine thenQ.normal ?_
    | refine CS.cond_true rfl ?_
    | refine CS.cond_false rfl ?_
    | refine CS.skip ?_
    | (refine CS.region (id := 0) ?_;
        (refine RS.box rfl rfl (fun bx => ?_); refine RS.freeze (fun i1 hi1 hbx => ?_));
        (all_goals refine RS.pv (PV.all tab_ok rfl) rfl ?_);
        (all_goals refine RS.nil ?_))
    | (refine CS.region (id := 1) ?_;
        refine RS.pv (PV.all tab_ok rfl) rfl ?_;
        refine RS.nil ?_)
    | (refine CS.region (id := 2) ?_;
        refine RS.pv (PV.all tab_ok rfl) rfl ?_;
        refine RS.nil ?_)
    | refine CS.ret ?_
    | refine thenQ.ret ?_
    | refine blkQ.ret ?_
    | refine retQ.ret ?_
    | refine CS.block ?_
    | refine CS.exit ?_
    | refine thenQ.exit ?_
    | refine blkQ.normal ?_
    | refine blkQ.here ?_
    | refine blkQ.past rfl ?_
    | refine retQ.normal ?_)
  refine CS.loop [1, 3, 4] (fun m vs i' L' => ∃ (k : Nat) (s : Int), m = W.recs.length - k ∧ k ≤ W.recs.length ∧ i1.le i' ∧ vs = [.pointer (some ⟨bx, 0, none⟩), .int .i64 s, .int .i64 (k : Int)] ∧ L = L') W.recs.length ⟨0, 0, rfl, Nat.zero_le _, Imm.le.refl i1, rfl, rfl⟩ ?_
  rintro m g vs i' L' - ⟨k, s, rfl, hk, hi, rfl, rfl⟩
  replace hbx := hi.blk _ _ hbx
  by_cases hlt : k < W.recs.length
  · obtain ⟨b1, o1, u1, t1, z1, p1, e1, g1, q⟩ := ((h0.le hi1).le hi).at hlt (by omega)
    cases e1
    obtain ⟨⟨pc, r⟩, hp⟩ : ∃ p, W.recs[k]? = some p := ⟨_, List.getElem?_eq_getElem hlt⟩
    have hels := els_recs h5 oW.recs
    have hr := h5 _ (List.mem_of_getElem? hp)
    obtain ⟨x2, y2, x3, y3, x4, y4, x5, y5, x6, y6, e⟩ := hr.lit
    simp only at e
    subst e
    have q1 : ∀ d u, [Value.string r.path, .int .i64 r.index, .slice x2 r.props.length y2, .slice x3 r.tags.length y3, .slice x4 r.links.length y4, .slice x5 r.run.length y5, .slice x6 r.load.length y6, .string r.name, .int .i64 r.priority, .string r.owner, .string r.group, .int .i64 r.mode][d]? = some u → u1[o1 + ((k : Nat) : Int).toNat * 12 + d]? = some u := fun d u hu => by
      have hd : d < 12 := (List.getElem?_eq_some_iff.1 hu).1
      rw [q d hd, rowC_at hels.len hp d hd]; exact hu
    repeat' (first
      | refine CS.seq ?_
      | refine thenQ.normal ?_
      | refine CS.cond_true rfl ?_
      | refine CS.cond_false rfl ?_
      | refine CS.skip ?_
      | (refine CS.region (id := 3) ?_;
          refine RS.pv (PV.all tab_ok rfl) rfl ?_;
          refine RS.pv (PV.all tab_ok rfl) rfl ?_;
          (first | refine RS.lv (LV.load tab_ok rfl (Has.imm hb5) rfl) rfl ?_ | refine RS.lv (LV.load tab_ok rfl (Has.imm hbx) rfl) rfl ?_);
          (first | refine RS.pv (PV.lenS tab_ok rfl rfl) rfl ?_ | refine RS.pv (PV.lenT tab_ok rfl rfl) rfl ?_);
          (first | refine RS.pv (PV.lssT rfl rfl (by omega)) rfl ?_ | refine RS.pv (PV.lssF rfl rfl (by omega)) rfl ?_ | refine RS.ifLss rfl rfl rfl (fun h => ?_) (fun h => ?_));
          (all_goals refine RS.nil ?_))
      | (refine CS.region (id := 4) ?_;
          refine RS.pv (PV.all tab_ok rfl) rfl ?_;
          refine RS.pv (PV.add rfl rfl (by omega)) rfl ?_;
          refine RS.pv (PV.all tab_ok rfl) rfl ?_;
          refine RS.nil ?_)
      | (refine CS.region (id := 5) ?_;
          refine RS.pv (PV.all tab_ok rfl) rfl ?_;
          (first | refine RS.lv (LV.load tab_ok rfl (Has.imm hb5) rfl) rfl ?_ | refine RS.lv (LV.load tab_ok rfl (Has.imm hbx) rfl) rfl ?_);
          refine RS.pv (PV.all tab_ok rfl) rfl ?_;
          (first | refine RS.pv (PV.indexAddr tab_ok rfl rfl rfl (by omega)) rfl ?_ | refine RS.pv (PV.indexAddrA tab_ok rfl rfl rfl (by omega)) rfl ?_);
          refine RS.lv (LV.loadL tab_ok rfl (Has.imm g1) (l := [Value.string r.path, .int .i64 r.index, .slice x2 r.props.length y2, .slice x3 r.tags.length y3, .slice x4 r.links.length y4, .slice x5 r.run.length y5, .slice x6 r.load.length y6, .string r.name, .int .i64 r.priority, .string r.owner, .string r.group, .int .i64 r.mode]) rfl rfl rfl q1) rfl ?_;
          (all_goals refine RS.alloc tab_ok rfl rfl (fun b => ?_));
          (all_goals (refine RS.store (k := 0) tab_ok rfl rfl rfl rfl rfl rfl rfl rfl ?_; refine RS.freeze (fun i6 hi6 hb5 => ?_)));
          (all_goals refine RS.nil ?_))
      | (refine CS.region (id := 6) ?_;
          refine RS.pv (PV.all tab_ok rfl) rfl ?_;
          refine RS.pv (PV.all tab_ok rfl) rfl ?_;
          (first | refine RS.lv (LV.load tab_ok rfl (Has.imm hb5) rfl) rfl ?_ | refine RS.lv (LV.load tab_ok rfl (Has.imm hbx) rfl) rfl ?_);
          (first | refine RS.pv (PV.lenS tab_ok rfl rfl) rfl ?_ | refine RS.pv (PV.lenT tab_ok rfl rfl) rfl ?_);
          refine RS.pv (PV.all tab_ok rfl) rfl ?_;
          (first | refine RS.lv (LV.load tab_ok rfl (Has.imm hb5) rfl) rfl ?_ | refine RS.lv (LV.load tab_ok rfl (Has.imm hbx) rfl) rfl ?_);
          (first | refine RS.pv (PV.lenS tab_ok rfl rfl) rfl ?_ | refine RS.pv (PV.lenT tab_ok rfl rfl) rfl ?_);
          refine RS.pv (PV.addW rfl rfl) rfl ?_;
          (all_goals refine RS.pv (PV.all tab_ok rfl) rfl ?_);
          (all_goals (first | refine RS.lv (LV.load tab_ok rfl (Has.imm hb5) rfl) rfl ?_ | refine RS.lv (LV.load tab_ok rfl (Has.imm hbx) rfl) rfl ?_));
          (all_goals (first | refine RS.pv (PV.lenS tab_ok rfl rfl) rfl ?_ | refine RS.pv (PV.lenT tab_ok rfl rfl) rfl ?_));
          (all_goals refine RS.pv (PV.addW rfl rfl) rfl ?_);
          (all_goals refine RS.pv (PV.all tab_ok rfl) rfl ?_);
          (all_goals (first | refine RS.lv (LV.load tab_ok rfl (Has.imm hb5) rfl) rfl ?_ | refine RS.lv (LV.load tab_ok rfl (Has.imm hbx) rfl) rfl ?_));
          (all_goals (first | refine RS.pv (PV.lenS tab_ok rfl rfl) rfl ?_ | refine RS.pv (PV.lenT tab_ok rfl rfl) rfl ?_));
          (all_goals refine RS.pv (PV.addW rfl rfl) rfl ?_);
          (all_goals refine RS.pv (PV.all tab_ok rfl) rfl ?_);
          (all_goals (first | refine RS.lv (LV.load tab_ok rfl (Has.imm hb5) rfl) rfl ?_ | refine RS.lv (LV.load tab_ok rfl (Has.imm hbx) rfl) rfl ?_));
          (all_goals (first | refine RS.pv (PV.lenS tab_ok rfl rfl) rfl ?_ | refine RS.pv (PV.lenT tab_ok rfl rfl) rfl ?_));
          (all_goals refine RS.pv (PV.addW rfl rfl) rfl ?_);
          (all_goals refine RS.pv (PV.all tab_ok rfl) rfl ?_);
          (all_goals (first | refine RS.lv (LV.load tab_ok rfl (Has.imm hb5) rfl) rfl ?_ | refine RS.lv (LV.load tab_ok rfl (Has.imm hbx) rfl) rfl ?_));
          (all_goals (first | refine RS.pv (PV.lenS tab_ok rfl rfl) rfl ?_ | refine RS.pv (PV.lenT tab_ok rfl rfl) rfl ?_));
          (all_goals refine RS.pv (PV.addW rfl rfl) rfl ?_);
          (all_goals refine RS.pv (PV.addW rfl rfl) rfl ?_);
          (all_goals refine RS.pv (PV.all tab_ok rfl) rfl ?_);
          (all_goals refine RS.nil ?_))
      | refine CS.ret ?_
      | refine thenQ.ret ?_
      | refine blkQ.ret ?_
      | refine retQ.ret ?_
      | refine CS.block ?_
      | refine CS.exit ?_
      | refine thenQ.exit ?_
      | refine blkQ.normal ?_
      | refine blkQ.here ?_
      | refine blkQ.past rfl ?_
      | refine retQ.normal ?_)
    exact ⟨W.recs.length - (k + 1), by omega, k + 1, _, rfl, hlt, hi.trans hi6, rfl, rfl⟩
  · repeat' (first
      | refine CS.seq ?_
      | refine thenQ.normal ?_
      | refine CS.cond_true rfl ?_
      | refine CS.cond_false rfl ?_
      | refine CS.skip ?_
      | (refine CS.region (id := 3) ?_;
          refine RS.pv (PV.all tab_ok rfl) rfl ?_;
          refine RS.pv (PV.all tab_ok rfl) rfl ?_;
          refine RS.lv (LV.load tab_ok rfl (Has.imm hbx) rfl) rfl ?_;
          (first | refine RS.pv (PV.lenS tab_ok rfl rfl) rfl ?_ | refine RS.pv (PV.lenT tab_ok rfl rfl) rfl ?_);
          (first | refine RS.pv (PV.lssT rfl rfl (by omega)) rfl ?_ | refine RS.pv (PV.lssF rfl rfl (by omega)) rfl ?_ | refine RS.ifLss rfl rfl rfl (fun h => ?_) (fun h => ?_));
          (all_goals refine RS.nil ?_))
      | (refine CS.region (id := 4) ?_;
          refine RS.pv (PV.all tab_ok rfl) rfl ?_;
          refine RS.pv (PV.add rfl rfl (by omega)) rfl ?_;
          refine RS.pv (PV.all tab_ok rfl) rfl ?_;
          refine RS.nil ?_)
      | (refine CS.region (id := 7) ?_;
          refine RS.pv (PV.all tab_ok rfl) rfl ?_;
          refine RS.nil ?_)
      | refine CS.ret ?_
      | refine thenQ.ret ?_
      | refine blkQ.ret ?_
      | refine retQ.ret ?_
      | refine CS.block ?_
      | refine CS.exit ?_
      | refine thenQ.exit ?_
      | refine blkQ.normal ?_
      | refine blkQ.here ?_
      | refine blkQ.past rfl ?_
      | refine retQ.normal ?_)
    refine CS.loop [1, 3, 6] (fun m vs i'' L' => ∃ (k : Nat) (s : Int), m = W.mods.length - k ∧ k ≤ W.mods.length ∧ i' = i'' ∧ vs = [.pointer (some ⟨bx, 0, none⟩), .int .i64 s, .int .i64 (k : Int)] ∧ L = L') W.mods.length ⟨0, s, rfl, Nat.zero_le _, rfl, rfl, rfl⟩ ?_
    rintro m g2 vs i'' L' - ⟨k2, s2, rfl, hk2, rfl, rfl, rfl⟩
    by_cases hlt2 : k2 < W.mods.length
    · obtain ⟨b1, o1, u1, t1, z1, p1, e1, g1, q⟩ := ((h4.le hi1).le hi).at hlt2 (by omega)
      cases e1
      obtain ⟨x, hx⟩ : ∃ x, W.mods[k2]? = some x := ⟨_, List.getElem?_eq_getElem hlt2⟩
      have q1 := q 0 (by omega)
      rw [strs_at, hx] at q1
      repeat' (first
        | refine CS.seq ?_
        | refine thenQ.normal ?_
        | refine CS.cond_true rfl ?_
        | refine CS.cond_false rfl ?_
        | refine CS.skip ?_
        | (refine CS.region (id := 8) ?_;
            refine RS.pv (PV.all tab_ok rfl) rfl ?_;
            refine RS.pv (PV.all tab_ok rfl) rfl ?_;
            refine RS.lv (LV.load tab_ok rfl (Has.imm hbx) rfl) rfl ?_;
            (first | refine RS.pv (PV.lenS tab_ok rfl rfl) rfl ?_ | refine RS.pv (PV.lenT tab_ok rfl rfl) rfl ?_);
            (first | refine RS.pv (PV.lssT rfl rfl (by omega)) rfl ?_ | refine RS.pv (PV.lssF rfl rfl (by omega)) rfl ?_ | refine RS.ifLss rfl rfl rfl (fun h => ?_) (fun h => ?_));
            (all_goals refine RS.nil ?_))
        | (refine CS.region (id := 9) ?_;
            refine RS.pv (PV.all tab_ok rfl) rfl ?_;
            refine RS.pv (PV.add rfl rfl (by omega)) rfl ?_;
            refine RS.pv (PV.all tab_ok rfl) rfl ?_;
            refine RS.nil ?_)
        | (refine CS.region (id := 10) ?_;
            refine RS.pv (PV.all tab_ok rfl) rfl ?_;
            refine RS.pv (PV.all tab_ok rfl) rfl ?_;
            refine RS.lv (LV.load tab_ok rfl (Has.imm hbx) rfl) rfl ?_;
            refine RS.pv (PV.all tab_ok rfl) rfl ?_;
            (first | refine RS.pv (PV.indexAddr tab_ok rfl rfl rfl (by omega)) rfl ?_ | refine RS.pv (PV.indexAddrA tab_ok rfl rfl rfl (by omega)) rfl ?_);
            refine RS.lv (LV.load1 tab_ok rfl (Has.imm g1) rfl q1) rfl ?_;
            (all_goals (first | refine RS.pv (PV.lenS tab_ok rfl rfl) rfl ?_ | refine RS.pv (PV.lenT tab_ok rfl rfl) rfl ?_));
            (all_goals refine RS.pv (PV.addW rfl rfl) rfl ?_);
            (all_goals refine RS.pv (PV.all tab_ok rfl) rfl ?_);
            (all_goals refine RS.nil ?_))
        | refine CS.ret ?_
        | refine thenQ.ret ?_
        | refine blkQ.ret ?_
        | refine retQ.ret ?_
        | refine CS.block ?_
        | refine CS.exit ?_
        | refine thenQ.exit ?_
        | refine blkQ.normal ?_
        | refine blkQ.here ?_
        | refine blkQ.past rfl ?_
        | refine retQ.normal ?_)
      exact ⟨W.mods.length - (k2 + 1), by omega, k2 + 1, _, rfl, hlt2, rfl, rfl, rfl⟩
    · repeat' (first
        | refine CS.seq ?_
        | refine thenQ.normal ?_
        | refine CS.cond_true rfl ?_
        | refine CS.cond_false rfl ?_
        | refine CS.skip ?_
        | (refine CS.region (id := 8) ?_;
            refine RS.pv (PV.all tab_ok rfl) rfl ?_;
            refine RS.pv (PV.all tab_ok rfl) rfl ?_;
            refine RS.lv (LV.load tab_ok rfl (Has.imm hbx) rfl) rfl ?_;
            (first | refine RS.pv (PV.lenS tab_ok rfl rfl) rfl ?_ | refine RS.pv (PV.lenT tab_ok rfl rfl) rfl ?_);
            (first | refine RS.pv (PV.lssT rfl rfl (by omega)) rfl ?_ | refine RS.pv (PV.lssF rfl rfl (by omega)) rfl ?_ | refine RS.ifLss rfl rfl rfl (fun h => ?_) (fun h => ?_));
            (all_goals refine RS.nil ?_))
        | (refine CS.region (id := 11) ?_;
            refine RS.pv (PV.all tab_ok rfl) rfl ?_;
            (first | refine RS.pv (PV.leqT rfl rfl (by omega)) rfl ?_ | refine RS.pv (PV.leqF rfl rfl (by omega)) rfl ?_ | refine RS.ifLeq rfl rfl rfl (fun h => ?_) (fun h => ?_));
            (all_goals refine RS.pv (PV.all tab_ok rfl) rfl ?_);
            (all_goals (first | refine RS.pv (PV.all tab_ok rfl) rfl ?_ | refine RS.skip rfl ?_));
            (all_goals (first | refine RS.lv (LV.load tab_ok rfl (Has.imm hbx) rfl) rfl ?_ | refine RS.skip rfl ?_));
            (all_goals (first | refine RS.pv (PV.lenS tab_ok rfl rfl) rfl ?_ | refine RS.pv (PV.lenT tab_ok rfl rfl) rfl ?_ | refine RS.skip rfl ?_));
            (all_goals (first | refine RS.pv (PV.leqT rfl rfl (by omega)) rfl ?_ | refine RS.pv (PV.leqF rfl rfl (by omega)) rfl ?_ | refine RS.ifLeq rfl rfl rfl (fun h => ?_) (fun h => ?_) | refine RS.skip rfl ?_));
            (all_goals refine RS.pv (PV.all tab_ok rfl) rfl ?_);
            (all_goals refine RS.pv (PV.all tab_ok rfl) rfl ?_);
            (all_goals (first | refine RS.pv (PV.all tab_ok rfl) rfl ?_ | refine RS.skip rfl ?_));
            (all_goals (first | refine RS.lv (LV.load tab_ok rfl (Has.imm hbx) rfl) rfl ?_ | refine RS.skip rfl ?_));
            (all_goals (first | refine RS.pv (PV.lenS tab_ok rfl rfl) rfl ?_ | refine RS.pv (PV.lenT tab_ok rfl rfl) rfl ?_ | refine RS.skip rfl ?_));
            (all_goals (first | refine RS.pv (PV.leqT rfl rfl (by omega)) rfl ?_ | refine RS.pv (PV.leqF rfl rfl (by omega)) rfl ?_ | refine RS.ifLeq rfl rfl rfl (fun h => ?_) (fun h => ?_) | refine RS.skip rfl ?_));
            (all_goals refine RS.pv (PV.all tab_ok rfl) rfl ?_);
            (all_goals refine RS.pv (PV.all tab_ok rfl) rfl ?_);
            (all_goals (first | refine RS.pv (PV.all tab_ok rfl) rfl ?_ | refine RS.skip rfl ?_));
            (all_goals (first | refine RS.lv (LV.load tab_ok rfl (Has.imm hbx) rfl) rfl ?_ | refine RS.skip rfl ?_));
            (all_goals (first | refine RS.pv (PV.lenS tab_ok rfl rfl) rfl ?_ | refine RS.pv (PV.lenT tab_ok rfl rfl) rfl ?_ | refine RS.skip rfl ?_));
            (all_goals (first | refine RS.pv (PV.leqT rfl rfl (by omega)) rfl ?_ | refine RS.pv (PV.leqF rfl rfl (by omega)) rfl ?_ | refine RS.ifLeq rfl rfl rfl (fun h => ?_) (fun h => ?_) | refine RS.skip rfl ?_));
            (all_goals refine RS.pv (PV.all tab_ok rfl) rfl ?_);
            (all_goals refine RS.pv (PV.all tab_ok rfl) rfl ?_);
            (all_goals (first | refine RS.pv (PV.all tab_ok rfl) rfl ?_ | refine RS.skip rfl ?_));
            (all_goals (first | refine RS.lv (LV.load tab_ok rfl (Has.imm hbx) rfl) rfl ?_ | refine RS.skip rfl ?_));
            (all_goals (first | refine RS.pv (PV.lenS tab_ok rfl rfl) rfl ?_ | refine RS.pv (PV.lenT tab_ok rfl rfl) rfl ?_ | refine RS.skip rfl ?_));
            (all_goals (first | refine RS.pv (PV.leqT rfl rfl (by omega)) rfl ?_ | refine RS.pv (PV.leqF rfl rfl (by omega)) rfl ?_ | refine RS.ifLeq rfl rfl rfl (fun h => ?_) (fun h => ?_) | refine RS.skip rfl ?_));
            (all_goals refine RS.pv (PV.all tab_ok rfl) rfl ?_);
            (all_goals refine RS.pv (PV.all tab_ok rfl) rfl ?_);
            (all_goals (first | refine RS.pv (PV.all tab_ok rfl) rfl ?_ | refine RS.skip rfl ?_));
            (all_goals (first | refine RS.lv (LV.load tab_ok rfl (Has.imm hbx) rfl) rfl ?_ | refine RS.skip rfl ?_));
            (all_goals (first | refine RS.pv (PV.lenS tab_ok rfl rfl) rfl ?_ | refine RS.pv (PV.lenT tab_ok rfl rfl) rfl ?_ | refine RS.skip rfl ?_));
            (all_goals (first | refine RS.pv (PV.leqT rfl rfl (by omega)) rfl ?_ | refine RS.pv (PV.leqF rfl rfl (by omega)) rfl ?_ | refine RS.ifLeq rfl rfl rfl (fun h => ?_) (fun h => ?_) | refine RS.skip rfl ?_));
            (all_goals refine RS.pv (PV.all tab_ok rfl) rfl ?_);
            (all_goals refine RS.pv (PV.all tab_ok rfl) rfl ?_);
            (all_goals refine RS.nil ?_))
        | refine CS.ret ?_
        | refine thenQ.ret ?_
        | refine blkQ.ret ?_
        | refine retQ.ret ?_
        | refine CS.block ?_
        | refine CS.exit ?_
        | refine thenQ.exit ?_
        | refine blkQ.normal ?_
        | refine blkQ.here ?_
        | refine blkQ.past rfl ?_
        | refine retQ.normal ?_)
      all_goals first
        | exact ⟨rfl, false, rfl, nofun⟩
        | exact ⟨rfl, true, rfl, fun _ => ⟨by omega, by omega, by omega, by omega, by omega⟩⟩
end Go.Proofs.Ytmcajldlcomegaa
