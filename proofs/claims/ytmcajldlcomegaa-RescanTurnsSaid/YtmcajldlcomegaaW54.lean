/- RescanCompares, part 9: rescan.Compare walked. -/
import Derived.Test.YtmcajldlcomegaaW53
namespace Go.Proofs.Ytmcajldlcomegaa
open Go Go.Eng

theorem WorldV.lit {i : Imm} {wc : List Value} {W : WorldD} (h : WorldV i wc W) : ∃ a0 c0 a1 c1 a2 c2 a3 c3 a4 c4, wc = [.slice a0 W.recs.length c0, .slice a1 W.nodes.length c1, .slice a2 W.links.length c2, .slice a3 W.names.length c3, .slice a4 W.mods.length c4] ∧
    Sl i (.slice a0 W.recs.length c0) 12 W.recs.length (rowC Prod.fst W.recs) ∧ Sl i (.slice a1 W.nodes.length c1) 7 W.nodes.length (rowC id W.nodes) ∧ Sl i (.slice a2 W.links.length c2) 3 W.links.length (rowC id W.links) ∧ Sl i (.slice a3 W.names.length c3) 2 W.names.length (rowC id W.names) ∧ Sl i (.slice a4 W.mods.length c4) 1 W.mods.length (strs W.mods) ∧
    ∀ p ∈ W.recs, RecV i p.1 p.2 := by
  obtain ⟨v0, v1, v2, v3, v4, e, h0, h1, h2, h3, h4, h5⟩ := h
  obtain ⟨a0, c0, rfl, -⟩ := id h0
  obtain ⟨a1, c1, rfl, -⟩ := id h1
  obtain ⟨a2, c2, rfl, -⟩ := id h2
  obtain ⟨a3, c3, rfl, -⟩ := id h3
  obtain ⟨a4, c4, rfl, -⟩ := id h4
  exact ⟨_, _, _, _, _, _, _, _, _, _, e, h0, h1, h2, h3, h4, h5⟩
theorem Compare_40 (ac bc : List Value) (A B : WorldD) (i : Imm) (L : SH) (hA : WorldV i ac A) (hB : WorldV i bc B) (oA : A.ok) (oB : B.ok) (fA : A.few) (fB : B.few) :
    FnS Try.prog 40 [.agg ac.toArray, .agg bc.toArray] i L fun v i' L' => L' = L ∧ ∃ l, Sl i' v 3 l.length (diffs l) ∧ WDiff A B l ∧ l.length ≤ 10000000 := by
  refine FnS.state (K := fun v i' L' => ∃ M, (∃ l, Sl i' v 3 l.length (diffs l) ∧ WDiff A B l ∧ l.length ≤ 10000000) ∧ L' = M ++ L) ?_ ?_
  rotate_left
  · rintro v i' L' w _ hs ⟨M, hv, rfl⟩
    exact ⟨i', L, Imm.le.refl i', hs.dropL, rfl, hv⟩
  obtain ⟨a0, c0, a1, c1, a2, c2, a3, c3, a4, c4, rfl, hA0, hA1, hA2, hA3, hA4, hA5⟩ := hA.lit
  obtain ⟨b0, d0, b1, d1, b2, d2, b3, d3, b4, d4, rfl, hB0, hB1, hB2, hB3, hB4, hB5⟩ := hB.lit
  obtain ⟨fa0, fa1, fa2, fa3, fa4⟩ := fA
  obtain ⟨fb0, fb1, fb2, fb3, fb4⟩ := fB
  have eA := els_recs hA5 oA.recs
  have eB := els_recs hB5 oB.recs
  have nA := els_shp oA.nodes
  have nB := els_shp oB.nodes
  have lA := els_shp oA.links
  have lB := els_shp oB.links
  have mA := els_shp oA.names
  have mB := els_shp oB.names
  refine FnS.intro1 Try.func40 rfl Try.ntmps40 (by simp) Try.results40 ?_
  repeat' (first
    | refine CS.seq ?_
    | refine thenQ.normal ?_
    | refine CS.cond_true rfl ?_
    | refine CS.cond_false rfl ?_
    | refine CS.skip ?_
    | (refine CS.region (id := 0) ?_;
        refine RS.box rfl rfl (fun b => ?_);
        refine RS.box rfl rfl (fun b => ?_);
        refine RS.pv (PV.all tab_ok rfl) rfl ?_;
        refine RS.nil ?_)
    | refine CS.ret ?_
    | refine thenQ.ret ?_
    | refine blkQ.ret ?_
    | refine retQ.ret ?_
    | refine CS.block ?_
    | refine CS.exit ?_
    | refine thenQ.exit ?_
    | refine blkQ.normal ?_
    | refine blkQ.here ?_
    | refine blkQ.past rfl ?_
    | refine retQ.normal ?_)
  refine CS.draw0 mix [0, 1, 2, 3, 4, 5, 6, 7, 8, 9, 10, 11, 12, 13, 14, 15, 16, 17, 18, 19, 20, 21, 22, 23, 24, 25, 26] [27] (by kernel_rfl) rfl ?_
  refine GS.pv (PV.all tab_ok rfl) rfl rfl rfl rfl rfl rfl ?_
  (first | refine GS.lv (fun _i _hi => LV.load tab_ok rfl (Has.own 0 rfl) rfl) rfl rfl rfl rfl rfl rfl ?_ | refine GS.lv (fun _i _hi => LV.load tab_ok rfl (Has.own 1 rfl) rfl) rfl rfl rfl rfl rfl rfl ?_ | refine GS.lv (fun _i _hi => LV.load tab_ok rfl (Has.own 2 rfl) rfl) rfl rfl rfl rfl rfl rfl ?_)
  refine GS.pv (PV.all tab_ok rfl) rfl rfl rfl rfl rfl rfl ?_
  (first | refine GS.lv (fun _i _hi => LV.load tab_ok rfl (Has.own 0 rfl) rfl) rfl rfl rfl rfl rfl rfl ?_ | refine GS.lv (fun _i _hi => LV.load tab_ok rfl (Has.own 1 rfl) rfl) rfl rfl rfl rfl rfl rfl ?_ | refine GS.lv (fun _i _hi => LV.load tab_ok rfl (Has.own 2 rfl) rfl) rfl rfl rfl rfl rfl rfl ?_)
  refine GS.fact0 (fun i v => ∃ l : List Diff, Sl i v 3 l.length (diffs l) ∧ DiffOf 1 rnm rsm A.recs B.recs l ∧ l.length ≤ 2000000) (fun _ _ hi _ ⟨l, h1, h2, h3⟩ => ⟨l, h1.le hi, h2, h3⟩) rfl rfl rfl rfl rfl rfl (fun i' hi => OpS.call (by kernel_rfl) rfl (Compare_64 Prod.fst rnm rsm A.recs B.recs 1 57 (by kernel_rfl) _ _ i' _ eA eB (hA0.le hi) (hB0.le hi) (by omega) (by omega) (fun x hx y hy i2 L2 hi2 => (recSame_s _ _ _ _ i2 L2 ((hA5 x hx).le (hi.trans hi2)) ((hB5 y hy).le (hi.trans hi2)) (oA.recs x hx).1).mono fun v _ _ _ ⟨h1, _, h2⟩ => ⟨by rw [h1]; rfl, h2⟩)) (fun _ _ _ _ ⟨h1, l, h2, h3, h4⟩ => ⟨h1, l, h2, h3, by omega⟩)) ?_
  refine GS.pv (PV.all tab_ok rfl) rfl rfl rfl rfl rfl rfl ?_
  (first | refine GS.lv (fun _i _hi => LV.load tab_ok rfl (Has.own 0 rfl) rfl) rfl rfl rfl rfl rfl rfl ?_ | refine GS.lv (fun _i _hi => LV.load tab_ok rfl (Has.own 1 rfl) rfl) rfl rfl rfl rfl rfl rfl ?_ | refine GS.lv (fun _i _hi => LV.load tab_ok rfl (Has.own 2 rfl) rfl) rfl rfl rfl rfl rfl rfl ?_)
  refine GS.pv (PV.all tab_ok rfl) rfl rfl rfl rfl rfl rfl ?_
  (first | refine GS.lv (fun _i _hi => LV.load tab_ok rfl (Has.own 0 rfl) rfl) rfl rfl rfl rfl rfl rfl ?_ | refine GS.lv (fun _i _hi => LV.load tab_ok rfl (Has.own 1 rfl) rfl) rfl rfl rfl rfl rfl rfl ?_ | refine GS.lv (fun _i _hi => LV.load tab_ok rfl (Has.own 2 rfl) rfl) rfl rfl rfl rfl rfl rfl ?_)
  refine GS.fact0 (fun i v => ∃ l : List Diff, Sl i v 3 l.length (diffs l) ∧ DiffOf 2 nm0 allEq A.nodes B.nodes l ∧ l.length ≤ 2000000) (fun _ _ hi _ ⟨l, h1, h2, h3⟩ => ⟨l, h1.le hi, h2, h3⟩) rfl rfl rfl rfl rfl rfl (fun i' hi => OpS.call (by kernel_rfl) rfl (Compare_66 id nm0 allEq A.nodes B.nodes 2 68 (by kernel_rfl) _ _ i' _ nA nB (hA1.le hi) (hB1.le hi) (by omega) (by omega) (fun x hx y hy i2 L2 hi2 => equal_68 x y i2 L2 (oA.nodes x hx).1 (oB.nodes y hy).1)) (fun _ _ _ _ ⟨h1, l, h2, h3, h4⟩ => ⟨h1, l, h2, h3, by omega⟩)) ?_
  refine GS.pv (PV.all tab_ok rfl) rfl rfl rfl rfl rfl rfl ?_
  (first | refine GS.lv (fun _i _hi => LV.load tab_ok rfl (Has.own 0 rfl) rfl) rfl rfl rfl rfl rfl rfl ?_ | refine GS.lv (fun _i _hi => LV.load tab_ok rfl (Has.own 1 rfl) rfl) rfl rfl rfl rfl rfl rfl ?_ | refine GS.lv (fun _i _hi => LV.load tab_ok rfl (Has.own 2 rfl) rfl) rfl rfl rfl rfl rfl rfl ?_)
  refine GS.pv (PV.all tab_ok rfl) rfl rfl rfl rfl rfl rfl ?_
  (first | refine GS.lv (fun _i _hi => LV.load tab_ok rfl (Has.own 0 rfl) rfl) rfl rfl rfl rfl rfl rfl ?_ | refine GS.lv (fun _i _hi => LV.load tab_ok rfl (Has.own 1 rfl) rfl) rfl rfl rfl rfl rfl rfl ?_ | refine GS.lv (fun _i _hi => LV.load tab_ok rfl (Has.own 2 rfl) rfl) rfl rfl rfl rfl rfl rfl ?_)
  refine GS.fact0 (fun i v => ∃ l : List Diff, Sl i v 3 l.length (diffs l) ∧ DiffOf 3 nm0 allEq A.links B.links l ∧ l.length ≤ 2000000) (fun _ _ hi _ ⟨l, h1, h2, h3⟩ => ⟨l, h1.le hi, h2, h3⟩) rfl rfl rfl rfl rfl rfl (fun i' hi => OpS.call (by kernel_rfl) rfl (Compare_69 id nm0 allEq A.links B.links 3 71 (by kernel_rfl) _ _ i' _ lA lB (hA2.le hi) (hB2.le hi) (by omega) (by omega) (fun x hx y hy i2 L2 hi2 => equal_71 x y i2 L2 (oA.links x hx).1 (oB.links y hy).1)) (fun _ _ _ _ ⟨h1, l, h2, h3, h4⟩ => ⟨h1, l, h2, h3, by omega⟩)) ?_
  refine GS.pv (PV.all tab_ok rfl) rfl rfl rfl rfl rfl rfl ?_
  (first | refine GS.lv (fun _i _hi => LV.load tab_ok rfl (Has.own 0 rfl) rfl) rfl rfl rfl rfl rfl rfl ?_ | refine GS.lv (fun _i _hi => LV.load tab_ok rfl (Has.own 1 rfl) rfl) rfl rfl rfl rfl rfl rfl ?_ | refine GS.lv (fun _i _hi => LV.load tab_ok rfl (Has.own 2 rfl) rfl) rfl rfl rfl rfl rfl rfl ?_)
  refine GS.pv (PV.all tab_ok rfl) rfl rfl rfl rfl rfl rfl ?_
  (first | refine GS.lv (fun _i _hi => LV.load tab_ok rfl (Has.own 0 rfl) rfl) rfl rfl rfl rfl rfl rfl ?_ | refine GS.lv (fun _i _hi => LV.load tab_ok rfl (Has.own 1 rfl) rfl) rfl rfl rfl rfl rfl rfl ?_ | refine GS.lv (fun _i _hi => LV.load tab_ok rfl (Has.own 2 rfl) rfl) rfl rfl rfl rfl rfl rfl ?_)
  refine GS.fact0 (fun i v => ∃ l : List Diff, Sl i v 3 l.length (diffs l) ∧ DiffOf 4 nm0 allEq A.names B.names l ∧ l.length ≤ 2000000) (fun _ _ hi _ ⟨l, h1, h2, h3⟩ => ⟨l, h1.le hi, h2, h3⟩) rfl rfl rfl rfl rfl rfl (fun i' hi => OpS.call (by kernel_rfl) rfl (Compare_72 id nm0 allEq A.names B.names 4 74 (by kernel_rfl) _ _ i' _ mA mB (hA3.le hi) (hB3.le hi) (by omega) (by omega) (fun x hx y hy i2 L2 hi2 => equal_74 x y i2 L2 (oA.names x hx).1 (oB.names y hy).1)) (fun _ _ _ _ ⟨h1, l, h2, h3, h4⟩ => ⟨h1, l, h2, h3, by omega⟩)) ?_
  refine GS.pv (PV.all tab_ok rfl) rfl rfl rfl rfl rfl rfl ?_
  (first | refine GS.lv (fun _i _hi => LV.load tab_ok rfl (Has.own 0 rfl) rfl) rfl rfl rfl rfl rfl rfl ?_ | refine GS.lv (fun _i _hi => LV.load tab_ok rfl (Has.own 1 rfl) rfl) rfl rfl rfl rfl rfl rfl ?_ | refine GS.lv (fun _i _hi => LV.load tab_ok rfl (Has.own 2 rfl) rfl) rfl rfl rfl rfl rfl rfl ?_)
  refine GS.pv (PV.all tab_ok rfl) rfl rfl rfl rfl rfl rfl ?_
  (first | refine GS.lv (fun _i _hi => LV.load tab_ok rfl (Has.own 0 rfl) rfl) rfl rfl rfl rfl rfl rfl ?_ | refine GS.lv (fun _i _hi => LV.load tab_ok rfl (Has.own 1 rfl) rfl) rfl rfl rfl rfl rfl rfl ?_ | refine GS.lv (fun _i _hi => LV.load tab_ok rfl (Has.own 2 rfl) rfl) rfl rfl rfl rfl rfl rfl ?_)
  refine GS.fact0 (fun i v => ∃ l : List Diff, Sl i v 3 l.length (diffs l) ∧ DiffOf 5 id (fun x y => decide (x = y)) A.mods B.mods l ∧ l.length ≤ 2000000) (fun _ _ hi _ ⟨l, h1, h2, h3⟩ => ⟨l, h1.le hi, h2, h3⟩) rfl rfl rfl rfl rfl rfl (fun i' hi => OpS.call (by kernel_rfl) rfl (Compare_75 (fun x y => decide (x = y)) A.mods B.mods 5 77 (by kernel_rfl) _ _ i' _ oA.mods oB.mods (hA4.le hi) (hB4.le hi) (by omega) (by omega) (fun x hx y hy i2 L2 hi2 => equal_77 x y i2 L2)) (fun _ _ _ _ ⟨h1, l, h2, h3, h4⟩ => ⟨h1, l, h2, h3, by omega⟩)) ?_
  refine GS.factF (fun i v => ∃ (v1 v2 v3 v4 v5 : Value) (l1 l2 l3 l4 l5 : List Diff), Sl i v 1 5 [v1, v2, v3, v4, v5] ∧ (Sl i v1 3 l1.length (diffs l1) ∧ Sl i v2 3 l2.length (diffs l2) ∧ Sl i v3 3 l3.length (diffs l3) ∧ Sl i v4 3 l4.length (diffs l4) ∧ Sl i v5 3 l5.length (diffs l5)) ∧ WDiff A B (l1 ++ (l2 ++ (l3 ++ (l4 ++ l5)))) ∧ l1.length + l2.length + l3.length + l4.length + l5.length ≤ 10000000) (fun _ _ hi _ ⟨v1, v2, v3, v4, v5, l1, l2, l3, l4, l5, h1, ⟨h2, h3, h4, h5, h6⟩, h7⟩ => ⟨v1, v2, v3, v4, v5, l1, l2, l3, l4, l5, h1.le hi, ⟨h2.le hi, h3.le hi, h4.le hi, h5.le hi, h6.le hi⟩, h7⟩) rfl rfl rfl rfl (fun i' hi => ?_) ?_
  · rintro v1 ⟨l1, s1, e1, n1⟩ v2 ⟨l2, s2, e2, n2⟩ v3 ⟨l3, s3, e3, n3⟩ v4 ⟨l4, s4, e4, n4⟩ v5 ⟨l5, s5, e5, n5⟩
    obtain ⟨x1, y1, rfl, -⟩ := id s1
    obtain ⟨x2, y2, rfl, -⟩ := id s2
    obtain ⟨x3, y3, rfl, -⟩ := id s3
    obtain ⟨x4, y4, rfl, -⟩ := id s4
    obtain ⟨x5, y5, rfl, -⟩ := id s5
    refine ⟨rfl, OpS.mono (OpS.buildSliceF tab_ok (sz := 1) rfl rfl) fun v i'' L'' hi' ⟨hL, b, hv, hs⟩ => ⟨hL, ?_⟩⟩
    exact ⟨_, _, _, _, _, l1, l2, l3, l4, l5, hs, ⟨s1.le hi', s2.le hi', s3.le hi', s4.le hi', s5.le hi'⟩, ⟨l1, l2, l3, l4, l5, e1, e2, e3, e4, e5, rfl⟩, by omega⟩
  refine GS.factF (fun i v => ∃ l : List Diff, Sl i v 3 l.length (diffs l) ∧ WDiff A B l ∧ l.length ≤ 10000000) (fun _ _ hi _ ⟨l, h1, h2, h3⟩ => ⟨l, h1.le hi, h2, h3⟩) rfl rfl rfl rfl (fun i' hi => ?_) ?_
  · rintro v ⟨v1, v2, v3, v4, v5, l1, l2, l3, l4, l5, h1, ⟨h2, h3, h4, h5, h6⟩, h7, h8⟩
    refine ⟨rfl, OpS.call (by kernel_rfl) rfl (Concat_63 [(v1, l1), (v2, l2), (v3, l3), (v4, l4), (v5, l5)] v i' _ h1 (fun p hp => ?_) (by simp) (by simp [lens]; omega)) (fun _ _ _ _ ⟨k1, k2⟩ => ⟨k1, l1 ++ (l2 ++ (l3 ++ (l4 ++ l5))), by simpa using k2, h7, by simp; omega⟩)⟩
    simp only [List.mem_cons, List.not_mem_nil, or_false] at hp
    rcases hp with rfl | rfl | rfl | rfl | rfl
    · exact h2
    · exact h3
    · exact h4
    · exact h5
    · exact h6
  refine GS.done rfl rfl (fun i5 hi5 => ?_)
  rintro v31 ⟨l, hs, hd, hl⟩ v30 _ v29 _ v24 _ v19 _ v14 _ v9 _
  obtain ⟨x1, y1, rfl, -⟩ := id hs
  refine RS.pv (PV.all tab_ok rfl) rfl ?_
  refine RS.nil ?_
  refine thenQ.normal ?_
  refine CS.ret ?_
  refine retQ.ret ?_
  exact ⟨[_, _], ⟨l, hs, hd, hl⟩, rfl⟩
end Go.Proofs.Ytmcajldlcomegaa
