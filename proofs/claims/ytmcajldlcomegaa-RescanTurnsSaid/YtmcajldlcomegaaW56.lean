/- RescanCompares, part 11: the reference's keys, names and same. -/
import Derived.Test.YtmcajldlcomegaaW55
namespace Go.Proofs.Ytmcajldlcomegaa
open Go Go.Eng

def keysOf (W : WorldD) : Nat → List ByteArray
  | 1 => W.recs.map rnm
  | 2 => W.nodes.map nm0
  | 3 => W.links.map nm0
  | 4 => W.names.map nm0
  | _ => W.mods
theorem keysOf_len {W : WorldD} (h : W.few) (n : Nat) : (keysOf W n).length ≤ 1000000 := by
  obtain ⟨h0, h1, h2, h3, h4⟩ := h
  unfold keysOf
  split <;> first | (rw [List.length_map]; omega) | omega
theorem strs_take {E : Type} {nm : E → ByteArray} {es : List E} {k : Nat} {e : E} (h : es[k]? = some e) : strs ((es.take (k + 1)).map nm) = strs ((es.take k).map nm) ++ [.string (nm e)] := by
  simp [strs, List.take_add_one, h]
theorem keys78_1 (ac : List Value) (A : WorldD) (i : Imm) (L : SH) (hA : WorldV i ac A) (oA : A.ok) (fA : A.few) : FnS Try.prog 78 [.agg ac.toArray, .int .i64 1] i L fun u i' L' => L' = L ∧ Sl i' u 1 (keysOf A 1).length (strs (keysOf A 1)) := by
  refine FnS.state (K := fun u i' L' => ∃ O, SlO 9 u 1 (keysOf A 1).length (strs (keysOf A 1)) O ∧ L' = O ++ L) ?_ ?_
  rotate_left
  · rintro u i' L' w _ hs ⟨O, hO, rfl⟩
    obtain ⟨i2, h1, h2, h3⟩ := hO.freeze hs
    exact ⟨i2, L, h1, h2, rfl, h3⟩
  obtain ⟨a0, c0, a1, c1, a2, c2, a3, c3, a4, c4, rfl, hA0, hA1, hA2, hA3, hA4, hA5⟩ := hA.lit
  obtain ⟨fa0, fa1, fa2, fa3, fa4⟩ := fA
  have hels : ElsOk Prod.fst rnm 12 A.recs := (els_recs hA5 oA.recs)
  refine FnS.intro1 Try.func78 rfl Try.ntmps78 (by simp) Try.results78 ?_
  repeat' (first
    | refine CS.seq ?_
    | refine thenQ.normal ?_
    | refine CS.cond_true rfl ?_
    | refine CS.cond_false rfl ?_
    | refine CS.skip ?_
    | (refine CS.region (id := 0) ?_;
        (refine RS.box rfl rfl (fun bx => ?_); refine RS.freeze (fun i1 hi1 hbx => ?_));
        (all_goals refine RS.pv (PV.all tab_ok rfl) rfl ?_);
        (all_goals refine RS.nil ?_))
    | (refine CS.region (id := 1) ?_;
        refine RS.pv (PV.all tab_ok rfl) rfl ?_;
        refine RS.nil ?_)
    | (refine CS.region (id := 2) ?_;
        refine RS.pv (PV.all tab_ok rfl) rfl ?_;
        refine RS.nil ?_)
    | (refine CS.region (id := 4) ?_;
        (first | refine RS.pv (PV.all tab_ok rfl) rfl ?_ | refine RS.pv (PV.eqlT rfl rfl (by omega)) rfl ?_ | refine RS.pv (PV.eqlF rfl rfl (by omega)) rfl ?_ | refine RS.ifEql rfl rfl rfl (fun h => ?_) (fun h => ?_) | refine RS.ifSeql rfl rfl rfl (fun h => ?_) (fun h => ?_));
        (all_goals refine RS.pv (PV.all tab_ok rfl) rfl ?_);
        (all_goals refine RS.nil ?_))
    | (refine CS.region (id := 5) ?_;
        refine RS.pv (PV.all tab_ok rfl) rfl ?_;
        refine RS.nil ?_)
    | refine CS.ret ?_
    | refine thenQ.ret ?_
    | refine blkQ.ret ?_
    | refine retQ.ret ?_
    | refine CS.block ?_
    | refine CS.exit ?_
    | refine thenQ.exit ?_
    | refine blkQ.normal ?_
    | refine blkQ.here ?_
    | refine blkQ.past rfl ?_
    | refine retQ.normal ?_)
  refine CS.loop [2, 5, 6] (fun m vs i' L' => ∃ (k : Nat) (O : SH) (oa : Option Addr) (oc : Nat), m = A.recs.length - k ∧ k ≤ A.recs.length ∧ i1.le i' ∧ SlO 9 (.slice oa k oc) 1 k (strs ((A.recs.take k).map rnm)) O ∧ vs = [.pointer (some ⟨bx, 0, none⟩), .slice oa k oc, .int .i64 (k : Int)] ∧ L' = O ++ L) A.recs.length ⟨0, [], none, 0, rfl, Nat.zero_le _, Imm.le.refl i1, SlO.nil 9 1, rfl, rfl⟩ ?_
  rintro m g vs i' L' - ⟨k, O, oa, oc, rfl, hk, hi, hO, rfl, rfl⟩
  replace hbx := hi.blk _ _ hbx
  by_cases hlt : k < A.recs.length
  · obtain ⟨b1, o1, c5, t1, z1, p1, e1, g1, h1⟩ := ((hA0.le hi1).le hi).at hlt (by omega)
    cases e1
    obtain ⟨e, he⟩ : ∃ e, A.recs[k]? = some e := ⟨_, List.getElem?_eq_getElem hlt⟩
    have q1 := h1 0 (by omega)
    rw [rowC_at hels.len he 0 (by omega), hels.name e (List.mem_of_getElem? he)] at q1
    repeat' (first
      | refine CS.seq ?_
      | refine thenQ.normal ?_
      | refine CS.cond_true rfl ?_
      | refine CS.cond_false rfl ?_
      | refine CS.skip ?_
      | (refine CS.region (id := 6) ?_;
          refine RS.pv (PV.all tab_ok rfl) rfl ?_;
          refine RS.pv (PV.all tab_ok rfl) rfl ?_;
          refine RS.lv (LV.load tab_ok rfl (Has.imm hbx) rfl) rfl ?_;
          (first | refine RS.pv (PV.lenS tab_ok rfl rfl) rfl ?_ | refine RS.pv (PV.lenT tab_ok rfl rfl) rfl ?_);
          (first | refine RS.pv (PV.lssT rfl rfl (by omega)) rfl ?_ | refine RS.pv (PV.lssF rfl rfl (by omega)) rfl ?_ | refine RS.ifLss rfl rfl rfl (fun h => ?_) (fun h => ?_));
          (all_goals refine RS.nil ?_))
      | (refine CS.region (id := 7) ?_;
          refine RS.pv (PV.all tab_ok rfl) rfl ?_;
          refine RS.pv (PV.add rfl rfl (by omega)) rfl ?_;
          refine RS.pv (PV.all tab_ok rfl) rfl ?_;
          refine RS.nil ?_)
      | (refine CS.region (id := 8) ?_;
          refine RS.pv (PV.all tab_ok rfl) rfl ?_;
          refine RS.pv (PV.all tab_ok rfl) rfl ?_;
          refine RS.lv (LV.load tab_ok rfl (Has.imm hbx) rfl) rfl ?_;
          refine RS.pv (PV.all tab_ok rfl) rfl ?_;
          (first | refine RS.pv (PV.indexAddr tab_ok rfl rfl rfl (by omega)) rfl ?_ | refine RS.pv (PV.indexAddrA tab_ok rfl rfl rfl (by omega)) rfl ?_);
          refine RS.pv (PV.all tab_ok rfl) rfl ?_;
          refine RS.lv (LV.load1 tab_ok rfl (Has.imm g1) rfl q1) rfl ?_;
          (all_goals refine RS.buildSliceF tab_ok 1 rfl rfl rfl (fun bb i2 hi2 hbs => ?_));
          (all_goals (refine RS.append tab_ok (sz := 1) (bytes := 16) (k := k) (m := 1) (xs := strs ((A.recs.take k).map rnm)) (news := [Value.string (rnm e)]) rfl rfl rfl ⟨_, rfl, rfl⟩ ⟨_, rfl, rfl, rfl⟩ (by omega) hO rfl (hbs.rd _) (by intro c hc; simp at hc; subst hc; rfl) (by omega) (by omega) ?_; intro v' O' hO' hnil; obtain ⟨oa', oc', rfl⟩ := SlO.shape hO'));
          (all_goals refine RS.pv (PV.all tab_ok rfl) rfl ?_);
          (all_goals refine RS.nil ?_))
      | refine CS.ret ?_
      | refine thenQ.ret ?_
      | refine blkQ.ret ?_
      | refine retQ.ret ?_
      | refine CS.block ?_
      | refine CS.exit ?_
      | refine thenQ.exit ?_
      | refine blkQ.normal ?_
      | refine blkQ.here ?_
      | refine blkQ.past rfl ?_
      | refine retQ.normal ?_)
    exact ⟨A.recs.length - (k + 1), by omega, k + 1, O', oa', oc', rfl, hlt, hi.trans hi2, by rw [strs_take he]; exact hO', rfl, rfl⟩
  · have : k = A.recs.length := by omega
    subst this
    repeat' (first
      | refine CS.seq ?_
      | refine thenQ.normal ?_
      | refine CS.cond_true rfl ?_
      | refine CS.cond_false rfl ?_
      | refine CS.skip ?_
      | (refine CS.region (id := 6) ?_;
          refine RS.pv (PV.all tab_ok rfl) rfl ?_;
          refine RS.pv (PV.all tab_ok rfl) rfl ?_;
          refine RS.lv (LV.load tab_ok rfl (Has.imm hbx) rfl) rfl ?_;
          (first | refine RS.pv (PV.lenS tab_ok rfl rfl) rfl ?_ | refine RS.pv (PV.lenT tab_ok rfl rfl) rfl ?_);
          (first | refine RS.pv (PV.lssT rfl rfl (by omega)) rfl ?_ | refine RS.pv (PV.lssF rfl rfl (by omega)) rfl ?_ | refine RS.ifLss rfl rfl rfl (fun h => ?_) (fun h => ?_));
          (all_goals refine RS.nil ?_))
      | (refine CS.region (id := 7) ?_;
          refine RS.pv (PV.all tab_ok rfl) rfl ?_;
          refine RS.pv (PV.add rfl rfl (by omega)) rfl ?_;
          refine RS.pv (PV.all tab_ok rfl) rfl ?_;
          refine RS.nil ?_)
      | (refine CS.region (id := 8) ?_;
          refine RS.pv (PV.all tab_ok rfl) rfl ?_;
          refine RS.pv (PV.all tab_ok rfl) rfl ?_;
          refine RS.lv (LV.load tab_ok rfl (Has.imm hbx) rfl) rfl ?_;
          refine RS.pv (PV.all tab_ok rfl) rfl ?_;
          (first | refine RS.pv (PV.indexAddr tab_ok rfl rfl rfl (by omega)) rfl ?_ | refine RS.pv (PV.indexAddrA tab_ok rfl rfl rfl (by omega)) rfl ?_);
          refine RS.pv (PV.all tab_ok rfl) rfl ?_;
          refine RS.lv (LV.load tab_ok rfl (Has.imm hbx) rfl) rfl ?_)
      | (refine CS.region (id := 24) ?_;
          refine RS.pv (PV.all tab_ok rfl) rfl ?_;
          refine RS.pv (PV.all tab_ok rfl) rfl ?_;
          refine RS.nil ?_)
      | refine CS.ret ?_
      | refine thenQ.ret ?_
      | refine blkQ.ret ?_
      | refine retQ.ret ?_
      | refine CS.block ?_
      | refine CS.exit ?_
      | refine thenQ.exit ?_
      | refine blkQ.normal ?_
      | refine blkQ.here ?_
      | refine blkQ.past rfl ?_
      | refine retQ.normal ?_)
    refine ⟨O, ?_, rfl⟩
    rw [List.take_length] at hO
    show SlO 9 _ 1 (A.recs.map rnm).length (strs (A.recs.map rnm)) O
    rw [List.length_map]
    exact hO
theorem keys78_2 (ac : List Value) (A : WorldD) (i : Imm) (L : SH) (hA : WorldV i ac A) (oA : A.ok) (fA : A.few) : FnS Try.prog 78 [.agg ac.toArray, .int .i64 2] i L fun u i' L' => L' = L ∧ Sl i' u 1 (keysOf A 2).length (strs (keysOf A 2)) := by
  refine FnS.state (K := fun u i' L' => ∃ O, SlO 9 u 1 (keysOf A 2).length (strs (keysOf A 2)) O ∧ L' = O ++ L) ?_ ?_
  rotate_left
  · rintro u i' L' w _ hs ⟨O, hO, rfl⟩
    obtain ⟨i2, h1, h2, h3⟩ := hO.freeze hs
    exact ⟨i2, L, h1, h2, rfl, h3⟩
  obtain ⟨a0, c0, a1, c1, a2, c2, a3, c3, a4, c4, rfl, hA0, hA1, hA2, hA3, hA4, hA5⟩ := hA.lit
  obtain ⟨fa0, fa1, fa2, fa3, fa4⟩ := fA
  have hels : ElsOk id nm0 7 A.nodes := (els_shp oA.nodes)
  refine FnS.intro1 Try.func78 rfl Try.ntmps78 (by simp) Try.results78 ?_
  repeat' (first
    | refine CS.seq ?_
    | refine thenQ.normal ?_
    | refine CS.cond_true rfl ?_
    | refine CS.cond_false rfl ?_
    | refine CS.skip ?_
    | (refine CS.region (id := 0) ?_;
        (refine RS.box rfl rfl (fun bx => ?_); refine RS.freeze (fun i1 hi1 hbx => ?_));
        (all_goals refine RS.pv (PV.all tab_ok rfl) rfl ?_);
        (all_goals refine RS.nil ?_))
    | (refine CS.region (id := 1) ?_;
        refine RS.pv (PV.all tab_ok rfl) rfl ?_;
        refine RS.nil ?_)
    | (refine CS.region (id := 2) ?_;
        refine RS.pv (PV.all tab_ok rfl) rfl ?_;
        refine RS.nil ?_)
    | (refine CS.region (id := 4) ?_;
        (first | refine RS.pv (PV.all tab_ok rfl) rfl ?_ | refine RS.pv (PV.eqlT rfl rfl (by omega)) rfl ?_ | refine RS.pv (PV.eqlF rfl rfl (by omega)) rfl ?_ | refine RS.ifEql rfl rfl rfl (fun h => ?_) (fun h => ?_) | refine RS.ifSeql rfl rfl rfl (fun h => ?_) (fun h => ?_));
        (all_goals refine RS.pv (PV.all tab_ok rfl) rfl ?_);
        (all_goals refine RS.nil ?_))
    | (refine CS.region (id := 9) ?_;
        (first | refine RS.pv (PV.all tab_ok rfl) rfl ?_ | refine RS.pv (PV.eqlT rfl rfl (by omega)) rfl ?_ | refine RS.pv (PV.eqlF rfl rfl (by omega)) rfl ?_ | refine RS.ifEql rfl rfl rfl (fun h => ?_) (fun h => ?_) | refine RS.ifSeql rfl rfl rfl (fun h => ?_) (fun h => ?_));
        (all_goals refine RS.pv (PV.all tab_ok rfl) rfl ?_);
        (all_goals refine RS.nil ?_))
    | (refine CS.region (id := 10) ?_;
        refine RS.pv (PV.all tab_ok rfl) rfl ?_;
        refine RS.nil ?_)
    | refine CS.ret ?_
    | refine thenQ.ret ?_
    | refine blkQ.ret ?_
    | refine retQ.ret ?_
    | refine CS.block ?_
    | refine CS.exit ?_
    | refine thenQ.exit ?_
    | refine blkQ.normal ?_
    | refine blkQ.here ?_
    | refine blkQ.past rfl ?_
    | refine retQ.normal ?_)
  refine CS.loop [2, 5, 7] (fun m vs i' L' => ∃ (k : Nat) (O : SH) (oa : Option Addr) (oc : Nat), m = A.nodes.length - k ∧ k ≤ A.nodes.length ∧ i1.le i' ∧ SlO 9 (.slice oa k oc) 1 k (strs ((A.nodes.take k).map nm0)) O ∧ vs = [.pointer (some ⟨bx, 0, none⟩), .slice oa k oc, .int .i64 (k : Int)] ∧ L' = O ++ L) A.nodes.length ⟨0, [], none, 0, rfl, Nat.zero_le _, Imm.le.refl i1, SlO.nil 9 1, rfl, rfl⟩ ?_
  rintro m g vs i' L' - ⟨k, O, oa, oc, rfl, hk, hi, hO, rfl, rfl⟩
  replace hbx := hi.blk _ _ hbx
  by_cases hlt : k < A.nodes.length
  · obtain ⟨b1, o1, c5, t1, z1, p1, e1, g1, h1⟩ := ((hA1.le hi1).le hi).at hlt (by omega)
    cases e1
    obtain ⟨e, he⟩ : ∃ e, A.nodes[k]? = some e := ⟨_, List.getElem?_eq_getElem hlt⟩
    have q1 := h1 0 (by omega)
    rw [rowC_at hels.len he 0 (by omega), hels.name e (List.mem_of_getElem? he)] at q1
    repeat' (first
      | refine CS.seq ?_
      | refine thenQ.normal ?_
      | refine CS.cond_true rfl ?_
      | refine CS.cond_false rfl ?_
      | refine CS.skip ?_
      | (refine CS.region (id := 9) ?_;
          (first | refine RS.pv (PV.all tab_ok rfl) rfl ?_ | refine RS.pv (PV.eqlT rfl rfl (by omega)) rfl ?_ | refine RS.pv (PV.eqlF rfl rfl (by omega)) rfl ?_ | refine RS.ifEql rfl rfl rfl (fun h => ?_) (fun h => ?_) | refine RS.ifSeql rfl rfl rfl (fun h => ?_) (fun h => ?_));
          (all_goals refine RS.pv (PV.all tab_ok rfl) rfl ?_);
          (all_goals refine RS.nil ?_))
      | (refine CS.region (id := 10) ?_;
          refine RS.pv (PV.all tab_ok rfl) rfl ?_;
          refine RS.nil ?_)
      | (refine CS.region (id := 11) ?_;
          refine RS.pv (PV.all tab_ok rfl) rfl ?_;
          refine RS.pv (PV.all tab_ok rfl) rfl ?_;
          refine RS.lv (LV.load tab_ok rfl (Has.imm hbx) rfl) rfl ?_;
          (first | refine RS.pv (PV.lenS tab_ok rfl rfl) rfl ?_ | refine RS.pv (PV.lenT tab_ok rfl rfl) rfl ?_);
          (first | refine RS.pv (PV.lssT rfl rfl (by omega)) rfl ?_ | refine RS.pv (PV.lssF rfl rfl (by omega)) rfl ?_ | refine RS.ifLss rfl rfl rfl (fun h => ?_) (fun h => ?_));
          (all_goals refine RS.nil ?_))
      | (refine CS.region (id := 12) ?_;
          refine RS.pv (PV.all tab_ok rfl) rfl ?_;
          refine RS.pv (PV.add rfl rfl (by omega)) rfl ?_;
          refine RS.pv (PV.all tab_ok rfl) rfl ?_;
          refine RS.nil ?_)
      | (refine CS.region (id := 13) ?_;
          refine RS.pv (PV.all tab_ok rfl) rfl ?_;
          refine RS.pv (PV.all tab_ok rfl) rfl ?_;
          refine RS.lv (LV.load tab_ok rfl (Has.imm hbx) rfl) rfl ?_;
          refine RS.pv (PV.all tab_ok rfl) rfl ?_;
          (first | refine RS.pv (PV.indexAddr tab_ok rfl rfl rfl (by omega)) rfl ?_ | refine RS.pv (PV.indexAddrA tab_ok rfl rfl rfl (by omega)) rfl ?_);
          refine RS.pv (PV.all tab_ok rfl) rfl ?_;
          refine RS.lv (LV.load1 tab_ok rfl (Has.imm g1) rfl q1) rfl ?_;
          (all_goals refine RS.buildSliceF tab_ok 1 rfl rfl rfl (fun bb i2 hi2 hbs => ?_));
          (all_goals (refine RS.append tab_ok (sz := 1) (bytes := 16) (k := k) (m := 1) (xs := strs ((A.nodes.take k).map nm0)) (news := [Value.string (nm0 e)]) rfl rfl rfl ⟨_, rfl, rfl⟩ ⟨_, rfl, rfl, rfl⟩ (by omega) hO rfl (hbs.rd _) (by intro c hc; simp at hc; subst hc; rfl) (by omega) (by omega) ?_; intro v' O' hO' hnil; obtain ⟨oa', oc', rfl⟩ := SlO.shape hO'));
          (all_goals refine RS.pv (PV.all tab_ok rfl) rfl ?_);
          (all_goals refine RS.nil ?_))
      | refine CS.ret ?_
      | refine thenQ.ret ?_
      | refine blkQ.ret ?_
      | refine retQ.ret ?_
      | refine CS.block ?_
      | refine CS.exit ?_
      | refine thenQ.exit ?_
      | refine blkQ.normal ?_
      | refine blkQ.here ?_
      | refine blkQ.past rfl ?_
      | refine retQ.normal ?_)
    exact ⟨A.nodes.length - (k + 1), by omega, k + 1, O', oa', oc', rfl, hlt, hi.trans hi2, by rw [strs_take he]; exact hO', rfl, rfl⟩
  · have : k = A.nodes.length := by omega
    subst this
    repeat' (first
      | refine CS.seq ?_
      | refine thenQ.normal ?_
      | refine CS.cond_true rfl ?_
      | refine CS.cond_false rfl ?_
      | refine CS.skip ?_
      | (refine CS.region (id := 9) ?_;
          (first | refine RS.pv (PV.all tab_ok rfl) rfl ?_ | refine RS.pv (PV.eqlT rfl rfl (by omega)) rfl ?_ | refine RS.pv (PV.eqlF rfl rfl (by omega)) rfl ?_ | refine RS.ifEql rfl rfl rfl (fun h => ?_) (fun h => ?_) | refine RS.ifSeql rfl rfl rfl (fun h => ?_) (fun h => ?_));
          (all_goals refine RS.pv (PV.all tab_ok rfl) rfl ?_);
          (all_goals refine RS.nil ?_))
      | (refine CS.region (id := 10) ?_;
          refine RS.pv (PV.all tab_ok rfl) rfl ?_;
          refine RS.nil ?_)
      | (refine CS.region (id := 11) ?_;
          refine RS.pv (PV.all tab_ok rfl) rfl ?_;
          refine RS.pv (PV.all tab_ok rfl) rfl ?_;
          refine RS.lv (LV.load tab_ok rfl (Has.imm hbx) rfl) rfl ?_;
          (first | refine RS.pv (PV.lenS tab_ok rfl rfl) rfl ?_ | refine RS.pv (PV.lenT tab_ok rfl rfl) rfl ?_);
          (first | refine RS.pv (PV.lssT rfl rfl (by omega)) rfl ?_ | refine RS.pv (PV.lssF rfl rfl (by omega)) rfl ?_ | refine RS.ifLss rfl rfl rfl (fun h => ?_) (fun h => ?_));
          (all_goals refine RS.nil ?_))
      | (refine CS.region (id := 12) ?_;
          refine RS.pv (PV.all tab_ok rfl) rfl ?_;
          refine RS.pv (PV.add rfl rfl (by omega)) rfl ?_;
          refine RS.pv (PV.all tab_ok rfl) rfl ?_;
          refine RS.nil ?_)
      | (refine CS.region (id := 13) ?_;
          refine RS.pv (PV.all tab_ok rfl) rfl ?_;
          refine RS.pv (PV.all tab_ok rfl) rfl ?_;
          refine RS.lv (LV.load tab_ok rfl (Has.imm hbx) rfl) rfl ?_;
          refine RS.pv (PV.all tab_ok rfl) rfl ?_;
          (first | refine RS.pv (PV.indexAddr tab_ok rfl rfl rfl (by omega)) rfl ?_ | refine RS.pv (PV.indexAddrA tab_ok rfl rfl rfl (by omega)) rfl ?_);
          refine RS.pv (PV.all tab_ok rfl) rfl ?_;
          refine RS.lv (LV.load tab_ok rfl (Has.imm hbx) rfl) rfl ?_)
      | (refine CS.region (id := 24) ?_;
          refine RS.pv (PV.all tab_ok rfl) rfl ?_;
          refine RS.pv (PV.all tab_ok rfl) rfl ?_;
          refine RS.nil ?_)
      | refine CS.ret ?_
      | refine thenQ.ret ?_
      | refine blkQ.ret ?_
      | refine retQ.ret ?_
      | refine CS.block ?_
      | refine CS.exit ?_
      | refine thenQ.exit ?_
      | refine blkQ.normal ?_
      | refine blkQ.here ?_
      | refine blkQ.past rfl ?_
      | refine retQ.normal ?_)
    refine ⟨O, ?_, rfl⟩
    rw [List.take_length] at hO
    show SlO 9 _ 1 (A.nodes.map nm0).length (strs (A.nodes.map nm0)) O
    rw [List.length_map]
    exact hO
theorem keys78_3 (ac : List Value) (A : WorldD) (i : Imm) (L : SH) (hA : WorldV i ac A) (oA : A.ok) (fA : A.few) : FnS Try.prog 78 [.agg ac.toArray, .int .i64 3] i L fun u i' L' => L' = L ∧ Sl i' u 1 (keysOf A 3).length (strs (keysOf A 3)) := by
  refine FnS.state (K := fun u i' L' => ∃ O, SlO 9 u 1 (keysOf A 3).length (strs (keysOf A 3)) O ∧ L' = O ++ L) ?_ ?_
  rotate_left
  · rintro u i' L' w _ hs ⟨O, hO, rfl⟩
    obtain ⟨i2, h1, h2, h3⟩ := hO.freeze hs
    exact ⟨i2, L, h1, h2, rfl, h3⟩
  obtain ⟨a0, c0, a1, c1, a2, c2, a3, c3, a4, c4, rfl, hA0, hA1, hA2, hA3, hA4, hA5⟩ := hA.lit
  obtain ⟨fa0, fa1, fa2, fa3, fa4⟩ := fA
  have hels : ElsOk id nm0 3 A.links := (els_shp oA.links)
  refine FnS.intro1 Try.func78 rfl Try.ntmps78 (by simp) Try.results78 ?_
  repeat' (first
    | refine CS.seq ?_
    | refine thenQ.normal ?_
    | refine CS.cond_true rfl ?_
    | refine CS.cond_false rfl ?_
    | refine CS.skip ?_
    | (refine CS.region (id := 0) ?_;
        (refine RS.box rfl rfl (fun bx => ?_); refine RS.freeze (fun i1 hi1 hbx => ?_));
        (all_goals refine RS.pv (PV.all tab_ok rfl) rfl ?_);
        (all_goals refine RS.nil ?_))
    | (refine CS.region (id := 1) ?_;
        refine RS.pv (PV.all tab_ok rfl) rfl ?_;
        refine RS.nil ?_)
    | (refine CS.region (id := 2) ?_;
        refine RS.pv (PV.all tab_ok rfl) rfl ?_;
        refine RS.nil ?_)
    | (refine CS.region (id := 4) ?_;
        (first | refine RS.pv (PV.all tab_ok rfl) rfl ?_ | refine RS.pv (PV.eqlT rfl rfl (by omega)) rfl ?_ | refine RS.pv (PV.eqlF rfl rfl (by omega)) rfl ?_ | refine RS.ifEql rfl rfl rfl (fun h => ?_) (fun h => ?_) | refine RS.ifSeql rfl rfl rfl (fun h => ?_) (fun h => ?_));
        (all_goals refine RS.pv (PV.all tab_ok rfl) rfl ?_);
        (all_goals refine RS.nil ?_))
    | (refine CS.region (id := 9) ?_;
        (first | refine RS.pv (PV.all tab_ok rfl) rfl ?_ | refine RS.pv (PV.eqlT rfl rfl (by omega)) rfl ?_ | refine RS.pv (PV.eqlF rfl rfl (by omega)) rfl ?_ | refine RS.ifEql rfl rfl rfl (fun h => ?_) (fun h => ?_) | refine RS.ifSeql rfl rfl rfl (fun h => ?_) (fun h => ?_));
        (all_goals refine RS.pv (PV.all tab_ok rfl) rfl ?_);
        (all_goals refine RS.nil ?_))
    | (refine CS.region (id := 14) ?_;
        (first | refine RS.pv (PV.all tab_ok rfl) rfl ?_ | refine RS.pv (PV.eqlT rfl rfl (by omega)) rfl ?_ | refine RS.pv (PV.eqlF rfl rfl (by omega)) rfl ?_ | refine RS.ifEql rfl rfl rfl (fun h => ?_) (fun h => ?_) | refine RS.ifSeql rfl rfl rfl (fun h => ?_) (fun h => ?_));
        (all_goals refine RS.pv (PV.all tab_ok rfl) rfl ?_);
        (all_goals refine RS.nil ?_))
    | (refine CS.region (id := 15) ?_;
        refine RS.pv (PV.all tab_ok rfl) rfl ?_;
        refine RS.nil ?_)
    | refine CS.ret ?_
    | refine thenQ.ret ?_
    | refine blkQ.ret ?_
    | refine retQ.ret ?_
    | refine CS.block ?_
    | refine CS.exit ?_
    | refine thenQ.exit ?_
    | refine blkQ.normal ?_
    | refine blkQ.here ?_
    | refine blkQ.past rfl ?_
    | refine retQ.normal ?_)
  refine CS.loop [2, 5, 8] (fun m vs i' L' => ∃ (k : Nat) (O : SH) (oa : Option Addr) (oc : Nat), m = A.links.length - k ∧ k ≤ A.links.length ∧ i1.le i' ∧ SlO 9 (.slice oa k oc) 1 k (strs ((A.links.take k).map nm0)) O ∧ vs = [.pointer (some ⟨bx, 0, none⟩), .slice oa k oc, .int .i64 (k : Int)] ∧ L' = O ++ L) A.links.length ⟨0, [], none, 0, rfl, Nat.zero_le _, Imm.le.refl i1, SlO.nil 9 1, rfl, rfl⟩ ?_
  rintro m g vs i' L' - ⟨k, O, oa, oc, rfl, hk, hi, hO, rfl, rfl⟩
  replace hbx := hi.blk _ _ hbx
  by_cases hlt : k < A.links.length
  · obtain ⟨b1, o1, c5, t1, z1, p1, e1, g1, h1⟩ := ((hA2.le hi1).le hi).at hlt (by omega)
    cases e1
    obtain ⟨e, he⟩ : ∃ e, A.links[k]? = some e := ⟨_, List.getElem?_eq_getElem hlt⟩
    have q1 := h1 0 (by omega)
    rw [rowC_at hels.len he 0 (by omega), hels.name e (List.mem_of_getElem? he)] at q1
    repeat' (first
      | refine CS.seq ?_
      | refine thenQ.normal ?_
      | refine CS.cond_true rfl ?_
      | refine CS.cond_false rfl ?_
      | refine CS.skip ?_
      | (refine CS.region (id := 9) ?_;
          (first | refine RS.pv (PV.all tab_ok rfl) rfl ?_ | refine RS.pv (PV.eqlT rfl rfl (by omega)) rfl ?_ | refine RS.pv (PV.eqlF rfl rfl (by omega)) rfl ?_ | refine RS.ifEql rfl rfl rfl (fun h => ?_) (fun h => ?_) | refine RS.ifSeql rfl rfl rfl (fun h => ?_) (fun h => ?_));
          (all_goals refine RS.pv (PV.all tab_ok rfl) rfl ?_);
          (all_goals refine RS.nil ?_))
      | (refine CS.region (id := 14) ?_;
          (first | refine RS.pv (PV.all tab_ok rfl) rfl ?_ | refine RS.pv (PV.eqlT rfl rfl (by omega)) rfl ?_ | refine RS.pv (PV.eqlF rfl rfl (by omega)) rfl ?_ | refine RS.ifEql rfl rfl rfl (fun h => ?_) (fun h => ?_) | refine RS.ifSeql rfl rfl rfl (fun h => ?_) (fun h => ?_));
          (all_goals refine RS.pv (PV.all tab_ok rfl) rfl ?_);
          (all_goals refine RS.nil ?_))
      | (refine CS.region (id := 15) ?_;
          refine RS.pv (PV.all tab_ok rfl) rfl ?_;
          refine RS.nil ?_)
      | (refine CS.region (id := 16) ?_;
          refine RS.pv (PV.all tab_ok rfl) rfl ?_;
          refine RS.pv (PV.all tab_ok rfl) rfl ?_;
          refine RS.lv (LV.load tab_ok rfl (Has.imm hbx) rfl) rfl ?_;
          (first | refine RS.pv (PV.lenS tab_ok rfl rfl) rfl ?_ | refine RS.pv (PV.lenT tab_ok rfl rfl) rfl ?_);
          (first | refine RS.pv (PV.lssT rfl rfl (by omega)) rfl ?_ | refine RS.pv (PV.lssF rfl rfl (by omega)) rfl ?_ | refine RS.ifLss rfl rfl rfl (fun h => ?_) (fun h => ?_));
          (all_goals refine RS.nil ?_))
      | (refine CS.region (id := 17) ?_;
          refine RS.pv (PV.all tab_ok rfl) rfl ?_;
          refine RS.pv (PV.add rfl rfl (by omega)) rfl ?_;
          refine RS.pv (PV.all tab_ok rfl) rfl ?_;
          refine RS.nil ?_)
      | (refine CS.region (id := 18) ?_;
          refine RS.pv (PV.all tab_ok rfl) rfl ?_;
          refine RS.pv (PV.all tab_ok rfl) rfl ?_;
          refine RS.lv (LV.load tab_ok rfl (Has.imm hbx) rfl) rfl ?_;
          refine RS.pv (PV.all tab_ok rfl) rfl ?_;
          (first | refine RS.pv (PV.indexAddr tab_ok rfl rfl rfl (by omega)) rfl ?_ | refine RS.pv (PV.indexAddrA tab_ok rfl rfl rfl (by omega)) rfl ?_);
          refine RS.pv (PV.all tab_ok rfl) rfl ?_;
          refine RS.lv (LV.load1 tab_ok rfl (Has.imm g1) rfl q1) rfl ?_;
          (all_goals refine RS.buildSliceF tab_ok 1 rfl rfl rfl (fun bb i2 hi2 hbs => ?_));
          (all_goals (refine RS.append tab_ok (sz := 1) (bytes := 16) (k := k) (m := 1) (xs := strs ((A.links.take k).map nm0)) (news := [Value.string (nm0 e)]) rfl rfl rfl ⟨_, rfl, rfl⟩ ⟨_, rfl, rfl, rfl⟩ (by omega) hO rfl (hbs.rd _) (by intro c hc; simp at hc; subst hc; rfl) (by omega) (by omega) ?_; intro v' O' hO' hnil; obtain ⟨oa', oc', rfl⟩ := SlO.shape hO'));
          (all_goals refine RS.pv (PV.all tab_ok rfl) rfl ?_);
          (all_goals refine RS.nil ?_))
      | refine CS.ret ?_
      | refine thenQ.ret ?_
      | refine blkQ.ret ?_
      | refine retQ.ret ?_
      | refine CS.block ?_
      | refine CS.exit ?_
      | refine thenQ.exit ?_
      | refine blkQ.normal ?_
      | refine blkQ.here ?_
      | refine blkQ.past rfl ?_
      | refine retQ.normal ?_)
    exact ⟨A.links.length - (k + 1), by omega, k + 1, O', oa', oc', rfl, hlt, hi.trans hi2, by rw [strs_take he]; exact hO', rfl, rfl⟩
  · have : k = A.links.length := by omega
    subst this
    repeat' (first
      | refine CS.seq ?_
      | refine thenQ.normal ?_
      | refine CS.cond_true rfl ?_
      | refine CS.cond_false rfl ?_
      | refine CS.skip ?_
      | (refine CS.region (id := 9) ?_;
          (first | refine RS.pv (PV.all tab_ok rfl) rfl ?_ | refine RS.pv (PV.eqlT rfl rfl (by omega)) rfl ?_ | refine RS.pv (PV.eqlF rfl rfl (by omega)) rfl ?_ | refine RS.ifEql rfl rfl rfl (fun h => ?_) (fun h => ?_) | refine RS.ifSeql rfl rfl rfl (fun h => ?_) (fun h => ?_));
          (all_goals refine RS.pv (PV.all tab_ok rfl) rfl ?_);
          (all_goals refine RS.nil ?_))
      | (refine CS.region (id := 14) ?_;
          (first | refine RS.pv (PV.all tab_ok rfl) rfl ?_ | refine RS.pv (PV.eqlT rfl rfl (by omega)) rfl ?_ | refine RS.pv (PV.eqlF rfl rfl (by omega)) rfl ?_ | refine RS.ifEql rfl rfl rfl (fun h => ?_) (fun h => ?_) | refine RS.ifSeql rfl rfl rfl (fun h => ?_) (fun h => ?_));
          (all_goals refine RS.pv (PV.all tab_ok rfl) rfl ?_);
          (all_goals refine RS.nil ?_))
      | (refine CS.region (id := 15) ?_;
          refine RS.pv (PV.all tab_ok rfl) rfl ?_;
          refine RS.nil ?_)
      | (refine CS.region (id := 16) ?_;
          refine RS.pv (PV.all tab_ok rfl) rfl ?_;
          refine RS.pv (PV.all tab_ok rfl) rfl ?_;
          refine RS.lv (LV.load tab_ok rfl (Has.imm hbx) rfl) rfl ?_;
          (first | refine RS.pv (PV.lenS tab_ok rfl rfl) rfl ?_ | refine RS.pv (PV.lenT tab_ok rfl rfl) rfl ?_);
          (first | refine RS.pv (PV.lssT rfl rfl (by omega)) rfl ?_ | refine RS.pv (PV.lssF rfl rfl (by omega)) rfl ?_ | refine RS.ifLss rfl rfl rfl (fun h => ?_) (fun h => ?_));
          (all_goals refine RS.nil ?_))
      | (refine CS.region (id := 17) ?_;
          refine RS.pv (PV.all tab_ok rfl) rfl ?_;
          refine RS.pv (PV.add rfl rfl (by omega)) rfl ?_;
          refine RS.pv (PV.all tab_ok rfl) rfl ?_;
          refine RS.nil ?_)
      | (refine CS.region (id := 18) ?_;
          refine RS.pv (PV.all tab_ok rfl) rfl ?_;
          refine RS.pv (PV.all tab_ok rfl) rfl ?_;
          refine RS.lv (LV.load tab_ok rfl (Has.imm hbx) rfl) rfl ?_;
          refine RS.pv (PV.all tab_ok rfl) rfl ?_;
          (first | refine RS.pv (PV.indexAddr tab_ok rfl rfl rfl (by omega)) rfl ?_ | refine RS.pv (PV.indexAddrA tab_ok rfl rfl rfl (by omega)) rfl ?_);
          refine RS.pv (PV.all tab_ok rfl) rfl ?_;
          refine RS.lv (LV.load tab_ok rfl (Has.imm hbx) rfl) rfl ?_)
      | (refine CS.region (id := 24) ?_;
          refine RS.pv (PV.all tab_ok rfl) rfl ?_;
          refine RS.pv (PV.all tab_ok rfl) rfl ?_;
          refine RS.nil ?_)
      | refine CS.ret ?_
      | refine thenQ.ret ?_
      | refine blkQ.ret ?_
      | refine retQ.ret ?_
      | refine CS.block ?_
      | refine CS.exit ?_
      | refine thenQ.exit ?_
      | refine blkQ.normal ?_
      | refine blkQ.here ?_
      | refine blkQ.past rfl ?_
      | refine retQ.normal ?_)
    refine ⟨O, ?_, rfl⟩
    rw [List.take_length] at hO
    show SlO 9 _ 1 (A.links.map nm0).length (strs (A.links.map nm0)) O
    rw [List.length_map]
    exact hO
theorem keys78_4 (ac : List Value) (A : WorldD) (i : Imm) (L : SH) (hA : WorldV i ac A) (oA : A.ok) (fA : A.few) : FnS Try.prog 78 [.agg ac.toArray, .int .i64 4] i L fun u i' L' => L' = L ∧ Sl i' u 1 (keysOf A 4).length (strs (keysOf A 4)) := by
  refine FnS.state (K := fun u i' L' => ∃ O, SlO 9 u 1 (keysOf A 4).length (strs (keysOf A 4)) O ∧ L' = O ++ L) ?_ ?_
  rotate_left
  · rintro u i' L' w _ hs ⟨O, hO, rfl⟩
    obtain ⟨i2, h1, h2, h3⟩ := hO.freeze hs
    exact ⟨i2, L, h1, h2, rfl, h3⟩
  obtain ⟨a0, c0, a1, c1, a2, c2, a3, c3, a4, c4, rfl, hA0, hA1, hA2, hA3, hA4, hA5⟩ := hA.lit
  obtain ⟨fa0, fa1, fa2, fa3, fa4⟩ := fA
  have hels : ElsOk id nm0 2 A.names := (els_shp oA.names)
  refine FnS.intro1 Try.func78 rfl Try.ntmps78 (by simp) Try.results78 ?_
  repeat' (first
    | refine CS.seq ?_
    | refine thenQ.normal ?_
    | refine CS.cond_true rfl ?_
    | refine CS.cond_false rfl ?_
    | refine CS.skip ?_
    | (refine CS.region (id := 0) ?_;
        (refine RS.box rfl rfl (fun bx => ?_); refine RS.freeze (fun i1 hi1 hbx => ?_));
        (all_goals refine RS.pv (PV.all tab_ok rfl) rfl ?_);
        (all_goals refine RS.nil ?_))
    | (refine CS.region (id := 1) ?_;
        refine RS.pv (PV.all tab_ok rfl) rfl ?_;
        refine RS.nil ?_)
    | (refine CS.region (id := 2) ?_;
        refine RS.pv (PV.all tab_ok rfl) rfl ?_;
        refine RS.nil ?_)
    | (refine CS.region (id := 4) ?_;
        (first | refine RS.pv (PV.all tab_ok rfl) rfl ?_ | refine RS.pv (PV.eqlT rfl rfl (by omega)) rfl ?_ | refine RS.pv (PV.eqlF rfl rfl (by omega)) rfl ?_ | refine RS.ifEql rfl rfl rfl (fun h => ?_) (fun h => ?_) | refine RS.ifSeql rfl rfl rfl (fun h => ?_) (fun h => ?_));
        (all_goals refine RS.pv (PV.all tab_ok rfl) rfl ?_);
        (all_goals refine RS.nil ?_))
    | (refine CS.region (id := 9) ?_;
        (first | refine RS.pv (PV.all tab_ok rfl) rfl ?_ | refine RS.pv (PV.eqlT rfl rfl (by omega)) rfl ?_ | refine RS.pv (PV.eqlF rfl rfl (by omega)) rfl ?_ | refine RS.ifEql rfl rfl rfl (fun h => ?_) (fun h => ?_) | refine RS.ifSeql rfl rfl rfl (fun h => ?_) (fun h => ?_));
        (all_goals refine RS.pv (PV.all tab_ok rfl) rfl ?_);
        (all_goals refine RS.nil ?_))
    | (refine CS.region (id := 14) ?_;
        (first | refine RS.pv (PV.all tab_ok rfl) rfl ?_ | refine RS.pv (PV.eqlT rfl rfl (by omega)) rfl ?_ | refine RS.pv (PV.eqlF rfl rfl (by omega)) rfl ?_ | refine RS.ifEql rfl rfl rfl (fun h => ?_) (fun h => ?_) | refine RS.ifSeql rfl rfl rfl (fun h => ?_) (fun h => ?_));
        (all_goals refine RS.pv (PV.all tab_ok rfl) rfl ?_);
        (all_goals refine RS.nil ?_))
    | (refine CS.region (id := 19) ?_;
        (first | refine RS.pv (PV.all tab_ok rfl) rfl ?_ | refine RS.pv (PV.eqlT rfl rfl (by omega)) rfl ?_ | refine RS.pv (PV.eqlF rfl rfl (by omega)) rfl ?_ | refine RS.ifEql rfl rfl rfl (fun h => ?_) (fun h => ?_) | refine RS.ifSeql rfl rfl rfl (fun h => ?_) (fun h => ?_));
        (all_goals refine RS.pv (PV.all tab_ok rfl) rfl ?_);
        (all_goals refine RS.nil ?_))
    | (refine CS.region (id := 20) ?_;
        refine RS.pv (PV.all tab_ok rfl) rfl ?_;
        refine RS.nil ?_)
    | refine CS.ret ?_
    | refine thenQ.ret ?_
    | refine blkQ.ret ?_
    | refine retQ.ret ?_
    | refine CS.block ?_
    | refine CS.exit ?_
    | refine thenQ.exit ?_
    | refine blkQ.normal ?_
    | refine blkQ.here ?_
    | refine blkQ.past rfl ?_
    | refine retQ.normal ?_)
  refine CS.loop [2, 5, 9] (fun m vs i' L' => ∃ (k : Nat) (O : SH) (oa : Option Addr) (oc : Nat), m = A.names.length - k ∧ k ≤ A.names.length ∧ i1.le i' ∧ SlO 9 (.slice oa k oc) 1 k (strs ((A.names.take k).map nm0)) O ∧ vs = [.pointer (some ⟨bx, 0, none⟩), .slice oa k oc, .int .i64 (k : Int)] ∧ L' = O ++ L) A.names.length ⟨0, [], none, 0, rfl, Nat.zero_le _, Imm.le.refl i1, SlO.nil 9 1, rfl, rfl⟩ ?_
  rintro m g vs i' L' - ⟨k, O, oa, oc, rfl, hk, hi, hO, rfl, rfl⟩
  replace hbx := hi.blk _ _ hbx
  by_cases hlt : k < A.names.length
  · obtain ⟨b1, o1, c5, t1, z1, p1, e1, g1, h1⟩ := ((hA3.le hi1).le hi).at hlt (by omega)
    cases e1
    obtain ⟨e, he⟩ : ∃ e, A.names[k]? = some e := ⟨_, List.getElem?_eq_getElem hlt⟩
    have q1 := h1 0 (by omega)
    rw [rowC_at hels.len he 0 (by omega), hels.name e (List.mem_of_getElem? he)] at q1
    repeat' (first
      | refine CS.seq ?_
      | refine thenQ.normal ?_
      | refine CS.cond_true rfl ?_
      | refine CS.cond_false rfl ?_
      | refine CS.skip ?_
      | (refine CS.region (id := 9) ?_;
          (first | refine RS.pv (PV.all tab_ok rfl) rfl ?_ | refine RS.pv (PV.eqlT rfl rfl (by omega)) rfl ?_ | refine RS.pv (PV.eqlF rfl rfl (by omega)) rfl ?_ | refine RS.ifEql rfl rfl rfl (fun h => ?_) (fun h => ?_) | refine RS.ifSeql rfl rfl rfl (fun h => ?_) (fun h => ?_));
          (all_goals refine RS.pv (PV.all tab_ok rfl) rfl ?_);
          (all_goals refine RS.nil ?_))
      | (refine CS.region (id := 14) ?_;
          (first | refine RS.pv (PV.all tab_ok rfl) rfl ?_ | refine RS.pv (PV.eqlT rfl rfl (by omega)) rfl ?_ | refine RS.pv (PV.eqlF rfl rfl (by omega)) rfl ?_ | refine RS.ifEql rfl rfl rfl (fun h => ?_) (fun h => ?_) | refine RS.ifSeql rfl rfl rfl (fun h => ?_) (fun h => ?_));
          (all_goals refine RS.pv (PV.all tab_ok rfl) rfl ?_);
          (all_goals refine RS.nil ?_))
      | (refine CS.region (id := 19) ?_;
          (first | refine RS.pv (PV.all tab_ok rfl) rfl ?_ | refine RS.pv (PV.eqlT rfl rfl (by omega)) rfl ?_ | refine RS.pv (PV.eqlF rfl rfl (by omega)) rfl ?_ | refine RS.ifEql rfl rfl rfl (fun h => ?_) (fun h => ?_) | refine RS.ifSeql rfl rfl rfl (fun h => ?_) (fun h => ?_));
          (all_goals refine RS.pv (PV.all tab_ok rfl) rfl ?_);
          (all_goals refine RS.nil ?_))
      | (refine CS.region (id := 20) ?_;
          refine RS.pv (PV.all tab_ok rfl) rfl ?_;
          refine RS.nil ?_)
      | (refine CS.region (id := 21) ?_;
          refine RS.pv (PV.all tab_ok rfl) rfl ?_;
          refine RS.pv (PV.all tab_ok rfl) rfl ?_;
          refine RS.lv (LV.load tab_ok rfl (Has.imm hbx) rfl) rfl ?_;
          (first | refine RS.pv (PV.lenS tab_ok rfl rfl) rfl ?_ | refine RS.pv (PV.lenT tab_ok rfl rfl) rfl ?_);
          (first | refine RS.pv (PV.lssT rfl rfl (by omega)) rfl ?_ | refine RS.pv (PV.lssF rfl rfl (by omega)) rfl ?_ | refine RS.ifLss rfl rfl rfl (fun h => ?_) (fun h => ?_));
          (all_goals refine RS.nil ?_))
      | (refine CS.region (id := 22) ?_;
          refine RS.pv (PV.all tab_ok rfl) rfl ?_;
          refine RS.pv (PV.add rfl rfl (by omega)) rfl ?_;
          refine RS.pv (PV.all tab_ok rfl) rfl ?_;
          refine RS.nil ?_)
      | (refine CS.region (id := 23) ?_;
          refine RS.pv (PV.all tab_ok rfl) rfl ?_;
          refine RS.pv (PV.all tab_ok rfl) rfl ?_;
          refine RS.lv (LV.load tab_ok rfl (Has.imm hbx) rfl) rfl ?_;
          refine RS.pv (PV.all tab_ok rfl) rfl ?_;
          (first | refine RS.pv (PV.indexAddr tab_ok rfl rfl rfl (by omega)) rfl ?_ | refine RS.pv (PV.indexAddrA tab_ok rfl rfl rfl (by omega)) rfl ?_);
          refine RS.pv (PV.all tab_ok rfl) rfl ?_;
          refine RS.lv (LV.load1 tab_ok rfl (Has.imm g1) rfl q1) rfl ?_;
          (all_goals refine RS.buildSliceF tab_ok 1 rfl rfl rfl (fun bb i2 hi2 hbs => ?_));
          (all_goals (refine RS.append tab_ok (sz := 1) (bytes := 16) (k := k) (m := 1) (xs := strs ((A.names.take k).map nm0)) (news := [Value.string (nm0 e)]) rfl rfl rfl ⟨_, rfl, rfl⟩ ⟨_, rfl, rfl, rfl⟩ (by omega) hO rfl (hbs.rd _) (by intro c hc; simp at hc; subst hc; rfl) (by omega) (by omega) ?_; intro v' O' hO' hnil; obtain ⟨oa', oc', rfl⟩ := SlO.shape hO'));
          (all_goals refine RS.pv (PV.all tab_ok rfl) rfl ?_);
          (all_goals refine RS.nil ?_))
      | refine CS.ret ?_
      | refine thenQ.ret ?_
      | refine blkQ.ret ?_
      | refine retQ.ret ?_
      | refine CS.block ?_
      | refine CS.exit ?_
      | refine thenQ.exit ?_
      | refine blkQ.normal ?_
      | refine blkQ.here ?_
      | refine blkQ.past rfl ?_
      | refine retQ.normal ?_)
    exact ⟨A.names.length - (k + 1), by omega, k + 1, O', oa', oc', rfl, hlt, hi.trans hi2, by rw [strs_take he]; exact hO', rfl, rfl⟩
  · have : k = A.names.length := by omega
    subst this
    repeat' (first
      | refine CS.seq ?_
      | refine thenQ.normal ?_
      | refine CS.cond_true rfl ?_
      | refine CS.cond_false rfl ?_
      | refine CS.skip ?_
      | (refine CS.region (id := 9) ?_;
          (first | refine RS.pv (PV.all tab_ok rfl) rfl ?_ | refine RS.pv (PV.eqlT rfl rfl (by omega)) rfl ?_ | refine RS.pv (PV.eqlF rfl rfl (by omega)) rfl ?_ | refine RS.ifEql rfl rfl rfl (fun h => ?_) (fun h => ?_) | refine RS.ifSeql rfl rfl rfl (fun h => ?_) (fun h => ?_));
          (all_goals refine RS.pv (PV.all tab_ok rfl) rfl ?_);
          (all_goals refine RS.nil ?_))
      | (refine CS.region (id := 14) ?_;
          (first | refine RS.pv (PV.all tab_ok rfl) rfl ?_ | refine RS.pv (PV.eqlT rfl rfl (by omega)) rfl ?_ | refine RS.pv (PV.eqlF rfl rfl (by omega)) rfl ?_ | refine RS.ifEql rfl rfl rfl (fun h => ?_) (fun h => ?_) | refine RS.ifSeql rfl rfl rfl (fun h => ?_) (fun h => ?_));
          (all_goals refine RS.pv (PV.all tab_ok rfl) rfl ?_);
          (all_goals refine RS.nil ?_))
      | (refine CS.region (id := 19) ?_;
          (first | refine RS.pv (PV.all tab_ok rfl) rfl ?_ | refine RS.pv (PV.eqlT rfl rfl (by omega)) rfl ?_ | refine RS.pv (PV.eqlF rfl rfl (by omega)) rfl ?_ | refine RS.ifEql rfl rfl rfl (fun h => ?_) (fun h => ?_) | refine RS.ifSeql rfl rfl rfl (fun h => ?_) (fun h => ?_));
          (all_goals refine RS.pv (PV.all tab_ok rfl) rfl ?_);
          (all_goals refine RS.nil ?_))
      | (refine CS.region (id := 20) ?_;
          refine RS.pv (PV.all tab_ok rfl) rfl ?_;
          refine RS.nil ?_)
      | (refine CS.region (id := 21) ?_;
          refine RS.pv (PV.all tab_ok rfl) rfl ?_;
          refine RS.pv (PV.all tab_ok rfl) rfl ?_;
          refine RS.lv (LV.load tab_ok rfl (Has.imm hbx) rfl) rfl ?_;
          (first | refine RS.pv (PV.lenS tab_ok rfl rfl) rfl ?_ | refine RS.pv (PV.lenT tab_ok rfl rfl) rfl ?_);
          (first | refine RS.pv (PV.lssT rfl rfl (by omega)) rfl ?_ | refine RS.pv (PV.lssF rfl rfl (by omega)) rfl ?_ | refine RS.ifLss rfl rfl rfl (fun h => ?_) (fun h => ?_));
          (all_goals refine RS.nil ?_))
      | (refine CS.region (id := 22) ?_;
          refine RS.pv (PV.all tab_ok rfl) rfl ?_;
          refine RS.pv (PV.add rfl rfl (by omega)) rfl ?_;
          refine RS.pv (PV.all tab_ok rfl) rfl ?_;
          refine RS.nil ?_)
      | (refine CS.region (id := 23) ?_;
          refine RS.pv (PV.all tab_ok rfl) rfl ?_;
          refine RS.pv (PV.all tab_ok rfl) rfl ?_;
          refine RS.lv (LV.load tab_ok rfl (Has.imm hbx) rfl) rfl ?_;
          refine RS.pv (PV.all tab_ok rfl) rfl ?_;
          (first | refine RS.pv (PV.indexAddr tab_ok rfl rfl rfl (by omega)) rfl ?_ | refine RS.pv (PV.indexAddrA tab_ok rfl rfl rfl (by omega)) rfl ?_);
          refine RS.pv (PV.all tab_ok rfl) rfl ?_;
          refine RS.lv (LV.load tab_ok rfl (Has.imm hbx) rfl) rfl ?_)
      | (refine CS.region (id := 24) ?_;
          refine RS.pv (PV.all tab_ok rfl) rfl ?_;
          refine RS.pv (PV.all tab_ok rfl) rfl ?_;
          refine RS.nil ?_)
      | refine CS.ret ?_
      | refine thenQ.ret ?_
      | refine blkQ.ret ?_
      | refine retQ.ret ?_
      | refine CS.block ?_
      | refine CS.exit ?_
      | refine thenQ.exit ?_
      | refine blkQ.normal ?_
      | refine blkQ.here ?_
      | refine blkQ.past rfl ?_
      | refine retQ.normal ?_)
    refine ⟨O, ?_, rfl⟩
    rw [List.take_length] at hO
    show SlO 9 _ 1 (A.names.map nm0).length (strs (A.names.map nm0)) O
    rw [List.length_map]
    exact hO
theorem keys78_5 (ac : List Value) (A : WorldD) (i : Imm) (L : SH) (hA : WorldV i ac A) : FnS Try.prog 78 [.agg ac.toArray, .int .i64 5] i L fun u i' L' => L' = L ∧ Sl i' u 1 (keysOf A 5).length (strs (keysOf A 5)) := by
  refine FnS.state (K := fun u i' L' => ∃ M, Sl i' u 1 (keysOf A 5).length (strs (keysOf A 5)) ∧ L' = M ++ L) ?_ ?_
  rotate_left
  · rintro v i' L' w _ hs ⟨M, hv, rfl⟩
    exact ⟨i', L, Imm.le.refl i', hs.dropL, rfl, hv⟩
  obtain ⟨a0, c0, a1, c1, a2, c2, a3, c3, a4, c4, rfl, hA0, hA1, hA2, hA3, hA4, hA5⟩ := hA.lit
  refine FnS.intro1 Try.func78 rfl Try.ntmps78 (by simp) Try.results78 ?_
  repeat' (first
    | refine CS.seq ?_
    | refine thenQ.normal ?_
    | refine CS.cond_true rfl ?_
    | refine CS.cond_false rfl ?_
    | refine CS.skip ?_
    | (refine CS.region (id := 0) ?_;
        refine RS.box rfl rfl (fun b => ?_);
        refine RS.pv (PV.all tab_ok rfl) rfl ?_;
        refine RS.nil ?_)
    | (refine CS.region (id := 1) ?_;
        refine RS.pv (PV.all tab_ok rfl) rfl ?_;
        refine RS.nil ?_)
    | (refine CS.region (id := 2) ?_;
        refine RS.pv (PV.all tab_ok rfl) rfl ?_;
        refine RS.nil ?_)
    | (refine CS.region (id := 3) ?_;
        refine RS.pv (PV.all tab_ok rfl) rfl ?_;
        (first | refine RS.lv (LV.load tab_ok rfl (Has.own 0 rfl) rfl) rfl ?_ | refine RS.lv (LV.load tab_ok rfl (Has.own 1 rfl) rfl) rfl ?_ | refine RS.lv (LV.load tab_ok rfl (Has.own 2 rfl) rfl) rfl ?_);
        refine RS.pv (PV.all tab_ok rfl) rfl ?_;
        refine RS.nil ?_)
    | (refine CS.region (id := 4) ?_;
        (first | refine RS.pv (PV.all tab_ok rfl) rfl ?_ | refine RS.pv (PV.eqlT rfl rfl (by omega)) rfl ?_ | refine RS.pv (PV.eqlF rfl rfl (by omega)) rfl ?_ | refine RS.ifEql rfl rfl rfl (fun h => ?_) (fun h => ?_) | refine RS.ifSeql rfl rfl rfl (fun h => ?_) (fun h => ?_));
        (all_goals refine RS.pv (PV.all tab_ok rfl) rfl ?_);
        (all_goals refine RS.nil ?_))
    | (refine CS.region (id := 9) ?_;
        (first | refine RS.pv (PV.all tab_ok rfl) rfl ?_ | refine RS.pv (PV.eqlT rfl rfl (by omega)) rfl ?_ | refine RS.pv (PV.eqlF rfl rfl (by omega)) rfl ?_ | refine RS.ifEql rfl rfl rfl (fun h => ?_) (fun h => ?_) | refine RS.ifSeql rfl rfl rfl (fun h => ?_) (fun h => ?_));
        (all_goals refine RS.pv (PV.all tab_ok rfl) rfl ?_);
        (all_goals refine RS.nil ?_))
    | (refine CS.region (id := 14) ?_;
        (first | refine RS.pv (PV.all tab_ok rfl) rfl ?_ | refine RS.pv (PV.eqlT rfl rfl (by omega)) rfl ?_ | refine RS.pv (PV.eqlF rfl rfl (by omega)) rfl ?_ | refine RS.ifEql rfl rfl rfl (fun h => ?_) (fun h => ?_) | refine RS.ifSeql rfl rfl rfl (fun h => ?_) (fun h => ?_));
        (all_goals refine RS.pv (PV.all tab_ok rfl) rfl ?_);
        (all_goals refine RS.nil ?_))
    | (refine CS.region (id := 19) ?_;
        (first | refine RS.pv (PV.all tab_ok rfl) rfl ?_ | refine RS.pv (PV.eqlT rfl rfl (by omega)) rfl ?_ | refine RS.pv (PV.eqlF rfl rfl (by omega)) rfl ?_ | refine RS.ifEql rfl rfl rfl (fun h => ?_) (fun h => ?_) | refine RS.ifSeql rfl rfl rfl (fun h => ?_) (fun h => ?_));
        (all_goals refine RS.pv (PV.all tab_ok rfl) rfl ?_);
        (all_goals refine RS.nil ?_))
    | (refine CS.region (id := 24) ?_;
        refine RS.pv (PV.all tab_ok rfl) rfl ?_;
        refine RS.pv (PV.all tab_ok rfl) rfl ?_;
        refine RS.nil ?_)
    | refine CS.ret ?_
    | refine thenQ.ret ?_
    | refine blkQ.ret ?_
    | refine retQ.ret ?_
    | refine CS.block ?_
    | refine CS.exit ?_
    | refine thenQ.exit ?_
    | refine blkQ.normal ?_
    | refine blkQ.here ?_
    | refine blkQ.past rfl ?_
    | refine retQ.normal ?_)
  exact ⟨[_], hA4, rfl⟩
theorem keys_78 (n : Nat) (h1 : 1 ≤ n) (h5 : n ≤ 5) (ac : List Value) (A : WorldD) (i : Imm) (L : SH) (hA : WorldV i ac A) (oA : A.ok) (fA : A.few) : FnS Try.prog 78 [.agg ac.toArray, .int .i64 (n : Int)] i L fun u i' L' => L' = L ∧ Sl i' u 1 (keysOf A n).length (strs (keysOf A n)) := by
  rcases (by omega : n = 1 ∨ n = 2 ∨ n = 3 ∨ n = 4 ∨ n = 5) with rfl | rfl | rfl | rfl | rfl
  · exact keys78_1 ac A i L hA oA fA
  · exact keys78_2 ac A i L hA oA fA
  · exact keys78_3 ac A i L hA oA fA
  · exact keys78_4 ac A i L hA oA fA
  · exact keys78_5 ac A i L hA
end Go.Proofs.Ytmcajldlcomegaa
