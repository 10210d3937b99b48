/- Contracts: a copy of a pool. -/
import Derived.Test.YtmcajldlcomegaaW31
import Derived.Test.YtmcajldlcomegaaEng12
namespace Go.Proofs.Ytmcajldlcomegaa
open Go Go.Eng

def jdO (o : Option JobP) : Option JobD := o.map fun x => x.jd
/-- the first k workers copied -/
structure Cp (i : Imm) (js cs : List (Option JobP)) (k : Nat) : Prop where
  len : cs.length = 8
  rest : ∀ j, k ≤ j → j < 8 → cs[j]? = some none
  same : ∀ j, j < k → (cs[j]?).map jdO = (js[j]?).map jdO
  job : ∀ x : JobP, some x ∈ cs → JobV i x.jc x.jd ∧ x.jd.rcd.ok ∧ 1 ≤ x.jd.left ∧ x.jd.left ≤ 16000
theorem Cp.le {i i' : Imm} {js cs : List (Option JobP)} {k : Nat} (h : Cp i js cs k) (hi : i.le i') : Cp i' js cs k :=
  ⟨h.len, h.rest, h.same, fun x hx => ⟨(h.job x hx).1.le hi, (h.job x hx).2⟩⟩
theorem Cp.none {i : Imm} {js cs : List (Option JobP)} {k : Nat} (h : Cp i js cs k) (hk : k < 8) (hn : js[k]? = some none) : Cp i js cs (k + 1) :=
  ⟨h.len, fun j h1 h2 => h.rest j (by omega) h2, fun j hj => by
    rcases Nat.lt_succ_iff_lt_or_eq.1 hj with hj | rfl
    · exact h.same j hj
    · rw [h.rest j (Nat.le_refl _) hk, hn], h.job⟩
theorem Cp.some {i : Imm} {js cs : List (Option JobP)} {k : Nat} {x y : JobP} (h : Cp i js cs k) (hk : k < 8) (hx : js[k]? = some (some x)) (hy : y.jd = x.jd) (hv : JobV i y.jc y.jd ∧ y.jd.rcd.ok ∧ 1 ≤ y.jd.left ∧ y.jd.left ≤ 16000) : Cp i js (cs.set k (some y)) (k + 1) := by
  refine ⟨by rw [List.length_set]; exact h.len, fun j h1 h2 => ?_, fun j hj => ?_, fun z hz => ?_⟩
  · rw [List.getElem?_set, if_neg (by omega)]; exact h.rest j (by omega) h2
  · rw [List.getElem?_set]
    rcases Nat.lt_succ_iff_lt_or_eq.1 hj with hj | rfl
    · rw [if_neg (by omega)]; exact h.same j hj
    · rw [if_pos rfl, if_pos (by rw [h.len]; exact hk), hx]
      simp [jdO, hy]
  · rcases List.mem_or_eq_of_mem_set hz with hz | hz
    · exact h.job z hz
    · cases hz; exact hv
theorem Cp.end {i : Imm} {js cs : List (Option JobP)} {nw : Nat} (h : Cp i js cs 8) (hp : PoolSt i js nw) : cs.map jdO = js.map jdO ∧ PoolSt i cs nw := by
  have hs : ∀ j, (cs[j]?).map jdO = (js[j]?).map jdO := fun j => by
    by_cases hj : j < 8
    · exact h.same j hj
    · rw [List.getElem?_eq_none (by have := h.len; omega), List.getElem?_eq_none (by have := hp.len; omega)]
  refine ⟨List.ext_getElem? fun j => by rw [List.getElem?_map, List.getElem?_map]; exact hs j, h.len, hp.nwpos, hp.nwle, fun k h1 h2 => ?_, h.job⟩
  have := hs k
  rw [hp.idle k h1 h2] at this
  cases hc : cs[k]? with
  | none => rw [List.getElem?_eq_none_iff] at hc; have := h.len; omega
  | some o =>
    rw [hc] at this
    cases o with
    | none => rfl
    | some x => simp [jdO] at this
theorem ods_same {js cs : List (Option JobP)} (h : cs.map jdO = js.map jdO) (nw : Nat) : ods cs nw = ods js nw := by
  unfold ods
  rw [List.map_take, List.map_take]
  exact congrArg (List.take nw) h
theorem Copy_s (p nw : Nat) (js : List (Option JobP)) (i : Imm) (R : SH) (hp : PoolSt i js nw) :
    FnS Try.prog 31 [.pointer (some ⟨p, 0, none⟩)] i (poolL p js nw ++ R) fun v i' L' => ∃ q cs, v = .pointer (some ⟨q, 0, none⟩) ∧ cs.map jdO = js.map jdO ∧ PoolSt i' cs nw ∧ L' = poolL q cs nw ++ (poolL p js nw ++ R) := by
  refine FnS.state (K := fun v i' L' => ∃ q cs, v = .pointer (some ⟨q, 0, none⟩) ∧ Cp i' js cs 8 ∧ PoolSt i' js nw ∧ L'.Perm (poolL q cs nw ++ (poolL p js nw ++ R))) ?_ ?_
  rotate_left
  · rintro v i' L' w _ hs ⟨q, cs, h1, h2, h3, h4⟩
    exact ⟨i', _, Imm.le.refl i', hs.perm h4, q, cs, h1, (h2.end h3).1, (h2.end h3).2, rfl⟩
  have hlen := hp.len
  have hc := poolC_nw (nw := nw) hp.len
  have hpool : ∀ X : SH, (p, poolO js nw) ∈ X ++ (poolL p js nw ++ R) := fun X => List.mem_append_right _ (List.mem_append_left _ (List.mem_cons_self ..))
  have harr : ∀ (j : Nat) (u : Value), (js.map jptr)[j]? = some u → (poolC js nw)[0 + 0 + j]? = some u := fun j u hu => by
    have hj := (List.getElem?_eq_some_iff.1 hu).1
    unfold poolC
    rw [List.getElem?_append_left (by omega)]
    simpa using hu
  refine FnS.intro1 Try.func31 rfl Try.ntmps31 (by simp) Try.results31 ?_
  repeat' (first
    | refine CS.seq ?_
    | refine thenQ.normal ?_
    | refine CS.cond_true rfl ?_
    | refine CS.cond_false rfl ?_
    | refine CS.skip ?_
    | (refine CS.region (id := 0) ?_;
        refine RS.pv (PV.all tab_ok rfl) rfl ?_;
        refine RS.nil ?_)
    | (refine CS.region (id := 1) ?_;
        refine RS.pv (PV.all tab_ok rfl) rfl ?_;
        refine RS.pv (PV.all tab_ok rfl) rfl ?_;
        refine RS.pv (PV.all tab_ok rfl) rfl ?_;
        refine RS.lv (LV.load1 tab_ok rfl (Has.mem (hpool [])) rfl hc) rfl ?_;
        (all_goals refine RS.pv (PV.all tab_ok rfl) rfl ?_);
        (all_goals refine RS.box rfl rfl (fun q => ?_));
        (all_goals refine RS.pv (PV.all tab_ok rfl) rfl ?_);
        (all_goals refine RS.nil ?_))
    | (refine CS.region (id := 2) ?_;
        refine RS.pv (PV.all tab_ok rfl) rfl ?_;
        refine RS.pv (PV.all tab_ok rfl) rfl ?_;
        refine RS.pv (PV.all tab_ok rfl) rfl ?_;
        refine RS.lv (LV.loadL tab_ok rfl (Has.mem (hpool [_])) (l := js.map jptr) rfl rfl ((List.length_map jptr).trans hlen) harr) rfl ?_;
        (all_goals refine RS.pv (PV.all tab_ok rfl) rfl ?_);
        (all_goals refine RS.nil ?_))
    | refine CS.ret ?_
    | refine thenQ.ret ?_
    | refine blkQ.ret ?_
    | refine retQ.ret ?_
    | refine CS.block ?_
    | refine CS.exit ?_
    | refine thenQ.exit ?_
    | refine blkQ.normal ?_
    | refine blkQ.here ?_
    | refine blkQ.past rfl ?_
    | refine retQ.normal ?_)
  refine CS.loop [3, 16, 17] (fun m vs i' L' => ∃ (k : Nat) (cs : List (Option JobP)), m = 8 - k ∧ k ≤ 8 ∧ Cp i' js cs k ∧ PoolSt i' js nw ∧ vs = [.pointer (some ⟨q, 0, none⟩), .agg (List.toArray (js.map jptr)), .int .i64 (k : Int)] ∧ L'.Perm (poolL q cs nw ++ (poolL p js nw ++ R))) 8 ⟨0, List.replicate 8 none, rfl, by omega, ⟨rfl, fun j _ hj => by rw [List.getElem?_replicate, if_pos hj], fun j hj => absurd hj (by omega), fun x hx => by simp at hx⟩, hp, rfl, List.Perm.refl _⟩ ?_
  clear hp
  rintro m g vs i' L' _ ⟨k, cs, rfl, hk, hcp, hp, rfl, hL⟩
  refine CS.perm hL ?_
  by_cases hlt : k < 8
  · obtain ⟨o, ho⟩ : ∃ o, js[k]? = some o := ⟨_, List.getElem?_eq_getElem (by omega)⟩
    have hcell : (js.map jptr)[((k : Nat) : Int).toNat]? = some (jptr o) := by rw [List.getElem?_map, Int.toNat_natCast, ho]; rfl
    cases o with
    | none =>
      change _ = some (Value.pointer none) at hcell
      repeat' (first
        | refine CS.seq ?_
        | refine thenQ.normal ?_
        | refine CS.cond_true rfl ?_
        | refine CS.cond_false rfl ?_
        | refine CS.skip ?_
        | (refine CS.region (id := 0) ?_;
            refine RS.pv (PV.all tab_ok rfl) rfl ?_;
            refine RS.nil ?_)
        | (refine CS.region (id := 1) ?_;
            refine RS.pv (PV.all tab_ok rfl) rfl ?_;
            refine RS.pv (PV.all tab_ok rfl) rfl ?_;
            refine RS.pv (PV.all tab_ok rfl) rfl ?_;
            (first | refine RS.lv (LV.load tab_ok rfl (Has.own 0 rfl) rfl) rfl ?_ | refine RS.lv (LV.load tab_ok rfl (Has.own 1 rfl) rfl) rfl ?_ | refine RS.lv (LV.load tab_ok rfl (Has.own 2 rfl) rfl) rfl ?_);
            refine RS.pv (PV.all tab_ok rfl) rfl ?_;
            refine RS.box rfl rfl (fun b => ?_);
            refine RS.pv (PV.all tab_ok rfl) rfl ?_;
            refine RS.nil ?_)
        | (refine CS.region (id := 2) ?_;
            refine RS.pv (PV.all tab_ok rfl) rfl ?_;
            refine RS.pv (PV.all tab_ok rfl) rfl ?_;
            refine RS.pv (PV.all tab_ok rfl) rfl ?_;
            (first | refine RS.lv (LV.load tab_ok rfl (Has.own 0 rfl) rfl) rfl ?_ | refine RS.lv (LV.load tab_ok rfl (Has.own 1 rfl) rfl) rfl ?_ | refine RS.lv (LV.load tab_ok rfl (Has.own 2 rfl) rfl) rfl ?_);
            refine RS.pv (PV.all tab_ok rfl) rfl ?_;
            refine RS.nil ?_)
        | (refine CS.region (id := 3) ?_;
            (first | refine RS.pv (PV.lssT rfl rfl (by omega)) rfl ?_ | refine RS.pv (PV.lssF rfl rfl (by omega)) rfl ?_ | refine RS.ifLss rfl rfl rfl (fun h => ?_) (fun h => ?_));
            (all_goals refine RS.nil ?_))
        | (refine CS.region (id := 4) ?_;
            refine RS.pv (PV.all tab_ok rfl) rfl ?_;
            refine RS.pv (PV.indexA tab_ok rfl rfl rfl (by omega) hcell) rfl ?_;
            (all_goals refine RS.pv (PV.all tab_ok rfl) rfl ?_);
            (all_goals refine RS.pv (PV.all tab_ok rfl) rfl ?_);
            (all_goals refine RS.nil ?_))
        | (refine CS.region (id := 5) ?_;
            refine RS.pv (PV.all tab_ok rfl) rfl ?_;
            (first | refine RS.pv (PV.all tab_ok rfl) rfl ?_ | refine RS.pv (PV.neqT rfl rfl (by omega)) rfl ?_ | refine RS.pv (PV.neqF rfl rfl (by omega)) rfl ?_ | refine RS.ifNeq rfl rfl rfl (fun h => ?_) (fun h => ?_) | refine RS.ifSneq rfl rfl rfl (fun h => ?_) (fun h => ?_));
            (all_goals refine RS.nil ?_))
        | (refine CS.region (id := 8) ?_;
            refine RS.pv (PV.add rfl rfl (by omega)) rfl ?_;
            refine RS.pv (PV.all tab_ok rfl) rfl ?_;
            refine RS.nil ?_)
        | refine CS.ret ?_
        | refine thenQ.ret ?_
        | refine blkQ.ret ?_
        | refine retQ.ret ?_
        | refine CS.block ?_
        | refine CS.exit ?_
        | refine thenQ.exit ?_
        | refine blkQ.normal ?_
        | refine blkQ.here ?_
        | refine blkQ.past rfl ?_
        | refine retQ.normal ?_)
      exact ⟨8 - (k + 1), by omega, k + 1, cs, rfl, hlt, hcp.none hlt ho, hp, rfl, List.Perm.refl _⟩
    | some x =>
      obtain ⟨xb, xjc, xjd⟩ := x
      have hxm := List.mem_of_getElem? ho
      obtain ⟨hjv, hok, hl1, hl2⟩ := hp.job _ hxm
      have hmem : (xb, jobO ⟨xb, xjc, xjd⟩) ∈ poolL q cs nw ++ (poolL p js nw ++ R) := List.mem_append_right _ (List.mem_append_left _ (List.mem_cons_of_mem _ (jobsL_mem hxm)))
      have hcall := copied_s _ _ i' (poolL q cs nw ++ (poolL p js nw ++ R)) hjv hok
      obtain ⟨rc, hjc, hrc⟩ := id hjv
      simp only at hjc hrc hok hl1 hl2
      obtain ⟨d2, e2, d3, e3, d4, e4, d5, e5, d6, e6, rfl⟩ := hrc.lit
      subst hjc
      unfold jobO at hmem
      change _ = some (Value.pointer (some ⟨xb, 0, none⟩)) at hcell
      repeat' (first
        | refine CS.seq ?_
        | refine thenQ.normal ?_
        | refine CS.cond_true rfl ?_
        | refine CS.cond_false rfl ?_
        | refine CS.skip ?_
        | (refine CS.region (id := 0) ?_;
            refine RS.pv (PV.all tab_ok rfl) rfl ?_;
            refine RS.nil ?_)
        | (refine CS.region (id := 1) ?_;
            refine RS.pv (PV.all tab_ok rfl) rfl ?_;
            refine RS.pv (PV.all tab_ok rfl) rfl ?_;
            refine RS.pv (PV.all tab_ok rfl) rfl ?_;
            (first | refine RS.lv (LV.load tab_ok rfl (Has.own 0 rfl) rfl) rfl ?_ | refine RS.lv (LV.load tab_ok rfl (Has.own 1 rfl) rfl) rfl ?_ | refine RS.lv (LV.load tab_ok rfl (Has.own 2 rfl) rfl) rfl ?_);
            refine RS.pv (PV.all tab_ok rfl) rfl ?_;
            refine RS.box rfl rfl (fun b => ?_);
            refine RS.pv (PV.all tab_ok rfl) rfl ?_;
            refine RS.nil ?_)
        | (refine CS.region (id := 2) ?_;
            refine RS.pv (PV.all tab_ok rfl) rfl ?_;
            refine RS.pv (PV.all tab_ok rfl) rfl ?_;
            refine RS.pv (PV.all tab_ok rfl) rfl ?_;
            (first | refine RS.lv (LV.load tab_ok rfl (Has.own 0 rfl) rfl) rfl ?_ | refine RS.lv (LV.load tab_ok rfl (Has.own 1 rfl) rfl) rfl ?_ | refine RS.lv (LV.load tab_ok rfl (Has.own 2 rfl) rfl) rfl ?_);
            refine RS.pv (PV.all tab_ok rfl) rfl ?_;
            refine RS.nil ?_)
        | (refine CS.region (id := 3) ?_;
            (first | refine RS.pv (PV.lssT rfl rfl (by omega)) rfl ?_ | refine RS.pv (PV.lssF rfl rfl (by omega)) rfl ?_ | refine RS.ifLss rfl rfl rfl (fun h => ?_) (fun h => ?_));
            (all_goals refine RS.nil ?_))
        | (refine CS.region (id := 4) ?_;
            refine RS.pv (PV.all tab_ok rfl) rfl ?_;
            refine RS.pv (PV.indexA tab_ok rfl rfl rfl (by omega) hcell) rfl ?_;
            (all_goals refine RS.pv (PV.all tab_ok rfl) rfl ?_);
            (all_goals refine RS.pv (PV.all tab_ok rfl) rfl ?_);
            (all_goals refine RS.nil ?_))
        | (refine CS.region (id := 5) ?_;
            refine RS.pv (PV.all tab_ok rfl) rfl ?_;
            (first | refine RS.pv (PV.all tab_ok rfl) rfl ?_ | refine RS.pv (PV.neqT rfl rfl (by omega)) rfl ?_ | refine RS.pv (PV.neqF rfl rfl (by omega)) rfl ?_ | refine RS.ifNeq rfl rfl rfl (fun h => ?_) (fun h => ?_) | refine RS.ifSneq rfl rfl rfl (fun h => ?_) (fun h => ?_));
            (all_goals refine RS.nil ?_))
        | (refine CS.region (id := 6) ?_;
            refine RS.pv (PV.all tab_ok rfl) rfl ?_;
            refine RS.pv (PV.all tab_ok rfl) rfl ?_;
            refine RS.lv (LV.load tab_ok rfl (Has.mem hmem) rfl) rfl ?_;
            (all_goals (refine RS.call hcall rfl (by kernel_rfl) rfl ?_; rintro v i3 L3 hi3 ⟨jc', rfl, hj, rfl⟩; obtain ⟨rc', hrc', hr'⟩ := id hj; obtain ⟨u2, w2, u3, w3, u4, w4, u5, w5, u6, w6, rfl⟩ := hr'.lit; subst hrc'));
            (all_goals refine RS.alloc tab_ok rfl rfl (fun bj => ?_));
            (all_goals (first | refine RS.store (k := 0) tab_ok rfl rfl rfl rfl rfl rfl rfl rfl ?_ | refine RS.store (k := 1) tab_ok rfl rfl rfl rfl rfl rfl rfl rfl ?_ | refine RS.store (k := 2) tab_ok rfl rfl rfl rfl rfl rfl rfl rfl ?_));
            (all_goals refine RS.nil ?_))
        | (refine CS.region (id := 8) ?_;
            refine RS.pv (PV.add rfl rfl (by omega)) rfl ?_;
            refine RS.pv (PV.all tab_ok rfl) rfl ?_;
            refine RS.nil ?_)
        | refine CS.ret ?_
        | refine thenQ.ret ?_
        | refine blkQ.ret ?_
        | refine retQ.ret ?_
        | refine CS.block ?_
        | refine CS.exit ?_
        | refine thenQ.exit ?_
        | refine blkQ.normal ?_
        | refine blkQ.here ?_
        | refine blkQ.past rfl ?_
        | refine retQ.normal ?_)
      have hput := poolC_put (js := cs) (nw := nw) (k := k) (by have := hcp.len; omega) (some ⟨bj, [.int .i64 xjd.index, .int .i64 xjd.left, .string xjd.rcd.path, .int .i64 xjd.rcd.index, .slice u2 xjd.rcd.props.length w2, .slice u3 xjd.rcd.tags.length w3, .slice u4 xjd.rcd.links.length w4, .slice u5 xjd.rcd.run.length w5, .slice u6 xjd.rcd.load.length w6, .string xjd.rcd.name, .int .i64 xjd.rcd.priority, .string xjd.rcd.owner, .string xjd.rcd.group, .int .i64 xjd.rcd.mode], xjd⟩)
      repeat' (first
        | refine CS.seq ?_
        | refine thenQ.normal ?_
        | refine CS.cond_true rfl ?_
        | refine CS.cond_false rfl ?_
        | refine CS.skip ?_
        | (refine CS.region (id := 0) ?_;
            refine RS.pv (PV.all tab_ok rfl) rfl ?_;
            refine RS.nil ?_)
        | (refine CS.region (id := 1) ?_;
            refine RS.pv (PV.all tab_ok rfl) rfl ?_;
            refine RS.pv (PV.all tab_ok rfl) rfl ?_;
            refine RS.pv (PV.all tab_ok rfl) rfl ?_;
            (first | refine RS.lv (LV.load tab_ok rfl (Has.own 0 rfl) rfl) rfl ?_ | refine RS.lv (LV.load tab_ok rfl (Has.own 1 rfl) rfl) rfl ?_ | refine RS.lv (LV.load tab_ok rfl (Has.own 2 rfl) rfl) rfl ?_);
            refine RS.pv (PV.all tab_ok rfl) rfl ?_;
            refine RS.box rfl rfl (fun b => ?_);
            refine RS.pv (PV.all tab_ok rfl) rfl ?_;
            refine RS.nil ?_)
        | (refine CS.region (id := 2) ?_;
            refine RS.pv (PV.all tab_ok rfl) rfl ?_;
            refine RS.pv (PV.all tab_ok rfl) rfl ?_;
            refine RS.pv (PV.all tab_ok rfl) rfl ?_;
            (first | refine RS.lv (LV.load tab_ok rfl (Has.own 0 rfl) rfl) rfl ?_ | refine RS.lv (LV.load tab_ok rfl (Has.own 1 rfl) rfl) rfl ?_ | refine RS.lv (LV.load tab_ok rfl (Has.own 2 rfl) rfl) rfl ?_);
            refine RS.pv (PV.all tab_ok rfl) rfl ?_;
            refine RS.nil ?_)
        | (refine CS.region (id := 3) ?_;
            (first | refine RS.pv (PV.lssT rfl rfl (by omega)) rfl ?_ | refine RS.pv (PV.lssF rfl rfl (by omega)) rfl ?_ | refine RS.ifLss rfl rfl rfl (fun h => ?_) (fun h => ?_));
            (all_goals refine RS.nil ?_))
        | (refine CS.region (id := 4) ?_;
            refine RS.pv (PV.all tab_ok rfl) rfl ?_;
            refine RS.pv (PV.indexA tab_ok rfl rfl rfl (by omega) rfl) rfl ?_;
            refine RS.pv (PV.all tab_ok rfl) rfl ?_;
            refine RS.pv (PV.all tab_ok rfl) rfl ?_;
            refine RS.nil ?_)
        | (refine CS.region (id := 5) ?_;
            refine RS.pv (PV.all tab_ok rfl) rfl ?_;
            (first | refine RS.pv (PV.all tab_ok rfl) rfl ?_ | refine RS.pv (PV.neqT rfl rfl (by omega)) rfl ?_ | refine RS.pv (PV.neqF rfl rfl (by omega)) rfl ?_ | refine RS.ifNeq rfl rfl rfl (fun h => ?_) (fun h => ?_) | refine RS.ifSneq rfl rfl rfl (fun h => ?_) (fun h => ?_));
            (all_goals refine RS.nil ?_))
        | (refine CS.region (id := 7) ?_;
            refine RS.pv (PV.all tab_ok rfl) rfl ?_;
            refine RS.pv (PV.all tab_ok rfl) rfl ?_;
            refine RS.pv (PV.all tab_ok rfl) rfl ?_;
            refine RS.pv (PV.all tab_ok rfl) rfl ?_;
            (first | refine RS.pv (PV.indexAddr tab_ok rfl rfl rfl (by omega)) rfl ?_ | refine RS.pv (PV.indexAddrA tab_ok rfl rfl rfl (by omega)) rfl ?_);
            refine RS.store (k := 1) tab_ok rfl rfl rfl rfl rfl rfl hput rfl ?_;
            (all_goals refine RS.nil ?_))
        | (refine CS.region (id := 8) ?_;
            refine RS.pv (PV.add rfl rfl (by omega)) rfl ?_;
            refine RS.pv (PV.all tab_ok rfl) rfl ?_;
            refine RS.nil ?_)
        | refine CS.ret ?_
        | refine thenQ.ret ?_
        | refine blkQ.ret ?_
        | refine retQ.ret ?_
        | refine CS.block ?_
        | refine CS.exit ?_
        | refine thenQ.exit ?_
        | refine blkQ.normal ?_
        | refine blkQ.here ?_
        | refine blkQ.past rfl ?_
        | refine retQ.normal ?_)
      have hcp' := (hcp.le hi3).some (y := ⟨bj, _, xjd⟩) hlt ho rfl ⟨hj, hok, hl1, hl2⟩
      refine ⟨8 - (k + 1), by omega, k + 1, _, rfl, hlt, hcp', hp.le hi3, rfl, ?_⟩
      have hadd := jobsL_add (js := cs) (k := k) ⟨bj, [.int .i64 xjd.index, .int .i64 xjd.left, .string xjd.rcd.path, .int .i64 xjd.rcd.index, .slice u2 xjd.rcd.props.length w2, .slice u3 xjd.rcd.tags.length w3, .slice u4 xjd.rcd.links.length w4, .slice u5 xjd.rcd.run.length w5, .slice u6 xjd.rcd.load.length w6, .string xjd.rcd.name, .int .i64 xjd.rcd.priority, .string xjd.rcd.owner, .string xjd.rcd.group, .int .i64 xjd.rcd.mode], xjd⟩ (hcp.rest k (Nat.le_refl _) hlt)
      exact (List.Perm.swap _ _ _).trans (.cons _ (hadd.symm.append_right _))
  · have hke : k = 8 := by omega
    subst hke
    repeat' (first
      | refine CS.seq ?_
      | refine thenQ.normal ?_
      | refine CS.cond_true rfl ?_
      | refine CS.cond_false rfl ?_
      | refine CS.skip ?_
      | (refine CS.region (id := 0) ?_;
          refine RS.pv (PV.all tab_ok rfl) rfl ?_;
          refine RS.nil ?_)
      | (refine CS.region (id := 1) ?_;
          refine RS.pv (PV.all tab_ok rfl) rfl ?_;
          refine RS.pv (PV.all tab_ok rfl) rfl ?_;
          refine RS.pv (PV.all tab_ok rfl) rfl ?_;
          (first | refine RS.lv (LV.load tab_ok rfl (Has.own 0 rfl) rfl) rfl ?_ | refine RS.lv (LV.load tab_ok rfl (Has.own 1 rfl) rfl) rfl ?_ | refine RS.lv (LV.load tab_ok rfl (Has.own 2 rfl) rfl) rfl ?_);
          refine RS.pv (PV.all tab_ok rfl) rfl ?_;
          refine RS.box rfl rfl (fun b => ?_);
          refine RS.pv (PV.all tab_ok rfl) rfl ?_;
          refine RS.nil ?_)
      | (refine CS.region (id := 2) ?_;
          refine RS.pv (PV.all tab_ok rfl) rfl ?_;
          refine RS.pv (PV.all tab_ok rfl) rfl ?_;
          refine RS.pv (PV.all tab_ok rfl) rfl ?_;
          (first | refine RS.lv (LV.load tab_ok rfl (Has.own 0 rfl) rfl) rfl ?_ | refine RS.lv (LV.load tab_ok rfl (Has.own 1 rfl) rfl) rfl ?_ | refine RS.lv (LV.load tab_ok rfl (Has.own 2 rfl) rfl) rfl ?_);
          refine RS.pv (PV.all tab_ok rfl) rfl ?_;
          refine RS.nil ?_)
      | (refine CS.region (id := 3) ?_;
          (first | refine RS.pv (PV.lssT rfl rfl (by omega)) rfl ?_ | refine RS.pv (PV.lssF rfl rfl (by omega)) rfl ?_ | refine RS.ifLss rfl rfl rfl (fun h => ?_) (fun h => ?_));
          (all_goals refine RS.nil ?_))
      | (refine CS.region (id := 9) ?_;
          refine RS.pv (PV.all tab_ok rfl) rfl ?_;
          refine RS.pv (PV.all tab_ok rfl) rfl ?_;
          refine RS.nil ?_)
      | refine CS.ret ?_
      | refine thenQ.ret ?_
      | refine blkQ.ret ?_
      | refine retQ.ret ?_
      | refine CS.block ?_
      | refine CS.exit ?_
      | refine thenQ.exit ?_
      | refine blkQ.normal ?_
      | refine blkQ.here ?_
      | refine blkQ.past rfl ?_
      | refine retQ.normal ?_)
    exact ⟨q, cs, rfl, hcp, hp, List.Perm.refl _⟩
end Go.Proofs.Ytmcajldlcomegaa
