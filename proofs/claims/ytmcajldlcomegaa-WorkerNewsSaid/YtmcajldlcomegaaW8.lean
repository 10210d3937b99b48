/- Contracts: an empty pool's jobs and room, the reference's new pool, WorkerNews. -/
import Derived.Test.YtmcajldlcomegaaW7
import Derived.Test.YtmcajldlcomegaaEng8
namespace Go.Proofs.Ytmcajldlcomegaa
open Go Go.Eng

theorem poolC_none (nw k : Nat) (h : k < 8) : (poolC (List.replicate 8 none) nw)[0 + ((k : Nat) : Int).toNat * 1]? = some (.pointer none) :=
  poolC_at (o := none) (by rw [List.getElem?_replicate, if_pos h])
theorem Jobs0_s (p nw : Nat) (i : Imm) (L : SH) (hk : (p, poolO (List.replicate 8 none) nw) ∈ L) (hn : nw ≤ 8) :
    FnS Try.prog 21 [.pointer (some ⟨p, 0, none⟩)] i L fun v i' L' => v = .slice none 0 0 ∧ i' = i ∧ L' = L := by
  have hc := poolC_nw (nw := nw) (js := List.replicate 8 none) rfl
  refine FnS.intro1 Try.func21 rfl Try.ntmps21 (by simp) Try.results21 ?_
  repeat' (first
    | refine CS.seq ?_
    | refine thenQ.normal ?_
    | refine CS.cond_true rfl ?_
    | refine CS.cond_false rfl ?_
    | refine CS.skip ?_
    | (refine CS.region (id := 0) ?_;
        refine RS.pv (PV.all tab_ok rfl) rfl ?_;
        refine RS.nil ?_)
    | (refine CS.region (id := 1) ?_;
        refine RS.pv (PV.all tab_ok rfl) rfl ?_;
        refine RS.nil ?_)
    | (refine CS.drawQ (id := 2) mix (by kernel_rfl) ?_;
        refine QS.pv (PV.all tab_ok rfl) rfl ?_;
        refine QS.pv (PV.all tab_ok rfl) rfl ?_;
        refine QS.pv (PV.all tab_ok rfl) rfl ?_;
        refine QS.pv (PV.all tab_ok rfl) rfl ?_;
        refine QS.pv (PV.all tab_ok rfl) rfl ?_;
        refine QS.pv (PV.all tab_ok rfl) rfl ?_;
        refine QS.lv (LV.load1 tab_ok rfl (Has.mem hk) rfl hc) rfl ?_;
        (all_goals refine QS.pv (PV.sliceArr tab_ok rfl rfl rfl (by omega)) rfl ?_);
        (all_goals (first | refine QS.pv (PV.lenS tab_ok rfl rfl) rfl ?_ | refine QS.pv (PV.lenT tab_ok rfl rfl) rfl ?_));
        (all_goals refine QS.pv (PV.all tab_ok rfl) rfl ?_);
        (all_goals refine QS.nil ?_))
    | refine CS.ret ?_
    | refine thenQ.ret ?_
    | refine blkQ.ret ?_
    | refine retQ.ret ?_
    | refine CS.block ?_
    | refine CS.exit ?_
    | refine thenQ.exit ?_
    | refine blkQ.normal ?_
    | refine blkQ.here ?_
    | refine blkQ.past rfl ?_
    | refine retQ.normal ?_)
  refine CS.loop [3, 13, 14, 15] (fun m vs i' L' => ∃ k : Nat, m = nw - k ∧ k ≤ nw ∧ vs = [.slice none 0 0, .slice (some ⟨p, 0, none⟩) nw 8, .int .i64 nw, .int .i64 k] ∧ i' = i ∧ L' = L) nw ⟨0, rfl, Nat.zero_le _, rfl, rfl, rfl⟩ ?_
  rintro m g vs i' L' hi ⟨k, rfl, hkn, rfl, rfl, rfl⟩
  by_cases hlt : k < nw
  · have hcell := poolC_none nw k (by omega)
    repeat' (first
      | refine CS.seq ?_
      | refine thenQ.normal ?_
      | refine CS.cond_true rfl ?_
      | refine CS.cond_false rfl ?_
      | refine CS.skip ?_
      | (refine CS.region (id := 0) ?_;
          refine RS.pv (PV.all tab_ok rfl) rfl ?_;
          refine RS.nil ?_)
      | (refine CS.region (id := 1) ?_;
          refine RS.pv (PV.all tab_ok rfl) rfl ?_;
          refine RS.nil ?_)
      | (refine CS.region (id := 3) ?_;
          (first | refine RS.pv (PV.lssT rfl rfl (by omega)) rfl ?_ | refine RS.pv (PV.lssF rfl rfl (by omega)) rfl ?_ | refine RS.ifLss rfl rfl rfl (fun h => ?_) (fun h => ?_));
          (all_goals refine RS.nil ?_))
      | (refine CS.region (id := 4) ?_;
          (first | refine RS.pv (PV.indexAddr tab_ok rfl rfl rfl (by omega)) rfl ?_ | refine RS.pv (PV.indexAddrA tab_ok rfl rfl rfl (by omega)) rfl ?_);
          refine RS.lv (LV.load1 tab_ok rfl (Has.mem hk) rfl hcell) rfl ?_;
          (all_goals refine RS.pv (PV.all tab_ok rfl) rfl ?_);
          (all_goals refine RS.nil ?_))
      | (refine CS.region (id := 5) ?_;
          refine RS.pv (PV.all tab_ok rfl) rfl ?_;
          (first | refine RS.pv (PV.all tab_ok rfl) rfl ?_ | refine RS.pv (PV.neqT rfl rfl (by omega)) rfl ?_ | refine RS.pv (PV.neqF rfl rfl (by omega)) rfl ?_ | refine RS.ifNeq rfl rfl rfl (fun h => ?_) (fun h => ?_) | refine RS.ifSneq rfl rfl rfl (fun h => ?_) (fun h => ?_));
          (all_goals refine RS.nil ?_))
      | (refine CS.region (id := 7) ?_;
          refine RS.pv (PV.add rfl rfl (by omega)) rfl ?_;
          refine RS.pv (PV.all tab_ok rfl) rfl ?_;
          refine RS.nil ?_)
      | refine CS.ret ?_
      | refine thenQ.ret ?_
      | refine blkQ.ret ?_
      | refine retQ.ret ?_
      | refine CS.block ?_
      | refine CS.exit ?_
      | refine thenQ.exit ?_
      | refine blkQ.normal ?_
      | refine blkQ.here ?_
      | refine blkQ.past rfl ?_
      | refine retQ.normal ?_)
    exact ⟨nw - (k + 1), by omega, k + 1, rfl, hlt, rfl, rfl, rfl⟩
  · have : k = nw := by omega
    subst this
    repeat' (first
      | refine CS.seq ?_
      | refine thenQ.normal ?_
      | refine CS.cond_true rfl ?_
      | refine CS.cond_false rfl ?_
      | refine CS.skip ?_
      | (refine CS.region (id := 0) ?_;
          refine RS.pv (PV.all tab_ok rfl) rfl ?_;
          refine RS.nil ?_)
      | (refine CS.region (id := 1) ?_;
          refine RS.pv (PV.all tab_ok rfl) rfl ?_;
          refine RS.nil ?_)
      | (refine CS.region (id := 3) ?_;
          (first | refine RS.pv (PV.lssT rfl rfl (by omega)) rfl ?_ | refine RS.pv (PV.lssF rfl rfl (by omega)) rfl ?_ | refine RS.ifLss rfl rfl rfl (fun h => ?_) (fun h => ?_));
          (all_goals refine RS.nil ?_))
      | (refine CS.region (id := 8) ?_;
          refine RS.pv (PV.all tab_ok rfl) rfl ?_;
          refine RS.pv (PV.all tab_ok rfl) rfl ?_;
          refine RS.nil ?_)
      | refine CS.ret ?_
      | refine thenQ.ret ?_
      | refine blkQ.ret ?_
      | refine retQ.ret ?_
      | refine CS.block ?_
      | refine CS.exit ?_
      | refine thenQ.exit ?_
      | refine blkQ.normal ?_
      | refine blkQ.here ?_
      | refine blkQ.past rfl ?_
      | refine retQ.normal ?_)
    exact ⟨rfl, rfl, rfl⟩
theorem Room0_s (p nw : Nat) (i : Imm) (L : SH) (hk : (p, poolO (List.replicate 8 none) nw) ∈ L) (hn : nw ≤ 8) :
    FnS Try.prog 20 [.pointer (some ⟨p, 0, none⟩)] i L fun v i' L' => v = .int .i64 nw ∧ i' = i ∧ L' = L := by
  have hc := poolC_nw (nw := nw) (js := List.replicate 8 none) rfl
  refine FnS.intro1 Try.func20 rfl Try.ntmps20 (by simp) Try.results20 ?_
  repeat' (first
    | refine CS.seq ?_
    | refine thenQ.normal ?_
    | refine CS.cond_true rfl ?_
    | refine CS.cond_false rfl ?_
    | refine CS.skip ?_
    | (refine CS.region (id := 0) ?_;
        refine RS.pv (PV.all tab_ok rfl) rfl ?_;
        refine RS.nil ?_)
    | (refine CS.drawQ (id := 1) mix (by kernel_rfl) ?_;
        refine QS.pv (PV.all tab_ok rfl) rfl ?_;
        refine QS.pv (PV.all tab_ok rfl) rfl ?_;
        refine QS.pv (PV.all tab_ok rfl) rfl ?_;
        refine QS.lv (LV.load1 tab_ok rfl (Has.mem hk) rfl hc) rfl ?_;
        (all_goals refine QS.pv (PV.all tab_ok rfl) rfl ?_);
        (all_goals refine QS.call ((Jobs0_s p nw _ _ hk hn).mono (fun _ _ _ _ h => ⟨h.1, h.2.2⟩)) rfl (by kernel_rfl) rfl ?_);
        (all_goals (first | refine QS.pv (PV.lenS tab_ok rfl rfl) rfl ?_ | refine QS.pv (PV.lenT tab_ok rfl rfl) rfl ?_));
        (all_goals refine QS.pv (PV.sub rfl rfl (by omega)) rfl ?_);
        (all_goals refine QS.pv (PV.all tab_ok rfl) rfl ?_);
        (all_goals refine QS.nil ?_))
    | refine CS.ret ?_
    | refine thenQ.ret ?_
    | refine blkQ.ret ?_
    | refine retQ.ret ?_
    | refine CS.block ?_
    | refine CS.exit ?_
    | refine thenQ.exit ?_
    | refine blkQ.normal ?_
    | refine blkQ.here ?_
    | refine blkQ.past rfl ?_
    | refine retQ.normal ?_)
  exact ⟨congrArg (Value.int .i64) (Int.sub_zero _), rfl, rfl⟩
theorem rNew_bad (n : Int) (i : Imm) (L : SH) (h : n < 1 ∨ 8 < n) : FnS Try.prog 19 [.int .i64 n] i L fun v _ L' => v = .tuple #[.agg #[.slice none 0 0], .int .i64 290] ∧ ∃ o, L' = o :: L := by
  refine FnS.introCT tab_ok Try.func19 rfl Try.ntmps19 (by simp) Try.results19 ?_
  rcases h with h | h
  · repeat' (first
      | refine CS.seq ?_
      | refine thenQ.normal ?_
      | refine CS.cond_true rfl ?_
      | refine CS.cond_false rfl ?_
      | refine CS.skip ?_
      | (refine CS.region (id := 0) ?_;
          refine RS.alloc tab_ok rfl rfl (fun b => ?_);
          refine RS.pv (PV.all tab_ok rfl) rfl ?_;
          refine RS.nil ?_)
      | (refine CS.region (id := 1) ?_;
          refine RS.pv (PV.all tab_ok rfl) rfl ?_;
          (first | refine RS.pv (PV.lssT rfl rfl (by omega)) rfl ?_ | refine RS.pv (PV.lssF rfl rfl (by omega)) rfl ?_ | refine RS.ifLss rfl rfl rfl (fun h => ?_) (fun h => ?_));
          (all_goals refine RS.pv (PV.all tab_ok rfl) rfl ?_);
          (all_goals (first | refine RS.pv (PV.all tab_ok rfl) rfl ?_ | refine RS.skip rfl ?_));
          (all_goals (first | refine RS.pv (PV.gtrT rfl rfl (by omega)) rfl ?_ | refine RS.pv (PV.gtrF rfl rfl (by omega)) rfl ?_ | refine RS.ifGtr rfl rfl rfl (fun h => ?_) (fun h => ?_) | refine RS.skip rfl ?_));
          (all_goals refine RS.pv (PV.all tab_ok rfl) rfl ?_);
          (all_goals refine RS.nil ?_))
      | (refine CS.region (id := 2) ?_;
          refine RS.pv (PV.all tab_ok rfl) rfl ?_;
          (first | refine RS.store (k := 0) tab_ok rfl rfl rfl rfl rfl rfl rfl rfl ?_ | refine RS.store (k := 1) tab_ok rfl rfl rfl rfl rfl rfl rfl rfl ?_ | refine RS.store (k := 2) tab_ok rfl rfl rfl rfl rfl rfl rfl rfl ?_);
          refine RS.pv (PV.all tab_ok rfl) rfl ?_;
          refine RS.nil ?_)
      | (refine CS.region (id := 3) ?_;
          refine RS.pv (PV.all tab_ok rfl) rfl ?_)
      | refine CS.ret ?_
      | refine thenQ.ret ?_
      | refine blkQ.ret ?_
      | refine retQ.ret ?_
      | refine CS.block ?_
      | refine CS.exit ?_
      | refine thenQ.exit ?_
      | refine blkQ.normal ?_
      | refine blkQ.here ?_
      | refine blkQ.past rfl ?_
      | refine retQ.normal ?_)
    exact ⟨_, _, _, _, _, _, rfl, Has.own 0 rfl, rfl, rfl, _, rfl⟩
  · repeat' (first
      | refine CS.seq ?_
      | refine thenQ.normal ?_
      | refine CS.cond_true rfl ?_
      | refine CS.cond_false rfl ?_
      | refine CS.skip ?_
      | (refine CS.region (id := 0) ?_;
          refine RS.alloc tab_ok rfl rfl (fun b => ?_);
          refine RS.pv (PV.all tab_ok rfl) rfl ?_;
          refine RS.nil ?_)
      | (refine CS.region (id := 1) ?_;
          refine RS.pv (PV.all tab_ok rfl) rfl ?_;
          (first | refine RS.pv (PV.lssT rfl rfl (by omega)) rfl ?_ | refine RS.pv (PV.lssF rfl rfl (by omega)) rfl ?_ | refine RS.ifLss rfl rfl rfl (fun h => ?_) (fun h => ?_));
          (all_goals refine RS.pv (PV.all tab_ok rfl) rfl ?_);
          (all_goals (first | refine RS.pv (PV.all tab_ok rfl) rfl ?_ | refine RS.skip rfl ?_));
          (all_goals (first | refine RS.pv (PV.gtrT rfl rfl (by omega)) rfl ?_ | refine RS.pv (PV.gtrF rfl rfl (by omega)) rfl ?_ | refine RS.ifGtr rfl rfl rfl (fun h => ?_) (fun h => ?_) | refine RS.skip rfl ?_));
          (all_goals refine RS.pv (PV.all tab_ok rfl) rfl ?_);
          (all_goals refine RS.nil ?_))
      | (refine CS.region (id := 2) ?_;
          refine RS.pv (PV.all tab_ok rfl) rfl ?_;
          (first | refine RS.store (k := 0) tab_ok rfl rfl rfl rfl rfl rfl rfl rfl ?_ | refine RS.store (k := 1) tab_ok rfl rfl rfl rfl rfl rfl rfl rfl ?_ | refine RS.store (k := 2) tab_ok rfl rfl rfl rfl rfl rfl rfl rfl ?_);
          refine RS.pv (PV.all tab_ok rfl) rfl ?_;
          refine RS.nil ?_)
      | (refine CS.region (id := 3) ?_;
          refine RS.pv (PV.all tab_ok rfl) rfl ?_)
      | refine CS.ret ?_
      | refine thenQ.ret ?_
      | refine blkQ.ret ?_
      | refine retQ.ret ?_
      | refine CS.block ?_
      | refine CS.exit ?_
      | refine thenQ.exit ?_
      | refine blkQ.normal ?_
      | refine blkQ.here ?_
      | refine blkQ.past rfl ?_
      | refine retQ.normal ?_)
    exact ⟨_, _, _, _, _, _, rfl, Has.own 0 rfl, rfl, rfl, _, rfl⟩
theorem rNew_s (nw : Nat) (i : Imm) (L : SH) (h1 : 1 ≤ nw) (h2 : nw ≤ 8) : FnS Try.prog 19 [.int .i64 nw] i L fun v i' L' => ∃ b o o', v = .tuple #[.agg #[.slice (some ⟨b, 0, none⟩) nw nw], .int .i64 0] ∧ i' = i ∧ L' = o :: o' :: L := by
  refine FnS.introCT tab_ok Try.func19 rfl Try.ntmps19 (by simp) Try.results19 ?_
  repeat' (first
    | refine CS.seq ?_
    | refine thenQ.normal ?_
    | refine CS.cond_true rfl ?_
    | refine CS.cond_false rfl ?_
    | refine CS.skip ?_
    | (refine CS.region (id := 0) ?_;
        refine RS.alloc tab_ok rfl rfl (fun b => ?_);
        refine RS.pv (PV.all tab_ok rfl) rfl ?_;
        refine RS.nil ?_)
    | (refine CS.region (id := 1) ?_;
        refine RS.pv (PV.all tab_ok rfl) rfl ?_;
        (first | refine RS.pv (PV.lssT rfl rfl (by omega)) rfl ?_ | refine RS.pv (PV.lssF rfl rfl (by omega)) rfl ?_ | refine RS.ifLss rfl rfl rfl (fun h => ?_) (fun h => ?_));
        (all_goals refine RS.pv (PV.all tab_ok rfl) rfl ?_);
        (all_goals (first | refine RS.pv (PV.all tab_ok rfl) rfl ?_ | refine RS.skip rfl ?_));
        (all_goals (first | refine RS.pv (PV.gtrT rfl rfl (by omega)) rfl ?_ | refine RS.pv (PV.gtrF rfl rfl (by omega)) rfl ?_ | refine RS.ifGtr rfl rfl rfl (fun h => ?_) (fun h => ?_) | refine RS.skip rfl ?_));
        (all_goals refine RS.pv (PV.all tab_ok rfl) rfl ?_);
        (all_goals refine RS.nil ?_))
    | (refine CS.region (id := 2) ?_;
        refine RS.pv (PV.all tab_ok rfl) rfl ?_;
        (first | refine RS.store (k := 0) tab_ok rfl rfl rfl rfl rfl rfl rfl rfl ?_ | refine RS.store (k := 1) tab_ok rfl rfl rfl rfl rfl rfl rfl rfl ?_ | refine RS.store (k := 2) tab_ok rfl rfl rfl rfl rfl rfl rfl rfl ?_);
        refine RS.pv (PV.all tab_ok rfl) rfl ?_;
        refine RS.nil ?_)
    | (refine CS.region (id := 3) ?_;
        refine RS.pv (PV.all tab_ok rfl) rfl ?_;
        (refine RS.make tab_ok (m := nw) (sz := 14) (bytes := 224) rfl rfl rfl ⟨_, rfl, rfl⟩ ⟨_, rfl, rfl, rfl, rfl⟩ (by omega) (by omega) (by omega) ?_; intro mb mcs hm1 hm2);
        (all_goals refine RS.pv (PV.all tab_ok rfl) rfl ?_);
        (all_goals (first | refine RS.store (k := 0) tab_ok rfl rfl rfl rfl rfl rfl rfl rfl ?_ | refine RS.store (k := 1) tab_ok rfl rfl rfl rfl rfl rfl rfl rfl ?_ | refine RS.store (k := 2) tab_ok rfl rfl rfl rfl rfl rfl rfl rfl ?_));
        (all_goals refine RS.pv (PV.all tab_ok rfl) rfl ?_);
        (all_goals refine RS.nil ?_))
    | refine CS.ret ?_
    | refine thenQ.ret ?_
    | refine blkQ.ret ?_
    | refine retQ.ret ?_
    | refine CS.block ?_
    | refine CS.exit ?_
    | refine thenQ.exit ?_
    | refine blkQ.normal ?_
    | refine blkQ.here ?_
    | refine blkQ.past rfl ?_
    | refine retQ.normal ?_)
  exact ⟨_, _, _, _, _, _, rfl, Has.own 1 rfl, rfl, _, _, _, rfl, rfl, rfl⟩

theorem News_s (n : Int) (i : Imm) (L : SH) : FnS Try.prog 4 [.int .i64 n] i L fun v _ _ => v = .bool true := by
  refine FnS.intro1 Try.func4 rfl Try.ntmps4 (by simp) Try.results4 ?_
  by_cases hn : 1 ≤ n ∧ n ≤ 8
  · obtain ⟨nw, rfl⟩ : ∃ nw : Nat, n = nw := ⟨n.toNat, by omega⟩
    have h1 : 1 ≤ nw := by omega
    have h2 : nw ≤ 8 := by omega
    repeat' (first
      | refine CS.seq ?_
      | refine thenQ.normal ?_
      | refine CS.cond_true rfl ?_
      | refine CS.cond_false rfl ?_
      | refine CS.skip ?_
      | (refine CS.region (id := 0) ?_;
          refine RS.pv (PV.all tab_ok rfl) rfl ?_;
          refine RS.nil ?_)
      | (refine CS.region (id := 1) ?_;
          refine RS.pv (PV.all tab_ok rfl) rfl ?_;
          (refine RS.call (New_s nw _ _ h1 h2) rfl (by kernel_rfl) rfl ?_; rintro v i1 L1 hi1 ⟨p, rfl, rfl, rfl⟩);
          (all_goals refine RS.pv (PV.all tab_ok rfl) rfl ?_);
          (all_goals refine RS.pv (PV.all tab_ok rfl) rfl ?_);
          (all_goals refine RS.pv (PV.all tab_ok rfl) rfl ?_);
          (all_goals refine RS.pv (PV.all tab_ok rfl) rfl ?_);
          (all_goals refine RS.pv (PV.all tab_ok rfl) rfl ?_);
          (all_goals refine RS.nil ?_))
      | (refine CS.region (id := 2) ?_;
          refine RS.pv (PV.all tab_ok rfl) rfl ?_;
          (refine RS.call (rNew_s nw _ _ h1 h2) rfl (by kernel_rfl) rfl ?_; rintro v i2 L2 hi2 ⟨b, o, o', rfl, rfl, rfl⟩);
          (all_goals refine RS.pv (PV.all tab_ok rfl) rfl ?_);
          (all_goals refine RS.pv (PV.all tab_ok rfl) rfl ?_);
          (all_goals refine RS.pv (PV.all tab_ok rfl) rfl ?_);
          (all_goals refine RS.alloc tab_ok rfl rfl (fun b => ?_));
          (all_goals (first | refine RS.store (k := 0) tab_ok rfl rfl rfl rfl rfl rfl rfl rfl ?_ | refine RS.store (k := 1) tab_ok rfl rfl rfl rfl rfl rfl rfl rfl ?_ | refine RS.store (k := 2) tab_ok rfl rfl rfl rfl rfl rfl rfl rfl ?_));
          (all_goals refine RS.pv (PV.all tab_ok rfl) rfl ?_);
          (all_goals refine RS.nil ?_))
      | (refine CS.region (id := 3) ?_;
          refine RS.pv (PV.all tab_ok rfl) rfl ?_;
          refine RS.pv (PV.all tab_ok rfl) rfl ?_;
          (first | refine RS.pv (PV.all tab_ok rfl) rfl ?_ | refine RS.pv (PV.neqT rfl rfl (by omega)) rfl ?_ | refine RS.pv (PV.neqF rfl rfl (by omega)) rfl ?_ | refine RS.ifNeq rfl rfl rfl (fun h => ?_) (fun h => ?_) | refine RS.ifSneq rfl rfl rfl (fun h => ?_) (fun h => ?_));
          (all_goals refine RS.pv (PV.all tab_ok rfl) rfl ?_);
          (all_goals (first | refine RS.pv (PV.all tab_ok rfl) rfl ?_ | refine RS.skip rfl ?_));
          (all_goals (first | refine RS.pv (PV.all tab_ok rfl) rfl ?_ | refine RS.pv (PV.eqlT rfl rfl (by omega)) rfl ?_ | refine RS.pv (PV.eqlF rfl rfl (by omega)) rfl ?_ | refine RS.ifEql rfl rfl rfl (fun h => ?_) (fun h => ?_) | refine RS.ifSeql rfl rfl rfl (fun h => ?_) (fun h => ?_) | refine RS.skip rfl ?_));
          (all_goals (first | refine RS.pv (PV.all tab_ok rfl) rfl ?_ | refine RS.skip rfl ?_));
          (all_goals (first | refine RS.pv (PV.all tab_ok rfl) rfl ?_ | refine RS.pv (PV.neqT rfl rfl (by omega)) rfl ?_ | refine RS.pv (PV.neqF rfl rfl (by omega)) rfl ?_ | refine RS.ifNeq rfl rfl rfl (fun h => ?_) (fun h => ?_) | refine RS.ifSneq rfl rfl rfl (fun h => ?_) (fun h => ?_) | refine RS.skip rfl ?_));
          (all_goals refine RS.pv (PV.bneq tab_ok ⟨_, rfl, rfl⟩ rfl rfl) rfl ?_);
          (all_goals refine RS.pv (PV.all tab_ok rfl) rfl ?_);
          (all_goals refine RS.nil ?_))
      | (refine CS.drawQ (id := 5) mix (by kernel_rfl) ?_;
          refine QS.pv (PV.all tab_ok rfl) rfl ?_;
          (first | refine QS.pv (PV.all tab_ok rfl) rfl ?_ | refine QS.pv (PV.eqlT rfl rfl (by omega)) rfl ?_ | refine QS.pv (PV.eqlF rfl rfl (by omega)) rfl ?_ | refine QS.ifEql rfl rfl rfl (fun h => ?_) (fun h => ?_) | refine QS.ifSeql rfl rfl rfl (fun h => ?_) (fun h => ?_));
          (all_goals refine QS.pv (PV.all tab_ok rfl) rfl ?_);
          (all_goals (first | refine QS.pv (PV.all tab_ok rfl) rfl ?_ | refine QS.skip rfl ?_));
          (all_goals refine QS.call ((Room0_s p nw _ _ (.tail _ (.tail _ (.tail _ (.head _)))) h2).mono (fun _ _ _ _ h => ⟨h.1, h.2.2⟩)) rfl (by kernel_rfl) rfl ?_);
          (all_goals (first | refine QS.pv (PV.all tab_ok rfl) rfl ?_ | refine QS.skip rfl ?_));
          (all_goals (first | refine QS.lv (LV.load tab_ok rfl (Has.own 0 rfl) rfl) rfl ?_ | refine QS.lv (LV.load tab_ok rfl (Has.own 1 rfl) rfl) rfl ?_ | refine QS.lv (LV.load tab_ok rfl (Has.own 2 rfl) rfl) rfl ?_ | refine QS.skip rfl ?_));
          (all_goals (first | refine QS.pv (PV.lenS tab_ok rfl rfl) rfl ?_ | refine QS.pv (PV.lenT tab_ok rfl rfl) rfl ?_ | refine QS.skip rfl ?_));
          (all_goals (first | refine QS.pv (PV.all tab_ok rfl) rfl ?_ | refine QS.pv (PV.eqlT rfl rfl (by omega)) rfl ?_ | refine QS.pv (PV.eqlF rfl rfl (by omega)) rfl ?_ | refine QS.ifEql rfl rfl rfl (fun h => ?_) (fun h => ?_) | refine QS.ifSeql rfl rfl rfl (fun h => ?_) (fun h => ?_) | refine QS.skip rfl ?_));
          (all_goals (first | refine QS.pv (PV.all tab_ok rfl) rfl ?_ | refine QS.skip rfl ?_));
          (all_goals (first | refine QS.pv (PV.all tab_ok rfl) rfl ?_ | refine QS.skip rfl ?_));
          (all_goals refine QS.call ((Jobs0_s p nw _ _ (.tail _ (.tail _ (.tail _ (.head _)))) h2).mono (fun _ _ _ _ h => ⟨h.1, h.2.2⟩)) rfl (by kernel_rfl) rfl ?_);
          (all_goals (first | refine QS.pv (PV.lenS tab_ok rfl rfl) rfl ?_ | refine QS.pv (PV.lenT tab_ok rfl rfl) rfl ?_ | refine QS.skip rfl ?_));
          (all_goals (first | refine QS.pv (PV.all tab_ok rfl) rfl ?_ | refine QS.pv (PV.eqlT rfl rfl (by omega)) rfl ?_ | refine QS.pv (PV.eqlF rfl rfl (by omega)) rfl ?_ | refine QS.ifEql rfl rfl rfl (fun h => ?_) (fun h => ?_) | refine QS.ifSeql rfl rfl rfl (fun h => ?_) (fun h => ?_) | refine QS.skip rfl ?_));
          (all_goals (first | refine QS.pv (PV.all tab_ok rfl) rfl ?_ | refine QS.skip rfl ?_));
          (all_goals refine QS.pv (PV.all tab_ok rfl) rfl ?_);
          (all_goals refine QS.pv (PV.all tab_ok rfl) rfl ?_);
          (all_goals refine QS.call (known_s _ _) rfl (by kernel_rfl) rfl ?_);
          (all_goals refine QS.pv (PV.all tab_ok rfl) rfl ?_);
          (all_goals refine QS.pv (PV.all tab_ok rfl) rfl ?_);
          (all_goals refine QS.nil ?_))
      | refine CS.ret ?_
      | refine thenQ.ret ?_
      | refine blkQ.ret ?_
      | refine retQ.ret ?_
      | refine CS.block ?_
      | refine CS.exit ?_
      | refine thenQ.exit ?_
      | refine blkQ.normal ?_
      | refine blkQ.here ?_
      | refine blkQ.past rfl ?_
      | refine retQ.normal ?_)
    rfl
  · have hb : n < 1 ∨ 8 < n := by omega
    repeat' (first
      | refine CS.seq ?_
      | refine thenQ.normal ?_
      | refine CS.cond_true rfl ?_
      | refine CS.cond_false rfl ?_
      | refine CS.skip ?_
      | (refine CS.region (id := 0) ?_;
          refine RS.pv (PV.all tab_ok rfl) rfl ?_;
          refine RS.nil ?_)
      | (refine CS.region (id := 1) ?_;
          refine RS.pv (PV.all tab_ok rfl) rfl ?_;
          (refine RS.call (New_bad n _ _ hb) rfl (by kernel_rfl) rfl ?_; rintro v i1 L1 hi1 ⟨rfl, rfl, rfl⟩);
          (all_goals refine RS.pv (PV.all tab_ok rfl) rfl ?_);
          (all_goals refine RS.pv (PV.all tab_ok rfl) rfl ?_);
          (all_goals refine RS.pv (PV.all tab_ok rfl) rfl ?_);
          (all_goals refine RS.pv (PV.all tab_ok rfl) rfl ?_);
          (all_goals refine RS.pv (PV.all tab_ok rfl) rfl ?_);
          (all_goals refine RS.nil ?_))
      | (refine CS.region (id := 2) ?_;
          refine RS.pv (PV.all tab_ok rfl) rfl ?_;
          (refine RS.call (rNew_bad n _ _ hb) rfl (by kernel_rfl) rfl ?_; rintro v i2 L2 hi2 ⟨rfl, o, rfl⟩);
          (all_goals refine RS.pv (PV.all tab_ok rfl) rfl ?_);
          (all_goals refine RS.pv (PV.all tab_ok rfl) rfl ?_);
          (all_goals refine RS.pv (PV.all tab_ok rfl) rfl ?_);
          (all_goals refine RS.alloc tab_ok rfl rfl (fun b => ?_));
          (all_goals (first | refine RS.store (k := 0) tab_ok rfl rfl rfl rfl rfl rfl rfl rfl ?_ | refine RS.store (k := 1) tab_ok rfl rfl rfl rfl rfl rfl rfl rfl ?_ | refine RS.store (k := 2) tab_ok rfl rfl rfl rfl rfl rfl rfl rfl ?_));
          (all_goals refine RS.pv (PV.all tab_ok rfl) rfl ?_);
          (all_goals refine RS.nil ?_))
      | (refine CS.region (id := 3) ?_;
          refine RS.pv (PV.all tab_ok rfl) rfl ?_;
          refine RS.pv (PV.all tab_ok rfl) rfl ?_;
          (first | refine RS.pv (PV.all tab_ok rfl) rfl ?_ | refine RS.pv (PV.neqT rfl rfl (by omega)) rfl ?_ | refine RS.pv (PV.neqF rfl rfl (by omega)) rfl ?_ | refine RS.ifNeq rfl rfl rfl (fun h => ?_) (fun h => ?_) | refine RS.ifSneq rfl rfl rfl (fun h => ?_) (fun h => ?_));
          (all_goals refine RS.pv (PV.all tab_ok rfl) rfl ?_);
          (all_goals (first | refine RS.pv (PV.all tab_ok rfl) rfl ?_ | refine RS.skip rfl ?_));
          (all_goals (first | refine RS.pv (PV.all tab_ok rfl) rfl ?_ | refine RS.pv (PV.eqlT rfl rfl (by omega)) rfl ?_ | refine RS.pv (PV.eqlF rfl rfl (by omega)) rfl ?_ | refine RS.ifEql rfl rfl rfl (fun h => ?_) (fun h => ?_) | refine RS.ifSeql rfl rfl rfl (fun h => ?_) (fun h => ?_) | refine RS.skip rfl ?_));
          (all_goals (first | refine RS.pv (PV.all tab_ok rfl) rfl ?_ | refine RS.skip rfl ?_));
          (all_goals (first | refine RS.pv (PV.all tab_ok rfl) rfl ?_ | refine RS.pv (PV.neqT rfl rfl (by omega)) rfl ?_ | refine RS.pv (PV.neqF rfl rfl (by omega)) rfl ?_ | refine RS.ifNeq rfl rfl rfl (fun h => ?_) (fun h => ?_) | refine RS.ifSneq rfl rfl rfl (fun h => ?_) (fun h => ?_) | refine RS.skip rfl ?_));
          (all_goals refine RS.pv (PV.bneq tab_ok ⟨_, rfl, rfl⟩ rfl rfl) rfl ?_);
          (all_goals refine RS.pv (PV.all tab_ok rfl) rfl ?_);
          (all_goals refine RS.nil ?_))
      | (refine CS.drawQ (id := 5) mix (by kernel_rfl) ?_;
          refine QS.pv (PV.all tab_ok rfl) rfl ?_;
          (first | refine QS.pv (PV.all tab_ok rfl) rfl ?_ | refine QS.pv (PV.eqlT rfl rfl (by omega)) rfl ?_ | refine QS.pv (PV.eqlF rfl rfl (by omega)) rfl ?_ | refine QS.ifEql rfl rfl rfl (fun h => ?_) (fun h => ?_) | refine QS.ifSeql rfl rfl rfl (fun h => ?_) (fun h => ?_));
          (all_goals refine QS.pv (PV.all tab_ok rfl) rfl ?_);
          (all_goals (first | refine QS.pv (PV.all tab_ok rfl) rfl ?_ | refine QS.skip rfl ?_));
          (all_goals refine QS.skip rfl ?_);
          (all_goals (first | refine QS.pv (PV.all tab_ok rfl) rfl ?_ | refine QS.skip rfl ?_));
          (all_goals (first | refine QS.lv (LV.load tab_ok rfl (Has.own 0 rfl) rfl) rfl ?_ | refine QS.lv (LV.load tab_ok rfl (Has.own 1 rfl) rfl) rfl ?_ | refine QS.lv (LV.load tab_ok rfl (Has.own 2 rfl) rfl) rfl ?_ | refine QS.skip rfl ?_));
          (all_goals (first | refine QS.pv (PV.lenS tab_ok rfl rfl) rfl ?_ | refine QS.pv (PV.lenT tab_ok rfl rfl) rfl ?_ | refine QS.skip rfl ?_));
          (all_goals (first | refine QS.pv (PV.all tab_ok rfl) rfl ?_ | refine QS.pv (PV.eqlT rfl rfl (by omega)) rfl ?_ | refine QS.pv (PV.eqlF rfl rfl (by omega)) rfl ?_ | refine QS.ifEql rfl rfl rfl (fun h => ?_) (fun h => ?_) | refine QS.ifSeql rfl rfl rfl (fun h => ?_) (fun h => ?_) | refine QS.skip rfl ?_));
          (all_goals (first | refine QS.pv (PV.all tab_ok rfl) rfl ?_ | refine QS.skip rfl ?_));
          (all_goals (first | refine QS.pv (PV.all tab_ok rfl) rfl ?_ | refine QS.skip rfl ?_));
          (all_goals refine QS.skip rfl ?_);
          (all_goals (first | refine QS.pv (PV.lenS tab_ok rfl rfl) rfl ?_ | refine QS.pv (PV.lenT tab_ok rfl rfl) rfl ?_ | refine QS.skip rfl ?_));
          (all_goals (first | refine QS.pv (PV.all tab_ok rfl) rfl ?_ | refine QS.pv (PV.eqlT rfl rfl (by omega)) rfl ?_ | refine QS.pv (PV.eqlF rfl rfl (by omega)) rfl ?_ | refine QS.ifEql rfl rfl rfl (fun h => ?_) (fun h => ?_) | refine QS.ifSeql rfl rfl rfl (fun h => ?_) (fun h => ?_) | refine QS.skip rfl ?_));
          (all_goals (first | refine QS.pv (PV.all tab_ok rfl) rfl ?_ | refine QS.skip rfl ?_));
          (all_goals refine QS.pv (PV.all tab_ok rfl) rfl ?_);
          (all_goals refine QS.pv (PV.all tab_ok rfl) rfl ?_);
          (all_goals refine QS.call (known_s _ _) rfl (by kernel_rfl) rfl ?_);
          (all_goals refine QS.pv (PV.all tab_ok rfl) rfl ?_);
          (all_goals refine QS.pv (PV.all tab_ok rfl) rfl ?_);
          (all_goals refine QS.nil ?_))
      | refine CS.ret ?_
      | refine thenQ.ret ?_
      | refine blkQ.ret ?_
      | refine retQ.ret ?_
      | refine CS.block ?_
      | refine CS.exit ?_
      | refine thenQ.exit ?_
      | refine blkQ.normal ?_
      | refine blkQ.here ?_
      | refine blkQ.past rfl ?_
      | refine retQ.normal ?_)
    rfl
end Go.Proofs.Ytmcajldlcomegaa
