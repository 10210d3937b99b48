/- Contracts: cancelling a job. -/
import Derived.Test.YtmcajldlcomegaaW15
namespace Go.Proofs.Ytmcajldlcomegaa
open Go Go.Eng

/-- what Cancel comes to -/
inductive CancelTo (js : List (Option JobP)) (nw : Nat) (index : Int) : Int → List (Option JobP) → Prop where
  | none : fidx (isIdx index) (js.take nw) < 0 → CancelTo js nw index 294 js
  | ok (k : Nat) : fidx (isIdx index) (js.take nw) = k → k < nw → CancelTo js nw index 0 (js.set k none)
theorem Cancel_s (p nw : Nat) (js : List (Option JobP)) (index : Int) (i : Imm) (R : SH) (hp : PoolSt i js nw) :
    FnS Try.prog 30 [.pointer (some ⟨p, 0, none⟩), .int .i64 index] i (poolL p js nw ++ R) fun v _ L' => ∃ e js', v = .int .i64 e ∧ CancelTo js nw index e js' ∧ L' = poolL p js' nw ++ R := by
  refine FnS.state (K := fun v _ L' => ∃ e js' M, v = .int .i64 e ∧ CancelTo js nw index e js' ∧ L'.Perm (M ++ (poolL p js' nw ++ R))) ?_ ?_
  rotate_left
  · rintro v i' L' w _ hs ⟨e, js', M, hv, hg, hL⟩
    exact ⟨i', _, Imm.le.refl i', (hs.perm hL).dropL, e, js', hv, hg, rfl⟩
  have hlen := hp.len
  have hnw := hp.nwle
  have hin : PoolIn i (poolL p js nw ++ R) p js nw := hp.pin fun e he => List.mem_append_left _ he
  have hfd := find_s p nw index js i _ hin
  have hpos := fun h => fidx_pos (p := isIdx index) (l := js.take nw) h
  obtain ⟨fd, hD⟩ : ∃ fd, fd = fidx (isIdx index) (js.take nw) := ⟨_, rfl⟩
  rw [← hD] at hfd hpos
  refine FnS.intro1 Try.func30 rfl Try.ntmps30 (by simp) Try.results30 ?_
  repeat' (first
    | refine CS.seq ?_
    | refine thenQ.normal ?_
    | refine CS.cond_true rfl ?_
    | refine CS.cond_false rfl ?_
    | refine CS.skip ?_
    | (refine CS.region (id := 0) ?_;
        refine RS.pv (PV.all tab_ok rfl) rfl ?_;
        refine RS.nil ?_)
    | (refine CS.region (id := 1) ?_;
        refine RS.pv (PV.all tab_ok rfl) rfl ?_;
        refine RS.pv (PV.all tab_ok rfl) rfl ?_;
        (refine RS.call hfd rfl (by kernel_rfl) rfl ?_; rintro v i2 L2 hi2 ⟨rfl, rfl, rfl⟩);
        (all_goals refine RS.pv (PV.all tab_ok rfl) rfl ?_);
        (all_goals refine RS.nil ?_))
    | (refine CS.region (id := 2) ?_;
        refine RS.pv (PV.all tab_ok rfl) rfl ?_;
        (first | refine RS.pv (PV.lssT rfl rfl (by omega)) rfl ?_ | refine RS.pv (PV.lssF rfl rfl (by omega)) rfl ?_ | refine RS.ifLss rfl rfl rfl (fun h => ?_) (fun h => ?_));
        (all_goals refine RS.nil ?_))
    | (refine CS.region (id := 3) ?_;
        refine RS.pv (PV.all tab_ok rfl) rfl ?_;
        refine RS.nil ?_)
    | (refine CS.region (id := 5) ?_;
        refine RS.pv (PV.all tab_ok rfl) rfl ?_;
        refine RS.nil ?_)
    | refine CS.ret ?_
    | refine thenQ.ret ?_
    | refine blkQ.ret ?_
    | refine retQ.ret ?_
    | refine CS.block ?_
    | refine CS.exit ?_
    | refine thenQ.exit ?_
    | refine blkQ.normal ?_
    | refine blkQ.here ?_
    | refine blkQ.past rfl ?_
    | refine retQ.normal ?_)
  · exact ⟨294, js, [], rfl, .none (by rw [← hD]; assumption), List.Perm.refl _⟩
  · obtain ⟨k, y, hk, hky, hy, _⟩ := hpos (by omega)
    have hknw : k < nw := by have := (List.getElem?_eq_some_iff.1 hky).1; simp at this; omega
    rw [List.getElem?_take, if_pos hknw] at hky
    subst hk
    have hput := poolC_put (js := js) (nw := nw) (k := k) (by omega) none
    repeat' (first
      | refine CS.seq ?_
      | refine thenQ.normal ?_
      | refine CS.cond_true rfl ?_
      | refine CS.cond_false rfl ?_
      | refine CS.skip ?_
      | (refine CS.region (id := 0) ?_;
          refine RS.pv (PV.all tab_ok rfl) rfl ?_;
          refine RS.nil ?_)
      | (refine CS.region (id := 1) ?_;
          refine RS.pv (PV.all tab_ok rfl) rfl ?_;
          refine RS.pv (PV.all tab_ok rfl) rfl ?_)
      | (refine CS.region (id := 2) ?_;
          refine RS.pv (PV.all tab_ok rfl) rfl ?_;
          (first | refine RS.pv (PV.lssT rfl rfl (by omega)) rfl ?_ | refine RS.pv (PV.lssF rfl rfl (by omega)) rfl ?_ | refine RS.ifLss rfl rfl rfl (fun h => ?_) (fun h => ?_));
          (all_goals refine RS.nil ?_))
      | (refine CS.region (id := 3) ?_;
          refine RS.pv (PV.all tab_ok rfl) rfl ?_;
          refine RS.nil ?_)
      | (refine CS.region (id := 4) ?_;
          refine RS.pv (PV.all tab_ok rfl) rfl ?_;
          refine RS.pv (PV.all tab_ok rfl) rfl ?_;
          refine RS.pv (PV.all tab_ok rfl) rfl ?_;
          refine RS.pv (PV.all tab_ok rfl) rfl ?_;
          (first | refine RS.pv (PV.indexAddr tab_ok rfl rfl rfl (by omega)) rfl ?_ | refine RS.pv (PV.indexAddrA tab_ok rfl rfl rfl (by omega)) rfl ?_);
          refine RS.store (k := 0) tab_ok rfl rfl rfl rfl rfl rfl hput rfl ?_;
          (all_goals refine RS.nil ?_))
      | (refine CS.region (id := 5) ?_;
          refine RS.pv (PV.all tab_ok rfl) rfl ?_;
          refine RS.nil ?_)
      | refine CS.ret ?_
      | refine thenQ.ret ?_
      | refine blkQ.ret ?_
      | refine retQ.ret ?_
      | refine CS.block ?_
      | refine CS.exit ?_
      | refine thenQ.exit ?_
      | refine blkQ.normal ?_
      | refine blkQ.here ?_
      | refine blkQ.past rfl ?_
      | refine retQ.normal ?_)
    cases y with
    | none => cases hy
    | some x =>
      refine ⟨0, js.set k none, [(x.b, jobO x)], rfl, .ok k hD.symm hknw, ?_⟩
      have hdel := jobsL_del hky
      exact (List.Perm.cons _ (hdel.append_right R)).trans (List.Perm.swap _ _ _)
end Go.Proofs.Ytmcajldlcomegaa
