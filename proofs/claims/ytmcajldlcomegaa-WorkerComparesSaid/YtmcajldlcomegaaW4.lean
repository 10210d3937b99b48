/- Contracts: finding a job in the pool. -/
import Derived.Test.YtmcajldlcomegaaW3
namespace Go.Proofs.Ytmcajldlcomegaa
open Go Go.Eng

def jobO (x : JobP) : Obj := .cells x.jc.toArray 41 (0, 0)
/-- the pool's blocks are owned -/
structure PoolIn (i : Imm) (L : SH) (p : Nat) (js : List (Option JobP)) (nw : Nat) : Prop where
  pool : (p, poolO js nw) ∈ L
  job : ∀ x : JobP, some x ∈ js → (x.b, jobO x) ∈ L ∧ JobV i x.jc x.jd
  len : js.length = 8
  nw : nw ≤ 8
def isIdx (index : Int) : Option JobP → Bool
  | some x => x.jd.index == index
  | none => false

theorem find1_s (o : Option JobP) (bi : Nat) (index : Int) (i : Imm) (L : SH) (hb : (bi, Obj.cells [Value.int .i64 index].toArray 3 (0, 0)) ∈ L) (ho : ∀ x, o = some x → (x.b, jobO x) ∈ L ∧ JobV i x.jc x.jd) :
    FnS Try.prog 84 [jptr o, .pointer (some ⟨bi, 0, none⟩)] i L fun v i' L' => v = .bool (isIdx index o) ∧ i' = i ∧ L' = L := by
  refine FnS.intro1 Try.func84 rfl Try.ntmps84 (by simp) Try.results84 ?_
  cases o with
  | none =>
    unfold jptr
    repeat' (first
      | refine CS.seq ?_
      | refine thenQ.normal ?_
      | refine CS.cond_true rfl ?_
      | refine CS.cond_false rfl ?_
      | refine CS.skip ?_
      | (refine CS.region (id := 0) ?_;
          refine RS.pv (PV.all tab_ok rfl) rfl ?_;
          refine RS.nil ?_)
      | (refine CS.drawQ (id := 1) mix (by kernel_rfl) ?_;
          refine QS.pv (PV.all tab_ok rfl) rfl ?_;
          (first | refine QS.pv (PV.all tab_ok rfl) rfl ?_ | refine QS.pv (PV.neqT rfl rfl (by omega)) rfl ?_ | refine QS.pv (PV.neqF rfl rfl (by omega)) rfl ?_ | refine QS.ifNeq rfl rfl rfl (fun h => ?_) (fun h => ?_) | refine QS.ifSneq rfl rfl rfl (fun h => ?_) (fun h => ?_));
          (all_goals refine QS.pv (PV.all tab_ok rfl) rfl ?_);
          (all_goals (first | refine QS.pv (PV.all tab_ok rfl) rfl ?_ | refine QS.skip rfl ?_));
          (all_goals (first | refine QS.pv (PV.all tab_ok rfl) rfl ?_ | refine QS.skip rfl ?_));
          (all_goals (first | refine QS.pv (PV.all tab_ok rfl) rfl ?_ | refine QS.skip rfl ?_));
          (all_goals (first | refine QS.lv (LV.load tab_ok rfl (Has.own 0 rfl) rfl) rfl ?_ | refine QS.lv (LV.load tab_ok rfl (Has.own 1 rfl) rfl) rfl ?_ | refine QS.lv (LV.load tab_ok rfl (Has.own 2 rfl) rfl) rfl ?_ | refine QS.skip rfl ?_));
          (all_goals (first | refine QS.lv (LV.load tab_ok rfl (Has.own 0 rfl) rfl) rfl ?_ | refine QS.lv (LV.load tab_ok rfl (Has.own 1 rfl) rfl) rfl ?_ | refine QS.lv (LV.load tab_ok rfl (Has.own 2 rfl) rfl) rfl ?_ | refine QS.skip rfl ?_));
          (all_goals (first | refine QS.pv (PV.all tab_ok rfl) rfl ?_ | refine QS.pv (PV.eqlT rfl rfl (by omega)) rfl ?_ | refine QS.pv (PV.eqlF rfl rfl (by omega)) rfl ?_ | refine QS.ifEql rfl rfl rfl (fun h => ?_) (fun h => ?_) | refine QS.ifSeql rfl rfl rfl (fun h => ?_) (fun h => ?_) | refine QS.skip rfl ?_));
          (all_goals refine QS.pv (PV.all tab_ok rfl) rfl ?_);
          (all_goals refine QS.pv (PV.all tab_ok rfl) rfl ?_);
          (all_goals refine QS.nil ?_))
      | refine CS.ret ?_
      | refine thenQ.ret ?_
      | refine blkQ.ret ?_
      | refine retQ.ret ?_
      | refine CS.block ?_
      | refine CS.exit ?_
      | refine thenQ.exit ?_
      | refine blkQ.normal ?_
      | refine blkQ.here ?_
      | refine blkQ.past rfl ?_
      | refine retQ.normal ?_)
    exact ⟨rfl, rfl, rfl⟩
  | some x =>
    obtain ⟨h1, rc, h2, h3⟩ := ho x rfl
    unfold jobO at h1
    rw [h2] at h1
    unfold jptr
    repeat' (first
      | refine CS.seq ?_
      | refine thenQ.normal ?_
      | refine CS.cond_true rfl ?_
      | refine CS.cond_false rfl ?_
      | refine CS.skip ?_
      | (refine CS.region (id := 0) ?_;
          refine RS.pv (PV.all tab_ok rfl) rfl ?_;
          refine RS.nil ?_)
      | (refine CS.drawQ (id := 1) mix (by kernel_rfl) ?_;
          refine QS.pv (PV.all tab_ok rfl) rfl ?_;
          (first | refine QS.pv (PV.all tab_ok rfl) rfl ?_ | refine QS.pv (PV.neqT rfl rfl (by omega)) rfl ?_ | refine QS.pv (PV.neqF rfl rfl (by omega)) rfl ?_ | refine QS.ifNeq rfl rfl rfl (fun h => ?_) (fun h => ?_) | refine QS.ifSneq rfl rfl rfl (fun h => ?_) (fun h => ?_));
          (all_goals refine QS.pv (PV.all tab_ok rfl) rfl ?_);
          (all_goals (first | refine QS.pv (PV.all tab_ok rfl) rfl ?_ | refine QS.skip rfl ?_));
          (all_goals (first | refine QS.pv (PV.all tab_ok rfl) rfl ?_ | refine QS.skip rfl ?_));
          (all_goals (first | refine QS.pv (PV.all tab_ok rfl) rfl ?_ | refine QS.skip rfl ?_));
          (all_goals (first | refine QS.lv (LV.load tab_ok rfl (Has.mem h1) rfl) rfl ?_ | refine QS.lv (LV.load tab_ok rfl (Has.mem hb) rfl) rfl ?_ | refine QS.skip rfl ?_));
          (all_goals (first | refine QS.lv (LV.load tab_ok rfl (Has.mem h1) rfl) rfl ?_ | refine QS.lv (LV.load tab_ok rfl (Has.mem hb) rfl) rfl ?_ | refine QS.skip rfl ?_));
          (all_goals (first | refine QS.pv (PV.all tab_ok rfl) rfl ?_ | refine QS.pv (PV.eqlT rfl rfl (by omega)) rfl ?_ | refine QS.pv (PV.eqlF rfl rfl (by omega)) rfl ?_ | refine QS.ifEql rfl rfl rfl (fun h => ?_) (fun h => ?_) | refine QS.ifSeql rfl rfl rfl (fun h => ?_) (fun h => ?_) | refine QS.skip rfl ?_));
          (all_goals refine QS.pv (PV.all tab_ok rfl) rfl ?_);
          (all_goals refine QS.pv (PV.all tab_ok rfl) rfl ?_);
          (all_goals refine QS.nil ?_))
      | refine CS.ret ?_
      | refine thenQ.ret ?_
      | refine blkQ.ret ?_
      | refine retQ.ret ?_
      | refine CS.block ?_
      | refine CS.exit ?_
      | refine thenQ.exit ?_
      | refine blkQ.normal ?_
      | refine blkQ.here ?_
      | refine blkQ.past rfl ?_
      | refine retQ.normal ?_)
    · exact ⟨congrArg Value.bool (by simp [isIdx, h]), rfl, rfl⟩
    · exact ⟨congrArg Value.bool (by simp [isIdx, h]), rfl, rfl⟩

theorem IndexFunc_s (p nw bi : Nat) (index : Int) (js : List (Option JobP)) (i : Imm) (L : SH) (hp : PoolIn i L p js nw) (hb : (bi, Obj.cells [Value.int .i64 index].toArray 3 (0, 0)) ∈ L) :
    FnS Try.prog 83 [.slice (some ⟨p, 0, none⟩) nw 8, .func (.func 84) #[] #[.pointer (some ⟨bi, 0, none⟩)]] i L fun v i' L' => v = .int .i64 (fidx (isIdx index) (js.take nw)) ∧ i' = i ∧ L' = L := by
  have hk := hp.pool
  have hl := hp.len
  have hn := hp.nw
  refine FnS.intro1 Try.func83 rfl Try.ntmps83 (by simp) Try.results83 ?_
  repeat' (first
    | refine CS.seq ?_
    | refine thenQ.normal ?_
    | refine CS.cond_true rfl ?_
    | refine CS.cond_false rfl ?_
    | refine CS.skip ?_
    | (refine CS.region (id := 0) ?_;
        refine RS.pv (PV.all tab_ok rfl) rfl ?_;
        refine RS.nil ?_)
    | (refine CS.region (id := 1) ?_;
        refine RS.pv (PV.all tab_ok rfl) rfl ?_;
        (first | refine RS.pv (PV.lenS tab_ok rfl rfl) rfl ?_ | refine RS.pv (PV.lenT tab_ok rfl rfl) rfl ?_);
        refine RS.pv (PV.all tab_ok rfl) rfl ?_;
        refine RS.nil ?_)
    | refine CS.ret ?_
    | refine thenQ.ret ?_
    | refine blkQ.ret ?_
    | refine retQ.ret ?_
    | refine CS.block ?_
    | refine CS.exit ?_
    | refine thenQ.exit ?_
    | refine blkQ.normal ?_
    | refine blkQ.here ?_
    | refine blkQ.past rfl ?_
    | refine retQ.normal ?_)
  refine CS.loop [0, 1, 7, 8] (fun m vs i' L' => ∃ k : Nat, m = nw - k ∧ k ≤ nw ∧ (∀ (j : Nat), j < k → ∀ y, js[j]? = some y → isIdx index y = false) ∧ vs = [.slice (some ⟨p, 0, none⟩) nw 8, .func (.func 84) #[] #[.pointer (some ⟨bi, 0, none⟩)], .int .i64 nw, .int .i64 k] ∧ i' = i ∧ L' = L) nw ⟨0, rfl, Nat.zero_le _, fun j hj => absurd hj (by omega), rfl, rfl, rfl⟩ ?_
  rintro m g vs i' L' hi ⟨k, rfl, hkn, hb', rfl, rfl, rfl⟩
  by_cases hlt : k < nw
  · obtain ⟨o, ho⟩ : ∃ o, js[k]? = some o := ⟨_, List.getElem?_eq_getElem (by omega)⟩
    have hc := poolC_at (nw := nw) ho
    have hcall := find1_s o bi index i' L' hb (fun x hx => hp.job x (hx ▸ List.mem_of_getElem? ho))
    cases hx : isIdx index o with
    | true =>
      rw [hx] at hcall
      repeat' (first
        | refine CS.seq ?_
        | refine thenQ.normal ?_
        | refine CS.cond_true rfl ?_
        | refine CS.cond_false rfl ?_
        | refine CS.skip ?_
        | (refine CS.region (id := 0) ?_;
            refine RS.pv (PV.all tab_ok rfl) rfl ?_;
            refine RS.nil ?_)
        | (refine CS.region (id := 1) ?_;
            refine RS.pv (PV.all tab_ok rfl) rfl ?_;
            (first | refine RS.pv (PV.lenS tab_ok rfl rfl) rfl ?_ | refine RS.pv (PV.lenT tab_ok rfl rfl) rfl ?_);
            refine RS.pv (PV.all tab_ok rfl) rfl ?_;
            refine RS.nil ?_)
        | (refine CS.region (id := 2) ?_;
            (first | refine RS.pv (PV.lssT rfl rfl (by omega)) rfl ?_ | refine RS.pv (PV.lssF rfl rfl (by omega)) rfl ?_ | refine RS.ifLss rfl rfl rfl (fun h => ?_) (fun h => ?_));
            (all_goals refine RS.nil ?_))
        | (refine CS.region (id := 3) ?_;
            refine RS.pv (PV.all tab_ok rfl) rfl ?_;
            refine RS.pv (PV.all tab_ok rfl) rfl ?_;
            refine RS.nil ?_)
        | (refine CS.region (id := 4) ?_;
            refine RS.pv (PV.all tab_ok rfl) rfl ?_;
            refine RS.pv (PV.all tab_ok rfl) rfl ?_;
            refine RS.pv (PV.all tab_ok rfl) rfl ?_;
            (first | refine RS.pv (PV.indexAddr tab_ok rfl rfl rfl (by omega)) rfl ?_ | refine RS.pv (PV.indexAddrA tab_ok rfl rfl rfl (by omega)) rfl ?_);
            refine RS.lv (LV.load1 tab_ok rfl (Has.mem hk) rfl hc) rfl ?_;
            (all_goals (refine RS.callV hcall rfl rfl (by kernel_rfl) rfl ?_; rintro v i2 L2 hi2 ⟨rfl, rfl, rfl⟩));
            (all_goals refine RS.nil ?_))
        | (refine CS.region (id := 5) ?_;
            refine RS.pv (PV.all tab_ok rfl) rfl ?_;
            refine RS.pv (PV.all tab_ok rfl) rfl ?_;
            refine RS.nil ?_)
        | (refine CS.region (id := 6) ?_;
            refine RS.pv (PV.add rfl rfl (by omega)) rfl ?_;
            refine RS.pv (PV.all tab_ok rfl) rfl ?_;
            refine RS.nil ?_)
        | (refine CS.region (id := 7) ?_;
            refine RS.pv (PV.all tab_ok rfl) rfl ?_;
            refine RS.nil ?_)
        | refine CS.ret ?_
        | refine thenQ.ret ?_
        | refine blkQ.ret ?_
        | refine retQ.ret ?_
        | refine CS.block ?_
        | refine CS.exit ?_
        | refine thenQ.exit ?_
        | refine blkQ.normal ?_
        | refine blkQ.here ?_
        | refine blkQ.past rfl ?_
        | refine retQ.normal ?_)
      exact ⟨congrArg (Value.int .i64) (fidx_at (by rw [List.getElem?_take, if_pos hlt]; exact ho) hx (fun j y hj hy => hb' j hj y (by rw [List.getElem?_take, if_pos (by omega)] at hy; exact hy))).symm, rfl, rfl⟩
    | false =>
      rw [hx] at hcall
      repeat' (first
        | refine CS.seq ?_
        | refine thenQ.normal ?_
        | refine CS.cond_true rfl ?_
        | refine CS.cond_false rfl ?_
        | refine CS.skip ?_
        | (refine CS.region (id := 0) ?_;
            refine RS.pv (PV.all tab_ok rfl) rfl ?_;
            refine RS.nil ?_)
        | (refine CS.region (id := 1) ?_;
            refine RS.pv (PV.all tab_ok rfl) rfl ?_;
            (first | refine RS.pv (PV.lenS tab_ok rfl rfl) rfl ?_ | refine RS.pv (PV.lenT tab_ok rfl rfl) rfl ?_);
            refine RS.pv (PV.all tab_ok rfl) rfl ?_;
            refine RS.nil ?_)
        | (refine CS.region (id := 2) ?_;
            (first | refine RS.pv (PV.lssT rfl rfl (by omega)) rfl ?_ | refine RS.pv (PV.lssF rfl rfl (by omega)) rfl ?_ | refine RS.ifLss rfl rfl rfl (fun h => ?_) (fun h => ?_));
            (all_goals refine RS.nil ?_))
        | (refine CS.region (id := 3) ?_;
            refine RS.pv (PV.all tab_ok rfl) rfl ?_;
            refine RS.pv (PV.all tab_ok rfl) rfl ?_;
            refine RS.nil ?_)
        | (refine CS.region (id := 4) ?_;
            refine RS.pv (PV.all tab_ok rfl) rfl ?_;
            refine RS.pv (PV.all tab_ok rfl) rfl ?_;
            refine RS.pv (PV.all tab_ok rfl) rfl ?_;
            (first | refine RS.pv (PV.indexAddr tab_ok rfl rfl rfl (by omega)) rfl ?_ | refine RS.pv (PV.indexAddrA tab_ok rfl rfl rfl (by omega)) rfl ?_);
            refine RS.lv (LV.load1 tab_ok rfl (Has.mem hk) rfl hc) rfl ?_;
            (all_goals (refine RS.callV hcall rfl rfl (by kernel_rfl) rfl ?_; rintro v i2 L2 hi2 ⟨rfl, rfl, rfl⟩));
            (all_goals refine RS.nil ?_))
        | (refine CS.region (id := 5) ?_;
            refine RS.pv (PV.all tab_ok rfl) rfl ?_;
            refine RS.pv (PV.all tab_ok rfl) rfl ?_;
            refine RS.nil ?_)
        | (refine CS.region (id := 6) ?_;
            refine RS.pv (PV.add rfl rfl (by omega)) rfl ?_;
            refine RS.pv (PV.all tab_ok rfl) rfl ?_;
            refine RS.nil ?_)
        | (refine CS.region (id := 7) ?_;
            refine RS.pv (PV.all tab_ok rfl) rfl ?_;
            refine RS.nil ?_)
        | refine CS.ret ?_
        | refine thenQ.ret ?_
        | refine blkQ.ret ?_
        | refine retQ.ret ?_
        | refine CS.block ?_
        | refine CS.exit ?_
        | refine thenQ.exit ?_
        | refine blkQ.normal ?_
        | refine blkQ.here ?_
        | refine blkQ.past rfl ?_
        | refine retQ.normal ?_)
      exact ⟨nw - (k + 1), by omega, k + 1, rfl, hlt, fun j hj y hy => by
        rcases Nat.lt_succ_iff_lt_or_eq.1 hj with h | rfl
        · exact hb' j h y hy
        · rw [ho] at hy; cases hy; exact hx, rfl, rfl, rfl⟩
  · have : k = nw := by omega
    subst this
    repeat' (first
      | refine CS.seq ?_
      | refine thenQ.normal ?_
      | refine CS.cond_true rfl ?_
      | refine CS.cond_false rfl ?_
      | refine CS.skip ?_
      | (refine CS.region (id := 0) ?_;
          refine RS.pv (PV.all tab_ok rfl) rfl ?_;
          refine RS.nil ?_)
      | (refine CS.region (id := 1) ?_;
          refine RS.pv (PV.all tab_ok rfl) rfl ?_;
          (first | refine RS.pv (PV.lenS tab_ok rfl rfl) rfl ?_ | refine RS.pv (PV.lenT tab_ok rfl rfl) rfl ?_);
          refine RS.pv (PV.all tab_ok rfl) rfl ?_;
          refine RS.nil ?_)
      | (refine CS.region (id := 2) ?_;
          (first | refine RS.pv (PV.lssT rfl rfl (by omega)) rfl ?_ | refine RS.pv (PV.lssF rfl rfl (by omega)) rfl ?_ | refine RS.ifLss rfl rfl rfl (fun h => ?_) (fun h => ?_));
          (all_goals refine RS.nil ?_))
      | (refine CS.region (id := 3) ?_;
          refine RS.pv (PV.all tab_ok rfl) rfl ?_;
          refine RS.pv (PV.all tab_ok rfl) rfl ?_;
          refine RS.nil ?_)
      | (refine CS.region (id := 4) ?_;
          refine RS.pv (PV.all tab_ok rfl) rfl ?_;
          refine RS.pv (PV.all tab_ok rfl) rfl ?_;
          refine RS.pv (PV.all tab_ok rfl) rfl ?_;
          (first | refine RS.pv (PV.indexAddr tab_ok rfl rfl rfl (by omega)) rfl ?_ | refine RS.pv (PV.indexAddrA tab_ok rfl rfl rfl (by omega)) rfl ?_);
          (first | refine RS.lv (LV.load tab_ok rfl (Has.own 0 rfl) rfl) rfl ?_ | refine RS.lv (LV.load tab_ok rfl (Has.own 1 rfl) rfl) rfl ?_ | refine RS.lv (LV.load tab_ok rfl (Has.own 2 rfl) rfl) rfl ?_))
      | (refine CS.region (id := 5) ?_;
          refine RS.pv (PV.all tab_ok rfl) rfl ?_;
          refine RS.pv (PV.all tab_ok rfl) rfl ?_;
          refine RS.nil ?_)
      | (refine CS.region (id := 6) ?_;
          refine RS.pv (PV.add rfl rfl (by omega)) rfl ?_;
          refine RS.pv (PV.all tab_ok rfl) rfl ?_;
          refine RS.nil ?_)
      | (refine CS.region (id := 7) ?_;
          refine RS.pv (PV.all tab_ok rfl) rfl ?_;
          refine RS.nil ?_)
      | refine CS.ret ?_
      | refine thenQ.ret ?_
      | refine blkQ.ret ?_
      | refine retQ.ret ?_
      | refine CS.block ?_
      | refine CS.exit ?_
      | refine thenQ.exit ?_
      | refine blkQ.normal ?_
      | refine blkQ.here ?_
      | refine blkQ.past rfl ?_
      | refine retQ.normal ?_)
    exact ⟨congrArg (Value.int .i64) (fidx_none (fun j y hy => by
      have hj : j < k := by have := (List.getElem?_eq_some_iff.1 hy).1; simp at this; omega
      exact hb' j hj y (by rw [List.getElem?_take, if_pos hj] at hy; exact hy))).symm, rfl, rfl⟩

theorem poolC_nw {js : List (Option JobP)} {nw : Nat} (h : js.length = 8) : (poolC js nw)[0 + 8]? = some (.int .i64 nw) := by
  unfold poolC
  rw [Nat.zero_add, List.getElem?_append_right (by simp [h])]
  simp [h]

theorem find_s (p nw : Nat) (index : Int) (js : List (Option JobP)) (i : Imm) (L : SH) (hp : PoolIn i L p js nw) :
    FnS Try.prog 44 [.pointer (some ⟨p, 0, none⟩), .int .i64 index] i L fun v i' L' => v = .int .i64 (fidx (isIdx index) (js.take nw)) ∧ i' = i ∧ L' = L := by
  refine FnS.state (K := fun v i' L' => ∃ e, v = .int .i64 (fidx (isIdx index) (js.take nw)) ∧ i' = i ∧ L' = e :: L) ?_ ?_
  rotate_left
  · rintro v i' L' w _ hs ⟨e, hv, rfl, rfl⟩
    exact ⟨i', L, Imm.le.refl i', hs.drop, hv, rfl, rfl⟩
  have hc := poolC_nw (nw := nw) hp.len
  have hn := hp.nw
  refine FnS.intro1 Try.func44 rfl Try.ntmps44 (by simp) Try.results44 ?_
  refine CS.seq ?_
  refine CS.region ?_
  refine RS.box rfl rfl (fun bi => ?_)
  refine RS.pv (PV.all tab_ok rfl) rfl ?_
  refine RS.nil ?_
  have hp' : PoolIn i ((bi, .cells [.int .i64 index].toArray 3 (0, 0)) :: L) p js nw := ⟨List.mem_cons_of_mem _ hp.pool, fun x hx => ⟨List.mem_cons_of_mem _ (hp.job x hx).1, (hp.job x hx).2⟩, hp.len, hp.nw⟩
  repeat' (first
    | refine CS.seq ?_
    | refine thenQ.normal ?_
    | refine CS.cond_true rfl ?_
    | refine CS.cond_false rfl ?_
    | refine CS.skip ?_
    | (refine CS.drawQ (id := 1) mix (by kernel_rfl) ?_;
        refine QS.pv (PV.all tab_ok rfl) rfl ?_;
        refine QS.pv (PV.all tab_ok rfl) rfl ?_;
        refine QS.pv (PV.all tab_ok rfl) rfl ?_;
        refine QS.pv (PV.all tab_ok rfl) rfl ?_;
        refine QS.pv (PV.all tab_ok rfl) rfl ?_;
        refine QS.pv (PV.all tab_ok rfl) rfl ?_;
        refine QS.lv (LV.load1 tab_ok rfl (Has.mem hp'.pool) rfl hc) rfl ?_;
        (all_goals refine QS.pv (PV.sliceArr tab_ok rfl rfl rfl (by omega)) rfl ?_);
        (all_goals refine QS.pv (PV.makeFunc) rfl ?_);
        (all_goals refine QS.call ((IndexFunc_s p nw bi index js _ _ hp' (List.mem_cons_self ..)).mono (fun _ _ _ _ h => ⟨h.1, h.2.2⟩)) rfl (by kernel_rfl) rfl ?_);
        (all_goals refine QS.pv (PV.all tab_ok rfl) rfl ?_);
        (all_goals refine QS.nil ?_))
    | refine CS.ret ?_
    | refine thenQ.ret ?_
    | refine blkQ.ret ?_
    | refine retQ.ret ?_
    | refine CS.block ?_
    | refine CS.exit ?_
    | refine thenQ.exit ?_
    | refine blkQ.normal ?_
    | refine blkQ.here ?_
    | refine blkQ.past rfl ?_
    | refine retQ.normal ?_)
  exact ⟨_, rfl, rfl, rfl⟩
end Go.Proofs.Ytmcajldlcomegaa
