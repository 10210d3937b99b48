/- Contracts: a new pool, giving a job. -/
import Derived.Test.YtmcajldlcomegaaW4
namespace Go.Proofs.Ytmcajldlcomegaa
open Go Go.Eng

def jobsL (js : List (Option JobP)) : SH := js.filterMap fun o => o.map fun x => (x.b, jobO x)
def poolL (p : Nat) (js : List (Option JobP)) (nw : Nat) : SH := (p, poolO js nw) :: jobsL js
theorem jobsL_mem {js : List (Option JobP)} {x : JobP} (h : some x ∈ js) : (x.b, jobO x) ∈ jobsL js := List.mem_filterMap.2 ⟨some x, h, rfl⟩
structure PoolSt (i : Imm) (js : List (Option JobP)) (nw : Nat) : Prop where
  len : js.length = 8
  nwpos : 1 ≤ nw
  nwle : nw ≤ 8
  idle : ∀ k : Nat, nw ≤ k → k < 8 → js[k]? = some none
  job : ∀ x : JobP, some x ∈ js → JobV i x.jc x.jd ∧ x.jd.rcd.ok ∧ 1 ≤ x.jd.left ∧ x.jd.left ≤ 16000
theorem PoolSt.le {i i' : Imm} {js : List (Option JobP)} {nw : Nat} (h : PoolSt i js nw) (hi : i.le i') : PoolSt i' js nw :=
  ⟨h.len, h.nwpos, h.nwle, h.idle, fun x hx => ⟨(h.job x hx).1.le hi, (h.job x hx).2⟩⟩
theorem PoolSt.pin {i : Imm} {js : List (Option JobP)} {nw p : Nat} {L : SH} (h : PoolSt i js nw) (hL : ∀ e ∈ poolL p js nw, e ∈ L) : PoolIn i L p js nw :=
  ⟨hL _ (List.mem_cons_self ..), fun x hx => ⟨hL _ (List.mem_cons_of_mem _ (jobsL_mem hx)), (h.job x hx).1⟩, h.len, h.nwle⟩

theorem jobsL_split : ∀ (js : List (Option JobP)) (k : Nat) (o : Option JobP), js[k]? = some o → ∃ A B, jobsL js = A ++ (o.map fun x => (x.b, jobO x)).toList ++ B ∧ ∀ o', jobsL (js.set k o') = A ++ (o'.map fun x => (x.b, jobO x)).toList ++ B
  | [], k, o, h => by cases h
  | a :: l, 0, o, h => by
    cases h
    refine ⟨[], jobsL l, ?_, fun o' => ?_⟩
    · cases a <;> simp [jobsL]
    · cases o' <;> simp [jobsL]
  | a :: l, k + 1, o, h => by
    obtain ⟨A, B, h1, h2⟩ := jobsL_split l k o (by simpa using h)
    refine ⟨(a.map fun x => (x.b, jobO x)).toList ++ A, B, ?_, fun o' => ?_⟩
    · have : jobsL (a :: l) = (a.map fun x => (x.b, jobO x)).toList ++ jobsL l := by cases a <;> simp [jobsL]
      rw [this, h1]; simp
    · have : jobsL ((a :: l).set (k + 1) o') = (a.map fun x => (x.b, jobO x)).toList ++ jobsL (l.set k o') := by cases a <;> simp [jobsL]
      rw [this, h2]; simp
theorem jobsL_add {js : List (Option JobP)} {k : Nat} (x : JobP) (h : js[k]? = some none) : (jobsL (js.set k (some x))).Perm ((x.b, jobO x) :: jobsL js) := by
  obtain ⟨A, B, h1, h2⟩ := jobsL_split js k none h
  rw [h1, h2]
  simp [List.perm_middle]
theorem jobsL_del {js : List (Option JobP)} {k : Nat} {x : JobP} (h : js[k]? = some (some x)) : (jobsL js).Perm ((x.b, jobO x) :: jobsL (js.set k none)) := by
  obtain ⟨A, B, h1, h2⟩ := jobsL_split js k (some x) h
  rw [h1, h2]
  simp [List.perm_middle]
theorem poolC_put {js : List (Option JobP)} {nw k : Nat} (hk : k < js.length) (o : Option JobP) : putAt (poolC js nw) (0 + ((k : Nat) : Int).toNat * 1) [jptr o] = some (poolC (js.set k o) nw) := by
  have hlt : k < (poolC js nw).length := by simp [poolC]; omega
  rw [Nat.zero_add, Int.toNat_natCast, Nat.mul_one]
  simp only [putAt, setX_some _ k (jptr o) _ (List.getElem?_eq_getElem hlt), Option.some.injEq]
  unfold poolC
  rw [List.set_append_left _ _ (by simpa using hk), List.map_set]
theorem fidx_pos {α : Type} {p : α → Bool} {l : List α} (h : 0 ≤ fidx p l) : ∃ (k : Nat) (x : α), fidx p l = k ∧ l[k]? = some x ∧ p x = true ∧ ∀ (j : Nat) (y : α), j < k → l[j]? = some y → p y = false := by
  unfold fidx at h ⊢
  cases hf : l.findIdx? p with
  | none => rw [hf] at h; simp at h
  | some k =>
    rw [List.findIdx?_eq_some_iff_getElem] at hf
    obtain ⟨h1, h2, h3⟩ := hf
    refine ⟨k, l[k], rfl, List.getElem?_eq_getElem h1, h2, fun j y hj hy => ?_⟩
    obtain ⟨h4, h5⟩ := List.getElem?_eq_some_iff.1 hy
    have := h3 j hj
    rw [h5] at this; simpa using this

theorem New_bad (n : Int) (i : Imm) (L : SH) (h : n < 1 ∨ 8 < n) : FnS Try.prog 14 [.int .i64 n] i L fun v i' L' => v = .tuple #[.pointer none, .int .i64 290] ∧ i' = i ∧ L' = L := by
  refine FnS.intro2 Try.func14 rfl Try.ntmps14 (by simp) Try.results14 ?_
  rcases h with h | h
  · repeat' (first
      | refine CS.seq ?_
      | refine thenQ.normal ?_
      | refine CS.cond_true rfl ?_
      | refine CS.cond_false rfl ?_
      | refine CS.skip ?_
      | (refine CS.region (id := 0) ?_;
          refine RS.pv (PV.all tab_ok rfl) rfl ?_;
          refine RS.pv (PV.all tab_ok rfl) rfl ?_;
          refine RS.nil ?_)
      | (refine CS.region (id := 1) ?_;
          refine RS.pv (PV.all tab_ok rfl) rfl ?_;
          (first | refine RS.pv (PV.lssT rfl rfl (by omega)) rfl ?_ | refine RS.pv (PV.lssF rfl rfl (by omega)) rfl ?_ | refine RS.ifLss rfl rfl rfl (fun h => ?_) (fun h => ?_));
          (all_goals refine RS.pv (PV.all tab_ok rfl) rfl ?_);
          (all_goals (first | refine RS.pv (PV.all tab_ok rfl) rfl ?_ | refine RS.skip rfl ?_));
          (all_goals (first | refine RS.pv (PV.gtrT rfl rfl (by omega)) rfl ?_ | refine RS.pv (PV.gtrF rfl rfl (by omega)) rfl ?_ | refine RS.ifGtr rfl rfl rfl (fun h => ?_) (fun h => ?_) | refine RS.skip rfl ?_));
          (all_goals refine RS.pv (PV.all tab_ok rfl) rfl ?_);
          (all_goals refine RS.nil ?_))
      | (refine CS.region (id := 2) ?_;
          refine RS.pv (PV.all tab_ok rfl) rfl ?_;
          refine RS.pv (PV.all tab_ok rfl) rfl ?_;
          refine RS.nil ?_)
      | (refine CS.region (id := 3) ?_;
          refine RS.pv (PV.all tab_ok rfl) rfl ?_;
          refine RS.pv (PV.all tab_ok rfl) rfl ?_;
          refine RS.box rfl rfl (fun b => ?_);
          refine RS.pv (PV.all tab_ok rfl) rfl ?_;
          refine RS.pv (PV.all tab_ok rfl) rfl ?_;
          refine RS.nil ?_)
      | refine CS.ret ?_
      | refine thenQ.ret ?_
      | refine blkQ.ret ?_
      | refine retQ.ret ?_
      | refine CS.block ?_
      | refine CS.exit ?_
      | refine thenQ.exit ?_
      | refine blkQ.normal ?_
      | refine blkQ.here ?_
      | refine blkQ.past rfl ?_
      | refine retQ.normal ?_)
    exact ⟨rfl, rfl, rfl⟩
  · repeat' (first
      | refine CS.seq ?_
      | refine thenQ.normal ?_
      | refine CS.cond_true rfl ?_
      | refine CS.cond_false rfl ?_
      | refine CS.skip ?_
      | (refine CS.region (id := 0) ?_;
          refine RS.pv (PV.all tab_ok rfl) rfl ?_;
          refine RS.pv (PV.all tab_ok rfl) rfl ?_;
          refine RS.nil ?_)
      | (refine CS.region (id := 1) ?_;
          refine RS.pv (PV.all tab_ok rfl) rfl ?_;
          (first | refine RS.pv (PV.lssT rfl rfl (by omega)) rfl ?_ | refine RS.pv (PV.lssF rfl rfl (by omega)) rfl ?_ | refine RS.ifLss rfl rfl rfl (fun h => ?_) (fun h => ?_));
          (all_goals refine RS.pv (PV.all tab_ok rfl) rfl ?_);
          (all_goals (first | refine RS.pv (PV.all tab_ok rfl) rfl ?_ | refine RS.skip rfl ?_));
          (all_goals (first | refine RS.pv (PV.gtrT rfl rfl (by omega)) rfl ?_ | refine RS.pv (PV.gtrF rfl rfl (by omega)) rfl ?_ | refine RS.ifGtr rfl rfl rfl (fun h => ?_) (fun h => ?_) | refine RS.skip rfl ?_));
          (all_goals refine RS.pv (PV.all tab_ok rfl) rfl ?_);
          (all_goals refine RS.nil ?_))
      | (refine CS.region (id := 2) ?_;
          refine RS.pv (PV.all tab_ok rfl) rfl ?_;
          refine RS.pv (PV.all tab_ok rfl) rfl ?_;
          refine RS.nil ?_)
      | (refine CS.region (id := 3) ?_;
          refine RS.pv (PV.all tab_ok rfl) rfl ?_;
          refine RS.pv (PV.all tab_ok rfl) rfl ?_;
          refine RS.box rfl rfl (fun b => ?_);
          refine RS.pv (PV.all tab_ok rfl) rfl ?_;
          refine RS.pv (PV.all tab_ok rfl) rfl ?_;
          refine RS.nil ?_)
      | refine CS.ret ?_
      | refine thenQ.ret ?_
      | refine blkQ.ret ?_
      | refine retQ.ret ?_
      | refine CS.block ?_
      | refine CS.exit ?_
      | refine thenQ.exit ?_
      | refine blkQ.normal ?_
      | refine blkQ.here ?_
      | refine blkQ.past rfl ?_
      | refine retQ.normal ?_)
    exact ⟨rfl, rfl, rfl⟩
theorem New_s (nw : Nat) (i : Imm) (L : SH) (h1 : 1 ≤ nw) (h2 : nw ≤ 8) : FnS Try.prog 14 [.int .i64 nw] i L fun v i' L' => ∃ p, v = .tuple #[.pointer (some ⟨p, 0, none⟩), .int .i64 0] ∧ i' = i ∧ L' = poolL p (List.replicate 8 none) nw ++ L := by
  refine FnS.intro2 Try.func14 rfl Try.ntmps14 (by simp) Try.results14 ?_
  repeat' (first
    | refine CS.seq ?_
    | refine thenQ.normal ?_
    | refine CS.cond_true rfl ?_
    | refine CS.cond_false rfl ?_
    | refine CS.skip ?_
    | (refine CS.region (id := 0) ?_;
        refine RS.pv (PV.all tab_ok rfl) rfl ?_;
        refine RS.pv (PV.all tab_ok rfl) rfl ?_;
        refine RS.nil ?_)
    | (refine CS.region (id := 1) ?_;
        refine RS.pv (PV.all tab_ok rfl) rfl ?_;
        (first | refine RS.pv (PV.lssT rfl rfl (by omega)) rfl ?_ | refine RS.pv (PV.lssF rfl rfl (by omega)) rfl ?_ | refine RS.ifLss rfl rfl rfl (fun h => ?_) (fun h => ?_));
        (all_goals refine RS.pv (PV.all tab_ok rfl) rfl ?_);
        (all_goals (first | refine RS.pv (PV.all tab_ok rfl) rfl ?_ | refine RS.skip rfl ?_));
        (all_goals (first | refine RS.pv (PV.gtrT rfl rfl (by omega)) rfl ?_ | refine RS.pv (PV.gtrF rfl rfl (by omega)) rfl ?_ | refine RS.ifGtr rfl rfl rfl (fun h => ?_) (fun h => ?_) | refine RS.skip rfl ?_));
        (all_goals refine RS.pv (PV.all tab_ok rfl) rfl ?_);
        (all_goals refine RS.nil ?_))
    | (refine CS.region (id := 2) ?_;
        refine RS.pv (PV.all tab_ok rfl) rfl ?_;
        refine RS.pv (PV.all tab_ok rfl) rfl ?_;
        refine RS.nil ?_)
    | (refine CS.region (id := 3) ?_;
        refine RS.pv (PV.all tab_ok rfl) rfl ?_;
        refine RS.pv (PV.all tab_ok rfl) rfl ?_;
        refine RS.box rfl rfl (fun b => ?_);
        refine RS.pv (PV.all tab_ok rfl) rfl ?_;
        refine RS.pv (PV.all tab_ok rfl) rfl ?_;
        refine RS.nil ?_)
    | refine CS.ret ?_
    | refine thenQ.ret ?_
    | refine blkQ.ret ?_
    | refine retQ.ret ?_
    | refine CS.block ?_
    | refine CS.exit ?_
    | refine thenQ.exit ?_
    | refine blkQ.normal ?_
    | refine blkQ.here ?_
    | refine blkQ.past rfl ?_
    | refine retQ.normal ?_)
  exact ⟨_, rfl, rfl, rfl⟩
theorem PoolSt.new (i : Imm) (nw : Nat) (h1 : 1 ≤ nw) (h2 : nw ≤ 8) : PoolSt i (List.replicate 8 none) nw :=
  ⟨rfl, h1, h2, fun k _ hk => by rw [List.getElem?_replicate, if_pos hk], fun x hx => by simp at hx⟩

/-- what Give comes to -/
inductive GiveTo (js : List (Option JobP)) (nw : Nat) (index ticks : Int) (r : Rec) (i' : Imm) : Int → List (Option JobP) → Prop where
  | low : index < 1 → GiveTo js nw index ticks r i' 291 js
  | taken : 1 ≤ index → 0 ≤ fidx (isIdx index) (js.take nw) → GiveTo js nw index ticks r i' 292 js
  | full : 1 ≤ index → fidx (isIdx index) (js.take nw) < 0 → fidx Option.isNone (js.take nw) < 0 → GiveTo js nw index ticks r i' 293 js
  | ok (k : Nat) (x : JobP) : 1 ≤ index → fidx (isIdx index) (js.take nw) < 0 → fidx Option.isNone (js.take nw) = k → js[k]? = some none → k < nw → x.jd = ⟨index, min (max ticks 1) 16000, r⟩ → JobV i' x.jc x.jd → GiveTo js nw index ticks r i' 0 (js.set k (some x))

theorem Give_s (p nw : Nat) (js : List (Option JobP)) (index ticks : Int) (rc : List Value) (r : Rec) (i : Imm) (R : SH) (hp : PoolSt i js nw) (hr : RecV i rc r) (hok : r.ok) :
    FnS Try.prog 16 [.pointer (some ⟨p, 0, none⟩), .int .i64 index, .agg rc.toArray, .int .i64 ticks] i (poolL p js nw ++ R) fun v i' L' => ∃ e js', v = .int .i64 e ∧ GiveTo js nw index ticks r i' e js' ∧ L' = poolL p js' nw ++ R := by
  refine FnS.state (K := fun v i' L' => ∃ e js' M, v = .int .i64 e ∧ GiveTo js nw index ticks r i' e js' ∧ L'.Perm (M ++ (poolL p js' nw ++ R))) ?_ ?_
  rotate_left
  · rintro v i' L' w _ hs ⟨e, js', M, hv, hg, hL⟩
    exact ⟨i', _, Imm.le.refl i', (hs.perm hL).dropL, e, js', hv, hg, rfl⟩
  obtain ⟨a2, c2, a3, c3, a4, c4, a5, c5, a6, c6, rfl⟩ := hr.lit
  have hlen := hp.len
  have hnw := hp.nwle
  have hc := poolC_nw (nw := nw) hp.len
  refine FnS.intro1 Try.func16 rfl Try.ntmps16 (by simp) Try.results16 ?_
  refine CS.seq ?_
  refine CS.region ?_
  refine RS.box rfl rfl (fun b6 => ?_)
  refine RS.pv (PV.all tab_ok rfl) rfl ?_
  refine RS.nil ?_
  have hin : ∀ o, PoolIn i ((b6, o) :: (poolL p js nw ++ R)) p js nw := fun o => hp.pin fun e he => List.mem_cons_of_mem _ (List.mem_append_left _ he)
  have hix := fun o => Index_s p nw js i _ (hin o).pool hlen hnw
  have hfd := fun o => find_s p nw index js i _ (hin o)
  have hfree := fun h => fidx_pos (p := Option.isNone) (l := js.take nw) h
  have eF : ∃ free, free = fidx Option.isNone (js.take nw) := ⟨_, rfl⟩
  have eD : ∃ fd, fd = fidx (isIdx index) (js.take nw) := ⟨_, rfl⟩
  obtain ⟨free, hF⟩ := eF
  obtain ⟨fd, hD⟩ := eD
  rw [← hF] at hix hfree
  rw [← hD] at hfd
  repeat' (first
    | refine CS.seq ?_
    | refine thenQ.normal ?_
    | refine CS.cond_true rfl ?_
    | refine CS.cond_false rfl ?_
    | refine CS.skip ?_
    | (refine CS.drawQ (id := 1) mix (by kernel_rfl) ?_;
        refine QS.pv (PV.all tab_ok rfl) rfl ?_;
        refine QS.pv (PV.all tab_ok rfl) rfl ?_;
        refine QS.pv (PV.all tab_ok rfl) rfl ?_;
        refine QS.pv (PV.all tab_ok rfl) rfl ?_;
        refine QS.pv (PV.all tab_ok rfl) rfl ?_;
        refine QS.pv (PV.all tab_ok rfl) rfl ?_;
        refine QS.lv (LV.load1 tab_ok rfl (Has.mem (hin _).pool) rfl hc) rfl ?_;
        (all_goals refine QS.pv (PV.sliceArr tab_ok rfl rfl rfl (by omega)) rfl ?_);
        (all_goals refine QS.call ((hix _).mono (fun _ _ _ _ h => ⟨h.1, h.2.2⟩)) rfl (by kernel_rfl) rfl ?_);
        (all_goals refine QS.pv (PV.all tab_ok rfl) rfl ?_);
        (all_goals refine QS.nil ?_))
    | (refine CS.region (id := 2) ?_;
        refine RS.pv (PV.all tab_ok rfl) rfl ?_;
        (first | refine RS.pv (PV.lssT rfl rfl (by omega)) rfl ?_ | refine RS.pv (PV.lssF rfl rfl (by omega)) rfl ?_ | refine RS.ifLss rfl rfl rfl (fun h => ?_) (fun h => ?_));
        (all_goals refine RS.pv (PV.all tab_ok rfl) rfl ?_);
        (all_goals refine RS.nil ?_))
    | (refine CS.region (id := 3) ?_;
        refine RS.pv (PV.all tab_ok rfl) rfl ?_;
        refine RS.nil ?_)
    | (refine CS.region (id := 4) ?_;
        refine RS.pv (PV.all tab_ok rfl) rfl ?_;
        refine RS.pv (PV.all tab_ok rfl) rfl ?_;
        (refine RS.call (hfd _) rfl (by kernel_rfl) rfl ?_; rintro v i2 L2 hi2 ⟨rfl, rfl, rfl⟩);
        (all_goals (first | refine RS.pv (PV.geqT rfl rfl (by omega)) rfl ?_ | refine RS.pv (PV.geqF rfl rfl (by omega)) rfl ?_ | refine RS.ifGeq rfl rfl rfl (fun h => ?_) (fun h => ?_)));
        (all_goals refine RS.pv (PV.all tab_ok rfl) rfl ?_);
        (all_goals refine RS.nil ?_))
    | (refine CS.region (id := 5) ?_;
        refine RS.pv (PV.all tab_ok rfl) rfl ?_;
        refine RS.nil ?_)
    | (refine CS.region (id := 6) ?_;
        refine RS.pv (PV.all tab_ok rfl) rfl ?_;
        (first | refine RS.pv (PV.lssT rfl rfl (by omega)) rfl ?_ | refine RS.pv (PV.lssF rfl rfl (by omega)) rfl ?_ | refine RS.ifLss rfl rfl rfl (fun h => ?_) (fun h => ?_));
        (all_goals refine RS.pv (PV.all tab_ok rfl) rfl ?_);
        (all_goals refine RS.nil ?_))
    | (refine CS.region (id := 7) ?_;
        refine RS.pv (PV.all tab_ok rfl) rfl ?_;
        refine RS.nil ?_)
    | (refine CS.region (id := 9) ?_;
        refine RS.pv (PV.all tab_ok rfl) rfl ?_;
        refine RS.pv (PV.all tab_ok rfl) rfl ?_;
        refine RS.pv (PV.all tab_ok rfl) rfl ?_;
        refine RS.pv (PV.all tab_ok rfl) rfl ?_;
        (first | refine RS.pv (PV.indexAddr tab_ok rfl rfl rfl (by omega)) rfl ?_ | refine RS.pv (PV.indexAddrA tab_ok rfl rfl rfl (by omega)) rfl ?_);
        (first | refine RS.store (k := 0) tab_ok rfl rfl rfl rfl rfl rfl rfl rfl ?_ | refine RS.store (k := 1) tab_ok rfl rfl rfl rfl rfl rfl rfl rfl ?_ | refine RS.store (k := 2) tab_ok rfl rfl rfl rfl rfl rfl rfl rfl ?_);
        refine RS.nil ?_)
    | (refine CS.region (id := 10) ?_;
        refine RS.pv (PV.all tab_ok rfl) rfl ?_;
        refine RS.nil ?_)
    | refine CS.ret ?_
    | refine thenQ.ret ?_
    | refine blkQ.ret ?_
    | refine retQ.ret ?_
    | refine CS.block ?_
    | refine CS.exit ?_
    | refine thenQ.exit ?_
    | refine blkQ.normal ?_
    | refine blkQ.here ?_
    | refine blkQ.past rfl ?_
    | refine retQ.normal ?_)
  · exact ⟨291, js, [_], rfl, .low h, List.Perm.refl _⟩
  · exact ⟨292, js, [_], rfl, .taken (by omega) (by rw [← hD]; exact h), List.Perm.refl _⟩
  · exact ⟨293, js, [_], rfl, .full (by omega) (by rw [← hD]; assumption) (by rw [← hF]; exact h), List.Perm.refl _⟩
  · obtain ⟨k, y, hk, hky, hy, _⟩ := hfree h
    have hknw : k < nw := by have := (List.getElem?_eq_some_iff.1 hky).1; simp at this; omega
    have hkj : js[k]? = some none := by
      rw [List.getElem?_take, if_pos hknw] at hky
      rw [hky]; cases y
      · rfl
      · cases hy
    subst hk
    refine CS.region (id := 8) ?_
    refine RS.pv (PV.all tab_ok rfl) rfl ?_
    refine RS.pv (PV.all tab_ok rfl) rfl ?_
    refine RS.pv (PV.maxI rfl rfl) rfl ?_
    refine RS.pv (PV.minI rfl rfl) rfl ?_
    (first | refine RS.lv (LV.load tab_ok rfl (Has.own 0 rfl) rfl) rfl ?_ | refine RS.lv (LV.load tab_ok rfl (Has.own 1 rfl) rfl) rfl ?_ | refine RS.lv (LV.load tab_ok rfl (Has.own 2 rfl) rfl) rfl ?_)
    refine RS.pv (PV.all tab_ok rfl) rfl ?_
    refine RS.call (copied_s _ ⟨index, min (max ticks 1) 16000, r⟩ _ _ ⟨_, rfl, hr⟩ hok) rfl (by kernel_rfl) rfl ?_
    rintro v i3 L3 hi3 ⟨jc', rfl, hj, rfl⟩
    have hj' := hj
    obtain ⟨rc', rfl, hrc⟩ := hj
    obtain ⟨d2, e2, d3, e3, d4, e4, d5, e5, d6, e6, rfl⟩ := hrc.lit
    refine RS.alloc tab_ok rfl rfl (fun bj => ?_)
    refine RS.store (k := 0) tab_ok rfl rfl rfl rfl rfl rfl rfl rfl ?_
    refine RS.nil ?_
    have hput := poolC_put (js := js) (nw := nw) (k := k) (by omega) (some ⟨bj, [.int .i64 index, .int .i64 (min (max ticks 1) 16000), .string r.path, .int .i64 r.index, .slice d2 r.props.length e2, .slice d3 r.tags.length e3, .slice d4 r.links.length e4, .slice d5 r.run.length e5, .slice d6 r.load.length e6, .string r.name, .int .i64 r.priority, .string r.owner, .string r.group, .int .i64 r.mode], ⟨index, min (max ticks 1) 16000, r⟩⟩)
    repeat' (first
      | refine CS.seq ?_
      | refine thenQ.normal ?_
      | refine CS.cond_true rfl ?_
      | refine CS.cond_false rfl ?_
      | refine CS.skip ?_
      | (refine CS.region (id := 0) ?_;
          refine RS.box rfl rfl (fun b => ?_);
          refine RS.pv (PV.all tab_ok rfl) rfl ?_;
          refine RS.nil ?_)
      | (refine CS.drawQ (id := 1) mix (by kernel_rfl) ?_;
          refine QS.pv (PV.all tab_ok rfl) rfl ?_;
          refine QS.pv (PV.all tab_ok rfl) rfl ?_;
          refine QS.pv (PV.all tab_ok rfl) rfl ?_;
          refine QS.pv (PV.all tab_ok rfl) rfl ?_;
          refine QS.pv (PV.all tab_ok rfl) rfl ?_;
          refine QS.pv (PV.all tab_ok rfl) rfl ?_;
          (first | refine QS.lv (LV.load tab_ok rfl (Has.own 0 rfl) rfl) rfl ?_ | refine QS.lv (LV.load tab_ok rfl (Has.own 1 rfl) rfl) rfl ?_ | refine QS.lv (LV.load tab_ok rfl (Has.own 2 rfl) rfl) rfl ?_);
          refine QS.pv (PV.sliceArr tab_ok rfl rfl rfl (by omega)) rfl ?_)
      | (refine CS.region (id := 2) ?_;
          refine RS.pv (PV.all tab_ok rfl) rfl ?_;
          (first | refine RS.pv (PV.lssT rfl rfl (by omega)) rfl ?_ | refine RS.pv (PV.lssF rfl rfl (by omega)) rfl ?_ | refine RS.ifLss rfl rfl rfl (fun h => ?_) (fun h => ?_));
          (all_goals refine RS.pv (PV.all tab_ok rfl) rfl ?_);
          (all_goals refine RS.nil ?_))
      | (refine CS.region (id := 3) ?_;
          refine RS.pv (PV.all tab_ok rfl) rfl ?_;
          refine RS.nil ?_)
      | (refine CS.region (id := 4) ?_;
          refine RS.pv (PV.all tab_ok rfl) rfl ?_;
          refine RS.pv (PV.all tab_ok rfl) rfl ?_)
      | (refine CS.region (id := 5) ?_;
          refine RS.pv (PV.all tab_ok rfl) rfl ?_;
          refine RS.nil ?_)
      | (refine CS.region (id := 6) ?_;
          refine RS.pv (PV.all tab_ok rfl) rfl ?_;
          (first | refine RS.pv (PV.lssT rfl rfl (by omega)) rfl ?_ | refine RS.pv (PV.lssF rfl rfl (by omega)) rfl ?_ | refine RS.ifLss rfl rfl rfl (fun h => ?_) (fun h => ?_));
          (all_goals refine RS.pv (PV.all tab_ok rfl) rfl ?_);
          (all_goals refine RS.nil ?_))
      | (refine CS.region (id := 7) ?_;
          refine RS.pv (PV.all tab_ok rfl) rfl ?_;
          refine RS.nil ?_)
      | (refine CS.region (id := 8) ?_;
          refine RS.pv (PV.all tab_ok rfl) rfl ?_;
          refine RS.pv (PV.all tab_ok rfl) rfl ?_;
          refine RS.pv (PV.maxI rfl rfl) rfl ?_;
          refine RS.pv (PV.minI rfl rfl) rfl ?_;
          (first | refine RS.lv (LV.load tab_ok rfl (Has.own 0 rfl) rfl) rfl ?_ | refine RS.lv (LV.load tab_ok rfl (Has.own 1 rfl) rfl) rfl ?_ | refine RS.lv (LV.load tab_ok rfl (Has.own 2 rfl) rfl) rfl ?_);
          refine RS.pv (PV.all tab_ok rfl) rfl ?_)
      | (refine CS.region (id := 9) ?_;
          refine RS.pv (PV.all tab_ok rfl) rfl ?_;
          refine RS.pv (PV.all tab_ok rfl) rfl ?_;
          refine RS.pv (PV.all tab_ok rfl) rfl ?_;
          refine RS.pv (PV.all tab_ok rfl) rfl ?_;
          (first | refine RS.pv (PV.indexAddr tab_ok rfl rfl rfl (by omega)) rfl ?_ | refine RS.pv (PV.indexAddrA tab_ok rfl rfl rfl (by omega)) rfl ?_);
          refine RS.store (k := 2) tab_ok rfl rfl rfl rfl rfl rfl hput rfl ?_;
          (all_goals refine RS.nil ?_))
      | (refine CS.region (id := 10) ?_;
          refine RS.pv (PV.all tab_ok rfl) rfl ?_;
          refine RS.nil ?_)
      | refine CS.ret ?_
      | refine thenQ.ret ?_
      | refine blkQ.ret ?_
      | refine retQ.ret ?_
      | refine CS.block ?_
      | refine CS.exit ?_
      | refine thenQ.exit ?_
      | refine blkQ.normal ?_
      | refine blkQ.here ?_
      | refine blkQ.past rfl ?_
      | refine retQ.normal ?_)
    exact ⟨0, _, [(b6, _)], rfl, .ok k ⟨bj, [.int .i64 index, .int .i64 (min (max ticks 1) 16000), .string r.path, .int .i64 r.index, .slice d2 r.props.length e2, .slice d3 r.tags.length e3, .slice d4 r.links.length e4, .slice d5 r.run.length e5, .slice d6 r.load.length e6, .string r.name, .int .i64 r.priority, .string r.owner, .string r.group, .int .i64 r.mode], ⟨index, min (max ticks 1) 16000, r⟩⟩ (by omega) (by rw [← hD]; assumption) hF.symm hkj hknw rfl hj', (List.Perm.swap _ _ _).trans (.cons _ ((List.Perm.swap _ _ _).trans (.cons _ ((jobsL_add ⟨bj, [.int .i64 index, .int .i64 (min (max ticks 1) 16000), .string r.path, .int .i64 r.index, .slice d2 r.props.length e2, .slice d3 r.tags.length e3, .slice d4 r.links.length e4, .slice d5 r.run.length e5, .slice d6 r.load.length e6, .string r.name, .int .i64 r.priority, .string r.owner, .string r.group, .int .i64 r.mode], ⟨index, min (max ticks 1) 16000, r⟩⟩ hkj).symm.append_right R))))⟩
end Go.Proofs.Ytmcajldlcomegaa
