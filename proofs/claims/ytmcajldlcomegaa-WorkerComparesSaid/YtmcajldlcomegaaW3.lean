/- Contracts: the worker's pool: copies, the two searches. -/
import Derived.Test.YtmcajldlcomegaaW2
namespace Go.Proofs.Ytmcajldlcomegaa
open Go Go.Eng

theorem RecV.lit {i : Imm} {rc : List Value} {r : Rec} (h : RecV i rc r) : ∃ a2 c2 a3 c3 a4 c4 a5 c5 a6 c6, rc = [.string r.path, .int .i64 r.index, .slice a2 r.props.length c2, .slice a3 r.tags.length c3, .slice a4 r.links.length c4, .slice a5 r.run.length c5, .slice a6 r.load.length c6, .string r.name, .int .i64 r.priority, .string r.owner, .string r.group, .int .i64 r.mode] := by
  obtain ⟨v2, v3, v4, v5, v6, rfl, ⟨a2, c2, rfl, _⟩, ⟨a3, c3, rfl, _⟩, ⟨a4, c4, rfl, _⟩, ⟨a5, c5, rfl, _⟩, ⟨a6, c6, rfl, _⟩⟩ := h
  exact ⟨_, _, _, _, _, _, _, _, _, _, rfl⟩

structure JobD where
  index : Int
  left : Int
  rcd : Rec
def JobV (i : Imm) (jc : List Value) (j : JobD) : Prop := ∃ rc, jc = .int .i64 j.index :: .int .i64 j.left :: rc ∧ RecV i rc j.rcd
theorem JobV.le {i i' : Imm} {jc : List Value} {j : JobD} (h : JobV i jc j) (hi : i.le i') : JobV i' jc j := by
  obtain ⟨rc, h1, h2⟩ := h; exact ⟨rc, h1, h2.le hi⟩

theorem copied_s (jc : List Value) (j : JobD) (i : Imm) (L : SH) (hj : JobV i jc j) (hok : j.rcd.ok) :
    FnS Try.prog 45 [.agg jc.toArray] i L fun v i' L' => ∃ jc', v = .agg (List.toArray jc') ∧ JobV i' jc' j ∧ L' = L := by
  obtain ⟨rc, rfl, hr⟩ := hj
  have hr' := hr
  obtain ⟨a2, c2, a3, c3, a4, c4, a5, c5, a6, c6, rfl⟩ := hr.lit
  refine FnS.state (K := fun v i' L' => ∃ b1 o1 b2 o2, ∃ jc', v = .agg (List.toArray jc') ∧ JobV i' jc' j ∧ L' = (b2, o2) :: (b1, o1) :: L) ?_ ?_
  rotate_left
  · rintro v i' L' w _ hs ⟨b1, o1, b2, o2, jc', hv, hr, rfl⟩
    exact ⟨i', L, Imm.le.refl i', hs.drop.drop, jc', hv, hr, rfl⟩
  refine FnS.introC tab_ok Try.func45 rfl Try.ntmps45 (by simp) Try.results45 ?_
  refine CS.seq ?_
  refine CS.region ?_
  refine RS.box rfl rfl (fun b1 => ?_)
  refine RS.alloc tab_ok rfl rfl (fun b2 => ?_)
  refine RS.nil ?_
  refine thenQ.normal ?_
  refine CS.seq ?_
  refine CS.region ?_
  refine RS.pv (PV.all tab_ok rfl) rfl ?_
  refine RS.lv (LV.load tab_ok rfl (Has.own 1 rfl) rfl) rfl ?_
  refine RS.call (ownRecord_s _ _ _ _ hr' hok) rfl (by kernel_rfl) rfl ?_
  rintro v i' L' hi ⟨rc', rfl, hrc, rfl⟩
  obtain ⟨d2, e2, d3, e3, d4, e4, d5, e5, d6, e6, rfl⟩ := hrc.lit
  refine RS.pv (PV.all tab_ok rfl) rfl ?_
  refine RS.store (k := 1) tab_ok rfl rfl rfl rfl rfl rfl rfl rfl ?_
  refine RS.nil ?_
  repeat' (first
    | refine CS.seq ?_
    | refine thenQ.normal ?_
    | refine CS.cond_true rfl ?_
    | refine CS.cond_false rfl ?_
    | refine CS.skip ?_
    | (refine CS.region (id := 2) ?_;
        (first | refine RS.lv (LV.load tab_ok rfl (Has.own 0 rfl) rfl) rfl ?_ | refine RS.lv (LV.load tab_ok rfl (Has.own 1 rfl) rfl) rfl ?_ | refine RS.lv (LV.load tab_ok rfl (Has.own 2 rfl) rfl) rfl ?_);
        (first | refine RS.store (k := 0) tab_ok rfl rfl rfl rfl rfl rfl rfl rfl ?_ | refine RS.store (k := 1) tab_ok rfl rfl rfl rfl rfl rfl rfl rfl ?_ | refine RS.store (k := 2) tab_ok rfl rfl rfl rfl rfl rfl rfl rfl ?_);
        refine RS.nil ?_)
    | refine CS.ret ?_
    | refine thenQ.ret ?_
    | refine blkQ.ret ?_
    | refine retQ.ret ?_
    | refine CS.block ?_
    | refine CS.exit ?_
    | refine thenQ.exit ?_
    | refine blkQ.normal ?_
    | refine blkQ.here ?_
    | refine blkQ.past rfl ?_
    | refine retQ.normal ?_)
  exact ⟨b2, 0, _, _, _, _, rfl, Has.own 0 rfl, rfl, b1, _, b2, _, _, rfl, ⟨_, rfl, hrc⟩, rfl⟩

/-! ### the first element that .. -/
def fidx {α : Type} (p : α → Bool) (l : List α) : Int := match l.findIdx? p with | some k => (k : Int) | none => -1
theorem fidx_at {α : Type} {p : α → Bool} {l : List α} {k : Nat} {x : α} (hk : l[k]? = some x) (hp : p x = true) (hb : ∀ (j : Nat) (y : α), j < k → l[j]? = some y → p y = false) : fidx p l = k := by
  have : l.findIdx? p = some k := by
    rw [List.findIdx?_eq_some_iff_getElem]
    obtain ⟨h1, h2⟩ := List.getElem?_eq_some_iff.1 hk
    refine ⟨h1, by rw [h2]; exact hp, fun j hj => ?_⟩
    have := hb j l[j] hj (List.getElem?_eq_getElem (by omega))
    simpa using this
  simp [fidx, this]
theorem fidx_none {α : Type} {p : α → Bool} {l : List α} (hb : ∀ (j : Nat) (y : α), l[j]? = some y → p y = false) : fidx p l = -1 := by
  have : l.findIdx? p = none := by
    rw [List.findIdx?_eq_none_iff]
    intro x hx
    obtain ⟨j, hj⟩ := List.mem_iff_getElem?.1 hx
    exact hb j x hj
  simp [fidx, this]

/-! ### the pool in memory -/
structure JobP where
  b : Nat
  jc : List Value
  jd : JobD
def jptr : Option JobP → Value
  | some x => .pointer (some ⟨x.b, 0, none⟩)
  | none => .pointer none
def poolC (js : List (Option JobP)) (nw : Nat) : List Value := js.map jptr ++ [.int .i64 nw]
def poolO (js : List (Option JobP)) (nw : Nat) : Obj := .cells (poolC js nw).toArray 90 (0, 0)
theorem poolC_at {js : List (Option JobP)} {nw k : Nat} {o : Option JobP} (h : js[k]? = some o) : (poolC js nw)[0 + ((k : Nat) : Int).toNat * 1]? = some (jptr o) := by
  have hk := (List.getElem?_eq_some_iff.1 h).1
  simp only [poolC, Nat.zero_add, Int.toNat_natCast, Nat.mul_one]
  rw [List.getElem?_append_left (by simpa using hk), List.getElem?_map, h]; rfl

theorem Index_s (p nw : Nat) (js : List (Option JobP)) (i : Imm) (L : SH) (hk : (p, poolO js nw) ∈ L) (hl : js.length = 8) (hn : nw ≤ 8) :
    FnS Try.prog 43 [.slice (some ⟨p, 0, none⟩) nw 8, .pointer none] i L fun v i' L' => v = .int .i64 (fidx Option.isNone (js.take nw)) ∧ i' = i ∧ L' = L := by
  refine FnS.intro1 Try.func43 rfl Try.ntmps43 (by simp) Try.results43 ?_
  repeat' (first
    | refine CS.seq ?_
    | refine thenQ.normal ?_
    | refine CS.cond_true rfl ?_
    | refine CS.cond_false rfl ?_
    | refine CS.skip ?_
    | (refine CS.region (id := 0) ?_;
        refine RS.pv (PV.all tab_ok rfl) rfl ?_;
        refine RS.nil ?_)
    | (refine CS.region (id := 1) ?_;
        refine RS.pv (PV.all tab_ok rfl) rfl ?_;
        (first | refine RS.pv (PV.lenS tab_ok rfl rfl) rfl ?_ | refine RS.pv (PV.lenT tab_ok rfl rfl) rfl ?_);
        refine RS.pv (PV.all tab_ok rfl) rfl ?_;
        refine RS.nil ?_)
    | refine CS.ret ?_
    | refine thenQ.ret ?_
    | refine blkQ.ret ?_
    | refine retQ.ret ?_
    | refine CS.block ?_
    | refine CS.exit ?_
    | refine thenQ.exit ?_
    | refine blkQ.normal ?_
    | refine blkQ.here ?_
    | refine blkQ.past rfl ?_
    | refine retQ.normal ?_)
  refine CS.loop [0, 1, 7, 8] (fun m vs i' L' => ∃ k : Nat, m = nw - k ∧ k ≤ nw ∧ (∀ j, j < k → ∀ y, js[j]? = some y → y.isNone = false) ∧ vs = [.slice (some ⟨p, 0, none⟩) nw 8, .pointer none, .int .i64 nw, .int .i64 k] ∧ i' = i ∧ L' = L) nw ⟨0, rfl, Nat.zero_le _, fun j hj => absurd hj (by omega), rfl, rfl, rfl⟩ ?_
  rintro m g vs i' L' hi ⟨k, rfl, hkn, hb, rfl, rfl, rfl⟩
  by_cases hlt : k < nw
  · obtain ⟨o, ho⟩ : ∃ o, js[k]? = some o := ⟨_, List.getElem?_eq_getElem (by omega)⟩
    have hc := poolC_at (nw := nw) ho
    cases o with
    | none =>
      repeat' (first
        | refine CS.seq ?_
        | refine thenQ.normal ?_
        | refine CS.cond_true rfl ?_
        | refine CS.cond_false rfl ?_
        | refine CS.skip ?_
        | (refine CS.region (id := 0) ?_;
            refine RS.pv (PV.all tab_ok rfl) rfl ?_;
            refine RS.nil ?_)
        | (refine CS.region (id := 1) ?_;
            refine RS.pv (PV.all tab_ok rfl) rfl ?_;
            (first | refine RS.pv (PV.lenS tab_ok rfl rfl) rfl ?_ | refine RS.pv (PV.lenT tab_ok rfl rfl) rfl ?_);
            refine RS.pv (PV.all tab_ok rfl) rfl ?_;
            refine RS.nil ?_)
        | (refine CS.region (id := 2) ?_;
            (first | refine RS.pv (PV.lssT rfl rfl (by omega)) rfl ?_ | refine RS.pv (PV.lssF rfl rfl (by omega)) rfl ?_ | refine RS.ifLss rfl rfl rfl (fun h => ?_) (fun h => ?_));
            (all_goals refine RS.nil ?_))
        | (refine CS.region (id := 3) ?_;
            refine RS.pv (PV.all tab_ok rfl) rfl ?_;
            refine RS.pv (PV.all tab_ok rfl) rfl ?_;
            refine RS.nil ?_)
        | (refine CS.region (id := 4) ?_;
            refine RS.pv (PV.all tab_ok rfl) rfl ?_;
            refine RS.pv (PV.all tab_ok rfl) rfl ?_;
            refine RS.pv (PV.all tab_ok rfl) rfl ?_;
            (first | refine RS.pv (PV.indexAddr tab_ok rfl rfl rfl (by omega)) rfl ?_ | refine RS.pv (PV.indexAddrA tab_ok rfl rfl rfl (by omega)) rfl ?_);
            refine RS.lv (LV.load1 tab_ok rfl (Has.mem hk) rfl hc) rfl ?_;
            (all_goals (first | refine RS.pv (PV.all tab_ok rfl) rfl ?_ | refine RS.pv (PV.eqlT rfl rfl (by omega)) rfl ?_ | refine RS.pv (PV.eqlF rfl rfl (by omega)) rfl ?_ | refine RS.ifEql rfl rfl rfl (fun h => ?_) (fun h => ?_) | refine RS.ifSeql rfl rfl rfl (fun h => ?_) (fun h => ?_)));
            (all_goals refine RS.nil ?_))
        | (refine CS.region (id := 5) ?_;
            refine RS.pv (PV.all tab_ok rfl) rfl ?_;
            refine RS.pv (PV.all tab_ok rfl) rfl ?_;
            refine RS.nil ?_)
        | (refine CS.region (id := 6) ?_;
            refine RS.pv (PV.add rfl rfl (by omega)) rfl ?_;
            refine RS.pv (PV.all tab_ok rfl) rfl ?_;
            refine RS.nil ?_)
        | (refine CS.region (id := 7) ?_;
            refine RS.pv (PV.all tab_ok rfl) rfl ?_;
            refine RS.nil ?_)
        | refine CS.ret ?_
        | refine thenQ.ret ?_
        | refine blkQ.ret ?_
        | refine retQ.ret ?_
        | refine CS.block ?_
        | refine CS.exit ?_
        | refine thenQ.exit ?_
        | refine blkQ.normal ?_
        | refine blkQ.here ?_
        | refine blkQ.past rfl ?_
        | refine retQ.normal ?_)
      exact ⟨congrArg (Value.int .i64) (fidx_at (by rw [List.getElem?_take, if_pos hlt]; exact ho) rfl (fun j y hj hy => hb j hj y (by rw [List.getElem?_take, if_pos (by omega)] at hy; exact hy))).symm, rfl, rfl⟩
    | some x =>
      have hc' : (poolC js nw)[0 + ((k : Nat) : Int).toNat * 1]? = some (.pointer (some ⟨x.b, 0, none⟩)) := hc
      repeat' (first
        | refine CS.seq ?_
        | refine thenQ.normal ?_
        | refine CS.cond_true rfl ?_
        | refine CS.cond_false rfl ?_
        | refine CS.skip ?_
        | (refine CS.region (id := 0) ?_;
            refine RS.pv (PV.all tab_ok rfl) rfl ?_;
            refine RS.nil ?_)
        | (refine CS.region (id := 1) ?_;
            refine RS.pv (PV.all tab_ok rfl) rfl ?_;
            (first | refine RS.pv (PV.lenS tab_ok rfl rfl) rfl ?_ | refine RS.pv (PV.lenT tab_ok rfl rfl) rfl ?_);
            refine RS.pv (PV.all tab_ok rfl) rfl ?_;
            refine RS.nil ?_)
        | (refine CS.region (id := 2) ?_;
            (first | refine RS.pv (PV.lssT rfl rfl (by omega)) rfl ?_ | refine RS.pv (PV.lssF rfl rfl (by omega)) rfl ?_ | refine RS.ifLss rfl rfl rfl (fun h => ?_) (fun h => ?_));
            (all_goals refine RS.nil ?_))
        | (refine CS.region (id := 3) ?_;
            refine RS.pv (PV.all tab_ok rfl) rfl ?_;
            refine RS.pv (PV.all tab_ok rfl) rfl ?_;
            refine RS.nil ?_)
        | (refine CS.region (id := 4) ?_;
            refine RS.pv (PV.all tab_ok rfl) rfl ?_;
            refine RS.pv (PV.all tab_ok rfl) rfl ?_;
            refine RS.pv (PV.all tab_ok rfl) rfl ?_;
            (first | refine RS.pv (PV.indexAddr tab_ok rfl rfl rfl (by omega)) rfl ?_ | refine RS.pv (PV.indexAddrA tab_ok rfl rfl rfl (by omega)) rfl ?_);
            refine RS.lv (LV.load1 tab_ok rfl (Has.mem hk) rfl hc') rfl ?_;
            (all_goals (first | refine RS.pv (PV.all tab_ok rfl) rfl ?_ | refine RS.pv (PV.eqlT rfl rfl (by omega)) rfl ?_ | refine RS.pv (PV.eqlF rfl rfl (by omega)) rfl ?_ | refine RS.ifEql rfl rfl rfl (fun h => ?_) (fun h => ?_) | refine RS.ifSeql rfl rfl rfl (fun h => ?_) (fun h => ?_)));
            (all_goals refine RS.nil ?_))
        | (refine CS.region (id := 5) ?_;
            refine RS.pv (PV.all tab_ok rfl) rfl ?_;
            refine RS.pv (PV.all tab_ok rfl) rfl ?_;
            refine RS.nil ?_)
        | (refine CS.region (id := 6) ?_;
            refine RS.pv (PV.add rfl rfl (by omega)) rfl ?_;
            refine RS.pv (PV.all tab_ok rfl) rfl ?_;
            refine RS.nil ?_)
        | (refine CS.region (id := 7) ?_;
            refine RS.pv (PV.all tab_ok rfl) rfl ?_;
            refine RS.nil ?_)
        | refine CS.ret ?_
        | refine thenQ.ret ?_
        | refine blkQ.ret ?_
        | refine retQ.ret ?_
        | refine CS.block ?_
        | refine CS.exit ?_
        | refine thenQ.exit ?_
        | refine blkQ.normal ?_
        | refine blkQ.here ?_
        | refine blkQ.past rfl ?_
        | refine retQ.normal ?_)
      exact ⟨nw - (k + 1), by omega, k + 1, rfl, hlt, fun j hj y hy => by
        rcases Nat.lt_succ_iff_lt_or_eq.1 hj with h | rfl
        · exact hb j h y hy
        · rw [ho] at hy; cases hy; rfl, rfl, rfl, rfl⟩
  · have : k = nw := by omega
    subst this
    repeat' (first
      | refine CS.seq ?_
      | refine thenQ.normal ?_
      | refine CS.cond_true rfl ?_
      | refine CS.cond_false rfl ?_
      | refine CS.skip ?_
      | (refine CS.region (id := 0) ?_;
          refine RS.pv (PV.all tab_ok rfl) rfl ?_;
          refine RS.nil ?_)
      | (refine CS.region (id := 1) ?_;
          refine RS.pv (PV.all tab_ok rfl) rfl ?_;
          (first | refine RS.pv (PV.lenS tab_ok rfl rfl) rfl ?_ | refine RS.pv (PV.lenT tab_ok rfl rfl) rfl ?_);
          refine RS.pv (PV.all tab_ok rfl) rfl ?_;
          refine RS.nil ?_)
      | (refine CS.region (id := 2) ?_;
          (first | refine RS.pv (PV.lssT rfl rfl (by omega)) rfl ?_ | refine RS.pv (PV.lssF rfl rfl (by omega)) rfl ?_ | refine RS.ifLss rfl rfl rfl (fun h => ?_) (fun h => ?_));
          (all_goals refine RS.nil ?_))
      | (refine CS.region (id := 3) ?_;
          refine RS.pv (PV.all tab_ok rfl) rfl ?_;
          refine RS.pv (PV.all tab_ok rfl) rfl ?_;
          refine RS.nil ?_)
      | (refine CS.region (id := 4) ?_;
          refine RS.pv (PV.all tab_ok rfl) rfl ?_;
          refine RS.pv (PV.all tab_ok rfl) rfl ?_;
          refine RS.pv (PV.all tab_ok rfl) rfl ?_;
          (first | refine RS.pv (PV.indexAddr tab_ok rfl rfl rfl (by omega)) rfl ?_ | refine RS.pv (PV.indexAddrA tab_ok rfl rfl rfl (by omega)) rfl ?_);
          (first | refine RS.lv (LV.load tab_ok rfl (Has.own 0 rfl) rfl) rfl ?_ | refine RS.lv (LV.load tab_ok rfl (Has.own 1 rfl) rfl) rfl ?_ | refine RS.lv (LV.load tab_ok rfl (Has.own 2 rfl) rfl) rfl ?_);
          (first | refine RS.pv (PV.all tab_ok rfl) rfl ?_ | refine RS.pv (PV.eqlT rfl rfl (by omega)) rfl ?_ | refine RS.pv (PV.eqlF rfl rfl (by omega)) rfl ?_ | refine RS.ifEql rfl rfl rfl (fun h => ?_) (fun h => ?_) | refine RS.ifSeql rfl rfl rfl (fun h => ?_) (fun h => ?_));
          (all_goals refine RS.nil ?_))
      | (refine CS.region (id := 5) ?_;
          refine RS.pv (PV.all tab_ok rfl) rfl ?_;
          refine RS.pv (PV.all tab_ok rfl) rfl ?_;
          refine RS.nil ?_)
      | (refine CS.region (id := 6) ?_;
          refine RS.pv (PV.add rfl rfl (by omega)) rfl ?_;
          refine RS.pv (PV.all tab_ok rfl) rfl ?_;
          refine RS.nil ?_)
      | (refine CS.region (id := 7) ?_;
          refine RS.pv (PV.all tab_ok rfl) rfl ?_;
          refine RS.nil ?_)
      | refine CS.ret ?_
      | refine thenQ.ret ?_
      | refine blkQ.ret ?_
      | refine retQ.ret ?_
      | refine CS.block ?_
      | refine CS.exit ?_
      | refine thenQ.exit ?_
      | refine blkQ.normal ?_
      | refine blkQ.here ?_
      | refine blkQ.past rfl ?_
      | refine retQ.normal ?_)
    exact ⟨congrArg (Value.int .i64) (fidx_none (fun j y hy => by
      have hj : j < k := by have := (List.getElem?_eq_some_iff.1 hy).1; simp at this; omega
      exact hb j hj y (by rw [List.getElem?_take, if_pos hj] at hy; exact hy))).symm, rfl, rfl⟩
end Go.Proofs.Ytmcajldlcomegaa
