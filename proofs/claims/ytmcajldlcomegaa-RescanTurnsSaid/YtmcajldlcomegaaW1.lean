/- Contracts of the small functions. -/
import Derived.Test.YtmcajldlcomegaaTab
namespace Go.Proofs.Ytmcajldlcomegaa
open Go Go.Eng

def foldI (v n : Int) : Int := if n ≤ 1 then 0 else v % n
theorem tmod_fold {v n : Int} (h : 1 < n) : v % n = if v.tmod n < 0 then v.tmod n + n else v.tmod n := by
  rw [Int.tmod_eq_emod]
  have h1 := Int.emod_nonneg v (show n ≠ 0 by omega)
  have h2 := Int.emod_lt_of_pos v (show 0 < n by omega)
  split <;> split <;> omega
theorem tmod_bd {v n : Int} (h : 1 < n) : -n < v.tmod n ∧ v.tmod n < n := by
  rw [Int.tmod_eq_emod]
  have h1 := Int.emod_nonneg v (show n ≠ 0 by omega)
  have h2 := Int.emod_lt_of_pos v (show 0 < n by omega)
  split <;> omega

theorem Fold_s (v n : Int) (i : Imm) (L : SH) (hn : n ≤ 9223372036854775807) :
    FnS Try.prog 27 [.int .i64 v, .int .i64 n] i L fun r i' L' => r = .int .i64 (foldI v n) ∧ i' = i ∧ L' = L := by
  have hb := fun h : 1 < n => tmod_bd (v := v) h
  refine FnS.intro1 Try.func27 rfl Try.ntmps27 (by simp) Try.results27 ?_
  by_cases h1 : n ≤ 1
  · repeat' (first
      | refine CS.seq ?_
      | refine thenQ.normal ?_
      | refine CS.cond_true rfl ?_
      | refine CS.cond_false rfl ?_
      | refine CS.skip ?_
      | (refine CS.region (id := 0) ?_;
          refine RS.pv (PV.all tab_ok rfl) rfl ?_;
          refine RS.nil ?_)
      | (refine CS.region (id := 1) ?_;
          refine RS.pv (PV.all tab_ok rfl) rfl ?_;
          (first | refine RS.pv (PV.leqT rfl rfl (by omega)) rfl ?_ | refine RS.pv (PV.leqF rfl rfl (by omega)) rfl ?_ | refine RS.ifLeq rfl rfl rfl (fun h => ?_) (fun h => ?_));
          (all_goals refine RS.nil ?_))
      | (refine CS.region (id := 2) ?_;
          refine RS.pv (PV.all tab_ok rfl) rfl ?_;
          refine RS.nil ?_)
      | (refine CS.region (id := 3) ?_;
          refine RS.pv (PV.all tab_ok rfl) rfl ?_;
          refine RS.pv (PV.all tab_ok rfl) rfl ?_;
          refine RS.pv (PV.rem rfl rfl (by omega)) rfl ?_;
          refine RS.pv (PV.all tab_ok rfl) rfl ?_;
          refine RS.nil ?_)
      | (refine CS.region (id := 4) ?_;
          refine RS.pv (PV.all tab_ok rfl) rfl ?_;
          (first | refine RS.pv (PV.lssT rfl rfl (by omega)) rfl ?_ | refine RS.pv (PV.lssF rfl rfl (by omega)) rfl ?_ | refine RS.ifLss rfl rfl rfl (fun h => ?_) (fun h => ?_));
          (all_goals refine RS.nil ?_))
      | (refine CS.region (id := 5) ?_;
          refine RS.pv (PV.all tab_ok rfl) rfl ?_;
          refine RS.pv (PV.all tab_ok rfl) rfl ?_;
          refine RS.pv (PV.add rfl rfl (by omega)) rfl ?_;
          refine RS.pv (PV.all tab_ok rfl) rfl ?_;
          refine RS.nil ?_)
      | (refine CS.region (id := 6) ?_;
          refine RS.pv (PV.all tab_ok rfl) rfl ?_;
          refine RS.pv (PV.all tab_ok rfl) rfl ?_;
          refine RS.nil ?_)
      | refine CS.ret ?_
      | refine thenQ.ret ?_
      | refine blkQ.ret ?_
      | refine retQ.ret ?_
      | refine CS.block ?_
      | refine CS.exit ?_
      | refine thenQ.exit ?_
      | refine blkQ.normal ?_
      | refine blkQ.here ?_
      | refine blkQ.past rfl ?_
      | refine retQ.normal ?_)
    exact ⟨congrArg (Value.int .i64) (by simp [foldI, h1]), rfl, rfl⟩
  · have hb := hb (by omega)
    have hf := tmod_fold (v := v) (n := n) (by omega)
    repeat' (first
      | refine CS.seq ?_
      | refine thenQ.normal ?_
      | refine CS.cond_true rfl ?_
      | refine CS.cond_false rfl ?_
      | refine CS.skip ?_
      | (refine CS.region (id := 0) ?_;
          refine RS.pv (PV.all tab_ok rfl) rfl ?_;
          refine RS.nil ?_)
      | (refine CS.region (id := 1) ?_;
          refine RS.pv (PV.all tab_ok rfl) rfl ?_;
          (first | refine RS.pv (PV.leqT rfl rfl (by omega)) rfl ?_ | refine RS.pv (PV.leqF rfl rfl (by omega)) rfl ?_ | refine RS.ifLeq rfl rfl rfl (fun h => ?_) (fun h => ?_));
          (all_goals refine RS.nil ?_))
      | (refine CS.region (id := 2) ?_;
          refine RS.pv (PV.all tab_ok rfl) rfl ?_;
          refine RS.nil ?_)
      | (refine CS.region (id := 3) ?_;
          refine RS.pv (PV.all tab_ok rfl) rfl ?_;
          refine RS.pv (PV.all tab_ok rfl) rfl ?_;
          refine RS.pv (PV.rem rfl rfl (by omega)) rfl ?_;
          refine RS.pv (PV.all tab_ok rfl) rfl ?_;
          refine RS.nil ?_)
      | (refine CS.region (id := 4) ?_;
          refine RS.pv (PV.all tab_ok rfl) rfl ?_;
          (first | refine RS.pv (PV.lssT rfl rfl (by omega)) rfl ?_ | refine RS.pv (PV.lssF rfl rfl (by omega)) rfl ?_ | refine RS.ifLss rfl rfl rfl (fun h => ?_) (fun h => ?_));
          (all_goals refine RS.nil ?_))
      | (refine CS.region (id := 5) ?_;
          refine RS.pv (PV.all tab_ok rfl) rfl ?_;
          refine RS.pv (PV.all tab_ok rfl) rfl ?_;
          refine RS.pv (PV.add rfl rfl (by omega)) rfl ?_;
          refine RS.pv (PV.all tab_ok rfl) rfl ?_;
          refine RS.nil ?_)
      | (refine CS.region (id := 6) ?_;
          refine RS.pv (PV.all tab_ok rfl) rfl ?_;
          refine RS.pv (PV.all tab_ok rfl) rfl ?_;
          refine RS.nil ?_)
      | refine CS.ret ?_
      | refine thenQ.ret ?_
      | refine blkQ.ret ?_
      | refine retQ.ret ?_
      | refine CS.block ?_
      | refine CS.exit ?_
      | refine thenQ.exit ?_
      | refine blkQ.normal ?_
      | refine blkQ.here ?_
      | refine blkQ.past rfl ?_
      | refine retQ.normal ?_)
    · exact ⟨congrArg (Value.int .i64) (by rw [foldI, if_neg h1, hf, if_pos h]), rfl, rfl⟩
    · exact ⟨congrArg (Value.int .i64) (by rw [foldI, if_neg h1, hf, if_neg (by omega)]), rfl, rfl⟩

/-- a list of numbers that came in -/
def IntSl (i : Imm) (v : Value) : Prop := ∃ ao ln cap, v = .slice ao ln cap ∧ (ln : Int) ≤ 9223372036854775807 ∧ (ln = 0 ∨ ∃ b o cs t fz, ao = some ⟨b, o, none⟩ ∧ i.blk b = some (.cells (List.toArray cs) t fz) ∧ ∀ j, j < ln → ∃ x, cs[o + j]? = some (.int .i64 x))
theorem IntSl.le {i i' : Imm} {v : Value} (h : IntSl i v) (hi : i.le i') : IntSl i' v := by
  obtain ⟨ao, ln, cap, h1, h2, h3⟩ := h
  refine ⟨ao, ln, cap, h1, h2, h3.imp id ?_⟩
  rintro ⟨b, o, cs, t, fz, h4, h5, h6⟩
  exact ⟨b, o, cs, t, fz, h4, hi.blk _ _ h5, h6⟩
/-- the tape -/
def tapeO (lv : Value) (a : Int) : Obj := .cells [lv, .int .i64 a].toArray 29 (0, 0)

theorem Next_s (tp k : Nat) (lv : Value) (at_ n : Int) (i : Imm) (L : SH) (hn : n ≤ 9223372036854775807) (hl : IntSl i lv) (ha : 0 ≤ at_ ∧ at_ ≤ 1000000000000) (hk : L[k]? = some (tp, tapeO lv at_)) :
    FnS Try.prog 15 [.pointer (some ⟨tp, 0, none⟩), .int .i64 n] i L fun r i' L' => (∃ x, r = .int .i64 (foldI x n)) ∧ i' = i ∧ L' = L.set k (tp, tapeO lv (at_ + 1)) := by
  obtain ⟨ao, ln, cap, rfl, hln, hcs⟩ := hl
  unfold tapeO at hk
  refine FnS.intro1 Try.func15 rfl Try.ntmps15 (by simp) Try.results15 ?_
  by_cases hlt : at_ < ln
  · obtain ⟨b, o, cs, t, fz, rfl, hb, hel⟩ := hcs.resolve_left (by omega)
    obtain ⟨x, hx⟩ := hel at_.toNat (by omega)
    have hx' : cs[o + at_.toNat * 1]? = some (.int .i64 x) := by rw [Nat.mul_one]; exact hx
    repeat' (first
      | refine CS.seq ?_
      | refine thenQ.normal ?_
      | refine CS.cond_true rfl ?_
      | refine CS.cond_false rfl ?_
      | refine CS.skip ?_
      | (refine CS.region (id := 0) ?_;
          refine RS.pv (PV.all tab_ok rfl) rfl ?_;
          refine RS.nil ?_)
      | (refine CS.region (id := 1) ?_;
          refine RS.pv (PV.all tab_ok rfl) rfl ?_;
          refine RS.pv (PV.all tab_ok rfl) rfl ?_;
          refine RS.pv (PV.all tab_ok rfl) rfl ?_;
          refine RS.lv (LV.load tab_ok rfl (Has.own k hk) rfl) rfl ?_;
          refine RS.pv (PV.mul rfl rfl (by omega)) rfl ?_;
          refine RS.pv (PV.rem rfl rfl (by omega)) rfl ?_;
          refine RS.pv (PV.all tab_ok rfl) rfl ?_;
          refine RS.nil ?_)
      | (refine CS.drawQ (id := 2) mix (by kernel_rfl) ?_;
          refine QS.pv (PV.all tab_ok rfl) rfl ?_;
          refine QS.pv (PV.all tab_ok rfl) rfl ?_;
          refine QS.pv (PV.all tab_ok rfl) rfl ?_;
          refine QS.lv (LV.load tab_ok rfl (Has.own k hk) rfl) rfl ?_;
          refine QS.pv (PV.all tab_ok rfl) rfl ?_;
          refine QS.pv (PV.all tab_ok rfl) rfl ?_;
          refine QS.pv (PV.all tab_ok rfl) rfl ?_;
          refine QS.lv (LV.load tab_ok rfl (Has.own k hk) rfl) rfl ?_;
          (first | refine QS.pv (PV.lenS tab_ok rfl rfl) rfl ?_ | refine QS.pv (PV.lenT tab_ok rfl rfl) rfl ?_);
          (first | refine QS.pv (PV.lssT rfl rfl (by omega)) rfl ?_ | refine QS.pv (PV.lssF rfl rfl (by omega)) rfl ?_ | refine QS.ifLss rfl rfl rfl (fun h => ?_) (fun h => ?_));
          (all_goals refine QS.nil ?_))
      | (refine CS.drawQ (id := 3) mix (by kernel_rfl) ?_;
          refine QS.pv (PV.all tab_ok rfl) rfl ?_;
          refine QS.pv (PV.all tab_ok rfl) rfl ?_;
          refine QS.pv (PV.all tab_ok rfl) rfl ?_;
          refine QS.lv (LV.load tab_ok rfl (Has.own k hk) rfl) rfl ?_;
          refine QS.pv (PV.all tab_ok rfl) rfl ?_;
          refine QS.pv (PV.all tab_ok rfl) rfl ?_;
          refine QS.pv (PV.all tab_ok rfl) rfl ?_;
          refine QS.lv (LV.load tab_ok rfl (Has.own k hk) rfl) rfl ?_;
          (first | refine QS.pv (PV.indexAddr tab_ok rfl rfl rfl (by omega)) rfl ?_ | refine QS.pv (PV.indexAddrA tab_ok rfl rfl rfl (by omega)) rfl ?_);
          refine QS.lv (LV.load1 tab_ok rfl (Has.imm hb) rfl hx') rfl ?_;
          (all_goals refine QS.pv (PV.all tab_ok rfl) rfl ?_);
          (all_goals refine QS.nil ?_))
      | (refine CS.region (id := 4) ?_;
          refine RS.pv (PV.all tab_ok rfl) rfl ?_;
          refine RS.pv (PV.all tab_ok rfl) rfl ?_;
          refine RS.pv (PV.all tab_ok rfl) rfl ?_;
          refine RS.lv (LV.load tab_ok rfl (Has.own k hk) rfl) rfl ?_;
          refine RS.pv (PV.add rfl rfl (by omega)) rfl ?_;
          refine RS.pv (PV.all tab_ok rfl) rfl ?_;
          refine RS.pv (PV.all tab_ok rfl) rfl ?_;
          refine RS.store tab_ok rfl rfl rfl rfl hk rfl rfl (setX_some _ _ _ _ hk) ?_;
          (all_goals refine RS.nil ?_))
      | (refine CS.region (id := 5) ?_;
          refine RS.pv (PV.all tab_ok rfl) rfl ?_;
          refine RS.pv (PV.all tab_ok rfl) rfl ?_;
          (refine RS.call (Fold_s _ _ _ _ hn) rfl (by kernel_rfl) rfl ?_; rintro v i' L' hi ⟨rfl, rfl, rfl⟩);
          (all_goals refine RS.pv (PV.all tab_ok rfl) rfl ?_);
          (all_goals refine RS.nil ?_))
      | refine CS.ret ?_
      | refine thenQ.ret ?_
      | refine blkQ.ret ?_
      | refine retQ.ret ?_
      | refine CS.block ?_
      | refine CS.exit ?_
      | refine thenQ.exit ?_
      | refine blkQ.normal ?_
      | refine blkQ.here ?_
      | refine blkQ.past rfl ?_
      | refine retQ.normal ?_)
    exact ⟨⟨_, rfl⟩, rfl, rfl⟩
  · have hm := tmod_bd (v := at_ * 7) (n := 11) (by omega)
    repeat' (first
      | refine CS.seq ?_
      | refine thenQ.normal ?_
      | refine CS.cond_true rfl ?_
      | refine CS.cond_false rfl ?_
      | refine CS.skip ?_
      | (refine CS.region (id := 0) ?_;
          refine RS.pv (PV.all tab_ok rfl) rfl ?_;
          refine RS.nil ?_)
      | (refine CS.region (id := 1) ?_;
          refine RS.pv (PV.all tab_ok rfl) rfl ?_;
          refine RS.pv (PV.all tab_ok rfl) rfl ?_;
          refine RS.pv (PV.all tab_ok rfl) rfl ?_;
          refine RS.lv (LV.load tab_ok rfl (Has.own k hk) rfl) rfl ?_;
          refine RS.pv (PV.mul rfl rfl (by omega)) rfl ?_;
          refine RS.pv (PV.rem rfl rfl (by omega)) rfl ?_;
          refine RS.pv (PV.all tab_ok rfl) rfl ?_;
          refine RS.nil ?_)
      | (refine CS.drawQ (id := 2) mix (by kernel_rfl) ?_;
          refine QS.pv (PV.all tab_ok rfl) rfl ?_;
          refine QS.pv (PV.all tab_ok rfl) rfl ?_;
          refine QS.pv (PV.all tab_ok rfl) rfl ?_;
          refine QS.lv (LV.load tab_ok rfl (Has.own k hk) rfl) rfl ?_;
          refine QS.pv (PV.all tab_ok rfl) rfl ?_;
          refine QS.pv (PV.all tab_ok rfl) rfl ?_;
          refine QS.pv (PV.all tab_ok rfl) rfl ?_;
          refine QS.lv (LV.load tab_ok rfl (Has.own k hk) rfl) rfl ?_;
          (first | refine QS.pv (PV.lenS tab_ok rfl rfl) rfl ?_ | refine QS.pv (PV.lenT tab_ok rfl rfl) rfl ?_);
          (first | refine QS.pv (PV.lssT rfl rfl (by omega)) rfl ?_ | refine QS.pv (PV.lssF rfl rfl (by omega)) rfl ?_ | refine QS.ifLss rfl rfl rfl (fun h => ?_) (fun h => ?_));
          (all_goals refine QS.nil ?_))
      | (refine CS.region (id := 4) ?_;
          refine RS.pv (PV.all tab_ok rfl) rfl ?_;
          refine RS.pv (PV.all tab_ok rfl) rfl ?_;
          refine RS.pv (PV.all tab_ok rfl) rfl ?_;
          refine RS.lv (LV.load tab_ok rfl (Has.own k hk) rfl) rfl ?_;
          refine RS.pv (PV.add rfl rfl (by omega)) rfl ?_;
          refine RS.pv (PV.all tab_ok rfl) rfl ?_;
          refine RS.pv (PV.all tab_ok rfl) rfl ?_;
          refine RS.store tab_ok rfl rfl rfl rfl hk rfl rfl (setX_some _ _ _ _ hk) ?_;
          (all_goals refine RS.nil ?_))
      | (refine CS.region (id := 5) ?_;
          refine RS.pv (PV.all tab_ok rfl) rfl ?_;
          refine RS.pv (PV.all tab_ok rfl) rfl ?_;
          (refine RS.call (Fold_s _ _ _ _ hn) rfl (by kernel_rfl) rfl ?_; rintro v i' L' hi ⟨rfl, rfl, rfl⟩);
          (all_goals refine RS.pv (PV.all tab_ok rfl) rfl ?_);
          (all_goals refine RS.nil ?_))
      | refine CS.ret ?_
      | refine thenQ.ret ?_
      | refine blkQ.ret ?_
      | refine retQ.ret ?_
      | refine CS.block ?_
      | refine CS.exit ?_
      | refine thenQ.exit ?_
      | refine blkQ.normal ?_
      | refine blkQ.here ?_
      | refine blkQ.past rfl ?_
      | refine retQ.normal ?_)
    exact ⟨⟨_, rfl⟩, rfl, rfl⟩
theorem foldI_bd (v : Int) {n : Int} (h : 1 < n) : 0 ≤ foldI v n ∧ foldI v n < n := by
  unfold foldI
  rw [if_neg (by omega)]
  exact ⟨Int.emod_nonneg v (by omega), Int.emod_lt_of_pos v (by omega)⟩
end Go.Proofs.Ytmcajldlcomegaa
