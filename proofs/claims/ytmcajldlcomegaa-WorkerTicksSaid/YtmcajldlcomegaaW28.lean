/- The reference's pool: ticks; jobs compared. -/
import Derived.Test.YtmcajldlcomegaaW27
namespace Go.Proofs.Ytmcajldlcomegaa
open Go Go.Eng

def lI (l : List (Option JobD)) (d : Int) (k : Nat) : List (Option JobD) := (l.take k).map (tkD (d + 1)) ++ (l.drop k).map (tkD d)
theorem lI_zero (l : List (Option JobD)) (d : Int) : lI l d 0 = l.map (tkD d) := by simp [lI]
theorem lI_end (l : List (Option JobD)) (d : Int) : lI l d l.length = l.map (tkD (d + 1)) := by simp [lI]
theorem lI_len (l : List (Option JobD)) (d : Int) (k : Nat) : (lI l d k).length = l.length := by
  simp only [lI, List.length_append, List.length_map, List.length_take, List.length_drop]; omega
theorem lI_at {l : List (Option JobD)} {d : Int} {k : Nat} {o : Option JobD} (h : l[k]? = some o) : (lI l d k)[k]? = some (tkD d o) := by
  have hk := (List.getElem?_eq_some_iff.1 h).1
  unfold lI
  rw [List.getElem?_append_right (by simp; omega)]
  simp [Nat.min_eq_left (Nat.le_of_lt hk), h]
theorem lI_succ {l : List (Option JobD)} {d : Int} {k : Nat} {o : Option JobD} (h : l[k]? = some o) : lI l d (k + 1) = (lI l d k).set k (tkD (d + 1) o) := by
  obtain ⟨A, B, rfl, rfl, _⟩ := split_at h
  unfold lI
  have e1 : (A ++ o :: B).take (A.length + 1) = A ++ [o] := by rw [List.take_add_one, h, List.take_left]; rfl
  have e2 : (A ++ o :: B).drop (A.length + 1) = B := by simp [List.drop_append]
  rw [e1, e2, List.take_left, List.drop_left]
  have e3 : A.length = (A.map (tkD (d + 1))).length := by simp
  rw [e3, List.set_append_right _ _ (Nat.le_refl _)]
  simp
theorem tkD_zero {l : List (Option JobD)} (h : ∀ j, some j ∈ l → 1 ≤ j.left) : l.map (tkD 0) = l := by
  conv => rhs; rw [← List.map_id l]
  refine List.map_congr_left fun o ho => ?_
  cases o with
  | none => rfl
  | some j =>
    have := h j ho
    rw [show tkD 0 (some j) = _ from if_neg (by omega)]
    simp
theorem set_same' {α : Type} {l : List α} {k : Nat} {x : α} (h : l[k]? = some x) : l.set k x = l := by
  obtain ⟨hk, hv⟩ := List.getElem?_eq_some_iff.1 h
  rw [← hv]; exact List.set_getElem_self hk
theorem outs_le (l : List (Option JobD)) : ∀ t : Nat, (outs l t).length ≤ t * l.length
  | 0 => by simp [outs]
  | t + 1 => by
    have ih := outs_le l t
    have h := List.length_filterMap_le (endAt ((t : Int) + 1)) l
    rw [outs_succ, List.length_append, Nat.add_mul]
    omega
theorem Tick_bad (p : Nat) (n : Int) (i : Imm) (L : SH) (h : n < 0 ∨ 1000 < n) :
    FnS Try.prog 17 [.pointer (some ⟨p, 0, none⟩), .int .i64 n] i L fun v i' L' => v = .tuple #[.slice none 0 0, .int .i64 295] ∧ i' = i ∧ L' = L := by
  refine FnS.intro2 Try.func17 rfl Try.ntmps17 (by simp) Try.results17 ?_
  rcases h with h | h
  · repeat' (first
      | refine CS.seq ?_
      | refine thenQ.normal ?_
      | refine CS.cond_true rfl ?_
      | refine CS.cond_false rfl ?_
      | refine CS.skip ?_
      | (refine CS.region (id := 0) ?_;
          refine RS.pv (PV.all tab_ok rfl) rfl ?_;
          refine RS.pv (PV.all tab_ok rfl) rfl ?_;
          refine RS.nil ?_)
      | (refine CS.region (id := 1) ?_;
          refine RS.pv (PV.all tab_ok rfl) rfl ?_;
          (first | refine RS.pv (PV.lssT rfl rfl (by omega)) rfl ?_ | refine RS.pv (PV.lssF rfl rfl (by omega)) rfl ?_ | refine RS.ifLss rfl rfl rfl (fun h => ?_) (fun h => ?_));
          (all_goals refine RS.pv (PV.all tab_ok rfl) rfl ?_);
          (all_goals (first | refine RS.pv (PV.all tab_ok rfl) rfl ?_ | refine RS.skip rfl ?_));
          (all_goals (first | refine RS.pv (PV.gtrT rfl rfl (by omega)) rfl ?_ | refine RS.pv (PV.gtrF rfl rfl (by omega)) rfl ?_ | refine RS.ifGtr rfl rfl rfl (fun h => ?_) (fun h => ?_) | refine RS.skip rfl ?_));
          (all_goals refine RS.pv (PV.all tab_ok rfl) rfl ?_);
          (all_goals refine RS.nil ?_))
      | (refine CS.region (id := 2) ?_;
          refine RS.pv (PV.all tab_ok rfl) rfl ?_;
          refine RS.pv (PV.all tab_ok rfl) rfl ?_;
          refine RS.nil ?_)
      | (refine CS.region (id := 19) ?_;
          refine RS.pv (PV.all tab_ok rfl) rfl ?_;
          refine RS.pv (PV.all tab_ok rfl) rfl ?_;
          refine RS.pv (PV.all tab_ok rfl) rfl ?_;
          refine RS.nil ?_)
      | refine CS.ret ?_
      | refine thenQ.ret ?_
      | refine blkQ.ret ?_
      | refine retQ.ret ?_
      | refine CS.block ?_
      | refine CS.exit ?_
      | refine thenQ.exit ?_
      | refine blkQ.normal ?_
      | refine blkQ.here ?_
      | refine blkQ.past rfl ?_
      | refine retQ.normal ?_)
    exact ⟨rfl, rfl, rfl⟩
  · repeat' (first
      | refine CS.seq ?_
      | refine thenQ.normal ?_
      | refine CS.cond_true rfl ?_
      | refine CS.cond_false rfl ?_
      | refine CS.skip ?_
      | (refine CS.region (id := 0) ?_;
          refine RS.pv (PV.all tab_ok rfl) rfl ?_;
          refine RS.pv (PV.all tab_ok rfl) rfl ?_;
          refine RS.nil ?_)
      | (refine CS.region (id := 1) ?_;
          refine RS.pv (PV.all tab_ok rfl) rfl ?_;
          (first | refine RS.pv (PV.lssT rfl rfl (by omega)) rfl ?_ | refine RS.pv (PV.lssF rfl rfl (by omega)) rfl ?_ | refine RS.ifLss rfl rfl rfl (fun h => ?_) (fun h => ?_));
          (all_goals refine RS.pv (PV.all tab_ok rfl) rfl ?_);
          (all_goals (first | refine RS.pv (PV.all tab_ok rfl) rfl ?_ | refine RS.skip rfl ?_));
          (all_goals (first | refine RS.pv (PV.gtrT rfl rfl (by omega)) rfl ?_ | refine RS.pv (PV.gtrF rfl rfl (by omega)) rfl ?_ | refine RS.ifGtr rfl rfl rfl (fun h => ?_) (fun h => ?_) | refine RS.skip rfl ?_));
          (all_goals refine RS.pv (PV.all tab_ok rfl) rfl ?_);
          (all_goals refine RS.nil ?_))
      | (refine CS.region (id := 2) ?_;
          refine RS.pv (PV.all tab_ok rfl) rfl ?_;
          refine RS.pv (PV.all tab_ok rfl) rfl ?_;
          refine RS.nil ?_)
      | (refine CS.region (id := 19) ?_;
          refine RS.pv (PV.all tab_ok rfl) rfl ?_;
          refine RS.pv (PV.all tab_ok rfl) rfl ?_;
          refine RS.pv (PV.all tab_ok rfl) rfl ?_;
          refine RS.nil ?_)
      | refine CS.ret ?_
      | refine thenQ.ret ?_
      | refine blkQ.ret ?_
      | refine retQ.ret ?_
      | refine CS.block ?_
      | refine CS.exit ?_
      | refine thenQ.exit ?_
      | refine blkQ.normal ?_
      | refine blkQ.here ?_
      | refine blkQ.past rfl ?_
      | refine retQ.normal ?_)
    exact ⟨rfl, rfl, rfl⟩
theorem rTick_bad (v : Value) (nw : Nat) (l : List (Option JobD)) (n : Int) (i : Imm) (L : SH) (hv : RefV i v nw l) (h : n < 0 ∨ 1000 < n) :
    FnS Try.prog 51 [v, .int .i64 n] i L fun v' _ L' => v' = .tuple #[v, .slice none 0 0, .int .i64 295] ∧ L' = L := by
  refine FnS.state (K := fun v' _ L' => ∃ G, v' = .tuple #[v, .slice none 0 0, .int .i64 295] ∧ L' = G ++ L) ?_ ?_
  rotate_left
  · rintro v' i' L' w _ hs ⟨G, h1, rfl⟩
    exact ⟨i', _, Imm.le.refl i', hs.dropL, h1, rfl⟩
  obtain ⟨ao, cap, rfl⟩ := hv.shape
  refine FnS.introCTT tab_ok Try.func51 rfl Try.ntmps51 (by simp) Try.results51 ?_
  rcases h with h | h
  · repeat' (first
      | refine CS.seq ?_
      | refine thenQ.normal ?_
      | refine CS.cond_true rfl ?_
      | refine CS.cond_false rfl ?_
      | refine CS.skip ?_
      | (refine CS.region (id := 0) ?_;
          refine RS.box rfl rfl (fun b => ?_);
          refine RS.alloc tab_ok rfl rfl (fun b => ?_);
          refine RS.pv (PV.all tab_ok rfl) rfl ?_;
          refine RS.pv (PV.all tab_ok rfl) rfl ?_;
          refine RS.nil ?_)
      | (refine CS.region (id := 1) ?_;
          refine RS.pv (PV.all tab_ok rfl) rfl ?_;
          (first | refine RS.pv (PV.lssT rfl rfl (by omega)) rfl ?_ | refine RS.pv (PV.lssF rfl rfl (by omega)) rfl ?_ | refine RS.ifLss rfl rfl rfl (fun h => ?_) (fun h => ?_));
          (all_goals refine RS.pv (PV.all tab_ok rfl) rfl ?_);
          (all_goals (first | refine RS.pv (PV.all tab_ok rfl) rfl ?_ | refine RS.skip rfl ?_));
          (all_goals (first | refine RS.pv (PV.gtrT rfl rfl (by omega)) rfl ?_ | refine RS.pv (PV.gtrF rfl rfl (by omega)) rfl ?_ | refine RS.ifGtr rfl rfl rfl (fun h => ?_) (fun h => ?_) | refine RS.skip rfl ?_));
          (all_goals refine RS.pv (PV.all tab_ok rfl) rfl ?_);
          (all_goals refine RS.nil ?_))
      | (refine CS.region (id := 2) ?_;
          (first | refine RS.lv (LV.load tab_ok rfl (Has.own 0 rfl) rfl) rfl ?_ | refine RS.lv (LV.load tab_ok rfl (Has.own 1 rfl) rfl) rfl ?_ | refine RS.lv (LV.load tab_ok rfl (Has.own 2 rfl) rfl) rfl ?_);
          (first | refine RS.store (k := 0) tab_ok rfl rfl rfl rfl rfl rfl rfl rfl ?_ | refine RS.store (k := 1) tab_ok rfl rfl rfl rfl rfl rfl rfl rfl ?_ | refine RS.store (k := 2) tab_ok rfl rfl rfl rfl rfl rfl rfl rfl ?_);
          refine RS.pv (PV.all tab_ok rfl) rfl ?_;
          refine RS.pv (PV.all tab_ok rfl) rfl ?_;
          refine RS.nil ?_)
      | refine CS.ret ?_
      | refine thenQ.ret ?_
      | refine blkQ.ret ?_
      | refine retQ.ret ?_
      | refine CS.block ?_
      | refine CS.exit ?_
      | refine thenQ.exit ?_
      | refine blkQ.normal ?_
      | refine blkQ.here ?_
      | refine blkQ.past rfl ?_
      | refine retQ.normal ?_)
    exact ⟨_, _, _, _, _, _, rfl, Has.own 0 rfl, rfl, [_, _], rfl, rfl⟩
  · repeat' (first
      | refine CS.seq ?_
      | refine thenQ.normal ?_
      | refine CS.cond_true rfl ?_
      | refine CS.cond_false rfl ?_
      | refine CS.skip ?_
      | (refine CS.region (id := 0) ?_;
          refine RS.box rfl rfl (fun b => ?_);
          refine RS.alloc tab_ok rfl rfl (fun b => ?_);
          refine RS.pv (PV.all tab_ok rfl) rfl ?_;
          refine RS.pv (PV.all tab_ok rfl) rfl ?_;
          refine RS.nil ?_)
      | (refine CS.region (id := 1) ?_;
          refine RS.pv (PV.all tab_ok rfl) rfl ?_;
          (first | refine RS.pv (PV.lssT rfl rfl (by omega)) rfl ?_ | refine RS.pv (PV.lssF rfl rfl (by omega)) rfl ?_ | refine RS.ifLss rfl rfl rfl (fun h => ?_) (fun h => ?_));
          (all_goals refine RS.pv (PV.all tab_ok rfl) rfl ?_);
          (all_goals (first | refine RS.pv (PV.all tab_ok rfl) rfl ?_ | refine RS.skip rfl ?_));
          (all_goals (first | refine RS.pv (PV.gtrT rfl rfl (by omega)) rfl ?_ | refine RS.pv (PV.gtrF rfl rfl (by omega)) rfl ?_ | refine RS.ifGtr rfl rfl rfl (fun h => ?_) (fun h => ?_) | refine RS.skip rfl ?_));
          (all_goals refine RS.pv (PV.all tab_ok rfl) rfl ?_);
          (all_goals refine RS.nil ?_))
      | (refine CS.region (id := 2) ?_;
          (first | refine RS.lv (LV.load tab_ok rfl (Has.own 0 rfl) rfl) rfl ?_ | refine RS.lv (LV.load tab_ok rfl (Has.own 1 rfl) rfl) rfl ?_ | refine RS.lv (LV.load tab_ok rfl (Has.own 2 rfl) rfl) rfl ?_);
          (first | refine RS.store (k := 0) tab_ok rfl rfl rfl rfl rfl rfl rfl rfl ?_ | refine RS.store (k := 1) tab_ok rfl rfl rfl rfl rfl rfl rfl rfl ?_ | refine RS.store (k := 2) tab_ok rfl rfl rfl rfl rfl rfl rfl rfl ?_);
          refine RS.pv (PV.all tab_ok rfl) rfl ?_;
          refine RS.pv (PV.all tab_ok rfl) rfl ?_;
          refine RS.nil ?_)
      | refine CS.ret ?_
      | refine thenQ.ret ?_
      | refine blkQ.ret ?_
      | refine retQ.ret ?_
      | refine CS.block ?_
      | refine CS.exit ?_
      | refine thenQ.exit ?_
      | refine blkQ.normal ?_
      | refine blkQ.here ?_
      | refine blkQ.past rfl ?_
      | refine retQ.normal ?_)
    exact ⟨_, _, _, _, _, _, rfl, Has.own 0 rfl, rfl, [_, _], rfl, rfl⟩
theorem rTick_s (v : Value) (nw : Nat) (l : List (Option JobD)) (t : Nat) (i : Imm) (L : SH) (hv : RefS i v nw l) (ht : t ≤ 1000) :
    FnS Try.prog 51 [v, .int .i64 t] i L fun v' i' L' => (∃ w sv cs, v' = .tuple #[w, sv, .int .i64 0] ∧ RefV i' w nw (l.map (tkD t)) ∧ Sl i' sv 14 (outs l t).length cs ∧ Rw (JobV i') cs (outs l t)) ∧ L' = L := by
  refine FnS.state (K := fun v' i' L' => ∃ w sv cs O G, v' = .tuple #[w, sv, .int .i64 0] ∧ RefV i' w nw (l.map (tkD t)) ∧ SlO 41 sv 14 (outs l t).length cs O ∧ Rw (JobV i') cs (outs l t) ∧ L'.Perm (O ++ (G ++ L))) ?_ ?_
  rotate_left
  · rintro v' i' L' w _ hs ⟨w', sv, cs, O, G, rfl, h1, h2, h3, hL⟩
    obtain ⟨i2, g1, g2, g3⟩ := h2.freeze (hs.perm hL)
    exact ⟨i2, _, g1, g2.dropL, ⟨w', sv, cs, rfl, h1.le g1, g3, Rw.mono h3 fun r j h => h.le g1⟩, rfl⟩
  have hnw := hv.le
  have hl : l.length = nw := by obtain ⟨_, _, _, _, _, h⟩ := hv.ref; exact h
  have hleft : ∀ j, some j ∈ l → 1 ≤ j.left := fun j hj => (hv.job j hj).2.1
  obtain ⟨ao, cap, rfl⟩ := hv.ref.shape
  refine FnS.introCTT tab_ok Try.func51 rfl Try.ntmps51 (by simp) Try.results51 ?_
  repeat' (first
    | refine CS.seq ?_
    | refine thenQ.normal ?_
    | refine CS.cond_true rfl ?_
    | refine CS.cond_false rfl ?_
    | refine CS.skip ?_
    | (refine CS.region (id := 0) ?_;
        refine RS.box rfl rfl (fun b2 => ?_);
        (all_goals refine RS.alloc tab_ok rfl rfl (fun b4 => ?_));
        (all_goals refine RS.pv (PV.all tab_ok rfl) rfl ?_);
        (all_goals refine RS.pv (PV.all tab_ok rfl) rfl ?_);
        (all_goals refine RS.nil ?_))
    | (refine CS.region (id := 1) ?_;
        refine RS.pv (PV.all tab_ok rfl) rfl ?_;
        (first | refine RS.pv (PV.lssT rfl rfl (by omega)) rfl ?_ | refine RS.pv (PV.lssF rfl rfl (by omega)) rfl ?_ | refine RS.ifLss rfl rfl rfl (fun h => ?_) (fun h => ?_));
        (all_goals refine RS.pv (PV.all tab_ok rfl) rfl ?_);
        (all_goals (first | refine RS.pv (PV.all tab_ok rfl) rfl ?_ | refine RS.skip rfl ?_));
        (all_goals (first | refine RS.pv (PV.gtrT rfl rfl (by omega)) rfl ?_ | refine RS.pv (PV.gtrF rfl rfl (by omega)) rfl ?_ | refine RS.ifGtr rfl rfl rfl (fun h => ?_) (fun h => ?_) | refine RS.skip rfl ?_));
        (all_goals refine RS.pv (PV.all tab_ok rfl) rfl ?_);
        (all_goals refine RS.nil ?_))
    | (refine CS.region (id := 3) ?_;
        refine RS.pv (PV.all tab_ok rfl) rfl ?_;
        refine RS.nil ?_)
    | refine CS.ret ?_
    | refine thenQ.ret ?_
    | refine blkQ.ret ?_
    | refine retQ.ret ?_
    | refine CS.block ?_
    | refine CS.exit ?_
    | refine thenQ.exit ?_
    | refine blkQ.normal ?_
    | refine blkQ.here ?_
    | refine blkQ.past rfl ?_
    | refine retQ.normal ?_)
  refine CS.loop [1, 2, 4, 7] (fun m vs i' L' => ∃ (d : Nat) (pa so : Option Addr) (pc sc : Nat) (cs : List Value) (O G : SH), m = t - d ∧ d ≤ t ∧ i.le i' ∧ RefV i' (.agg #[.slice pa nw pc]) nw (l.map (tkD d)) ∧ SlO 41 (.slice so (outs l d).length sc) 14 (outs l d).length cs O ∧ Rw (JobV i') cs (outs l d) ∧ vs = [.int .i64 ((t : Int) - d), .pointer (some ⟨b2, 0, none⟩), .pointer (some ⟨b4, 0, none⟩), .slice so (outs l d).length sc] ∧ L'.Perm ((b2, .cells [.slice pa nw pc].toArray 45 (0, 0)) :: (b4, .cells [.slice none 0 0].toArray 45 (0, 0)) :: (O ++ (G ++ L)))) t ⟨0, ao, none, cap, 0, [], [], [], rfl, Nat.zero_le _, Imm.le.refl i, by rw [show ((0 : Nat) : Int) = 0 from rfl, tkD_zero hleft]; exact hv.ref, SlO.nil 41 14, Rw.nil, by rw [show (t : Int) - ((0 : Nat) : Int) = t by omega]; rfl, List.Perm.swap _ _ _⟩ ?_
  rintro m g vs i' L' _ ⟨d, pa, so, pc, sc, cs, O, G, rfl, hd, hi, hrv, hsl, hrw, rfl, hL⟩
  refine CS.perm hL ?_
  by_cases hlt : d < t
  · repeat' (first
      | refine CS.seq ?_
      | refine thenQ.normal ?_
      | refine CS.cond_true rfl ?_
      | refine CS.cond_false rfl ?_
      | refine CS.skip ?_
      | (refine CS.region (id := 0) ?_;
          refine RS.box rfl rfl (fun b => ?_);
          refine RS.alloc tab_ok rfl rfl (fun b => ?_);
          refine RS.pv (PV.all tab_ok rfl) rfl ?_;
          refine RS.pv (PV.all tab_ok rfl) rfl ?_;
          refine RS.nil ?_)
      | (refine CS.region (id := 1) ?_;
          refine RS.pv (PV.all tab_ok rfl) rfl ?_;
          (first | refine RS.pv (PV.lssT rfl rfl (by omega)) rfl ?_ | refine RS.pv (PV.lssF rfl rfl (by omega)) rfl ?_ | refine RS.ifLss rfl rfl rfl (fun h => ?_) (fun h => ?_));
          (all_goals refine RS.pv (PV.all tab_ok rfl) rfl ?_);
          (all_goals (first | refine RS.pv (PV.all tab_ok rfl) rfl ?_ | refine RS.skip rfl ?_));
          (all_goals (first | refine RS.pv (PV.gtrT rfl rfl (by omega)) rfl ?_ | refine RS.pv (PV.gtrF rfl rfl (by omega)) rfl ?_ | refine RS.ifGtr rfl rfl rfl (fun h => ?_) (fun h => ?_) | refine RS.skip rfl ?_));
          (all_goals refine RS.pv (PV.all tab_ok rfl) rfl ?_);
          (all_goals refine RS.nil ?_))
      | (refine CS.region (id := 2) ?_;
          (first | refine RS.lv (LV.load tab_ok rfl (Has.own 0 rfl) rfl) rfl ?_ | refine RS.lv (LV.load tab_ok rfl (Has.own 1 rfl) rfl) rfl ?_ | refine RS.lv (LV.load tab_ok rfl (Has.own 2 rfl) rfl) rfl ?_);
          (first | refine RS.store (k := 0) tab_ok rfl rfl rfl rfl rfl rfl rfl rfl ?_ | refine RS.store (k := 1) tab_ok rfl rfl rfl rfl rfl rfl rfl rfl ?_ | refine RS.store (k := 2) tab_ok rfl rfl rfl rfl rfl rfl rfl rfl ?_);
          refine RS.pv (PV.all tab_ok rfl) rfl ?_;
          refine RS.pv (PV.all tab_ok rfl) rfl ?_;
          refine RS.nil ?_)
      | (refine CS.region (id := 4) ?_;
          refine RS.pv (PV.all tab_ok rfl) rfl ?_;
          (first | refine RS.pv (PV.gtrT rfl rfl (by omega)) rfl ?_ | refine RS.pv (PV.gtrF rfl rfl (by omega)) rfl ?_ | refine RS.ifGtr rfl rfl rfl (fun h => ?_) (fun h => ?_));
          (all_goals refine RS.nil ?_))
      | (refine CS.region (id := 6) ?_;
          refine RS.pv (PV.all tab_ok rfl) rfl ?_;
          refine RS.nil ?_)
      | refine CS.ret ?_
      | refine thenQ.ret ?_
      | refine blkQ.ret ?_
      | refine retQ.ret ?_
      | refine CS.block ?_
      | refine CS.exit ?_
      | refine thenQ.exit ?_
      | refine blkQ.normal ?_
      | refine blkQ.here ?_
      | refine blkQ.past rfl ?_
      | refine retQ.normal ?_)
    refine CS.loop [1, 2, 4, 7, 8] (fun m vs i' L' => ∃ (k : Nat) (pa so : Option Addr) (pc sc : Nat) (cs : List Value) (O G : SH), m = nw - k ∧ k ≤ nw ∧ i.le i' ∧ RefV i' (.agg #[.slice pa nw pc]) nw (lI l d k) ∧ SlO 41 (.slice so (outs l d ++ (l.take k).filterMap (endAt ((d : Int) + 1))).length sc) 14 (outs l d ++ (l.take k).filterMap (endAt ((d : Int) + 1))).length cs O ∧ Rw (JobV i') cs (outs l d ++ (l.take k).filterMap (endAt ((d : Int) + 1))) ∧ vs = [.int .i64 ((t : Int) - d), .pointer (some ⟨b2, 0, none⟩), .pointer (some ⟨b4, 0, none⟩), .slice so (outs l d ++ (l.take k).filterMap (endAt ((d : Int) + 1))).length sc, .int .i64 (k : Int)] ∧ L'.Perm ((b2, .cells [.slice pa nw pc].toArray 45 (0, 0)) :: (b4, .cells [.slice none 0 0].toArray 45 (0, 0)) :: (O ++ (G ++ L)))) nw ⟨0, pa, so, pc, sc, cs, O, G, rfl, Nat.zero_le _, hi, by rw [lI_zero]; exact hrv, by simpa using hsl, by simpa using hrw, by simp only [List.take_zero, List.filterMap_nil, List.append_nil]; rfl, List.Perm.refl _⟩ ?_
    clear hrv hsl hrw hL
    clear cs O G pa so pc sc
    rintro m2 g2 vs2 i2 L2 _ ⟨k, pa, so, pc, sc, cs, O, G, rfl, hk, hi2, hrv, hsl, hrw, rfl, hL⟩
    refine CS.perm hL ?_
    by_cases hkl : k < nw
    · obtain ⟨o, ho⟩ : ∃ o, l[k]? = some o := ⟨_, List.getElem?_eq_getElem (by omega)⟩
      have hset := lI_succ (d := (d : Int)) ho
      have htk : (l.take (k + 1)).filterMap (endAt ((d : Int) + 1)) = (l.take k).filterMap (endAt ((d : Int) + 1)) ++ (endAt ((d : Int) + 1) o).toList := by
        rw [List.take_add_one, List.filterMap_append, ho]
        cases h : endAt ((d : Int) + 1) o <;> simp [h]
      have hol := outs_le l d
      have hfl := List.length_filterMap_le (endAt ((d : Int) + 1)) (l.take k)
      have htl : (l.take k).length ≤ 8 := by rw [List.length_take]; omega
      have hdl : d * l.length ≤ 1000 * 8 := Nat.mul_le_mul (by omega) (by omega)
      by_cases hn : tkD (d : Int) o = none
      · have hn1 : tkD ((d : Int) + 1) o = none := by
          cases o with
          | none => rfl
          | some j =>
            by_cases h : j.left ≤ (d : Int)
            · exact if_pos (by omega)
            · rw [show tkD (d : Int) (some j) = _ from if_neg h] at hn; cases hn
        have he1 : endAt ((d : Int) + 1) o = none := by
          cases o with
          | none => rfl
          | some j =>
            by_cases h : j.left ≤ (d : Int)
            · exact if_neg (by omega)
            · rw [show tkD (d : Int) (some j) = _ from if_neg h] at hn; cases hn
        have hat := lI_at (d := (d : Int)) ho
        have hsame := set_same' hat
        rw [hn1, ← hn, hsame] at hset
        rw [hn] at hat
        rw [he1] at htk
        obtain ⟨b, off, cc, tt, fz, cap', r, e, hb, hr, hc⟩ := hrv.at hat
        cases e
        obtain ⟨x1, x2, x3, x4, a2, n2, c2, a3, n3, c3, a4, n4, c4, a5, n5, c5, a6, n6, c6, x5, x6, x7, x8, x9, rfl, hidx⟩ := hr.lit
        have hx0 : x1 = 0 := hidx
        subst hx0
        have htk' : (l.take (k + 1)).filterMap (endAt ((d : Int) + 1)) = (l.take k).filterMap (endAt ((d : Int) + 1)) := by rw [htk]; simp
        repeat' (first
          | refine CS.seq ?_
          | refine thenQ.normal ?_
          | refine CS.cond_true rfl ?_
          | refine CS.cond_false rfl ?_
          | refine CS.skip ?_
          | (refine CS.region (id := 0) ?_;
              refine RS.box rfl rfl (fun b => ?_);
              refine RS.alloc tab_ok rfl rfl (fun b => ?_);
              refine RS.pv (PV.all tab_ok rfl) rfl ?_;
              refine RS.pv (PV.all tab_ok rfl) rfl ?_;
              refine RS.nil ?_)
          | (refine CS.region (id := 1) ?_;
              refine RS.pv (PV.all tab_ok rfl) rfl ?_;
              (first | refine RS.pv (PV.lssT rfl rfl (by omega)) rfl ?_ | refine RS.pv (PV.lssF rfl rfl (by omega)) rfl ?_ | refine RS.ifLss rfl rfl rfl (fun h => ?_) (fun h => ?_));
              (all_goals refine RS.pv (PV.all tab_ok rfl) rfl ?_);
              (all_goals (first | refine RS.pv (PV.all tab_ok rfl) rfl ?_ | refine RS.skip rfl ?_));
              (all_goals (first | refine RS.pv (PV.gtrT rfl rfl (by omega)) rfl ?_ | refine RS.pv (PV.gtrF rfl rfl (by omega)) rfl ?_ | refine RS.ifGtr rfl rfl rfl (fun h => ?_) (fun h => ?_) | refine RS.skip rfl ?_));
              (all_goals refine RS.pv (PV.all tab_ok rfl) rfl ?_);
              (all_goals refine RS.nil ?_))
          | (refine CS.region (id := 2) ?_;
              (first | refine RS.lv (LV.load tab_ok rfl (Has.own 0 rfl) rfl) rfl ?_ | refine RS.lv (LV.load tab_ok rfl (Has.own 1 rfl) rfl) rfl ?_ | refine RS.lv (LV.load tab_ok rfl (Has.own 2 rfl) rfl) rfl ?_);
              (first | refine RS.store (k := 0) tab_ok rfl rfl rfl rfl rfl rfl rfl rfl ?_ | refine RS.store (k := 1) tab_ok rfl rfl rfl rfl rfl rfl rfl rfl ?_ | refine RS.store (k := 2) tab_ok rfl rfl rfl rfl rfl rfl rfl rfl ?_);
              refine RS.pv (PV.all tab_ok rfl) rfl ?_;
              refine RS.pv (PV.all tab_ok rfl) rfl ?_;
              refine RS.nil ?_)
          | (refine CS.region (id := 3) ?_;
              refine RS.pv (PV.all tab_ok rfl) rfl ?_;
              refine RS.nil ?_)
          | (refine CS.region (id := 4) ?_;
              refine RS.pv (PV.all tab_ok rfl) rfl ?_;
              (first | refine RS.pv (PV.gtrT rfl rfl (by omega)) rfl ?_ | refine RS.pv (PV.gtrF rfl rfl (by omega)) rfl ?_ | refine RS.ifGtr rfl rfl rfl (fun h => ?_) (fun h => ?_));
              (all_goals refine RS.nil ?_))
          | (refine CS.region (id := 7) ?_;
              refine RS.pv (PV.all tab_ok rfl) rfl ?_;
              refine RS.pv (PV.all tab_ok rfl) rfl ?_;
              (first | refine RS.lv (LV.load tab_ok rfl (Has.own 0 rfl) rfl) rfl ?_ | refine RS.lv (LV.load tab_ok rfl (Has.own 1 rfl) rfl) rfl ?_ | refine RS.lv (LV.load tab_ok rfl (Has.own 2 rfl) rfl) rfl ?_);
              (first | refine RS.pv (PV.lenS tab_ok rfl rfl) rfl ?_ | refine RS.pv (PV.lenT tab_ok rfl rfl) rfl ?_);
              (first | refine RS.pv (PV.lssT rfl rfl (by omega)) rfl ?_ | refine RS.pv (PV.lssF rfl rfl (by omega)) rfl ?_ | refine RS.ifLss rfl rfl rfl (fun h => ?_) (fun h => ?_));
              (all_goals refine RS.nil ?_))
          | (refine CS.region (id := 8) ?_;
              refine RS.pv (PV.all tab_ok rfl) rfl ?_;
              refine RS.pv (PV.add rfl rfl (by omega)) rfl ?_;
              refine RS.pv (PV.all tab_ok rfl) rfl ?_;
              refine RS.nil ?_)
          | (refine CS.region (id := 9) ?_;
              refine RS.pv (PV.all tab_ok rfl) rfl ?_;
              (first | refine RS.lv (LV.load tab_ok rfl (Has.own 0 rfl) rfl) rfl ?_ | refine RS.lv (LV.load tab_ok rfl (Has.own 1 rfl) rfl) rfl ?_ | refine RS.lv (LV.load tab_ok rfl (Has.own 2 rfl) rfl) rfl ?_);
              refine RS.pv (PV.all tab_ok rfl) rfl ?_;
              (first | refine RS.pv (PV.indexAddr tab_ok rfl rfl rfl (by omega)) rfl ?_ | refine RS.pv (PV.indexAddrA tab_ok rfl rfl rfl (by omega)) rfl ?_);
              refine RS.lv (LV.loadL tab_ok rfl (Has.imm hb) (l := [.int .i64 0, .int .i64 x2, .string x3, .int .i64 x4, .slice a2 n2 c2, .slice a3 n3 c3, .slice a4 n4 c4, .slice a5 n5 c5, .slice a6 n6 c6, .string x5, .int .i64 x6, .string x7, .string x8, .int .i64 x9]) rfl rfl rfl hc) rfl ?_;
              (all_goals refine RS.alloc tab_ok rfl rfl (fun b9 => ?_));
              (all_goals (first | refine RS.store (k := 0) tab_ok rfl rfl rfl rfl rfl rfl rfl rfl ?_ | refine RS.store (k := 1) tab_ok rfl rfl rfl rfl rfl rfl rfl rfl ?_ | refine RS.store (k := 2) tab_ok rfl rfl rfl rfl rfl rfl rfl rfl ?_));
              (all_goals refine RS.nil ?_))
          | (refine CS.region (id := 10) ?_;
              refine RS.pv (PV.all tab_ok rfl) rfl ?_;
              (first | refine RS.lv (LV.load tab_ok rfl (Has.own 0 rfl) rfl) rfl ?_ | refine RS.lv (LV.load tab_ok rfl (Has.own 1 rfl) rfl) rfl ?_ | refine RS.lv (LV.load tab_ok rfl (Has.own 2 rfl) rfl) rfl ?_);
              (first | refine RS.pv (PV.all tab_ok rfl) rfl ?_ | refine RS.pv (PV.eqlT rfl rfl (by omega)) rfl ?_ | refine RS.pv (PV.eqlF rfl rfl (by omega)) rfl ?_ | refine RS.ifEql rfl rfl rfl (fun h => ?_) (fun h => ?_) | refine RS.ifSeql rfl rfl rfl (fun h => ?_) (fun h => ?_));
              (all_goals refine RS.nil ?_))
          | refine CS.ret ?_
          | refine thenQ.ret ?_
          | refine blkQ.ret ?_
          | refine retQ.ret ?_
          | refine CS.block ?_
          | refine CS.exit ?_
          | refine thenQ.exit ?_
          | refine blkQ.normal ?_
          | refine blkQ.here ?_
          | refine blkQ.past rfl ?_
          | refine retQ.normal ?_)
        refine ⟨nw - (k + 1), by omega, k + 1, _, so, _, sc, cs, O, (b9, .cells (List.toArray [.int .i64 0, .int .i64 x2, .string x3, .int .i64 x4, .slice a2 n2 c2, .slice a3 n3 c3, .slice a4 n4 c4, .slice a5 n5 c5, .slice a6 n6 c6, .string x5, .int .i64 x6, .string x7, .string x8, .int .i64 x9]) 41 (0, 0)) :: G, rfl, hkl, hi2, by rw [hset]; exact hrv, by rw [htk']; exact hsl, by rw [htk']; exact hrw, by rw [htk']; rfl, ?_⟩
        refine perm_of_sum _ _ fun f => ?_
        simp only [List.map_append, List.map_cons, List.sum_append, List.sum_cons, List.cons_append]
        omega
      · obtain ⟨j, rfl, hjl⟩ : ∃ j, o = some j ∧ (d : Int) < j.left := by
          cases o with
          | none => exact absurd rfl hn
          | some j =>
            refine ⟨j, rfl, ?_⟩
            by_cases h : j.left ≤ (d : Int)
            · exact absurd (if_pos h) hn
            · omega
        have hj := hv.job j (List.mem_of_getElem? ho)
        have hat := lI_at (d := (d : Int)) ho
        rw [show tkD (d : Int) (some j) = some ⟨j.index, j.left - d, j.rcd⟩ from if_neg (by omega)] at hat
        obtain ⟨b, off, cc, tt, fz, cap', r, e, hb, hr, hc⟩ := hrv.at hat
        cases e
        obtain ⟨rc, rfl, hrc⟩ := hr
        obtain ⟨a2, c2, a3, c3, a4, c4, a5, c5, a6, c6, rfl⟩ := hrc.lit
        by_cases hend : j.left = (d : Int) + 1
        · have h0 : j.left - (d : Int) - 1 = 0 := by omega
          rw [show tkD ((d : Int) + 1) (some j) = none from if_pos (by omega)] at hset
          rw [show endAt ((d : Int) + 1) (some j) = some ⟨j.index, 0, j.rcd⟩ from if_pos hend] at htk
          have htk' : outs l d ++ (l.take (k + 1)).filterMap (endAt ((d : Int) + 1)) = (outs l d ++ (l.take k).filterMap (endAt ((d : Int) + 1))) ++ [⟨j.index, 0, j.rcd⟩] := by rw [htk]; simp
          have hlen : (outs l d ++ (l.take k).filterMap (endAt ((d : Int) + 1))).length ≤ 9000 := by rw [List.length_append]; omega
          obtain ⟨acc, hacc⟩ : ∃ acc, acc = outs l d ++ (l.take k).filterMap (endAt ((d : Int) + 1)) := ⟨_, rfl⟩
          rw [← hacc] at hlen hsl hrw htk' ⊢
          repeat' (first
            | refine CS.seq ?_
            | refine thenQ.normal ?_
            | refine CS.cond_true rfl ?_
            | refine CS.cond_false rfl ?_
            | refine CS.skip ?_
            | (refine CS.region (id := 0) ?_;
                refine RS.box rfl rfl (fun b => ?_);
                refine RS.alloc tab_ok rfl rfl (fun b => ?_);
                refine RS.pv (PV.all tab_ok rfl) rfl ?_;
                refine RS.pv (PV.all tab_ok rfl) rfl ?_;
                refine RS.nil ?_)
            | (refine CS.region (id := 1) ?_;
                refine RS.pv (PV.all tab_ok rfl) rfl ?_;
                (first | refine RS.pv (PV.lssT rfl rfl (by omega)) rfl ?_ | refine RS.pv (PV.lssF rfl rfl (by omega)) rfl ?_ | refine RS.ifLss rfl rfl rfl (fun h => ?_) (fun h => ?_));
                (all_goals refine RS.pv (PV.all tab_ok rfl) rfl ?_);
                (all_goals (first | refine RS.pv (PV.all tab_ok rfl) rfl ?_ | refine RS.skip rfl ?_));
                (all_goals (first | refine RS.pv (PV.gtrT rfl rfl (by omega)) rfl ?_ | refine RS.pv (PV.gtrF rfl rfl (by omega)) rfl ?_ | refine RS.ifGtr rfl rfl rfl (fun h => ?_) (fun h => ?_) | refine RS.skip rfl ?_));
                (all_goals refine RS.pv (PV.all tab_ok rfl) rfl ?_);
                (all_goals refine RS.nil ?_))
            | (refine CS.region (id := 2) ?_;
                (first | refine RS.lv (LV.load tab_ok rfl (Has.own 0 rfl) rfl) rfl ?_ | refine RS.lv (LV.load tab_ok rfl (Has.own 1 rfl) rfl) rfl ?_ | refine RS.lv (LV.load tab_ok rfl (Has.own 2 rfl) rfl) rfl ?_);
                (first | refine RS.store (k := 0) tab_ok rfl rfl rfl rfl rfl rfl rfl rfl ?_ | refine RS.store (k := 1) tab_ok rfl rfl rfl rfl rfl rfl rfl rfl ?_ | refine RS.store (k := 2) tab_ok rfl rfl rfl rfl rfl rfl rfl rfl ?_);
                refine RS.pv (PV.all tab_ok rfl) rfl ?_;
                refine RS.pv (PV.all tab_ok rfl) rfl ?_;
                refine RS.nil ?_)
            | (refine CS.region (id := 3) ?_;
                refine RS.pv (PV.all tab_ok rfl) rfl ?_;
                refine RS.nil ?_)
            | (refine CS.region (id := 4) ?_;
                refine RS.pv (PV.all tab_ok rfl) rfl ?_;
                (first | refine RS.pv (PV.gtrT rfl rfl (by omega)) rfl ?_ | refine RS.pv (PV.gtrF rfl rfl (by omega)) rfl ?_ | refine RS.ifGtr rfl rfl rfl (fun h => ?_) (fun h => ?_));
                (all_goals refine RS.nil ?_))
            | (refine CS.region (id := 7) ?_;
                refine RS.pv (PV.all tab_ok rfl) rfl ?_;
                refine RS.pv (PV.all tab_ok rfl) rfl ?_;
                (first | refine RS.lv (LV.load tab_ok rfl (Has.own 0 rfl) rfl) rfl ?_ | refine RS.lv (LV.load tab_ok rfl (Has.own 1 rfl) rfl) rfl ?_ | refine RS.lv (LV.load tab_ok rfl (Has.own 2 rfl) rfl) rfl ?_);
                (first | refine RS.pv (PV.lenS tab_ok rfl rfl) rfl ?_ | refine RS.pv (PV.lenT tab_ok rfl rfl) rfl ?_);
                (first | refine RS.pv (PV.lssT rfl rfl (by omega)) rfl ?_ | refine RS.pv (PV.lssF rfl rfl (by omega)) rfl ?_ | refine RS.ifLss rfl rfl rfl (fun h => ?_) (fun h => ?_));
                (all_goals refine RS.nil ?_))
            | (refine CS.region (id := 8) ?_;
                refine RS.pv (PV.all tab_ok rfl) rfl ?_;
                refine RS.pv (PV.add rfl rfl (by omega)) rfl ?_;
                refine RS.pv (PV.all tab_ok rfl) rfl ?_;
                refine RS.nil ?_)
            | (refine CS.region (id := 9) ?_;
                refine RS.pv (PV.all tab_ok rfl) rfl ?_;
                (first | refine RS.lv (LV.load tab_ok rfl (Has.own 0 rfl) rfl) rfl ?_ | refine RS.lv (LV.load tab_ok rfl (Has.own 1 rfl) rfl) rfl ?_ | refine RS.lv (LV.load tab_ok rfl (Has.own 2 rfl) rfl) rfl ?_);
                refine RS.pv (PV.all tab_ok rfl) rfl ?_;
                (first | refine RS.pv (PV.indexAddr tab_ok rfl rfl rfl (by omega)) rfl ?_ | refine RS.pv (PV.indexAddrA tab_ok rfl rfl rfl (by omega)) rfl ?_);
                refine RS.lv (LV.loadL tab_ok rfl (Has.imm hb) (l := [.int .i64 j.index, .int .i64 (j.left - (d : Int)), .string j.rcd.path, .int .i64 j.rcd.index, .slice a2 j.rcd.props.length c2, .slice a3 j.rcd.tags.length c3, .slice a4 j.rcd.links.length c4, .slice a5 j.rcd.run.length c5, .slice a6 j.rcd.load.length c6, .string j.rcd.name, .int .i64 j.rcd.priority, .string j.rcd.owner, .string j.rcd.group, .int .i64 j.rcd.mode]) rfl rfl rfl hc) rfl ?_;
                (all_goals refine RS.alloc tab_ok rfl rfl (fun b9 => ?_));
                (all_goals (first | refine RS.store (k := 0) tab_ok rfl rfl rfl rfl rfl rfl rfl rfl ?_ | refine RS.store (k := 1) tab_ok rfl rfl rfl rfl rfl rfl rfl rfl ?_ | refine RS.store (k := 2) tab_ok rfl rfl rfl rfl rfl rfl rfl rfl ?_));
                (all_goals refine RS.nil ?_))
            | (refine CS.region (id := 10) ?_;
                refine RS.pv (PV.all tab_ok rfl) rfl ?_;
                (first | refine RS.lv (LV.load tab_ok rfl (Has.own 0 rfl) rfl) rfl ?_ | refine RS.lv (LV.load tab_ok rfl (Has.own 1 rfl) rfl) rfl ?_ | refine RS.lv (LV.load tab_ok rfl (Has.own 2 rfl) rfl) rfl ?_);
                (first | refine RS.pv (PV.all tab_ok rfl) rfl ?_ | refine RS.pv (PV.eqlT rfl rfl (by omega)) rfl ?_ | refine RS.pv (PV.eqlF rfl rfl (by omega)) rfl ?_ | refine RS.ifEql rfl rfl rfl (fun h => ?_) (fun h => ?_) | refine RS.ifSeql rfl rfl rfl (fun h => ?_) (fun h => ?_));
                (all_goals refine RS.nil ?_))
            | (refine CS.region (id := 11) ?_;
                refine RS.pv (PV.all tab_ok rfl) rfl ?_;
                (first | refine RS.lv (LV.load tab_ok rfl (Has.own 0 rfl) rfl) rfl ?_ | refine RS.lv (LV.load tab_ok rfl (Has.own 1 rfl) rfl) rfl ?_ | refine RS.lv (LV.load tab_ok rfl (Has.own 2 rfl) rfl) rfl ?_);
                refine RS.pv (PV.sub rfl rfl (by omega)) rfl ?_;
                refine RS.pv (PV.all tab_ok rfl) rfl ?_;
                (first | refine RS.store (k := 0) tab_ok rfl rfl rfl rfl rfl rfl rfl rfl ?_ | refine RS.store (k := 1) tab_ok rfl rfl rfl rfl rfl rfl rfl rfl ?_ | refine RS.store (k := 2) tab_ok rfl rfl rfl rfl rfl rfl rfl rfl ?_);
                refine RS.nil ?_)
            | (refine CS.region (id := 12) ?_;
                refine RS.pv (PV.all tab_ok rfl) rfl ?_;
                (first | refine RS.lv (LV.load tab_ok rfl (Has.own 0 rfl) rfl) rfl ?_ | refine RS.lv (LV.load tab_ok rfl (Has.own 1 rfl) rfl) rfl ?_ | refine RS.lv (LV.load tab_ok rfl (Has.own 2 rfl) rfl) rfl ?_);
                (first | refine RS.pv (PV.all tab_ok rfl) rfl ?_ | refine RS.pv (PV.eqlT rfl rfl (by omega)) rfl ?_ | refine RS.pv (PV.eqlF rfl rfl (by omega)) rfl ?_ | refine RS.ifEql rfl rfl rfl (fun h => ?_) (fun h => ?_) | refine RS.ifSeql rfl rfl rfl (fun h => ?_) (fun h => ?_));
                (all_goals refine RS.nil ?_))
            | refine CS.ret ?_
            | refine thenQ.ret ?_
            | refine blkQ.ret ?_
            | refine retQ.ret ?_
            | refine CS.block ?_
            | refine CS.exit ?_
            | refine thenQ.exit ?_
            | refine blkQ.normal ?_
            | refine blkQ.here ?_
            | refine blkQ.past rfl ?_
            | refine retQ.normal ?_)
          refine CS.region (id := 13) ?_
          refine RS.pv (PV.all tab_ok rfl) rfl ?_
          (first | refine RS.lv (LV.load tab_ok rfl (Has.own 0 rfl) rfl) rfl ?_ | refine RS.lv (LV.load tab_ok rfl (Has.own 1 rfl) rfl) rfl ?_ | refine RS.lv (LV.load tab_ok rfl (Has.own 2 rfl) rfl) rfl ?_)
          refine RS.buildSliceF tab_ok 14 rfl rfl rfl (fun bb i5 hi5 hbs => ?_)
          refine RS.perm (L' := O ++ ((b9, .cells (List.toArray [.int .i64 j.index, .int .i64 (j.left - (d : Int) - 1), .string j.rcd.path, .int .i64 j.rcd.index, .slice a2 j.rcd.props.length c2, .slice a3 j.rcd.tags.length c3, .slice a4 j.rcd.links.length c4, .slice a5 j.rcd.run.length c5, .slice a6 j.rcd.load.length c6, .string j.rcd.name, .int .i64 j.rcd.priority, .string j.rcd.owner, .string j.rcd.group, .int .i64 j.rcd.mode]) 41 (0, 0)) :: (b2, .cells [.slice (some ⟨b, off, none⟩) nw pc].toArray 45 (0, 0)) :: (b4, .cells [.slice none 0 0].toArray 45 (0, 0)) :: (G ++ L))) ?_ ?_
          · refine perm_of_sum _ _ fun f => ?_
            simp only [List.map_append, List.map_cons, List.sum_append, List.sum_cons]
            omega
          have hjv : JobV i5 [.int .i64 j.index, .int .i64 (j.left - (d : Int) - 1), .string j.rcd.path, .int .i64 j.rcd.index, .slice a2 j.rcd.props.length c2, .slice a3 j.rcd.tags.length c3, .slice a4 j.rcd.links.length c4, .slice a5 j.rcd.run.length c5, .slice a6 j.rcd.load.length c6, .string j.rcd.name, .int .i64 j.rcd.priority, .string j.rcd.owner, .string j.rcd.group, .int .i64 j.rcd.mode] ⟨j.index, 0, j.rcd⟩ := ⟨_, by rw [h0], hrc.le hi5⟩
          refine RS.append tab_ok (sz := 14) (bytes := 224) (k := acc.length) (m := 1) (xs := cs) (news := [.int .i64 j.index, .int .i64 (j.left - (d : Int) - 1), .string j.rcd.path, .int .i64 j.rcd.index, .slice a2 j.rcd.props.length c2, .slice a3 j.rcd.tags.length c3, .slice a4 j.rcd.links.length c4, .slice a5 j.rcd.run.length c5, .slice a6 j.rcd.load.length c6, .string j.rcd.name, .int .i64 j.rcd.priority, .string j.rcd.owner, .string j.rcd.group, .int .i64 j.rcd.mode]) rfl rfl rfl ⟨_, rfl, rfl⟩ ⟨_, rfl, rfl, rfl⟩ (by omega) hsl rfl (hbs.rd _) hjv.one (by omega) (by omega) ?_
          intro v' O' hO' hnil
          have e0 : (outs l d ++ (l.take (k + 1)).filterMap (endAt ((d : Int) + 1))).length = acc.length + 1 := by rw [htk']; simp
          rw [← e0] at hO'
          obtain ⟨so2, sc2, rfl⟩ := SlO.shape hO'
          refine RS.perm (L' := (b9, .cells (List.toArray [.int .i64 j.index, .int .i64 (j.left - (d : Int) - 1), .string j.rcd.path, .int .i64 j.rcd.index, .slice a2 j.rcd.props.length c2, .slice a3 j.rcd.tags.length c3, .slice a4 j.rcd.links.length c4, .slice a5 j.rcd.run.length c5, .slice a6 j.rcd.load.length c6, .string j.rcd.name, .int .i64 j.rcd.priority, .string j.rcd.owner, .string j.rcd.group, .int .i64 j.rcd.mode]) 41 (0, 0)) :: (b2, .cells [.slice (some ⟨b, off, none⟩) nw pc].toArray 45 (0, 0)) :: (b4, .cells [.slice none 0 0].toArray 45 (0, 0)) :: (O' ++ (G ++ L))) ?_ ?_
          · refine perm_of_sum _ _ fun f => ?_
            simp only [List.map_append, List.map_cons, List.sum_append, List.sum_cons]
            omega
          refine RS.pv (PV.all tab_ok rfl) rfl ?_
          refine RS.nil ?_
          repeat' (first
            | refine CS.seq ?_
            | refine thenQ.normal ?_
            | refine CS.cond_true rfl ?_
            | refine CS.cond_false rfl ?_
            | refine CS.skip ?_
            | (refine CS.region (id := 0) ?_;
                refine RS.box rfl rfl (fun b => ?_);
                refine RS.alloc tab_ok rfl rfl (fun b => ?_);
                refine RS.pv (PV.all tab_ok rfl) rfl ?_;
                refine RS.pv (PV.all tab_ok rfl) rfl ?_;
                refine RS.nil ?_)
            | (refine CS.region (id := 1) ?_;
                refine RS.pv (PV.all tab_ok rfl) rfl ?_;
                (first | refine RS.pv (PV.lssT rfl rfl (by omega)) rfl ?_ | refine RS.pv (PV.lssF rfl rfl (by omega)) rfl ?_ | refine RS.ifLss rfl rfl rfl (fun h => ?_) (fun h => ?_));
                (all_goals refine RS.pv (PV.all tab_ok rfl) rfl ?_);
                (all_goals (first | refine RS.pv (PV.all tab_ok rfl) rfl ?_ | refine RS.skip rfl ?_));
                (all_goals (first | refine RS.pv (PV.gtrT rfl rfl (by omega)) rfl ?_ | refine RS.pv (PV.gtrF rfl rfl (by omega)) rfl ?_ | refine RS.ifGtr rfl rfl rfl (fun h => ?_) (fun h => ?_) | refine RS.skip rfl ?_));
                (all_goals refine RS.pv (PV.all tab_ok rfl) rfl ?_);
                (all_goals refine RS.nil ?_))
            | (refine CS.region (id := 2) ?_;
                (first | refine RS.lv (LV.load tab_ok rfl (Has.own 0 rfl) rfl) rfl ?_ | refine RS.lv (LV.load tab_ok rfl (Has.own 1 rfl) rfl) rfl ?_ | refine RS.lv (LV.load tab_ok rfl (Has.own 2 rfl) rfl) rfl ?_);
                (first | refine RS.store (k := 0) tab_ok rfl rfl rfl rfl rfl rfl rfl rfl ?_ | refine RS.store (k := 1) tab_ok rfl rfl rfl rfl rfl rfl rfl rfl ?_ | refine RS.store (k := 2) tab_ok rfl rfl rfl rfl rfl rfl rfl rfl ?_);
                refine RS.pv (PV.all tab_ok rfl) rfl ?_;
                refine RS.pv (PV.all tab_ok rfl) rfl ?_;
                refine RS.nil ?_)
            | (refine CS.region (id := 3) ?_;
                refine RS.pv (PV.all tab_ok rfl) rfl ?_;
                refine RS.nil ?_)
            | (refine CS.region (id := 4) ?_;
                refine RS.pv (PV.all tab_ok rfl) rfl ?_;
                (first | refine RS.pv (PV.gtrT rfl rfl (by omega)) rfl ?_ | refine RS.pv (PV.gtrF rfl rfl (by omega)) rfl ?_ | refine RS.ifGtr rfl rfl rfl (fun h => ?_) (fun h => ?_));
                (all_goals refine RS.nil ?_))
            | (refine CS.region (id := 7) ?_;
                refine RS.pv (PV.all tab_ok rfl) rfl ?_;
                refine RS.pv (PV.all tab_ok rfl) rfl ?_;
                (first | refine RS.lv (LV.load tab_ok rfl (Has.own 0 rfl) rfl) rfl ?_ | refine RS.lv (LV.load tab_ok rfl (Has.own 1 rfl) rfl) rfl ?_ | refine RS.lv (LV.load tab_ok rfl (Has.own 2 rfl) rfl) rfl ?_);
                (first | refine RS.pv (PV.lenS tab_ok rfl rfl) rfl ?_ | refine RS.pv (PV.lenT tab_ok rfl rfl) rfl ?_);
                (first | refine RS.pv (PV.lssT rfl rfl (by omega)) rfl ?_ | refine RS.pv (PV.lssF rfl rfl (by omega)) rfl ?_ | refine RS.ifLss rfl rfl rfl (fun h => ?_) (fun h => ?_));
                (all_goals refine RS.nil ?_))
            | (refine CS.region (id := 8) ?_;
                refine RS.pv (PV.all tab_ok rfl) rfl ?_;
                refine RS.pv (PV.add rfl rfl (by omega)) rfl ?_;
                refine RS.pv (PV.all tab_ok rfl) rfl ?_;
                refine RS.nil ?_)
            | (refine CS.region (id := 9) ?_;
                refine RS.pv (PV.all tab_ok rfl) rfl ?_;
                (first | refine RS.lv (LV.load tab_ok rfl (Has.own 0 rfl) rfl) rfl ?_ | refine RS.lv (LV.load tab_ok rfl (Has.own 1 rfl) rfl) rfl ?_ | refine RS.lv (LV.load tab_ok rfl (Has.own 2 rfl) rfl) rfl ?_);
                refine RS.pv (PV.all tab_ok rfl) rfl ?_;
                (first | refine RS.pv (PV.indexAddr tab_ok rfl rfl rfl (by omega)) rfl ?_ | refine RS.pv (PV.indexAddrA tab_ok rfl rfl rfl (by omega)) rfl ?_);
                (first | refine RS.lv (LV.load tab_ok rfl (Has.own 0 rfl) rfl) rfl ?_ | refine RS.lv (LV.load tab_ok rfl (Has.own 1 rfl) rfl) rfl ?_ | refine RS.lv (LV.load tab_ok rfl (Has.own 2 rfl) rfl) rfl ?_);
                refine RS.alloc tab_ok rfl rfl (fun b => ?_);
                (first | refine RS.store (k := 0) tab_ok rfl rfl rfl rfl rfl rfl rfl rfl ?_ | refine RS.store (k := 1) tab_ok rfl rfl rfl rfl rfl rfl rfl rfl ?_ | refine RS.store (k := 2) tab_ok rfl rfl rfl rfl rfl rfl rfl rfl ?_);
                refine RS.nil ?_)
            | (refine CS.region (id := 10) ?_;
                refine RS.pv (PV.all tab_ok rfl) rfl ?_;
                (first | refine RS.lv (LV.load tab_ok rfl (Has.own 0 rfl) rfl) rfl ?_ | refine RS.lv (LV.load tab_ok rfl (Has.own 1 rfl) rfl) rfl ?_ | refine RS.lv (LV.load tab_ok rfl (Has.own 2 rfl) rfl) rfl ?_);
                (first | refine RS.pv (PV.all tab_ok rfl) rfl ?_ | refine RS.pv (PV.eqlT rfl rfl (by omega)) rfl ?_ | refine RS.pv (PV.eqlF rfl rfl (by omega)) rfl ?_ | refine RS.ifEql rfl rfl rfl (fun h => ?_) (fun h => ?_) | refine RS.ifSeql rfl rfl rfl (fun h => ?_) (fun h => ?_));
                (all_goals refine RS.nil ?_))
            | (refine CS.region (id := 11) ?_;
                refine RS.pv (PV.all tab_ok rfl) rfl ?_;
                (first | refine RS.lv (LV.load tab_ok rfl (Has.own 0 rfl) rfl) rfl ?_ | refine RS.lv (LV.load tab_ok rfl (Has.own 1 rfl) rfl) rfl ?_ | refine RS.lv (LV.load tab_ok rfl (Has.own 2 rfl) rfl) rfl ?_);
                refine RS.pv (PV.sub rfl rfl (by omega)) rfl ?_;
                refine RS.pv (PV.all tab_ok rfl) rfl ?_;
                (first | refine RS.store (k := 0) tab_ok rfl rfl rfl rfl rfl rfl rfl rfl ?_ | refine RS.store (k := 1) tab_ok rfl rfl rfl rfl rfl rfl rfl rfl ?_ | refine RS.store (k := 2) tab_ok rfl rfl rfl rfl rfl rfl rfl rfl ?_);
                refine RS.nil ?_)
            | (refine CS.region (id := 12) ?_;
                refine RS.pv (PV.all tab_ok rfl) rfl ?_;
                (first | refine RS.lv (LV.load tab_ok rfl (Has.own 0 rfl) rfl) rfl ?_ | refine RS.lv (LV.load tab_ok rfl (Has.own 1 rfl) rfl) rfl ?_ | refine RS.lv (LV.load tab_ok rfl (Has.own 2 rfl) rfl) rfl ?_);
                (first | refine RS.pv (PV.all tab_ok rfl) rfl ?_ | refine RS.pv (PV.eqlT rfl rfl (by omega)) rfl ?_ | refine RS.pv (PV.eqlF rfl rfl (by omega)) rfl ?_ | refine RS.ifEql rfl rfl rfl (fun h => ?_) (fun h => ?_) | refine RS.ifSeql rfl rfl rfl (fun h => ?_) (fun h => ?_));
                (all_goals refine RS.nil ?_))
            | (refine CS.region (id := 13) ?_;
                refine RS.pv (PV.all tab_ok rfl) rfl ?_;
                (first | refine RS.lv (LV.load tab_ok rfl (Has.own 0 rfl) rfl) rfl ?_ | refine RS.lv (LV.load tab_ok rfl (Has.own 1 rfl) rfl) rfl ?_ | refine RS.lv (LV.load tab_ok rfl (Has.own 2 rfl) rfl) rfl ?_))
            | (refine CS.region (id := 14) ?_;
                refine RS.pv (PV.all tab_ok rfl) rfl ?_;
                (first | refine RS.store (k := 0) tab_ok rfl rfl rfl rfl rfl rfl rfl rfl ?_ | refine RS.store (k := 1) tab_ok rfl rfl rfl rfl rfl rfl rfl rfl ?_ | refine RS.store (k := 2) tab_ok rfl rfl rfl rfl rfl rfl rfl rfl ?_);
                refine RS.nil ?_)
            | (refine CS.region (id := 15) ?_;
                (first | refine RS.lv (LV.load tab_ok rfl (Has.own 0 rfl) rfl) rfl ?_ | refine RS.lv (LV.load tab_ok rfl (Has.own 1 rfl) rfl) rfl ?_ | refine RS.lv (LV.load tab_ok rfl (Has.own 2 rfl) rfl) rfl ?_);
                refine RS.pv (PV.all tab_ok rfl) rfl ?_;
                (first | refine RS.lv (LV.load tab_ok rfl (Has.own 0 rfl) rfl) rfl ?_ | refine RS.lv (LV.load tab_ok rfl (Has.own 1 rfl) rfl) rfl ?_ | refine RS.lv (LV.load tab_ok rfl (Has.own 2 rfl) rfl) rfl ?_);
                (refine RS.call (set_s _ nw k (lI l d k) zrow none _ _ (hrv.le hi5) hnw hkl (zrow_v _)) rfl (by kernel_rfl) rfl ?_; rintro v i3 L3 hi3 ⟨hv3, rfl⟩; obtain ⟨ao3, cap3, rfl⟩ := hv3.shape);
                (all_goals (first | refine RS.store (k := 0) tab_ok rfl rfl rfl rfl rfl rfl rfl rfl ?_ | refine RS.store (k := 1) tab_ok rfl rfl rfl rfl rfl rfl rfl rfl ?_ | refine RS.store (k := 2) tab_ok rfl rfl rfl rfl rfl rfl rfl rfl ?_));
                (all_goals refine RS.nil ?_))
            | refine CS.ret ?_
            | refine thenQ.ret ?_
            | refine blkQ.ret ?_
            | refine retQ.ret ?_
            | refine CS.block ?_
            | refine CS.exit ?_
            | refine thenQ.exit ?_
            | refine blkQ.normal ?_
            | refine blkQ.here ?_
            | refine blkQ.past rfl ?_
            | refine retQ.normal ?_)
          refine ⟨nw - (k + 1), by omega, k + 1, _, so2, _, sc2, _, O', (b9, .cells (List.toArray [.int .i64 0, .int .i64 0, .string ByteArray.empty, .int .i64 0, .slice none 0 0, .slice none 0 0, .slice none 0 0, .slice none 0 0, .slice none 0 0, .string ByteArray.empty, .int .i64 0, .string ByteArray.empty, .string ByteArray.empty, .int .i64 0]) 41 (0, 0)) :: G, rfl, hkl, (hi2.trans hi5).trans hi3, by rw [hset]; exact hv3, hO', by rw [htk']; exact (Rw.mono hrw fun r j h => h.le (hi5.trans hi3)).snoc (hjv.le hi3), rfl, ?_⟩
          refine perm_of_sum _ _ fun f => ?_
          simp only [List.map_append, List.map_cons, List.sum_append, List.sum_cons, List.cons_append]
          omega
        · rw [show tkD ((d : Int) + 1) (some j) = some ⟨j.index, j.left - (d + 1), j.rcd⟩ from if_neg (by omega)] at hset
          rw [show endAt ((d : Int) + 1) (some j) = none from if_neg hend] at htk
          have htk' : (l.take (k + 1)).filterMap (endAt ((d : Int) + 1)) = (l.take k).filterMap (endAt ((d : Int) + 1)) := by rw [htk]; simp
          have hjv : JobV i2 [.int .i64 j.index, .int .i64 (j.left - (d : Int) - 1), .string j.rcd.path, .int .i64 j.rcd.index, .slice a2 j.rcd.props.length c2, .slice a3 j.rcd.tags.length c3, .slice a4 j.rcd.links.length c4, .slice a5 j.rcd.run.length c5, .slice a6 j.rcd.load.length c6, .string j.rcd.name, .int .i64 j.rcd.priority, .string j.rcd.owner, .string j.rcd.group, .int .i64 j.rcd.mode] ⟨j.index, j.left - (d + 1), j.rcd⟩ := ⟨_, by rw [show j.left - ((d : Int) + 1) = j.left - d - 1 by omega], hrc⟩
          repeat' (first
            | refine CS.seq ?_
            | refine thenQ.normal ?_
            | refine CS.cond_true rfl ?_
            | refine CS.cond_false rfl ?_
            | refine CS.skip ?_
            | (refine CS.region (id := 0) ?_;
                refine RS.box rfl rfl (fun b => ?_);
                refine RS.alloc tab_ok rfl rfl (fun b => ?_);
                refine RS.pv (PV.all tab_ok rfl) rfl ?_;
                refine RS.pv (PV.all tab_ok rfl) rfl ?_;
                refine RS.nil ?_)
            | (refine CS.region (id := 1) ?_;
                refine RS.pv (PV.all tab_ok rfl) rfl ?_;
                (first | refine RS.pv (PV.lssT rfl rfl (by omega)) rfl ?_ | refine RS.pv (PV.lssF rfl rfl (by omega)) rfl ?_ | refine RS.ifLss rfl rfl rfl (fun h => ?_) (fun h => ?_));
                (all_goals refine RS.pv (PV.all tab_ok rfl) rfl ?_);
                (all_goals (first | refine RS.pv (PV.all tab_ok rfl) rfl ?_ | refine RS.skip rfl ?_));
                (all_goals (first | refine RS.pv (PV.gtrT rfl rfl (by omega)) rfl ?_ | refine RS.pv (PV.gtrF rfl rfl (by omega)) rfl ?_ | refine RS.ifGtr rfl rfl rfl (fun h => ?_) (fun h => ?_) | refine RS.skip rfl ?_));
                (all_goals refine RS.pv (PV.all tab_ok rfl) rfl ?_);
                (all_goals refine RS.nil ?_))
            | (refine CS.region (id := 2) ?_;
                (first | refine RS.lv (LV.load tab_ok rfl (Has.own 0 rfl) rfl) rfl ?_ | refine RS.lv (LV.load tab_ok rfl (Has.own 1 rfl) rfl) rfl ?_ | refine RS.lv (LV.load tab_ok rfl (Has.own 2 rfl) rfl) rfl ?_);
                (first | refine RS.store (k := 0) tab_ok rfl rfl rfl rfl rfl rfl rfl rfl ?_ | refine RS.store (k := 1) tab_ok rfl rfl rfl rfl rfl rfl rfl rfl ?_ | refine RS.store (k := 2) tab_ok rfl rfl rfl rfl rfl rfl rfl rfl ?_);
                refine RS.pv (PV.all tab_ok rfl) rfl ?_;
                refine RS.pv (PV.all tab_ok rfl) rfl ?_;
                refine RS.nil ?_)
            | (refine CS.region (id := 3) ?_;
                refine RS.pv (PV.all tab_ok rfl) rfl ?_;
                refine RS.nil ?_)
            | (refine CS.region (id := 4) ?_;
                refine RS.pv (PV.all tab_ok rfl) rfl ?_;
                (first | refine RS.pv (PV.gtrT rfl rfl (by omega)) rfl ?_ | refine RS.pv (PV.gtrF rfl rfl (by omega)) rfl ?_ | refine RS.ifGtr rfl rfl rfl (fun h => ?_) (fun h => ?_));
                (all_goals refine RS.nil ?_))
            | (refine CS.region (id := 7) ?_;
                refine RS.pv (PV.all tab_ok rfl) rfl ?_;
                refine RS.pv (PV.all tab_ok rfl) rfl ?_;
                (first | refine RS.lv (LV.load tab_ok rfl (Has.own 0 rfl) rfl) rfl ?_ | refine RS.lv (LV.load tab_ok rfl (Has.own 1 rfl) rfl) rfl ?_ | refine RS.lv (LV.load tab_ok rfl (Has.own 2 rfl) rfl) rfl ?_);
                (first | refine RS.pv (PV.lenS tab_ok rfl rfl) rfl ?_ | refine RS.pv (PV.lenT tab_ok rfl rfl) rfl ?_);
                (first | refine RS.pv (PV.lssT rfl rfl (by omega)) rfl ?_ | refine RS.pv (PV.lssF rfl rfl (by omega)) rfl ?_ | refine RS.ifLss rfl rfl rfl (fun h => ?_) (fun h => ?_));
                (all_goals refine RS.nil ?_))
            | (refine CS.region (id := 8) ?_;
                refine RS.pv (PV.all tab_ok rfl) rfl ?_;
                refine RS.pv (PV.add rfl rfl (by omega)) rfl ?_;
                refine RS.pv (PV.all tab_ok rfl) rfl ?_;
                refine RS.nil ?_)
            | (refine CS.region (id := 9) ?_;
                refine RS.pv (PV.all tab_ok rfl) rfl ?_;
                (first | refine RS.lv (LV.load tab_ok rfl (Has.own 0 rfl) rfl) rfl ?_ | refine RS.lv (LV.load tab_ok rfl (Has.own 1 rfl) rfl) rfl ?_ | refine RS.lv (LV.load tab_ok rfl (Has.own 2 rfl) rfl) rfl ?_);
                refine RS.pv (PV.all tab_ok rfl) rfl ?_;
                (first | refine RS.pv (PV.indexAddr tab_ok rfl rfl rfl (by omega)) rfl ?_ | refine RS.pv (PV.indexAddrA tab_ok rfl rfl rfl (by omega)) rfl ?_);
                refine RS.lv (LV.loadL tab_ok rfl (Has.imm hb) (l := [.int .i64 j.index, .int .i64 (j.left - (d : Int)), .string j.rcd.path, .int .i64 j.rcd.index, .slice a2 j.rcd.props.length c2, .slice a3 j.rcd.tags.length c3, .slice a4 j.rcd.links.length c4, .slice a5 j.rcd.run.length c5, .slice a6 j.rcd.load.length c6, .string j.rcd.name, .int .i64 j.rcd.priority, .string j.rcd.owner, .string j.rcd.group, .int .i64 j.rcd.mode]) rfl rfl rfl hc) rfl ?_;
                (all_goals refine RS.alloc tab_ok rfl rfl (fun b9 => ?_));
                (all_goals (first | refine RS.store (k := 0) tab_ok rfl rfl rfl rfl rfl rfl rfl rfl ?_ | refine RS.store (k := 1) tab_ok rfl rfl rfl rfl rfl rfl rfl rfl ?_ | refine RS.store (k := 2) tab_ok rfl rfl rfl rfl rfl rfl rfl rfl ?_));
                (all_goals refine RS.nil ?_))
            | (refine CS.region (id := 10) ?_;
                refine RS.pv (PV.all tab_ok rfl) rfl ?_;
                (first | refine RS.lv (LV.load tab_ok rfl (Has.own 0 rfl) rfl) rfl ?_ | refine RS.lv (LV.load tab_ok rfl (Has.own 1 rfl) rfl) rfl ?_ | refine RS.lv (LV.load tab_ok rfl (Has.own 2 rfl) rfl) rfl ?_);
                (first | refine RS.pv (PV.all tab_ok rfl) rfl ?_ | refine RS.pv (PV.eqlT rfl rfl (by omega)) rfl ?_ | refine RS.pv (PV.eqlF rfl rfl (by omega)) rfl ?_ | refine RS.ifEql rfl rfl rfl (fun h => ?_) (fun h => ?_) | refine RS.ifSeql rfl rfl rfl (fun h => ?_) (fun h => ?_));
                (all_goals refine RS.nil ?_))
            | (refine CS.region (id := 11) ?_;
                refine RS.pv (PV.all tab_ok rfl) rfl ?_;
                (first | refine RS.lv (LV.load tab_ok rfl (Has.own 0 rfl) rfl) rfl ?_ | refine RS.lv (LV.load tab_ok rfl (Has.own 1 rfl) rfl) rfl ?_ | refine RS.lv (LV.load tab_ok rfl (Has.own 2 rfl) rfl) rfl ?_);
                refine RS.pv (PV.sub rfl rfl (by omega)) rfl ?_;
                refine RS.pv (PV.all tab_ok rfl) rfl ?_;
                (first | refine RS.store (k := 0) tab_ok rfl rfl rfl rfl rfl rfl rfl rfl ?_ | refine RS.store (k := 1) tab_ok rfl rfl rfl rfl rfl rfl rfl rfl ?_ | refine RS.store (k := 2) tab_ok rfl rfl rfl rfl rfl rfl rfl rfl ?_);
                refine RS.nil ?_)
            | (refine CS.region (id := 12) ?_;
                refine RS.pv (PV.all tab_ok rfl) rfl ?_;
                (first | refine RS.lv (LV.load tab_ok rfl (Has.own 0 rfl) rfl) rfl ?_ | refine RS.lv (LV.load tab_ok rfl (Has.own 1 rfl) rfl) rfl ?_ | refine RS.lv (LV.load tab_ok rfl (Has.own 2 rfl) rfl) rfl ?_);
                (first | refine RS.pv (PV.all tab_ok rfl) rfl ?_ | refine RS.pv (PV.eqlT rfl rfl (by omega)) rfl ?_ | refine RS.pv (PV.eqlF rfl rfl (by omega)) rfl ?_ | refine RS.ifEql rfl rfl rfl (fun h => ?_) (fun h => ?_) | refine RS.ifSeql rfl rfl rfl (fun h => ?_) (fun h => ?_));
                (all_goals refine RS.nil ?_))
            | (refine CS.region (id := 15) ?_;
                (first | refine RS.lv (LV.load tab_ok rfl (Has.own 0 rfl) rfl) rfl ?_ | refine RS.lv (LV.load tab_ok rfl (Has.own 1 rfl) rfl) rfl ?_ | refine RS.lv (LV.load tab_ok rfl (Has.own 2 rfl) rfl) rfl ?_);
                refine RS.pv (PV.all tab_ok rfl) rfl ?_;
                (first | refine RS.lv (LV.load tab_ok rfl (Has.own 0 rfl) rfl) rfl ?_ | refine RS.lv (LV.load tab_ok rfl (Has.own 1 rfl) rfl) rfl ?_ | refine RS.lv (LV.load tab_ok rfl (Has.own 2 rfl) rfl) rfl ?_);
                (refine RS.call (set_s _ nw k (lI l d k) [.int .i64 j.index, .int .i64 (j.left - (d : Int) - 1), .string j.rcd.path, .int .i64 j.rcd.index, .slice a2 j.rcd.props.length c2, .slice a3 j.rcd.tags.length c3, .slice a4 j.rcd.links.length c4, .slice a5 j.rcd.run.length c5, .slice a6 j.rcd.load.length c6, .string j.rcd.name, .int .i64 j.rcd.priority, .string j.rcd.owner, .string j.rcd.group, .int .i64 j.rcd.mode] (some ⟨j.index, j.left - (d + 1), j.rcd⟩) _ _ hrv hnw hkl hjv) rfl (by kernel_rfl) rfl ?_; rintro v i3 L3 hi3 ⟨hv3, rfl⟩; obtain ⟨ao3, cap3, rfl⟩ := hv3.shape);
                (all_goals (first | refine RS.store (k := 0) tab_ok rfl rfl rfl rfl rfl rfl rfl rfl ?_ | refine RS.store (k := 1) tab_ok rfl rfl rfl rfl rfl rfl rfl rfl ?_ | refine RS.store (k := 2) tab_ok rfl rfl rfl rfl rfl rfl rfl rfl ?_));
                (all_goals refine RS.nil ?_))
            | refine CS.ret ?_
            | refine thenQ.ret ?_
            | refine blkQ.ret ?_
            | refine retQ.ret ?_
            | refine CS.block ?_
            | refine CS.exit ?_
            | refine thenQ.exit ?_
            | refine blkQ.normal ?_
            | refine blkQ.here ?_
            | refine blkQ.past rfl ?_
            | refine retQ.normal ?_)
          refine ⟨nw - (k + 1), by omega, k + 1, _, so, _, sc, cs, O, (b9, .cells (List.toArray [.int .i64 j.index, .int .i64 (j.left - (d : Int) - 1), .string j.rcd.path, .int .i64 j.rcd.index, .slice a2 j.rcd.props.length c2, .slice a3 j.rcd.tags.length c3, .slice a4 j.rcd.links.length c4, .slice a5 j.rcd.run.length c5, .slice a6 j.rcd.load.length c6, .string j.rcd.name, .int .i64 j.rcd.priority, .string j.rcd.owner, .string j.rcd.group, .int .i64 j.rcd.mode]) 41 (0, 0)) :: G, rfl, hkl, hi2.trans hi3, by rw [hset]; exact hv3, by rw [htk']; exact hsl, by rw [htk']; exact Rw.mono hrw fun r j h => h.le hi3, by rw [htk']; rfl, ?_⟩
          refine perm_of_sum _ _ fun f => ?_
          simp only [List.map_append, List.map_cons, List.sum_append, List.sum_cons, List.cons_append]
          omega
    · have hke : k = nw := by omega
      subst hke
      have hle : lI l d k = l.map (tkD ((d + 1 : Nat) : Int)) := by rw [← hl, lI_end]; rfl
      have hoe : outs l d ++ (l.take k).filterMap (endAt ((d : Int) + 1)) = outs l (d + 1) := by rw [outs_succ, ← hl, List.take_length]
      rw [hoe] at hsl hrw ⊢
      rw [hle] at hrv
      repeat' (first
        | refine CS.seq ?_
        | refine thenQ.normal ?_
        | refine CS.cond_true rfl ?_
        | refine CS.cond_false rfl ?_
        | refine CS.skip ?_
        | (refine CS.region (id := 0) ?_;
            refine RS.box rfl rfl (fun b => ?_);
            refine RS.alloc tab_ok rfl rfl (fun b => ?_);
            refine RS.pv (PV.all tab_ok rfl) rfl ?_;
            refine RS.pv (PV.all tab_ok rfl) rfl ?_;
            refine RS.nil ?_)
        | (refine CS.region (id := 1) ?_;
            refine RS.pv (PV.all tab_ok rfl) rfl ?_;
            (first | refine RS.pv (PV.lssT rfl rfl (by omega)) rfl ?_ | refine RS.pv (PV.lssF rfl rfl (by omega)) rfl ?_ | refine RS.ifLss rfl rfl rfl (fun h => ?_) (fun h => ?_));
            (all_goals refine RS.pv (PV.all tab_ok rfl) rfl ?_);
            (all_goals (first | refine RS.pv (PV.all tab_ok rfl) rfl ?_ | refine RS.skip rfl ?_));
            (all_goals (first | refine RS.pv (PV.gtrT rfl rfl (by omega)) rfl ?_ | refine RS.pv (PV.gtrF rfl rfl (by omega)) rfl ?_ | refine RS.ifGtr rfl rfl rfl (fun h => ?_) (fun h => ?_) | refine RS.skip rfl ?_));
            (all_goals refine RS.pv (PV.all tab_ok rfl) rfl ?_);
            (all_goals refine RS.nil ?_))
        | (refine CS.region (id := 2) ?_;
            (first | refine RS.lv (LV.load tab_ok rfl (Has.own 0 rfl) rfl) rfl ?_ | refine RS.lv (LV.load tab_ok rfl (Has.own 1 rfl) rfl) rfl ?_ | refine RS.lv (LV.load tab_ok rfl (Has.own 2 rfl) rfl) rfl ?_);
            (first | refine RS.store (k := 0) tab_ok rfl rfl rfl rfl rfl rfl rfl rfl ?_ | refine RS.store (k := 1) tab_ok rfl rfl rfl rfl rfl rfl rfl rfl ?_ | refine RS.store (k := 2) tab_ok rfl rfl rfl rfl rfl rfl rfl rfl ?_);
            refine RS.pv (PV.all tab_ok rfl) rfl ?_;
            refine RS.pv (PV.all tab_ok rfl) rfl ?_;
            refine RS.nil ?_)
        | (refine CS.region (id := 4) ?_;
            refine RS.pv (PV.all tab_ok rfl) rfl ?_;
            (first | refine RS.pv (PV.gtrT rfl rfl (by omega)) rfl ?_ | refine RS.pv (PV.gtrF rfl rfl (by omega)) rfl ?_ | refine RS.ifGtr rfl rfl rfl (fun h => ?_) (fun h => ?_));
            (all_goals refine RS.nil ?_))
        | (refine CS.region (id := 5) ?_;
            refine RS.pv (PV.all tab_ok rfl) rfl ?_;
            refine RS.pv (PV.sub rfl rfl (by omega)) rfl ?_;
            refine RS.pv (PV.all tab_ok rfl) rfl ?_;
            refine RS.nil ?_)
        | (refine CS.region (id := 7) ?_;
            refine RS.pv (PV.all tab_ok rfl) rfl ?_;
            refine RS.pv (PV.all tab_ok rfl) rfl ?_;
            (first | refine RS.lv (LV.load tab_ok rfl (Has.own 0 rfl) rfl) rfl ?_ | refine RS.lv (LV.load tab_ok rfl (Has.own 1 rfl) rfl) rfl ?_ | refine RS.lv (LV.load tab_ok rfl (Has.own 2 rfl) rfl) rfl ?_);
            (first | refine RS.pv (PV.lenS tab_ok rfl rfl) rfl ?_ | refine RS.pv (PV.lenT tab_ok rfl rfl) rfl ?_);
            (first | refine RS.pv (PV.lssT rfl rfl (by omega)) rfl ?_ | refine RS.pv (PV.lssF rfl rfl (by omega)) rfl ?_ | refine RS.ifLss rfl rfl rfl (fun h => ?_) (fun h => ?_));
            (all_goals refine RS.nil ?_))
        | (refine CS.region (id := 8) ?_;
            refine RS.pv (PV.all tab_ok rfl) rfl ?_;
            refine RS.pv (PV.add rfl rfl (by omega)) rfl ?_;
            refine RS.pv (PV.all tab_ok rfl) rfl ?_;
            refine RS.nil ?_)
        | refine CS.ret ?_
        | refine thenQ.ret ?_
        | refine blkQ.ret ?_
        | refine retQ.ret ?_
        | refine CS.block ?_
        | refine CS.exit ?_
        | refine thenQ.exit ?_
        | refine blkQ.normal ?_
        | refine blkQ.here ?_
        | refine blkQ.past rfl ?_
        | refine retQ.normal ?_)
      exact ⟨t - (d + 1), by omega, d + 1, pa, so, pc, sc, cs, O, G, rfl, hlt, hi2, hrv, hsl, hrw, by rw [show (t : Int) - ((d + 1 : Nat) : Int) = (t : Int) - d - 1 by omega]; rfl, List.Perm.refl _⟩
  · have hde : d = t := by omega
    subst hde
    repeat' (first
      | refine CS.seq ?_
      | refine thenQ.normal ?_
      | refine CS.cond_true rfl ?_
      | refine CS.cond_false rfl ?_
      | refine CS.skip ?_
      | (refine CS.region (id := 0) ?_;
          refine RS.box rfl rfl (fun b => ?_);
          refine RS.alloc tab_ok rfl rfl (fun b => ?_);
          refine RS.pv (PV.all tab_ok rfl) rfl ?_;
          refine RS.pv (PV.all tab_ok rfl) rfl ?_;
          refine RS.nil ?_)
      | (refine CS.region (id := 1) ?_;
          refine RS.pv (PV.all tab_ok rfl) rfl ?_;
          (first | refine RS.pv (PV.lssT rfl rfl (by omega)) rfl ?_ | refine RS.pv (PV.lssF rfl rfl (by omega)) rfl ?_ | refine RS.ifLss rfl rfl rfl (fun h => ?_) (fun h => ?_));
          (all_goals refine RS.pv (PV.all tab_ok rfl) rfl ?_);
          (all_goals (first | refine RS.pv (PV.all tab_ok rfl) rfl ?_ | refine RS.skip rfl ?_));
          (all_goals (first | refine RS.pv (PV.gtrT rfl rfl (by omega)) rfl ?_ | refine RS.pv (PV.gtrF rfl rfl (by omega)) rfl ?_ | refine RS.ifGtr rfl rfl rfl (fun h => ?_) (fun h => ?_) | refine RS.skip rfl ?_));
          (all_goals refine RS.pv (PV.all tab_ok rfl) rfl ?_);
          (all_goals refine RS.nil ?_))
      | (refine CS.region (id := 2) ?_;
          (first | refine RS.lv (LV.load tab_ok rfl (Has.own 0 rfl) rfl) rfl ?_ | refine RS.lv (LV.load tab_ok rfl (Has.own 1 rfl) rfl) rfl ?_ | refine RS.lv (LV.load tab_ok rfl (Has.own 2 rfl) rfl) rfl ?_);
          (first | refine RS.store (k := 0) tab_ok rfl rfl rfl rfl rfl rfl rfl rfl ?_ | refine RS.store (k := 1) tab_ok rfl rfl rfl rfl rfl rfl rfl rfl ?_ | refine RS.store (k := 2) tab_ok rfl rfl rfl rfl rfl rfl rfl rfl ?_);
          refine RS.pv (PV.all tab_ok rfl) rfl ?_;
          refine RS.pv (PV.all tab_ok rfl) rfl ?_;
          refine RS.nil ?_)
      | (refine CS.region (id := 3) ?_;
          refine RS.pv (PV.all tab_ok rfl) rfl ?_;
          refine RS.nil ?_)
      | (refine CS.region (id := 4) ?_;
          refine RS.pv (PV.all tab_ok rfl) rfl ?_;
          (first | refine RS.pv (PV.gtrT rfl rfl (by omega)) rfl ?_ | refine RS.pv (PV.gtrF rfl rfl (by omega)) rfl ?_ | refine RS.ifGtr rfl rfl rfl (fun h => ?_) (fun h => ?_));
          (all_goals refine RS.nil ?_))
      | (refine CS.region (id := 16) ?_;
          (first | refine RS.lv (LV.load tab_ok rfl (Has.own 0 rfl) rfl) rfl ?_ | refine RS.lv (LV.load tab_ok rfl (Has.own 1 rfl) rfl) rfl ?_ | refine RS.lv (LV.load tab_ok rfl (Has.own 2 rfl) rfl) rfl ?_);
          refine RS.pv (PV.all tab_ok rfl) rfl ?_;
          (first | refine RS.store (k := 0) tab_ok rfl rfl rfl rfl rfl rfl rfl rfl ?_ | refine RS.store (k := 1) tab_ok rfl rfl rfl rfl rfl rfl rfl rfl ?_ | refine RS.store (k := 2) tab_ok rfl rfl rfl rfl rfl rfl rfl rfl ?_);
          refine RS.pv (PV.all tab_ok rfl) rfl ?_;
          refine RS.pv (PV.all tab_ok rfl) rfl ?_;
          refine RS.nil ?_)
      | refine CS.ret ?_
      | refine thenQ.ret ?_
      | refine blkQ.ret ?_
      | refine retQ.ret ?_
      | refine CS.block ?_
      | refine CS.exit ?_
      | refine thenQ.exit ?_
      | refine blkQ.normal ?_
      | refine blkQ.here ?_
      | refine blkQ.past rfl ?_
      | refine retQ.normal ?_)
    exact ⟨_, _, _, _, _, _, rfl, Has.own 1 rfl, rfl, _, _, cs, O, (b2, .cells [.slice pa nw pc].toArray 45 (0, 0)) :: (b4, .cells [.slice pa nw pc].toArray 45 (0, 0)) :: G, rfl, hrv, hsl, hrw, by
      refine perm_of_sum _ _ fun f => ?_
      simp only [List.map_append, List.map_cons, List.sum_append, List.sum_cons, List.cons_append]
      omega⟩
end Go.Proofs.Ytmcajldlcomegaa
