/- Spoilt, part 2: the walk. -/
import Derived.Test.YtmcajldlcomegaaW40
namespace Go.Proofs.Ytmcajldlcomegaa
open Go Go.Eng

def isI64s : List Value → Bool
  | [] => true
  | .int .i64 _ :: l => isI64s l
  | _ => false
theorem isI64s_at : ∀ (l : List Value) (j : Nat), isI64s l = true → j < l.length → ∃ k, l[j]? = some (.int .i64 k)
  | [], _, _, h => absurd h (Nat.not_lt_zero _)
  | v :: l, j, h, hj => by
    unfold isI64s at h
    split at h
    · rename_i hq; cases hq
    · rename_i k l2 hq
      cases hq
      cases j with
      | zero => exact ⟨k, rfl⟩
      | succ j => exact isI64s_at _ j h (by simpa using hj)
    · cases h
theorem ints_at {l : List Value} {o : Option Value} {j : Nat} (h : isI64s l = true) (ho : o = l[j]?) (hj : j < l.length) : ∃ k, o = some (.int .i64 k) := by
  obtain ⟨k, hk⟩ := isI64s_at l j h hj
  exact ⟨k, ho.trans hk⟩
theorem Spoilt0_s (tp : Nat) (lv : Value) (at_ : Int) (rc : List Value) (r : Rec) (i : Imm) (R : SH) (hl : IntSl i lv) (ha : 0 ≤ at_ ∧ at_ ≤ 10000000) (hr : RecV i rc r) (hn : r.props.length ≤ 7 ∧ r.tags.length ≤ 4 ∧ r.run.length ≤ 3 ∧ r.load.length ≤ 3) (hk : r.links.length ≤ 4) :
    FnS Try.prog 33 [.pointer (some ⟨tp, 0, none⟩), .agg rc.toArray] i ((tp, tapeO lv (at_)) :: R) fun v i' L' => ∃ rc' r' at', v = .agg (List.toArray rc') ∧ RecV i' rc' r' ∧ r'.tame ∧ L' = (tp, tapeO lv (at')) :: R := by
  refine FnS.state (K := fun v i' L' => ∃ rc' r' at' G, v = .agg (List.toArray rc') ∧ RecV i' rc' r' ∧ r'.tame ∧ L' = G ++ ((tp, tapeO lv (at')) :: R)) ?_ ?_
  rotate_left
  · rintro v i' L' w _ hs ⟨rc, r, at', G, h1, h2, h3, rfl⟩
    exact ⟨i', _, Imm.le.refl i', hs.dropL, rc, r, at', h1, h2, h3, rfl⟩
  obtain ⟨v2, v3, v4, v5, v6, rfl, g2, g3, g4, g5, g6⟩ := hr
  obtain ⟨a2, c2, rfl, -⟩ := id g2
  obtain ⟨a3, c3, rfl, -⟩ := id g3
  obtain ⟨a4, c4, rfl, -⟩ := id g4
  obtain ⟨a5, c5, rfl, -⟩ := id g5
  obtain ⟨a6, c6, rfl, -⟩ := id g6
  obtain ⟨n1, n2, n3, n4⟩ := hn
  refine FnS.introC tab_ok Try.func33 rfl Try.ntmps33 (by simp) Try.results33 ?_
  repeat' (first
    | refine CS.seq ?_
    | refine thenQ.normal ?_
    | refine CS.cond_true rfl ?_
    | refine CS.cond_false rfl ?_
    | refine CS.skip ?_
    | (refine CS.region (id := 0) ?_;
        refine RS.box rfl rfl (fun b3 => ?_);
        (all_goals refine RS.alloc tab_ok rfl rfl (fun b4 => ?_));
        (all_goals refine RS.nil ?_))
    | refine CS.ret ?_
    | refine thenQ.ret ?_
    | refine blkQ.ret ?_
    | refine retQ.ret ?_
    | refine CS.block ?_
    | refine CS.exit ?_
    | refine thenQ.exit ?_
    | refine blkQ.normal ?_
    | refine blkQ.here ?_
    | refine blkQ.past rfl ?_
    | refine retQ.normal ?_)
  refine CS.region (id := 1) ?_
  refine RS.pv (PV.all tab_ok rfl) rfl ?_
  (first | refine RS.lv (LV.load tab_ok rfl (Has.own 0 rfl) rfl) rfl ?_ | refine RS.lv (LV.load tab_ok rfl (Has.own 1 rfl) rfl) rfl ?_ | refine RS.lv (LV.load tab_ok rfl (Has.own 2 rfl) rfl) rfl ?_)
  refine RS.append tab_ok (sz := 2) (bytes := 32) (k := 0) (m := r.props.length) (xs := []) (news := attrs r.props) (O := []) (L0 := (b4, .cells (List.toArray [.string ByteArray.empty, .int .i64 0, .slice none 0 0, .slice none 0 0, .slice none 0 0, .slice none 0 0, .slice none 0 0, .string ByteArray.empty, .int .i64 0, .string ByteArray.empty, .string ByteArray.empty, .int .i64 0]) 36 (0, 0)) :: (b3, .cells (List.toArray [.string r.path, .int .i64 r.index, (.slice a2 r.props.length c2), (.slice a3 r.tags.length c3), (.slice a4 r.links.length c4), .slice a5 r.run.length c5, .slice a6 r.load.length c6, .string r.name, .int .i64 r.priority, .string r.owner, .string r.group, .int .i64 r.mode]) 36 (0, 0)) :: (tp, tapeO lv (at_)) :: R) rfl rfl rfl ⟨_, rfl, rfl⟩ ⟨_, rfl, rfl, rfl⟩ (by omega) (SlO.nil 103 2) rfl (g2.rd _) (attrs_one _) (by omega) (by omega) ?_
  intro v' O1 hO1 hnil; clear hnil
  rw [Nat.zero_add, List.nil_append] at hO1
  obtain ⟨p2, q2, rfl⟩ := SlO.shape hO1
  refine RS.perm (L' := (b3, .cells (List.toArray [.string r.path, .int .i64 r.index, (.slice a2 r.props.length c2), (.slice a3 r.tags.length c3), (.slice a4 r.links.length c4), .slice a5 r.run.length c5, .slice a6 r.load.length c6, .string r.name, .int .i64 r.priority, .string r.owner, .string r.group, .int .i64 r.mode]) 36 (0, 0)) :: (b4, .cells (List.toArray [.string ByteArray.empty, .int .i64 0, .slice none 0 0, .slice none 0 0, .slice none 0 0, .slice none 0 0, .slice none 0 0, .string ByteArray.empty, .int .i64 0, .string ByteArray.empty, .string ByteArray.empty, .int .i64 0]) 36 (0, 0)) :: (tp, tapeO lv (at_)) :: (O1 ++ R)) (by refine perm_of_sum _ _ fun f => ?_; simp only [List.map_append, List.map_cons, List.sum_append, List.sum_cons]; omega) ?_
  refine RS.pv (PV.all tab_ok rfl) rfl ?_
  (first | refine RS.store (k := 0) tab_ok rfl rfl rfl rfl rfl rfl rfl rfl ?_ | refine RS.store (k := 1) tab_ok rfl rfl rfl rfl rfl rfl rfl rfl ?_ | refine RS.store (k := 2) tab_ok rfl rfl rfl rfl rfl rfl rfl rfl ?_)
  refine RS.nil ?_
  refine thenQ.normal ?_
  refine CS.seq ?_
  refine CS.region (id := 2) ?_
  refine RS.pv (PV.all tab_ok rfl) rfl ?_
  (first | refine RS.lv (LV.load tab_ok rfl (Has.own 0 rfl) rfl) rfl ?_ | refine RS.lv (LV.load tab_ok rfl (Has.own 1 rfl) rfl) rfl ?_ | refine RS.lv (LV.load tab_ok rfl (Has.own 2 rfl) rfl) rfl ?_)
  refine RS.append tab_ok (sz := 1) (bytes := 16) (k := 0) (m := r.tags.length) (xs := []) (news := strs r.tags) (O := []) (L0 := (b3, .cells (List.toArray [.string r.path, .int .i64 r.index, (.slice p2 r.props.length q2), (.slice a3 r.tags.length c3), (.slice a4 r.links.length c4), .slice a5 r.run.length c5, .slice a6 r.load.length c6, .string r.name, .int .i64 r.priority, .string r.owner, .string r.group, .int .i64 r.mode]) 36 (0, 0)) :: (b4, .cells (List.toArray [.string ByteArray.empty, .int .i64 0, .slice none 0 0, .slice none 0 0, .slice none 0 0, .slice none 0 0, .slice none 0 0, .string ByteArray.empty, .int .i64 0, .string ByteArray.empty, .string ByteArray.empty, .int .i64 0]) 36 (0, 0)) :: (tp, tapeO lv (at_)) :: (O1 ++ R)) rfl rfl rfl ⟨_, rfl, rfl⟩ ⟨_, rfl, rfl, rfl⟩ (by omega) (SlO.nil 9 1) rfl (g3.rd _) (strs_one _) (by omega) (by omega) ?_
  intro v' O2 hO2 hnil; clear hnil
  rw [Nat.zero_add, List.nil_append] at hO2
  obtain ⟨p3, q3, rfl⟩ := SlO.shape hO2
  refine RS.perm (L' := (b3, .cells (List.toArray [.string r.path, .int .i64 r.index, (.slice p2 r.props.length q2), (.slice a3 r.tags.length c3), (.slice a4 r.links.length c4), .slice a5 r.run.length c5, .slice a6 r.load.length c6, .string r.name, .int .i64 r.priority, .string r.owner, .string r.group, .int .i64 r.mode]) 36 (0, 0)) :: (b4, .cells (List.toArray [.string ByteArray.empty, .int .i64 0, .slice none 0 0, .slice none 0 0, .slice none 0 0, .slice none 0 0, .slice none 0 0, .string ByteArray.empty, .int .i64 0, .string ByteArray.empty, .string ByteArray.empty, .int .i64 0]) 36 (0, 0)) :: (tp, tapeO lv (at_)) :: (O1 ++ (O2 ++ R))) (by refine perm_of_sum _ _ fun f => ?_; simp only [List.map_append, List.map_cons, List.sum_append, List.sum_cons]; omega) ?_
  refine RS.pv (PV.all tab_ok rfl) rfl ?_
  (first | refine RS.store (k := 0) tab_ok rfl rfl rfl rfl rfl rfl rfl rfl ?_ | refine RS.store (k := 1) tab_ok rfl rfl rfl rfl rfl rfl rfl rfl ?_ | refine RS.store (k := 2) tab_ok rfl rfl rfl rfl rfl rfl rfl rfl ?_)
  refine RS.nil ?_
  refine thenQ.normal ?_
  refine CS.seq ?_
  refine CS.region (id := 3) ?_
  refine RS.pv (PV.all tab_ok rfl) rfl ?_
  (first | refine RS.lv (LV.load tab_ok rfl (Has.own 0 rfl) rfl) rfl ?_ | refine RS.lv (LV.load tab_ok rfl (Has.own 1 rfl) rfl) rfl ?_ | refine RS.lv (LV.load tab_ok rfl (Has.own 2 rfl) rfl) rfl ?_)
  refine RS.append tab_ok (sz := 1) (bytes := 16) (k := 0) (m := r.links.length) (xs := []) (news := strs r.links) (O := []) (L0 := (b3, .cells (List.toArray [.string r.path, .int .i64 r.index, (.slice p2 r.props.length q2), (.slice p3 r.tags.length q3), (.slice a4 r.links.length c4), .slice a5 r.run.length c5, .slice a6 r.load.length c6, .string r.name, .int .i64 r.priority, .string r.owner, .string r.group, .int .i64 r.mode]) 36 (0, 0)) :: (b4, .cells (List.toArray [.string ByteArray.empty, .int .i64 0, .slice none 0 0, .slice none 0 0, .slice none 0 0, .slice none 0 0, .slice none 0 0, .string ByteArray.empty, .int .i64 0, .string ByteArray.empty, .string ByteArray.empty, .int .i64 0]) 36 (0, 0)) :: (tp, tapeO lv (at_)) :: (O1 ++ (O2 ++ R))) rfl rfl rfl ⟨_, rfl, rfl⟩ ⟨_, rfl, rfl, rfl⟩ (by omega) (SlO.nil 9 1) rfl (g4.rd _) (strs_one _) (by omega) (by omega) ?_
  intro v' O3 hO3 hnil; clear hnil
  rw [Nat.zero_add, List.nil_append] at hO3
  obtain ⟨p4, q4, rfl⟩ := SlO.shape hO3
  refine RS.perm (L' := (b3, .cells (List.toArray [.string r.path, .int .i64 r.index, (.slice p2 r.props.length q2), (.slice p3 r.tags.length q3), (.slice a4 r.links.length c4), .slice a5 r.run.length c5, .slice a6 r.load.length c6, .string r.name, .int .i64 r.priority, .string r.owner, .string r.group, .int .i64 r.mode]) 36 (0, 0)) :: (b4, .cells (List.toArray [.string ByteArray.empty, .int .i64 0, .slice none 0 0, .slice none 0 0, .slice none 0 0, .slice none 0 0, .slice none 0 0, .string ByteArray.empty, .int .i64 0, .string ByteArray.empty, .string ByteArray.empty, .int .i64 0]) 36 (0, 0)) :: (tp, tapeO lv (at_)) :: (O1 ++ (O2 ++ (O3 ++ R)))) (by refine perm_of_sum _ _ fun f => ?_; simp only [List.map_append, List.map_cons, List.sum_append, List.sum_cons]; omega) ?_
  refine RS.pv (PV.all tab_ok rfl) rfl ?_
  (first | refine RS.store (k := 0) tab_ok rfl rfl rfl rfl rfl rfl rfl rfl ?_ | refine RS.store (k := 1) tab_ok rfl rfl rfl rfl rfl rfl rfl rfl ?_ | refine RS.store (k := 2) tab_ok rfl rfl rfl rfl rfl rfl rfl rfl ?_)
  refine RS.nil ?_
  refine thenQ.normal ?_
  clear g2 g3 g4
  repeat' (first
    | refine CS.cut (x := .seq (.region 4 _ _) _) [0, 3, 4] (fun vs i' L' => ∃ (at' : Int) (props : List (ByteArray × ByteArray)) (tags links : List ByteArray), SpH tp b3 b4 lv R at' props tags links i' L' ∧ props.length ≤ 10000000 ∧ tags.length ≤ 10000000 ∧ links.length ≤ 1000000 ∧ vs = [.pointer (some ⟨tp, 0, none⟩), .pointer (some ⟨b3, 0, none⟩), .pointer (some ⟨b4, 0, none⟩)]) ?_ ?_
    | refine CS.seq ?_
    | refine thenQ.normal ?_
    | refine CS.cond_true rfl ?_
    | refine CS.cond_false rfl ?_
    | refine CS.skip ?_
    | (refine CS.region (id := 0) ?_;
        refine RS.box rfl rfl (fun b => ?_);
        refine RS.alloc tab_ok rfl rfl (fun b => ?_);
        refine RS.nil ?_)
    | (refine CS.region (id := 1) ?_;
        refine RS.pv (PV.all tab_ok rfl) rfl ?_;
        (first | refine RS.lv (LV.load tab_ok rfl (Has.own 0 rfl) rfl) rfl ?_ | refine RS.lv (LV.load tab_ok rfl (Has.own 1 rfl) rfl) rfl ?_ | refine RS.lv (LV.load tab_ok rfl (Has.own 2 rfl) rfl) rfl ?_))
    | (refine CS.region (id := 2) ?_;
        refine RS.pv (PV.all tab_ok rfl) rfl ?_;
        (first | refine RS.lv (LV.load tab_ok rfl (Has.own 0 rfl) rfl) rfl ?_ | refine RS.lv (LV.load tab_ok rfl (Has.own 1 rfl) rfl) rfl ?_ | refine RS.lv (LV.load tab_ok rfl (Has.own 2 rfl) rfl) rfl ?_))
    | (refine CS.region (id := 3) ?_;
        refine RS.pv (PV.all tab_ok rfl) rfl ?_;
        (first | refine RS.lv (LV.load tab_ok rfl (Has.own 0 rfl) rfl) rfl ?_ | refine RS.lv (LV.load tab_ok rfl (Has.own 1 rfl) rfl) rfl ?_ | refine RS.lv (LV.load tab_ok rfl (Has.own 2 rfl) rfl) rfl ?_))
    | (refine CS.region (id := 4) ?_;
        refine RS.pv (PV.all tab_ok rfl) rfl ?_;
        (refine RS.call (Next_s tp 2 lv (at_) 14 _ _ (by omega) hl (by omega) rfl) rfl (by kernel_rfl) rfl ?_; rintro v i3 L3 hi3 ⟨⟨x1, rfl⟩, rfl, rfl⟩; have hx1 := foldI_bd x1 (n := 14) (by omega));
        (all_goals refine RS.nil ?_))
    | (refine CS.region (id := 10) ?_;
        (first | refine RS.pv (PV.all tab_ok rfl) rfl ?_ | refine RS.pv (PV.eqlT rfl rfl (by omega)) rfl ?_ | refine RS.pv (PV.eqlF rfl rfl (by omega)) rfl ?_ | refine RS.ifEql rfl rfl rfl (fun h => ?_) (fun h => ?_) | refine RS.ifSeql rfl rfl rfl (fun h => ?_) (fun h => ?_));
        (all_goals refine RS.pv (PV.all tab_ok rfl) rfl ?_);
        (all_goals refine RS.nil ?_))
    | (refine CS.region (id := 11) ?_;
        refine RS.pv (PV.all tab_ok rfl) rfl ?_;
        (refine RS.buildStrsF tab_ok rfl rfl rfl rfl (fun bb i2 hi2 hbs => ?_); replace hl := hl.le hi2; replace g5 := g5.le hi2; replace g6 := g6.le hi2);
        (all_goals (refine RS.call (One_s tp 2 lv _ (at_ + 1) _ _ _ _ hl (by omega) rfl hbs rfl (by decide) (by unfold lenOk; omega)) rfl (by kernel_rfl) rfl ?_; rintro v i3 L3 hi3 ⟨⟨nw, _, rfl⟩, rfl, rfl⟩));
        (all_goals refine RS.pv (PV.all tab_ok rfl) rfl ?_);
        (all_goals (first | refine RS.store (k := 0) tab_ok rfl rfl rfl rfl rfl rfl rfl rfl ?_ | refine RS.store (k := 1) tab_ok rfl rfl rfl rfl rfl rfl rfl rfl ?_ | refine RS.store (k := 2) tab_ok rfl rfl rfl rfl rfl rfl rfl rfl ?_));
        (all_goals refine RS.nil ?_))
    | (refine CS.region (id := 12) ?_;
        (first | refine RS.pv (PV.all tab_ok rfl) rfl ?_ | refine RS.pv (PV.eqlT rfl rfl (by omega)) rfl ?_ | refine RS.pv (PV.eqlF rfl rfl (by omega)) rfl ?_ | refine RS.ifEql rfl rfl rfl (fun h => ?_) (fun h => ?_) | refine RS.ifSeql rfl rfl rfl (fun h => ?_) (fun h => ?_));
        (all_goals refine RS.pv (PV.all tab_ok rfl) rfl ?_);
        (all_goals refine RS.nil ?_))
    | (refine CS.region (id := 13) ?_;
        (refine RS.buildSliceF tab_ok 1 rfl rfl rfl (fun bb i2 hi2 hbs => ?_); replace hl := hl.le hi2; replace g5 := g5.le hi2; replace g6 := g6.le hi2);
        (all_goals refine RS.pv (PV.all tab_ok rfl) rfl ?_);
        (all_goals ((refine RS.call (Next_s tp 2 lv (at_ + 1) 4 _ _ (by omega) hl (by omega) rfl) rfl (by kernel_rfl) rfl ?_; rintro v i3 L3 hi3 ⟨⟨x1, rfl⟩, rfl, rfl⟩; have hx1 := foldI_bd x1 (n := 4) (by omega)); obtain ⟨j, hj⟩ : ∃ j : Nat, foldI x1 4 = j := ⟨_, (Int.toNat_of_nonneg hx1.1).symm⟩; rw [hj] at hx1 ⊢; obtain ⟨ib, io, ics, it, ifz, icap, ie, ihb, ihc⟩ := hbs.at (k := j) (by omega) (by omega); cases ie; obtain ⟨nw, q⟩ := ints_at rfl (ihc 0 (by omega)) (by show j * 1 + 0 < 4; omega)));
        (all_goals (first | refine RS.pv (PV.indexAddr tab_ok rfl rfl rfl (by omega)) rfl ?_ | refine RS.pv (PV.indexAddrA tab_ok rfl rfl rfl (by omega)) rfl ?_));
        (all_goals refine RS.lv (LV.load1 tab_ok rfl (Has.imm ihb) rfl q) rfl ?_);
        (all_goals refine RS.pv (PV.all tab_ok rfl) rfl ?_);
        (all_goals (first | refine RS.store (k := 0) tab_ok rfl rfl rfl rfl rfl rfl rfl rfl ?_ | refine RS.store (k := 1) tab_ok rfl rfl rfl rfl rfl rfl rfl rfl ?_ | refine RS.store (k := 2) tab_ok rfl rfl rfl rfl rfl rfl rfl rfl ?_));
        (all_goals refine RS.nil ?_))
    | (refine CS.region (id := 14) ?_;
        (first | refine RS.pv (PV.all tab_ok rfl) rfl ?_ | refine RS.pv (PV.eqlT rfl rfl (by omega)) rfl ?_ | refine RS.pv (PV.eqlF rfl rfl (by omega)) rfl ?_ | refine RS.ifEql rfl rfl rfl (fun h => ?_) (fun h => ?_) | refine RS.ifSeql rfl rfl rfl (fun h => ?_) (fun h => ?_));
        (all_goals refine RS.pv (PV.all tab_ok rfl) rfl ?_);
        (all_goals refine RS.nil ?_))
    | (refine CS.region (id := 16) ?_;
        (first | refine RS.pv (PV.all tab_ok rfl) rfl ?_ | refine RS.pv (PV.eqlT rfl rfl (by omega)) rfl ?_ | refine RS.pv (PV.eqlF rfl rfl (by omega)) rfl ?_ | refine RS.ifEql rfl rfl rfl (fun h => ?_) (fun h => ?_) | refine RS.ifSeql rfl rfl rfl (fun h => ?_) (fun h => ?_));
        (all_goals refine RS.pv (PV.all tab_ok rfl) rfl ?_);
        (all_goals refine RS.nil ?_))
    | (refine CS.region (id := 18) ?_;
        (first | refine RS.pv (PV.all tab_ok rfl) rfl ?_ | refine RS.pv (PV.eqlT rfl rfl (by omega)) rfl ?_ | refine RS.pv (PV.eqlF rfl rfl (by omega)) rfl ?_ | refine RS.ifEql rfl rfl rfl (fun h => ?_) (fun h => ?_) | refine RS.ifSeql rfl rfl rfl (fun h => ?_) (fun h => ?_));
        (all_goals refine RS.pv (PV.all tab_ok rfl) rfl ?_);
        (all_goals refine RS.nil ?_))
    | (refine CS.region (id := 20) ?_;
        (first | refine RS.pv (PV.all tab_ok rfl) rfl ?_ | refine RS.pv (PV.eqlT rfl rfl (by omega)) rfl ?_ | refine RS.pv (PV.eqlF rfl rfl (by omega)) rfl ?_ | refine RS.ifEql rfl rfl rfl (fun h => ?_) (fun h => ?_) | refine RS.ifSeql rfl rfl rfl (fun h => ?_) (fun h => ?_));
        (all_goals refine RS.pv (PV.all tab_ok rfl) rfl ?_);
        (all_goals refine RS.nil ?_))
    | (refine CS.region (id := 22) ?_;
        (first | refine RS.pv (PV.all tab_ok rfl) rfl ?_ | refine RS.pv (PV.eqlT rfl rfl (by omega)) rfl ?_ | refine RS.pv (PV.eqlF rfl rfl (by omega)) rfl ?_ | refine RS.ifEql rfl rfl rfl (fun h => ?_) (fun h => ?_) | refine RS.ifSeql rfl rfl rfl (fun h => ?_) (fun h => ?_));
        (all_goals refine RS.pv (PV.all tab_ok rfl) rfl ?_);
        (all_goals refine RS.nil ?_))
    | (refine CS.region (id := 24) ?_;
        (first | refine RS.pv (PV.all tab_ok rfl) rfl ?_ | refine RS.pv (PV.eqlT rfl rfl (by omega)) rfl ?_ | refine RS.pv (PV.eqlF rfl rfl (by omega)) rfl ?_ | refine RS.ifEql rfl rfl rfl (fun h => ?_) (fun h => ?_) | refine RS.ifSeql rfl rfl rfl (fun h => ?_) (fun h => ?_));
        (all_goals refine RS.pv (PV.all tab_ok rfl) rfl ?_);
        (all_goals refine RS.nil ?_))
    | (refine CS.region (id := 25) ?_;
        refine RS.pv (PV.all tab_ok rfl) rfl ?_;
        (refine RS.buildStrsF tab_ok rfl rfl rfl rfl (fun bb i2 hi2 hbs => ?_); replace hl := hl.le hi2; replace g5 := g5.le hi2; replace g6 := g6.le hi2);
        (all_goals (refine RS.call (One_s tp 2 lv _ (at_ + 1) _ _ _ _ hl (by omega) rfl hbs rfl (by decide) (by unfold lenOk; omega)) rfl (by kernel_rfl) rfl ?_; rintro v i3 L3 hi3 ⟨⟨nw, _, rfl⟩, rfl, rfl⟩));
        (all_goals refine RS.pv (PV.all tab_ok rfl) rfl ?_);
        (all_goals (first | refine RS.store (k := 0) tab_ok rfl rfl rfl rfl rfl rfl rfl rfl ?_ | refine RS.store (k := 1) tab_ok rfl rfl rfl rfl rfl rfl rfl rfl ?_ | refine RS.store (k := 2) tab_ok rfl rfl rfl rfl rfl rfl rfl rfl ?_));
        (all_goals refine RS.nil ?_))
    | (refine CS.region (id := 26) ?_;
        (first | refine RS.pv (PV.all tab_ok rfl) rfl ?_ | refine RS.pv (PV.eqlT rfl rfl (by omega)) rfl ?_ | refine RS.pv (PV.eqlF rfl rfl (by omega)) rfl ?_ | refine RS.ifEql rfl rfl rfl (fun h => ?_) (fun h => ?_) | refine RS.ifSeql rfl rfl rfl (fun h => ?_) (fun h => ?_));
        (all_goals refine RS.pv (PV.all tab_ok rfl) rfl ?_);
        (all_goals refine RS.nil ?_))
    | (refine CS.region (id := 27) ?_;
        (refine RS.buildSliceF tab_ok 1 rfl rfl rfl (fun bb i2 hi2 hbs => ?_); replace hl := hl.le hi2; replace g5 := g5.le hi2; replace g6 := g6.le hi2);
        (all_goals refine RS.pv (PV.all tab_ok rfl) rfl ?_);
        (all_goals ((refine RS.call (Next_s tp 2 lv (at_ + 1) 5 _ _ (by omega) hl (by omega) rfl) rfl (by kernel_rfl) rfl ?_; rintro v i3 L3 hi3 ⟨⟨x1, rfl⟩, rfl, rfl⟩; have hx1 := foldI_bd x1 (n := 5) (by omega)); obtain ⟨j, hj⟩ : ∃ j : Nat, foldI x1 5 = j := ⟨_, (Int.toNat_of_nonneg hx1.1).symm⟩; rw [hj] at hx1 ⊢; obtain ⟨ib, io, ics, it, ifz, icap, ie, ihb, ihc⟩ := hbs.at (k := j) (by omega) (by omega); cases ie; obtain ⟨nw, q⟩ := ints_at rfl (ihc 0 (by omega)) (by show j * 1 + 0 < 5; omega)));
        (all_goals (first | refine RS.pv (PV.indexAddr tab_ok rfl rfl rfl (by omega)) rfl ?_ | refine RS.pv (PV.indexAddrA tab_ok rfl rfl rfl (by omega)) rfl ?_));
        (all_goals refine RS.lv (LV.load1 tab_ok rfl (Has.imm ihb) rfl q) rfl ?_);
        (all_goals refine RS.pv (PV.all tab_ok rfl) rfl ?_);
        (all_goals (first | refine RS.store (k := 0) tab_ok rfl rfl rfl rfl rfl rfl rfl rfl ?_ | refine RS.store (k := 1) tab_ok rfl rfl rfl rfl rfl rfl rfl rfl ?_ | refine RS.store (k := 2) tab_ok rfl rfl rfl rfl rfl rfl rfl rfl ?_));
        (all_goals refine RS.nil ?_))
    | (refine CS.region (id := 28) ?_;
        (first | refine RS.pv (PV.all tab_ok rfl) rfl ?_ | refine RS.pv (PV.eqlT rfl rfl (by omega)) rfl ?_ | refine RS.pv (PV.eqlF rfl rfl (by omega)) rfl ?_ | refine RS.ifEql rfl rfl rfl (fun h => ?_) (fun h => ?_) | refine RS.ifSeql rfl rfl rfl (fun h => ?_) (fun h => ?_));
        (all_goals refine RS.pv (PV.all tab_ok rfl) rfl ?_);
        (all_goals refine RS.nil ?_))
    | (refine CS.region (id := 29) ?_;
        refine RS.pv (PV.all tab_ok rfl) rfl ?_;
        (refine RS.buildStrsF tab_ok rfl rfl rfl rfl (fun bb i2 hi2 hbs => ?_); replace hl := hl.le hi2; replace g5 := g5.le hi2; replace g6 := g6.le hi2);
        (all_goals (refine RS.call (One_s tp 2 lv _ (at_ + 1) _ _ _ _ hl (by omega) rfl hbs rfl (by decide) (by unfold lenOk; omega)) rfl (by kernel_rfl) rfl ?_; rintro v i3 L3 hi3 ⟨⟨nw, _, rfl⟩, rfl, rfl⟩));
        (all_goals refine RS.pv (PV.all tab_ok rfl) rfl ?_);
        (all_goals (first | refine RS.store (k := 0) tab_ok rfl rfl rfl rfl rfl rfl rfl rfl ?_ | refine RS.store (k := 1) tab_ok rfl rfl rfl rfl rfl rfl rfl rfl ?_ | refine RS.store (k := 2) tab_ok rfl rfl rfl rfl rfl rfl rfl rfl ?_));
        (all_goals refine RS.nil ?_))
    | (refine CS.region (id := 30) ?_;
        (first | refine RS.pv (PV.all tab_ok rfl) rfl ?_ | refine RS.pv (PV.eqlT rfl rfl (by omega)) rfl ?_ | refine RS.pv (PV.eqlF rfl rfl (by omega)) rfl ?_ | refine RS.ifEql rfl rfl rfl (fun h => ?_) (fun h => ?_) | refine RS.ifSeql rfl rfl rfl (fun h => ?_) (fun h => ?_));
        (all_goals refine RS.pv (PV.all tab_ok rfl) rfl ?_);
        (all_goals refine RS.nil ?_))
    | (refine CS.region (id := 31) ?_;
        refine RS.pv (PV.all tab_ok rfl) rfl ?_;
        (refine RS.buildStrsF tab_ok rfl rfl rfl rfl (fun bb i2 hi2 hbs => ?_); replace hl := hl.le hi2; replace g5 := g5.le hi2; replace g6 := g6.le hi2);
        (all_goals (refine RS.call (One_s tp 2 lv _ (at_ + 1) _ _ _ _ hl (by omega) rfl hbs rfl (by decide) (by unfold lenOk; omega)) rfl (by kernel_rfl) rfl ?_; rintro v i3 L3 hi3 ⟨⟨nw, _, rfl⟩, rfl, rfl⟩));
        (all_goals refine RS.pv (PV.all tab_ok rfl) rfl ?_);
        (all_goals (first | refine RS.store (k := 0) tab_ok rfl rfl rfl rfl rfl rfl rfl rfl ?_ | refine RS.store (k := 1) tab_ok rfl rfl rfl rfl rfl rfl rfl rfl ?_ | refine RS.store (k := 2) tab_ok rfl rfl rfl rfl rfl rfl rfl rfl ?_));
        (all_goals refine RS.nil ?_))
    | (refine CS.region (id := 32) ?_;
        (first | refine RS.pv (PV.all tab_ok rfl) rfl ?_ | refine RS.pv (PV.eqlT rfl rfl (by omega)) rfl ?_ | refine RS.pv (PV.eqlF rfl rfl (by omega)) rfl ?_ | refine RS.ifEql rfl rfl rfl (fun h => ?_) (fun h => ?_) | refine RS.ifSeql rfl rfl rfl (fun h => ?_) (fun h => ?_));
        (all_goals refine RS.pv (PV.all tab_ok rfl) rfl ?_);
        (all_goals refine RS.nil ?_))
    | (refine CS.region (id := 33) ?_;
        (refine RS.buildSliceF tab_ok 1 rfl rfl rfl (fun bb i2 hi2 hbs => ?_); replace hl := hl.le hi2; replace g5 := g5.le hi2; replace g6 := g6.le hi2);
        (all_goals refine RS.pv (PV.all tab_ok rfl) rfl ?_);
        (all_goals ((refine RS.call (Next_s tp 2 lv (at_ + 1) 4 _ _ (by omega) hl (by omega) rfl) rfl (by kernel_rfl) rfl ?_; rintro v i3 L3 hi3 ⟨⟨x1, rfl⟩, rfl, rfl⟩; have hx1 := foldI_bd x1 (n := 4) (by omega)); obtain ⟨j, hj⟩ : ∃ j : Nat, foldI x1 4 = j := ⟨_, (Int.toNat_of_nonneg hx1.1).symm⟩; rw [hj] at hx1 ⊢; obtain ⟨ib, io, ics, it, ifz, icap, ie, ihb, ihc⟩ := hbs.at (k := j) (by omega) (by omega); cases ie; obtain ⟨nw, q⟩ := ints_at rfl (ihc 0 (by omega)) (by show j * 1 + 0 < 4; omega)));
        (all_goals (first | refine RS.pv (PV.indexAddr tab_ok rfl rfl rfl (by omega)) rfl ?_ | refine RS.pv (PV.indexAddrA tab_ok rfl rfl rfl (by omega)) rfl ?_));
        (all_goals refine RS.lv (LV.load1 tab_ok rfl (Has.imm ihb) rfl q) rfl ?_);
        (all_goals refine RS.pv (PV.all tab_ok rfl) rfl ?_);
        (all_goals (first | refine RS.store (k := 0) tab_ok rfl rfl rfl rfl rfl rfl rfl rfl ?_ | refine RS.store (k := 1) tab_ok rfl rfl rfl rfl rfl rfl rfl rfl ?_ | refine RS.store (k := 2) tab_ok rfl rfl rfl rfl rfl rfl rfl rfl ?_));
        (all_goals refine RS.nil ?_))
    | (refine CS.region (id := 34) ?_;
        (first | refine RS.pv (PV.all tab_ok rfl) rfl ?_ | refine RS.pv (PV.eqlT rfl rfl (by omega)) rfl ?_ | refine RS.pv (PV.eqlF rfl rfl (by omega)) rfl ?_ | refine RS.ifEql rfl rfl rfl (fun h => ?_) (fun h => ?_) | refine RS.ifSeql rfl rfl rfl (fun h => ?_) (fun h => ?_));
        (all_goals refine RS.pv (PV.all tab_ok rfl) rfl ?_);
        (all_goals refine RS.nil ?_))
    | refine CS.ret ?_
    | refine thenQ.ret ?_
    | refine blkQ.ret ?_
    | refine retQ.ret ?_
    | refine CS.block ?_
    | refine CS.exit ?_
    | refine thenQ.exit ?_
    | refine blkQ.normal ?_
    | refine blkQ.here ?_
    | refine blkQ.past rfl ?_
    | refine retQ.normal ?_)
  all_goals first | exact ⟨_, r.props, r.tags, r.links, ⟨_, _, _, _, _, _, _, _, _, _, _, _, _, _, _, _, _, _, _, O1, O2, O3, hO1, hO2, hO3, g5, g6, by omega, by omega, rfl⟩, by omega, by omega, by omega, rfl⟩ | skip
  · refine CS.draw [0, 1, 2, 3, 4, 5, 6, 7, 8, 9] [10, 11, 12] [4, 7] [(b3, .cells (List.toArray [.string r.path, .int .i64 r.index, (.slice p2 r.props.length q2), (.slice p3 r.tags.length q3), (.slice p4 r.links.length q4), .slice a5 r.run.length c5, .slice a6 r.load.length c6, .string r.name, .int .i64 r.priority, .string r.owner, .string r.group, .int .i64 r.mode]) 36 (0, 0)) :: (b4, .cells (List.toArray [.string ByteArray.empty, .int .i64 0, .slice none 0 0, .slice none 0 0, .slice none 0 0, .slice none 0 0, .slice none 0 0, .string ByteArray.empty, .int .i64 0, .string ByteArray.empty, .string ByteArray.empty, .int .i64 0]) 36 (0, 0)) :: (tp, tapeO lv (at_ + 1)) :: (O1 ++ (O2 ++ (O3 ++ R))), (b3, .cells (List.toArray [.string r.path, .int .i64 r.index, (.slice p2 r.props.length q2), (.slice p3 r.tags.length q3), (.slice p4 r.links.length q4), .slice a5 r.run.length c5, .slice a6 r.load.length c6, .string r.name, .int .i64 r.priority, .string r.owner, .string r.group, .int .i64 r.mode]) 36 (0, 0)) :: (b4, .cells (List.toArray [.string ByteArray.empty, .int .i64 0, .slice none 0 0, .slice none 0 0, .slice none 0 0, .slice none 0 0, .slice none 0 0, .string ByteArray.empty, .int .i64 0, .string ByteArray.empty, .string ByteArray.empty, .int .i64 0]) 36 (0, 0)) :: (tp, tapeO lv (at_ + 1 + 1)) :: (O1 ++ (O2 ++ (O3 ++ R))), (b3, .cells (List.toArray [.string r.path, .int .i64 r.index, (.slice p2 r.props.length q2), (.slice p3 r.tags.length q3), (.slice p4 r.links.length q4), .slice a5 r.run.length c5, .slice a6 r.load.length c6, .string r.name, .int .i64 r.priority, .string r.owner, .string r.group, .int .i64 r.mode]) 36 (0, 0)) :: (b4, .cells (List.toArray [.string ByteArray.empty, .int .i64 0, .slice none 0 0, .slice none 0 0, .slice none 0 0, .slice none 0 0, .slice none 0 0, .string ByteArray.empty, .int .i64 0, .string ByteArray.empty, .string ByteArray.empty, .int .i64 0]) 36 (0, 0)) :: (tp, tapeO lv (at_ + 1 + 1 + 1)) :: (O1 ++ (O2 ++ (O3 ++ R)))] mix (by kernel_rfl) rfl rfl [_, _, _] rfl ?_
    refine GS.pv (PV.all tab_ok rfl) rfl rfl rfl rfl rfl rfl ?_
    refine GS.fix (v := (.slice p2 r.props.length q2)) rfl rfl rfl rfl rfl rfl (fun i' _ L' hL' => by simp only [List.mem_cons, List.not_mem_nil, or_false] at hL'; rcases hL' with rfl | rfl | rfl <;> exact LV.load tab_ok rfl (Has.own 0 rfl) rfl) ?_
    refine GS.pv (PV.all tab_ok rfl) rfl rfl rfl rfl rfl rfl ?_
    refine GS.factA (fun i v => ∃ b, v = .slice (some ⟨b, 0, none⟩) 6 6 ∧ Sl i v 1 6 (strs [⟨#[65]⟩, ⟨#[90, 90]⟩, ⟨#[97]⟩, ⟨#[49, 65]⟩, ⟨#[]⟩, ⟨#[83, 85, 66, 83, 89, 83, 84, 69, 77]⟩])) (fun _ _ hi _ ⟨b, h1, h2⟩ => ⟨b, h1, h2.le hi⟩) rfl rfl rfl rfl (fun i' hi L hL => ⟨rfl, OpS.buildStrsF tab_ok rfl rfl rfl⟩) ⟨_, .head _⟩ ?_
    refine GS.turn 0 (fun _ v => ∃ s, v = .string s) (fun _ _ _ _ h => h) rfl rfl rfl rfl (by decide) rfl rfl (fun i' hi => by rintro v ⟨b, rfl, hb⟩; exact ⟨rfl, OpS.call (by kernel_rfl) rfl (One_s tp 2 lv _ (at_ + 1) _ _ _ _ (hl.le hi) (by omega) rfl hb rfl (by decide) (by unfold lenOk; omega)) (fun _ _ _ _ ⟨⟨s, _, h⟩, _, hL⟩ => ⟨hL, s, h⟩)⟩) ?_
    refine GS.pv (PV.all tab_ok rfl) rfl rfl rfl rfl rfl rfl ?_
    refine GS.factA (fun i v => ∃ b, v = .slice (some ⟨b, 0, none⟩) 4 4 ∧ Sl i v 1 4 (strs [⟨#[49]⟩, ⟨#[10]⟩, ⟨#[127]⟩, ⟨#[111, 107]⟩])) (fun _ _ hi _ ⟨b, h1, h2⟩ => ⟨b, h1, h2.le hi⟩) rfl rfl rfl rfl (fun i' hi L hL => ⟨rfl, OpS.buildStrsF tab_ok rfl rfl rfl⟩) ⟨_, .head _⟩ ?_
    refine GS.turn 1 (fun _ v => ∃ s, v = .string s) (fun _ _ _ _ h => h) rfl rfl rfl rfl (by decide) rfl rfl (fun i' hi => by rintro v ⟨b, rfl, hb⟩; exact ⟨rfl, OpS.call (by kernel_rfl) rfl (One_s tp 2 lv _ (at_ + 1 + 1) _ _ _ _ (hl.le hi) (by omega) rfl hb rfl (by decide) (by unfold lenOk; omega)) (fun _ _ _ _ ⟨⟨s, _, h⟩, _, hL⟩ => ⟨hL, s, h⟩)⟩) ?_
    refine GS.factA (fun _ v => ∃ s s', v = .agg (List.toArray [.string s, .string s'])) (fun _ _ _ _ h => h) rfl rfl rfl rfl (fun i' hi L hL => by rintro v ⟨s, rfl⟩ v' ⟨s', rfl⟩; exact ⟨rfl, OpS.mono (OpS.pv (PV.all tab_ok rfl)) (fun _ _ _ _ ⟨h1, h2⟩ => ⟨h1, s, s', h2⟩)⟩) ⟨_, .head _⟩ ?_
    refine GS.factA (fun i v => ∃ b s s', v = .slice (some ⟨b, 0, none⟩) 1 1 ∧ Sl i v 2 1 [.string s, .string s']) (fun _ _ hi _ ⟨b, s, s', h1, h2⟩ => ⟨b, s, s', h1, h2.le hi⟩) rfl rfl rfl rfl (fun i' hi L hL => by rintro v ⟨s, s', rfl⟩; exact ⟨rfl, OpS.mono (OpS.buildSliceF (sz := 2) tab_ok rfl rfl) (fun _ _ _ _ ⟨h1, b, h2, h3⟩ => ⟨h1, b, s, s', h2, h3⟩)⟩) ⟨_, .head _⟩ ?_
    refine GS.done rfl rfl (fun i5 hi5 => ?_)
    rintro w5 ⟨wb, nw, nw', rfl, hw⟩ w4 _ w3 _ w2 _ w1 _ w0 _
    replace g5 := g5.le hi5; replace g6 := g6.le hi5
    refine RS.perm (L' := O1 ++ ((b3, .cells (List.toArray [.string r.path, .int .i64 r.index, (.slice p2 r.props.length q2), (.slice p3 r.tags.length q3), (.slice p4 r.links.length q4), .slice a5 r.run.length c5, .slice a6 r.load.length c6, .string r.name, .int .i64 r.priority, .string r.owner, .string r.group, .int .i64 r.mode]) 36 (0, 0)) :: (b4, .cells (List.toArray [.string ByteArray.empty, .int .i64 0, .slice none 0 0, .slice none 0 0, .slice none 0 0, .slice none 0 0, .slice none 0 0, .string ByteArray.empty, .int .i64 0, .string ByteArray.empty, .string ByteArray.empty, .int .i64 0]) 36 (0, 0)) :: (tp, tapeO lv (at_ + 1 + 1 + 1)) :: (O2 ++ (O3 ++ R)))) (by refine perm_of_sum _ _ fun f => ?_; simp only [List.map_append, List.map_cons, List.sum_append, List.sum_cons]; omega) ?_
    refine RS.append tab_ok (sz := 2) (bytes := 32) (k := r.props.length) (m := 1) (xs := attrs r.props) (news := [.string nw, .string nw']) rfl rfl rfl ⟨_, rfl, rfl⟩ ⟨_, rfl, rfl, rfl⟩ (by omega) hO1 rfl (hw.rd _) (by intro c hc; simp at hc; rcases hc with rfl | rfl <;> rfl) (by omega) (by omega) ?_
    intro v' O5 hO5 hnil; clear hnil; replace hO5 := SlO.snocA hO5; obtain ⟨p7, q7, rfl⟩ := SlO.shape hO5
    refine RS.perm (L' := (b3, .cells (List.toArray [.string r.path, .int .i64 r.index, (.slice p2 r.props.length q2), (.slice p3 r.tags.length q3), (.slice p4 r.links.length q4), .slice a5 r.run.length c5, .slice a6 r.load.length c6, .string r.name, .int .i64 r.priority, .string r.owner, .string r.group, .int .i64 r.mode]) 36 (0, 0)) :: (b4, .cells (List.toArray [.string ByteArray.empty, .int .i64 0, .slice none 0 0, .slice none 0 0, .slice none 0 0, .slice none 0 0, .slice none 0 0, .string ByteArray.empty, .int .i64 0, .string ByteArray.empty, .string ByteArray.empty, .int .i64 0]) 36 (0, 0)) :: (tp, tapeO lv (at_ + 1 + 1 + 1)) :: (O5 ++ (O2 ++ (O3 ++ R)))) (by refine perm_of_sum _ _ fun f => ?_; simp only [List.map_append, List.map_cons, List.sum_append, List.sum_cons]; omega) ?_
    refine RS.pv (PV.all tab_ok rfl) rfl ?_
    (first | refine RS.store (k := 0) tab_ok rfl rfl rfl rfl rfl rfl rfl rfl ?_ | refine RS.store (k := 1) tab_ok rfl rfl rfl rfl rfl rfl rfl rfl ?_ | refine RS.store (k := 2) tab_ok rfl rfl rfl rfl rfl rfl rfl rfl ?_)
    refine RS.nil ?_
    refine blkQ.normal ?_
    refine thenQ.normal ?_
    exact ⟨_, _, r.tags, r.links, ⟨_, _, _, _, _, _, _, _, _, _, _, _, _, _, _, _, _, _, _, O5, O2, O3, hO5, hO2, hO3, g5, g6, by omega, by omega, rfl⟩, by simp; omega, by omega, by omega, rfl⟩
  · refine CS.draw [0, 1, 2, 3, 4, 5] [6, 7, 8] [4] [(b3, .cells (List.toArray [.string r.path, .int .i64 r.index, (.slice p2 r.props.length q2), (.slice p3 r.tags.length q3), (.slice p4 r.links.length q4), .slice a5 r.run.length c5, .slice a6 r.load.length c6, .string r.name, .int .i64 r.priority, .string r.owner, .string r.group, .int .i64 r.mode]) 36 (0, 0)) :: (b4, .cells (List.toArray [.string ByteArray.empty, .int .i64 0, .slice none 0 0, .slice none 0 0, .slice none 0 0, .slice none 0 0, .slice none 0 0, .string ByteArray.empty, .int .i64 0, .string ByteArray.empty, .string ByteArray.empty, .int .i64 0]) 36 (0, 0)) :: (tp, tapeO lv (at_ + 1)) :: (O1 ++ (O2 ++ (O3 ++ R))), (b3, .cells (List.toArray [.string r.path, .int .i64 r.index, (.slice p2 r.props.length q2), (.slice p3 r.tags.length q3), (.slice p4 r.links.length q4), .slice a5 r.run.length c5, .slice a6 r.load.length c6, .string r.name, .int .i64 r.priority, .string r.owner, .string r.group, .int .i64 r.mode]) 36 (0, 0)) :: (b4, .cells (List.toArray [.string ByteArray.empty, .int .i64 0, .slice none 0 0, .slice none 0 0, .slice none 0 0, .slice none 0 0, .slice none 0 0, .string ByteArray.empty, .int .i64 0, .string ByteArray.empty, .string ByteArray.empty, .int .i64 0]) 36 (0, 0)) :: (tp, tapeO lv (at_ + 1 + 1)) :: (O1 ++ (O2 ++ (O3 ++ R)))] mix (by kernel_rfl) rfl rfl [_, _, _] rfl ?_
    refine GS.pv (PV.all tab_ok rfl) rfl rfl rfl rfl rfl rfl ?_
    refine GS.fix (v := (.slice p3 r.tags.length q3)) rfl rfl rfl rfl rfl rfl (fun i' _ L' hL' => by simp only [List.mem_cons, List.not_mem_nil, or_false] at hL'; rcases hL' with rfl | rfl | rfl <;> exact LV.load tab_ok rfl (Has.own 0 rfl) rfl) ?_
    refine GS.pv (PV.all tab_ok rfl) rfl rfl rfl rfl rfl rfl ?_
    refine GS.factA (fun i v => ∃ b, v = .slice (some ⟨b, 0, none⟩) 6 6 ∧ Sl i v 1 6 (strs [⟨#[97]⟩, ⟨#[122, 122]⟩, ⟨#[]⟩, ⟨#[122, 32, 122]⟩, ⟨#[117, 97, 99, 99, 101, 115, 115]⟩, ⟨#[46, 46]⟩])) (fun _ _ hi _ ⟨b, h1, h2⟩ => ⟨b, h1, h2.le hi⟩) rfl rfl rfl rfl (fun i' hi L hL => ⟨rfl, OpS.buildStrsF tab_ok rfl rfl rfl⟩) ⟨_, .head _⟩ ?_
    refine GS.turn 0 (fun _ v => ∃ s, v = .string s) (fun _ _ _ _ h => h) rfl rfl rfl rfl (by decide) rfl rfl (fun i' hi => by rintro v ⟨b, rfl, hb⟩; exact ⟨rfl, OpS.call (by kernel_rfl) rfl (One_s tp 2 lv _ (at_ + 1) _ _ _ _ (hl.le hi) (by omega) rfl hb rfl (by decide) (by unfold lenOk; omega)) (fun _ _ _ _ ⟨⟨s, _, h⟩, _, hL⟩ => ⟨hL, s, h⟩)⟩) ?_
    refine GS.factA (fun i v => ∃ b s, v = .slice (some ⟨b, 0, none⟩) 1 1 ∧ Sl i v 1 1 (strs [s])) (fun _ _ hi _ ⟨b, s, h1, h2⟩ => ⟨b, s, h1, h2.le hi⟩) rfl rfl rfl rfl (fun i' hi L hL => by rintro v ⟨s, rfl⟩; exact ⟨rfl, OpS.mono (OpS.buildSliceF (sz := 1) tab_ok rfl rfl) (fun _ _ _ _ ⟨h1, b, h2, h3⟩ => ⟨h1, b, s, h2, h3⟩)⟩) ⟨_, .head _⟩ ?_
    refine GS.done rfl rfl (fun i5 hi5 => ?_)
    rintro w5 ⟨wb, nw, rfl, hw⟩ w4 _ w3 _
    replace g5 := g5.le hi5; replace g6 := g6.le hi5
    refine RS.perm (L' := O2 ++ ((b3, .cells (List.toArray [.string r.path, .int .i64 r.index, (.slice p2 r.props.length q2), (.slice p3 r.tags.length q3), (.slice p4 r.links.length q4), .slice a5 r.run.length c5, .slice a6 r.load.length c6, .string r.name, .int .i64 r.priority, .string r.owner, .string r.group, .int .i64 r.mode]) 36 (0, 0)) :: (b4, .cells (List.toArray [.string ByteArray.empty, .int .i64 0, .slice none 0 0, .slice none 0 0, .slice none 0 0, .slice none 0 0, .slice none 0 0, .string ByteArray.empty, .int .i64 0, .string ByteArray.empty, .string ByteArray.empty, .int .i64 0]) 36 (0, 0)) :: (tp, tapeO lv (at_ + 1 + 1)) :: (O1 ++ (O3 ++ R)))) (by refine perm_of_sum _ _ fun f => ?_; simp only [List.map_append, List.map_cons, List.sum_append, List.sum_cons]; omega) ?_
    refine RS.append tab_ok (sz := 1) (bytes := 16) (k := r.tags.length) (m := 1) (xs := strs r.tags) (news := strs [nw]) rfl rfl rfl ⟨_, rfl, rfl⟩ ⟨_, rfl, rfl, rfl⟩ (by omega) hO2 rfl (hw.rd _) (strs_one _) (by omega) (by omega) ?_
    intro v' O5 hO5 hnil; clear hnil; replace hO5 := SlO.snocS hO5; obtain ⟨p7, q7, rfl⟩ := SlO.shape hO5
    refine RS.perm (L' := (b3, .cells (List.toArray [.string r.path, .int .i64 r.index, (.slice p2 r.props.length q2), (.slice p3 r.tags.length q3), (.slice p4 r.links.length q4), .slice a5 r.run.length c5, .slice a6 r.load.length c6, .string r.name, .int .i64 r.priority, .string r.owner, .string r.group, .int .i64 r.mode]) 36 (0, 0)) :: (b4, .cells (List.toArray [.string ByteArray.empty, .int .i64 0, .slice none 0 0, .slice none 0 0, .slice none 0 0, .slice none 0 0, .slice none 0 0, .string ByteArray.empty, .int .i64 0, .string ByteArray.empty, .string ByteArray.empty, .int .i64 0]) 36 (0, 0)) :: (tp, tapeO lv (at_ + 1 + 1)) :: (O1 ++ (O5 ++ (O3 ++ R)))) (by refine perm_of_sum _ _ fun f => ?_; simp only [List.map_append, List.map_cons, List.sum_append, List.sum_cons]; omega) ?_
    refine RS.pv (PV.all tab_ok rfl) rfl ?_
    (first | refine RS.store (k := 0) tab_ok rfl rfl rfl rfl rfl rfl rfl rfl ?_ | refine RS.store (k := 1) tab_ok rfl rfl rfl rfl rfl rfl rfl rfl ?_ | refine RS.store (k := 2) tab_ok rfl rfl rfl rfl rfl rfl rfl rfl ?_)
    refine RS.nil ?_
    refine blkQ.normal ?_
    refine thenQ.normal ?_
    exact ⟨_, r.props, _, r.links, ⟨_, _, _, _, _, _, _, _, _, _, _, _, _, _, _, _, _, _, _, O1, O5, O3, hO1, hO5, hO3, g5, g6, by omega, by omega, rfl⟩, by omega, by simp; omega, by omega, rfl⟩
  · refine CS.draw [0, 1, 2, 3, 4, 5] [6, 7, 8] [4] [(b3, .cells (List.toArray [.string r.path, .int .i64 r.index, (.slice p2 r.props.length q2), (.slice p3 r.tags.length q3), (.slice p4 r.links.length q4), .slice a5 r.run.length c5, .slice a6 r.load.length c6, .string r.name, .int .i64 r.priority, .string r.owner, .string r.group, .int .i64 r.mode]) 36 (0, 0)) :: (b4, .cells (List.toArray [.string ByteArray.empty, .int .i64 0, .slice none 0 0, .slice none 0 0, .slice none 0 0, .slice none 0 0, .slice none 0 0, .string ByteArray.empty, .int .i64 0, .string ByteArray.empty, .string ByteArray.empty, .int .i64 0]) 36 (0, 0)) :: (tp, tapeO lv (at_ + 1)) :: (O1 ++ (O2 ++ (O3 ++ R))), (b3, .cells (List.toArray [.string r.path, .int .i64 r.index, (.slice p2 r.props.length q2), (.slice p3 r.tags.length q3), (.slice p4 r.links.length q4), .slice a5 r.run.length c5, .slice a6 r.load.length c6, .string r.name, .int .i64 r.priority, .string r.owner, .string r.group, .int .i64 r.mode]) 36 (0, 0)) :: (b4, .cells (List.toArray [.string ByteArray.empty, .int .i64 0, .slice none 0 0, .slice none 0 0, .slice none 0 0, .slice none 0 0, .slice none 0 0, .string ByteArray.empty, .int .i64 0, .string ByteArray.empty, .string ByteArray.empty, .int .i64 0]) 36 (0, 0)) :: (tp, tapeO lv (at_ + 1 + 1)) :: (O1 ++ (O2 ++ (O3 ++ R)))] mix (by kernel_rfl) rfl rfl [_, _, _] rfl ?_
    refine GS.pv (PV.all tab_ok rfl) rfl rfl rfl rfl rfl rfl ?_
    refine GS.fix (v := (.slice p4 r.links.length q4)) rfl rfl rfl rfl rfl rfl (fun i' _ L' hL' => by simp only [List.mem_cons, List.not_mem_nil, or_false] at hL'; rcases hL' with rfl | rfl | rfl <;> exact LV.load tab_ok rfl (Has.own 0 rfl) rfl) ?_
    refine GS.pv (PV.all tab_ok rfl) rfl rfl rfl rfl rfl rfl ?_
    refine GS.factA (fun i v => ∃ b, v = .slice (some ⟨b, 0, none⟩) 8 8 ∧ Sl i v 1 8 (strs [⟨#[97]⟩, ⟨#[122, 122]⟩, ⟨#[]⟩, ⟨#[47, 122]⟩, ⟨#[122, 47, 47, 122]⟩, ⟨#[122, 122, 47]⟩, ⟨#[122, 47, 46, 46]⟩, ⟨#[122, 122, 47, 97, 35, 98]⟩])) (fun _ _ hi _ ⟨b, h1, h2⟩ => ⟨b, h1, h2.le hi⟩) rfl rfl rfl rfl (fun i' hi L hL => ⟨rfl, OpS.buildStrsF tab_ok rfl rfl rfl⟩) ⟨_, .head _⟩ ?_
    refine GS.turn 0 (fun _ v => ∃ s, v = .string s) (fun _ _ _ _ h => h) rfl rfl rfl rfl (by decide) rfl rfl (fun i' hi => by rintro v ⟨b, rfl, hb⟩; exact ⟨rfl, OpS.call (by kernel_rfl) rfl (One_s tp 2 lv _ (at_ + 1) _ _ _ _ (hl.le hi) (by omega) rfl hb rfl (by decide) (by unfold lenOk; omega)) (fun _ _ _ _ ⟨⟨s, _, h⟩, _, hL⟩ => ⟨hL, s, h⟩)⟩) ?_
    refine GS.factA (fun i v => ∃ b s, v = .slice (some ⟨b, 0, none⟩) 1 1 ∧ Sl i v 1 1 (strs [s])) (fun _ _ hi _ ⟨b, s, h1, h2⟩ => ⟨b, s, h1, h2.le hi⟩) rfl rfl rfl rfl (fun i' hi L hL => by rintro v ⟨s, rfl⟩; exact ⟨rfl, OpS.mono (OpS.buildSliceF (sz := 1) tab_ok rfl rfl) (fun _ _ _ _ ⟨h1, b, h2, h3⟩ => ⟨h1, b, s, h2, h3⟩)⟩) ⟨_, .head _⟩ ?_
    refine GS.done rfl rfl (fun i5 hi5 => ?_)
    rintro w5 ⟨wb, nw, rfl, hw⟩ w4 _ w3 _
    replace g5 := g5.le hi5; replace g6 := g6.le hi5
    refine RS.perm (L' := O3 ++ ((b3, .cells (List.toArray [.string r.path, .int .i64 r.index, (.slice p2 r.props.length q2), (.slice p3 r.tags.length q3), (.slice p4 r.links.length q4), .slice a5 r.run.length c5, .slice a6 r.load.length c6, .string r.name, .int .i64 r.priority, .string r.owner, .string r.group, .int .i64 r.mode]) 36 (0, 0)) :: (b4, .cells (List.toArray [.string ByteArray.empty, .int .i64 0, .slice none 0 0, .slice none 0 0, .slice none 0 0, .slice none 0 0, .slice none 0 0, .string ByteArray.empty, .int .i64 0, .string ByteArray.empty, .string ByteArray.empty, .int .i64 0]) 36 (0, 0)) :: (tp, tapeO lv (at_ + 1 + 1)) :: (O1 ++ (O2 ++ R)))) (by refine perm_of_sum _ _ fun f => ?_; simp only [List.map_append, List.map_cons, List.sum_append, List.sum_cons]; omega) ?_
    refine RS.append tab_ok (sz := 1) (bytes := 16) (k := r.links.length) (m := 1) (xs := strs r.links) (news := strs [nw]) rfl rfl rfl ⟨_, rfl, rfl⟩ ⟨_, rfl, rfl, rfl⟩ (by omega) hO3 rfl (hw.rd _) (strs_one _) (by omega) (by omega) ?_
    intro v' O5 hO5 hnil; clear hnil; replace hO5 := SlO.snocS hO5; obtain ⟨p7, q7, rfl⟩ := SlO.shape hO5
    refine RS.perm (L' := (b3, .cells (List.toArray [.string r.path, .int .i64 r.index, (.slice p2 r.props.length q2), (.slice p3 r.tags.length q3), (.slice p4 r.links.length q4), .slice a5 r.run.length c5, .slice a6 r.load.length c6, .string r.name, .int .i64 r.priority, .string r.owner, .string r.group, .int .i64 r.mode]) 36 (0, 0)) :: (b4, .cells (List.toArray [.string ByteArray.empty, .int .i64 0, .slice none 0 0, .slice none 0 0, .slice none 0 0, .slice none 0 0, .slice none 0 0, .string ByteArray.empty, .int .i64 0, .string ByteArray.empty, .string ByteArray.empty, .int .i64 0]) 36 (0, 0)) :: (tp, tapeO lv (at_ + 1 + 1)) :: (O1 ++ (O2 ++ (O5 ++ R)))) (by refine perm_of_sum _ _ fun f => ?_; simp only [List.map_append, List.map_cons, List.sum_append, List.sum_cons]; omega) ?_
    refine RS.pv (PV.all tab_ok rfl) rfl ?_
    (first | refine RS.store (k := 0) tab_ok rfl rfl rfl rfl rfl rfl rfl rfl ?_ | refine RS.store (k := 1) tab_ok rfl rfl rfl rfl rfl rfl rfl rfl ?_ | refine RS.store (k := 2) tab_ok rfl rfl rfl rfl rfl rfl rfl rfl ?_)
    refine RS.nil ?_
    refine blkQ.normal ?_
    refine thenQ.normal ?_
    exact ⟨_, r.props, r.tags, _, ⟨_, _, _, _, _, _, _, _, _, _, _, _, _, _, _, _, _, _, _, O1, O2, O5, hO1, hO2, hO5, g5, g6, by omega, by omega, rfl⟩, by omega, by omega, by simp; omega, rfl⟩
  · refine CS.region (id := 21) ?_
    refine RS.pv (PV.all tab_ok rfl) rfl ?_
    (first | refine RS.lv (LV.load tab_ok rfl (Has.own 0 rfl) rfl) rfl ?_ | refine RS.lv (LV.load tab_ok rfl (Has.own 1 rfl) rfl) rfl ?_ | refine RS.lv (LV.load tab_ok rfl (Has.own 2 rfl) rfl) rfl ?_)
    (refine RS.append tab_ok (sz := 1) (bytes := 16) (k := 0) (m := r.run.length) (xs := []) (news := strs r.run) (O := []) (L0 := (b3, .cells (List.toArray [.string r.path, .int .i64 r.index, (.slice p2 r.props.length q2), (.slice p3 r.tags.length q3), (.slice p4 r.links.length q4), .slice a5 r.run.length c5, .slice a6 r.load.length c6, .string r.name, .int .i64 r.priority, .string r.owner, .string r.group, .int .i64 r.mode]) 36 (0, 0)) :: (b4, .cells (List.toArray [.string ByteArray.empty, .int .i64 0, .slice none 0 0, .slice none 0 0, .slice none 0 0, .slice none 0 0, .slice none 0 0, .string ByteArray.empty, .int .i64 0, .string ByteArray.empty, .string ByteArray.empty, .int .i64 0]) 36 (0, 0)) :: (tp, tapeO lv (at_ + 1)) :: (O1 ++ (O2 ++ (O3 ++ R)))) rfl rfl rfl ⟨_, rfl, rfl⟩ ⟨_, rfl, rfl, rfl⟩ (by omega) (SlO.nil 9 1) rfl (g5.rd _) (strs_one _) (by omega) (by omega) ?_; intro v' O4 hO4 hnil; clear hnil; rw [Nat.zero_add, List.nil_append] at hO4; obtain ⟨p5, q5, rfl⟩ := SlO.shape hO4; refine RS.perm (L' := (b3, .cells (List.toArray [.string r.path, .int .i64 r.index, (.slice p2 r.props.length q2), (.slice p3 r.tags.length q3), (.slice p4 r.links.length q4), .slice a5 r.run.length c5, .slice a6 r.load.length c6, .string r.name, .int .i64 r.priority, .string r.owner, .string r.group, .int .i64 r.mode]) 36 (0, 0)) :: (b4, .cells (List.toArray [.string ByteArray.empty, .int .i64 0, .slice none 0 0, .slice none 0 0, .slice none 0 0, .slice none 0 0, .slice none 0 0, .string ByteArray.empty, .int .i64 0, .string ByteArray.empty, .string ByteArray.empty, .int .i64 0]) 36 (0, 0)) :: (tp, tapeO lv (at_ + 1)) :: (O4 ++ (O1 ++ (O2 ++ (O3 ++ R))))) (by refine perm_of_sum _ _ fun f => ?_; simp only [List.map_append, List.map_cons, List.sum_append, List.sum_cons]; omega) ?_)
    (all_goals refine RS.pv (PV.all tab_ok rfl) rfl ?_)
    (all_goals (refine RS.buildStrsF tab_ok rfl rfl rfl rfl (fun bb i2 hi2 hbs => ?_); replace hl := hl.le hi2; replace g5 := g5.le hi2; replace g6 := g6.le hi2))
    (all_goals (refine RS.call (One_s tp 2 lv _ (at_ + 1) _ _ _ _ hl (by omega) rfl hbs rfl (by decide) (by unfold lenOk; omega)) rfl (by kernel_rfl) rfl ?_; rintro v i3 L3 hi3 ⟨⟨nw, _, rfl⟩, rfl, rfl⟩))
    (all_goals (refine RS.buildSliceF tab_ok 1 rfl rfl rfl (fun bb2 i4 hi4 hbs2 => ?_); replace g5 := g5.le hi4; replace g6 := g6.le hi4; refine RS.perm (L' := (b3, .cells (List.toArray [.string r.path, .int .i64 r.index, (.slice p2 r.props.length q2), (.slice p3 r.tags.length q3), (.slice p4 r.links.length q4), .slice a5 r.run.length c5, .slice a6 r.load.length c6, .string r.name, .int .i64 r.priority, .string r.owner, .string r.group, .int .i64 r.mode]) 36 (0, 0)) :: (b4, .cells (List.toArray [.string ByteArray.empty, .int .i64 0, .slice none 0 0, .slice none 0 0, .slice none 0 0, .slice none 0 0, .slice none 0 0, .string ByteArray.empty, .int .i64 0, .string ByteArray.empty, .string ByteArray.empty, .int .i64 0]) 36 (0, 0)) :: (tp, tapeO lv (at_ + 1 + 1)) :: (O4 ++ (O1 ++ (O2 ++ (O3 ++ R))))) (List.Perm.of_eq rfl) ?_; refine RS.perm (L' := O4 ++ ((b3, .cells (List.toArray [.string r.path, .int .i64 r.index, (.slice p2 r.props.length q2), (.slice p3 r.tags.length q3), (.slice p4 r.links.length q4), .slice a5 r.run.length c5, .slice a6 r.load.length c6, .string r.name, .int .i64 r.priority, .string r.owner, .string r.group, .int .i64 r.mode]) 36 (0, 0)) :: (b4, .cells (List.toArray [.string ByteArray.empty, .int .i64 0, .slice none 0 0, .slice none 0 0, .slice none 0 0, .slice none 0 0, .slice none 0 0, .string ByteArray.empty, .int .i64 0, .string ByteArray.empty, .string ByteArray.empty, .int .i64 0]) 36 (0, 0)) :: (tp, tapeO lv (at_ + 1 + 1)) :: (O1 ++ (O2 ++ (O3 ++ R))))) (by refine perm_of_sum _ _ fun f => ?_; simp only [List.map_append, List.map_cons, List.sum_append, List.sum_cons]; omega) ?_))
    (all_goals (refine RS.append tab_ok (sz := 1) (bytes := 16) (k := r.run.length) (m := 1) (xs := strs r.run) (news := strs [nw]) rfl rfl rfl ⟨_, rfl, rfl⟩ ⟨_, rfl, rfl, rfl⟩ (by omega) hO4 rfl (hbs2.rd _) (strs_one _) (by omega) (by omega) ?_; intro v' O5 hO5 hnil; clear hnil; replace hO5 := SlO.snocS hO5; obtain ⟨p6, q6, rfl⟩ := SlO.shape hO5; refine RS.freezeSl (L0 := (b3, .cells (List.toArray [.string r.path, .int .i64 r.index, (.slice p2 r.props.length q2), (.slice p3 r.tags.length q3), (.slice p4 r.links.length q4), .slice a5 r.run.length c5, .slice a6 r.load.length c6, .string r.name, .int .i64 r.priority, .string r.owner, .string r.group, .int .i64 r.mode]) 36 (0, 0)) :: (b4, .cells (List.toArray [.string ByteArray.empty, .int .i64 0, .slice none 0 0, .slice none 0 0, .slice none 0 0, .slice none 0 0, .slice none 0 0, .string ByteArray.empty, .int .i64 0, .string ByteArray.empty, .string ByteArray.empty, .int .i64 0]) 36 (0, 0)) :: (tp, tapeO lv (at_ + 1 + 1)) :: (O1 ++ (O2 ++ (O3 ++ R)))) hO5 (List.Perm.refl _) (fun i5 hi5 g7 => ?_); replace g5 := g5.le hi5; replace g6 := g6.le hi5))
    (all_goals refine RS.pv (PV.all tab_ok rfl) rfl ?_)
    (all_goals (first | refine RS.store (k := 0) tab_ok rfl rfl rfl rfl rfl rfl rfl rfl ?_ | refine RS.store (k := 1) tab_ok rfl rfl rfl rfl rfl rfl rfl rfl ?_ | refine RS.store (k := 2) tab_ok rfl rfl rfl rfl rfl rfl rfl rfl ?_))
    (all_goals refine RS.nil ?_)
    refine blkQ.normal ?_
    refine thenQ.normal ?_
    exact ⟨_, r.props, r.tags, r.links, ⟨_, _, _, _, _, _, _, _, _, _, _, _, _, _, _, _, _, _, _, O1, O2, O3, hO1, hO2, hO3, g7, g6, by simp; omega, by omega, rfl⟩, by omega, by omega, by omega, rfl⟩
  · refine CS.region (id := 23) ?_
    refine RS.pv (PV.all tab_ok rfl) rfl ?_
    (first | refine RS.lv (LV.load tab_ok rfl (Has.own 0 rfl) rfl) rfl ?_ | refine RS.lv (LV.load tab_ok rfl (Has.own 1 rfl) rfl) rfl ?_ | refine RS.lv (LV.load tab_ok rfl (Has.own 2 rfl) rfl) rfl ?_)
    (refine RS.append tab_ok (sz := 1) (bytes := 16) (k := 0) (m := r.load.length) (xs := []) (news := strs r.load) (O := []) (L0 := (b3, .cells (List.toArray [.string r.path, .int .i64 r.index, (.slice p2 r.props.length q2), (.slice p3 r.tags.length q3), (.slice p4 r.links.length q4), .slice a5 r.run.length c5, .slice a6 r.load.length c6, .string r.name, .int .i64 r.priority, .string r.owner, .string r.group, .int .i64 r.mode]) 36 (0, 0)) :: (b4, .cells (List.toArray [.string ByteArray.empty, .int .i64 0, .slice none 0 0, .slice none 0 0, .slice none 0 0, .slice none 0 0, .slice none 0 0, .string ByteArray.empty, .int .i64 0, .string ByteArray.empty, .string ByteArray.empty, .int .i64 0]) 36 (0, 0)) :: (tp, tapeO lv (at_ + 1)) :: (O1 ++ (O2 ++ (O3 ++ R)))) rfl rfl rfl ⟨_, rfl, rfl⟩ ⟨_, rfl, rfl, rfl⟩ (by omega) (SlO.nil 9 1) rfl (g6.rd _) (strs_one _) (by omega) (by omega) ?_; intro v' O4 hO4 hnil; clear hnil; rw [Nat.zero_add, List.nil_append] at hO4; obtain ⟨p5, q5, rfl⟩ := SlO.shape hO4; refine RS.perm (L' := (b3, .cells (List.toArray [.string r.path, .int .i64 r.index, (.slice p2 r.props.length q2), (.slice p3 r.tags.length q3), (.slice p4 r.links.length q4), .slice a5 r.run.length c5, .slice a6 r.load.length c6, .string r.name, .int .i64 r.priority, .string r.owner, .string r.group, .int .i64 r.mode]) 36 (0, 0)) :: (b4, .cells (List.toArray [.string ByteArray.empty, .int .i64 0, .slice none 0 0, .slice none 0 0, .slice none 0 0, .slice none 0 0, .slice none 0 0, .string ByteArray.empty, .int .i64 0, .string ByteArray.empty, .string ByteArray.empty, .int .i64 0]) 36 (0, 0)) :: (tp, tapeO lv (at_ + 1)) :: (O4 ++ (O1 ++ (O2 ++ (O3 ++ R))))) (by refine perm_of_sum _ _ fun f => ?_; simp only [List.map_append, List.map_cons, List.sum_append, List.sum_cons]; omega) ?_)
    (all_goals refine RS.pv (PV.all tab_ok rfl) rfl ?_)
    (all_goals (refine RS.buildStrsF tab_ok rfl rfl rfl rfl (fun bb i2 hi2 hbs => ?_); replace hl := hl.le hi2; replace g5 := g5.le hi2; replace g6 := g6.le hi2))
    (all_goals (refine RS.call (One_s tp 2 lv _ (at_ + 1) _ _ _ _ hl (by omega) rfl hbs rfl (by decide) (by unfold lenOk; omega)) rfl (by kernel_rfl) rfl ?_; rintro v i3 L3 hi3 ⟨⟨nw, _, rfl⟩, rfl, rfl⟩))
    (all_goals (refine RS.buildSliceF tab_ok 1 rfl rfl rfl (fun bb2 i4 hi4 hbs2 => ?_); replace g5 := g5.le hi4; replace g6 := g6.le hi4; refine RS.perm (L' := (b3, .cells (List.toArray [.string r.path, .int .i64 r.index, (.slice p2 r.props.length q2), (.slice p3 r.tags.length q3), (.slice p4 r.links.length q4), .slice a5 r.run.length c5, .slice a6 r.load.length c6, .string r.name, .int .i64 r.priority, .string r.owner, .string r.group, .int .i64 r.mode]) 36 (0, 0)) :: (b4, .cells (List.toArray [.string ByteArray.empty, .int .i64 0, .slice none 0 0, .slice none 0 0, .slice none 0 0, .slice none 0 0, .slice none 0 0, .string ByteArray.empty, .int .i64 0, .string ByteArray.empty, .string ByteArray.empty, .int .i64 0]) 36 (0, 0)) :: (tp, tapeO lv (at_ + 1 + 1)) :: (O4 ++ (O1 ++ (O2 ++ (O3 ++ R))))) (List.Perm.of_eq rfl) ?_; refine RS.perm (L' := O4 ++ ((b3, .cells (List.toArray [.string r.path, .int .i64 r.index, (.slice p2 r.props.length q2), (.slice p3 r.tags.length q3), (.slice p4 r.links.length q4), .slice a5 r.run.length c5, .slice a6 r.load.length c6, .string r.name, .int .i64 r.priority, .string r.owner, .string r.group, .int .i64 r.mode]) 36 (0, 0)) :: (b4, .cells (List.toArray [.string ByteArray.empty, .int .i64 0, .slice none 0 0, .slice none 0 0, .slice none 0 0, .slice none 0 0, .slice none 0 0, .string ByteArray.empty, .int .i64 0, .string ByteArray.empty, .string ByteArray.empty, .int .i64 0]) 36 (0, 0)) :: (tp, tapeO lv (at_ + 1 + 1)) :: (O1 ++ (O2 ++ (O3 ++ R))))) (by refine perm_of_sum _ _ fun f => ?_; simp only [List.map_append, List.map_cons, List.sum_append, List.sum_cons]; omega) ?_))
    (all_goals (refine RS.append tab_ok (sz := 1) (bytes := 16) (k := r.load.length) (m := 1) (xs := strs r.load) (news := strs [nw]) rfl rfl rfl ⟨_, rfl, rfl⟩ ⟨_, rfl, rfl, rfl⟩ (by omega) hO4 rfl (hbs2.rd _) (strs_one _) (by omega) (by omega) ?_; intro v' O5 hO5 hnil; clear hnil; replace hO5 := SlO.snocS hO5; obtain ⟨p6, q6, rfl⟩ := SlO.shape hO5; refine RS.freezeSl (L0 := (b3, .cells (List.toArray [.string r.path, .int .i64 r.index, (.slice p2 r.props.length q2), (.slice p3 r.tags.length q3), (.slice p4 r.links.length q4), .slice a5 r.run.length c5, .slice a6 r.load.length c6, .string r.name, .int .i64 r.priority, .string r.owner, .string r.group, .int .i64 r.mode]) 36 (0, 0)) :: (b4, .cells (List.toArray [.string ByteArray.empty, .int .i64 0, .slice none 0 0, .slice none 0 0, .slice none 0 0, .slice none 0 0, .slice none 0 0, .string ByteArray.empty, .int .i64 0, .string ByteArray.empty, .string ByteArray.empty, .int .i64 0]) 36 (0, 0)) :: (tp, tapeO lv (at_ + 1 + 1)) :: (O1 ++ (O2 ++ (O3 ++ R)))) hO5 (List.Perm.refl _) (fun i5 hi5 g7 => ?_); replace g5 := g5.le hi5; replace g6 := g6.le hi5))
    (all_goals refine RS.pv (PV.all tab_ok rfl) rfl ?_)
    (all_goals (first | refine RS.store (k := 0) tab_ok rfl rfl rfl rfl rfl rfl rfl rfl ?_ | refine RS.store (k := 1) tab_ok rfl rfl rfl rfl rfl rfl rfl rfl ?_ | refine RS.store (k := 2) tab_ok rfl rfl rfl rfl rfl rfl rfl rfl ?_))
    (all_goals refine RS.nil ?_)
    refine blkQ.normal ?_
    refine thenQ.normal ?_
    exact ⟨_, r.props, r.tags, r.links, ⟨_, _, _, _, _, _, _, _, _, _, _, _, _, _, _, _, _, _, _, O1, O2, O3, hO1, hO2, hO3, g5, g7, by omega, by simp; omega, rfl⟩, by omega, by omega, by omega, rfl⟩
  · refine CS.draw [0, 1, 2, 3, 4, 5, 6] [7] [1] [(b3, .cells (List.toArray [.string r.path, .int .i64 r.index, (.slice p2 r.props.length q2), (.slice p3 r.tags.length q3), (.slice p4 r.links.length q4), .slice a5 r.run.length c5, .slice a6 r.load.length c6, .string r.name, .int .i64 r.priority, .string r.owner, .string r.group, .int .i64 r.mode]) 36 (0, 0)) :: (b4, .cells (List.toArray [.string ByteArray.empty, .int .i64 0, .slice none 0 0, .slice none 0 0, .slice none 0 0, .slice none 0 0, .slice none 0 0, .string ByteArray.empty, .int .i64 0, .string ByteArray.empty, .string ByteArray.empty, .int .i64 0]) 36 (0, 0)) :: (tp, tapeO lv (at_ + 1)) :: (O1 ++ (O2 ++ (O3 ++ R))), (b3, .cells (List.toArray [.string r.path, .int .i64 r.index, (.slice p2 r.props.length q2), (.slice p3 r.tags.length q3), (.slice p4 r.links.length q4), .slice a5 r.run.length c5, .slice a6 r.load.length c6, .string r.name, .int .i64 r.priority, .string r.owner, .string r.group, .int .i64 r.mode]) 36 (0, 0)) :: (b4, .cells (List.toArray [.string ByteArray.empty, .int .i64 0, .slice none 0 0, .slice none 0 0, .slice none 0 0, .slice none 0 0, .slice none 0 0, .string ByteArray.empty, .int .i64 0, .string ByteArray.empty, .string ByteArray.empty, .int .i64 0]) 36 (0, 0)) :: (tp, tapeO lv (at_ + 1 + 1)) :: (O1 ++ (O2 ++ (O3 ++ R)))] mix (by kernel_rfl) rfl rfl [_] rfl ?_
    refine GS.pv (PV.all tab_ok rfl) rfl rfl rfl rfl rfl rfl ?_
    refine GS.turn 0 (fun _ v => ∃ x, v = .int .i64 (foldI x 3)) (fun _ _ _ _ h => h) rfl rfl rfl rfl (by decide) rfl rfl (fun i' hi => ⟨rfl, OpS.call (by kernel_rfl) rfl (Next_s tp 2 lv (at_ + 1) 3 _ _ (by omega) (hl.le hi) (by omega) rfl) (fun _ _ _ _ ⟨⟨x, h⟩, _, hL⟩ => ⟨hL, x, h⟩)⟩) ?_
    refine GS.factA (fun _ v => ∃ k, v = .int .i64 k ∧ 63 ≤ k ∧ k ≤ 65) (fun _ _ _ _ h => h) rfl rfl rfl rfl (fun i' hi L hL => by rintro v ⟨x, rfl⟩; have hx := foldI_bd x (n := 3) (by omega); exact ⟨rfl, OpS.mono (OpS.pv (PV.add rfl rfl (by omega))) (fun _ _ _ _ ⟨h1, h2⟩ => ⟨h1, _, h2, by omega, by omega⟩)⟩) ⟨_, .head _⟩ ?_
    refine GS.pv (PV.all tab_ok rfl) rfl rfl rfl rfl rfl rfl ?_
    refine GS.fix (v := (.slice p2 r.props.length q2)) rfl rfl rfl rfl rfl rfl (fun i' _ L' hL' => by simp only [List.mem_cons, List.not_mem_nil, or_false] at hL'; rcases hL' with rfl | rfl | rfl <;> exact LV.load tab_ok rfl (Has.own 0 rfl) rfl) ?_
    refine GS.pv (PV.lenS tab_ok rfl rfl) rfl rfl rfl rfl rfl rfl ?_
    refine GS.factA (fun _ v => ∃ k, v = .int .i64 k ∧ 0 ≤ k ∧ k ≤ 65) (fun _ _ _ _ h => h) rfl rfl rfl rfl (fun i' hi L hL => by rintro v ⟨x, rfl, h1, h2⟩; exact ⟨rfl, OpS.mono (OpS.pv (PV.sub rfl rfl (by omega))) (fun _ _ _ _ ⟨h1, h2⟩ => ⟨h1, _, h2, by omega, by omega⟩)⟩) ⟨_, .head _⟩ ?_
    refine GS.done rfl rfl (fun i5 hi5 => ?_)
    rintro w5 ⟨k, rfl, hk1, hk2⟩ w4 _ w3 _
    replace g5 := g5.le hi5; replace g6 := g6.le hi5
    refine RS.pv (PV.all tab_ok rfl) rfl ?_
    refine RS.nil ?_
    refine thenQ.normal ?_
    refine CS.block ?_
    refine CS.loop [0, 3, 4, 5] (fun m vs i' L' => ∃ (k : Int) (props : List (ByteArray × ByteArray)), k ≤ m ∧ 0 ≤ k ∧ props.length + m ≤ 72 ∧ SpH tp b3 b4 lv R (at_ + 1 + 1) props r.tags r.links i' L' ∧ vs = [.pointer (some ⟨tp, 0, none⟩), .pointer (some ⟨b3, 0, none⟩), .pointer (some ⟨b4, 0, none⟩), .int .i64 k]) 65 ⟨k, r.props, hk2, hk1, by omega, ⟨_, _, _, _, _, _, _, _, _, _, _, _, _, _, _, _, _, _, _, O1, O2, O3, hO1, hO2, hO3, g5, g6, by omega, by omega, rfl⟩, rfl⟩ ?_
    clear hO1 hO2 hO3 g5 g6 hl
    clear O1 O2 O3 p2 p3 p4 q2 q3 q4 a5 a6 c5 c6
    clear hk1 hk2 k
    rintro m g vs i' L' _ ⟨k, props, hk1, hk2, hpm, hS, rfl⟩
    obtain ⟨path, index, run, load, p2, q2, p3, q3, p4, q4, p5, q5, p6, q6, name, prio, owner, group, mode, O1, O2, O3, s2, s3, s4, s5, s6, hr, hld, rfl⟩ := hS
    by_cases hlt : 0 < k
    · have hq : k.tdiv 26 = k / 26 := Int.tdiv_eq_ediv_of_nonneg hk2
      have hm := Int.tmod_eq_emod_of_nonneg (a := k) (b := 26) hk2
      obtain ⟨tx, htx, htl⟩ := bytesOf_some [.int .u8 (IntKind.u8.wrap (65 + k.tdiv 26)), .int .u8 (IntKind.u8.wrap (65 + k.tmod 26))] ByteArray.empty (by intro c hc; simp at hc; rcases hc with rfl | rfl <;> exact ⟨_, rfl⟩)
      obtain ⟨ty, hty⟩ : ∃ ty, (⟨#[84]⟩ : ByteArray) ++ tx = ty := ⟨_, rfl⟩
      repeat' (first
        | refine CS.seq ?_
        | refine thenQ.normal ?_
        | refine CS.cond_true rfl ?_
        | refine CS.cond_false rfl ?_
        | refine CS.skip ?_
        | (refine CS.region (id := 0) ?_;
            refine RS.box rfl rfl (fun b => ?_);
            refine RS.alloc tab_ok rfl rfl (fun b => ?_);
            refine RS.nil ?_)
        | (refine CS.region (id := 1) ?_;
            refine RS.pv (PV.all tab_ok rfl) rfl ?_;
            (first | refine RS.lv (LV.load tab_ok rfl (Has.own 0 rfl) rfl) rfl ?_ | refine RS.lv (LV.load tab_ok rfl (Has.own 1 rfl) rfl) rfl ?_ | refine RS.lv (LV.load tab_ok rfl (Has.own 2 rfl) rfl) rfl ?_))
        | (refine CS.region (id := 2) ?_;
            refine RS.pv (PV.all tab_ok rfl) rfl ?_;
            (first | refine RS.lv (LV.load tab_ok rfl (Has.own 0 rfl) rfl) rfl ?_ | refine RS.lv (LV.load tab_ok rfl (Has.own 1 rfl) rfl) rfl ?_ | refine RS.lv (LV.load tab_ok rfl (Has.own 2 rfl) rfl) rfl ?_))
        | (refine CS.region (id := 3) ?_;
            refine RS.pv (PV.all tab_ok rfl) rfl ?_;
            (first | refine RS.lv (LV.load tab_ok rfl (Has.own 0 rfl) rfl) rfl ?_ | refine RS.lv (LV.load tab_ok rfl (Has.own 1 rfl) rfl) rfl ?_ | refine RS.lv (LV.load tab_ok rfl (Has.own 2 rfl) rfl) rfl ?_))
        | (refine CS.region (id := 4) ?_;
            refine RS.pv (PV.all tab_ok rfl) rfl ?_)
        | (refine CS.region (id := 10) ?_;
            (first | refine RS.pv (PV.all tab_ok rfl) rfl ?_ | refine RS.pv (PV.eqlT rfl rfl (by omega)) rfl ?_ | refine RS.pv (PV.eqlF rfl rfl (by omega)) rfl ?_ | refine RS.ifEql rfl rfl rfl (fun h => ?_) (fun h => ?_) | refine RS.ifSeql rfl rfl rfl (fun h => ?_) (fun h => ?_));
            (all_goals refine RS.pv (PV.all tab_ok rfl) rfl ?_);
            (all_goals refine RS.nil ?_))
        | (refine CS.region (id := 11) ?_;
            refine RS.pv (PV.all tab_ok rfl) rfl ?_)
        | (refine CS.region (id := 12) ?_;
            (first | refine RS.pv (PV.all tab_ok rfl) rfl ?_ | refine RS.pv (PV.eqlT rfl rfl (by omega)) rfl ?_ | refine RS.pv (PV.eqlF rfl rfl (by omega)) rfl ?_ | refine RS.ifEql rfl rfl rfl (fun h => ?_) (fun h => ?_) | refine RS.ifSeql rfl rfl rfl (fun h => ?_) (fun h => ?_));
            (all_goals refine RS.pv (PV.all tab_ok rfl) rfl ?_);
            (all_goals refine RS.nil ?_))
        | (refine CS.region (id := 13) ?_)
        | (refine CS.region (id := 14) ?_;
            (first | refine RS.pv (PV.all tab_ok rfl) rfl ?_ | refine RS.pv (PV.eqlT rfl rfl (by omega)) rfl ?_ | refine RS.pv (PV.eqlF rfl rfl (by omega)) rfl ?_ | refine RS.ifEql rfl rfl rfl (fun h => ?_) (fun h => ?_) | refine RS.ifSeql rfl rfl rfl (fun h => ?_) (fun h => ?_));
            (all_goals refine RS.pv (PV.all tab_ok rfl) rfl ?_);
            (all_goals refine RS.nil ?_))
        | (refine CS.drawQ (id := 15) mix (by kernel_rfl) ?_;
            refine QS.pv (PV.all tab_ok rfl) rfl ?_;
            (first | refine QS.lv (LV.load tab_ok rfl (Has.own 0 rfl) rfl) rfl ?_ | refine QS.lv (LV.load tab_ok rfl (Has.own 1 rfl) rfl) rfl ?_ | refine QS.lv (LV.load tab_ok rfl (Has.own 2 rfl) rfl) rfl ?_);
            refine QS.pv (PV.all tab_ok rfl) rfl ?_)
        | (refine CS.region (id := 16) ?_;
            (first | refine RS.pv (PV.all tab_ok rfl) rfl ?_ | refine RS.pv (PV.eqlT rfl rfl (by omega)) rfl ?_ | refine RS.pv (PV.eqlF rfl rfl (by omega)) rfl ?_ | refine RS.ifEql rfl rfl rfl (fun h => ?_) (fun h => ?_) | refine RS.ifSeql rfl rfl rfl (fun h => ?_) (fun h => ?_));
            (all_goals refine RS.pv (PV.all tab_ok rfl) rfl ?_);
            (all_goals refine RS.nil ?_))
        | (refine CS.drawQ (id := 17) mix (by kernel_rfl) ?_;
            refine QS.pv (PV.all tab_ok rfl) rfl ?_;
            (first | refine QS.lv (LV.load tab_ok rfl (Has.own 0 rfl) rfl) rfl ?_ | refine QS.lv (LV.load tab_ok rfl (Has.own 1 rfl) rfl) rfl ?_ | refine QS.lv (LV.load tab_ok rfl (Has.own 2 rfl) rfl) rfl ?_);
            refine QS.pv (PV.all tab_ok rfl) rfl ?_)
        | (refine CS.region (id := 18) ?_;
            (first | refine RS.pv (PV.all tab_ok rfl) rfl ?_ | refine RS.pv (PV.eqlT rfl rfl (by omega)) rfl ?_ | refine RS.pv (PV.eqlF rfl rfl (by omega)) rfl ?_ | refine RS.ifEql rfl rfl rfl (fun h => ?_) (fun h => ?_) | refine RS.ifSeql rfl rfl rfl (fun h => ?_) (fun h => ?_));
            (all_goals refine RS.pv (PV.all tab_ok rfl) rfl ?_);
            (all_goals refine RS.nil ?_))
        | (refine CS.drawQ (id := 19) mix (by kernel_rfl) ?_;
            refine QS.pv (PV.all tab_ok rfl) rfl ?_;
            (first | refine QS.lv (LV.load tab_ok rfl (Has.own 0 rfl) rfl) rfl ?_ | refine QS.lv (LV.load tab_ok rfl (Has.own 1 rfl) rfl) rfl ?_ | refine QS.lv (LV.load tab_ok rfl (Has.own 2 rfl) rfl) rfl ?_);
            refine QS.pv (PV.all tab_ok rfl) rfl ?_)
        | (refine CS.region (id := 20) ?_;
            (first | refine RS.pv (PV.all tab_ok rfl) rfl ?_ | refine RS.pv (PV.eqlT rfl rfl (by omega)) rfl ?_ | refine RS.pv (PV.eqlF rfl rfl (by omega)) rfl ?_ | refine RS.ifEql rfl rfl rfl (fun h => ?_) (fun h => ?_) | refine RS.ifSeql rfl rfl rfl (fun h => ?_) (fun h => ?_));
            (all_goals refine RS.pv (PV.all tab_ok rfl) rfl ?_);
            (all_goals refine RS.nil ?_))
        | (refine CS.region (id := 21) ?_;
            refine RS.pv (PV.all tab_ok rfl) rfl ?_;
            (first | refine RS.lv (LV.load tab_ok rfl (Has.own 0 rfl) rfl) rfl ?_ | refine RS.lv (LV.load tab_ok rfl (Has.own 1 rfl) rfl) rfl ?_ | refine RS.lv (LV.load tab_ok rfl (Has.own 2 rfl) rfl) rfl ?_))
        | (refine CS.region (id := 22) ?_;
            (first | refine RS.pv (PV.all tab_ok rfl) rfl ?_ | refine RS.pv (PV.eqlT rfl rfl (by omega)) rfl ?_ | refine RS.pv (PV.eqlF rfl rfl (by omega)) rfl ?_ | refine RS.ifEql rfl rfl rfl (fun h => ?_) (fun h => ?_) | refine RS.ifSeql rfl rfl rfl (fun h => ?_) (fun h => ?_));
            (all_goals refine RS.pv (PV.all tab_ok rfl) rfl ?_);
            (all_goals refine RS.nil ?_))
        | (refine CS.region (id := 23) ?_;
            refine RS.pv (PV.all tab_ok rfl) rfl ?_;
            (first | refine RS.lv (LV.load tab_ok rfl (Has.own 0 rfl) rfl) rfl ?_ | refine RS.lv (LV.load tab_ok rfl (Has.own 1 rfl) rfl) rfl ?_ | refine RS.lv (LV.load tab_ok rfl (Has.own 2 rfl) rfl) rfl ?_))
        | (refine CS.region (id := 24) ?_;
            (first | refine RS.pv (PV.all tab_ok rfl) rfl ?_ | refine RS.pv (PV.eqlT rfl rfl (by omega)) rfl ?_ | refine RS.pv (PV.eqlF rfl rfl (by omega)) rfl ?_ | refine RS.ifEql rfl rfl rfl (fun h => ?_) (fun h => ?_) | refine RS.ifSeql rfl rfl rfl (fun h => ?_) (fun h => ?_));
            (all_goals refine RS.pv (PV.all tab_ok rfl) rfl ?_);
            (all_goals refine RS.nil ?_))
        | (refine CS.region (id := 25) ?_;
            refine RS.pv (PV.all tab_ok rfl) rfl ?_)
        | (refine CS.region (id := 26) ?_;
            (first | refine RS.pv (PV.all tab_ok rfl) rfl ?_ | refine RS.pv (PV.eqlT rfl rfl (by omega)) rfl ?_ | refine RS.pv (PV.eqlF rfl rfl (by omega)) rfl ?_ | refine RS.ifEql rfl rfl rfl (fun h => ?_) (fun h => ?_) | refine RS.ifSeql rfl rfl rfl (fun h => ?_) (fun h => ?_));
            (all_goals refine RS.pv (PV.all tab_ok rfl) rfl ?_);
            (all_goals refine RS.nil ?_))
        | (refine CS.region (id := 27) ?_)
        | (refine CS.region (id := 28) ?_;
            (first | refine RS.pv (PV.all tab_ok rfl) rfl ?_ | refine RS.pv (PV.eqlT rfl rfl (by omega)) rfl ?_ | refine RS.pv (PV.eqlF rfl rfl (by omega)) rfl ?_ | refine RS.ifEql rfl rfl rfl (fun h => ?_) (fun h => ?_) | refine RS.ifSeql rfl rfl rfl (fun h => ?_) (fun h => ?_));
            (all_goals refine RS.pv (PV.all tab_ok rfl) rfl ?_);
            (all_goals refine RS.nil ?_))
        | (refine CS.region (id := 29) ?_;
            refine RS.pv (PV.all tab_ok rfl) rfl ?_)
        | (refine CS.region (id := 30) ?_;
            (first | refine RS.pv (PV.all tab_ok rfl) rfl ?_ | refine RS.pv (PV.eqlT rfl rfl (by omega)) rfl ?_ | refine RS.pv (PV.eqlF rfl rfl (by omega)) rfl ?_ | refine RS.ifEql rfl rfl rfl (fun h => ?_) (fun h => ?_) | refine RS.ifSeql rfl rfl rfl (fun h => ?_) (fun h => ?_));
            (all_goals refine RS.pv (PV.all tab_ok rfl) rfl ?_);
            (all_goals refine RS.nil ?_))
        | (refine CS.region (id := 31) ?_;
            refine RS.pv (PV.all tab_ok rfl) rfl ?_)
        | (refine CS.region (id := 32) ?_;
            (first | refine RS.pv (PV.all tab_ok rfl) rfl ?_ | refine RS.pv (PV.eqlT rfl rfl (by omega)) rfl ?_ | refine RS.pv (PV.eqlF rfl rfl (by omega)) rfl ?_ | refine RS.ifEql rfl rfl rfl (fun h => ?_) (fun h => ?_) | refine RS.ifSeql rfl rfl rfl (fun h => ?_) (fun h => ?_));
            (all_goals refine RS.pv (PV.all tab_ok rfl) rfl ?_);
            (all_goals refine RS.nil ?_))
        | (refine CS.region (id := 33) ?_)
        | (refine CS.region (id := 34) ?_;
            (first | refine RS.pv (PV.all tab_ok rfl) rfl ?_ | refine RS.pv (PV.eqlT rfl rfl (by omega)) rfl ?_ | refine RS.pv (PV.eqlF rfl rfl (by omega)) rfl ?_ | refine RS.ifEql rfl rfl rfl (fun h => ?_) (fun h => ?_) | refine RS.ifSeql rfl rfl rfl (fun h => ?_) (fun h => ?_));
            (all_goals refine RS.pv (PV.all tab_ok rfl) rfl ?_);
            (all_goals refine RS.nil ?_))
        | (refine CS.drawQ (id := 35) mix (by kernel_rfl) ?_;
            refine QS.pv (PV.all tab_ok rfl) rfl ?_)
        | (refine CS.region (id := 36) ?_;
            refine RS.pv (PV.all tab_ok rfl) rfl ?_;
            (first | refine RS.pv (PV.gtrT rfl rfl (by omega)) rfl ?_ | refine RS.pv (PV.gtrF rfl rfl (by omega)) rfl ?_ | refine RS.ifGtr rfl rfl rfl (fun h => ?_) (fun h => ?_));
            (all_goals refine RS.nil ?_))
        | (refine CS.region (id := 37) ?_;
            refine RS.pv (PV.all tab_ok rfl) rfl ?_;
            refine RS.pv (PV.sub rfl rfl (by omega)) rfl ?_;
            refine RS.pv (PV.all tab_ok rfl) rfl ?_;
            refine RS.nil ?_)
        | (refine CS.region (id := 38) ?_;
            refine RS.pv (PV.all tab_ok rfl) rfl ?_;
            (first | refine RS.lv (LV.load tab_ok rfl (Has.own 0 rfl) rfl) rfl ?_ | refine RS.lv (LV.load tab_ok rfl (Has.own 1 rfl) rfl) rfl ?_ | refine RS.lv (LV.load tab_ok rfl (Has.own 2 rfl) rfl) rfl ?_);
            refine RS.pv (PV.all tab_ok rfl) rfl ?_;
            refine RS.pv (PV.quo rfl rfl (by omega) (by rw [hq]; omega)) rfl ?_;
            (all_goals refine RS.pv (PV.add rfl rfl (by rw [hq]; omega)) rfl ?_);
            (all_goals refine RS.pv (PV.toU8 tab_ok ⟨_, rfl⟩ ⟨_, rfl, rfl⟩ rfl) rfl ?_);
            (all_goals refine RS.pv (PV.all tab_ok rfl) rfl ?_);
            (all_goals refine RS.pv (PV.rem rfl rfl (by omega)) rfl ?_);
            (all_goals refine RS.pv (PV.add rfl rfl (by rw [hm]; omega)) rfl ?_);
            (all_goals refine RS.pv (PV.toU8 tab_ok ⟨_, rfl⟩ ⟨_, rfl, rfl⟩ rfl) rfl ?_);
            (all_goals refine RS.buildSlice tab_ok rfl rfl (fun bb => ?_));
            (all_goals (refine RS.lv (LV.bytesS tab_ok ⟨_, rfl, rfl⟩ ⟨_, rfl, rfl⟩ ⟨_, rfl, rfl⟩ rfl (Has.own 0 rfl) rfl htx) rfl ?_; refine RS.drop ?_));
            (all_goals (refine RS.pv (PV.sadd rfl rfl (by show 1 + tx.size ≤ _; rw [htl]; show 1 + (0 + 2) ≤ _; decide)) rfl ?_; rw [hty]));
            (all_goals refine RS.pv (PV.all tab_ok rfl) rfl ?_);
            (all_goals (refine RS.buildSliceF tab_ok 2 rfl rfl rfl (fun bb2 i4 hi4 hbs2 => ?_); refine RS.perm (L' := O1 ++ ((b3, .cells (List.toArray [.string path, .int .i64 index, .slice p2 props.length q2, .slice p3 r.tags.length q3, .slice p4 r.links.length q4, .slice p5 run.length q5, .slice p6 load.length q6, .string name, .int .i64 prio, .string owner, .string group, .int .i64 mode]) 36 (0, 0)) :: (b4, .cells (List.toArray [.string ByteArray.empty, .int .i64 0, .slice none 0 0, .slice none 0 0, .slice none 0 0, .slice none 0 0, .slice none 0 0, .string ByteArray.empty, .int .i64 0, .string ByteArray.empty, .string ByteArray.empty, .int .i64 0]) 36 (0, 0)) :: (tp, tapeO lv (at_ + 1 + 1)) :: (O2 ++ (O3 ++ R)))) (by refine perm_of_sum _ _ fun f => ?_; simp only [List.map_append, List.map_cons, List.sum_append, List.sum_cons]; omega) ?_));
            (all_goals (refine RS.append tab_ok (sz := 2) (bytes := 32) (k := props.length) (m := 1) (xs := attrs props) (news := [.string ty, .string ⟨#[49]⟩]) rfl rfl rfl ⟨_, rfl, rfl⟩ ⟨_, rfl, rfl, rfl⟩ (by omega) s2 rfl (hbs2.rd _) (by intro c hc; simp at hc; rcases hc with rfl | rfl <;> rfl) (by omega) (by omega) ?_; intro v' O5 hO5 hnil; clear hnil; replace hO5 := SlO.snocA hO5; obtain ⟨p7, q7, rfl⟩ := SlO.shape hO5; refine RS.perm (L' := (b3, .cells (List.toArray [.string path, .int .i64 index, .slice p2 props.length q2, .slice p3 r.tags.length q3, .slice p4 r.links.length q4, .slice p5 run.length q5, .slice p6 load.length q6, .string name, .int .i64 prio, .string owner, .string group, .int .i64 mode]) 36 (0, 0)) :: (b4, .cells (List.toArray [.string ByteArray.empty, .int .i64 0, .slice none 0 0, .slice none 0 0, .slice none 0 0, .slice none 0 0, .slice none 0 0, .string ByteArray.empty, .int .i64 0, .string ByteArray.empty, .string ByteArray.empty, .int .i64 0]) 36 (0, 0)) :: (tp, tapeO lv (at_ + 1 + 1)) :: (O5 ++ (O2 ++ (O3 ++ R)))) (by refine perm_of_sum _ _ fun f => ?_; simp only [List.map_append, List.map_cons, List.sum_append, List.sum_cons]; omega) ?_));
            (all_goals refine RS.pv (PV.all tab_ok rfl) rfl ?_);
            (all_goals (first | refine RS.store (k := 0) tab_ok rfl rfl rfl rfl rfl rfl rfl rfl ?_ | refine RS.store (k := 1) tab_ok rfl rfl rfl rfl rfl rfl rfl rfl ?_ | refine RS.store (k := 2) tab_ok rfl rfl rfl rfl rfl rfl rfl rfl ?_));
            (all_goals refine RS.nil ?_))
        | refine CS.ret ?_
        | refine thenQ.ret ?_
        | refine blkQ.ret ?_
        | refine retQ.ret ?_
        | refine CS.block ?_
        | refine CS.exit ?_
        | refine thenQ.exit ?_
        | refine blkQ.normal ?_
        | refine blkQ.here ?_
        | refine blkQ.past rfl ?_
        | refine retQ.normal ?_)
      exact ⟨m - 1, by omega, k - 1, _, by omega, by omega, by simp; omega, ⟨_, _, _, _, _, _, _, _, _, _, _, _, _, _, _, _, _, _, _, O5, O2, O3, hO5, s3, s4, s5.le hi4, s6.le hi4, hr, hld, rfl⟩, rfl⟩
    · repeat' (first
        | refine CS.seq ?_
        | refine thenQ.normal ?_
        | refine CS.cond_true rfl ?_
        | refine CS.cond_false rfl ?_
        | refine CS.skip ?_
        | (refine CS.region (id := 0) ?_;
            refine RS.box rfl rfl (fun b => ?_);
            refine RS.alloc tab_ok rfl rfl (fun b => ?_);
            refine RS.nil ?_)
        | (refine CS.region (id := 1) ?_;
            refine RS.pv (PV.all tab_ok rfl) rfl ?_;
            (first | refine RS.lv (LV.load tab_ok rfl (Has.own 0 rfl) rfl) rfl ?_ | refine RS.lv (LV.load tab_ok rfl (Has.own 1 rfl) rfl) rfl ?_ | refine RS.lv (LV.load tab_ok rfl (Has.own 2 rfl) rfl) rfl ?_))
        | (refine CS.region (id := 2) ?_;
            refine RS.pv (PV.all tab_ok rfl) rfl ?_;
            (first | refine RS.lv (LV.load tab_ok rfl (Has.own 0 rfl) rfl) rfl ?_ | refine RS.lv (LV.load tab_ok rfl (Has.own 1 rfl) rfl) rfl ?_ | refine RS.lv (LV.load tab_ok rfl (Has.own 2 rfl) rfl) rfl ?_))
        | (refine CS.region (id := 3) ?_;
            refine RS.pv (PV.all tab_ok rfl) rfl ?_;
            (first | refine RS.lv (LV.load tab_ok rfl (Has.own 0 rfl) rfl) rfl ?_ | refine RS.lv (LV.load tab_ok rfl (Has.own 1 rfl) rfl) rfl ?_ | refine RS.lv (LV.load tab_ok rfl (Has.own 2 rfl) rfl) rfl ?_))
        | (refine CS.region (id := 4) ?_;
            refine RS.pv (PV.all tab_ok rfl) rfl ?_)
        | (refine CS.region (id := 10) ?_;
            (first | refine RS.pv (PV.all tab_ok rfl) rfl ?_ | refine RS.pv (PV.eqlT rfl rfl (by omega)) rfl ?_ | refine RS.pv (PV.eqlF rfl rfl (by omega)) rfl ?_ | refine RS.ifEql rfl rfl rfl (fun h => ?_) (fun h => ?_) | refine RS.ifSeql rfl rfl rfl (fun h => ?_) (fun h => ?_));
            (all_goals refine RS.pv (PV.all tab_ok rfl) rfl ?_);
            (all_goals refine RS.nil ?_))
        | (refine CS.region (id := 11) ?_;
            refine RS.pv (PV.all tab_ok rfl) rfl ?_)
        | (refine CS.region (id := 12) ?_;
            (first | refine RS.pv (PV.all tab_ok rfl) rfl ?_ | refine RS.pv (PV.eqlT rfl rfl (by omega)) rfl ?_ | refine RS.pv (PV.eqlF rfl rfl (by omega)) rfl ?_ | refine RS.ifEql rfl rfl rfl (fun h => ?_) (fun h => ?_) | refine RS.ifSeql rfl rfl rfl (fun h => ?_) (fun h => ?_));
            (all_goals refine RS.pv (PV.all tab_ok rfl) rfl ?_);
            (all_goals refine RS.nil ?_))
        | (refine CS.region (id := 13) ?_)
        | (refine CS.region (id := 14) ?_;
            (first | refine RS.pv (PV.all tab_ok rfl) rfl ?_ | refine RS.pv (PV.eqlT rfl rfl (by omega)) rfl ?_ | refine RS.pv (PV.eqlF rfl rfl (by omega)) rfl ?_ | refine RS.ifEql rfl rfl rfl (fun h => ?_) (fun h => ?_) | refine RS.ifSeql rfl rfl rfl (fun h => ?_) (fun h => ?_));
            (all_goals refine RS.pv (PV.all tab_ok rfl) rfl ?_);
            (all_goals refine RS.nil ?_))
        | (refine CS.drawQ (id := 15) mix (by kernel_rfl) ?_;
            refine QS.pv (PV.all tab_ok rfl) rfl ?_;
            (first | refine QS.lv (LV.load tab_ok rfl (Has.own 0 rfl) rfl) rfl ?_ | refine QS.lv (LV.load tab_ok rfl (Has.own 1 rfl) rfl) rfl ?_ | refine QS.lv (LV.load tab_ok rfl (Has.own 2 rfl) rfl) rfl ?_);
            refine QS.pv (PV.all tab_ok rfl) rfl ?_)
        | (refine CS.region (id := 16) ?_;
            (first | refine RS.pv (PV.all tab_ok rfl) rfl ?_ | refine RS.pv (PV.eqlT rfl rfl (by omega)) rfl ?_ | refine RS.pv (PV.eqlF rfl rfl (by omega)) rfl ?_ | refine RS.ifEql rfl rfl rfl (fun h => ?_) (fun h => ?_) | refine RS.ifSeql rfl rfl rfl (fun h => ?_) (fun h => ?_));
            (all_goals refine RS.pv (PV.all tab_ok rfl) rfl ?_);
            (all_goals refine RS.nil ?_))
        | (refine CS.drawQ (id := 17) mix (by kernel_rfl) ?_;
            refine QS.pv (PV.all tab_ok rfl) rfl ?_;
            (first | refine QS.lv (LV.load tab_ok rfl (Has.own 0 rfl) rfl) rfl ?_ | refine QS.lv (LV.load tab_ok rfl (Has.own 1 rfl) rfl) rfl ?_ | refine QS.lv (LV.load tab_ok rfl (Has.own 2 rfl) rfl) rfl ?_);
            refine QS.pv (PV.all tab_ok rfl) rfl ?_)
        | (refine CS.region (id := 18) ?_;
            (first | refine RS.pv (PV.all tab_ok rfl) rfl ?_ | refine RS.pv (PV.eqlT rfl rfl (by omega)) rfl ?_ | refine RS.pv (PV.eqlF rfl rfl (by omega)) rfl ?_ | refine RS.ifEql rfl rfl rfl (fun h => ?_) (fun h => ?_) | refine RS.ifSeql rfl rfl rfl (fun h => ?_) (fun h => ?_));
            (all_goals refine RS.pv (PV.all tab_ok rfl) rfl ?_);
            (all_goals refine RS.nil ?_))
        | (refine CS.drawQ (id := 19) mix (by kernel_rfl) ?_;
            refine QS.pv (PV.all tab_ok rfl) rfl ?_;
            (first | refine QS.lv (LV.load tab_ok rfl (Has.own 0 rfl) rfl) rfl ?_ | refine QS.lv (LV.load tab_ok rfl (Has.own 1 rfl) rfl) rfl ?_ | refine QS.lv (LV.load tab_ok rfl (Has.own 2 rfl) rfl) rfl ?_);
            refine QS.pv (PV.all tab_ok rfl) rfl ?_)
        | (refine CS.region (id := 20) ?_;
            (first | refine RS.pv (PV.all tab_ok rfl) rfl ?_ | refine RS.pv (PV.eqlT rfl rfl (by omega)) rfl ?_ | refine RS.pv (PV.eqlF rfl rfl (by omega)) rfl ?_ | refine RS.ifEql rfl rfl rfl (fun h => ?_) (fun h => ?_) | refine RS.ifSeql rfl rfl rfl (fun h => ?_) (fun h => ?_));
            (all_goals refine RS.pv (PV.all tab_ok rfl) rfl ?_);
            (all_goals refine RS.nil ?_))
        | (refine CS.region (id := 21) ?_;
            refine RS.pv (PV.all tab_ok rfl) rfl ?_;
            (first | refine RS.lv (LV.load tab_ok rfl (Has.own 0 rfl) rfl) rfl ?_ | refine RS.lv (LV.load tab_ok rfl (Has.own 1 rfl) rfl) rfl ?_ | refine RS.lv (LV.load tab_ok rfl (Has.own 2 rfl) rfl) rfl ?_))
        | (refine CS.region (id := 22) ?_;
            (first | refine RS.pv (PV.all tab_ok rfl) rfl ?_ | refine RS.pv (PV.eqlT rfl rfl (by omega)) rfl ?_ | refine RS.pv (PV.eqlF rfl rfl (by omega)) rfl ?_ | refine RS.ifEql rfl rfl rfl (fun h => ?_) (fun h => ?_) | refine RS.ifSeql rfl rfl rfl (fun h => ?_) (fun h => ?_));
            (all_goals refine RS.pv (PV.all tab_ok rfl) rfl ?_);
            (all_goals refine RS.nil ?_))
        | (refine CS.region (id := 23) ?_;
            refine RS.pv (PV.all tab_ok rfl) rfl ?_;
            (first | refine RS.lv (LV.load tab_ok rfl (Has.own 0 rfl) rfl) rfl ?_ | refine RS.lv (LV.load tab_ok rfl (Has.own 1 rfl) rfl) rfl ?_ | refine RS.lv (LV.load tab_ok rfl (Has.own 2 rfl) rfl) rfl ?_))
        | (refine CS.region (id := 24) ?_;
            (first | refine RS.pv (PV.all tab_ok rfl) rfl ?_ | refine RS.pv (PV.eqlT rfl rfl (by omega)) rfl ?_ | refine RS.pv (PV.eqlF rfl rfl (by omega)) rfl ?_ | refine RS.ifEql rfl rfl rfl (fun h => ?_) (fun h => ?_) | refine RS.ifSeql rfl rfl rfl (fun h => ?_) (fun h => ?_));
            (all_goals refine RS.pv (PV.all tab_ok rfl) rfl ?_);
            (all_goals refine RS.nil ?_))
        | (refine CS.region (id := 25) ?_;
            refine RS.pv (PV.all tab_ok rfl) rfl ?_)
        | (refine CS.region (id := 26) ?_;
            (first | refine RS.pv (PV.all tab_ok rfl) rfl ?_ | refine RS.pv (PV.eqlT rfl rfl (by omega)) rfl ?_ | refine RS.pv (PV.eqlF rfl rfl (by omega)) rfl ?_ | refine RS.ifEql rfl rfl rfl (fun h => ?_) (fun h => ?_) | refine RS.ifSeql rfl rfl rfl (fun h => ?_) (fun h => ?_));
            (all_goals refine RS.pv (PV.all tab_ok rfl) rfl ?_);
            (all_goals refine RS.nil ?_))
        | (refine CS.region (id := 27) ?_)
        | (refine CS.region (id := 28) ?_;
            (first | refine RS.pv (PV.all tab_ok rfl) rfl ?_ | refine RS.pv (PV.eqlT rfl rfl (by omega)) rfl ?_ | refine RS.pv (PV.eqlF rfl rfl (by omega)) rfl ?_ | refine RS.ifEql rfl rfl rfl (fun h => ?_) (fun h => ?_) | refine RS.ifSeql rfl rfl rfl (fun h => ?_) (fun h => ?_));
            (all_goals refine RS.pv (PV.all tab_ok rfl) rfl ?_);
            (all_goals refine RS.nil ?_))
        | (refine CS.region (id := 29) ?_;
            refine RS.pv (PV.all tab_ok rfl) rfl ?_)
        | (refine CS.region (id := 30) ?_;
            (first | refine RS.pv (PV.all tab_ok rfl) rfl ?_ | refine RS.pv (PV.eqlT rfl rfl (by omega)) rfl ?_ | refine RS.pv (PV.eqlF rfl rfl (by omega)) rfl ?_ | refine RS.ifEql rfl rfl rfl (fun h => ?_) (fun h => ?_) | refine RS.ifSeql rfl rfl rfl (fun h => ?_) (fun h => ?_));
            (all_goals refine RS.pv (PV.all tab_ok rfl) rfl ?_);
            (all_goals refine RS.nil ?_))
        | (refine CS.region (id := 31) ?_;
            refine RS.pv (PV.all tab_ok rfl) rfl ?_)
        | (refine CS.region (id := 32) ?_;
            (first | refine RS.pv (PV.all tab_ok rfl) rfl ?_ | refine RS.pv (PV.eqlT rfl rfl (by omega)) rfl ?_ | refine RS.pv (PV.eqlF rfl rfl (by omega)) rfl ?_ | refine RS.ifEql rfl rfl rfl (fun h => ?_) (fun h => ?_) | refine RS.ifSeql rfl rfl rfl (fun h => ?_) (fun h => ?_));
            (all_goals refine RS.pv (PV.all tab_ok rfl) rfl ?_);
            (all_goals refine RS.nil ?_))
        | (refine CS.region (id := 33) ?_)
        | (refine CS.region (id := 34) ?_;
            (first | refine RS.pv (PV.all tab_ok rfl) rfl ?_ | refine RS.pv (PV.eqlT rfl rfl (by omega)) rfl ?_ | refine RS.pv (PV.eqlF rfl rfl (by omega)) rfl ?_ | refine RS.ifEql rfl rfl rfl (fun h => ?_) (fun h => ?_) | refine RS.ifSeql rfl rfl rfl (fun h => ?_) (fun h => ?_));
            (all_goals refine RS.pv (PV.all tab_ok rfl) rfl ?_);
            (all_goals refine RS.nil ?_))
        | (refine CS.drawQ (id := 35) mix (by kernel_rfl) ?_;
            refine QS.pv (PV.all tab_ok rfl) rfl ?_)
        | (refine CS.region (id := 36) ?_;
            refine RS.pv (PV.all tab_ok rfl) rfl ?_;
            (first | refine RS.pv (PV.gtrT rfl rfl (by omega)) rfl ?_ | refine RS.pv (PV.gtrF rfl rfl (by omega)) rfl ?_ | refine RS.ifGtr rfl rfl rfl (fun h => ?_) (fun h => ?_));
            (all_goals refine RS.nil ?_))
        | (refine CS.region (id := 37) ?_;
            refine RS.pv (PV.all tab_ok rfl) rfl ?_;
            refine RS.pv (PV.sub rfl rfl (by omega)) rfl ?_;
            refine RS.pv (PV.all tab_ok rfl) rfl ?_;
            refine RS.nil ?_)
        | (refine CS.region (id := 38) ?_;
            refine RS.pv (PV.all tab_ok rfl) rfl ?_;
            (first | refine RS.lv (LV.load tab_ok rfl (Has.own 0 rfl) rfl) rfl ?_ | refine RS.lv (LV.load tab_ok rfl (Has.own 1 rfl) rfl) rfl ?_ | refine RS.lv (LV.load tab_ok rfl (Has.own 2 rfl) rfl) rfl ?_);
            refine RS.pv (PV.all tab_ok rfl) rfl ?_)
        | refine CS.ret ?_
        | refine thenQ.ret ?_
        | refine blkQ.ret ?_
        | refine retQ.ret ?_
        | refine CS.block ?_
        | refine CS.exit ?_
        | refine thenQ.exit ?_
        | refine blkQ.normal ?_
        | refine blkQ.here ?_
        | refine blkQ.past rfl ?_
        | refine retQ.normal ?_)
      have hN : props.length ≤ 72 := by omega
      refine CS.region (id := 39) ?_
      refine RS.pv (PV.all tab_ok rfl) rfl ?_
      (first | refine RS.lv (LV.load tab_ok rfl (Has.own 0 rfl) rfl) rfl ?_ | refine RS.lv (LV.load tab_ok rfl (Has.own 1 rfl) rfl) rfl ?_ | refine RS.lv (LV.load tab_ok rfl (Has.own 2 rfl) rfl) rfl ?_)
      (first | refine RS.pv (PV.lenS tab_ok rfl rfl) rfl ?_ | refine RS.pv (PV.lenT tab_ok rfl rfl) rfl ?_)
      refine RS.pv (PV.all tab_ok rfl) rfl ?_
      refine RS.nil ?_
      refine thenQ.normal ?_
      refine CS.block ?_
      refine CS.loop [0, 3, 4, 178, 179] (fun m vs i' L' => ∃ (j : Nat) (ps : List (ByteArray × ByteArray)), m = props.length - j ∧ j ≤ props.length ∧ ps.length = props.length ∧ SpH tp b3 b4 lv R (at_ + 1 + 1) ps r.tags r.links i' L' ∧ vs = [.pointer (some ⟨tp, 0, none⟩), .pointer (some ⟨b3, 0, none⟩), .pointer (some ⟨b4, 0, none⟩), .int .i64 props.length, .int .i64 (j : Int)]) props.length ⟨0, props, rfl, Nat.zero_le _, rfl, ⟨_, _, _, _, _, _, _, _, _, _, _, _, _, _, _, _, _, _, _, O1, O2, O3, s2, s3, s4, s5, s6, hr, hld, rfl⟩, rfl⟩ ?_
      clear s2 s3 s4 s5 s6 hlt hk1 hk2 hpm k
      clear O1 O2 O3 p2 p3 p4 q2 q3 q4 p5 p6 q5 q6 run load hr hld path index name prio owner group mode
      rintro m g vs i' L' _ ⟨j, ps, rfl, hj, hpl, hS, rfl⟩
      by_cases hlt : j < props.length
      · repeat' (first
          | refine CS.seq ?_
          | refine thenQ.normal ?_
          | refine CS.cond_true rfl ?_
          | refine CS.cond_false rfl ?_
          | refine CS.skip ?_
          | (refine CS.region (id := 0) ?_;
              refine RS.box rfl rfl (fun b => ?_);
              refine RS.alloc tab_ok rfl rfl (fun b => ?_);
              refine RS.nil ?_)
          | (refine CS.region (id := 1) ?_;
              refine RS.pv (PV.all tab_ok rfl) rfl ?_;
              (first | refine RS.lv (LV.load tab_ok rfl (Has.own 0 rfl) rfl) rfl ?_ | refine RS.lv (LV.load tab_ok rfl (Has.own 1 rfl) rfl) rfl ?_ | refine RS.lv (LV.load tab_ok rfl (Has.own 2 rfl) rfl) rfl ?_))
          | (refine CS.region (id := 2) ?_;
              refine RS.pv (PV.all tab_ok rfl) rfl ?_;
              (first | refine RS.lv (LV.load tab_ok rfl (Has.own 0 rfl) rfl) rfl ?_ | refine RS.lv (LV.load tab_ok rfl (Has.own 1 rfl) rfl) rfl ?_ | refine RS.lv (LV.load tab_ok rfl (Has.own 2 rfl) rfl) rfl ?_))
          | (refine CS.region (id := 3) ?_;
              refine RS.pv (PV.all tab_ok rfl) rfl ?_;
              (first | refine RS.lv (LV.load tab_ok rfl (Has.own 0 rfl) rfl) rfl ?_ | refine RS.lv (LV.load tab_ok rfl (Has.own 1 rfl) rfl) rfl ?_ | refine RS.lv (LV.load tab_ok rfl (Has.own 2 rfl) rfl) rfl ?_))
          | (refine CS.region (id := 4) ?_;
              refine RS.pv (PV.all tab_ok rfl) rfl ?_)
          | (refine CS.region (id := 10) ?_;
              (first | refine RS.pv (PV.all tab_ok rfl) rfl ?_ | refine RS.pv (PV.eqlT rfl rfl (by omega)) rfl ?_ | refine RS.pv (PV.eqlF rfl rfl (by omega)) rfl ?_ | refine RS.ifEql rfl rfl rfl (fun h => ?_) (fun h => ?_) | refine RS.ifSeql rfl rfl rfl (fun h => ?_) (fun h => ?_));
              (all_goals refine RS.pv (PV.all tab_ok rfl) rfl ?_);
              (all_goals refine RS.nil ?_))
          | (refine CS.region (id := 11) ?_;
              refine RS.pv (PV.all tab_ok rfl) rfl ?_)
          | (refine CS.region (id := 12) ?_;
              (first | refine RS.pv (PV.all tab_ok rfl) rfl ?_ | refine RS.pv (PV.eqlT rfl rfl (by omega)) rfl ?_ | refine RS.pv (PV.eqlF rfl rfl (by omega)) rfl ?_ | refine RS.ifEql rfl rfl rfl (fun h => ?_) (fun h => ?_) | refine RS.ifSeql rfl rfl rfl (fun h => ?_) (fun h => ?_));
              (all_goals refine RS.pv (PV.all tab_ok rfl) rfl ?_);
              (all_goals refine RS.nil ?_))
          | (refine CS.region (id := 13) ?_)
          | (refine CS.region (id := 14) ?_;
              (first | refine RS.pv (PV.all tab_ok rfl) rfl ?_ | refine RS.pv (PV.eqlT rfl rfl (by omega)) rfl ?_ | refine RS.pv (PV.eqlF rfl rfl (by omega)) rfl ?_ | refine RS.ifEql rfl rfl rfl (fun h => ?_) (fun h => ?_) | refine RS.ifSeql rfl rfl rfl (fun h => ?_) (fun h => ?_));
              (all_goals refine RS.pv (PV.all tab_ok rfl) rfl ?_);
              (all_goals refine RS.nil ?_))
          | (refine CS.drawQ (id := 15) mix (by kernel_rfl) ?_;
              refine QS.pv (PV.all tab_ok rfl) rfl ?_;
              (first | refine QS.lv (LV.load tab_ok rfl (Has.own 0 rfl) rfl) rfl ?_ | refine QS.lv (LV.load tab_ok rfl (Has.own 1 rfl) rfl) rfl ?_ | refine QS.lv (LV.load tab_ok rfl (Has.own 2 rfl) rfl) rfl ?_);
              refine QS.pv (PV.all tab_ok rfl) rfl ?_)
          | (refine CS.region (id := 16) ?_;
              (first | refine RS.pv (PV.all tab_ok rfl) rfl ?_ | refine RS.pv (PV.eqlT rfl rfl (by omega)) rfl ?_ | refine RS.pv (PV.eqlF rfl rfl (by omega)) rfl ?_ | refine RS.ifEql rfl rfl rfl (fun h => ?_) (fun h => ?_) | refine RS.ifSeql rfl rfl rfl (fun h => ?_) (fun h => ?_));
              (all_goals refine RS.pv (PV.all tab_ok rfl) rfl ?_);
              (all_goals refine RS.nil ?_))
          | (refine CS.drawQ (id := 17) mix (by kernel_rfl) ?_;
              refine QS.pv (PV.all tab_ok rfl) rfl ?_;
              (first | refine QS.lv (LV.load tab_ok rfl (Has.own 0 rfl) rfl) rfl ?_ | refine QS.lv (LV.load tab_ok rfl (Has.own 1 rfl) rfl) rfl ?_ | refine QS.lv (LV.load tab_ok rfl (Has.own 2 rfl) rfl) rfl ?_);
              refine QS.pv (PV.all tab_ok rfl) rfl ?_)
          | (refine CS.region (id := 18) ?_;
              (first | refine RS.pv (PV.all tab_ok rfl) rfl ?_ | refine RS.pv (PV.eqlT rfl rfl (by omega)) rfl ?_ | refine RS.pv (PV.eqlF rfl rfl (by omega)) rfl ?_ | refine RS.ifEql rfl rfl rfl (fun h => ?_) (fun h => ?_) | refine RS.ifSeql rfl rfl rfl (fun h => ?_) (fun h => ?_));
              (all_goals refine RS.pv (PV.all tab_ok rfl) rfl ?_);
              (all_goals refine RS.nil ?_))
          | (refine CS.drawQ (id := 19) mix (by kernel_rfl) ?_;
              refine QS.pv (PV.all tab_ok rfl) rfl ?_;
              (first | refine QS.lv (LV.load tab_ok rfl (Has.own 0 rfl) rfl) rfl ?_ | refine QS.lv (LV.load tab_ok rfl (Has.own 1 rfl) rfl) rfl ?_ | refine QS.lv (LV.load tab_ok rfl (Has.own 2 rfl) rfl) rfl ?_);
              refine QS.pv (PV.all tab_ok rfl) rfl ?_)
          | (refine CS.region (id := 20) ?_;
              (first | refine RS.pv (PV.all tab_ok rfl) rfl ?_ | refine RS.pv (PV.eqlT rfl rfl (by omega)) rfl ?_ | refine RS.pv (PV.eqlF rfl rfl (by omega)) rfl ?_ | refine RS.ifEql rfl rfl rfl (fun h => ?_) (fun h => ?_) | refine RS.ifSeql rfl rfl rfl (fun h => ?_) (fun h => ?_));
              (all_goals refine RS.pv (PV.all tab_ok rfl) rfl ?_);
              (all_goals refine RS.nil ?_))
          | (refine CS.region (id := 21) ?_;
              refine RS.pv (PV.all tab_ok rfl) rfl ?_;
              (first | refine RS.lv (LV.load tab_ok rfl (Has.own 0 rfl) rfl) rfl ?_ | refine RS.lv (LV.load tab_ok rfl (Has.own 1 rfl) rfl) rfl ?_ | refine RS.lv (LV.load tab_ok rfl (Has.own 2 rfl) rfl) rfl ?_))
          | (refine CS.region (id := 22) ?_;
              (first | refine RS.pv (PV.all tab_ok rfl) rfl ?_ | refine RS.pv (PV.eqlT rfl rfl (by omega)) rfl ?_ | refine RS.pv (PV.eqlF rfl rfl (by omega)) rfl ?_ | refine RS.ifEql rfl rfl rfl (fun h => ?_) (fun h => ?_) | refine RS.ifSeql rfl rfl rfl (fun h => ?_) (fun h => ?_));
              (all_goals refine RS.pv (PV.all tab_ok rfl) rfl ?_);
              (all_goals refine RS.nil ?_))
          | (refine CS.region (id := 23) ?_;
              refine RS.pv (PV.all tab_ok rfl) rfl ?_;
              (first | refine RS.lv (LV.load tab_ok rfl (Has.own 0 rfl) rfl) rfl ?_ | refine RS.lv (LV.load tab_ok rfl (Has.own 1 rfl) rfl) rfl ?_ | refine RS.lv (LV.load tab_ok rfl (Has.own 2 rfl) rfl) rfl ?_))
          | (refine CS.region (id := 24) ?_;
              (first | refine RS.pv (PV.all tab_ok rfl) rfl ?_ | refine RS.pv (PV.eqlT rfl rfl (by omega)) rfl ?_ | refine RS.pv (PV.eqlF rfl rfl (by omega)) rfl ?_ | refine RS.ifEql rfl rfl rfl (fun h => ?_) (fun h => ?_) | refine RS.ifSeql rfl rfl rfl (fun h => ?_) (fun h => ?_));
              (all_goals refine RS.pv (PV.all tab_ok rfl) rfl ?_);
              (all_goals refine RS.nil ?_))
          | (refine CS.region (id := 25) ?_;
              refine RS.pv (PV.all tab_ok rfl) rfl ?_)
          | (refine CS.region (id := 26) ?_;
              (first | refine RS.pv (PV.all tab_ok rfl) rfl ?_ | refine RS.pv (PV.eqlT rfl rfl (by omega)) rfl ?_ | refine RS.pv (PV.eqlF rfl rfl (by omega)) rfl ?_ | refine RS.ifEql rfl rfl rfl (fun h => ?_) (fun h => ?_) | refine RS.ifSeql rfl rfl rfl (fun h => ?_) (fun h => ?_));
              (all_goals refine RS.pv (PV.all tab_ok rfl) rfl ?_);
              (all_goals refine RS.nil ?_))
          | (refine CS.region (id := 27) ?_)
          | (refine CS.region (id := 28) ?_;
              (first | refine RS.pv (PV.all tab_ok rfl) rfl ?_ | refine RS.pv (PV.eqlT rfl rfl (by omega)) rfl ?_ | refine RS.pv (PV.eqlF rfl rfl (by omega)) rfl ?_ | refine RS.ifEql rfl rfl rfl (fun h => ?_) (fun h => ?_) | refine RS.ifSeql rfl rfl rfl (fun h => ?_) (fun h => ?_));
              (all_goals refine RS.pv (PV.all tab_ok rfl) rfl ?_);
              (all_goals refine RS.nil ?_))
          | (refine CS.region (id := 29) ?_;
              refine RS.pv (PV.all tab_ok rfl) rfl ?_)
          | (refine CS.region (id := 30) ?_;
              (first | refine RS.pv (PV.all tab_ok rfl) rfl ?_ | refine RS.pv (PV.eqlT rfl rfl (by omega)) rfl ?_ | refine RS.pv (PV.eqlF rfl rfl (by omega)) rfl ?_ | refine RS.ifEql rfl rfl rfl (fun h => ?_) (fun h => ?_) | refine RS.ifSeql rfl rfl rfl (fun h => ?_) (fun h => ?_));
              (all_goals refine RS.pv (PV.all tab_ok rfl) rfl ?_);
              (all_goals refine RS.nil ?_))
          | (refine CS.region (id := 31) ?_;
              refine RS.pv (PV.all tab_ok rfl) rfl ?_)
          | (refine CS.region (id := 32) ?_;
              (first | refine RS.pv (PV.all tab_ok rfl) rfl ?_ | refine RS.pv (PV.eqlT rfl rfl (by omega)) rfl ?_ | refine RS.pv (PV.eqlF rfl rfl (by omega)) rfl ?_ | refine RS.ifEql rfl rfl rfl (fun h => ?_) (fun h => ?_) | refine RS.ifSeql rfl rfl rfl (fun h => ?_) (fun h => ?_));
              (all_goals refine RS.pv (PV.all tab_ok rfl) rfl ?_);
              (all_goals refine RS.nil ?_))
          | (refine CS.region (id := 33) ?_)
          | (refine CS.region (id := 34) ?_;
              (first | refine RS.pv (PV.all tab_ok rfl) rfl ?_ | refine RS.pv (PV.eqlT rfl rfl (by omega)) rfl ?_ | refine RS.pv (PV.eqlF rfl rfl (by omega)) rfl ?_ | refine RS.ifEql rfl rfl rfl (fun h => ?_) (fun h => ?_) | refine RS.ifSeql rfl rfl rfl (fun h => ?_) (fun h => ?_));
              (all_goals refine RS.pv (PV.all tab_ok rfl) rfl ?_);
              (all_goals refine RS.nil ?_))
          | (refine CS.region (id := 40) ?_;
              (first | refine RS.pv (PV.lssT rfl rfl (by omega)) rfl ?_ | refine RS.pv (PV.lssF rfl rfl (by omega)) rfl ?_ | refine RS.ifLss rfl rfl rfl (fun h => ?_) (fun h => ?_));
              (all_goals refine RS.nil ?_))
          | (refine CS.region (id := 41) ?_;
              refine RS.pv (PV.all tab_ok rfl) rfl ?_;
              refine RS.pv (PV.all tab_ok rfl) rfl ?_;
              refine RS.nil ?_)
          | (refine CS.region (id := 42) ?_;
              refine RS.pv (PV.all tab_ok rfl) rfl ?_;
              refine RS.pv (PV.all tab_ok rfl) rfl ?_;
              refine RS.nil ?_)
          | refine CS.ret ?_
          | refine thenQ.ret ?_
          | refine blkQ.ret ?_
          | refine retQ.ret ?_
          | refine CS.block ?_
          | refine CS.exit ?_
          | refine thenQ.exit ?_
          | refine blkQ.normal ?_
          | refine blkQ.here ?_
          | refine blkQ.past rfl ?_
          | refine retQ.normal ?_)
        refine CS.loop [0, 3, 4, 6, 7, 178, 179] (fun m vs i' L' => ∃ (ps : List (ByteArray × ByteArray)), m ≤ j ∧ ps.length = props.length ∧ SpH tp b3 b4 lv R (at_ + 1 + 1) ps r.tags r.links i' L' ∧ vs = [.pointer (some ⟨tp, 0, none⟩), .pointer (some ⟨b3, 0, none⟩), .pointer (some ⟨b4, 0, none⟩), .int .i64 (j : Int), .int .i64 (m : Int), .int .i64 props.length, .int .i64 (j : Int)]) j ⟨ps, Nat.le_refl _, hpl, hS, rfl⟩ ?_
        clear hS hpl ps
        rintro m g vs i' L' _ ⟨ps, hmj, hpl, hS, rfl⟩
        by_cases hm : 0 < m
        · obtain ⟨path, index, run, load, p2, q2, p3, q3, p4, q4, p5, q5, p6, q6, name, prio, owner, group, mode, O1, O2, O3, s2, s3, s4, s5, s6, hr, hld, rfl⟩ := hS
          obtain ⟨g0, sp, rfl, hcap, hsp, hxl, rfl⟩ := SlO.mine s2 (by omega)
          have hsc := SCells.ofAttrs ps
          have ht1 : ((m : Nat) : Int).toNat = m := rfl
          have ht2 : ((m : Nat) : Int).toNat - 1 = ((m : Int) - 1).toNat := by omega
          obtain ⟨xa, hxa⟩ := SCells.atA sp hsc (k := 0 + (m : Int).toNat * 2 + 0) (by omega)
          obtain ⟨xb, hxb⟩ := SCells.atA sp hsc (k := 0 + (m : Int).toNat * 2 + 1) (by omega)
          obtain ⟨ya, hya⟩ := SCells.atA sp hsc (k := 0 + ((m : Int) - 1).toNat * 2 + 0) (by omega)
          obtain ⟨yb, hyb⟩ := SCells.atA sp hsc (k := 0 + ((m : Int) - 1).toNat * 2 + 1) (by omega)
          obtain ⟨xs1, hp1, hl1, hs1⟩ := SCells.put2 sp hsc (vs := [.string ya, .string yb]) (off := 0 + (m : Int).toNat * 2) (by intro c hc; simp at hc; rcases hc with rfl | rfl <;> exact ⟨_, rfl⟩) (by show _ + 2 ≤ _; omega)
          obtain ⟨xs2, hp2, hl2, hs2⟩ := SCells.put2 sp hs1 (vs := [.string xa, .string xb]) (off := 0 + ((m : Int) - 1).toNat * 2) (by intro c hc; simp at hc; rcases hc with rfl | rfl <;> exact ⟨_, rfl⟩) (by show _ + 2 ≤ _; omega)
          obtain ⟨ps2, hps2, rfl⟩ := SCells.attrs ps.length _ hs2 (by omega)
          repeat' (first
            | refine CS.seq ?_
            | refine thenQ.normal ?_
            | refine CS.cond_true rfl ?_
            | refine CS.cond_false rfl ?_
            | refine CS.skip ?_
            | (refine CS.region (id := 0) ?_;
                refine RS.box rfl rfl (fun b => ?_);
                refine RS.alloc tab_ok rfl rfl (fun b => ?_);
                refine RS.nil ?_)
            | (refine CS.region (id := 1) ?_;
                refine RS.pv (PV.all tab_ok rfl) rfl ?_;
                (first | refine RS.lv (LV.load tab_ok rfl (Has.own 0 rfl) rfl) rfl ?_ | refine RS.lv (LV.load tab_ok rfl (Has.own 1 rfl) rfl) rfl ?_ | refine RS.lv (LV.load tab_ok rfl (Has.own 2 rfl) rfl) rfl ?_ | refine RS.lv (LV.load tab_ok rfl (Has.own 3 rfl) rfl) rfl ?_))
            | (refine CS.region (id := 2) ?_;
                refine RS.pv (PV.all tab_ok rfl) rfl ?_;
                (first | refine RS.lv (LV.load tab_ok rfl (Has.own 0 rfl) rfl) rfl ?_ | refine RS.lv (LV.load tab_ok rfl (Has.own 1 rfl) rfl) rfl ?_ | refine RS.lv (LV.load tab_ok rfl (Has.own 2 rfl) rfl) rfl ?_ | refine RS.lv (LV.load tab_ok rfl (Has.own 3 rfl) rfl) rfl ?_))
            | (refine CS.region (id := 3) ?_;
                refine RS.pv (PV.all tab_ok rfl) rfl ?_;
                (first | refine RS.lv (LV.load tab_ok rfl (Has.own 0 rfl) rfl) rfl ?_ | refine RS.lv (LV.load tab_ok rfl (Has.own 1 rfl) rfl) rfl ?_ | refine RS.lv (LV.load tab_ok rfl (Has.own 2 rfl) rfl) rfl ?_ | refine RS.lv (LV.load tab_ok rfl (Has.own 3 rfl) rfl) rfl ?_))
            | (refine CS.region (id := 4) ?_;
                refine RS.pv (PV.all tab_ok rfl) rfl ?_)
            | (refine CS.region (id := 10) ?_;
                (first | refine RS.pv (PV.all tab_ok rfl) rfl ?_ | refine RS.pv (PV.eqlT rfl rfl (by omega)) rfl ?_ | refine RS.pv (PV.eqlF rfl rfl (by omega)) rfl ?_ | refine RS.ifEql rfl rfl rfl (fun h => ?_) (fun h => ?_) | refine RS.ifSeql rfl rfl rfl (fun h => ?_) (fun h => ?_));
                (all_goals refine RS.pv (PV.all tab_ok rfl) rfl ?_);
                (all_goals refine RS.nil ?_))
            | (refine CS.region (id := 11) ?_;
                refine RS.pv (PV.all tab_ok rfl) rfl ?_)
            | (refine CS.region (id := 12) ?_;
                (first | refine RS.pv (PV.all tab_ok rfl) rfl ?_ | refine RS.pv (PV.eqlT rfl rfl (by omega)) rfl ?_ | refine RS.pv (PV.eqlF rfl rfl (by omega)) rfl ?_ | refine RS.ifEql rfl rfl rfl (fun h => ?_) (fun h => ?_) | refine RS.ifSeql rfl rfl rfl (fun h => ?_) (fun h => ?_));
                (all_goals refine RS.pv (PV.all tab_ok rfl) rfl ?_);
                (all_goals refine RS.nil ?_))
            | (refine CS.region (id := 13) ?_)
            | (refine CS.region (id := 14) ?_;
                (first | refine RS.pv (PV.all tab_ok rfl) rfl ?_ | refine RS.pv (PV.eqlT rfl rfl (by omega)) rfl ?_ | refine RS.pv (PV.eqlF rfl rfl (by omega)) rfl ?_ | refine RS.ifEql rfl rfl rfl (fun h => ?_) (fun h => ?_) | refine RS.ifSeql rfl rfl rfl (fun h => ?_) (fun h => ?_));
                (all_goals refine RS.pv (PV.all tab_ok rfl) rfl ?_);
                (all_goals refine RS.nil ?_))
            | (refine CS.drawQ (id := 15) mix (by kernel_rfl) ?_;
                refine QS.pv (PV.all tab_ok rfl) rfl ?_;
                (first | refine QS.lv (LV.load tab_ok rfl (Has.own 0 rfl) rfl) rfl ?_ | refine QS.lv (LV.load tab_ok rfl (Has.own 1 rfl) rfl) rfl ?_ | refine QS.lv (LV.load tab_ok rfl (Has.own 2 rfl) rfl) rfl ?_ | refine QS.lv (LV.load tab_ok rfl (Has.own 3 rfl) rfl) rfl ?_);
                refine QS.pv (PV.all tab_ok rfl) rfl ?_)
            | (refine CS.region (id := 16) ?_;
                (first | refine RS.pv (PV.all tab_ok rfl) rfl ?_ | refine RS.pv (PV.eqlT rfl rfl (by omega)) rfl ?_ | refine RS.pv (PV.eqlF rfl rfl (by omega)) rfl ?_ | refine RS.ifEql rfl rfl rfl (fun h => ?_) (fun h => ?_) | refine RS.ifSeql rfl rfl rfl (fun h => ?_) (fun h => ?_));
                (all_goals refine RS.pv (PV.all tab_ok rfl) rfl ?_);
                (all_goals refine RS.nil ?_))
            | (refine CS.drawQ (id := 17) mix (by kernel_rfl) ?_;
                refine QS.pv (PV.all tab_ok rfl) rfl ?_;
                (first | refine QS.lv (LV.load tab_ok rfl (Has.own 0 rfl) rfl) rfl ?_ | refine QS.lv (LV.load tab_ok rfl (Has.own 1 rfl) rfl) rfl ?_ | refine QS.lv (LV.load tab_ok rfl (Has.own 2 rfl) rfl) rfl ?_ | refine QS.lv (LV.load tab_ok rfl (Has.own 3 rfl) rfl) rfl ?_);
                refine QS.pv (PV.all tab_ok rfl) rfl ?_)
            | (refine CS.region (id := 18) ?_;
                (first | refine RS.pv (PV.all tab_ok rfl) rfl ?_ | refine RS.pv (PV.eqlT rfl rfl (by omega)) rfl ?_ | refine RS.pv (PV.eqlF rfl rfl (by omega)) rfl ?_ | refine RS.ifEql rfl rfl rfl (fun h => ?_) (fun h => ?_) | refine RS.ifSeql rfl rfl rfl (fun h => ?_) (fun h => ?_));
                (all_goals refine RS.pv (PV.all tab_ok rfl) rfl ?_);
                (all_goals refine RS.nil ?_))
            | (refine CS.drawQ (id := 19) mix (by kernel_rfl) ?_;
                refine QS.pv (PV.all tab_ok rfl) rfl ?_;
                (first | refine QS.lv (LV.load tab_ok rfl (Has.own 0 rfl) rfl) rfl ?_ | refine QS.lv (LV.load tab_ok rfl (Has.own 1 rfl) rfl) rfl ?_ | refine QS.lv (LV.load tab_ok rfl (Has.own 2 rfl) rfl) rfl ?_ | refine QS.lv (LV.load tab_ok rfl (Has.own 3 rfl) rfl) rfl ?_);
                refine QS.pv (PV.all tab_ok rfl) rfl ?_)
            | (refine CS.region (id := 20) ?_;
                (first | refine RS.pv (PV.all tab_ok rfl) rfl ?_ | refine RS.pv (PV.eqlT rfl rfl (by omega)) rfl ?_ | refine RS.pv (PV.eqlF rfl rfl (by omega)) rfl ?_ | refine RS.ifEql rfl rfl rfl (fun h => ?_) (fun h => ?_) | refine RS.ifSeql rfl rfl rfl (fun h => ?_) (fun h => ?_));
                (all_goals refine RS.pv (PV.all tab_ok rfl) rfl ?_);
                (all_goals refine RS.nil ?_))
            | (refine CS.region (id := 21) ?_;
                refine RS.pv (PV.all tab_ok rfl) rfl ?_;
                (first | refine RS.lv (LV.load tab_ok rfl (Has.own 0 rfl) rfl) rfl ?_ | refine RS.lv (LV.load tab_ok rfl (Has.own 1 rfl) rfl) rfl ?_ | refine RS.lv (LV.load tab_ok rfl (Has.own 2 rfl) rfl) rfl ?_ | refine RS.lv (LV.load tab_ok rfl (Has.own 3 rfl) rfl) rfl ?_))
            | (refine CS.region (id := 22) ?_;
                (first | refine RS.pv (PV.all tab_ok rfl) rfl ?_ | refine RS.pv (PV.eqlT rfl rfl (by omega)) rfl ?_ | refine RS.pv (PV.eqlF rfl rfl (by omega)) rfl ?_ | refine RS.ifEql rfl rfl rfl (fun h => ?_) (fun h => ?_) | refine RS.ifSeql rfl rfl rfl (fun h => ?_) (fun h => ?_));
                (all_goals refine RS.pv (PV.all tab_ok rfl) rfl ?_);
                (all_goals refine RS.nil ?_))
            | (refine CS.region (id := 23) ?_;
                refine RS.pv (PV.all tab_ok rfl) rfl ?_;
                (first | refine RS.lv (LV.load tab_ok rfl (Has.own 0 rfl) rfl) rfl ?_ | refine RS.lv (LV.load tab_ok rfl (Has.own 1 rfl) rfl) rfl ?_ | refine RS.lv (LV.load tab_ok rfl (Has.own 2 rfl) rfl) rfl ?_ | refine RS.lv (LV.load tab_ok rfl (Has.own 3 rfl) rfl) rfl ?_))
            | (refine CS.region (id := 24) ?_;
                (first | refine RS.pv (PV.all tab_ok rfl) rfl ?_ | refine RS.pv (PV.eqlT rfl rfl (by omega)) rfl ?_ | refine RS.pv (PV.eqlF rfl rfl (by omega)) rfl ?_ | refine RS.ifEql rfl rfl rfl (fun h => ?_) (fun h => ?_) | refine RS.ifSeql rfl rfl rfl (fun h => ?_) (fun h => ?_));
                (all_goals refine RS.pv (PV.all tab_ok rfl) rfl ?_);
                (all_goals refine RS.nil ?_))
            | (refine CS.region (id := 25) ?_;
                refine RS.pv (PV.all tab_ok rfl) rfl ?_)
            | (refine CS.region (id := 26) ?_;
                (first | refine RS.pv (PV.all tab_ok rfl) rfl ?_ | refine RS.pv (PV.eqlT rfl rfl (by omega)) rfl ?_ | refine RS.pv (PV.eqlF rfl rfl (by omega)) rfl ?_ | refine RS.ifEql rfl rfl rfl (fun h => ?_) (fun h => ?_) | refine RS.ifSeql rfl rfl rfl (fun h => ?_) (fun h => ?_));
                (all_goals refine RS.pv (PV.all tab_ok rfl) rfl ?_);
                (all_goals refine RS.nil ?_))
            | (refine CS.region (id := 27) ?_)
            | (refine CS.region (id := 28) ?_;
                (first | refine RS.pv (PV.all tab_ok rfl) rfl ?_ | refine RS.pv (PV.eqlT rfl rfl (by omega)) rfl ?_ | refine RS.pv (PV.eqlF rfl rfl (by omega)) rfl ?_ | refine RS.ifEql rfl rfl rfl (fun h => ?_) (fun h => ?_) | refine RS.ifSeql rfl rfl rfl (fun h => ?_) (fun h => ?_));
                (all_goals refine RS.pv (PV.all tab_ok rfl) rfl ?_);
                (all_goals refine RS.nil ?_))
            | (refine CS.region (id := 29) ?_;
                refine RS.pv (PV.all tab_ok rfl) rfl ?_)
            | (refine CS.region (id := 30) ?_;
                (first | refine RS.pv (PV.all tab_ok rfl) rfl ?_ | refine RS.pv (PV.eqlT rfl rfl (by omega)) rfl ?_ | refine RS.pv (PV.eqlF rfl rfl (by omega)) rfl ?_ | refine RS.ifEql rfl rfl rfl (fun h => ?_) (fun h => ?_) | refine RS.ifSeql rfl rfl rfl (fun h => ?_) (fun h => ?_));
                (all_goals refine RS.pv (PV.all tab_ok rfl) rfl ?_);
                (all_goals refine RS.nil ?_))
            | (refine CS.region (id := 31) ?_;
                refine RS.pv (PV.all tab_ok rfl) rfl ?_)
            | (refine CS.region (id := 32) ?_;
                (first | refine RS.pv (PV.all tab_ok rfl) rfl ?_ | refine RS.pv (PV.eqlT rfl rfl (by omega)) rfl ?_ | refine RS.pv (PV.eqlF rfl rfl (by omega)) rfl ?_ | refine RS.ifEql rfl rfl rfl (fun h => ?_) (fun h => ?_) | refine RS.ifSeql rfl rfl rfl (fun h => ?_) (fun h => ?_));
                (all_goals refine RS.pv (PV.all tab_ok rfl) rfl ?_);
                (all_goals refine RS.nil ?_))
            | (refine CS.region (id := 33) ?_)
            | (refine CS.region (id := 34) ?_;
                (first | refine RS.pv (PV.all tab_ok rfl) rfl ?_ | refine RS.pv (PV.eqlT rfl rfl (by omega)) rfl ?_ | refine RS.pv (PV.eqlF rfl rfl (by omega)) rfl ?_ | refine RS.ifEql rfl rfl rfl (fun h => ?_) (fun h => ?_) | refine RS.ifSeql rfl rfl rfl (fun h => ?_) (fun h => ?_));
                (all_goals refine RS.pv (PV.all tab_ok rfl) rfl ?_);
                (all_goals refine RS.nil ?_))
            | (refine CS.drawQ (id := 43) mix (by kernel_rfl) ?_;
                refine QS.pv (PV.all tab_ok rfl) rfl ?_;
                (first | refine QS.pv (PV.gtrT rfl rfl (by omega)) rfl ?_ | refine QS.pv (PV.gtrF rfl rfl (by omega)) rfl ?_ | refine QS.ifGtr rfl rfl rfl (fun h => ?_) (fun h => ?_));
                (all_goals refine QS.pv (PV.all tab_ok rfl) rfl ?_);
                (all_goals (first | refine QS.pv (PV.all tab_ok rfl) rfl ?_ | refine QS.skip rfl ?_));
                (all_goals (first | refine QS.lv (LV.load tab_ok rfl (Has.own 0 rfl) rfl) rfl ?_ | refine QS.lv (LV.load tab_ok rfl (Has.own 1 rfl) rfl) rfl ?_ | refine QS.lv (LV.load tab_ok rfl (Has.own 2 rfl) rfl) rfl ?_ | refine QS.lv (LV.load tab_ok rfl (Has.own 3 rfl) rfl) rfl ?_ | refine QS.skip rfl ?_));
                (all_goals (first | refine QS.pv (PV.all tab_ok rfl) rfl ?_ | refine QS.skip rfl ?_));
                (all_goals (first | refine QS.pv (PV.indexAddr tab_ok rfl rfl rfl (by omega)) rfl ?_ | refine QS.pv (PV.indexAddrA tab_ok rfl rfl rfl (by omega)) rfl ?_ | refine QS.skip rfl ?_));
                (all_goals (first | refine QS.pv (PV.all tab_ok rfl) rfl ?_ | refine QS.skip rfl ?_));
                (all_goals (first | refine QS.lv (LV.load1 tab_ok rfl (Has.own 3 rfl) rfl hxa) rfl ?_ | refine QS.skip rfl ?_));
                (all_goals (first | refine QS.pv (PV.all tab_ok rfl) rfl ?_ | refine QS.skip rfl ?_));
                (all_goals (first | refine QS.lv (LV.load tab_ok rfl (Has.own 0 rfl) rfl) rfl ?_ | refine QS.lv (LV.load tab_ok rfl (Has.own 1 rfl) rfl) rfl ?_ | refine QS.lv (LV.load tab_ok rfl (Has.own 2 rfl) rfl) rfl ?_ | refine QS.lv (LV.load tab_ok rfl (Has.own 3 rfl) rfl) rfl ?_ | refine QS.skip rfl ?_));
                (all_goals (first | refine QS.pv (PV.all tab_ok rfl) rfl ?_ | refine QS.skip rfl ?_));
                (all_goals (first | refine QS.pv (PV.sub rfl rfl (by omega)) rfl ?_ | refine QS.skip rfl ?_));
                (all_goals (first | refine QS.pv (PV.indexAddr tab_ok rfl rfl rfl (by omega)) rfl ?_ | refine QS.pv (PV.indexAddrA tab_ok rfl rfl rfl (by omega)) rfl ?_ | refine QS.skip rfl ?_));
                (all_goals (first | refine QS.pv (PV.all tab_ok rfl) rfl ?_ | refine QS.skip rfl ?_));
                (all_goals (first | refine QS.lv (LV.load1 tab_ok rfl (Has.own 3 rfl) rfl hya) rfl ?_ | refine QS.skip rfl ?_));
                (all_goals (first | refine QS.pvB (PV.slss rfl rfl) rfl (fun h2 => ?_) (fun h2 => ?_) | refine QS.skip rfl ?_));
                (all_goals refine QS.pv (PV.all tab_ok rfl) rfl ?_);
                (all_goals refine QS.nil ?_))
            | (refine CS.region (id := 44) ?_;
                refine RS.pv (PV.all tab_ok rfl) rfl ?_;
                refine RS.pv (PV.sub rfl rfl (by omega)) rfl ?_;
                refine RS.pv (PV.all tab_ok rfl) rfl ?_;
                refine RS.nil ?_)
            | (refine CS.region (id := 46) ?_;
                refine RS.pv (PV.add rfl rfl (by omega)) rfl ?_;
                refine RS.pv (PV.all tab_ok rfl) rfl ?_;
                refine RS.nil ?_)
            | refine CS.ret ?_
            | refine thenQ.ret ?_
            | refine blkQ.ret ?_
            | refine retQ.ret ?_
            | refine CS.block ?_
            | refine CS.exit ?_
            | refine thenQ.exit ?_
            | refine blkQ.normal ?_
            | refine blkQ.here ?_
            | refine blkQ.past rfl ?_
            | refine retQ.normal ?_)
          · refine CS.draw [0, 1, 2, 3, 4, 5, 6, 7, 8, 9, 10, 11, 12, 13, 14, 15, 16, 17, 18, 19] [20, 21] [19] [(b3, .cells (List.toArray [.string path, .int .i64 index, .slice (some ⟨g0, 0, none⟩) ps.length q2, .slice p3 r.tags.length q3, .slice p4 r.links.length q4, .slice p5 run.length q5, .slice p6 load.length q6, .string name, .int .i64 prio, .string owner, .string group, .int .i64 mode]) 36 (0, 0)) :: (b4, .cells (List.toArray [.string ByteArray.empty, .int .i64 0, .slice none 0 0, .slice none 0 0, .slice none 0 0, .slice none 0 0, .slice none 0 0, .string ByteArray.empty, .int .i64 0, .string ByteArray.empty, .string ByteArray.empty, .int .i64 0]) 36 (0, 0)) :: (tp, tapeO lv (at_ + 1 + 1)) :: (g0, .cells (List.toArray (attrs ps ++ sp)) 103 (0, 0)) :: (O2 ++ (O3 ++ R)), (b3, .cells (List.toArray [.string path, .int .i64 index, .slice (some ⟨g0, 0, none⟩) ps.length q2, .slice p3 r.tags.length q3, .slice p4 r.links.length q4, .slice p5 run.length q5, .slice p6 load.length q6, .string name, .int .i64 prio, .string owner, .string group, .int .i64 mode]) 36 (0, 0)) :: (b4, .cells (List.toArray [.string ByteArray.empty, .int .i64 0, .slice none 0 0, .slice none 0 0, .slice none 0 0, .slice none 0 0, .slice none 0 0, .string ByteArray.empty, .int .i64 0, .string ByteArray.empty, .string ByteArray.empty, .int .i64 0]) 36 (0, 0)) :: (tp, tapeO lv (at_ + 1 + 1)) :: (g0, .cells (List.toArray (xs1 ++ sp)) 103 (0, 0)) :: (O2 ++ (O3 ++ R))] mix (by kernel_rfl) rfl rfl [_, _] rfl ?_
            refine GS.pv (PV.all tab_ok rfl) rfl rfl rfl rfl rfl rfl ?_
            refine GS.fix (v := .slice (some ⟨g0, 0, none⟩) ps.length q2) rfl rfl rfl rfl rfl rfl (fun i' _ L' hL' => by simp only [List.mem_cons, List.not_mem_nil, or_false] at hL'; rcases hL' with rfl | rfl | rfl <;> exact LV.load tab_ok rfl (Has.own 0 rfl) rfl) ?_
            refine GS.pv (PV.all tab_ok rfl) rfl rfl rfl rfl rfl rfl ?_
            refine GS.pv (PV.all tab_ok rfl) rfl rfl rfl rfl rfl rfl ?_
            refine GS.fix (v := .slice (some ⟨g0, 0, none⟩) ps.length q2) rfl rfl rfl rfl rfl rfl (fun i' _ L' hL' => by simp only [List.mem_cons, List.not_mem_nil, or_false] at hL'; rcases hL' with rfl | rfl | rfl <;> exact LV.load tab_ok rfl (Has.own 0 rfl) rfl) ?_
            refine GS.pv (PV.all tab_ok rfl) rfl rfl rfl rfl rfl rfl ?_
            refine GS.pv (PV.sub rfl rfl (by omega)) rfl rfl rfl rfl rfl rfl ?_
            refine GS.pv (PV.all tab_ok rfl) rfl rfl rfl rfl rfl rfl ?_
            refine GS.fix (v := .slice (some ⟨g0, 0, none⟩) ps.length q2) rfl rfl rfl rfl rfl rfl (fun i' _ L' hL' => by simp only [List.mem_cons, List.not_mem_nil, or_false] at hL'; rcases hL' with rfl | rfl | rfl <;> exact LV.load tab_ok rfl (Has.own 0 rfl) rfl) ?_
            refine GS.pv (PV.all tab_ok rfl) rfl rfl rfl rfl rfl rfl ?_
            refine GS.pv (PV.sub rfl rfl (by omega)) rfl rfl rfl rfl rfl rfl ?_
            refine GS.pv (PV.indexAddr tab_ok rfl rfl rfl (by omega)) rfl rfl rfl rfl rfl rfl ?_
            refine GS.lvE (fun _ _ => LV.loadL tab_ok rfl (Has.own 3 rfl) (l := [.string ya, .string yb]) rfl rfl rfl (two_at hya hyb)) rfl rfl rfl rfl rfl rfl rfl rfl rfl ?_
            refine GS.pv (PV.all tab_ok rfl) rfl rfl rfl rfl rfl rfl ?_
            refine GS.fix (v := .slice (some ⟨g0, 0, none⟩) ps.length q2) rfl rfl rfl rfl rfl rfl (fun i' _ L' hL' => by simp only [List.mem_cons, List.not_mem_nil, or_false] at hL'; rcases hL' with rfl | rfl | rfl <;> exact LV.load tab_ok rfl (Has.own 0 rfl) rfl) ?_
            refine GS.pv (PV.all tab_ok rfl) rfl rfl rfl rfl rfl rfl ?_
            refine GS.pv (PV.indexAddr tab_ok rfl rfl rfl (by omega)) rfl rfl rfl rfl rfl rfl ?_
            refine GS.lvE (fun _ _ => LV.loadL tab_ok rfl (Has.own 3 rfl) (l := [.string xa, .string xb]) rfl rfl rfl (two_at hxa hxb)) rfl rfl rfl rfl rfl rfl rfl rfl rfl ?_
            refine GS.pv (PV.indexAddr tab_ok rfl rfl rfl (by omega)) rfl rfl rfl rfl rfl rfl ?_
            refine GS.turn0 0 rfl rfl rfl rfl rfl rfl (by decide) rfl rfl (fun i2 _ => OpS.store (k := 3) tab_ok rfl rfl rfl rfl rfl hp1 rfl rfl) ?_
            refine GS.done rfl rfl (fun i2 hi2 => ?_)
            refine RS.pv (PV.indexAddr tab_ok rfl rfl rfl (by omega)) rfl ?_
            refine RS.store (k := 3) tab_ok rfl rfl rfl rfl rfl rfl hp2 rfl ?_
            refine RS.nil ?_
            repeat' (first
              | refine CS.seq ?_
              | refine thenQ.normal ?_
              | refine CS.cond_true rfl ?_
              | refine CS.cond_false rfl ?_
              | refine CS.skip ?_
              | (refine CS.region (id := 0) ?_;
                  refine RS.box rfl rfl (fun b => ?_);
                  refine RS.alloc tab_ok rfl rfl (fun b => ?_);
                  refine RS.nil ?_)
              | (refine CS.region (id := 1) ?_;
                  refine RS.pv (PV.all tab_ok rfl) rfl ?_;
                  (first | refine RS.lv (LV.load tab_ok rfl (Has.own 0 rfl) rfl) rfl ?_ | refine RS.lv (LV.load tab_ok rfl (Has.own 1 rfl) rfl) rfl ?_ | refine RS.lv (LV.load tab_ok rfl (Has.own 2 rfl) rfl) rfl ?_))
              | (refine CS.region (id := 2) ?_;
                  refine RS.pv (PV.all tab_ok rfl) rfl ?_;
                  (first | refine RS.lv (LV.load tab_ok rfl (Has.own 0 rfl) rfl) rfl ?_ | refine RS.lv (LV.load tab_ok rfl (Has.own 1 rfl) rfl) rfl ?_ | refine RS.lv (LV.load tab_ok rfl (Has.own 2 rfl) rfl) rfl ?_))
              | (refine CS.region (id := 3) ?_;
                  refine RS.pv (PV.all tab_ok rfl) rfl ?_;
                  (first | refine RS.lv (LV.load tab_ok rfl (Has.own 0 rfl) rfl) rfl ?_ | refine RS.lv (LV.load tab_ok rfl (Has.own 1 rfl) rfl) rfl ?_ | refine RS.lv (LV.load tab_ok rfl (Has.own 2 rfl) rfl) rfl ?_))
              | (refine CS.region (id := 4) ?_;
                  refine RS.pv (PV.all tab_ok rfl) rfl ?_)
              | (refine CS.region (id := 10) ?_;
                  (first | refine RS.pv (PV.all tab_ok rfl) rfl ?_ | refine RS.pv (PV.eqlT rfl rfl (by omega)) rfl ?_ | refine RS.pv (PV.eqlF rfl rfl (by omega)) rfl ?_ | refine RS.ifEql rfl rfl rfl (fun h => ?_) (fun h => ?_) | refine RS.ifSeql rfl rfl rfl (fun h => ?_) (fun h => ?_));
                  (all_goals refine RS.pv (PV.all tab_ok rfl) rfl ?_);
                  (all_goals refine RS.nil ?_))
              | (refine CS.region (id := 11) ?_;
                  refine RS.pv (PV.all tab_ok rfl) rfl ?_)
              | (refine CS.region (id := 12) ?_;
                  (first | refine RS.pv (PV.all tab_ok rfl) rfl ?_ | refine RS.pv (PV.eqlT rfl rfl (by omega)) rfl ?_ | refine RS.pv (PV.eqlF rfl rfl (by omega)) rfl ?_ | refine RS.ifEql rfl rfl rfl (fun h => ?_) (fun h => ?_) | refine RS.ifSeql rfl rfl rfl (fun h => ?_) (fun h => ?_));
                  (all_goals refine RS.pv (PV.all tab_ok rfl) rfl ?_);
                  (all_goals refine RS.nil ?_))
              | (refine CS.region (id := 13) ?_)
              | (refine CS.region (id := 14) ?_;
                  (first | refine RS.pv (PV.all tab_ok rfl) rfl ?_ | refine RS.pv (PV.eqlT rfl rfl (by omega)) rfl ?_ | refine RS.pv (PV.eqlF rfl rfl (by omega)) rfl ?_ | refine RS.ifEql rfl rfl rfl (fun h => ?_) (fun h => ?_) | refine RS.ifSeql rfl rfl rfl (fun h => ?_) (fun h => ?_));
                  (all_goals refine RS.pv (PV.all tab_ok rfl) rfl ?_);
                  (all_goals refine RS.nil ?_))
              | (refine CS.drawQ (id := 15) mix (by kernel_rfl) ?_;
                  refine QS.pv (PV.all tab_ok rfl) rfl ?_;
                  (first | refine QS.lv (LV.load tab_ok rfl (Has.own 0 rfl) rfl) rfl ?_ | refine QS.lv (LV.load tab_ok rfl (Has.own 1 rfl) rfl) rfl ?_ | refine QS.lv (LV.load tab_ok rfl (Has.own 2 rfl) rfl) rfl ?_);
                  refine QS.pv (PV.all tab_ok rfl) rfl ?_)
              | (refine CS.region (id := 16) ?_;
                  (first | refine RS.pv (PV.all tab_ok rfl) rfl ?_ | refine RS.pv (PV.eqlT rfl rfl (by omega)) rfl ?_ | refine RS.pv (PV.eqlF rfl rfl (by omega)) rfl ?_ | refine RS.ifEql rfl rfl rfl (fun h => ?_) (fun h => ?_) | refine RS.ifSeql rfl rfl rfl (fun h => ?_) (fun h => ?_));
                  (all_goals refine RS.pv (PV.all tab_ok rfl) rfl ?_);
                  (all_goals refine RS.nil ?_))
              | (refine CS.drawQ (id := 17) mix (by kernel_rfl) ?_;
                  refine QS.pv (PV.all tab_ok rfl) rfl ?_;
                  (first | refine QS.lv (LV.load tab_ok rfl (Has.own 0 rfl) rfl) rfl ?_ | refine QS.lv (LV.load tab_ok rfl (Has.own 1 rfl) rfl) rfl ?_ | refine QS.lv (LV.load tab_ok rfl (Has.own 2 rfl) rfl) rfl ?_);
                  refine QS.pv (PV.all tab_ok rfl) rfl ?_)
              | (refine CS.region (id := 18) ?_;
                  (first | refine RS.pv (PV.all tab_ok rfl) rfl ?_ | refine RS.pv (PV.eqlT rfl rfl (by omega)) rfl ?_ | refine RS.pv (PV.eqlF rfl rfl (by omega)) rfl ?_ | refine RS.ifEql rfl rfl rfl (fun h => ?_) (fun h => ?_) | refine RS.ifSeql rfl rfl rfl (fun h => ?_) (fun h => ?_));
                  (all_goals refine RS.pv (PV.all tab_ok rfl) rfl ?_);
                  (all_goals refine RS.nil ?_))
              | (refine CS.drawQ (id := 19) mix (by kernel_rfl) ?_;
                  refine QS.pv (PV.all tab_ok rfl) rfl ?_;
                  (first | refine QS.lv (LV.load tab_ok rfl (Has.own 0 rfl) rfl) rfl ?_ | refine QS.lv (LV.load tab_ok rfl (Has.own 1 rfl) rfl) rfl ?_ | refine QS.lv (LV.load tab_ok rfl (Has.own 2 rfl) rfl) rfl ?_);
                  refine QS.pv (PV.all tab_ok rfl) rfl ?_)
              | (refine CS.region (id := 20) ?_;
                  (first | refine RS.pv (PV.all tab_ok rfl) rfl ?_ | refine RS.pv (PV.eqlT rfl rfl (by omega)) rfl ?_ | refine RS.pv (PV.eqlF rfl rfl (by omega)) rfl ?_ | refine RS.ifEql rfl rfl rfl (fun h => ?_) (fun h => ?_) | refine RS.ifSeql rfl rfl rfl (fun h => ?_) (fun h => ?_));
                  (all_goals refine RS.pv (PV.all tab_ok rfl) rfl ?_);
                  (all_goals refine RS.nil ?_))
              | (refine CS.region (id := 21) ?_;
                  refine RS.pv (PV.all tab_ok rfl) rfl ?_;
                  (first | refine RS.lv (LV.load tab_ok rfl (Has.own 0 rfl) rfl) rfl ?_ | refine RS.lv (LV.load tab_ok rfl (Has.own 1 rfl) rfl) rfl ?_ | refine RS.lv (LV.load tab_ok rfl (Has.own 2 rfl) rfl) rfl ?_))
              | (refine CS.region (id := 22) ?_;
                  (first | refine RS.pv (PV.all tab_ok rfl) rfl ?_ | refine RS.pv (PV.eqlT rfl rfl (by omega)) rfl ?_ | refine RS.pv (PV.eqlF rfl rfl (by omega)) rfl ?_ | refine RS.ifEql rfl rfl rfl (fun h => ?_) (fun h => ?_) | refine RS.ifSeql rfl rfl rfl (fun h => ?_) (fun h => ?_));
                  (all_goals refine RS.pv (PV.all tab_ok rfl) rfl ?_);
                  (all_goals refine RS.nil ?_))
              | (refine CS.region (id := 23) ?_;
                  refine RS.pv (PV.all tab_ok rfl) rfl ?_;
                  (first | refine RS.lv (LV.load tab_ok rfl (Has.own 0 rfl) rfl) rfl ?_ | refine RS.lv (LV.load tab_ok rfl (Has.own 1 rfl) rfl) rfl ?_ | refine RS.lv (LV.load tab_ok rfl (Has.own 2 rfl) rfl) rfl ?_))
              | (refine CS.region (id := 24) ?_;
                  (first | refine RS.pv (PV.all tab_ok rfl) rfl ?_ | refine RS.pv (PV.eqlT rfl rfl (by omega)) rfl ?_ | refine RS.pv (PV.eqlF rfl rfl (by omega)) rfl ?_ | refine RS.ifEql rfl rfl rfl (fun h => ?_) (fun h => ?_) | refine RS.ifSeql rfl rfl rfl (fun h => ?_) (fun h => ?_));
                  (all_goals refine RS.pv (PV.all tab_ok rfl) rfl ?_);
                  (all_goals refine RS.nil ?_))
              | (refine CS.region (id := 25) ?_;
                  refine RS.pv (PV.all tab_ok rfl) rfl ?_)
              | (refine CS.region (id := 26) ?_;
                  (first | refine RS.pv (PV.all tab_ok rfl) rfl ?_ | refine RS.pv (PV.eqlT rfl rfl (by omega)) rfl ?_ | refine RS.pv (PV.eqlF rfl rfl (by omega)) rfl ?_ | refine RS.ifEql rfl rfl rfl (fun h => ?_) (fun h => ?_) | refine RS.ifSeql rfl rfl rfl (fun h => ?_) (fun h => ?_));
                  (all_goals refine RS.pv (PV.all tab_ok rfl) rfl ?_);
                  (all_goals refine RS.nil ?_))
              | (refine CS.region (id := 27) ?_)
              | (refine CS.region (id := 28) ?_;
                  (first | refine RS.pv (PV.all tab_ok rfl) rfl ?_ | refine RS.pv (PV.eqlT rfl rfl (by omega)) rfl ?_ | refine RS.pv (PV.eqlF rfl rfl (by omega)) rfl ?_ | refine RS.ifEql rfl rfl rfl (fun h => ?_) (fun h => ?_) | refine RS.ifSeql rfl rfl rfl (fun h => ?_) (fun h => ?_));
                  (all_goals refine RS.pv (PV.all tab_ok rfl) rfl ?_);
                  (all_goals refine RS.nil ?_))
              | (refine CS.region (id := 29) ?_;
                  refine RS.pv (PV.all tab_ok rfl) rfl ?_)
              | (refine CS.region (id := 30) ?_;
                  (first | refine RS.pv (PV.all tab_ok rfl) rfl ?_ | refine RS.pv (PV.eqlT rfl rfl (by omega)) rfl ?_ | refine RS.pv (PV.eqlF rfl rfl (by omega)) rfl ?_ | refine RS.ifEql rfl rfl rfl (fun h => ?_) (fun h => ?_) | refine RS.ifSeql rfl rfl rfl (fun h => ?_) (fun h => ?_));
                  (all_goals refine RS.pv (PV.all tab_ok rfl) rfl ?_);
                  (all_goals refine RS.nil ?_))
              | (refine CS.region (id := 31) ?_;
                  refine RS.pv (PV.all tab_ok rfl) rfl ?_)
              | (refine CS.region (id := 32) ?_;
                  (first | refine RS.pv (PV.all tab_ok rfl) rfl ?_ | refine RS.pv (PV.eqlT rfl rfl (by omega)) rfl ?_ | refine RS.pv (PV.eqlF rfl rfl (by omega)) rfl ?_ | refine RS.ifEql rfl rfl rfl (fun h => ?_) (fun h => ?_) | refine RS.ifSeql rfl rfl rfl (fun h => ?_) (fun h => ?_));
                  (all_goals refine RS.pv (PV.all tab_ok rfl) rfl ?_);
                  (all_goals refine RS.nil ?_))
              | (refine CS.region (id := 33) ?_)
              | (refine CS.region (id := 34) ?_;
                  (first | refine RS.pv (PV.all tab_ok rfl) rfl ?_ | refine RS.pv (PV.eqlT rfl rfl (by omega)) rfl ?_ | refine RS.pv (PV.eqlF rfl rfl (by omega)) rfl ?_ | refine RS.ifEql rfl rfl rfl (fun h => ?_) (fun h => ?_) | refine RS.ifSeql rfl rfl rfl (fun h => ?_) (fun h => ?_));
                  (all_goals refine RS.pv (PV.all tab_ok rfl) rfl ?_);
                  (all_goals refine RS.nil ?_))
              | (refine CS.region (id := 44) ?_;
                  refine RS.pv (PV.all tab_ok rfl) rfl ?_;
                  refine RS.pv (PV.sub rfl rfl (by omega)) rfl ?_;
                  refine RS.pv (PV.all tab_ok rfl) rfl ?_;
                  refine RS.nil ?_)
              | refine CS.ret ?_
              | refine thenQ.ret ?_
              | refine blkQ.ret ?_
              | refine retQ.ret ?_
              | refine CS.block ?_
              | refine CS.exit ?_
              | refine thenQ.exit ?_
              | refine blkQ.normal ?_
              | refine blkQ.here ?_
              | refine blkQ.past rfl ?_
              | refine retQ.normal ?_)
            exact ⟨m - 1, by omega, ps2, by omega, by omega, ⟨path, index, run, load, some ⟨g0, 0, none⟩, q2, p3, q3, p4, q4, p5, q5, p6, q6, name, prio, owner, group, mode, [(g0, .cells (List.toArray (attrs ps2 ++ sp)) 103 (0, 0))], O2, O3, by rw [hps2]; exact SlO.again hcap hsp hxl (by omega), s3, s4, s5.le hi2, s6.le hi2, hr, hld, by rw [hps2]; rfl⟩, by rw [show ((m - 1 : Nat) : Int) = (m : Int) - 1 by omega]; rfl⟩
          · exact ⟨props.length - (j + 1), by omega, j + 1, ps, rfl, by omega, hpl, ⟨path, index, run, load, some ⟨g0, 0, none⟩, q2, p3, q3, p4, q4, p5, q5, p6, q6, name, prio, owner, group, mode, [(g0, .cells (List.toArray (attrs ps ++ sp)) 103 (0, 0))], O2, O3, SlO.again hcap hsp hxl rfl, s3, s4, s5, s6, hr, hld, rfl⟩, rfl⟩
        · have hm0 : m = 0 := by omega
          subst hm0
          obtain ⟨path, index, run, load, p2, q2, p3, q3, p4, q4, p5, q5, p6, q6, name, prio, owner, group, mode, O1, O2, O3, s2, s3, s4, s5, s6, hr, hld, rfl⟩ := hS
          repeat' (first
            | refine CS.seq ?_
            | refine thenQ.normal ?_
            | refine CS.cond_true rfl ?_
            | refine CS.cond_false rfl ?_
            | refine CS.skip ?_
            | (refine CS.region (id := 0) ?_;
                refine RS.box rfl rfl (fun b => ?_);
                refine RS.alloc tab_ok rfl rfl (fun b => ?_);
                refine RS.nil ?_)
            | (refine CS.region (id := 1) ?_;
                refine RS.pv (PV.all tab_ok rfl) rfl ?_;
                (first | refine RS.lv (LV.load tab_ok rfl (Has.own 0 rfl) rfl) rfl ?_ | refine RS.lv (LV.load tab_ok rfl (Has.own 1 rfl) rfl) rfl ?_ | refine RS.lv (LV.load tab_ok rfl (Has.own 2 rfl) rfl) rfl ?_))
            | (refine CS.region (id := 2) ?_;
                refine RS.pv (PV.all tab_ok rfl) rfl ?_;
                (first | refine RS.lv (LV.load tab_ok rfl (Has.own 0 rfl) rfl) rfl ?_ | refine RS.lv (LV.load tab_ok rfl (Has.own 1 rfl) rfl) rfl ?_ | refine RS.lv (LV.load tab_ok rfl (Has.own 2 rfl) rfl) rfl ?_))
            | (refine CS.region (id := 3) ?_;
                refine RS.pv (PV.all tab_ok rfl) rfl ?_;
                (first | refine RS.lv (LV.load tab_ok rfl (Has.own 0 rfl) rfl) rfl ?_ | refine RS.lv (LV.load tab_ok rfl (Has.own 1 rfl) rfl) rfl ?_ | refine RS.lv (LV.load tab_ok rfl (Has.own 2 rfl) rfl) rfl ?_))
            | (refine CS.region (id := 4) ?_;
                refine RS.pv (PV.all tab_ok rfl) rfl ?_)
            | (refine CS.region (id := 10) ?_;
                (first | refine RS.pv (PV.all tab_ok rfl) rfl ?_ | refine RS.pv (PV.eqlT rfl rfl (by omega)) rfl ?_ | refine RS.pv (PV.eqlF rfl rfl (by omega)) rfl ?_ | refine RS.ifEql rfl rfl rfl (fun h => ?_) (fun h => ?_) | refine RS.ifSeql rfl rfl rfl (fun h => ?_) (fun h => ?_));
                (all_goals refine RS.pv (PV.all tab_ok rfl) rfl ?_);
                (all_goals refine RS.nil ?_))
            | (refine CS.region (id := 11) ?_;
                refine RS.pv (PV.all tab_ok rfl) rfl ?_)
            | (refine CS.region (id := 12) ?_;
                (first | refine RS.pv (PV.all tab_ok rfl) rfl ?_ | refine RS.pv (PV.eqlT rfl rfl (by omega)) rfl ?_ | refine RS.pv (PV.eqlF rfl rfl (by omega)) rfl ?_ | refine RS.ifEql rfl rfl rfl (fun h => ?_) (fun h => ?_) | refine RS.ifSeql rfl rfl rfl (fun h => ?_) (fun h => ?_));
                (all_goals refine RS.pv (PV.all tab_ok rfl) rfl ?_);
                (all_goals refine RS.nil ?_))
            | (refine CS.region (id := 13) ?_)
            | (refine CS.region (id := 14) ?_;
                (first | refine RS.pv (PV.all tab_ok rfl) rfl ?_ | refine RS.pv (PV.eqlT rfl rfl (by omega)) rfl ?_ | refine RS.pv (PV.eqlF rfl rfl (by omega)) rfl ?_ | refine RS.ifEql rfl rfl rfl (fun h => ?_) (fun h => ?_) | refine RS.ifSeql rfl rfl rfl (fun h => ?_) (fun h => ?_));
                (all_goals refine RS.pv (PV.all tab_ok rfl) rfl ?_);
                (all_goals refine RS.nil ?_))
            | (refine CS.drawQ (id := 15) mix (by kernel_rfl) ?_;
                refine QS.pv (PV.all tab_ok rfl) rfl ?_;
                (first | refine QS.lv (LV.load tab_ok rfl (Has.own 0 rfl) rfl) rfl ?_ | refine QS.lv (LV.load tab_ok rfl (Has.own 1 rfl) rfl) rfl ?_ | refine QS.lv (LV.load tab_ok rfl (Has.own 2 rfl) rfl) rfl ?_);
                refine QS.pv (PV.all tab_ok rfl) rfl ?_)
            | (refine CS.region (id := 16) ?_;
                (first | refine RS.pv (PV.all tab_ok rfl) rfl ?_ | refine RS.pv (PV.eqlT rfl rfl (by omega)) rfl ?_ | refine RS.pv (PV.eqlF rfl rfl (by omega)) rfl ?_ | refine RS.ifEql rfl rfl rfl (fun h => ?_) (fun h => ?_) | refine RS.ifSeql rfl rfl rfl (fun h => ?_) (fun h => ?_));
                (all_goals refine RS.pv (PV.all tab_ok rfl) rfl ?_);
                (all_goals refine RS.nil ?_))
            | (refine CS.drawQ (id := 17) mix (by kernel_rfl) ?_;
                refine QS.pv (PV.all tab_ok rfl) rfl ?_;
                (first | refine QS.lv (LV.load tab_ok rfl (Has.own 0 rfl) rfl) rfl ?_ | refine QS.lv (LV.load tab_ok rfl (Has.own 1 rfl) rfl) rfl ?_ | refine QS.lv (LV.load tab_ok rfl (Has.own 2 rfl) rfl) rfl ?_);
                refine QS.pv (PV.all tab_ok rfl) rfl ?_)
            | (refine CS.region (id := 18) ?_;
                (first | refine RS.pv (PV.all tab_ok rfl) rfl ?_ | refine RS.pv (PV.eqlT rfl rfl (by omega)) rfl ?_ | refine RS.pv (PV.eqlF rfl rfl (by omega)) rfl ?_ | refine RS.ifEql rfl rfl rfl (fun h => ?_) (fun h => ?_) | refine RS.ifSeql rfl rfl rfl (fun h => ?_) (fun h => ?_));
                (all_goals refine RS.pv (PV.all tab_ok rfl) rfl ?_);
                (all_goals refine RS.nil ?_))
            | (refine CS.drawQ (id := 19) mix (by kernel_rfl) ?_;
                refine QS.pv (PV.all tab_ok rfl) rfl ?_;
                (first | refine QS.lv (LV.load tab_ok rfl (Has.own 0 rfl) rfl) rfl ?_ | refine QS.lv (LV.load tab_ok rfl (Has.own 1 rfl) rfl) rfl ?_ | refine QS.lv (LV.load tab_ok rfl (Has.own 2 rfl) rfl) rfl ?_);
                refine QS.pv (PV.all tab_ok rfl) rfl ?_)
            | (refine CS.region (id := 20) ?_;
                (first | refine RS.pv (PV.all tab_ok rfl) rfl ?_ | refine RS.pv (PV.eqlT rfl rfl (by omega)) rfl ?_ | refine RS.pv (PV.eqlF rfl rfl (by omega)) rfl ?_ | refine RS.ifEql rfl rfl rfl (fun h => ?_) (fun h => ?_) | refine RS.ifSeql rfl rfl rfl (fun h => ?_) (fun h => ?_));
                (all_goals refine RS.pv (PV.all tab_ok rfl) rfl ?_);
                (all_goals refine RS.nil ?_))
            | (refine CS.region (id := 21) ?_;
                refine RS.pv (PV.all tab_ok rfl) rfl ?_;
                (first | refine RS.lv (LV.load tab_ok rfl (Has.own 0 rfl) rfl) rfl ?_ | refine RS.lv (LV.load tab_ok rfl (Has.own 1 rfl) rfl) rfl ?_ | refine RS.lv (LV.load tab_ok rfl (Has.own 2 rfl) rfl) rfl ?_))
            | (refine CS.region (id := 22) ?_;
                (first | refine RS.pv (PV.all tab_ok rfl) rfl ?_ | refine RS.pv (PV.eqlT rfl rfl (by omega)) rfl ?_ | refine RS.pv (PV.eqlF rfl rfl (by omega)) rfl ?_ | refine RS.ifEql rfl rfl rfl (fun h => ?_) (fun h => ?_) | refine RS.ifSeql rfl rfl rfl (fun h => ?_) (fun h => ?_));
                (all_goals refine RS.pv (PV.all tab_ok rfl) rfl ?_);
                (all_goals refine RS.nil ?_))
            | (refine CS.region (id := 23) ?_;
                refine RS.pv (PV.all tab_ok rfl) rfl ?_;
                (first | refine RS.lv (LV.load tab_ok rfl (Has.own 0 rfl) rfl) rfl ?_ | refine RS.lv (LV.load tab_ok rfl (Has.own 1 rfl) rfl) rfl ?_ | refine RS.lv (LV.load tab_ok rfl (Has.own 2 rfl) rfl) rfl ?_))
            | (refine CS.region (id := 24) ?_;
                (first | refine RS.pv (PV.all tab_ok rfl) rfl ?_ | refine RS.pv (PV.eqlT rfl rfl (by omega)) rfl ?_ | refine RS.pv (PV.eqlF rfl rfl (by omega)) rfl ?_ | refine RS.ifEql rfl rfl rfl (fun h => ?_) (fun h => ?_) | refine RS.ifSeql rfl rfl rfl (fun h => ?_) (fun h => ?_));
                (all_goals refine RS.pv (PV.all tab_ok rfl) rfl ?_);
                (all_goals refine RS.nil ?_))
            | (refine CS.region (id := 25) ?_;
                refine RS.pv (PV.all tab_ok rfl) rfl ?_)
            | (refine CS.region (id := 26) ?_;
                (first | refine RS.pv (PV.all tab_ok rfl) rfl ?_ | refine RS.pv (PV.eqlT rfl rfl (by omega)) rfl ?_ | refine RS.pv (PV.eqlF rfl rfl (by omega)) rfl ?_ | refine RS.ifEql rfl rfl rfl (fun h => ?_) (fun h => ?_) | refine RS.ifSeql rfl rfl rfl (fun h => ?_) (fun h => ?_));
                (all_goals refine RS.pv (PV.all tab_ok rfl) rfl ?_);
                (all_goals refine RS.nil ?_))
            | (refine CS.region (id := 27) ?_)
            | (refine CS.region (id := 28) ?_;
                (first | refine RS.pv (PV.all tab_ok rfl) rfl ?_ | refine RS.pv (PV.eqlT rfl rfl (by omega)) rfl ?_ | refine RS.pv (PV.eqlF rfl rfl (by omega)) rfl ?_ | refine RS.ifEql rfl rfl rfl (fun h => ?_) (fun h => ?_) | refine RS.ifSeql rfl rfl rfl (fun h => ?_) (fun h => ?_));
                (all_goals refine RS.pv (PV.all tab_ok rfl) rfl ?_);
                (all_goals refine RS.nil ?_))
            | (refine CS.region (id := 29) ?_;
                refine RS.pv (PV.all tab_ok rfl) rfl ?_)
            | (refine CS.region (id := 30) ?_;
                (first | refine RS.pv (PV.all tab_ok rfl) rfl ?_ | refine RS.pv (PV.eqlT rfl rfl (by omega)) rfl ?_ | refine RS.pv (PV.eqlF rfl rfl (by omega)) rfl ?_ | refine RS.ifEql rfl rfl rfl (fun h => ?_) (fun h => ?_) | refine RS.ifSeql rfl rfl rfl (fun h => ?_) (fun h => ?_));
                (all_goals refine RS.pv (PV.all tab_ok rfl) rfl ?_);
                (all_goals refine RS.nil ?_))
            | (refine CS.region (id := 31) ?_;
                refine RS.pv (PV.all tab_ok rfl) rfl ?_)
            | (refine CS.region (id := 32) ?_;
                (first | refine RS.pv (PV.all tab_ok rfl) rfl ?_ | refine RS.pv (PV.eqlT rfl rfl (by omega)) rfl ?_ | refine RS.pv (PV.eqlF rfl rfl (by omega)) rfl ?_ | refine RS.ifEql rfl rfl rfl (fun h => ?_) (fun h => ?_) | refine RS.ifSeql rfl rfl rfl (fun h => ?_) (fun h => ?_));
                (all_goals refine RS.pv (PV.all tab_ok rfl) rfl ?_);
                (all_goals refine RS.nil ?_))
            | (refine CS.region (id := 33) ?_)
            | (refine CS.region (id := 34) ?_;
                (first | refine RS.pv (PV.all tab_ok rfl) rfl ?_ | refine RS.pv (PV.eqlT rfl rfl (by omega)) rfl ?_ | refine RS.pv (PV.eqlF rfl rfl (by omega)) rfl ?_ | refine RS.ifEql rfl rfl rfl (fun h => ?_) (fun h => ?_) | refine RS.ifSeql rfl rfl rfl (fun h => ?_) (fun h => ?_));
                (all_goals refine RS.pv (PV.all tab_ok rfl) rfl ?_);
                (all_goals refine RS.nil ?_))
            | (refine CS.drawQ (id := 43) mix (by kernel_rfl) ?_;
                refine QS.pv (PV.all tab_ok rfl) rfl ?_;
                (first | refine QS.pv (PV.gtrT rfl rfl (by omega)) rfl ?_ | refine QS.pv (PV.gtrF rfl rfl (by omega)) rfl ?_ | refine QS.ifGtr rfl rfl rfl (fun h => ?_) (fun h => ?_));
                (all_goals refine QS.pv (PV.all tab_ok rfl) rfl ?_);
                (all_goals (first | refine QS.pv (PV.all tab_ok rfl) rfl ?_ | refine QS.skip rfl ?_));
                (all_goals (first | refine QS.lv (LV.load tab_ok rfl (Has.own 0 rfl) rfl) rfl ?_ | refine QS.lv (LV.load tab_ok rfl (Has.own 1 rfl) rfl) rfl ?_ | refine QS.lv (LV.load tab_ok rfl (Has.own 2 rfl) rfl) rfl ?_ | refine QS.skip rfl ?_));
                (all_goals (first | refine QS.pv (PV.all tab_ok rfl) rfl ?_ | refine QS.skip rfl ?_));
                (all_goals (first | refine QS.pv (PV.indexAddr tab_ok rfl rfl rfl (by omega)) rfl ?_ | refine QS.pv (PV.indexAddrA tab_ok rfl rfl rfl (by omega)) rfl ?_ | refine QS.skip rfl ?_));
                (all_goals (first | refine QS.pv (PV.all tab_ok rfl) rfl ?_ | refine QS.skip rfl ?_));
                (all_goals (first | refine QS.lv (LV.load tab_ok rfl (Has.own 0 rfl) rfl) rfl ?_ | refine QS.lv (LV.load tab_ok rfl (Has.own 1 rfl) rfl) rfl ?_ | refine QS.lv (LV.load tab_ok rfl (Has.own 2 rfl) rfl) rfl ?_ | refine QS.skip rfl ?_));
                (all_goals (first | refine QS.pv (PV.all tab_ok rfl) rfl ?_ | refine QS.skip rfl ?_));
                (all_goals (first | refine QS.lv (LV.load tab_ok rfl (Has.own 0 rfl) rfl) rfl ?_ | refine QS.lv (LV.load tab_ok rfl (Has.own 1 rfl) rfl) rfl ?_ | refine QS.lv (LV.load tab_ok rfl (Has.own 2 rfl) rfl) rfl ?_ | refine QS.skip rfl ?_));
                (all_goals (first | refine QS.pv (PV.all tab_ok rfl) rfl ?_ | refine QS.skip rfl ?_));
                (all_goals (first | refine QS.pv (PV.sub rfl rfl (by omega)) rfl ?_ | refine QS.skip rfl ?_));
                (all_goals (first | refine QS.pv (PV.indexAddr tab_ok rfl rfl rfl (by omega)) rfl ?_ | refine QS.pv (PV.indexAddrA tab_ok rfl rfl rfl (by omega)) rfl ?_ | refine QS.skip rfl ?_));
                (all_goals (first | refine QS.pv (PV.all tab_ok rfl) rfl ?_ | refine QS.skip rfl ?_));
                (all_goals (first | refine QS.lv (LV.load tab_ok rfl (Has.own 0 rfl) rfl) rfl ?_ | refine QS.lv (LV.load tab_ok rfl (Has.own 1 rfl) rfl) rfl ?_ | refine QS.lv (LV.load tab_ok rfl (Has.own 2 rfl) rfl) rfl ?_ | refine QS.skip rfl ?_));
                (all_goals (first | refine QS.pv (PV.lssT rfl rfl (by omega)) rfl ?_ | refine QS.pv (PV.lssF rfl rfl (by omega)) rfl ?_ | refine QS.ifLss rfl rfl rfl (fun h => ?_) (fun h => ?_) | refine QS.skip rfl ?_));
                (all_goals refine QS.pv (PV.all tab_ok rfl) rfl ?_);
                (all_goals refine QS.nil ?_))
            | (refine CS.region (id := 44) ?_;
                refine RS.pv (PV.all tab_ok rfl) rfl ?_;
                refine RS.pv (PV.sub rfl rfl (by omega)) rfl ?_;
                refine RS.pv (PV.all tab_ok rfl) rfl ?_;
                refine RS.nil ?_)
            | (refine CS.region (id := 46) ?_;
                refine RS.pv (PV.add rfl rfl (by omega)) rfl ?_;
                refine RS.pv (PV.all tab_ok rfl) rfl ?_;
                refine RS.nil ?_)
            | refine CS.ret ?_
            | refine thenQ.ret ?_
            | refine blkQ.ret ?_
            | refine retQ.ret ?_
            | refine CS.block ?_
            | refine CS.exit ?_
            | refine thenQ.exit ?_
            | refine blkQ.normal ?_
            | refine blkQ.here ?_
            | refine blkQ.past rfl ?_
            | refine retQ.normal ?_)
          exact ⟨props.length - (j + 1), by omega, j + 1, ps, rfl, by omega, hpl, ⟨_, _, _, _, _, _, _, _, _, _, _, _, _, _, _, _, _, _, _, O1, O2, O3, s2, s3, s4, s5, s6, hr, hld, rfl⟩, rfl⟩
      · repeat' (first
          | refine CS.seq ?_
          | refine thenQ.normal ?_
          | refine CS.cond_true rfl ?_
          | refine CS.cond_false rfl ?_
          | refine CS.skip ?_
          | (refine CS.region (id := 0) ?_;
              refine RS.box rfl rfl (fun b => ?_);
              refine RS.alloc tab_ok rfl rfl (fun b => ?_);
              refine RS.nil ?_)
          | (refine CS.region (id := 1) ?_;
              refine RS.pv (PV.all tab_ok rfl) rfl ?_;
              (first | refine RS.lv (LV.load tab_ok rfl (Has.own 0 rfl) rfl) rfl ?_ | refine RS.lv (LV.load tab_ok rfl (Has.own 1 rfl) rfl) rfl ?_ | refine RS.lv (LV.load tab_ok rfl (Has.own 2 rfl) rfl) rfl ?_))
          | (refine CS.region (id := 2) ?_;
              refine RS.pv (PV.all tab_ok rfl) rfl ?_;
              (first | refine RS.lv (LV.load tab_ok rfl (Has.own 0 rfl) rfl) rfl ?_ | refine RS.lv (LV.load tab_ok rfl (Has.own 1 rfl) rfl) rfl ?_ | refine RS.lv (LV.load tab_ok rfl (Has.own 2 rfl) rfl) rfl ?_))
          | (refine CS.region (id := 3) ?_;
              refine RS.pv (PV.all tab_ok rfl) rfl ?_;
              (first | refine RS.lv (LV.load tab_ok rfl (Has.own 0 rfl) rfl) rfl ?_ | refine RS.lv (LV.load tab_ok rfl (Has.own 1 rfl) rfl) rfl ?_ | refine RS.lv (LV.load tab_ok rfl (Has.own 2 rfl) rfl) rfl ?_))
          | (refine CS.region (id := 4) ?_;
              refine RS.pv (PV.all tab_ok rfl) rfl ?_)
          | (refine CS.region (id := 10) ?_;
              (first | refine RS.pv (PV.all tab_ok rfl) rfl ?_ | refine RS.pv (PV.eqlT rfl rfl (by omega)) rfl ?_ | refine RS.pv (PV.eqlF rfl rfl (by omega)) rfl ?_ | refine RS.ifEql rfl rfl rfl (fun h => ?_) (fun h => ?_) | refine RS.ifSeql rfl rfl rfl (fun h => ?_) (fun h => ?_));
              (all_goals refine RS.pv (PV.all tab_ok rfl) rfl ?_);
              (all_goals refine RS.nil ?_))
          | (refine CS.region (id := 11) ?_;
              refine RS.pv (PV.all tab_ok rfl) rfl ?_)
          | (refine CS.region (id := 12) ?_;
              (first | refine RS.pv (PV.all tab_ok rfl) rfl ?_ | refine RS.pv (PV.eqlT rfl rfl (by omega)) rfl ?_ | refine RS.pv (PV.eqlF rfl rfl (by omega)) rfl ?_ | refine RS.ifEql rfl rfl rfl (fun h => ?_) (fun h => ?_) | refine RS.ifSeql rfl rfl rfl (fun h => ?_) (fun h => ?_));
              (all_goals refine RS.pv (PV.all tab_ok rfl) rfl ?_);
              (all_goals refine RS.nil ?_))
          | (refine CS.region (id := 13) ?_)
          | (refine CS.region (id := 14) ?_;
              (first | refine RS.pv (PV.all tab_ok rfl) rfl ?_ | refine RS.pv (PV.eqlT rfl rfl (by omega)) rfl ?_ | refine RS.pv (PV.eqlF rfl rfl (by omega)) rfl ?_ | refine RS.ifEql rfl rfl rfl (fun h => ?_) (fun h => ?_) | refine RS.ifSeql rfl rfl rfl (fun h => ?_) (fun h => ?_));
              (all_goals refine RS.pv (PV.all tab_ok rfl) rfl ?_);
              (all_goals refine RS.nil ?_))
          | (refine CS.drawQ (id := 15) mix (by kernel_rfl) ?_;
              refine QS.pv (PV.all tab_ok rfl) rfl ?_;
              (first | refine QS.lv (LV.load tab_ok rfl (Has.own 0 rfl) rfl) rfl ?_ | refine QS.lv (LV.load tab_ok rfl (Has.own 1 rfl) rfl) rfl ?_ | refine QS.lv (LV.load tab_ok rfl (Has.own 2 rfl) rfl) rfl ?_);
              refine QS.pv (PV.all tab_ok rfl) rfl ?_)
          | (refine CS.region (id := 16) ?_;
              (first | refine RS.pv (PV.all tab_ok rfl) rfl ?_ | refine RS.pv (PV.eqlT rfl rfl (by omega)) rfl ?_ | refine RS.pv (PV.eqlF rfl rfl (by omega)) rfl ?_ | refine RS.ifEql rfl rfl rfl (fun h => ?_) (fun h => ?_) | refine RS.ifSeql rfl rfl rfl (fun h => ?_) (fun h => ?_));
              (all_goals refine RS.pv (PV.all tab_ok rfl) rfl ?_);
              (all_goals refine RS.nil ?_))
          | (refine CS.drawQ (id := 17) mix (by kernel_rfl) ?_;
              refine QS.pv (PV.all tab_ok rfl) rfl ?_;
              (first | refine QS.lv (LV.load tab_ok rfl (Has.own 0 rfl) rfl) rfl ?_ | refine QS.lv (LV.load tab_ok rfl (Has.own 1 rfl) rfl) rfl ?_ | refine QS.lv (LV.load tab_ok rfl (Has.own 2 rfl) rfl) rfl ?_);
              refine QS.pv (PV.all tab_ok rfl) rfl ?_)
          | (refine CS.region (id := 18) ?_;
              (first | refine RS.pv (PV.all tab_ok rfl) rfl ?_ | refine RS.pv (PV.eqlT rfl rfl (by omega)) rfl ?_ | refine RS.pv (PV.eqlF rfl rfl (by omega)) rfl ?_ | refine RS.ifEql rfl rfl rfl (fun h => ?_) (fun h => ?_) | refine RS.ifSeql rfl rfl rfl (fun h => ?_) (fun h => ?_));
              (all_goals refine RS.pv (PV.all tab_ok rfl) rfl ?_);
              (all_goals refine RS.nil ?_))
          | (refine CS.drawQ (id := 19) mix (by kernel_rfl) ?_;
              refine QS.pv (PV.all tab_ok rfl) rfl ?_;
              (first | refine QS.lv (LV.load tab_ok rfl (Has.own 0 rfl) rfl) rfl ?_ | refine QS.lv (LV.load tab_ok rfl (Has.own 1 rfl) rfl) rfl ?_ | refine QS.lv (LV.load tab_ok rfl (Has.own 2 rfl) rfl) rfl ?_);
              refine QS.pv (PV.all tab_ok rfl) rfl ?_)
          | (refine CS.region (id := 20) ?_;
              (first | refine RS.pv (PV.all tab_ok rfl) rfl ?_ | refine RS.pv (PV.eqlT rfl rfl (by omega)) rfl ?_ | refine RS.pv (PV.eqlF rfl rfl (by omega)) rfl ?_ | refine RS.ifEql rfl rfl rfl (fun h => ?_) (fun h => ?_) | refine RS.ifSeql rfl rfl rfl (fun h => ?_) (fun h => ?_));
              (all_goals refine RS.pv (PV.all tab_ok rfl) rfl ?_);
              (all_goals refine RS.nil ?_))
          | (refine CS.region (id := 21) ?_;
              refine RS.pv (PV.all tab_ok rfl) rfl ?_;
              (first | refine RS.lv (LV.load tab_ok rfl (Has.own 0 rfl) rfl) rfl ?_ | refine RS.lv (LV.load tab_ok rfl (Has.own 1 rfl) rfl) rfl ?_ | refine RS.lv (LV.load tab_ok rfl (Has.own 2 rfl) rfl) rfl ?_))
          | (refine CS.region (id := 22) ?_;
              (first | refine RS.pv (PV.all tab_ok rfl) rfl ?_ | refine RS.pv (PV.eqlT rfl rfl (by omega)) rfl ?_ | refine RS.pv (PV.eqlF rfl rfl (by omega)) rfl ?_ | refine RS.ifEql rfl rfl rfl (fun h => ?_) (fun h => ?_) | refine RS.ifSeql rfl rfl rfl (fun h => ?_) (fun h => ?_));
              (all_goals refine RS.pv (PV.all tab_ok rfl) rfl ?_);
              (all_goals refine RS.nil ?_))
          | (refine CS.region (id := 23) ?_;
              refine RS.pv (PV.all tab_ok rfl) rfl ?_;
              (first | refine RS.lv (LV.load tab_ok rfl (Has.own 0 rfl) rfl) rfl ?_ | refine RS.lv (LV.load tab_ok rfl (Has.own 1 rfl) rfl) rfl ?_ | refine RS.lv (LV.load tab_ok rfl (Has.own 2 rfl) rfl) rfl ?_))
          | (refine CS.region (id := 24) ?_;
              (first | refine RS.pv (PV.all tab_ok rfl) rfl ?_ | refine RS.pv (PV.eqlT rfl rfl (by omega)) rfl ?_ | refine RS.pv (PV.eqlF rfl rfl (by omega)) rfl ?_ | refine RS.ifEql rfl rfl rfl (fun h => ?_) (fun h => ?_) | refine RS.ifSeql rfl rfl rfl (fun h => ?_) (fun h => ?_));
              (all_goals refine RS.pv (PV.all tab_ok rfl) rfl ?_);
              (all_goals refine RS.nil ?_))
          | (refine CS.region (id := 25) ?_;
              refine RS.pv (PV.all tab_ok rfl) rfl ?_)
          | (refine CS.region (id := 26) ?_;
              (first | refine RS.pv (PV.all tab_ok rfl) rfl ?_ | refine RS.pv (PV.eqlT rfl rfl (by omega)) rfl ?_ | refine RS.pv (PV.eqlF rfl rfl (by omega)) rfl ?_ | refine RS.ifEql rfl rfl rfl (fun h => ?_) (fun h => ?_) | refine RS.ifSeql rfl rfl rfl (fun h => ?_) (fun h => ?_));
              (all_goals refine RS.pv (PV.all tab_ok rfl) rfl ?_);
              (all_goals refine RS.nil ?_))
          | (refine CS.region (id := 27) ?_)
          | (refine CS.region (id := 28) ?_;
              (first | refine RS.pv (PV.all tab_ok rfl) rfl ?_ | refine RS.pv (PV.eqlT rfl rfl (by omega)) rfl ?_ | refine RS.pv (PV.eqlF rfl rfl (by omega)) rfl ?_ | refine RS.ifEql rfl rfl rfl (fun h => ?_) (fun h => ?_) | refine RS.ifSeql rfl rfl rfl (fun h => ?_) (fun h => ?_));
              (all_goals refine RS.pv (PV.all tab_ok rfl) rfl ?_);
              (all_goals refine RS.nil ?_))
          | (refine CS.region (id := 29) ?_;
              refine RS.pv (PV.all tab_ok rfl) rfl ?_)
          | (refine CS.region (id := 30) ?_;
              (first | refine RS.pv (PV.all tab_ok rfl) rfl ?_ | refine RS.pv (PV.eqlT rfl rfl (by omega)) rfl ?_ | refine RS.pv (PV.eqlF rfl rfl (by omega)) rfl ?_ | refine RS.ifEql rfl rfl rfl (fun h => ?_) (fun h => ?_) | refine RS.ifSeql rfl rfl rfl (fun h => ?_) (fun h => ?_));
              (all_goals refine RS.pv (PV.all tab_ok rfl) rfl ?_);
              (all_goals refine RS.nil ?_))
          | (refine CS.region (id := 31) ?_;
              refine RS.pv (PV.all tab_ok rfl) rfl ?_)
          | (refine CS.region (id := 32) ?_;
              (first | refine RS.pv (PV.all tab_ok rfl) rfl ?_ | refine RS.pv (PV.eqlT rfl rfl (by omega)) rfl ?_ | refine RS.pv (PV.eqlF rfl rfl (by omega)) rfl ?_ | refine RS.ifEql rfl rfl rfl (fun h => ?_) (fun h => ?_) | refine RS.ifSeql rfl rfl rfl (fun h => ?_) (fun h => ?_));
              (all_goals refine RS.pv (PV.all tab_ok rfl) rfl ?_);
              (all_goals refine RS.nil ?_))
          | (refine CS.region (id := 33) ?_)
          | (refine CS.region (id := 34) ?_;
              (first | refine RS.pv (PV.all tab_ok rfl) rfl ?_ | refine RS.pv (PV.eqlT rfl rfl (by omega)) rfl ?_ | refine RS.pv (PV.eqlF rfl rfl (by omega)) rfl ?_ | refine RS.ifEql rfl rfl rfl (fun h => ?_) (fun h => ?_) | refine RS.ifSeql rfl rfl rfl (fun h => ?_) (fun h => ?_));
              (all_goals refine RS.pv (PV.all tab_ok rfl) rfl ?_);
              (all_goals refine RS.nil ?_))
          | (refine CS.region (id := 40) ?_;
              (first | refine RS.pv (PV.lssT rfl rfl (by omega)) rfl ?_ | refine RS.pv (PV.lssF rfl rfl (by omega)) rfl ?_ | refine RS.ifLss rfl rfl rfl (fun h => ?_) (fun h => ?_));
              (all_goals refine RS.nil ?_))
          | refine CS.ret ?_
          | refine thenQ.ret ?_
          | refine blkQ.ret ?_
          | refine retQ.ret ?_
          | refine CS.block ?_
          | refine CS.exit ?_
          | refine thenQ.exit ?_
          | refine blkQ.normal ?_
          | refine blkQ.here ?_
          | refine blkQ.past rfl ?_
          | refine retQ.normal ?_)
        exact ⟨_, ps, r.tags, r.links, hS, by omega, by omega, by omega, rfl⟩
  · refine CS.perm (L' := (b3, .cells (List.toArray [.string r.path, .int .i64 r.index, (.slice p2 r.props.length q2), (.slice p3 r.tags.length q3), (.slice p4 r.links.length q4), .slice a5 r.run.length c5, .slice a6 r.load.length c6, .string r.name, .int .i64 r.priority, .string r.owner, .string r.group, .int .i64 r.mode]) 36 (0, 0)) :: (b4, .cells (List.toArray [.string ByteArray.empty, .int .i64 0, .slice none 0 0, .slice none 0 0, .slice none 0 0, .slice none 0 0, .slice none 0 0, .string ByteArray.empty, .int .i64 0, .string ByteArray.empty, .string ByteArray.empty, .int .i64 0]) 36 (0, 0)) :: (tp, tapeO lv (at_ + 1)) :: (O1 ++ (O2 ++ (O3 ++ R)))) (List.Perm.of_eq rfl) ?_
    refine CS.freezeSl (L0 := (b3, .cells (List.toArray [.string r.path, .int .i64 r.index, (.slice p2 r.props.length q2), (.slice p3 r.tags.length q3), (.slice p4 r.links.length q4), .slice a5 r.run.length c5, .slice a6 r.load.length c6, .string r.name, .int .i64 r.priority, .string r.owner, .string r.group, .int .i64 r.mode]) 36 (0, 0)) :: (b4, .cells (List.toArray [.string ByteArray.empty, .int .i64 0, .slice none 0 0, .slice none 0 0, .slice none 0 0, .slice none 0 0, .slice none 0 0, .string ByteArray.empty, .int .i64 0, .string ByteArray.empty, .string ByteArray.empty, .int .i64 0]) 36 (0, 0)) :: (tp, tapeO lv (at_ + 1)) :: (O1 ++ (O3 ++ R))) hO2 (by refine perm_of_sum _ _ fun f => ?_; simp only [List.map_append, List.map_cons, List.sum_append, List.sum_cons]; omega) (fun i7 hi7 g7 => ?_)
    clear g7 hO2
    replace g5 := g5.le hi7; replace g6 := g6.le hi7; replace hl := hl.le hi7
    repeat' (first
      | refine CS.seq ?_
      | refine thenQ.normal ?_
      | refine CS.cond_true rfl ?_
      | refine CS.cond_false rfl ?_
      | refine CS.skip ?_
      | (refine CS.region (id := 0) ?_;
          refine RS.box rfl rfl (fun b => ?_);
          refine RS.alloc tab_ok rfl rfl (fun b => ?_);
          refine RS.nil ?_)
      | (refine CS.region (id := 1) ?_;
          refine RS.pv (PV.all tab_ok rfl) rfl ?_;
          (first | refine RS.lv (LV.load tab_ok rfl (Has.own 0 rfl) rfl) rfl ?_ | refine RS.lv (LV.load tab_ok rfl (Has.own 1 rfl) rfl) rfl ?_ | refine RS.lv (LV.load tab_ok rfl (Has.own 2 rfl) rfl) rfl ?_))
      | (refine CS.region (id := 2) ?_;
          refine RS.pv (PV.all tab_ok rfl) rfl ?_;
          (first | refine RS.lv (LV.load tab_ok rfl (Has.own 0 rfl) rfl) rfl ?_ | refine RS.lv (LV.load tab_ok rfl (Has.own 1 rfl) rfl) rfl ?_ | refine RS.lv (LV.load tab_ok rfl (Has.own 2 rfl) rfl) rfl ?_))
      | (refine CS.region (id := 3) ?_;
          refine RS.pv (PV.all tab_ok rfl) rfl ?_;
          (first | refine RS.lv (LV.load tab_ok rfl (Has.own 0 rfl) rfl) rfl ?_ | refine RS.lv (LV.load tab_ok rfl (Has.own 1 rfl) rfl) rfl ?_ | refine RS.lv (LV.load tab_ok rfl (Has.own 2 rfl) rfl) rfl ?_))
      | (refine CS.region (id := 4) ?_;
          refine RS.pv (PV.all tab_ok rfl) rfl ?_)
      | (refine CS.region (id := 5) ?_;
          refine RS.pv (PV.all tab_ok rfl) rfl ?_;
          (first | refine RS.store (k := 0) tab_ok rfl rfl rfl rfl rfl rfl rfl rfl ?_ | refine RS.store (k := 1) tab_ok rfl rfl rfl rfl rfl rfl rfl rfl ?_ | refine RS.store (k := 2) tab_ok rfl rfl rfl rfl rfl rfl rfl rfl ?_);
          refine RS.nil ?_)
      | (refine CS.region (id := 6) ?_;
          refine RS.pv (PV.all tab_ok rfl) rfl ?_;
          refine RS.nil ?_)
      | (refine CS.region (id := 10) ?_;
          (first | refine RS.pv (PV.all tab_ok rfl) rfl ?_ | refine RS.pv (PV.eqlT rfl rfl (by omega)) rfl ?_ | refine RS.pv (PV.eqlF rfl rfl (by omega)) rfl ?_ | refine RS.ifEql rfl rfl rfl (fun h => ?_) (fun h => ?_) | refine RS.ifSeql rfl rfl rfl (fun h => ?_) (fun h => ?_));
          (all_goals refine RS.pv (PV.all tab_ok rfl) rfl ?_);
          (all_goals refine RS.nil ?_))
      | (refine CS.region (id := 11) ?_;
          refine RS.pv (PV.all tab_ok rfl) rfl ?_)
      | (refine CS.region (id := 12) ?_;
          (first | refine RS.pv (PV.all tab_ok rfl) rfl ?_ | refine RS.pv (PV.eqlT rfl rfl (by omega)) rfl ?_ | refine RS.pv (PV.eqlF rfl rfl (by omega)) rfl ?_ | refine RS.ifEql rfl rfl rfl (fun h => ?_) (fun h => ?_) | refine RS.ifSeql rfl rfl rfl (fun h => ?_) (fun h => ?_));
          (all_goals refine RS.pv (PV.all tab_ok rfl) rfl ?_);
          (all_goals refine RS.nil ?_))
      | (refine CS.region (id := 13) ?_)
      | (refine CS.region (id := 14) ?_;
          (first | refine RS.pv (PV.all tab_ok rfl) rfl ?_ | refine RS.pv (PV.eqlT rfl rfl (by omega)) rfl ?_ | refine RS.pv (PV.eqlF rfl rfl (by omega)) rfl ?_ | refine RS.ifEql rfl rfl rfl (fun h => ?_) (fun h => ?_) | refine RS.ifSeql rfl rfl rfl (fun h => ?_) (fun h => ?_));
          (all_goals refine RS.pv (PV.all tab_ok rfl) rfl ?_);
          (all_goals refine RS.nil ?_))
      | (refine CS.drawQ (id := 15) mix (by kernel_rfl) ?_;
          refine QS.pv (PV.all tab_ok rfl) rfl ?_;
          (first | refine QS.lv (LV.load tab_ok rfl (Has.own 0 rfl) rfl) rfl ?_ | refine QS.lv (LV.load tab_ok rfl (Has.own 1 rfl) rfl) rfl ?_ | refine QS.lv (LV.load tab_ok rfl (Has.own 2 rfl) rfl) rfl ?_);
          refine QS.pv (PV.all tab_ok rfl) rfl ?_)
      | (refine CS.region (id := 16) ?_;
          (first | refine RS.pv (PV.all tab_ok rfl) rfl ?_ | refine RS.pv (PV.eqlT rfl rfl (by omega)) rfl ?_ | refine RS.pv (PV.eqlF rfl rfl (by omega)) rfl ?_ | refine RS.ifEql rfl rfl rfl (fun h => ?_) (fun h => ?_) | refine RS.ifSeql rfl rfl rfl (fun h => ?_) (fun h => ?_));
          (all_goals refine RS.pv (PV.all tab_ok rfl) rfl ?_);
          (all_goals refine RS.nil ?_))
      | (refine CS.drawQ (id := 17) mix (by kernel_rfl) ?_;
          refine QS.pv (PV.all tab_ok rfl) rfl ?_;
          (first | refine QS.lv (LV.load tab_ok rfl (Has.own 0 rfl) rfl) rfl ?_ | refine QS.lv (LV.load tab_ok rfl (Has.own 1 rfl) rfl) rfl ?_ | refine QS.lv (LV.load tab_ok rfl (Has.own 2 rfl) rfl) rfl ?_);
          refine QS.pv (PV.all tab_ok rfl) rfl ?_)
      | (refine CS.region (id := 18) ?_;
          (first | refine RS.pv (PV.all tab_ok rfl) rfl ?_ | refine RS.pv (PV.eqlT rfl rfl (by omega)) rfl ?_ | refine RS.pv (PV.eqlF rfl rfl (by omega)) rfl ?_ | refine RS.ifEql rfl rfl rfl (fun h => ?_) (fun h => ?_) | refine RS.ifSeql rfl rfl rfl (fun h => ?_) (fun h => ?_));
          (all_goals refine RS.pv (PV.all tab_ok rfl) rfl ?_);
          (all_goals refine RS.nil ?_))
      | (refine CS.drawQ (id := 19) mix (by kernel_rfl) ?_;
          refine QS.pv (PV.all tab_ok rfl) rfl ?_;
          (first | refine QS.lv (LV.load tab_ok rfl (Has.own 0 rfl) rfl) rfl ?_ | refine QS.lv (LV.load tab_ok rfl (Has.own 1 rfl) rfl) rfl ?_ | refine QS.lv (LV.load tab_ok rfl (Has.own 2 rfl) rfl) rfl ?_);
          refine QS.pv (PV.all tab_ok rfl) rfl ?_)
      | (refine CS.region (id := 20) ?_;
          (first | refine RS.pv (PV.all tab_ok rfl) rfl ?_ | refine RS.pv (PV.eqlT rfl rfl (by omega)) rfl ?_ | refine RS.pv (PV.eqlF rfl rfl (by omega)) rfl ?_ | refine RS.ifEql rfl rfl rfl (fun h => ?_) (fun h => ?_) | refine RS.ifSeql rfl rfl rfl (fun h => ?_) (fun h => ?_));
          (all_goals refine RS.pv (PV.all tab_ok rfl) rfl ?_);
          (all_goals refine RS.nil ?_))
      | (refine CS.region (id := 21) ?_;
          refine RS.pv (PV.all tab_ok rfl) rfl ?_;
          (first | refine RS.lv (LV.load tab_ok rfl (Has.own 0 rfl) rfl) rfl ?_ | refine RS.lv (LV.load tab_ok rfl (Has.own 1 rfl) rfl) rfl ?_ | refine RS.lv (LV.load tab_ok rfl (Has.own 2 rfl) rfl) rfl ?_))
      | (refine CS.region (id := 22) ?_;
          (first | refine RS.pv (PV.all tab_ok rfl) rfl ?_ | refine RS.pv (PV.eqlT rfl rfl (by omega)) rfl ?_ | refine RS.pv (PV.eqlF rfl rfl (by omega)) rfl ?_ | refine RS.ifEql rfl rfl rfl (fun h => ?_) (fun h => ?_) | refine RS.ifSeql rfl rfl rfl (fun h => ?_) (fun h => ?_));
          (all_goals refine RS.pv (PV.all tab_ok rfl) rfl ?_);
          (all_goals refine RS.nil ?_))
      | (refine CS.region (id := 23) ?_;
          refine RS.pv (PV.all tab_ok rfl) rfl ?_;
          (first | refine RS.lv (LV.load tab_ok rfl (Has.own 0 rfl) rfl) rfl ?_ | refine RS.lv (LV.load tab_ok rfl (Has.own 1 rfl) rfl) rfl ?_ | refine RS.lv (LV.load tab_ok rfl (Has.own 2 rfl) rfl) rfl ?_))
      | (refine CS.region (id := 24) ?_;
          (first | refine RS.pv (PV.all tab_ok rfl) rfl ?_ | refine RS.pv (PV.eqlT rfl rfl (by omega)) rfl ?_ | refine RS.pv (PV.eqlF rfl rfl (by omega)) rfl ?_ | refine RS.ifEql rfl rfl rfl (fun h => ?_) (fun h => ?_) | refine RS.ifSeql rfl rfl rfl (fun h => ?_) (fun h => ?_));
          (all_goals refine RS.pv (PV.all tab_ok rfl) rfl ?_);
          (all_goals refine RS.nil ?_))
      | (refine CS.region (id := 25) ?_;
          refine RS.pv (PV.all tab_ok rfl) rfl ?_)
      | (refine CS.region (id := 26) ?_;
          (first | refine RS.pv (PV.all tab_ok rfl) rfl ?_ | refine RS.pv (PV.eqlT rfl rfl (by omega)) rfl ?_ | refine RS.pv (PV.eqlF rfl rfl (by omega)) rfl ?_ | refine RS.ifEql rfl rfl rfl (fun h => ?_) (fun h => ?_) | refine RS.ifSeql rfl rfl rfl (fun h => ?_) (fun h => ?_));
          (all_goals refine RS.pv (PV.all tab_ok rfl) rfl ?_);
          (all_goals refine RS.nil ?_))
      | (refine CS.region (id := 27) ?_)
      | (refine CS.region (id := 28) ?_;
          (first | refine RS.pv (PV.all tab_ok rfl) rfl ?_ | refine RS.pv (PV.eqlT rfl rfl (by omega)) rfl ?_ | refine RS.pv (PV.eqlF rfl rfl (by omega)) rfl ?_ | refine RS.ifEql rfl rfl rfl (fun h => ?_) (fun h => ?_) | refine RS.ifSeql rfl rfl rfl (fun h => ?_) (fun h => ?_));
          (all_goals refine RS.pv (PV.all tab_ok rfl) rfl ?_);
          (all_goals refine RS.nil ?_))
      | (refine CS.region (id := 29) ?_;
          refine RS.pv (PV.all tab_ok rfl) rfl ?_)
      | (refine CS.region (id := 30) ?_;
          (first | refine RS.pv (PV.all tab_ok rfl) rfl ?_ | refine RS.pv (PV.eqlT rfl rfl (by omega)) rfl ?_ | refine RS.pv (PV.eqlF rfl rfl (by omega)) rfl ?_ | refine RS.ifEql rfl rfl rfl (fun h => ?_) (fun h => ?_) | refine RS.ifSeql rfl rfl rfl (fun h => ?_) (fun h => ?_));
          (all_goals refine RS.pv (PV.all tab_ok rfl) rfl ?_);
          (all_goals refine RS.nil ?_))
      | (refine CS.region (id := 31) ?_;
          refine RS.pv (PV.all tab_ok rfl) rfl ?_)
      | (refine CS.region (id := 32) ?_;
          (first | refine RS.pv (PV.all tab_ok rfl) rfl ?_ | refine RS.pv (PV.eqlT rfl rfl (by omega)) rfl ?_ | refine RS.pv (PV.eqlF rfl rfl (by omega)) rfl ?_ | refine RS.ifEql rfl rfl rfl (fun h => ?_) (fun h => ?_) | refine RS.ifSeql rfl rfl rfl (fun h => ?_) (fun h => ?_));
          (all_goals refine RS.pv (PV.all tab_ok rfl) rfl ?_);
          (all_goals refine RS.nil ?_))
      | (refine CS.region (id := 33) ?_)
      | (refine CS.region (id := 34) ?_;
          (first | refine RS.pv (PV.all tab_ok rfl) rfl ?_ | refine RS.pv (PV.eqlT rfl rfl (by omega)) rfl ?_ | refine RS.pv (PV.eqlF rfl rfl (by omega)) rfl ?_ | refine RS.ifEql rfl rfl rfl (fun h => ?_) (fun h => ?_) | refine RS.ifSeql rfl rfl rfl (fun h => ?_) (fun h => ?_));
          (all_goals refine RS.pv (PV.all tab_ok rfl) rfl ?_);
          (all_goals refine RS.nil ?_))
      | refine CS.ret ?_
      | refine thenQ.ret ?_
      | refine blkQ.ret ?_
      | refine retQ.ret ?_
      | refine CS.block ?_
      | refine CS.exit ?_
      | refine thenQ.exit ?_
      | refine blkQ.normal ?_
      | refine blkQ.here ?_
      | refine blkQ.past rfl ?_
      | refine retQ.normal ?_)
    refine CS.loop [0, 3, 4, 8] (fun m vs i' L' => ∃ (j : Nat) (tags : List ByteArray), m = 17 - j ∧ j ≤ 17 ∧ tags.length = j ∧ IntSl i' lv ∧ SpH tp b3 b4 lv R (at_ + 1 + j) r.props tags r.links i' L' ∧ vs = [.pointer (some ⟨tp, 0, none⟩), .pointer (some ⟨b3, 0, none⟩), .pointer (some ⟨b4, 0, none⟩), .int .i64 (j : Int)]) 17 ⟨0, [], rfl, by omega, rfl, hl, (by rw [show at_ + 1 + ((0 : Nat) : Int) = at_ + 1 by omega]; exact ⟨_, _, _, _, _, _, _, _, _, _, _, _, _, _, _, _, _, _, _, O1, [], O3, hO1, SlO.nil 9 1, hO3, g5, g6, by omega, by omega, rfl⟩), rfl⟩ ?_
    clear hO1 hO3 g5 g6 hl
    clear O1 O2 O3 p2 p3 p4 q2 q3 q4 a5 a6 c5 c6
    rintro m g vs i' L' _ ⟨j, tags, rfl, hj, htl0, hl, hS, rfl⟩
    obtain ⟨path, index, run, load, p2, q2, p3, q3, p4, q4, p5, q5, p6, q6, name, prio, owner, group, mode, O1, O2, O3, s2, s3, s4, s5, s6, hr, hld, rfl⟩ := hS
    have ht : at_ + 1 + (j : Int) + 1 = at_ + 1 + ((j + 1 : Nat) : Int) := by omega
    obtain ⟨tx, htx, htl⟩ := bytesOf_some [.int .u8 (IntKind.u8.wrap (97 + (j : Int)))] ByteArray.empty (by intro c hc; simp at hc; exact ⟨_, hc⟩)
    obtain ⟨ty, hty⟩ : ∃ ty, (⟨#[116]⟩ : ByteArray) ++ tx = ty := ⟨_, rfl⟩
    repeat' (first
      | refine CS.seq ?_
      | refine thenQ.normal ?_
      | refine CS.cond_true rfl ?_
      | refine CS.cond_false rfl ?_
      | refine CS.skip ?_
      | (refine CS.region (id := 0) ?_;
          refine RS.box rfl rfl (fun b => ?_);
          refine RS.alloc tab_ok rfl rfl (fun b => ?_);
          refine RS.nil ?_)
      | (refine CS.region (id := 1) ?_;
          refine RS.pv (PV.all tab_ok rfl) rfl ?_;
          (first | refine RS.lv (LV.load tab_ok rfl (Has.own 0 rfl) rfl) rfl ?_ | refine RS.lv (LV.load tab_ok rfl (Has.own 1 rfl) rfl) rfl ?_ | refine RS.lv (LV.load tab_ok rfl (Has.own 2 rfl) rfl) rfl ?_))
      | (refine CS.region (id := 2) ?_;
          refine RS.pv (PV.all tab_ok rfl) rfl ?_;
          (first | refine RS.lv (LV.load tab_ok rfl (Has.own 0 rfl) rfl) rfl ?_ | refine RS.lv (LV.load tab_ok rfl (Has.own 1 rfl) rfl) rfl ?_ | refine RS.lv (LV.load tab_ok rfl (Has.own 2 rfl) rfl) rfl ?_))
      | (refine CS.region (id := 3) ?_;
          refine RS.pv (PV.all tab_ok rfl) rfl ?_;
          (first | refine RS.lv (LV.load tab_ok rfl (Has.own 0 rfl) rfl) rfl ?_ | refine RS.lv (LV.load tab_ok rfl (Has.own 1 rfl) rfl) rfl ?_ | refine RS.lv (LV.load tab_ok rfl (Has.own 2 rfl) rfl) rfl ?_))
      | (refine CS.region (id := 4) ?_;
          refine RS.pv (PV.all tab_ok rfl) rfl ?_)
      | (refine CS.region (id := 7) ?_;
          refine RS.pv (PV.all tab_ok rfl) rfl ?_;
          refine RS.pv (PV.all tab_ok rfl) rfl ?_;
          (refine RS.call (Next_s tp 2 lv (at_ + 1 + j) 3 _ _ (by omega) hl (by omega) rfl) rfl (by kernel_rfl) rfl ?_; rintro v i3 L3 hi3 ⟨⟨x1, rfl⟩, rfl, rfl⟩; have hx1 := foldI_bd x1 (n := 3) (by omega));
          (all_goals refine RS.pv (PV.add rfl rfl (by omega)) rfl ?_);
          (all_goals (first | refine RS.pv (PV.lssT rfl rfl (by omega)) rfl ?_ | refine RS.pv (PV.lssF rfl rfl (by omega)) rfl ?_ | refine RS.ifLss rfl rfl rfl (fun h => ?_) (fun h => ?_)));
          (all_goals refine RS.nil ?_))
      | (refine CS.region (id := 8) ?_;
          refine RS.pv (PV.all tab_ok rfl) rfl ?_;
          refine RS.pv (PV.add rfl rfl (by omega)) rfl ?_;
          refine RS.pv (PV.all tab_ok rfl) rfl ?_;
          refine RS.nil ?_)
      | (refine CS.region (id := 9) ?_;
          refine RS.pv (PV.all tab_ok rfl) rfl ?_;
          (first | refine RS.lv (LV.load tab_ok rfl (Has.own 0 rfl) rfl) rfl ?_ | refine RS.lv (LV.load tab_ok rfl (Has.own 1 rfl) rfl) rfl ?_ | refine RS.lv (LV.load tab_ok rfl (Has.own 2 rfl) rfl) rfl ?_);
          refine RS.pv (PV.all tab_ok rfl) rfl ?_;
          refine RS.pv (PV.add rfl rfl (by omega)) rfl ?_;
          refine RS.pv (PV.toU8 tab_ok ⟨_, rfl⟩ ⟨_, rfl, rfl⟩ rfl) rfl ?_;
          (all_goals refine RS.buildSlice tab_ok rfl rfl (fun bb => ?_));
          (all_goals (refine RS.lv (LV.bytesS tab_ok ⟨_, rfl, rfl⟩ ⟨_, rfl, rfl⟩ ⟨_, rfl, rfl⟩ rfl (Has.own 0 rfl) rfl htx) rfl ?_; refine RS.drop ?_));
          (all_goals (refine RS.pv (PV.sadd rfl rfl (by show 1 + tx.size ≤ _; rw [htl]; show 1 + (0 + 1) ≤ _; decide)) rfl ?_; rw [hty]));
          (all_goals (refine RS.buildSliceF tab_ok 1 rfl rfl rfl (fun bb2 i4 hi4 hbs2 => ?_); refine RS.perm (L' := (b3, .cells (List.toArray [.string path, .int .i64 index, .slice p2 r.props.length q2, .slice p3 tags.length q3, .slice p4 r.links.length q4, .slice p5 run.length q5, .slice p6 load.length q6, .string name, .int .i64 prio, .string owner, .string group, .int .i64 mode]) 36 (0, 0)) :: (b4, .cells (List.toArray [.string ByteArray.empty, .int .i64 0, .slice none 0 0, .slice none 0 0, .slice none 0 0, .slice none 0 0, .slice none 0 0, .string ByteArray.empty, .int .i64 0, .string ByteArray.empty, .string ByteArray.empty, .int .i64 0]) 36 (0, 0)) :: (tp, tapeO lv (at_ + 1 + j + 1)) :: (O1 ++ (O2 ++ (O3 ++ R)))) (List.Perm.of_eq rfl) ?_; refine RS.perm (L' := O2 ++ ((b3, .cells (List.toArray [.string path, .int .i64 index, .slice p2 r.props.length q2, .slice p3 tags.length q3, .slice p4 r.links.length q4, .slice p5 run.length q5, .slice p6 load.length q6, .string name, .int .i64 prio, .string owner, .string group, .int .i64 mode]) 36 (0, 0)) :: (b4, .cells (List.toArray [.string ByteArray.empty, .int .i64 0, .slice none 0 0, .slice none 0 0, .slice none 0 0, .slice none 0 0, .slice none 0 0, .string ByteArray.empty, .int .i64 0, .string ByteArray.empty, .string ByteArray.empty, .int .i64 0]) 36 (0, 0)) :: (tp, tapeO lv (at_ + 1 + j + 1)) :: (O1 ++ (O3 ++ R)))) (by refine perm_of_sum _ _ fun f => ?_; simp only [List.map_append, List.map_cons, List.sum_append, List.sum_cons]; omega) ?_));
          (all_goals (refine RS.append tab_ok (sz := 1) (bytes := 16) (k := tags.length) (m := 1) (xs := strs tags) (news := strs [ty]) rfl rfl rfl ⟨_, rfl, rfl⟩ ⟨_, rfl, rfl, rfl⟩ (by omega) s3 rfl (hbs2.rd _) (strs_one _) (by omega) (by omega) ?_; intro v' O5 hO5 hnil; clear hnil; replace hO5 := SlO.snocS hO5; obtain ⟨p7, q7, rfl⟩ := SlO.shape hO5; refine RS.perm (L' := (b3, .cells (List.toArray [.string path, .int .i64 index, .slice p2 r.props.length q2, .slice p3 tags.length q3, .slice p4 r.links.length q4, .slice p5 run.length q5, .slice p6 load.length q6, .string name, .int .i64 prio, .string owner, .string group, .int .i64 mode]) 36 (0, 0)) :: (b4, .cells (List.toArray [.string ByteArray.empty, .int .i64 0, .slice none 0 0, .slice none 0 0, .slice none 0 0, .slice none 0 0, .slice none 0 0, .string ByteArray.empty, .int .i64 0, .string ByteArray.empty, .string ByteArray.empty, .int .i64 0]) 36 (0, 0)) :: (tp, tapeO lv (at_ + 1 + j + 1)) :: (O1 ++ (O5 ++ (O3 ++ R)))) (by refine perm_of_sum _ _ fun f => ?_; simp only [List.map_append, List.map_cons, List.sum_append, List.sum_cons]; omega) ?_));
          (all_goals refine RS.pv (PV.all tab_ok rfl) rfl ?_);
          (all_goals (first | refine RS.store (k := 0) tab_ok rfl rfl rfl rfl rfl rfl rfl rfl ?_ | refine RS.store (k := 1) tab_ok rfl rfl rfl rfl rfl rfl rfl rfl ?_ | refine RS.store (k := 2) tab_ok rfl rfl rfl rfl rfl rfl rfl rfl ?_));
          (all_goals refine RS.nil ?_))
      | (refine CS.region (id := 10) ?_;
          (first | refine RS.pv (PV.all tab_ok rfl) rfl ?_ | refine RS.pv (PV.eqlT rfl rfl (by omega)) rfl ?_ | refine RS.pv (PV.eqlF rfl rfl (by omega)) rfl ?_ | refine RS.ifEql rfl rfl rfl (fun h => ?_) (fun h => ?_) | refine RS.ifSeql rfl rfl rfl (fun h => ?_) (fun h => ?_));
          (all_goals refine RS.pv (PV.all tab_ok rfl) rfl ?_);
          (all_goals refine RS.nil ?_))
      | (refine CS.region (id := 11) ?_;
          refine RS.pv (PV.all tab_ok rfl) rfl ?_)
      | (refine CS.region (id := 12) ?_;
          (first | refine RS.pv (PV.all tab_ok rfl) rfl ?_ | refine RS.pv (PV.eqlT rfl rfl (by omega)) rfl ?_ | refine RS.pv (PV.eqlF rfl rfl (by omega)) rfl ?_ | refine RS.ifEql rfl rfl rfl (fun h => ?_) (fun h => ?_) | refine RS.ifSeql rfl rfl rfl (fun h => ?_) (fun h => ?_));
          (all_goals refine RS.pv (PV.all tab_ok rfl) rfl ?_);
          (all_goals refine RS.nil ?_))
      | (refine CS.region (id := 13) ?_)
      | (refine CS.region (id := 14) ?_;
          (first | refine RS.pv (PV.all tab_ok rfl) rfl ?_ | refine RS.pv (PV.eqlT rfl rfl (by omega)) rfl ?_ | refine RS.pv (PV.eqlF rfl rfl (by omega)) rfl ?_ | refine RS.ifEql rfl rfl rfl (fun h => ?_) (fun h => ?_) | refine RS.ifSeql rfl rfl rfl (fun h => ?_) (fun h => ?_));
          (all_goals refine RS.pv (PV.all tab_ok rfl) rfl ?_);
          (all_goals refine RS.nil ?_))
      | (refine CS.drawQ (id := 15) mix (by kernel_rfl) ?_;
          refine QS.pv (PV.all tab_ok rfl) rfl ?_;
          (first | refine QS.lv (LV.load tab_ok rfl (Has.own 0 rfl) rfl) rfl ?_ | refine QS.lv (LV.load tab_ok rfl (Has.own 1 rfl) rfl) rfl ?_ | refine QS.lv (LV.load tab_ok rfl (Has.own 2 rfl) rfl) rfl ?_);
          refine QS.pv (PV.all tab_ok rfl) rfl ?_)
      | (refine CS.region (id := 16) ?_;
          (first | refine RS.pv (PV.all tab_ok rfl) rfl ?_ | refine RS.pv (PV.eqlT rfl rfl (by omega)) rfl ?_ | refine RS.pv (PV.eqlF rfl rfl (by omega)) rfl ?_ | refine RS.ifEql rfl rfl rfl (fun h => ?_) (fun h => ?_) | refine RS.ifSeql rfl rfl rfl (fun h => ?_) (fun h => ?_));
          (all_goals refine RS.pv (PV.all tab_ok rfl) rfl ?_);
          (all_goals refine RS.nil ?_))
      | (refine CS.drawQ (id := 17) mix (by kernel_rfl) ?_;
          refine QS.pv (PV.all tab_ok rfl) rfl ?_;
          (first | refine QS.lv (LV.load tab_ok rfl (Has.own 0 rfl) rfl) rfl ?_ | refine QS.lv (LV.load tab_ok rfl (Has.own 1 rfl) rfl) rfl ?_ | refine QS.lv (LV.load tab_ok rfl (Has.own 2 rfl) rfl) rfl ?_);
          refine QS.pv (PV.all tab_ok rfl) rfl ?_)
      | (refine CS.region (id := 18) ?_;
          (first | refine RS.pv (PV.all tab_ok rfl) rfl ?_ | refine RS.pv (PV.eqlT rfl rfl (by omega)) rfl ?_ | refine RS.pv (PV.eqlF rfl rfl (by omega)) rfl ?_ | refine RS.ifEql rfl rfl rfl (fun h => ?_) (fun h => ?_) | refine RS.ifSeql rfl rfl rfl (fun h => ?_) (fun h => ?_));
          (all_goals refine RS.pv (PV.all tab_ok rfl) rfl ?_);
          (all_goals refine RS.nil ?_))
      | (refine CS.drawQ (id := 19) mix (by kernel_rfl) ?_;
          refine QS.pv (PV.all tab_ok rfl) rfl ?_;
          (first | refine QS.lv (LV.load tab_ok rfl (Has.own 0 rfl) rfl) rfl ?_ | refine QS.lv (LV.load tab_ok rfl (Has.own 1 rfl) rfl) rfl ?_ | refine QS.lv (LV.load tab_ok rfl (Has.own 2 rfl) rfl) rfl ?_);
          refine QS.pv (PV.all tab_ok rfl) rfl ?_)
      | (refine CS.region (id := 20) ?_;
          (first | refine RS.pv (PV.all tab_ok rfl) rfl ?_ | refine RS.pv (PV.eqlT rfl rfl (by omega)) rfl ?_ | refine RS.pv (PV.eqlF rfl rfl (by omega)) rfl ?_ | refine RS.ifEql rfl rfl rfl (fun h => ?_) (fun h => ?_) | refine RS.ifSeql rfl rfl rfl (fun h => ?_) (fun h => ?_));
          (all_goals refine RS.pv (PV.all tab_ok rfl) rfl ?_);
          (all_goals refine RS.nil ?_))
      | (refine CS.region (id := 21) ?_;
          refine RS.pv (PV.all tab_ok rfl) rfl ?_;
          (first | refine RS.lv (LV.load tab_ok rfl (Has.own 0 rfl) rfl) rfl ?_ | refine RS.lv (LV.load tab_ok rfl (Has.own 1 rfl) rfl) rfl ?_ | refine RS.lv (LV.load tab_ok rfl (Has.own 2 rfl) rfl) rfl ?_))
      | (refine CS.region (id := 22) ?_;
          (first | refine RS.pv (PV.all tab_ok rfl) rfl ?_ | refine RS.pv (PV.eqlT rfl rfl (by omega)) rfl ?_ | refine RS.pv (PV.eqlF rfl rfl (by omega)) rfl ?_ | refine RS.ifEql rfl rfl rfl (fun h => ?_) (fun h => ?_) | refine RS.ifSeql rfl rfl rfl (fun h => ?_) (fun h => ?_));
          (all_goals refine RS.pv (PV.all tab_ok rfl) rfl ?_);
          (all_goals refine RS.nil ?_))
      | (refine CS.region (id := 23) ?_;
          refine RS.pv (PV.all tab_ok rfl) rfl ?_;
          (first | refine RS.lv (LV.load tab_ok rfl (Has.own 0 rfl) rfl) rfl ?_ | refine RS.lv (LV.load tab_ok rfl (Has.own 1 rfl) rfl) rfl ?_ | refine RS.lv (LV.load tab_ok rfl (Has.own 2 rfl) rfl) rfl ?_))
      | (refine CS.region (id := 24) ?_;
          (first | refine RS.pv (PV.all tab_ok rfl) rfl ?_ | refine RS.pv (PV.eqlT rfl rfl (by omega)) rfl ?_ | refine RS.pv (PV.eqlF rfl rfl (by omega)) rfl ?_ | refine RS.ifEql rfl rfl rfl (fun h => ?_) (fun h => ?_) | refine RS.ifSeql rfl rfl rfl (fun h => ?_) (fun h => ?_));
          (all_goals refine RS.pv (PV.all tab_ok rfl) rfl ?_);
          (all_goals refine RS.nil ?_))
      | (refine CS.region (id := 25) ?_;
          refine RS.pv (PV.all tab_ok rfl) rfl ?_)
      | (refine CS.region (id := 26) ?_;
          (first | refine RS.pv (PV.all tab_ok rfl) rfl ?_ | refine RS.pv (PV.eqlT rfl rfl (by omega)) rfl ?_ | refine RS.pv (PV.eqlF rfl rfl (by omega)) rfl ?_ | refine RS.ifEql rfl rfl rfl (fun h => ?_) (fun h => ?_) | refine RS.ifSeql rfl rfl rfl (fun h => ?_) (fun h => ?_));
          (all_goals refine RS.pv (PV.all tab_ok rfl) rfl ?_);
          (all_goals refine RS.nil ?_))
      | (refine CS.region (id := 27) ?_)
      | (refine CS.region (id := 28) ?_;
          (first | refine RS.pv (PV.all tab_ok rfl) rfl ?_ | refine RS.pv (PV.eqlT rfl rfl (by omega)) rfl ?_ | refine RS.pv (PV.eqlF rfl rfl (by omega)) rfl ?_ | refine RS.ifEql rfl rfl rfl (fun h => ?_) (fun h => ?_) | refine RS.ifSeql rfl rfl rfl (fun h => ?_) (fun h => ?_));
          (all_goals refine RS.pv (PV.all tab_ok rfl) rfl ?_);
          (all_goals refine RS.nil ?_))
      | (refine CS.region (id := 29) ?_;
          refine RS.pv (PV.all tab_ok rfl) rfl ?_)
      | (refine CS.region (id := 30) ?_;
          (first | refine RS.pv (PV.all tab_ok rfl) rfl ?_ | refine RS.pv (PV.eqlT rfl rfl (by omega)) rfl ?_ | refine RS.pv (PV.eqlF rfl rfl (by omega)) rfl ?_ | refine RS.ifEql rfl rfl rfl (fun h => ?_) (fun h => ?_) | refine RS.ifSeql rfl rfl rfl (fun h => ?_) (fun h => ?_));
          (all_goals refine RS.pv (PV.all tab_ok rfl) rfl ?_);
          (all_goals refine RS.nil ?_))
      | (refine CS.region (id := 31) ?_;
          refine RS.pv (PV.all tab_ok rfl) rfl ?_)
      | (refine CS.region (id := 32) ?_;
          (first | refine RS.pv (PV.all tab_ok rfl) rfl ?_ | refine RS.pv (PV.eqlT rfl rfl (by omega)) rfl ?_ | refine RS.pv (PV.eqlF rfl rfl (by omega)) rfl ?_ | refine RS.ifEql rfl rfl rfl (fun h => ?_) (fun h => ?_) | refine RS.ifSeql rfl rfl rfl (fun h => ?_) (fun h => ?_));
          (all_goals refine RS.pv (PV.all tab_ok rfl) rfl ?_);
          (all_goals refine RS.nil ?_))
      | (refine CS.region (id := 33) ?_)
      | (refine CS.region (id := 34) ?_;
          (first | refine RS.pv (PV.all tab_ok rfl) rfl ?_ | refine RS.pv (PV.eqlT rfl rfl (by omega)) rfl ?_ | refine RS.pv (PV.eqlF rfl rfl (by omega)) rfl ?_ | refine RS.ifEql rfl rfl rfl (fun h => ?_) (fun h => ?_) | refine RS.ifSeql rfl rfl rfl (fun h => ?_) (fun h => ?_));
          (all_goals refine RS.pv (PV.all tab_ok rfl) rfl ?_);
          (all_goals refine RS.nil ?_))
      | refine CS.ret ?_
      | refine thenQ.ret ?_
      | refine blkQ.ret ?_
      | refine retQ.ret ?_
      | refine CS.block ?_
      | refine CS.exit ?_
      | refine thenQ.exit ?_
      | refine blkQ.normal ?_
      | refine blkQ.here ?_
      | refine blkQ.past rfl ?_
      | refine retQ.normal ?_)
    · exact ⟨17 - (j + 1), by omega, j + 1, _, rfl, by omega, by rw [List.length_append, htl0]; rfl, hl.le hi4, ⟨_, _, _, _, _, _, _, _, _, _, _, _, _, _, _, _, _, _, _, O1, O5, O3, s2, hO5, s4, s5.le hi4, s6.le hi4, hr, hld, by rw [← ht]⟩, rfl⟩
    · exact ⟨_, r.props, tags, r.links, ⟨_, _, _, _, _, _, _, _, _, _, _, _, _, _, _, _, _, _, _, O1, O2, O3, s2, s3, s4, s5, s6, hr, hld, rfl⟩, by omega, by omega, by omega, rfl⟩
  · rintro fr vs i7 L7 hi7 ⟨at', props, tags, links, hS, m1, m2, m3, rfl⟩
    refine CS.unSp hS m1 m2 m3 (fun i8 rc' r' hi8 hr8 ht8 => ?_)
    obtain ⟨e2, f2, e3, f3, e4, f4, e5, f5, e6, f6, rfl⟩ := hr8.lit
    repeat' (first
      | refine CS.seq ?_
      | refine thenQ.normal ?_
      | refine CS.cond_true rfl ?_
      | refine CS.cond_false rfl ?_
      | refine CS.skip ?_
      | (refine CS.region (id := 0) ?_;
          refine RS.box rfl rfl (fun b => ?_);
          refine RS.alloc tab_ok rfl rfl (fun b => ?_);
          refine RS.nil ?_)
      | (refine CS.region (id := 1) ?_;
          refine RS.pv (PV.all tab_ok rfl) rfl ?_;
          (first | refine RS.lv (LV.load tab_ok rfl (Has.own 0 rfl) rfl) rfl ?_ | refine RS.lv (LV.load tab_ok rfl (Has.own 1 rfl) rfl) rfl ?_ | refine RS.lv (LV.load tab_ok rfl (Has.own 2 rfl) rfl) rfl ?_))
      | (refine CS.region (id := 2) ?_;
          refine RS.pv (PV.all tab_ok rfl) rfl ?_;
          (first | refine RS.lv (LV.load tab_ok rfl (Has.own 0 rfl) rfl) rfl ?_ | refine RS.lv (LV.load tab_ok rfl (Has.own 1 rfl) rfl) rfl ?_ | refine RS.lv (LV.load tab_ok rfl (Has.own 2 rfl) rfl) rfl ?_))
      | (refine CS.region (id := 3) ?_;
          refine RS.pv (PV.all tab_ok rfl) rfl ?_;
          (first | refine RS.lv (LV.load tab_ok rfl (Has.own 0 rfl) rfl) rfl ?_ | refine RS.lv (LV.load tab_ok rfl (Has.own 1 rfl) rfl) rfl ?_ | refine RS.lv (LV.load tab_ok rfl (Has.own 2 rfl) rfl) rfl ?_))
      | (refine CS.region (id := 4) ?_;
          refine RS.pv (PV.all tab_ok rfl) rfl ?_)
      | (refine CS.region (id := 47) ?_;
          (first | refine RS.lv (LV.load tab_ok rfl (Has.own 0 rfl) rfl) rfl ?_ | refine RS.lv (LV.load tab_ok rfl (Has.own 1 rfl) rfl) rfl ?_ | refine RS.lv (LV.load tab_ok rfl (Has.own 2 rfl) rfl) rfl ?_);
          (first | refine RS.store (k := 0) tab_ok rfl rfl rfl rfl rfl rfl rfl rfl ?_ | refine RS.store (k := 1) tab_ok rfl rfl rfl rfl rfl rfl rfl rfl ?_ | refine RS.store (k := 2) tab_ok rfl rfl rfl rfl rfl rfl rfl rfl ?_);
          refine RS.nil ?_)
      | refine CS.ret ?_
      | refine thenQ.ret ?_
      | refine blkQ.ret ?_
      | refine retQ.ret ?_
      | refine CS.block ?_
      | refine CS.exit ?_
      | refine thenQ.exit ?_
      | refine blkQ.normal ?_
      | refine blkQ.here ?_
      | refine blkQ.past rfl ?_
      | refine retQ.normal ?_)
    exact ⟨b4, 0, _, _, _, _, rfl, Has.own 1 rfl, rfl, _, r', at', [_, _], rfl, hr8, ht8, rfl⟩
theorem Spoilt_s (tp k : Nat) (lv : Value) (at_ : Int) (rc : List Value) (r : Rec) (i : Imm) (L : SH) (hl : IntSl i lv) (ha : 0 ≤ at_ ∧ at_ ≤ 10000000) (hr : RecV i rc r) (hn : r.props.length ≤ 7 ∧ r.tags.length ≤ 4 ∧ r.run.length ≤ 3 ∧ r.load.length ≤ 3) (hf : r.links.length ≤ 4) (hk : L[k]? = some (tp, tapeO lv (at_))) :
    FnS Try.prog 33 [.pointer (some ⟨tp, 0, none⟩), .agg rc.toArray] i L fun v i' L' => ∃ rc' r' at', v = .agg (List.toArray rc') ∧ RecV i' rc' r' ∧ r'.tame ∧ L' = L.set k (tp, tapeO lv (at')) := by
  refine (FnS.tapeK (φ := fun v i' o' => ∃ rc r at', v = .agg (List.toArray rc) ∧ RecV i' rc r ∧ r.tame ∧ o' = tapeO lv at') hk fun R => ?_).mono fun v i' L' _ ⟨o', ⟨rc, r, at', h1, h2, h3, h6⟩, h7⟩ => ⟨rc, r, at', h1, h2, h3, by rw [h7, h6]⟩
  exact (Spoilt0_s tp lv at_ rc r i R hl ha hr hn hf).mono fun v i' L' _ ⟨rc, r, at', h1, h2, h3, h6⟩ => ⟨_, ⟨rc, r, at', h1, h2, h3, rfl⟩, h6⟩
end Go.Proofs.Ytmcajldlcomegaa
