/- WorkerTicks walked. -/
import Derived.Test.YtmcajldlcomegaaW33
namespace Go.Proofs.Ytmcajldlcomegaa
open Go Go.Eng

theorem tkD_add (a b : Nat) (o : Option JobD) : tkD ((a + b : Nat) : Int) o = tkD (b : Int) (tkD (a : Int) o) := by
  cases o with
  | none => rfl
  | some j =>
    by_cases h : j.left ≤ (a : Int)
    · rw [show tkD (a : Int) (some j) = none from if_pos h]
      exact if_pos (by omega)
    · rw [show tkD (a : Int) (some j) = _ from if_neg h]
      by_cases h2 : j.left ≤ ((a + b : Nat) : Int)
      · rw [show tkD ((a + b : Nat) : Int) (some j) = none from if_pos h2]
        exact (if_pos (show j.left - (a : Int) ≤ (b : Int) by omega)).symm
      · rw [show tkD ((a + b : Nat) : Int) (some j) = _ from if_neg h2]
        rw [show tkD (b : Int) (some ⟨j.index, j.left - (a : Int), j.rcd⟩) = _ from if_neg (show ¬ j.left - (a : Int) ≤ (b : Int) by omega)]
        simp only [Option.some.injEq, JobD.mk.injEq, true_and, and_true]
        omega
theorem endAt_add (a m : Nat) (hm : 1 ≤ m) : ∀ l : List (Option JobD), l.filterMap (endAt (((a + m : Nat)) : Int)) = (l.map (tkD (a : Int))).filterMap (endAt (m : Int))
  | [] => rfl
  | o :: l => by
    have ih := endAt_add a m hm l
    have e : endAt (((a + m : Nat)) : Int) o = endAt (m : Int) (tkD (a : Int) o) := by
      cases o with
      | none => rfl
      | some j =>
        by_cases h : j.left ≤ (a : Int)
        · rw [show tkD (a : Int) (some j) = none from if_pos h]
          exact if_neg (by omega)
        · rw [show tkD (a : Int) (some j) = _ from if_neg h]
          by_cases h2 : j.left = ((a + m : Nat) : Int)
          · rw [show endAt (((a + m : Nat)) : Int) (some j) = _ from if_pos h2]
            exact (if_pos (show j.left - (a : Int) = (m : Int) by omega)).symm
          · rw [show endAt (((a + m : Nat)) : Int) (some j) = none from if_neg h2]
            exact (if_neg (show ¬ j.left - (a : Int) = (m : Int) by omega)).symm
    rw [List.map_cons, List.filterMap_cons, List.filterMap_cons, e, ih]
theorem outs_add (l : List (Option JobD)) (a : Nat) : ∀ b : Nat, outs l (a + b) = outs l a ++ outs (l.map (tkD (a : Int))) b
  | 0 => by simp [outs]
  | b + 1 => by
    rw [← Nat.add_assoc, outs_succ, outs_succ, outs_add l a b, List.append_assoc]
    congr 2
    have := endAt_add a (b + 1) (by omega) l
    rw [show (((a + (b + 1) : Nat)) : Int) = ((a + b : Nat) : Int) + 1 by omega, show ((b + 1 : Nat) : Int) = (b : Int) + 1 by omega] at this
    exact this
theorem jds_of_ods {js cs : List (Option JobP)} {nw : Nat} (h : ods js nw = ods cs nw) : jds js nw = jds cs nw := by
  rw [← rj_ods, ← rj_ods, h]
theorem Rw_one {i : Imm} {cs : List Value} {l : List JobD} (h : Rw (JobV i) cs l) : ∀ c ∈ cs, c.oneCell' = true := by
  obtain ⟨rows, rfl, h2, h3⟩ := h
  intro c hc
  obtain ⟨r, hr, hcr⟩ := List.mem_flatten.1 hc
  obtain ⟨k, hk⟩ := List.mem_iff_getElem?.1 hr
  have hlt := (List.getElem?_eq_some_iff.1 hk).1
  obtain ⟨r', h4, h5⟩ := h3 k l[k] (List.getElem?_eq_getElem (by omega))
  rw [hk] at h4; cases h4
  exact h5.one c hcr
theorem outs_ok' {i : Imm} {js : List (Option JobP)} {nw : Nat} (hp : PoolSt i js nw) (t : Nat) : ∀ j ∈ outs (ods js nw) t, j.rcd.ok := by
  intro j hj
  obtain ⟨m, _, hj⟩ := List.mem_flatMap.1 hj
  obtain ⟨o, ho, he⟩ := List.mem_filterMap.1 hj
  cases o with
  | none => cases he
  | some j' =>
    obtain ⟨o2, ho2, he2⟩ := List.mem_map.1 ho
    obtain ⟨x, rfl, rfl⟩ := Option.map_eq_some_iff.1 he2
    have := (hp.job x (List.mem_of_mem_take ho2)).2.1
    rw [show endAt ((m : Int) + 1) (some x.jd) = if x.jd.left = (m : Int) + 1 then some ⟨x.jd.index, 0, x.jd.rcd⟩ else none from rfl] at he
    split at he
    · cases he; exact this
    · cases he
theorem Ticks_s (lv : Value) (fa fb : Int) (i : Imm) (R : SH) (hl : IntSl i lv) : FnS Try.prog 8 [lv, .int .i64 fa, .int .i64 fb] i R fun v _ _ => v = .bool true := by
  obtain ⟨ao, ln, cap, rfl, hln, hcs⟩ := id hl
  clear hcs
  refine FnS.intro1 Try.func8 rfl Try.ntmps8 (by simp) Try.results8 ?_
  repeat' (first
    | refine CS.seq ?_
    | refine thenQ.normal ?_
    | refine CS.cond_true rfl ?_
    | refine CS.cond_false rfl ?_
    | refine CS.skip ?_
    | (refine CS.region (id := 0) ?_;
        refine RS.pv (PV.all tab_ok rfl) rfl ?_;
        refine RS.nil ?_)
    | (refine CS.region (id := 1) ?_;
        refine RS.pv (PV.all tab_ok rfl) rfl ?_;
        refine RS.pv (PV.all tab_ok rfl) rfl ?_;
        refine RS.box rfl rfl (fun tp => ?_);
        (all_goals refine RS.pv (PV.all tab_ok rfl) rfl ?_);
        (all_goals refine RS.nil ?_))
    | (refine CS.region (id := 2) ?_;
        refine RS.pv (PV.all tab_ok rfl) rfl ?_;
        (refine RS.call (pools_s _ (.slice ao ln cap) 0 _ _ hl (by omega)) rfl (by kernel_rfl) rfl ?_; rintro v i1 L1 hi1 ⟨p, nw, v2, rfl, hw1, hw4, hrv, rfl⟩; obtain ⟨wa, wc, rfl⟩ := hrv.shape; replace hl := hl.le hi1);
        (all_goals refine RS.pv (PV.all tab_ok rfl) rfl ?_);
        (all_goals refine RS.pv (PV.all tab_ok rfl) rfl ?_);
        (all_goals refine RS.pv (PV.all tab_ok rfl) rfl ?_);
        (all_goals refine RS.alloc tab_ok rfl rfl (fun wb => ?_));
        (all_goals refine RS.pv (PV.all tab_ok rfl) rfl ?_);
        (all_goals (first | refine RS.store (k := 0) tab_ok rfl rfl rfl rfl rfl rfl rfl rfl ?_ | refine RS.store (k := 1) tab_ok rfl rfl rfl rfl rfl rfl rfl rfl ?_ | refine RS.store (k := 2) tab_ok rfl rfl rfl rfl rfl rfl rfl rfl ?_));
        (all_goals refine RS.nil ?_))
    | (refine CS.region (id := 3) ?_;
        refine RS.pv (PV.all tab_ok rfl) rfl ?_;
        (first | refine RS.pv (PV.all tab_ok rfl) rfl ?_ | refine RS.pv (PV.eqlT rfl rfl (by omega)) rfl ?_ | refine RS.pv (PV.eqlF rfl rfl (by omega)) rfl ?_ | refine RS.ifEql rfl rfl rfl (fun h => ?_) (fun h => ?_) | refine RS.ifSeql rfl rfl rfl (fun h => ?_) (fun h => ?_));
        (all_goals refine RS.nil ?_))
    | (refine CS.region (id := 4) ?_;
        refine RS.pv (PV.all tab_ok rfl) rfl ?_;
        refine RS.nil ?_)
    | (refine CS.region (id := 5) ?_;
        refine RS.pv (PV.all tab_ok rfl) rfl ?_;
        (refine RS.call (Next_s tp 1 (.slice ao ln cap) 1 10 _ _ (by omega) hl (by omega) rfl) rfl (by kernel_rfl) rfl ?_; rintro v i4 L4 hi4 ⟨⟨x, rfl⟩, rfl, rfl⟩; have hx := foldI_bd x (n := 10) (by omega));
        (all_goals refine RS.pv (PV.all tab_ok rfl) rfl ?_);
        (all_goals refine RS.nil ?_))
    | refine CS.ret ?_
    | refine thenQ.ret ?_
    | refine blkQ.ret ?_
    | refine retQ.ret ?_
    | refine CS.block ?_
    | refine CS.exit ?_
    | refine thenQ.exit ?_
    | refine blkQ.normal ?_
    | refine blkQ.here ?_
    | refine blkQ.past rfl ?_
    | refine retQ.normal ?_)
  obtain ⟨n, hnn⟩ : ∃ n : Nat, foldI x 10 = n := ⟨(foldI x 10).toNat, by omega⟩
  rw [hnn]
  refine CS.loop [1, 2, 7, 8, 9, 10] (fun m vs i' L' => ∃ (js : List (Option JobP)) (wa : Option Addr) (wc : Nat) (at_ : Int), m ≤ 10 ∧ Both i' js nw (.agg #[.slice wa nw wc]) ∧ IntSl i' (.slice ao ln cap) ∧ 0 ≤ at_ ∧ at_ ≤ 2000 - 60 * (m : Int) ∧ vs = [.int .i64 fa, .int .i64 fb, .pointer (some ⟨tp, 0, none⟩), .pointer (some ⟨p, 0, none⟩), .pointer (some ⟨wb, 0, none⟩), .int .i64 (m : Int)] ∧ L' = (wb, .cells [.slice wa nw wc].toArray 45 (0, 0)) :: (tp, tapeO (.slice ao ln cap) (at_)) :: (poolL p (js) nw ++ R)) n ⟨List.replicate 8 none, wa, wc, 2, by omega, Both.new hw1 (by omega) hrv, hl, by omega, by omega, rfl, rfl⟩ ?_
  clear hl hrv
  clear wa wc
  rintro m fr vs i' L' hi ⟨js2, wa, wc, at_, hm, hb, hl, ha1, ha2, rfl, rfl⟩
  by_cases hm0 : 0 < m
  · repeat' (first
      | refine CS.seq ?_
      | refine thenQ.normal ?_
      | refine CS.cond_true rfl ?_
      | refine CS.cond_false rfl ?_
      | refine CS.skip ?_
      | (refine CS.region (id := 0) ?_;
          refine RS.pv (PV.all tab_ok rfl) rfl ?_;
          refine RS.nil ?_)
      | (refine CS.region (id := 1) ?_;
          refine RS.pv (PV.all tab_ok rfl) rfl ?_;
          refine RS.pv (PV.all tab_ok rfl) rfl ?_;
          refine RS.box rfl rfl (fun b => ?_);
          refine RS.pv (PV.all tab_ok rfl) rfl ?_;
          refine RS.nil ?_)
      | (refine CS.region (id := 2) ?_;
          refine RS.pv (PV.all tab_ok rfl) rfl ?_)
      | (refine CS.region (id := 3) ?_;
          refine RS.pv (PV.all tab_ok rfl) rfl ?_;
          (first | refine RS.pv (PV.all tab_ok rfl) rfl ?_ | refine RS.pv (PV.eqlT rfl rfl (by omega)) rfl ?_ | refine RS.pv (PV.eqlF rfl rfl (by omega)) rfl ?_ | refine RS.ifEql rfl rfl rfl (fun h => ?_) (fun h => ?_) | refine RS.ifSeql rfl rfl rfl (fun h => ?_) (fun h => ?_));
          (all_goals refine RS.nil ?_))
      | (refine CS.region (id := 4) ?_;
          refine RS.pv (PV.all tab_ok rfl) rfl ?_;
          refine RS.nil ?_)
      | (refine CS.region (id := 5) ?_;
          refine RS.pv (PV.all tab_ok rfl) rfl ?_)
      | (refine CS.region (id := 6) ?_;
          refine RS.pv (PV.all tab_ok rfl) rfl ?_;
          (first | refine RS.pv (PV.gtrT rfl rfl (by omega)) rfl ?_ | refine RS.pv (PV.gtrF rfl rfl (by omega)) rfl ?_ | refine RS.ifGtr rfl rfl rfl (fun h => ?_) (fun h => ?_));
          (all_goals refine RS.nil ?_))
      | (refine CS.region (id := 7) ?_;
          refine RS.pv (PV.all tab_ok rfl) rfl ?_;
          refine RS.pv (PV.sub rfl rfl (by omega)) rfl ?_;
          refine RS.pv (PV.all tab_ok rfl) rfl ?_;
          refine RS.nil ?_)
      | (refine CS.region (id := 8) ?_;
          refine RS.pv (PV.all tab_ok rfl) rfl ?_;
          refine RS.pv (PV.all tab_ok rfl) rfl ?_;
          (first | refine RS.lv (LV.load tab_ok rfl (Has.own 0 rfl) rfl) rfl ?_ | refine RS.lv (LV.load tab_ok rfl (Has.own 1 rfl) rfl) rfl ?_ | refine RS.lv (LV.load tab_ok rfl (Has.own 2 rfl) rfl) rfl ?_);
          (refine RS.call (callA_s _ tp p nw (.slice ao ln cap) _ at_ 0 js2 _ _ hl (by omega) hb) rfl (by kernel_rfl) rfl ?_; rintro v i6 L6 hi6 ⟨js', w', at', rfl, hb', ha3, ha4, rfl⟩; replace hl := hl.le hi6; obtain ⟨wa', wc', rfl⟩ := hb'.ref.shape);
          (all_goals refine RS.pv (PV.all tab_ok rfl) rfl ?_);
          (all_goals refine RS.pv (PV.all tab_ok rfl) rfl ?_);
          (all_goals refine RS.pv (PV.all tab_ok rfl) rfl ?_);
          (all_goals (first | refine RS.store (k := 0) tab_ok rfl rfl rfl rfl rfl rfl rfl rfl ?_ | refine RS.store (k := 1) tab_ok rfl rfl rfl rfl rfl rfl rfl rfl ?_ | refine RS.store (k := 2) tab_ok rfl rfl rfl rfl rfl rfl rfl rfl ?_));
          (all_goals refine RS.nil ?_))
      | refine CS.ret ?_
      | refine thenQ.ret ?_
      | refine blkQ.ret ?_
      | refine retQ.ret ?_
      | refine CS.block ?_
      | refine CS.exit ?_
      | refine thenQ.exit ?_
      | refine blkQ.normal ?_
      | refine blkQ.here ?_
      | refine blkQ.past rfl ?_
      | refine retQ.normal ?_)
    exact ⟨m - 1, by omega, js', _, _, at', by omega, hb', hl, by omega, by omega, by rw [show ((m - 1 : Nat) : Int) = (m : Int) - 1 by omega]; rfl, rfl⟩
  have hfa := foldI_bd fa (n := 12) (by omega)
  have hfb := foldI_bd fb (n := 12) (by omega)
  obtain ⟨a, hna⟩ : ∃ a : Nat, foldI fa 12 = a := ⟨(foldI fa 12).toNat, by omega⟩
  obtain ⟨b, hnb⟩ : ∃ b : Nat, foldI fb 12 = b := ⟨(foldI fb 12).toNat, by omega⟩
  repeat' (first
    | refine CS.seq ?_
    | refine thenQ.normal ?_
    | refine CS.cond_true rfl ?_
    | refine CS.cond_false rfl ?_
    | refine CS.skip ?_
    | (refine CS.region (id := 0) ?_;
        refine RS.pv (PV.all tab_ok rfl) rfl ?_;
        refine RS.nil ?_)
    | (refine CS.region (id := 1) ?_;
        refine RS.pv (PV.all tab_ok rfl) rfl ?_;
        refine RS.pv (PV.all tab_ok rfl) rfl ?_;
        refine RS.box rfl rfl (fun b => ?_);
        refine RS.pv (PV.all tab_ok rfl) rfl ?_;
        refine RS.nil ?_)
    | (refine CS.region (id := 2) ?_;
        refine RS.pv (PV.all tab_ok rfl) rfl ?_)
    | (refine CS.region (id := 3) ?_;
        refine RS.pv (PV.all tab_ok rfl) rfl ?_;
        (first | refine RS.pv (PV.all tab_ok rfl) rfl ?_ | refine RS.pv (PV.eqlT rfl rfl (by omega)) rfl ?_ | refine RS.pv (PV.eqlF rfl rfl (by omega)) rfl ?_ | refine RS.ifEql rfl rfl rfl (fun h => ?_) (fun h => ?_) | refine RS.ifSeql rfl rfl rfl (fun h => ?_) (fun h => ?_));
        (all_goals refine RS.nil ?_))
    | (refine CS.region (id := 4) ?_;
        refine RS.pv (PV.all tab_ok rfl) rfl ?_;
        refine RS.nil ?_)
    | (refine CS.region (id := 5) ?_;
        refine RS.pv (PV.all tab_ok rfl) rfl ?_)
    | (refine CS.region (id := 6) ?_;
        refine RS.pv (PV.all tab_ok rfl) rfl ?_;
        (first | refine RS.pv (PV.gtrT rfl rfl (by omega)) rfl ?_ | refine RS.pv (PV.gtrF rfl rfl (by omega)) rfl ?_ | refine RS.ifGtr rfl rfl rfl (fun h => ?_) (fun h => ?_));
        (all_goals refine RS.nil ?_))
    | (refine CS.region (id := 7) ?_;
        refine RS.pv (PV.all tab_ok rfl) rfl ?_;
        refine RS.pv (PV.sub rfl rfl (by omega)) rfl ?_;
        refine RS.pv (PV.all tab_ok rfl) rfl ?_;
        refine RS.nil ?_)
    | (refine CS.region (id := 9) ?_;
        refine RS.pv (PV.all tab_ok rfl) rfl ?_;
        (refine RS.call (Fold_s fa 12 _ _ (by omega)) rfl (by kernel_rfl) rfl ?_; rintro v i2 L2 hi2 ⟨rfl, rfl, rfl⟩; rw [hna]);
        (all_goals refine RS.pv (PV.all tab_ok rfl) rfl ?_);
        (all_goals (refine RS.call (Fold_s fb 12 _ _ (by omega)) rfl (by kernel_rfl) rfl ?_; rintro v i2 L2 hi2 ⟨rfl, rfl, rfl⟩; rw [hnb]));
        (all_goals refine RS.pv (PV.all tab_ok rfl) rfl ?_);
        (all_goals refine RS.pv (PV.all tab_ok rfl) rfl ?_);
        (all_goals refine RS.nil ?_))
    | (refine CS.region (id := 10) ?_;
        refine RS.pv (PV.all tab_ok rfl) rfl ?_;
        (refine RS.call (CopyC_s [_, _] p nw js2 _ R hb.pool) rfl (by kernel_rfl) rfl ?_; rintro v i3 L3 hi3 ⟨q, cs, rfl, hcs, hpq, rfl⟩; have hp := hb.pool.le hi3);
        (all_goals refine RS.pv (PV.all tab_ok rfl) rfl ?_);
        (all_goals refine RS.nil ?_))
    | (refine CS.region (id := 11) ?_;
        refine RS.pv (PV.all tab_ok rfl) rfl ?_;
        (first | refine RS.pv (PV.all tab_ok rfl) rfl ?_ | refine RS.pv (PV.eqlT rfl rfl (by omega)) rfl ?_ | refine RS.pv (PV.eqlF rfl rfl (by omega)) rfl ?_ | refine RS.ifEql rfl rfl rfl (fun h => ?_) (fun h => ?_) | refine RS.ifSeql rfl rfl rfl (fun h => ?_) (fun h => ?_));
        (all_goals refine RS.nil ?_))
    | (refine CS.region (id := 12) ?_;
        refine RS.pv (PV.all tab_ok rfl) rfl ?_;
        refine RS.nil ?_)
    | (refine CS.region (id := 13) ?_;
        refine RS.pv (PV.all tab_ok rfl) rfl ?_;
        refine RS.pv (PV.all tab_ok rfl) rfl ?_;
        refine RS.pv (PV.all tab_ok rfl) rfl ?_;
        (refine RS.pv (PV.add rfl rfl (by omega)) rfl ?_; rw [show (a : Int) + (b : Int) = ((a + b : Nat) : Int) by omega]);
        (all_goals (refine RS.call (TickC_s [_, _] p nw js2 (a + b) (by omega) _ _ hp) rfl (by kernel_rfl) rfl ?_; rintro v i5 L5 hi5 ⟨sx, rfl, hsx, rfl⟩; obtain ⟨xa, xc, rfl, -⟩ := id hsx));
        (all_goals refine RS.pv (PV.all tab_ok rfl) rfl ?_);
        (all_goals refine RS.pv (PV.all tab_ok rfl) rfl ?_);
        (all_goals refine RS.pv (PV.all tab_ok rfl) rfl ?_);
        (all_goals refine RS.pv (PV.all tab_ok rfl) rfl ?_);
        (all_goals refine RS.pv (PV.all tab_ok rfl) rfl ?_);
        (all_goals refine RS.nil ?_))
    | refine CS.ret ?_
    | refine thenQ.ret ?_
    | refine blkQ.ret ?_
    | refine retQ.ret ?_
    | refine CS.block ?_
    | refine CS.exit ?_
    | refine thenQ.exit ?_
    | refine blkQ.normal ?_
    | refine blkQ.here ?_
    | refine blkQ.past rfl ?_
    | refine retQ.normal ?_)
  refine CS.perm (L' := [(wb, .cells [.slice wa nw wc].toArray 45 (0, 0)), (tp, tapeO (.slice ao ln cap) (at_))] ++ (poolL q (cs) nw ++ (poolL p (js2.map (tick1 ((a + b : Nat) : Int))) nw ++ R))) (List.Perm.append_left _ (List.perm_append_comm_assoc _ _ _)) ?_
  have hpq5 := hpq.le hi5
  repeat' (first
    | refine CS.seq ?_
    | refine thenQ.normal ?_
    | refine CS.cond_true rfl ?_
    | refine CS.cond_false rfl ?_
    | refine CS.skip ?_
    | (refine CS.region (id := 0) ?_;
        refine RS.pv (PV.all tab_ok rfl) rfl ?_;
        refine RS.nil ?_)
    | (refine CS.region (id := 1) ?_;
        refine RS.pv (PV.all tab_ok rfl) rfl ?_;
        refine RS.pv (PV.all tab_ok rfl) rfl ?_;
        refine RS.box rfl rfl (fun b => ?_);
        refine RS.pv (PV.all tab_ok rfl) rfl ?_;
        refine RS.nil ?_)
    | (refine CS.region (id := 2) ?_;
        refine RS.pv (PV.all tab_ok rfl) rfl ?_)
    | (refine CS.region (id := 3) ?_;
        refine RS.pv (PV.all tab_ok rfl) rfl ?_;
        (first | refine RS.pv (PV.all tab_ok rfl) rfl ?_ | refine RS.pv (PV.eqlT rfl rfl (by omega)) rfl ?_ | refine RS.pv (PV.eqlF rfl rfl (by omega)) rfl ?_ | refine RS.ifEql rfl rfl rfl (fun h => ?_) (fun h => ?_) | refine RS.ifSeql rfl rfl rfl (fun h => ?_) (fun h => ?_));
        (all_goals refine RS.nil ?_))
    | (refine CS.region (id := 4) ?_;
        refine RS.pv (PV.all tab_ok rfl) rfl ?_;
        refine RS.nil ?_)
    | (refine CS.region (id := 5) ?_;
        refine RS.pv (PV.all tab_ok rfl) rfl ?_)
    | (refine CS.region (id := 6) ?_;
        refine RS.pv (PV.all tab_ok rfl) rfl ?_;
        (first | refine RS.pv (PV.gtrT rfl rfl (by omega)) rfl ?_ | refine RS.pv (PV.gtrF rfl rfl (by omega)) rfl ?_ | refine RS.ifGtr rfl rfl rfl (fun h => ?_) (fun h => ?_));
        (all_goals refine RS.nil ?_))
    | (refine CS.region (id := 7) ?_;
        refine RS.pv (PV.all tab_ok rfl) rfl ?_;
        refine RS.pv (PV.sub rfl rfl (by omega)) rfl ?_;
        refine RS.pv (PV.all tab_ok rfl) rfl ?_;
        refine RS.nil ?_)
    | (refine CS.region (id := 9) ?_;
        refine RS.pv (PV.all tab_ok rfl) rfl ?_)
    | (refine CS.region (id := 10) ?_;
        refine RS.pv (PV.all tab_ok rfl) rfl ?_)
    | (refine CS.region (id := 11) ?_;
        refine RS.pv (PV.all tab_ok rfl) rfl ?_;
        (first | refine RS.pv (PV.all tab_ok rfl) rfl ?_ | refine RS.pv (PV.eqlT rfl rfl (by omega)) rfl ?_ | refine RS.pv (PV.eqlF rfl rfl (by omega)) rfl ?_ | refine RS.ifEql rfl rfl rfl (fun h => ?_) (fun h => ?_) | refine RS.ifSeql rfl rfl rfl (fun h => ?_) (fun h => ?_));
        (all_goals refine RS.nil ?_))
    | (refine CS.region (id := 12) ?_;
        refine RS.pv (PV.all tab_ok rfl) rfl ?_;
        refine RS.nil ?_)
    | (refine CS.region (id := 14) ?_;
        refine RS.pv (PV.all tab_ok rfl) rfl ?_;
        refine RS.pv (PV.all tab_ok rfl) rfl ?_;
        (refine RS.call (TickC_s [_, _] q nw cs a (by omega) _ _ hpq5) rfl (by kernel_rfl) rfl ?_; rintro v i6 L6 hi6 ⟨sy, rfl, hsy, rfl⟩; obtain ⟨ya, yc, rfl, -⟩ := id hsy; have hpq6 := (hpq5.le hi6).tick (t := a) (by omega));
        (all_goals refine RS.pv (PV.all tab_ok rfl) rfl ?_);
        (all_goals refine RS.pv (PV.all tab_ok rfl) rfl ?_);
        (all_goals refine RS.pv (PV.all tab_ok rfl) rfl ?_);
        (all_goals refine RS.pv (PV.all tab_ok rfl) rfl ?_);
        (all_goals refine RS.pv (PV.all tab_ok rfl) rfl ?_);
        (all_goals refine RS.nil ?_))
    | (refine CS.region (id := 15) ?_;
        refine RS.pv (PV.all tab_ok rfl) rfl ?_;
        refine RS.pv (PV.all tab_ok rfl) rfl ?_;
        (refine RS.call (TickC_s [_, _] q nw (cs.map (tick1 (a : Int))) b (by omega) _ _ hpq6) rfl (by kernel_rfl) rfl ?_; rintro v i7 L7 hi7 ⟨sz, rfl, hsz, rfl⟩; obtain ⟨za, zc, rfl, -⟩ := id hsz; have hpq7 := (hpq6.le hi7).tick (t := b) (by omega));
        (all_goals refine RS.pv (PV.all tab_ok rfl) rfl ?_);
        (all_goals refine RS.pv (PV.all tab_ok rfl) rfl ?_);
        (all_goals refine RS.pv (PV.all tab_ok rfl) rfl ?_);
        (all_goals refine RS.pv (PV.all tab_ok rfl) rfl ?_);
        (all_goals refine RS.pv (PV.all tab_ok rfl) rfl ?_);
        (all_goals refine RS.nil ?_))
    | refine CS.ret ?_
    | refine thenQ.ret ?_
    | refine blkQ.ret ?_
    | refine retQ.ret ?_
    | refine CS.block ?_
    | refine CS.exit ?_
    | refine thenQ.exit ?_
    | refine blkQ.normal ?_
    | refine blkQ.here ?_
    | refine blkQ.past rfl ?_
    | refine retQ.normal ?_)
  have hp5 := hp.tick (t := ((a + b : Nat) : Int)) (by omega)
  have hods := ods_same hcs nw
  have hrx := ended_rw hp (a + b)
  have hry := ended_rw hpq5 a
  have hrz := ended_rw (hpq5.tick (t := (a : Int)) (by omega)) b
  have hox := outs_len hp (a + b)
  have hoy := outs_len hpq5 a
  have hoz := outs_len (hpq5.tick (t := (a : Int)) (by omega)) b
  rw [hods] at hry hoy
  rw [ods_tick, hods] at hrz hoz
  rw [outs_add] at hrx hox
  have hlx : (js2.filterMap (fin ((a + b : Nat) : Int))).length ≤ 8 := by have := List.length_filterMap_le (fin ((a + b : Nat) : Int)) js2; have := hp.len; omega
  have hly : (cs.filterMap (fin (a : Int))).length ≤ 8 := by have := List.length_filterMap_le (fin (a : Int)) cs; have := hpq.len; omega
  have hlz : ((cs.map (tick1 (a : Int))).filterMap (fin (b : Int))).length ≤ 8 := by have := List.length_filterMap_le (fin (b : Int)) (cs.map (tick1 (a : Int))); have := hpq6.len; omega
  have hok := outs_ok' hp (a + b)
  rw [outs_add] at hok
  have hsx7 := hsx.le (hi6.trans hi7)
  have hsy7 := hsy.le hi7
  have hrx7 : Rw (JobV i7) (endedC js2 (a + b)) (outs (ods js2 nw) a ++ outs ((ods js2 nw).map (tkD (a : Int))) b) := Rw.mono hrx fun r j h => JobV.le h (hi5.trans (hi6.trans hi7))
  have hry7 : Rw (JobV i7) (endedC cs a) (outs (ods js2 nw) a) := Rw.mono hry fun r j h => JobV.le h (hi6.trans hi7)
  have hrz7 : Rw (JobV i7) (endedC (cs.map (tick1 (a : Int))) b) (outs ((ods js2 nw).map (tkD (a : Int))) b) := Rw.mono hrz fun r j h => JobV.le h (hi6.trans hi7)
  have hryz := Rw.append hry7 hrz7
  have hp7 := hp5.le (hi5.trans (hi6.trans hi7))
  have hjd : jds ((cs.map (tick1 (a : Int))).map (tick1 (b : Int))) nw = jds (js2.map (tick1 ((a + b : Nat) : Int))) nw := by
    refine jds_of_ods ?_
    rw [ods_tick, ods_tick, ods_tick, hods, List.map_map]
    refine List.map_congr_left fun o _ => (tkD_add a b o).symm
  have hj8 := jds_len (js2.map (tick1 ((a + b : Nat) : Int))) nw
  clear hsx hsy hrx hry hrz
  refine CS.region (id := 16) ?_
  refine RS.pv (PV.all tab_ok rfl) rfl ?_
  (first | refine RS.pv (PV.all tab_ok rfl) rfl ?_ | refine RS.pv (PV.eqlT rfl rfl (by omega)) rfl ?_ | refine RS.pv (PV.eqlF rfl rfl (by omega)) rfl ?_ | refine RS.ifEql rfl rfl rfl (fun h => ?_) (fun h => ?_) | refine RS.ifSeql rfl rfl rfl (fun h => ?_) (fun h => ?_))
  (all_goals refine RS.pv (PV.all tab_ok rfl) rfl ?_)
  (all_goals (first | refine RS.pv (PV.all tab_ok rfl) rfl ?_ | refine RS.skip rfl ?_))
  (all_goals (first | refine RS.pv (PV.all tab_ok rfl) rfl ?_ | refine RS.pv (PV.eqlT rfl rfl (by omega)) rfl ?_ | refine RS.pv (PV.eqlF rfl rfl (by omega)) rfl ?_ | refine RS.ifEql rfl rfl rfl (fun h => ?_) (fun h => ?_) | refine RS.ifSeql rfl rfl rfl (fun h => ?_) (fun h => ?_) | refine RS.skip rfl ?_))
  (all_goals refine RS.pv (PV.all tab_ok rfl) rfl ?_)
  (all_goals refine RS.pv (PV.all tab_ok rfl) rfl ?_)
  (all_goals (first | refine RS.pv (PV.all tab_ok rfl) rfl ?_ | refine RS.skip rfl ?_))
  (all_goals (first | refine RS.pv (PV.all tab_ok rfl) rfl ?_ | refine RS.pv (PV.eqlT rfl rfl (by omega)) rfl ?_ | refine RS.pv (PV.eqlF rfl rfl (by omega)) rfl ?_ | refine RS.ifEql rfl rfl rfl (fun h => ?_) (fun h => ?_) | refine RS.ifSeql rfl rfl rfl (fun h => ?_) (fun h => ?_) | refine RS.skip rfl ?_))
  (all_goals refine RS.pv (PV.all tab_ok rfl) rfl ?_)
  (all_goals refine RS.pv (PV.all tab_ok rfl) rfl ?_)
  (all_goals (first | refine RS.pv (PV.all tab_ok rfl) rfl ?_ | refine RS.skip rfl ?_))
  (all_goals (first | refine RS.pv (PV.all tab_ok rfl) rfl ?_ | refine RS.skip rfl ?_))
  refine RS.append tab_ok (sz := 14) (bytes := 224) (k := 0) (m := (cs.filterMap (fin (a : Int))).length) (xs := []) (news := endedC cs a) rfl rfl rfl ⟨_, rfl, rfl⟩ ⟨_, rfl, rfl, rfl⟩ (by omega) (SlO.nil 41 14) rfl (hsy7.rd _) (Rw_one hry7) (by omega) (by omega) ?_
  intro v1 O1 hO1 _
  rw [Nat.zero_add, List.nil_append] at hO1
  obtain ⟨o1a, o1c, rfl⟩ := SlO.shape hO1
  (first | refine RS.pv (PV.all tab_ok rfl) rfl ?_ | refine RS.skip rfl ?_)
  refine RS.append tab_ok (sz := 14) (bytes := 224) (k := (cs.filterMap (fin (a : Int))).length) (m := ((cs.map (tick1 (a : Int))).filterMap (fin (b : Int))).length) (xs := endedC cs a) (news := endedC (cs.map (tick1 (a : Int))) b) rfl rfl rfl ⟨_, rfl, rfl⟩ ⟨_, rfl, rfl, rfl⟩ (by omega) hO1 rfl (hsz.rd _) (Rw_one hrz7) (by omega) (by omega) ?_
  intro v2 O2 hO2 _
  obtain ⟨o2a, o2c, rfl⟩ := SlO.shape hO2
  refine RS.freezeSl hO2 (List.Perm.refl _) (fun i8 hi8 hs2 => ?_)
  have hS1 := SameJobs_s _ _ (js2.filterMap (fin ((a + b : Nat) : Int))).length _ _ _ i8 ([(wb, .cells [.slice wa nw wc].toArray 45 (0, 0)), (tp, tapeO (.slice ao ln cap) (at_))] ++ (poolL q ((cs.map (tick1 (a : Int))).map (tick1 (b : Int))) nw ++ (poolL p (js2.map (tick1 ((a + b : Nat) : Int))) nw ++ R))) (hsx7.le hi8) (by rw [← hox, List.length_append, hoy, hoz]; exact hs2) (Rw.mono hrx7 fun r j h => JobV.le h hi8) (Rw.mono hryz fun r j h => JobV.le h hi8) hox.symm hok (by omega)
  refine RS.call hS1 rfl (by kernel_rfl) rfl ?_
  rintro v9 i9 L9 hi9 ⟨rfl, rfl, rfl⟩
  refine RS.pv (PV.all tab_ok rfl) rfl ?_
  refine RS.pv (PV.all tab_ok rfl) rfl ?_
  (first | refine RS.pv (PV.all tab_ok rfl) rfl ?_ | refine RS.skip rfl ?_)
  refine RS.perm (L' := [(wb, .cells [.slice wa nw wc].toArray 45 (0, 0)), (tp, tapeO (.slice ao ln cap) (at_))] ++ (poolL p (js2.map (tick1 ((a + b : Nat) : Int))) nw ++ (poolL q ((cs.map (tick1 (a : Int))).map (tick1 (b : Int))) nw ++ R))) (List.Perm.append_left _ (List.perm_append_comm_assoc _ _ _)) ?_
  refine RS.call (JobsC_s [_, _] p nw _ _ _ (hp7.le hi8)) rfl (by kernel_rfl) rfl ?_
  rintro v10 i10 L10 hi10 ⟨j1, hs10, hr10, rfl⟩
  obtain ⟨e1a, e1c, rfl, -⟩ := id hs10
  refine RS.perm (L' := [(wb, .cells [.slice wa nw wc].toArray 45 (0, 0)), (tp, tapeO (.slice ao ln cap) (at_))] ++ (poolL q ((cs.map (tick1 (a : Int))).map (tick1 (b : Int))) nw ++ (poolL p (js2.map (tick1 ((a + b : Nat) : Int))) nw ++ R))) (List.Perm.append_left _ (List.perm_append_comm_assoc _ _ _)) ?_
  (first | refine RS.pv (PV.all tab_ok rfl) rfl ?_ | refine RS.skip rfl ?_)
  refine RS.call (JobsC_s [_, _] q nw _ _ _ ((hpq7.le hi8).le hi10)) rfl (by kernel_rfl) rfl ?_
  rintro v11 i11 L11 hi11 ⟨j2, hs11, hr11, rfl⟩
  obtain ⟨e2a, e2c, rfl, -⟩ := id hs11
  replace hr11 := hr11.rw
  replace hr10 := Rw.mono hr10.rw fun r j h => JobV.le h hi11
  rw [hjd] at hs11 hr11 ⊢
  refine RS.call (SameJobs_s _ _ (jds (js2.map (tick1 ((a + b : Nat) : Int))) nw).length _ _ _ i11 _ (hs10.le hi11) hs11 hr10 hr11 rfl (jds_ok hp7) (by omega)) rfl (by kernel_rfl) rfl ?_
  rintro v12 i12 L12 hi12 ⟨rfl, rfl, rfl⟩
  refine RS.pv (PV.all tab_ok rfl) rfl ?_
  refine RS.pv (PV.all tab_ok rfl) rfl ?_
  refine RS.call (known_s _ _) rfl (by kernel_rfl) rfl ?_
  rintro v13 i13 L13 hi13 ⟨rfl, rfl⟩
  refine RS.pv (PV.all tab_ok rfl) rfl ?_
  refine RS.pv (PV.all tab_ok rfl) rfl ?_
  refine RS.nil ?_
  refine thenQ.normal ?_
  refine CS.ret ?_
  refine retQ.ret ?_
  rfl
end Go.Proofs.Ytmcajldlcomegaa
