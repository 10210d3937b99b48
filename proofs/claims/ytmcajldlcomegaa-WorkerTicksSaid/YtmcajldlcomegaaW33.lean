/- WorkerCopies walked. -/
import Derived.Test.YtmcajldlcomegaaW32
namespace Go.Proofs.Ytmcajldlcomegaa
open Go Go.Eng

theorem CopyC_s (A : SH) (p nw : Nat) (js : List (Option JobP)) (i : Imm) (R : SH) (hp : PoolSt i js nw) :
    FnS Try.prog 31 [.pointer (some ⟨p, 0, none⟩)] i (A ++ (poolL p js nw ++ R)) fun v i' L' => ∃ q cs, v = .pointer (some ⟨q, 0, none⟩) ∧ cs.map jdO = js.map jdO ∧ PoolSt i' cs nw ∧ L' = A ++ (poolL p js nw ++ (poolL q cs nw ++ R)) := by
  refine FnS.state (FnS.frame (List.perm_append_comm_assoc _ _ _) (Copy_s p nw js i (A ++ R) hp)) ?_
  rintro v i' L' w _ hs ⟨q, cs, h1, h2, h3, rfl⟩
  refine ⟨i', _, Imm.le.refl i', hs.perm ?_, q, cs, h1, h2, h3, rfl⟩
  refine perm_of_sum _ _ fun f => ?_
  simp only [List.map_append, List.sum_append]
  omega
theorem jds_same {js cs : List (Option JobP)} (h : cs.map jdO = js.map jdO) (nw : Nat) : jds cs nw = jds js nw := by
  rw [← rj_ods, ← rj_ods, ods_same h]
theorem swapPQ (a b : Nat × Obj) (A B R : SH) : (a :: b :: (A ++ (B ++ R))).Perm (a :: b :: (B ++ (A ++ R))) := .cons _ (.cons _ (List.perm_append_comm_assoc _ _ _))
theorem Copies_s (lv : Value) (i : Imm) (R : SH) (hl : IntSl i lv) : FnS Try.prog 9 [lv] i R fun v _ _ => v = .bool true := by
  obtain ⟨ao, ln, cap, rfl, hln, hcs⟩ := id hl
  clear hcs
  refine FnS.intro1 Try.func9 rfl Try.ntmps9 (by simp) Try.results9 ?_
  repeat' (first
    | refine CS.seq ?_
    | refine thenQ.normal ?_
    | refine CS.cond_true rfl ?_
    | refine CS.cond_false rfl ?_
    | refine CS.skip ?_
    | (refine CS.region (id := 0) ?_;
        refine RS.pv (PV.all tab_ok rfl) rfl ?_;
        refine RS.nil ?_)
    | (refine CS.region (id := 1) ?_;
        refine RS.pv (PV.all tab_ok rfl) rfl ?_;
        refine RS.pv (PV.all tab_ok rfl) rfl ?_;
        refine RS.box rfl rfl (fun tp => ?_);
        (all_goals refine RS.pv (PV.all tab_ok rfl) rfl ?_);
        (all_goals refine RS.nil ?_))
    | (refine CS.region (id := 2) ?_;
        refine RS.pv (PV.all tab_ok rfl) rfl ?_;
        (refine RS.call (pools_s _ (.slice ao ln cap) 0 _ _ hl (by omega)) rfl (by kernel_rfl) rfl ?_; rintro v i1 L1 hi1 ⟨p, nw, v2, rfl, hw1, hw4, hrv, rfl⟩; obtain ⟨wa, wc, rfl⟩ := hrv.shape; replace hl := hl.le hi1);
        (all_goals refine RS.pv (PV.all tab_ok rfl) rfl ?_);
        (all_goals refine RS.pv (PV.all tab_ok rfl) rfl ?_);
        (all_goals refine RS.pv (PV.all tab_ok rfl) rfl ?_);
        (all_goals refine RS.alloc tab_ok rfl rfl (fun wb => ?_));
        (all_goals refine RS.pv (PV.all tab_ok rfl) rfl ?_);
        (all_goals (first | refine RS.store (k := 0) tab_ok rfl rfl rfl rfl rfl rfl rfl rfl ?_ | refine RS.store (k := 1) tab_ok rfl rfl rfl rfl rfl rfl rfl rfl ?_ | refine RS.store (k := 2) tab_ok rfl rfl rfl rfl rfl rfl rfl rfl ?_));
        (all_goals refine RS.nil ?_))
    | (refine CS.region (id := 3) ?_;
        refine RS.pv (PV.all tab_ok rfl) rfl ?_;
        (first | refine RS.pv (PV.all tab_ok rfl) rfl ?_ | refine RS.pv (PV.eqlT rfl rfl (by omega)) rfl ?_ | refine RS.pv (PV.eqlF rfl rfl (by omega)) rfl ?_ | refine RS.ifEql rfl rfl rfl (fun h => ?_) (fun h => ?_) | refine RS.ifSeql rfl rfl rfl (fun h => ?_) (fun h => ?_));
        (all_goals refine RS.nil ?_))
    | (refine CS.region (id := 4) ?_;
        refine RS.pv (PV.all tab_ok rfl) rfl ?_;
        refine RS.nil ?_)
    | (refine CS.region (id := 5) ?_;
        refine RS.pv (PV.all tab_ok rfl) rfl ?_;
        (refine RS.call (Next_s tp 1 (.slice ao ln cap) 1 10 _ _ (by omega) hl (by omega) rfl) rfl (by kernel_rfl) rfl ?_; rintro v i4 L4 hi4 ⟨⟨x, rfl⟩, rfl, rfl⟩; have hx := foldI_bd x (n := 10) (by omega));
        (all_goals refine RS.pv (PV.all tab_ok rfl) rfl ?_);
        (all_goals refine RS.nil ?_))
    | refine CS.ret ?_
    | refine thenQ.ret ?_
    | refine blkQ.ret ?_
    | refine retQ.ret ?_
    | refine CS.block ?_
    | refine CS.exit ?_
    | refine thenQ.exit ?_
    | refine blkQ.normal ?_
    | refine blkQ.here ?_
    | refine blkQ.past rfl ?_
    | refine retQ.normal ?_)
  obtain ⟨n, hnn⟩ : ∃ n : Nat, foldI x 10 = n := ⟨(foldI x 10).toNat, by omega⟩
  rw [hnn]
  refine CS.loop [3, 4, 5, 6] (fun m vs i' L' => ∃ (js : List (Option JobP)) (wa : Option Addr) (wc : Nat) (at_ : Int), m ≤ 10 ∧ Both i' js nw (.agg #[.slice wa nw wc]) ∧ IntSl i' (.slice ao ln cap) ∧ 0 ≤ at_ ∧ at_ ≤ 2000 - 60 * (m : Int) ∧ vs = [.pointer (some ⟨tp, 0, none⟩), .pointer (some ⟨p, 0, none⟩), .pointer (some ⟨wb, 0, none⟩), .int .i64 (m : Int)] ∧ L' = (wb, .cells [.slice wa nw wc].toArray 45 (0, 0)) :: (tp, tapeO (.slice ao ln cap) (at_)) :: (poolL p (js) nw ++ R)) n ⟨List.replicate 8 none, wa, wc, 2, by omega, Both.new hw1 (by omega) hrv, hl, by omega, by omega, rfl, rfl⟩ ?_
  clear hl hrv
  clear wa wc
  rintro m fr vs i' L' hi ⟨js2, wa, wc, at_, hm, hb, hl, ha1, ha2, rfl, rfl⟩
  by_cases hm0 : 0 < m
  · repeat' (first
      | refine CS.seq ?_
      | refine thenQ.normal ?_
      | refine CS.cond_true rfl ?_
      | refine CS.cond_false rfl ?_
      | refine CS.skip ?_
      | (refine CS.region (id := 0) ?_;
          refine RS.pv (PV.all tab_ok rfl) rfl ?_;
          refine RS.nil ?_)
      | (refine CS.region (id := 1) ?_;
          refine RS.pv (PV.all tab_ok rfl) rfl ?_;
          refine RS.pv (PV.all tab_ok rfl) rfl ?_;
          refine RS.box rfl rfl (fun b => ?_);
          refine RS.pv (PV.all tab_ok rfl) rfl ?_;
          refine RS.nil ?_)
      | (refine CS.region (id := 2) ?_;
          refine RS.pv (PV.all tab_ok rfl) rfl ?_)
      | (refine CS.region (id := 3) ?_;
          refine RS.pv (PV.all tab_ok rfl) rfl ?_;
          (first | refine RS.pv (PV.all tab_ok rfl) rfl ?_ | refine RS.pv (PV.eqlT rfl rfl (by omega)) rfl ?_ | refine RS.pv (PV.eqlF rfl rfl (by omega)) rfl ?_ | refine RS.ifEql rfl rfl rfl (fun h => ?_) (fun h => ?_) | refine RS.ifSeql rfl rfl rfl (fun h => ?_) (fun h => ?_));
          (all_goals refine RS.nil ?_))
      | (refine CS.region (id := 4) ?_;
          refine RS.pv (PV.all tab_ok rfl) rfl ?_;
          refine RS.nil ?_)
      | (refine CS.region (id := 5) ?_;
          refine RS.pv (PV.all tab_ok rfl) rfl ?_)
      | (refine CS.region (id := 6) ?_;
          refine RS.pv (PV.all tab_ok rfl) rfl ?_;
          (first | refine RS.pv (PV.gtrT rfl rfl (by omega)) rfl ?_ | refine RS.pv (PV.gtrF rfl rfl (by omega)) rfl ?_ | refine RS.ifGtr rfl rfl rfl (fun h => ?_) (fun h => ?_));
          (all_goals refine RS.nil ?_))
      | (refine CS.region (id := 7) ?_;
          refine RS.pv (PV.all tab_ok rfl) rfl ?_;
          refine RS.pv (PV.sub rfl rfl (by omega)) rfl ?_;
          refine RS.pv (PV.all tab_ok rfl) rfl ?_;
          refine RS.nil ?_)
      | (refine CS.region (id := 8) ?_;
          refine RS.pv (PV.all tab_ok rfl) rfl ?_;
          refine RS.pv (PV.all tab_ok rfl) rfl ?_;
          (first | refine RS.lv (LV.load tab_ok rfl (Has.own 0 rfl) rfl) rfl ?_ | refine RS.lv (LV.load tab_ok rfl (Has.own 1 rfl) rfl) rfl ?_ | refine RS.lv (LV.load tab_ok rfl (Has.own 2 rfl) rfl) rfl ?_);
          (refine RS.call (callA_s _ tp p nw (.slice ao ln cap) _ at_ 0 js2 _ _ hl (by omega) hb) rfl (by kernel_rfl) rfl ?_; rintro v i6 L6 hi6 ⟨js', w', at', rfl, hb', ha3, ha4, rfl⟩; replace hl := hl.le hi6; obtain ⟨wa', wc', rfl⟩ := hb'.ref.shape);
          (all_goals refine RS.pv (PV.all tab_ok rfl) rfl ?_);
          (all_goals refine RS.pv (PV.all tab_ok rfl) rfl ?_);
          (all_goals refine RS.pv (PV.all tab_ok rfl) rfl ?_);
          (all_goals (first | refine RS.store (k := 0) tab_ok rfl rfl rfl rfl rfl rfl rfl rfl ?_ | refine RS.store (k := 1) tab_ok rfl rfl rfl rfl rfl rfl rfl rfl ?_ | refine RS.store (k := 2) tab_ok rfl rfl rfl rfl rfl rfl rfl rfl ?_));
          (all_goals refine RS.nil ?_))
      | refine CS.ret ?_
      | refine thenQ.ret ?_
      | refine blkQ.ret ?_
      | refine retQ.ret ?_
      | refine CS.block ?_
      | refine CS.exit ?_
      | refine thenQ.exit ?_
      | refine blkQ.normal ?_
      | refine blkQ.here ?_
      | refine blkQ.past rfl ?_
      | refine retQ.normal ?_)
    exact ⟨m - 1, by omega, js', _, _, at', by omega, hb', hl, by omega, by omega, by rw [show ((m - 1 : Nat) : Int) = (m : Int) - 1 by omega]; rfl, rfl⟩
  have hjl := jds_len js2 nw
  repeat' (first
    | refine CS.seq ?_
    | refine thenQ.normal ?_
    | refine CS.cond_true rfl ?_
    | refine CS.cond_false rfl ?_
    | refine CS.skip ?_
    | (refine CS.region (id := 0) ?_;
        refine RS.pv (PV.all tab_ok rfl) rfl ?_;
        refine RS.nil ?_)
    | (refine CS.region (id := 1) ?_;
        refine RS.pv (PV.all tab_ok rfl) rfl ?_;
        refine RS.pv (PV.all tab_ok rfl) rfl ?_;
        refine RS.box rfl rfl (fun b => ?_);
        refine RS.pv (PV.all tab_ok rfl) rfl ?_;
        refine RS.nil ?_)
    | (refine CS.region (id := 2) ?_;
        refine RS.pv (PV.all tab_ok rfl) rfl ?_)
    | (refine CS.region (id := 3) ?_;
        refine RS.pv (PV.all tab_ok rfl) rfl ?_;
        (first | refine RS.pv (PV.all tab_ok rfl) rfl ?_ | refine RS.pv (PV.eqlT rfl rfl (by omega)) rfl ?_ | refine RS.pv (PV.eqlF rfl rfl (by omega)) rfl ?_ | refine RS.ifEql rfl rfl rfl (fun h => ?_) (fun h => ?_) | refine RS.ifSeql rfl rfl rfl (fun h => ?_) (fun h => ?_));
        (all_goals refine RS.nil ?_))
    | (refine CS.region (id := 4) ?_;
        refine RS.pv (PV.all tab_ok rfl) rfl ?_;
        refine RS.nil ?_)
    | (refine CS.region (id := 5) ?_;
        refine RS.pv (PV.all tab_ok rfl) rfl ?_)
    | (refine CS.region (id := 6) ?_;
        refine RS.pv (PV.all tab_ok rfl) rfl ?_;
        (first | refine RS.pv (PV.gtrT rfl rfl (by omega)) rfl ?_ | refine RS.pv (PV.gtrF rfl rfl (by omega)) rfl ?_ | refine RS.ifGtr rfl rfl rfl (fun h => ?_) (fun h => ?_));
        (all_goals refine RS.nil ?_))
    | (refine CS.region (id := 7) ?_;
        refine RS.pv (PV.all tab_ok rfl) rfl ?_;
        refine RS.pv (PV.sub rfl rfl (by omega)) rfl ?_;
        refine RS.pv (PV.all tab_ok rfl) rfl ?_;
        refine RS.nil ?_)
    | (refine CS.region (id := 9) ?_;
        refine RS.pv (PV.all tab_ok rfl) rfl ?_;
        (refine RS.call (CopyC_s [_, _] p nw js2 _ R hb.pool) rfl (by kernel_rfl) rfl ?_; rintro v i3 L3 hi3 ⟨q, cs, rfl, hcs, hpq, rfl⟩; replace hb := hb.up hi3; replace hl := hl.le hi3);
        (all_goals refine RS.pv (PV.all tab_ok rfl) rfl ?_);
        (all_goals refine RS.nil ?_))
    | (refine CS.region (id := 10) ?_;
        refine RS.pv (PV.all tab_ok rfl) rfl ?_;
        (first | refine RS.pv (PV.all tab_ok rfl) rfl ?_ | refine RS.pv (PV.eqlT rfl rfl (by omega)) rfl ?_ | refine RS.pv (PV.eqlF rfl rfl (by omega)) rfl ?_ | refine RS.ifEql rfl rfl rfl (fun h => ?_) (fun h => ?_) | refine RS.ifSeql rfl rfl rfl (fun h => ?_) (fun h => ?_));
        (all_goals refine RS.nil ?_))
    | (refine CS.region (id := 11) ?_;
        refine RS.pv (PV.all tab_ok rfl) rfl ?_;
        refine RS.nil ?_)
    | (refine CS.region (id := 12) ?_;
        refine RS.pv (PV.all tab_ok rfl) rfl ?_;
        (refine RS.call (JobsC_s [_, _] p nw js2 _ _ hb.pool) rfl (by kernel_rfl) rfl ?_; rintro v i5 L5 hi5 ⟨jcs, hjs, hjr, rfl⟩; obtain ⟨ja, jc, rfl, -⟩ := id hjs; replace hb := hb.up hi5; replace hl := hl.le hi5; replace hpq := hpq.le hi5);
        (all_goals refine RS.pv (PV.all tab_ok rfl) rfl ?_);
        (all_goals refine RS.nil ?_))
    | (refine CS.region (id := 13) ?_;
        refine RS.pv (PV.all tab_ok rfl) rfl ?_;
        (refine RS.call (Next_s tp 1 (.slice ao ln cap) at_ 10 _ _ (by omega) hl (by omega) rfl) rfl (by kernel_rfl) rfl ?_; rintro v i4 L4 hi4 ⟨⟨y, rfl⟩, rfl, rfl⟩; have hy := foldI_bd y (n := 10) (by omega));
        (all_goals refine RS.pv (PV.all tab_ok rfl) rfl ?_);
        (all_goals refine RS.nil ?_))
    | refine CS.ret ?_
    | refine thenQ.ret ?_
    | refine blkQ.ret ?_
    | refine retQ.ret ?_
    | refine CS.block ?_
    | refine CS.exit ?_
    | refine thenQ.exit ?_
    | refine blkQ.normal ?_
    | refine blkQ.here ?_
    | refine blkQ.past rfl ?_
    | refine retQ.normal ?_)
  have hjd := jds_same hcs nw
  have hroom := hpq
  rw [← hjd] at hjs hjl
  replace hjr := hjr.rw
  rw [← hjd] at hjr
  obtain ⟨n2, hnn2⟩ : ∃ n : Nat, foldI y 10 = n := ⟨(foldI y 10).toNat, by omega⟩
  rw [hnn2]
  rw [show (jds js2 nw).length = (jds cs nw).length by rw [hjd]]
  refine CS.loop [3, 4, 5, 7, 8, 9] (fun m vs i' L' => ∃ (js2 : List (Option JobP)) (wa : Option Addr) (wc : Nat) (at_ : Int), m ≤ 10 ∧ Both i' js2 nw (.agg #[.slice wa nw wc]) ∧ PoolSt i' cs nw ∧ Sl i' (.slice ja (jds cs nw).length jc) 14 (jds cs nw).length jcs ∧ Rw (JobV i') jcs (jds cs nw) ∧ IntSl i' (.slice ao ln cap) ∧ 0 ≤ at_ ∧ at_ ≤ 4000 - 60 * (m : Int) ∧ vs = [.pointer (some ⟨tp, 0, none⟩), .pointer (some ⟨p, 0, none⟩), .pointer (some ⟨wb, 0, none⟩), .pointer (some ⟨q, 0, none⟩), .slice ja (jds cs nw).length jc, .int .i64 (m : Int)] ∧ L' = (wb, .cells [.slice wa nw wc].toArray 45 (0, 0)) :: (tp, tapeO (.slice ao ln cap) (at_)) :: (poolL p (js2) nw ++ (poolL q cs nw ++ R))) n2 ⟨js2, wa, wc, at_ + 1, by omega, hb, hpq, hjs, hjr, hl, by omega, by omega, rfl, rfl⟩ ?_
  clear hl hb hpq hjs hjr hroom
  clear hjd hcs ha1 ha2
  clear js2 wa wc at_
  rintro m2 fr2 vs i8 L8 hi8 ⟨js2, wa, wc, at_, hm2, hb, hpq, hjs, hjr, hl, ha1, ha2, rfl, rfl⟩
  by_cases hm0 : 0 < m2
  · repeat' (first
      | refine CS.seq ?_
      | refine thenQ.normal ?_
      | refine CS.cond_true rfl ?_
      | refine CS.cond_false rfl ?_
      | refine CS.skip ?_
      | (refine CS.region (id := 0) ?_;
          refine RS.pv (PV.all tab_ok rfl) rfl ?_;
          refine RS.nil ?_)
      | (refine CS.region (id := 1) ?_;
          refine RS.pv (PV.all tab_ok rfl) rfl ?_;
          refine RS.pv (PV.all tab_ok rfl) rfl ?_;
          refine RS.box rfl rfl (fun b => ?_);
          refine RS.pv (PV.all tab_ok rfl) rfl ?_;
          refine RS.nil ?_)
      | (refine CS.region (id := 2) ?_;
          refine RS.pv (PV.all tab_ok rfl) rfl ?_)
      | (refine CS.region (id := 3) ?_;
          refine RS.pv (PV.all tab_ok rfl) rfl ?_;
          (first | refine RS.pv (PV.all tab_ok rfl) rfl ?_ | refine RS.pv (PV.eqlT rfl rfl (by omega)) rfl ?_ | refine RS.pv (PV.eqlF rfl rfl (by omega)) rfl ?_ | refine RS.ifEql rfl rfl rfl (fun h => ?_) (fun h => ?_) | refine RS.ifSeql rfl rfl rfl (fun h => ?_) (fun h => ?_));
          (all_goals refine RS.nil ?_))
      | (refine CS.region (id := 4) ?_;
          refine RS.pv (PV.all tab_ok rfl) rfl ?_;
          refine RS.nil ?_)
      | (refine CS.region (id := 5) ?_;
          refine RS.pv (PV.all tab_ok rfl) rfl ?_)
      | (refine CS.region (id := 6) ?_;
          refine RS.pv (PV.all tab_ok rfl) rfl ?_;
          (first | refine RS.pv (PV.gtrT rfl rfl (by omega)) rfl ?_ | refine RS.pv (PV.gtrF rfl rfl (by omega)) rfl ?_ | refine RS.ifGtr rfl rfl rfl (fun h => ?_) (fun h => ?_));
          (all_goals refine RS.nil ?_))
      | (refine CS.region (id := 7) ?_;
          refine RS.pv (PV.all tab_ok rfl) rfl ?_;
          refine RS.pv (PV.sub rfl rfl (by omega)) rfl ?_;
          refine RS.pv (PV.all tab_ok rfl) rfl ?_;
          refine RS.nil ?_)
      | (refine CS.region (id := 8) ?_;
          refine RS.pv (PV.all tab_ok rfl) rfl ?_;
          refine RS.pv (PV.all tab_ok rfl) rfl ?_;
          (first | refine RS.lv (LV.load tab_ok rfl (Has.own 0 rfl) rfl) rfl ?_ | refine RS.lv (LV.load tab_ok rfl (Has.own 1 rfl) rfl) rfl ?_ | refine RS.lv (LV.load tab_ok rfl (Has.own 2 rfl) rfl) rfl ?_))
      | (refine CS.region (id := 9) ?_;
          refine RS.pv (PV.all tab_ok rfl) rfl ?_)
      | (refine CS.region (id := 10) ?_;
          refine RS.pv (PV.all tab_ok rfl) rfl ?_;
          (first | refine RS.pv (PV.all tab_ok rfl) rfl ?_ | refine RS.pv (PV.eqlT rfl rfl (by omega)) rfl ?_ | refine RS.pv (PV.eqlF rfl rfl (by omega)) rfl ?_ | refine RS.ifEql rfl rfl rfl (fun h => ?_) (fun h => ?_) | refine RS.ifSeql rfl rfl rfl (fun h => ?_) (fun h => ?_));
          (all_goals refine RS.nil ?_))
      | (refine CS.region (id := 11) ?_;
          refine RS.pv (PV.all tab_ok rfl) rfl ?_;
          refine RS.nil ?_)
      | (refine CS.region (id := 12) ?_;
          refine RS.pv (PV.all tab_ok rfl) rfl ?_)
      | (refine CS.region (id := 13) ?_;
          refine RS.pv (PV.all tab_ok rfl) rfl ?_)
      | (refine CS.region (id := 14) ?_;
          refine RS.pv (PV.all tab_ok rfl) rfl ?_;
          (first | refine RS.pv (PV.gtrT rfl rfl (by omega)) rfl ?_ | refine RS.pv (PV.gtrF rfl rfl (by omega)) rfl ?_ | refine RS.ifGtr rfl rfl rfl (fun h => ?_) (fun h => ?_));
          (all_goals refine RS.nil ?_))
      | (refine CS.region (id := 15) ?_;
          refine RS.pv (PV.all tab_ok rfl) rfl ?_;
          refine RS.pv (PV.sub rfl rfl (by omega)) rfl ?_;
          refine RS.pv (PV.all tab_ok rfl) rfl ?_;
          refine RS.nil ?_)
      | (refine CS.region (id := 16) ?_;
          refine RS.pv (PV.all tab_ok rfl) rfl ?_;
          refine RS.pv (PV.all tab_ok rfl) rfl ?_;
          (first | refine RS.lv (LV.load tab_ok rfl (Has.own 0 rfl) rfl) rfl ?_ | refine RS.lv (LV.load tab_ok rfl (Has.own 1 rfl) rfl) rfl ?_ | refine RS.lv (LV.load tab_ok rfl (Has.own 2 rfl) rfl) rfl ?_);
          (refine RS.call (callA_s _ tp p nw (.slice ao ln cap) _ at_ 0 js2 _ _ hl (by omega) hb) rfl (by kernel_rfl) rfl ?_; rintro v i6 L6 hi6 ⟨js', w', at', rfl, hb', ha3, ha4, rfl⟩; replace hl := hl.le hi6; obtain ⟨wa', wc', rfl⟩ := hb'.ref.shape);
          (all_goals refine RS.pv (PV.all tab_ok rfl) rfl ?_);
          (all_goals refine RS.pv (PV.all tab_ok rfl) rfl ?_);
          (all_goals refine RS.pv (PV.all tab_ok rfl) rfl ?_);
          (all_goals (first | refine RS.store (k := 0) tab_ok rfl rfl rfl rfl rfl rfl rfl rfl ?_ | refine RS.store (k := 1) tab_ok rfl rfl rfl rfl rfl rfl rfl rfl ?_ | refine RS.store (k := 2) tab_ok rfl rfl rfl rfl rfl rfl rfl rfl ?_));
          (all_goals refine RS.nil ?_))
      | refine CS.ret ?_
      | refine thenQ.ret ?_
      | refine blkQ.ret ?_
      | refine retQ.ret ?_
      | refine CS.block ?_
      | refine CS.exit ?_
      | refine thenQ.exit ?_
      | refine blkQ.normal ?_
      | refine blkQ.here ?_
      | refine blkQ.past rfl ?_
      | refine retQ.normal ?_)
    exact ⟨m2 - 1, by omega, js', _, _, at', by omega, hb', hpq.le hi6, hjs.le hi6, Rw.mono hjr fun r j h => JobV.le h hi6, hl, by omega, by omega, by rw [show ((m2 - 1 : Nat) : Int) = (m2 : Int) - 1 by omega]; rfl, rfl⟩
  repeat' (first
    | refine CS.seq ?_
    | refine thenQ.normal ?_
    | refine CS.cond_true rfl ?_
    | refine CS.cond_false rfl ?_
    | refine CS.skip ?_
    | (refine CS.region (id := 0) ?_;
        refine RS.pv (PV.all tab_ok rfl) rfl ?_;
        refine RS.nil ?_)
    | (refine CS.region (id := 1) ?_;
        refine RS.pv (PV.all tab_ok rfl) rfl ?_;
        refine RS.pv (PV.all tab_ok rfl) rfl ?_;
        refine RS.box rfl rfl (fun b => ?_);
        refine RS.pv (PV.all tab_ok rfl) rfl ?_;
        refine RS.nil ?_)
    | (refine CS.region (id := 2) ?_;
        refine RS.pv (PV.all tab_ok rfl) rfl ?_)
    | (refine CS.region (id := 3) ?_;
        refine RS.pv (PV.all tab_ok rfl) rfl ?_;
        (first | refine RS.pv (PV.all tab_ok rfl) rfl ?_ | refine RS.pv (PV.eqlT rfl rfl (by omega)) rfl ?_ | refine RS.pv (PV.eqlF rfl rfl (by omega)) rfl ?_ | refine RS.ifEql rfl rfl rfl (fun h => ?_) (fun h => ?_) | refine RS.ifSeql rfl rfl rfl (fun h => ?_) (fun h => ?_));
        (all_goals refine RS.nil ?_))
    | (refine CS.region (id := 4) ?_;
        refine RS.pv (PV.all tab_ok rfl) rfl ?_;
        refine RS.nil ?_)
    | (refine CS.region (id := 5) ?_;
        refine RS.pv (PV.all tab_ok rfl) rfl ?_)
    | (refine CS.region (id := 6) ?_;
        refine RS.pv (PV.all tab_ok rfl) rfl ?_;
        (first | refine RS.pv (PV.gtrT rfl rfl (by omega)) rfl ?_ | refine RS.pv (PV.gtrF rfl rfl (by omega)) rfl ?_ | refine RS.ifGtr rfl rfl rfl (fun h => ?_) (fun h => ?_));
        (all_goals refine RS.nil ?_))
    | (refine CS.region (id := 7) ?_;
        refine RS.pv (PV.all tab_ok rfl) rfl ?_;
        refine RS.pv (PV.sub rfl rfl (by omega)) rfl ?_;
        refine RS.pv (PV.all tab_ok rfl) rfl ?_;
        refine RS.nil ?_)
    | (refine CS.region (id := 8) ?_;
        refine RS.pv (PV.all tab_ok rfl) rfl ?_;
        refine RS.pv (PV.all tab_ok rfl) rfl ?_;
        (first | refine RS.lv (LV.load tab_ok rfl (Has.own 0 rfl) rfl) rfl ?_ | refine RS.lv (LV.load tab_ok rfl (Has.own 1 rfl) rfl) rfl ?_ | refine RS.lv (LV.load tab_ok rfl (Has.own 2 rfl) rfl) rfl ?_))
    | (refine CS.region (id := 9) ?_;
        refine RS.pv (PV.all tab_ok rfl) rfl ?_)
    | (refine CS.region (id := 10) ?_;
        refine RS.pv (PV.all tab_ok rfl) rfl ?_;
        (first | refine RS.pv (PV.all tab_ok rfl) rfl ?_ | refine RS.pv (PV.eqlT rfl rfl (by omega)) rfl ?_ | refine RS.pv (PV.eqlF rfl rfl (by omega)) rfl ?_ | refine RS.ifEql rfl rfl rfl (fun h => ?_) (fun h => ?_) | refine RS.ifSeql rfl rfl rfl (fun h => ?_) (fun h => ?_));
        (all_goals refine RS.nil ?_))
    | (refine CS.region (id := 11) ?_;
        refine RS.pv (PV.all tab_ok rfl) rfl ?_;
        refine RS.nil ?_)
    | (refine CS.region (id := 12) ?_;
        refine RS.pv (PV.all tab_ok rfl) rfl ?_)
    | (refine CS.region (id := 13) ?_;
        refine RS.pv (PV.all tab_ok rfl) rfl ?_)
    | (refine CS.region (id := 14) ?_;
        refine RS.pv (PV.all tab_ok rfl) rfl ?_;
        (first | refine RS.pv (PV.gtrT rfl rfl (by omega)) rfl ?_ | refine RS.pv (PV.gtrF rfl rfl (by omega)) rfl ?_ | refine RS.ifGtr rfl rfl rfl (fun h => ?_) (fun h => ?_));
        (all_goals refine RS.nil ?_))
    | refine CS.ret ?_
    | refine thenQ.ret ?_
    | refine blkQ.ret ?_
    | refine retQ.ret ?_
    | refine CS.block ?_
    | refine CS.exit ?_
    | refine thenQ.exit ?_
    | refine blkQ.normal ?_
    | refine blkQ.here ?_
    | refine blkQ.past rfl ?_
    | refine retQ.normal ?_)
  refine CS.perm (L' := (wb, .cells [.slice wa nw wc].toArray 45 (0, 0)) :: (tp, tapeO (.slice ao ln cap) (at_)) :: (poolL q cs nw ++ (poolL p (js2) nw ++ R))) (swapPQ _ _ _ _ _) ?_
  refine CS.draw0 mix [0, 1, 2, 3, 4, 5, 6, 7, 8, 9, 10, 11, 12, 13, 14, 15, 16, 17] [18] (by kernel_rfl) rfl ?_
  refine GS.pv (PV.all tab_ok rfl) rfl rfl rfl rfl rfl rfl ?_
  refine GS.fact0 (fun i v => ∃ ao cap cc, v = .slice ao (jds cs nw).length cap ∧ Sl i v 14 (jds cs nw).length cc ∧ Rw (JobV i) cc (jds cs nw)) (fun _ _ hi _ ⟨ao, cap, cs, h1, h2, h3⟩ => ⟨ao, cap, cs, h1, h2.le hi, Rw.mono h3 fun r j h => JobV.le h hi⟩) rfl rfl rfl rfl rfl rfl (fun i' hi => OpS.call (by kernel_rfl) rfl (JobsC_s [_, _] q nw cs _ _ (hpq.le hi)) (fun _ _ _ _ ⟨cs, hs, hr, hL⟩ => ⟨hL, by obtain ⟨ao, cap, h, _⟩ := id hs; exact ⟨ao, cap, cs, h, hs, hr.rw⟩⟩)) ?_
  (all_goals refine GS.pv (PV.all tab_ok rfl) rfl rfl rfl rfl rfl rfl ?_)
  (all_goals refine GS.valF (v := .bool true) rfl rfl rfl rfl (fun i' hi => by rintro v1 ⟨a1, c1, cs1, rfl, s1, r1⟩; exact ⟨rfl, OpS.call (by kernel_rfl) rfl (SameJobs_s _ _ (jds cs nw).length (jds cs nw) cs1 jcs _ _ s1 (hjs.le hi) r1 (Rw.mono hjr fun r j h => JobV.le h hi) rfl (jds_ok hpq) (by omega)) (fun _ _ _ _ h => ⟨h.2.2, h.1⟩)⟩) ?_)
  (all_goals refine GS.pv (PV.all tab_ok rfl) rfl rfl rfl rfl rfl rfl ?_)
  (all_goals (first | refine GS.pv (PV.all tab_ok rfl) rfl rfl rfl rfl rfl rfl ?_ | refine GS.skip rfl rfl rfl rfl rfl ?_))
  (all_goals refine GS.valF (v := .int .i64 ((nw : Int) - (jds cs nw).length)) rfl rfl rfl rfl (fun i' hi => ⟨rfl, OpS.call (by kernel_rfl) rfl (RoomC_s [_, _] q nw cs _ _ (hpq.le hi)) (fun _ _ _ _ ⟨h1, h2⟩ => ⟨h2, h1⟩)⟩) ?_)
  (all_goals (first | refine GS.pv (PV.all tab_ok rfl) rfl rfl rfl rfl rfl rfl ?_ | refine GS.skip rfl rfl rfl rfl rfl ?_))
  (all_goals (first | refine GS.lv (fun _ _ => LV.load tab_ok rfl (Has.own 0 rfl) rfl) rfl rfl rfl rfl rfl rfl ?_ | refine GS.lv (fun _ _ => LV.load tab_ok rfl (Has.own 1 rfl) rfl) rfl rfl rfl rfl rfl rfl ?_ | refine GS.lv (fun _ _ => LV.load tab_ok rfl (Has.own 2 rfl) rfl) rfl rfl rfl rfl rfl rfl ?_ | refine GS.skip rfl rfl rfl rfl rfl ?_))
  (all_goals (first | refine GS.pv (PV.lenS tab_ok rfl rfl) rfl rfl rfl rfl rfl rfl ?_ | refine GS.pv (PV.lenT tab_ok rfl rfl) rfl rfl rfl rfl rfl rfl ?_ | refine GS.skip rfl rfl rfl rfl rfl ?_))
  (all_goals (first | refine GS.pv (PV.all tab_ok rfl) rfl rfl rfl rfl rfl rfl ?_ | refine GS.skip rfl rfl rfl rfl rfl ?_))
  (all_goals (first | refine GS.pv (PV.lenS tab_ok rfl rfl) rfl rfl rfl rfl rfl rfl ?_ | refine GS.pv (PV.lenT tab_ok rfl rfl) rfl rfl rfl rfl rfl rfl ?_ | refine GS.skip rfl rfl rfl rfl rfl ?_))
  (all_goals (first | refine GS.pv (PV.sub rfl rfl (by omega)) rfl rfl rfl rfl rfl rfl ?_ | refine GS.skip rfl rfl rfl rfl rfl ?_))
  (all_goals (first | refine GS.pv (PV.all tab_ok rfl) rfl rfl rfl rfl rfl rfl ?_ | refine GS.pv (PV.eqlT rfl rfl (by omega)) rfl rfl rfl rfl rfl rfl ?_ | refine GS.pv (PV.eqlF rfl rfl (by omega)) rfl rfl rfl rfl rfl rfl ?_ | refine GS.ifEql rfl rfl rfl rfl rfl rfl rfl (fun h => ?_) (fun h => ?_) | refine GS.ifSeql rfl rfl rfl rfl rfl rfl rfl (fun h => ?_) (fun h => ?_) | refine GS.skip rfl rfl rfl rfl rfl ?_))
  (all_goals refine GS.pv (PV.all tab_ok rfl) rfl rfl rfl rfl rfl rfl ?_)
  (all_goals refine GS.pv (PV.all tab_ok rfl) rfl rfl rfl rfl rfl rfl ?_)
  (all_goals refine GS.valF (v := .bool true) rfl rfl rfl rfl (fun i' hi => ⟨rfl, OpS.call (by kernel_rfl) rfl (known_s _ _) (fun _ _ _ _ ⟨h1, h2⟩ => ⟨h2, h1⟩)⟩) ?_)
  (all_goals refine GS.pv (PV.all tab_ok rfl) rfl rfl rfl rfl rfl rfl ?_)
  refine GS.done rfl rfl (fun i5 hi5 => ?_)
  intro w1 g1
  refine RS.pv (PV.all tab_ok rfl) rfl ?_
  refine RS.nil ?_
  refine thenQ.normal ?_
  refine CS.ret ?_
  refine retQ.ret ?_
  rfl
end Go.Proofs.Ytmcajldlcomegaa
