/- WorkerPlays walked. -/
import Derived.Test.YtmcajldlcomegaaW30
namespace Go.Proofs.Ytmcajldlcomegaa
open Go Go.Eng

theorem callA_s (a : Nat × Obj) (tp p nw : Nat) (lv w : Value) (at_ raw : Int) (js : List (Option JobP)) (i : Imm) (R : SH) (hl : IntSl i lv) (ha : 0 ≤ at_ ∧ at_ ≤ 1000000) (hb : Both i js nw w) :
    FnS Try.prog 23 [.pointer (some ⟨tp, 0, none⟩), .pointer (some ⟨p, 0, none⟩), w, .int .i64 raw] i (a :: (tp, tapeO lv at_) :: (poolL p js nw ++ R)) fun v i' L' => ∃ js' w' at', v = .tuple #[w', .bool true] ∧ Both i' js' nw w' ∧ at_ ≤ at' ∧ at' ≤ at_ + 60 ∧ L' = a :: (tp, tapeO lv at') :: (poolL p js' nw ++ R) := by
  have hperm : ∀ (js : List (Option JobP)) (x : Int), (a :: (tp, tapeO lv x) :: (poolL p js nw ++ R)).Perm ((tp, tapeO lv x) :: (poolL p js nw ++ (a :: R))) := fun js x => by
    refine perm_of_sum _ _ fun f => ?_
    simp only [List.map_append, List.map_cons, List.sum_append, List.sum_cons]
    omega
  refine FnS.state (FnS.frame (hperm js at_) (call_s tp p nw lv w at_ raw js i (a :: R) hl ha hb)) ?_
  rintro v i' L' w _ hs ⟨js', w', at', h1, h2, h3, h4, rfl⟩
  exact ⟨i', _, Imm.le.refl i', hs.perm (hperm js' at').symm, js', w', at', h1, h2, h3, h4, rfl⟩
theorem jds_ok {i : Imm} {js : List (Option JobP)} {nw : Nat} (hp : PoolSt i js nw) : ∀ j ∈ jds js nw, j.rcd.ok := by
  intro j hj
  obtain ⟨o, ho, he⟩ := List.mem_filterMap.1 hj
  obtain ⟨x, rfl, rfl⟩ := Option.map_eq_some_iff.1 he
  exact (hp.job x (List.mem_of_mem_take ho)).2.1
theorem Both.new {i : Imm} {nw : Nat} {w : Value} (h1 : 1 ≤ nw) (h2 : nw ≤ 8) (h : RefV i w nw (List.replicate nw none)) : Both i (List.replicate 8 none) nw w :=
  ⟨PoolSt.new i nw h1 h2, fun x hx => by simp at hx, by
    have : ods (List.replicate 8 none) nw = List.replicate nw none := by
      unfold ods
      rw [List.take_replicate, List.map_replicate, Nat.min_eq_left h2]
      rfl
    rw [this]; exact h⟩
theorem Plays_s (lv : Value) (raw : Int) (i : Imm) (R : SH) (hl : IntSl i lv) : FnS Try.prog 5 [lv, .int .i64 raw] i R fun v _ _ => v = .bool true := by
  obtain ⟨ao, ln, cap, rfl, hln, hcs⟩ := id hl
  clear hcs
  refine FnS.intro1 Try.func5 rfl Try.ntmps5 (by simp) Try.results5 ?_
  repeat' (first
    | refine CS.seq ?_
    | refine thenQ.normal ?_
    | refine CS.cond_true rfl ?_
    | refine CS.cond_false rfl ?_
    | refine CS.skip ?_
    | (refine CS.region (id := 0) ?_;
        refine RS.pv (PV.all tab_ok rfl) rfl ?_;
        refine RS.nil ?_)
    | (refine CS.region (id := 1) ?_;
        refine RS.pv (PV.all tab_ok rfl) rfl ?_;
        refine RS.pv (PV.all tab_ok rfl) rfl ?_;
        refine RS.box rfl rfl (fun tp => ?_);
        (all_goals refine RS.pv (PV.all tab_ok rfl) rfl ?_);
        (all_goals refine RS.nil ?_))
    | (refine CS.region (id := 2) ?_;
        refine RS.pv (PV.all tab_ok rfl) rfl ?_;
        (refine RS.call (pools_s _ (.slice ao ln cap) 0 _ _ hl (by omega)) rfl (by kernel_rfl) rfl ?_; rintro v i1 L1 hi1 ⟨p, nw, v2, rfl, hw1, hw4, hrv, rfl⟩; obtain ⟨wa, wc, rfl⟩ := hrv.shape; replace hl := hl.le hi1);
        (all_goals refine RS.pv (PV.all tab_ok rfl) rfl ?_);
        (all_goals refine RS.pv (PV.all tab_ok rfl) rfl ?_);
        (all_goals refine RS.pv (PV.all tab_ok rfl) rfl ?_);
        (all_goals refine RS.alloc tab_ok rfl rfl (fun wb => ?_));
        (all_goals refine RS.pv (PV.all tab_ok rfl) rfl ?_);
        (all_goals (first | refine RS.store (k := 0) tab_ok rfl rfl rfl rfl rfl rfl rfl rfl ?_ | refine RS.store (k := 1) tab_ok rfl rfl rfl rfl rfl rfl rfl rfl ?_ | refine RS.store (k := 2) tab_ok rfl rfl rfl rfl rfl rfl rfl rfl ?_));
        (all_goals refine RS.nil ?_))
    | (refine CS.region (id := 3) ?_;
        refine RS.pv (PV.all tab_ok rfl) rfl ?_;
        (first | refine RS.pv (PV.all tab_ok rfl) rfl ?_ | refine RS.pv (PV.eqlT rfl rfl (by omega)) rfl ?_ | refine RS.pv (PV.eqlF rfl rfl (by omega)) rfl ?_ | refine RS.ifEql rfl rfl rfl (fun h => ?_) (fun h => ?_) | refine RS.ifSeql rfl rfl rfl (fun h => ?_) (fun h => ?_));
        (all_goals refine RS.nil ?_))
    | (refine CS.region (id := 4) ?_;
        refine RS.pv (PV.all tab_ok rfl) rfl ?_;
        refine RS.nil ?_)
    | (refine CS.region (id := 5) ?_;
        refine RS.pv (PV.all tab_ok rfl) rfl ?_;
        (refine RS.call (Next_s tp 1 (.slice ao ln cap) 1 24 _ _ (by omega) hl (by omega) rfl) rfl (by kernel_rfl) rfl ?_; rintro v i4 L4 hi4 ⟨⟨x, rfl⟩, rfl, rfl⟩; have hx := foldI_bd x (n := 24) (by omega));
        (all_goals refine RS.pv (PV.all tab_ok rfl) rfl ?_);
        (all_goals refine RS.nil ?_))
    | refine CS.ret ?_
    | refine thenQ.ret ?_
    | refine blkQ.ret ?_
    | refine retQ.ret ?_
    | refine CS.block ?_
    | refine CS.exit ?_
    | refine thenQ.exit ?_
    | refine blkQ.normal ?_
    | refine blkQ.here ?_
    | refine blkQ.past rfl ?_
    | refine retQ.normal ?_)
  obtain ⟨n, hnn⟩ : ∃ n : Nat, foldI x 24 = n := ⟨(foldI x 24).toNat, by omega⟩
  rw [hnn]
  refine CS.loop [1, 5, 6, 7, 8] (fun m vs i' L' => ∃ (js : List (Option JobP)) (wa : Option Addr) (wc : Nat) (at_ : Int), m ≤ 24 ∧ Both i' js nw (.agg #[.slice wa nw wc]) ∧ IntSl i' (.slice ao ln cap) ∧ 0 ≤ at_ ∧ at_ ≤ 2000 - 60 * (m : Int) ∧ vs = [.int .i64 raw, .pointer (some ⟨tp, 0, none⟩), .pointer (some ⟨p, 0, none⟩), .pointer (some ⟨wb, 0, none⟩), .int .i64 (m : Int)] ∧ L' = (wb, .cells [.slice wa nw wc].toArray 45 (0, 0)) :: (tp, tapeO (.slice ao ln cap) (at_)) :: (poolL p (js) nw ++ R)) n ⟨List.replicate 8 none, wa, wc, 2, by omega, Both.new hw1 (by omega) hrv, hl, by omega, by omega, rfl, rfl⟩ ?_
  clear hl hrv
  clear wa wc
  rintro m fr vs i' L' hi ⟨js, wa, wc, at_, hm, hb, hl, ha1, ha2, rfl, rfl⟩
  by_cases hm0 : 0 < m
  · repeat' (first
      | refine CS.seq ?_
      | refine thenQ.normal ?_
      | refine CS.cond_true rfl ?_
      | refine CS.cond_false rfl ?_
      | refine CS.skip ?_
      | (refine CS.region (id := 0) ?_;
          refine RS.pv (PV.all tab_ok rfl) rfl ?_;
          refine RS.nil ?_)
      | (refine CS.region (id := 1) ?_;
          refine RS.pv (PV.all tab_ok rfl) rfl ?_;
          refine RS.pv (PV.all tab_ok rfl) rfl ?_;
          refine RS.box rfl rfl (fun b => ?_);
          refine RS.pv (PV.all tab_ok rfl) rfl ?_;
          refine RS.nil ?_)
      | (refine CS.region (id := 2) ?_;
          refine RS.pv (PV.all tab_ok rfl) rfl ?_)
      | (refine CS.region (id := 3) ?_;
          refine RS.pv (PV.all tab_ok rfl) rfl ?_;
          (first | refine RS.pv (PV.all tab_ok rfl) rfl ?_ | refine RS.pv (PV.eqlT rfl rfl (by omega)) rfl ?_ | refine RS.pv (PV.eqlF rfl rfl (by omega)) rfl ?_ | refine RS.ifEql rfl rfl rfl (fun h => ?_) (fun h => ?_) | refine RS.ifSeql rfl rfl rfl (fun h => ?_) (fun h => ?_));
          (all_goals refine RS.nil ?_))
      | (refine CS.region (id := 4) ?_;
          refine RS.pv (PV.all tab_ok rfl) rfl ?_;
          refine RS.nil ?_)
      | (refine CS.region (id := 5) ?_;
          refine RS.pv (PV.all tab_ok rfl) rfl ?_)
      | (refine CS.region (id := 6) ?_;
          refine RS.pv (PV.all tab_ok rfl) rfl ?_;
          (first | refine RS.pv (PV.gtrT rfl rfl (by omega)) rfl ?_ | refine RS.pv (PV.gtrF rfl rfl (by omega)) rfl ?_ | refine RS.ifGtr rfl rfl rfl (fun h => ?_) (fun h => ?_));
          (all_goals refine RS.nil ?_))
      | (refine CS.region (id := 8) ?_;
          refine RS.pv (PV.all tab_ok rfl) rfl ?_;
          refine RS.pv (PV.all tab_ok rfl) rfl ?_;
          (first | refine RS.lv (LV.load tab_ok rfl (Has.own 0 rfl) rfl) rfl ?_ | refine RS.lv (LV.load tab_ok rfl (Has.own 1 rfl) rfl) rfl ?_ | refine RS.lv (LV.load tab_ok rfl (Has.own 2 rfl) rfl) rfl ?_);
          refine RS.pv (PV.all tab_ok rfl) rfl ?_;
          (refine RS.call (callA_s _ tp p nw (.slice ao ln cap) _ at_ raw js _ R hl (by omega) hb) rfl (by kernel_rfl) rfl ?_; rintro v i6 L6 hi6 ⟨js', w', at', rfl, hb', ha3, ha4, rfl⟩; replace hl := hl.le hi6; obtain ⟨wa', wc', rfl⟩ := hb'.ref.shape);
          (all_goals refine RS.pv (PV.all tab_ok rfl) rfl ?_);
          (all_goals refine RS.pv (PV.all tab_ok rfl) rfl ?_);
          (all_goals refine RS.pv (PV.all tab_ok rfl) rfl ?_);
          (all_goals refine RS.alloc tab_ok rfl rfl (fun b9 => ?_));
          (all_goals (first | refine RS.store (k := 0) tab_ok rfl rfl rfl rfl rfl rfl rfl rfl ?_ | refine RS.store (k := 1) tab_ok rfl rfl rfl rfl rfl rfl rfl rfl ?_ | refine RS.store (k := 2) tab_ok rfl rfl rfl rfl rfl rfl rfl rfl ?_));
          (all_goals refine RS.pv (PV.all tab_ok rfl) rfl ?_);
          (all_goals refine RS.nil ?_))
      | (refine CS.region (id := 9) ?_;
          (first | refine RS.lv (LV.load tab_ok rfl (Has.own 0 rfl) rfl) rfl ?_ | refine RS.lv (LV.load tab_ok rfl (Has.own 1 rfl) rfl) rfl ?_ | refine RS.lv (LV.load tab_ok rfl (Has.own 2 rfl) rfl) rfl ?_);
          refine RS.store (k := 1) tab_ok rfl rfl rfl rfl rfl rfl rfl rfl ?_;
          (all_goals refine RS.nil ?_))
      | refine CS.ret ?_
      | refine thenQ.ret ?_
      | refine blkQ.ret ?_
      | refine retQ.ret ?_
      | refine CS.block ?_
      | refine CS.exit ?_
      | refine thenQ.exit ?_
      | refine blkQ.normal ?_
      | refine blkQ.here ?_
      | refine blkQ.past rfl ?_
      | refine retQ.normal ?_)
    refine CS.drop ?_
    clear hb
    have hb := hb'
    have hjl := jds_len js' nw
    have hroom := fun i' (hi' : Imm.le i6 i') => rRoom_s (.agg #[.slice wa' nw wc']) nw (ods js' nw) i' ((wb, .cells [.slice wa' nw wc'].toArray 45 (0, 0)) :: (tp, tapeO (.slice ao ln cap) at') :: (poolL p js' nw ++ R)) (hb.up hi').refS
    have hjobs := fun i' (hi' : Imm.le i6 i') => rJobs_s (.agg #[.slice wa' nw wc']) nw (ods js' nw) i' ((wb, .cells [.slice wa' nw wc'].toArray 45 (0, 0)) :: (tp, tapeO (.slice ao ln cap) at') :: (poolL p js' nw ++ R)) (hb.up hi').refS
    rw [rj_ods] at hroom hjobs
    refine CS.draw0 mix [0, 1, 2, 3, 4, 5, 6, 7, 8, 9, 10, 11, 12, 13, 14, 15, 16] [] (by kernel_rfl) rfl ?_
    refine GS.pv (PV.all tab_ok rfl) rfl rfl rfl rfl rfl rfl ?_
    refine GS.pv (PV.all tab_ok rfl) rfl rfl rfl rfl rfl rfl ?_
    refine GS.pv (PV.all tab_ok rfl) rfl rfl rfl rfl rfl rfl ?_
    (first | refine GS.pv (PV.all tab_ok rfl) rfl rfl rfl rfl rfl rfl ?_ | refine GS.skip rfl rfl rfl rfl rfl ?_)
    refine GS.valF (v := .int .i64 ((nw : Int) - (jds js' nw).length)) rfl rfl rfl rfl (fun i' hi => ⟨rfl, OpS.call (by kernel_rfl) rfl (RoomC_s [_, _] p nw js' _ R (hb.pool.le hi)) (fun _ _ _ _ ⟨h1, h2⟩ => ⟨h2, h1⟩)⟩) ?_
    (all_goals (first | refine GS.lv (fun _ _ => LV.load tab_ok rfl (Has.own 0 rfl) rfl) rfl rfl rfl rfl rfl rfl ?_ | refine GS.lv (fun _ _ => LV.load tab_ok rfl (Has.own 1 rfl) rfl) rfl rfl rfl rfl rfl rfl ?_ | refine GS.lv (fun _ _ => LV.load tab_ok rfl (Has.own 2 rfl) rfl) rfl rfl rfl rfl rfl rfl ?_ | refine GS.skip rfl rfl rfl rfl rfl ?_))
    (all_goals refine GS.valF (v := .int .i64 ((nw : Int) - (jds js' nw).length)) rfl rfl rfl rfl (fun i' hi => ⟨rfl, OpS.call (by kernel_rfl) rfl (hroom i' hi) (fun _ _ _ _ ⟨h1, h2⟩ => ⟨h2, h1⟩)⟩) ?_)
    (all_goals (first | refine GS.pv (PV.all tab_ok rfl) rfl rfl rfl rfl rfl rfl ?_ | refine GS.pv (PV.neqT rfl rfl (by omega)) rfl rfl rfl rfl rfl rfl ?_ | refine GS.pv (PV.neqF rfl rfl (by omega)) rfl rfl rfl rfl rfl rfl ?_ | refine GS.ifNeq rfl rfl rfl rfl rfl rfl rfl (fun h => ?_) (fun h => ?_) | refine GS.ifSneq rfl rfl rfl rfl rfl rfl rfl (fun h => ?_) (fun h => ?_) | refine GS.skip rfl rfl rfl rfl rfl ?_))
    (all_goals refine GS.pv (PV.all tab_ok rfl) rfl rfl rfl rfl rfl rfl ?_)
    (all_goals refine GS.pv (PV.all tab_ok rfl) rfl rfl rfl rfl rfl rfl ?_)
    (all_goals (first | refine GS.pv (PV.all tab_ok rfl) rfl rfl rfl rfl rfl rfl ?_ | refine GS.skip rfl rfl rfl rfl rfl ?_))
    (all_goals refine GS.fact0 (fun i v => ∃ ao cap cs, v = .slice ao (jds js' nw).length cap ∧ Sl i v 14 (jds js' nw).length cs ∧ Rw (JobV i) cs (jds js' nw)) (fun _ _ hi _ ⟨ao, cap, cs, h1, h2, h3⟩ => ⟨ao, cap, cs, h1, h2.le hi, Rw.mono h3 fun r j h => JobV.le h hi⟩) rfl rfl rfl rfl rfl rfl (fun i' hi => OpS.call (by kernel_rfl) rfl (JobsC_s [_, _] p nw js' _ R (hb.pool.le hi)) (fun _ _ _ _ ⟨cs, hs, hr, hL⟩ => ⟨hL, by obtain ⟨ao, cap, h, _⟩ := id hs; exact ⟨ao, cap, cs, h, hs, hr.rw⟩⟩)) ?_)
    (all_goals (first | refine GS.lv (fun _ _ => LV.load tab_ok rfl (Has.own 0 rfl) rfl) rfl rfl rfl rfl rfl rfl ?_ | refine GS.lv (fun _ _ => LV.load tab_ok rfl (Has.own 1 rfl) rfl) rfl rfl rfl rfl rfl rfl ?_ | refine GS.lv (fun _ _ => LV.load tab_ok rfl (Has.own 2 rfl) rfl) rfl rfl rfl rfl rfl rfl ?_ | refine GS.skip rfl rfl rfl rfl rfl ?_))
    (all_goals refine GS.fact0 (fun i v => ∃ ao cap cs, v = .slice ao (jds js' nw).length cap ∧ Sl i v 14 (jds js' nw).length cs ∧ Rw (JobV i) cs (jds js' nw)) (fun _ _ hi _ ⟨ao, cap, cs, h1, h2, h3⟩ => ⟨ao, cap, cs, h1, h2.le hi, Rw.mono h3 fun r j h => JobV.le h hi⟩) rfl rfl rfl rfl rfl rfl (fun i' hi => OpS.call (by kernel_rfl) rfl (hjobs i' hi) (fun _ _ _ _ ⟨cs, hs, hr, hL⟩ => ⟨hL, by obtain ⟨ao, cap, h, _⟩ := id hs; exact ⟨ao, cap, cs, h, hs, hr⟩⟩)) ?_)
    (all_goals refine GS.valF (v := .bool true) rfl rfl rfl rfl (fun i' hi => by rintro v1 ⟨a1, c1, cs1, rfl, s1, r1⟩ v2 ⟨a2, c2, cs2, rfl, s2, r2⟩; exact ⟨rfl, OpS.call (by kernel_rfl) rfl (SameJobs_s _ _ (jds js' nw).length (jds js' nw) cs1 cs2 _ _ s1 s2 r1 r2 rfl (jds_ok hb.pool) (by omega)) (fun _ _ _ _ h => ⟨h.2.2, h.1⟩)⟩) ?_)
    (all_goals (first | refine GS.pv (PV.all tab_ok rfl) rfl rfl rfl rfl rfl rfl ?_ | refine GS.skip rfl rfl rfl rfl rfl ?_))
    (all_goals refine GS.pv (PV.all tab_ok rfl) rfl rfl rfl rfl rfl rfl ?_)
    refine GS.done rfl rfl (fun i5 hi5 => ?_)
    intro w2 g2 w1 g1
    refine RS.nil ?_
    repeat' (first
      | refine CS.seq ?_
      | refine thenQ.normal ?_
      | refine CS.cond_true rfl ?_
      | refine CS.cond_false rfl ?_
      | refine CS.skip ?_
      | (refine CS.region (id := 0) ?_;
          refine RS.pv (PV.all tab_ok rfl) rfl ?_;
          refine RS.nil ?_)
      | (refine CS.region (id := 1) ?_;
          refine RS.pv (PV.all tab_ok rfl) rfl ?_;
          refine RS.pv (PV.all tab_ok rfl) rfl ?_;
          refine RS.box rfl rfl (fun b => ?_);
          refine RS.pv (PV.all tab_ok rfl) rfl ?_;
          refine RS.nil ?_)
      | (refine CS.region (id := 2) ?_;
          refine RS.pv (PV.all tab_ok rfl) rfl ?_)
      | (refine CS.region (id := 3) ?_;
          refine RS.pv (PV.all tab_ok rfl) rfl ?_;
          (first | refine RS.pv (PV.all tab_ok rfl) rfl ?_ | refine RS.pv (PV.eqlT rfl rfl (by omega)) rfl ?_ | refine RS.pv (PV.eqlF rfl rfl (by omega)) rfl ?_ | refine RS.ifEql rfl rfl rfl (fun h => ?_) (fun h => ?_) | refine RS.ifSeql rfl rfl rfl (fun h => ?_) (fun h => ?_));
          (all_goals refine RS.nil ?_))
      | (refine CS.region (id := 4) ?_;
          refine RS.pv (PV.all tab_ok rfl) rfl ?_;
          refine RS.nil ?_)
      | (refine CS.region (id := 5) ?_;
          refine RS.pv (PV.all tab_ok rfl) rfl ?_)
      | (refine CS.region (id := 7) ?_;
          refine RS.pv (PV.all tab_ok rfl) rfl ?_;
          refine RS.pv (PV.sub rfl rfl (by omega)) rfl ?_;
          refine RS.pv (PV.all tab_ok rfl) rfl ?_;
          refine RS.nil ?_)
      | refine CS.ret ?_
      | refine thenQ.ret ?_
      | refine blkQ.ret ?_
      | refine retQ.ret ?_
      | refine CS.block ?_
      | refine CS.exit ?_
      | refine thenQ.exit ?_
      | refine blkQ.normal ?_
      | refine blkQ.here ?_
      | refine blkQ.past rfl ?_
      | refine retQ.normal ?_)
    exact ⟨m - 1, by omega, js', _, _, at', by omega, hb.up hi5, hl.le hi5, by omega, by omega, by rw [show ((m - 1 : Nat) : Int) = (m : Int) - 1 by omega]; rfl, rfl⟩
  · repeat' (first
      | refine CS.seq ?_
      | refine thenQ.normal ?_
      | refine CS.cond_true rfl ?_
      | refine CS.cond_false rfl ?_
      | refine CS.skip ?_
      | (refine CS.region (id := 0) ?_;
          refine RS.pv (PV.all tab_ok rfl) rfl ?_;
          refine RS.nil ?_)
      | (refine CS.region (id := 1) ?_;
          refine RS.pv (PV.all tab_ok rfl) rfl ?_;
          refine RS.pv (PV.all tab_ok rfl) rfl ?_;
          refine RS.box rfl rfl (fun b => ?_);
          refine RS.pv (PV.all tab_ok rfl) rfl ?_;
          refine RS.nil ?_)
      | (refine CS.region (id := 2) ?_;
          refine RS.pv (PV.all tab_ok rfl) rfl ?_)
      | (refine CS.region (id := 3) ?_;
          refine RS.pv (PV.all tab_ok rfl) rfl ?_;
          (first | refine RS.pv (PV.all tab_ok rfl) rfl ?_ | refine RS.pv (PV.eqlT rfl rfl (by omega)) rfl ?_ | refine RS.pv (PV.eqlF rfl rfl (by omega)) rfl ?_ | refine RS.ifEql rfl rfl rfl (fun h => ?_) (fun h => ?_) | refine RS.ifSeql rfl rfl rfl (fun h => ?_) (fun h => ?_));
          (all_goals refine RS.nil ?_))
      | (refine CS.region (id := 4) ?_;
          refine RS.pv (PV.all tab_ok rfl) rfl ?_;
          refine RS.nil ?_)
      | (refine CS.region (id := 5) ?_;
          refine RS.pv (PV.all tab_ok rfl) rfl ?_)
      | (refine CS.region (id := 6) ?_;
          refine RS.pv (PV.all tab_ok rfl) rfl ?_;
          (first | refine RS.pv (PV.gtrT rfl rfl (by omega)) rfl ?_ | refine RS.pv (PV.gtrF rfl rfl (by omega)) rfl ?_ | refine RS.ifGtr rfl rfl rfl (fun h => ?_) (fun h => ?_));
          (all_goals refine RS.nil ?_))
      | (refine CS.region (id := 12) ?_;
          (refine RS.call (known_s _ _) rfl (by kernel_rfl) rfl ?_; rintro v i8 L8 hi8 ⟨rfl, rfl⟩);
          (all_goals refine RS.pv (PV.all tab_ok rfl) rfl ?_);
          (all_goals refine RS.nil ?_))
      | refine CS.ret ?_
      | refine thenQ.ret ?_
      | refine blkQ.ret ?_
      | refine retQ.ret ?_
      | refine CS.block ?_
      | refine CS.exit ?_
      | refine thenQ.exit ?_
      | refine blkQ.normal ?_
      | refine blkQ.here ?_
      | refine blkQ.past rfl ?_
      | refine retQ.normal ?_)
    rfl
end Go.Proofs.Ytmcajldlcomegaa
