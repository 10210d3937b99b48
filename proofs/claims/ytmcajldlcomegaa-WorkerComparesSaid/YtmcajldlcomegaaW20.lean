/- WorkerKeeps walked. -/
import Derived.Test.YtmcajldlcomegaaW19
namespace Go.Proofs.Ytmcajldlcomegaa
open Go Go.Eng

theorem Keeps_s (lv : Value) (i : Imm) (R : SH) (hl : IntSl i lv) : FnS Try.prog 7 [lv] i R fun v _ _ => v = .bool true := by
  have hl0 := hl
  obtain ⟨ao, ln, cap, rfl, hln, hcs⟩ := hl0
  clear hcs
  refine FnS.intro1 Try.func7 rfl Try.ntmps7 (by simp) Try.results7 ?_
  repeat' (first
    | refine CS.seq ?_
    | refine thenQ.normal ?_
    | refine CS.cond_true rfl ?_
    | refine CS.cond_false rfl ?_
    | refine CS.skip ?_
    | (refine CS.region (id := 0) ?_;
        refine RS.pv (PV.all tab_ok rfl) rfl ?_;
        refine RS.nil ?_)
    | (refine CS.region (id := 1) ?_;
        refine RS.pv (PV.all tab_ok rfl) rfl ?_;
        refine RS.pv (PV.all tab_ok rfl) rfl ?_;
        refine RS.box rfl rfl (fun b => ?_);
        refine RS.pv (PV.all tab_ok rfl) rfl ?_;
        refine RS.nil ?_)
    | (refine CS.region (id := 2) ?_;
        refine RS.pv (PV.all tab_ok rfl) rfl ?_;
        (refine RS.call (pools_s _ (.slice ao ln cap) 0 _ _ hl (by omega)) rfl (by kernel_rfl) rfl ?_; rintro v i1 L1 hi1 ⟨p, nw, v2, rfl, hw1, hw4, hrv, rfl⟩; obtain ⟨ra, rc, rfl⟩ := hrv.shape);
        (all_goals refine RS.pv (PV.all tab_ok rfl) rfl ?_);
        (all_goals refine RS.pv (PV.all tab_ok rfl) rfl ?_);
        (all_goals refine RS.pv (PV.all tab_ok rfl) rfl ?_);
        (all_goals refine RS.alloc tab_ok rfl rfl (fun b => ?_));
        (all_goals refine RS.pv (PV.all tab_ok rfl) rfl ?_);
        (all_goals (first | refine RS.store (k := 0) tab_ok rfl rfl rfl rfl rfl rfl rfl rfl ?_ | refine RS.store (k := 1) tab_ok rfl rfl rfl rfl rfl rfl rfl rfl ?_ | refine RS.store (k := 2) tab_ok rfl rfl rfl rfl rfl rfl rfl rfl ?_));
        (all_goals refine RS.nil ?_))
    | (refine CS.region (id := 3) ?_;
        refine RS.pv (PV.all tab_ok rfl) rfl ?_;
        (first | refine RS.pv (PV.all tab_ok rfl) rfl ?_ | refine RS.pv (PV.eqlT rfl rfl (by omega)) rfl ?_ | refine RS.pv (PV.eqlF rfl rfl (by omega)) rfl ?_ | refine RS.ifEql rfl rfl rfl (fun h => ?_) (fun h => ?_) | refine RS.ifSeql rfl rfl rfl (fun h => ?_) (fun h => ?_));
        (all_goals refine RS.nil ?_))
    | (refine CS.region (id := 4) ?_;
        refine RS.pv (PV.all tab_ok rfl) rfl ?_;
        refine RS.nil ?_)
    | (refine CS.region (id := 5) ?_;
        refine RS.pv (PV.all tab_ok rfl) rfl ?_;
        refine RS.pv (PV.all tab_ok rfl) rfl ?_;
        refine RS.nil ?_)
    | (refine CS.region (id := 6) ?_;
        refine RS.pv (PV.all tab_ok rfl) rfl ?_;
        (refine RS.call (Next_s _ 1 (.slice ao ln cap) 1 24 _ _ (by omega) (hl.le hi1) (by omega) rfl) rfl (by kernel_rfl) rfl ?_; rintro v i2 L2 hi2 ⟨⟨x, rfl⟩, rfl, rfl⟩);
        (all_goals refine RS.pv (PV.all tab_ok rfl) rfl ?_);
        (all_goals refine RS.nil ?_))
    | refine CS.ret ?_
    | refine thenQ.ret ?_
    | refine blkQ.ret ?_
    | refine retQ.ret ?_
    | refine CS.block ?_
    | refine CS.exit ?_
    | refine thenQ.exit ?_
    | refine blkQ.normal ?_
    | refine blkQ.here ?_
    | refine blkQ.past rfl ?_
    | refine retQ.normal ?_)
  have hx := foldI_bd x (n := 24) (by omega)
  obtain ⟨n, hnn⟩ : ∃ n : Nat, foldI x 24 = n := ⟨(foldI x 24).toNat, by omega⟩
  rw [hnn]
  rename_i tp
  obtain ⟨wb, hwb⟩ : ∃ wb, wb = b := ⟨_, rfl⟩
  rw [← hwb]
  have hp0 := PoolSt.new i2 nw hw1 (by omega)
  refine CS.loop [3, 4, 5, 6, 7, 8] (fun m vs i' L' => ∃ (js : List (Option JobP)) (at_ g o : Int), m ≤ 24 ∧ PoolSt i' js nw ∧ leftLe js 5 ∧ IntSl i' (.slice ao ln cap) ∧ 0 ≤ at_ ∧ at_ ≤ 100 - 4 * (m : Int) ∧ 0 ≤ g ∧ g ≤ 24 - (m : Int) ∧ 0 ≤ o ∧ (cnt js : Int) = g - o ∧ vs = [.pointer (some ⟨tp, 0, none⟩), .pointer (some ⟨p, 0, none⟩), .pointer (some ⟨wb, 0, none⟩), .int .i64 g, .int .i64 o, .int .i64 (m : Int)] ∧ L' = [(wb, .cells [.slice ra nw rc].toArray 45 (0, 0)), (tp, tapeO (.slice ao ln cap) at_)] ++ (poolL p js nw ++ R)) n ⟨List.replicate 8 none, 2, 0, 0, by omega, hp0, fun x hx => by simp at hx, hl.le hi1, by omega, by omega, by omega, by omega, by omega, rfl, rfl, rfl⟩ ?_
  clear hl hp0
  rintro m fr vs i' L' hi ⟨js, at_, g, o, hm, hp, hle, hl, ha0, ha1, hg0, hg1, ho0, hc, rfl, rfl⟩
  by_cases hm0 : 0 < m
  · repeat' (first
      | refine CS.cut (x := .seq (.region 9 _ _) (.block 2 _)) [3, 4, 5, 6, 7, 8] (fun vs i' L' => ∃ (js : List (Option JobP)) (at_ g o : Int), PoolSt i' js nw ∧ leftLe js 5 ∧ IntSl i' (.slice ao ln cap) ∧ 0 ≤ at_ ∧ at_ ≤ 103 - 4 * (m : Int) ∧ 0 ≤ g ∧ g ≤ 25 - (m : Int) ∧ 0 ≤ o ∧ (cnt js : Int) = g - o ∧ vs = [.pointer (some ⟨tp, 0, none⟩), .pointer (some ⟨p, 0, none⟩), .pointer (some ⟨wb, 0, none⟩), .int .i64 g, .int .i64 o, .int .i64 (m : Int)] ∧ L' = [(wb, .cells [.slice ra nw rc].toArray 45 (0, 0)), (tp, tapeO (.slice ao ln cap) at_)] ++ (poolL p js nw ++ R)) ?_ ?_
      | refine CS.seq ?_
      | refine thenQ.normal ?_
      | refine CS.cond_true rfl ?_
      | refine CS.cond_false rfl ?_
      | refine CS.skip ?_
      | (refine CS.region (id := 0) ?_;
          refine RS.pv (PV.all tab_ok rfl) rfl ?_;
          refine RS.nil ?_)
      | (refine CS.region (id := 1) ?_;
          refine RS.pv (PV.all tab_ok rfl) rfl ?_;
          refine RS.pv (PV.all tab_ok rfl) rfl ?_;
          refine RS.box rfl rfl (fun b => ?_);
          refine RS.pv (PV.all tab_ok rfl) rfl ?_;
          refine RS.nil ?_)
      | (refine CS.region (id := 2) ?_;
          refine RS.pv (PV.all tab_ok rfl) rfl ?_)
      | (refine CS.region (id := 3) ?_;
          refine RS.pv (PV.all tab_ok rfl) rfl ?_;
          (first | refine RS.pv (PV.all tab_ok rfl) rfl ?_ | refine RS.pv (PV.eqlT rfl rfl (by omega)) rfl ?_ | refine RS.pv (PV.eqlF rfl rfl (by omega)) rfl ?_ | refine RS.ifEql rfl rfl rfl (fun h => ?_) (fun h => ?_) | refine RS.ifSeql rfl rfl rfl (fun h => ?_) (fun h => ?_));
          (all_goals refine RS.nil ?_))
      | (refine CS.region (id := 4) ?_;
          refine RS.pv (PV.all tab_ok rfl) rfl ?_;
          refine RS.nil ?_)
      | (refine CS.region (id := 5) ?_;
          refine RS.pv (PV.all tab_ok rfl) rfl ?_;
          refine RS.pv (PV.all tab_ok rfl) rfl ?_;
          refine RS.nil ?_)
      | (refine CS.region (id := 6) ?_;
          refine RS.pv (PV.all tab_ok rfl) rfl ?_)
      | (refine CS.region (id := 7) ?_;
          refine RS.pv (PV.all tab_ok rfl) rfl ?_;
          (first | refine RS.pv (PV.gtrT rfl rfl (by omega)) rfl ?_ | refine RS.pv (PV.gtrF rfl rfl (by omega)) rfl ?_ | refine RS.ifGtr rfl rfl rfl (fun h => ?_) (fun h => ?_));
          (all_goals refine RS.nil ?_))
      | (refine CS.region (id := 9) ?_;
          refine RS.pv (PV.all tab_ok rfl) rfl ?_;
          (refine RS.call (Next_s _ 1 (.slice ao ln cap) at_ 4 _ _ (by omega) hl (by omega) rfl) rfl (by kernel_rfl) rfl ?_; rintro v i3 L3 hi3 ⟨⟨y, rfl⟩, rfl, rfl⟩; have hy := foldI_bd y (n := 4) (by omega));
          (all_goals refine RS.nil ?_))
      | (refine CS.region (id := 10) ?_;
          refine RS.pv (PV.all tab_ok rfl) rfl ?_;
          refine RS.pv (PV.all tab_ok rfl) rfl ?_;
          (refine RS.call (Next_s _ 1 (.slice ao ln cap) (at_ + 1) 4 _ _ (by omega) hl (by omega) rfl) rfl (by kernel_rfl) rfl ?_; rintro v i4 L4 hi4 ⟨⟨z, rfl⟩, rfl, rfl⟩; have hz := foldI_bd z (n := 4) (by omega); obtain ⟨t, ht⟩ : ∃ t : Nat, foldI z 4 = t := ⟨(foldI z 4).toNat, by omega⟩; rw [ht]);
          (all_goals (refine RS.call (TickC_s [_, _] p nw js t (by omega) _ R hp) rfl (by kernel_rfl) rfl ?_; rintro v i6 L6 hi6 ⟨sv, rfl, hsv, rfl⟩; obtain ⟨sa, sc, rfl, _⟩ := hsv; have hc' := cnt_tick t js; have hle' := hle.tick (t := t) (by omega); have hp' := (hp.tick (t := t) (by omega)).le hi6));
          (all_goals refine RS.pv (PV.all tab_ok rfl) rfl ?_);
          (all_goals refine RS.pv (PV.all tab_ok rfl) rfl ?_);
          (all_goals refine RS.pv (PV.all tab_ok rfl) rfl ?_);
          (all_goals refine RS.pv (PV.all tab_ok rfl) rfl ?_);
          (all_goals refine RS.pv (PV.all tab_ok rfl) rfl ?_);
          (all_goals refine RS.nil ?_))
      | (refine CS.region (id := 11) ?_;
          refine RS.pv (PV.all tab_ok rfl) rfl ?_;
          (first | refine RS.pv (PV.all tab_ok rfl) rfl ?_ | refine RS.pv (PV.neqT rfl rfl (by omega)) rfl ?_ | refine RS.pv (PV.neqF rfl rfl (by omega)) rfl ?_ | refine RS.ifNeq rfl rfl rfl (fun h => ?_) (fun h => ?_) | refine RS.ifSneq rfl rfl rfl (fun h => ?_) (fun h => ?_));
          (all_goals refine RS.nil ?_))
      | (refine CS.region (id := 12) ?_;
          refine RS.pv (PV.all tab_ok rfl) rfl ?_;
          refine RS.nil ?_)
      | (refine CS.region (id := 13) ?_;
          refine RS.pv (PV.all tab_ok rfl) rfl ?_;
          refine RS.pv (PV.all tab_ok rfl) rfl ?_;
          (first | refine RS.pv (PV.lenS tab_ok rfl rfl) rfl ?_ | refine RS.pv (PV.lenT tab_ok rfl rfl) rfl ?_);
          refine RS.pv (PV.add rfl rfl (by omega)) rfl ?_;
          refine RS.pv (PV.all tab_ok rfl) rfl ?_;
          refine RS.nil ?_)
      | (refine CS.region (id := 14) ?_;
          (first | refine RS.pv (PV.all tab_ok rfl) rfl ?_ | refine RS.pv (PV.eqlT rfl rfl (by omega)) rfl ?_ | refine RS.pv (PV.eqlF rfl rfl (by omega)) rfl ?_ | refine RS.ifEql rfl rfl rfl (fun h => ?_) (fun h => ?_) | refine RS.ifSeql rfl rfl rfl (fun h => ?_) (fun h => ?_));
          (all_goals refine RS.pv (PV.all tab_ok rfl) rfl ?_);
          (all_goals refine RS.nil ?_))
      | (refine CS.region (id := 15) ?_;
          (first | refine RS.pv (PV.all tab_ok rfl) rfl ?_ | refine RS.pv (PV.eqlT rfl rfl (by omega)) rfl ?_ | refine RS.pv (PV.eqlF rfl rfl (by omega)) rfl ?_ | refine RS.ifEql rfl rfl rfl (fun h => ?_) (fun h => ?_) | refine RS.ifSeql rfl rfl rfl (fun h => ?_) (fun h => ?_));
          (all_goals refine RS.pv (PV.all tab_ok rfl) rfl ?_);
          (all_goals refine RS.nil ?_))
      | (refine CS.region (id := 16) ?_;
          refine RS.pv (PV.all tab_ok rfl) rfl ?_;
          refine RS.pv (PV.all tab_ok rfl) rfl ?_;
          (refine RS.call (Next_s _ 1 (.slice ao ln cap) (at_ + 1) 9 _ _ (by omega) hl (by omega) rfl) rfl (by kernel_rfl) rfl ?_; rintro v i4 L4 hi4 ⟨⟨z, rfl⟩, rfl, rfl⟩; have hz := foldI_bd z (n := 9) (by omega));
          (all_goals refine RS.pv (PV.add rfl rfl (by omega)) rfl ?_);
          (all_goals refine RS.pv (PV.all tab_ok rfl) rfl ?_);
          (all_goals refine RS.pv (PV.all tab_ok rfl) rfl ?_);
          (all_goals (refine RS.call (Next_s _ 1 (.slice ao ln cap) (at_ + 1 + 1) 5 _ _ (by omega) hl (by omega) rfl) rfl (by kernel_rfl) rfl ?_; rintro v i5 L5 hi5 ⟨⟨u, rfl⟩, rfl, rfl⟩; have hu := foldI_bd u (n := 5) (by omega)));
          (all_goals refine RS.pv (PV.add rfl rfl (by omega)) rfl ?_);
          (all_goals (refine RS.call (GiveC_s [_, _] p nw js _ _ (rzc ByteArray.empty) (rz ByteArray.empty) _ R hp (rz_v _ _) (rz_ok _)) rfl (by kernel_rfl) rfl ?_; rintro v i6 L6 hi6 ⟨e, js', rfl, hg, rfl⟩; have hc' := hg.cnt; have hle' := hle.give (by omega) (by omega) hg; have hp' := hp.give hi6 (rz_ok _) hg));
          (all_goals (first | refine RS.pv (PV.all tab_ok rfl) rfl ?_ | refine RS.pv (PV.eqlT rfl rfl (by omega)) rfl ?_ | refine RS.pv (PV.eqlF rfl rfl (by omega)) rfl ?_ | refine RS.ifEql rfl rfl rfl (fun h => ?_) (fun h => ?_) | refine RS.ifSeql rfl rfl rfl (fun h => ?_) (fun h => ?_)));
          (all_goals refine RS.nil ?_))
      | (refine CS.region (id := 17) ?_;
          refine RS.pv (PV.all tab_ok rfl) rfl ?_;
          refine RS.pv (PV.add rfl rfl (by omega)) rfl ?_;
          refine RS.pv (PV.all tab_ok rfl) rfl ?_;
          refine RS.nil ?_)
      | (refine CS.region (id := 18) ?_;
          (first | refine RS.pv (PV.all tab_ok rfl) rfl ?_ | refine RS.pv (PV.eqlT rfl rfl (by omega)) rfl ?_ | refine RS.pv (PV.eqlF rfl rfl (by omega)) rfl ?_ | refine RS.ifEql rfl rfl rfl (fun h => ?_) (fun h => ?_) | refine RS.ifSeql rfl rfl rfl (fun h => ?_) (fun h => ?_));
          (all_goals refine RS.pv (PV.all tab_ok rfl) rfl ?_);
          (all_goals refine RS.nil ?_))
      | (refine CS.region (id := 19) ?_;
          refine RS.pv (PV.all tab_ok rfl) rfl ?_;
          refine RS.pv (PV.all tab_ok rfl) rfl ?_;
          (refine RS.call (Next_s _ 1 (.slice ao ln cap) (at_ + 1) 9 _ _ (by omega) hl (by omega) rfl) rfl (by kernel_rfl) rfl ?_; rintro v i4 L4 hi4 ⟨⟨z, rfl⟩, rfl, rfl⟩; have hz := foldI_bd z (n := 9) (by omega));
          (all_goals refine RS.pv (PV.add rfl rfl (by omega)) rfl ?_);
          (all_goals (refine RS.call (CancelC_s [_, _] p nw js _ _ R hp) rfl (by kernel_rfl) rfl ?_; rintro v i6 L6 hi6 ⟨e, js', rfl, hg, rfl⟩; have hc' := hg.cnt; have hle' := hle.cancel hg; have hp' := (hp.cancel hg).le hi6));
          (all_goals (first | refine RS.pv (PV.all tab_ok rfl) rfl ?_ | refine RS.pv (PV.eqlT rfl rfl (by omega)) rfl ?_ | refine RS.pv (PV.eqlF rfl rfl (by omega)) rfl ?_ | refine RS.ifEql rfl rfl rfl (fun h => ?_) (fun h => ?_) | refine RS.ifSeql rfl rfl rfl (fun h => ?_) (fun h => ?_)));
          (all_goals refine RS.nil ?_))
      | (refine CS.region (id := 20) ?_;
          refine RS.pv (PV.all tab_ok rfl) rfl ?_;
          refine RS.pv (PV.add rfl rfl (by omega)) rfl ?_;
          refine RS.pv (PV.all tab_ok rfl) rfl ?_;
          refine RS.nil ?_)
      | refine CS.ret ?_
      | refine thenQ.ret ?_
      | refine blkQ.ret ?_
      | refine retQ.ret ?_
      | refine CS.block ?_
      | refine CS.exit ?_
      | refine thenQ.exit ?_
      | refine blkQ.normal ?_
      | refine blkQ.here ?_
      | refine blkQ.past rfl ?_
      | refine retQ.normal ?_)
    · exact ⟨js', at_ + 1 + 1 + 1, g + 1, o, hp', hle', hl.le hi6, by omega, by omega, by omega, by omega, by omega, by rcases hc' with ⟨_, h1⟩ | ⟨h0, _⟩ <;> omega, rfl, rfl⟩
    · exact ⟨js', at_ + 1 + 1 + 1, g, o, hp', hle', hl.le hi6, by omega, by omega, by omega, by omega, by omega, by rcases hc' with ⟨h0, _⟩ | ⟨_, rfl⟩ <;> omega, rfl, rfl⟩
    · exact ⟨js', at_ + 1 + 1 + 1, g + 1, o, hp', hle', hl.le hi6, by omega, by omega, by omega, by omega, by omega, by rcases hc' with ⟨_, h1⟩ | ⟨h0, _⟩ <;> omega, rfl, rfl⟩
    · exact ⟨js', at_ + 1 + 1 + 1, g, o, hp', hle', hl.le hi6, by omega, by omega, by omega, by omega, by omega, by rcases hc' with ⟨h0, _⟩ | ⟨_, rfl⟩ <;> omega, rfl, rfl⟩
    · exact ⟨js', at_ + 1 + 1, g, o + 1, hp', hle', hl.le hi6, by omega, by omega, by omega, by omega, by omega, by rcases hc' with ⟨_, h1⟩ | ⟨h0, _⟩ <;> omega, rfl, rfl⟩
    · exact ⟨js', at_ + 1 + 1, g, o, hp', hle', hl.le hi6, by omega, by omega, by omega, by omega, by omega, by rcases hc' with ⟨h0, _⟩ | ⟨_, rfl⟩ <;> omega, rfl, rfl⟩
    · exact ⟨_, at_ + 1 + 1, g, o + (js.filterMap (fin (t : Int))).length, hp', hle', hl.le hi6, by omega, by omega, by omega, by omega, by omega, by omega, rfl, rfl⟩
    clear hp hle hc hl hg0 hg1 ho0 ha0 ha1
    clear js at_ g o
    rintro fr2 vs i4 L4 hi4 ⟨js, at_, g, o, hp, hle, hl, ha0, ha1, hg0, hg1, ho0, hc, rfl, rfl⟩
    have hjc := jds_cnt hp
    have hcl := cnt_le hp
    refine CS.seq ?_
    refine CS.draw0 mix [0, 1, 2, 3, 4, 5, 6, 7, 8, 9, 10, 11, 12, 13, 14, 15, 16, 17, 18] [] (by kernel_rfl) rfl ?_
    refine GS.pv (PV.all tab_ok rfl) rfl rfl rfl rfl rfl rfl ?_
    refine GS.fact0 (fun _ v => ∃ ao cap, v = .slice ao (jds js nw).length cap) (fun _ _ _ _ h => h) rfl rfl rfl rfl rfl rfl (fun i' hi => OpS.call (by kernel_rfl) rfl (JobsC_s [_, _] p nw js _ R (hp.le hi)) (fun _ _ _ _ ⟨cs, hs, _, hL⟩ => ⟨hL, by obtain ⟨ao, cap, h, _⟩ := hs; exact ⟨ao, cap, h⟩⟩)) ?_
    (all_goals refine GS.valF (v := .int .i64 (jds js nw).length) rfl rfl rfl rfl (fun i' hi => by rintro v ⟨ao, cap, rfl⟩; exact ⟨rfl, OpS.len tab_ok rfl rfl⟩) ?_)
    (all_goals refine GS.pv (PV.all tab_ok rfl) rfl rfl rfl rfl rfl rfl ?_)
    (all_goals refine GS.pv (PV.all tab_ok rfl) rfl rfl rfl rfl rfl rfl ?_)
    (all_goals refine GS.pv (PV.sub rfl rfl (by omega)) rfl rfl rfl rfl rfl rfl ?_)
    (all_goals (first | refine GS.pv (PV.all tab_ok rfl) rfl rfl rfl rfl rfl rfl ?_ | refine GS.pv (PV.neqT rfl rfl (by omega)) rfl rfl rfl rfl rfl rfl ?_ | refine GS.pv (PV.neqF rfl rfl (by omega)) rfl rfl rfl rfl rfl rfl ?_ | refine GS.ifNeq rfl rfl rfl rfl rfl rfl rfl (fun h => ?_) (fun h => ?_) | refine GS.ifSneq rfl rfl rfl rfl rfl rfl rfl (fun h => ?_) (fun h => ?_)))
    (all_goals refine GS.pv (PV.all tab_ok rfl) rfl rfl rfl rfl rfl rfl ?_)
    (all_goals (first | refine GS.pv (PV.all tab_ok rfl) rfl rfl rfl rfl rfl rfl ?_ | refine GS.skip rfl rfl rfl rfl rfl ?_))
    (all_goals refine GS.valF (v := .int .i64 ((nw : Int) - (jds js nw).length)) rfl rfl rfl rfl (fun i' hi => ⟨rfl, OpS.call (by kernel_rfl) rfl (RoomC_s [_, _] p nw js _ R (hp.le hi)) (fun _ _ _ _ ⟨h1, h2⟩ => ⟨h2, h1⟩)⟩) ?_)
    (all_goals (first | refine GS.pv (PV.all tab_ok rfl) rfl rfl rfl rfl rfl rfl ?_ | refine GS.skip rfl rfl rfl rfl rfl ?_))
    (all_goals (first | refine GS.lv (fun _ _ => LV.load tab_ok rfl (Has.own 0 rfl) rfl) rfl rfl rfl rfl rfl rfl ?_ | refine GS.lv (fun _ _ => LV.load tab_ok rfl (Has.own 1 rfl) rfl) rfl rfl rfl rfl rfl rfl ?_ | refine GS.lv (fun _ _ => LV.load tab_ok rfl (Has.own 2 rfl) rfl) rfl rfl rfl rfl rfl rfl ?_ | refine GS.skip rfl rfl rfl rfl rfl ?_))
    (all_goals (first | refine GS.pv (PV.lenS tab_ok rfl rfl) rfl rfl rfl rfl rfl rfl ?_ | refine GS.pv (PV.lenT tab_ok rfl rfl) rfl rfl rfl rfl rfl rfl ?_ | refine GS.skip rfl rfl rfl rfl rfl ?_))
    (all_goals (first | refine GS.pv (PV.all tab_ok rfl) rfl rfl rfl rfl rfl rfl ?_ | refine GS.skip rfl rfl rfl rfl rfl ?_))
    (all_goals refine GS.fact0 (fun _ v => ∃ ao cap, v = .slice ao (jds js nw).length cap) (fun _ _ _ _ h => h) rfl rfl rfl rfl rfl rfl (fun i' hi => OpS.call (by kernel_rfl) rfl (JobsC_s [_, _] p nw js _ R (hp.le hi)) (fun _ _ _ _ ⟨cs, hs, _, hL⟩ => ⟨hL, by obtain ⟨ao, cap, h, _⟩ := hs; exact ⟨ao, cap, h⟩⟩)) ?_)
    (all_goals refine GS.valF (v := .int .i64 (jds js nw).length) rfl rfl rfl rfl (fun i' hi => by rintro v ⟨ao, cap, rfl⟩; exact ⟨rfl, OpS.len tab_ok rfl rfl⟩) ?_)
    (all_goals (first | refine GS.pv (PV.sub rfl rfl (by omega)) rfl rfl rfl rfl rfl rfl ?_ | refine GS.skip rfl rfl rfl rfl rfl ?_))
    (all_goals (first | refine GS.pv (PV.all tab_ok rfl) rfl rfl rfl rfl rfl rfl ?_ | refine GS.pv (PV.neqT rfl rfl (by omega)) rfl rfl rfl rfl rfl rfl ?_ | refine GS.pv (PV.neqF rfl rfl (by omega)) rfl rfl rfl rfl rfl rfl ?_ | refine GS.ifNeq rfl rfl rfl rfl rfl rfl rfl (fun h => ?_) (fun h => ?_) | refine GS.ifSneq rfl rfl rfl rfl rfl rfl rfl (fun h => ?_) (fun h => ?_) | refine GS.skip rfl rfl rfl rfl rfl ?_))
    (all_goals refine GS.pv (PV.all tab_ok rfl) rfl rfl rfl rfl rfl rfl ?_)
    refine GS.done rfl rfl (fun i5 hi5 => ?_)
    intro w2 g2 w1 g1
    refine RS.nil ?_
    repeat' (first
      | refine CS.seq ?_
      | refine thenQ.normal ?_
      | refine CS.cond_true rfl ?_
      | refine CS.cond_false rfl ?_
      | refine CS.skip ?_
      | (refine CS.region (id := 0) ?_;
          refine RS.pv (PV.all tab_ok rfl) rfl ?_;
          refine RS.nil ?_)
      | (refine CS.region (id := 1) ?_;
          refine RS.pv (PV.all tab_ok rfl) rfl ?_;
          refine RS.pv (PV.all tab_ok rfl) rfl ?_;
          refine RS.box rfl rfl (fun b => ?_);
          refine RS.pv (PV.all tab_ok rfl) rfl ?_;
          refine RS.nil ?_)
      | (refine CS.region (id := 2) ?_;
          refine RS.pv (PV.all tab_ok rfl) rfl ?_)
      | (refine CS.region (id := 3) ?_;
          refine RS.pv (PV.all tab_ok rfl) rfl ?_;
          (first | refine RS.pv (PV.all tab_ok rfl) rfl ?_ | refine RS.pv (PV.eqlT rfl rfl (by omega)) rfl ?_ | refine RS.pv (PV.eqlF rfl rfl (by omega)) rfl ?_ | refine RS.ifEql rfl rfl rfl (fun h => ?_) (fun h => ?_) | refine RS.ifSeql rfl rfl rfl (fun h => ?_) (fun h => ?_));
          (all_goals refine RS.nil ?_))
      | (refine CS.region (id := 4) ?_;
          refine RS.pv (PV.all tab_ok rfl) rfl ?_;
          refine RS.nil ?_)
      | (refine CS.region (id := 5) ?_;
          refine RS.pv (PV.all tab_ok rfl) rfl ?_;
          refine RS.pv (PV.all tab_ok rfl) rfl ?_;
          refine RS.nil ?_)
      | (refine CS.region (id := 6) ?_;
          refine RS.pv (PV.all tab_ok rfl) rfl ?_)
      | (refine CS.region (id := 8) ?_;
          refine RS.pv (PV.all tab_ok rfl) rfl ?_;
          refine RS.pv (PV.sub rfl rfl (by omega)) rfl ?_;
          refine RS.pv (PV.all tab_ok rfl) rfl ?_;
          refine RS.nil ?_)
      | refine CS.ret ?_
      | refine thenQ.ret ?_
      | refine blkQ.ret ?_
      | refine retQ.ret ?_
      | refine CS.block ?_
      | refine CS.exit ?_
      | refine thenQ.exit ?_
      | refine blkQ.normal ?_
      | refine blkQ.here ?_
      | refine blkQ.past rfl ?_
      | refine retQ.normal ?_)
    exact ⟨m - 1, by omega, js, at_, g, o, by omega, hp.le hi5, hle, hl.le hi5, by omega, by omega, by omega, by omega, by omega, by omega, by rw [show ((m - 1 : Nat) : Int) = (m : Int) - 1 by omega]; rfl, rfl⟩
  · have hz := cnt_allEnd (t := ((1000 : Nat) : Int)) hle (by omega)
    have hf := cnt_tick ((1000 : Nat) : Int) js
    rw [hz] at hf
    have hp2 := hp.tick (t := ((1000 : Nat) : Int)) (by omega)
    have hj2 := jds_cnt hp2
    rw [hz] at hj2
    repeat' (first
      | refine CS.seq ?_
      | refine thenQ.normal ?_
      | refine CS.cond_true rfl ?_
      | refine CS.cond_false rfl ?_
      | refine CS.skip ?_
      | (refine CS.region (id := 0) ?_;
          refine RS.pv (PV.all tab_ok rfl) rfl ?_;
          refine RS.nil ?_)
      | (refine CS.region (id := 1) ?_;
          refine RS.pv (PV.all tab_ok rfl) rfl ?_;
          refine RS.pv (PV.all tab_ok rfl) rfl ?_;
          refine RS.box rfl rfl (fun b => ?_);
          refine RS.pv (PV.all tab_ok rfl) rfl ?_;
          refine RS.nil ?_)
      | (refine CS.region (id := 2) ?_;
          refine RS.pv (PV.all tab_ok rfl) rfl ?_)
      | (refine CS.region (id := 3) ?_;
          refine RS.pv (PV.all tab_ok rfl) rfl ?_;
          (first | refine RS.pv (PV.all tab_ok rfl) rfl ?_ | refine RS.pv (PV.eqlT rfl rfl (by omega)) rfl ?_ | refine RS.pv (PV.eqlF rfl rfl (by omega)) rfl ?_ | refine RS.ifEql rfl rfl rfl (fun h => ?_) (fun h => ?_) | refine RS.ifSeql rfl rfl rfl (fun h => ?_) (fun h => ?_));
          (all_goals refine RS.nil ?_))
      | (refine CS.region (id := 4) ?_;
          refine RS.pv (PV.all tab_ok rfl) rfl ?_;
          refine RS.nil ?_)
      | (refine CS.region (id := 5) ?_;
          refine RS.pv (PV.all tab_ok rfl) rfl ?_;
          refine RS.pv (PV.all tab_ok rfl) rfl ?_;
          refine RS.nil ?_)
      | (refine CS.region (id := 6) ?_;
          refine RS.pv (PV.all tab_ok rfl) rfl ?_)
      | (refine CS.region (id := 7) ?_;
          refine RS.pv (PV.all tab_ok rfl) rfl ?_;
          (first | refine RS.pv (PV.gtrT rfl rfl (by omega)) rfl ?_ | refine RS.pv (PV.gtrF rfl rfl (by omega)) rfl ?_ | refine RS.ifGtr rfl rfl rfl (fun h => ?_) (fun h => ?_));
          (all_goals refine RS.nil ?_))
      | (refine CS.region (id := 23) ?_;
          refine RS.pv (PV.all tab_ok rfl) rfl ?_;
          (refine RS.call (TickC_s [_, _] p nw js 1000 (by omega) _ R hp) rfl (by kernel_rfl) rfl ?_; rintro v i6 L6 hi6 ⟨sv, rfl, hsv, rfl⟩; obtain ⟨sa, sc, rfl, _⟩ := hsv);
          (all_goals refine RS.pv (PV.all tab_ok rfl) rfl ?_);
          (all_goals refine RS.pv (PV.all tab_ok rfl) rfl ?_);
          (all_goals refine RS.pv (PV.all tab_ok rfl) rfl ?_);
          (all_goals refine RS.pv (PV.all tab_ok rfl) rfl ?_);
          (all_goals refine RS.pv (PV.all tab_ok rfl) rfl ?_);
          (all_goals refine RS.nil ?_))
      | (refine CS.region (id := 24) ?_;
          refine RS.pv (PV.all tab_ok rfl) rfl ?_;
          (first | refine RS.pv (PV.all tab_ok rfl) rfl ?_ | refine RS.pv (PV.eqlT rfl rfl (by omega)) rfl ?_ | refine RS.pv (PV.eqlF rfl rfl (by omega)) rfl ?_ | refine RS.ifEql rfl rfl rfl (fun h => ?_) (fun h => ?_) | refine RS.ifSeql rfl rfl rfl (fun h => ?_) (fun h => ?_));
          (all_goals refine RS.pv (PV.all tab_ok rfl) rfl ?_);
          (all_goals (first | refine RS.pv (PV.all tab_ok rfl) rfl ?_ | refine RS.skip rfl ?_));
          (all_goals (first | refine RS.pv (PV.all tab_ok rfl) rfl ?_ | refine RS.skip rfl ?_));
          (all_goals (first | refine RS.pv (PV.lenS tab_ok rfl rfl) rfl ?_ | refine RS.pv (PV.lenT tab_ok rfl rfl) rfl ?_ | refine RS.skip rfl ?_));
          (all_goals (first | refine RS.pv (PV.add rfl rfl (by omega)) rfl ?_ | refine RS.skip rfl ?_));
          (all_goals (first | refine RS.pv (PV.all tab_ok rfl) rfl ?_ | refine RS.skip rfl ?_));
          (all_goals (first | refine RS.pv (PV.all tab_ok rfl) rfl ?_ | refine RS.pv (PV.eqlT rfl rfl (by omega)) rfl ?_ | refine RS.pv (PV.eqlF rfl rfl (by omega)) rfl ?_ | refine RS.ifEql rfl rfl rfl (fun h => ?_) (fun h => ?_) | refine RS.ifSeql rfl rfl rfl (fun h => ?_) (fun h => ?_) | refine RS.skip rfl ?_));
          (all_goals refine RS.pv (PV.all tab_ok rfl) rfl ?_);
          (all_goals refine RS.pv (PV.all tab_ok rfl) rfl ?_);
          (all_goals (first | refine RS.pv (PV.all tab_ok rfl) rfl ?_ | refine RS.skip rfl ?_));
          (all_goals (refine RS.call (JobsC_s [_, _] p nw _ _ R (hp2.le hi6)) rfl (by kernel_rfl) rfl ?_; rintro v i7 L7 hi7 ⟨cs, hs7, _, rfl⟩; obtain ⟨sa7, sc7, rfl, _⟩ := hs7));
          (all_goals (first | refine RS.pv (PV.lenS tab_ok rfl rfl) rfl ?_ | refine RS.pv (PV.lenT tab_ok rfl rfl) rfl ?_ | refine RS.skip rfl ?_));
          (all_goals (first | refine RS.pv (PV.all tab_ok rfl) rfl ?_ | refine RS.pv (PV.eqlT rfl rfl (by omega)) rfl ?_ | refine RS.pv (PV.eqlF rfl rfl (by omega)) rfl ?_ | refine RS.ifEql rfl rfl rfl (fun h => ?_) (fun h => ?_) | refine RS.ifSeql rfl rfl rfl (fun h => ?_) (fun h => ?_) | refine RS.skip rfl ?_));
          (all_goals refine RS.pv (PV.all tab_ok rfl) rfl ?_);
          (all_goals refine RS.pv (PV.all tab_ok rfl) rfl ?_);
          (all_goals (refine RS.call (known_s _ _) rfl (by kernel_rfl) rfl ?_; rintro v i8 L8 hi8 ⟨rfl, rfl⟩));
          (all_goals refine RS.pv (PV.all tab_ok rfl) rfl ?_);
          (all_goals refine RS.pv (PV.all tab_ok rfl) rfl ?_);
          (all_goals refine RS.nil ?_))
      | refine CS.ret ?_
      | refine thenQ.ret ?_
      | refine blkQ.ret ?_
      | refine retQ.ret ?_
      | refine CS.block ?_
      | refine CS.exit ?_
      | refine thenQ.exit ?_
      | refine blkQ.normal ?_
      | refine blkQ.here ?_
      | refine blkQ.past rfl ?_
      | refine retQ.normal ?_)
    rfl
end Go.Proofs.Ytmcajldlcomegaa
