/- WorkerAlone walked. -/
import Derived.Test.YtmcajldlcomegaaW23
namespace Go.Proofs.Ytmcajldlcomegaa
open Go Go.Eng

theorem any_take_succ {α : Type} {l : List α} {k : Nat} {x : α} (p : α → Bool) (h : l[k]? = some x) : (l.take (k + 1)).any p = ((l.take k).any p || p x) := by
  rw [List.take_add_one, h]; simp
open Classical in
theorem Alone_s (lv : Value) (tk : Int) (i : Imm) (R : SH) (hl : IntSl i lv) : FnS Try.prog 6 [lv, .int .i64 tk] i R fun v _ _ => v = .bool true := by
  obtain ⟨ao, ln, cap, rfl, hln, hcs⟩ := id hl
  clear hcs
  refine FnS.intro1 Try.func6 rfl Try.ntmps6 (by simp) Try.results6 ?_
  repeat' (first
    | refine CS.seq ?_
    | refine thenQ.normal ?_
    | refine CS.cond_true rfl ?_
    | refine CS.cond_false rfl ?_
    | refine CS.skip ?_
    | (refine CS.region (id := 0) ?_;
        refine RS.pv (PV.all tab_ok rfl) rfl ?_;
        refine RS.nil ?_)
    | (refine CS.region (id := 1) ?_;
        refine RS.pv (PV.all tab_ok rfl) rfl ?_;
        refine RS.pv (PV.all tab_ok rfl) rfl ?_;
        refine RS.box rfl rfl (fun tp => ?_);
        (all_goals refine RS.pv (PV.all tab_ok rfl) rfl ?_);
        (all_goals refine RS.nil ?_))
    | (refine CS.region (id := 2) ?_;
        refine RS.pv (PV.all tab_ok rfl) rfl ?_;
        (refine RS.call (pools_s _ (.slice ao ln cap) 0 _ _ hl (by omega)) rfl (by kernel_rfl) rfl ?_; rintro v i1 L1 hi1 ⟨p, nw, v2, rfl, hw1, hw4, hrv, rfl⟩; obtain ⟨ra, rc, rfl⟩ := hrv.shape; replace hl := hl.le hi1);
        (all_goals refine RS.pv (PV.all tab_ok rfl) rfl ?_);
        (all_goals refine RS.pv (PV.all tab_ok rfl) rfl ?_);
        (all_goals refine RS.pv (PV.all tab_ok rfl) rfl ?_);
        (all_goals refine RS.alloc tab_ok rfl rfl (fun wb => ?_));
        (all_goals refine RS.pv (PV.all tab_ok rfl) rfl ?_);
        (all_goals (first | refine RS.store (k := 0) tab_ok rfl rfl rfl rfl rfl rfl rfl rfl ?_ | refine RS.store (k := 1) tab_ok rfl rfl rfl rfl rfl rfl rfl rfl ?_ | refine RS.store (k := 2) tab_ok rfl rfl rfl rfl rfl rfl rfl rfl ?_));
        (all_goals refine RS.nil ?_))
    | (refine CS.region (id := 3) ?_;
        refine RS.pv (PV.all tab_ok rfl) rfl ?_;
        (first | refine RS.pv (PV.all tab_ok rfl) rfl ?_ | refine RS.pv (PV.eqlT rfl rfl (by omega)) rfl ?_ | refine RS.pv (PV.eqlF rfl rfl (by omega)) rfl ?_ | refine RS.ifEql rfl rfl rfl (fun h => ?_) (fun h => ?_) | refine RS.ifSeql rfl rfl rfl (fun h => ?_) (fun h => ?_));
        (all_goals refine RS.nil ?_))
    | (refine CS.region (id := 4) ?_;
        refine RS.pv (PV.all tab_ok rfl) rfl ?_;
        refine RS.nil ?_)
    | (refine CS.region (id := 5) ?_;
        refine RS.pv (PV.all tab_ok rfl) rfl ?_;
        (refine RS.call (Fold_s tk 30 _ _ (by omega)) rfl (by kernel_rfl) rfl ?_; rintro v i2 L2 hi2 ⟨rfl, rfl, rfl⟩; have htk := foldI_bd tk (n := 30) (by omega));
        (all_goals refine RS.pv (PV.add rfl rfl (by omega)) rfl ?_);
        (all_goals refine RS.pv (PV.all tab_ok rfl) rfl ?_);
        (all_goals refine RS.nil ?_))
    | (refine CS.region (id := 6) ?_;
        refine RS.pv (PV.all tab_ok rfl) rfl ?_;
        (refine RS.call (Record_s tp 1 (.slice ao ln cap) _ _ _ _ _ hl (by omega) rfl) rfl (by kernel_rfl) rfl ?_; rintro v i3 L3 hi3 ⟨rv, r, at1, rfl, hr, hmade, ha1, ha2, rfl⟩; replace hl := hl.le hi3; obtain ⟨a2, c2, a3, c3, a4, c4, a5, c5, a6, c6, rfl⟩ := hr.lit);
        (all_goals refine RS.alloc tab_ok rfl rfl (fun sb => ?_));
        (all_goals (first | refine RS.store (k := 0) tab_ok rfl rfl rfl rfl rfl rfl rfl rfl ?_ | refine RS.store (k := 1) tab_ok rfl rfl rfl rfl rfl rfl rfl rfl ?_ | refine RS.store (k := 2) tab_ok rfl rfl rfl rfl rfl rfl rfl rfl ?_));
        (all_goals refine RS.nil ?_))
    | (refine CS.region (id := 7) ?_;
        refine RS.pv (PV.all tab_ok rfl) rfl ?_;
        (refine RS.call (Next_s tp 2 (.slice ao ln cap) at1 3 _ _ (by omega) hl (by omega) rfl) rfl (by kernel_rfl) rfl ?_; rintro v i4 L4 hi4 ⟨⟨x, rfl⟩, rfl, rfl⟩; have hx := foldI_bd x (n := 3) (by omega));
        (all_goals refine RS.pv (PV.all tab_ok rfl) rfl ?_);
        (all_goals refine RS.nil ?_))
    | refine CS.ret ?_
    | refine thenQ.ret ?_
    | refine blkQ.ret ?_
    | refine retQ.ret ?_
    | refine CS.block ?_
    | refine CS.exit ?_
    | refine thenQ.exit ?_
    | refine blkQ.normal ?_
    | refine blkQ.here ?_
    | refine blkQ.past rfl ?_
    | refine retQ.normal ?_)
  have hp0 := PoolSt.new i4 nw hw1 (by omega)
  obtain ⟨n, hnn⟩ : ∃ n : Nat, foldI x 3 = n := ⟨(foldI x 3).toNat, by omega⟩
  rw [hnn]
  obtain ⟨T, hT⟩ : ∃ T : Int, 1 + foldI tk 30 = T := ⟨_, rfl⟩
  rw [hT]
  refine CS.loop [1, 5, 6, 8, 9] (fun m vs i' L' => ∃ (js : List (Option JobP)) (at_ : Int), m ≤ 2 ∧ PoolSt i' js nw ∧ idxLe js ∧ IntSl i' (.slice ao ln cap) ∧ RecV i' [.string r.path, .int .i64 r.index, .slice a2 r.props.length c2, .slice a3 r.tags.length c3, .slice a4 r.links.length c4, .slice a5 r.run.length c5, .slice a6 r.load.length c6, .string r.name, .int .i64 r.priority, .string r.owner, .string r.group, .int .i64 r.mode] r ∧ 0 ≤ at_ ∧ at_ ≤ 100 - 2 * (m : Int) ∧ vs = [.int .i64 T, .pointer (some ⟨tp, 0, none⟩), .pointer (some ⟨p, 0, none⟩), .pointer (some ⟨sb, 0, none⟩), .int .i64 (m : Int)] ∧ L' = [(sb, .cells (List.toArray [.string r.path, .int .i64 r.index, .slice a2 r.props.length c2, .slice a3 r.tags.length c3, .slice a4 r.links.length c4, .slice a5 r.run.length c5, .slice a6 r.load.length c6, .string r.name, .int .i64 r.priority, .string r.owner, .string r.group, .int .i64 r.mode]) 36 (0, 0)), (wb, .cells [.slice ra nw rc].toArray 45 (0, 0)), (tp, tapeO (.slice ao ln cap) (at_))] ++ (poolL p (js) nw ++ R)) n ⟨List.replicate 8 none, at1 + 1, by omega, hp0, fun x hx => by simp at hx, hl, hr, by omega, by omega, rfl, rfl⟩ ?_
  clear hl hp0 hr
  rintro m fr vs i' L' hi ⟨js, at_, hm, hp, hb, hl, hr, ha3, ha4, rfl, rfl⟩
  by_cases hm0 : 0 < m
  · repeat' (first
      | refine CS.seq ?_
      | refine thenQ.normal ?_
      | refine CS.cond_true rfl ?_
      | refine CS.cond_false rfl ?_
      | refine CS.skip ?_
      | (refine CS.region (id := 0) ?_;
          refine RS.pv (PV.all tab_ok rfl) rfl ?_;
          refine RS.nil ?_)
      | (refine CS.region (id := 1) ?_;
          refine RS.pv (PV.all tab_ok rfl) rfl ?_;
          refine RS.pv (PV.all tab_ok rfl) rfl ?_;
          refine RS.box rfl rfl (fun b => ?_);
          refine RS.pv (PV.all tab_ok rfl) rfl ?_;
          refine RS.nil ?_)
      | (refine CS.region (id := 2) ?_;
          refine RS.pv (PV.all tab_ok rfl) rfl ?_)
      | (refine CS.region (id := 3) ?_;
          refine RS.pv (PV.all tab_ok rfl) rfl ?_;
          (first | refine RS.pv (PV.all tab_ok rfl) rfl ?_ | refine RS.pv (PV.eqlT rfl rfl (by omega)) rfl ?_ | refine RS.pv (PV.eqlF rfl rfl (by omega)) rfl ?_ | refine RS.ifEql rfl rfl rfl (fun h => ?_) (fun h => ?_) | refine RS.ifSeql rfl rfl rfl (fun h => ?_) (fun h => ?_));
          (all_goals refine RS.nil ?_))
      | (refine CS.region (id := 4) ?_;
          refine RS.pv (PV.all tab_ok rfl) rfl ?_;
          refine RS.nil ?_)
      | (refine CS.region (id := 5) ?_;
          refine RS.pv (PV.all tab_ok rfl) rfl ?_)
      | (refine CS.region (id := 6) ?_;
          refine RS.pv (PV.all tab_ok rfl) rfl ?_)
      | (refine CS.region (id := 7) ?_;
          refine RS.pv (PV.all tab_ok rfl) rfl ?_)
      | (refine CS.region (id := 8) ?_;
          refine RS.pv (PV.all tab_ok rfl) rfl ?_;
          (first | refine RS.pv (PV.gtrT rfl rfl (by omega)) rfl ?_ | refine RS.pv (PV.gtrF rfl rfl (by omega)) rfl ?_ | refine RS.ifGtr rfl rfl rfl (fun h => ?_) (fun h => ?_));
          (all_goals refine RS.nil ?_))
      | (refine CS.region (id := 9) ?_;
          refine RS.pv (PV.all tab_ok rfl) rfl ?_;
          refine RS.pv (PV.sub rfl rfl (by omega)) rfl ?_;
          refine RS.pv (PV.all tab_ok rfl) rfl ?_;
          refine RS.nil ?_)
      | (refine CS.region (id := 10) ?_;
          refine RS.pv (PV.all tab_ok rfl) rfl ?_;
          refine RS.pv (PV.all tab_ok rfl) rfl ?_;
          (refine RS.call (Next_s tp 2 (.slice ao ln cap) (at_) 5 _ _ (by omega) hl (by omega) rfl) rfl (by kernel_rfl) rfl ?_; rintro v i5 L5 hi5 ⟨⟨y, rfl⟩, rfl, rfl⟩; have hy := foldI_bd y (n := 5) (by omega));
          (all_goals refine RS.pv (PV.add rfl rfl (by omega)) rfl ?_);
          (all_goals refine RS.pv (PV.all tab_ok rfl) rfl ?_);
          (all_goals refine RS.pv (PV.all tab_ok rfl) rfl ?_);
          (all_goals (refine RS.call (Next_s tp 2 (.slice ao ln cap) (at_ + 1) 9 _ _ (by omega) hl (by omega) rfl) rfl (by kernel_rfl) rfl ?_; rintro v i5 L5 hi5 ⟨⟨z, rfl⟩, rfl, rfl⟩; have hz := foldI_bd z (n := 9) (by omega)));
          (all_goals refine RS.pv (PV.add rfl rfl (by omega)) rfl ?_);
          (all_goals (refine RS.call (GiveC_s [_, _, _] p nw _ _ _ (rzc ByteArray.empty) (rz ByteArray.empty) _ R hp (rz_v _ _) (rz_ok _)) rfl (by kernel_rfl) rfl ?_; rintro v i6 L6 hi6 ⟨e, js', rfl, hg, rfl⟩; have hp' := hp.give hi6 (rz_ok _) hg; replace hl := hl.le hi6; replace hr := hr.le hi6; have hb' := hb.give (by omega) hg));
          (all_goals refine RS.nil ?_))
      | refine CS.ret ?_
      | refine thenQ.ret ?_
      | refine blkQ.ret ?_
      | refine retQ.ret ?_
      | refine CS.block ?_
      | refine CS.exit ?_
      | refine thenQ.exit ?_
      | refine blkQ.normal ?_
      | refine blkQ.here ?_
      | refine blkQ.past rfl ?_
      | refine retQ.normal ?_)
    exact ⟨m - 1, by omega, js', at_ + 1 + 1, by omega, hp', hb', hl, hr, by omega, by omega, by rw [show ((m - 1 : Nat) : Int) = (m : Int) - 1 by omega]; rfl, rfl⟩
  have hjc := jds_cnt hp
  have hcl := cnt_le hp
  repeat' (first
    | refine CS.seq ?_
    | refine thenQ.normal ?_
    | refine CS.cond_true rfl ?_
    | refine CS.cond_false rfl ?_
    | refine CS.skip ?_
    | (refine CS.region (id := 0) ?_;
        refine RS.pv (PV.all tab_ok rfl) rfl ?_;
        refine RS.nil ?_)
    | (refine CS.region (id := 1) ?_;
        refine RS.pv (PV.all tab_ok rfl) rfl ?_;
        refine RS.pv (PV.all tab_ok rfl) rfl ?_;
        refine RS.box rfl rfl (fun b => ?_);
        refine RS.pv (PV.all tab_ok rfl) rfl ?_;
        refine RS.nil ?_)
    | (refine CS.region (id := 2) ?_;
        refine RS.pv (PV.all tab_ok rfl) rfl ?_)
    | (refine CS.region (id := 3) ?_;
        refine RS.pv (PV.all tab_ok rfl) rfl ?_;
        (first | refine RS.pv (PV.all tab_ok rfl) rfl ?_ | refine RS.pv (PV.eqlT rfl rfl (by omega)) rfl ?_ | refine RS.pv (PV.eqlF rfl rfl (by omega)) rfl ?_ | refine RS.ifEql rfl rfl rfl (fun h => ?_) (fun h => ?_) | refine RS.ifSeql rfl rfl rfl (fun h => ?_) (fun h => ?_));
        (all_goals refine RS.nil ?_))
    | (refine CS.region (id := 4) ?_;
        refine RS.pv (PV.all tab_ok rfl) rfl ?_;
        refine RS.nil ?_)
    | (refine CS.region (id := 5) ?_;
        refine RS.pv (PV.all tab_ok rfl) rfl ?_)
    | (refine CS.region (id := 6) ?_;
        refine RS.pv (PV.all tab_ok rfl) rfl ?_)
    | (refine CS.region (id := 7) ?_;
        refine RS.pv (PV.all tab_ok rfl) rfl ?_)
    | (refine CS.region (id := 8) ?_;
        refine RS.pv (PV.all tab_ok rfl) rfl ?_;
        (first | refine RS.pv (PV.gtrT rfl rfl (by omega)) rfl ?_ | refine RS.pv (PV.gtrF rfl rfl (by omega)) rfl ?_ | refine RS.ifGtr rfl rfl rfl (fun h => ?_) (fun h => ?_));
        (all_goals refine RS.nil ?_))
    | (refine CS.region (id := 11) ?_;
        refine RS.pv (PV.all tab_ok rfl) rfl ?_;
        (refine RS.call (RoomC_s [_, _, _] p nw js _ R hp) rfl (by kernel_rfl) rfl ?_; rintro v i5 L5 hi5 ⟨rfl, rfl⟩);
        (all_goals (first | refine RS.pv (PV.all tab_ok rfl) rfl ?_ | refine RS.pv (PV.eqlT rfl rfl (by omega)) rfl ?_ | refine RS.pv (PV.eqlF rfl rfl (by omega)) rfl ?_ | refine RS.ifEql rfl rfl rfl (fun h => ?_) (fun h => ?_) | refine RS.ifSeql rfl rfl rfl (fun h => ?_) (fun h => ?_)));
        (all_goals refine RS.nil ?_))
    | (refine CS.region (id := 12) ?_;
        (refine RS.call (known_s _ _) rfl (by kernel_rfl) rfl ?_; rintro v i8 L8 hi8 ⟨rfl, rfl⟩);
        (all_goals refine RS.pv (PV.all tab_ok rfl) rfl ?_);
        (all_goals refine RS.nil ?_))
    | refine CS.ret ?_
    | refine thenQ.ret ?_
    | refine blkQ.ret ?_
    | refine retQ.ret ?_
    | refine CS.block ?_
    | refine CS.exit ?_
    | refine thenQ.exit ?_
    | refine blkQ.normal ?_
    | refine blkQ.here ?_
    | refine blkQ.past rfl ?_
    | refine retQ.normal ?_)
  · rfl
  refine CS.region (id := 13) ?_
  refine RS.pv (PV.all tab_ok rfl) rfl ?_
  (first | refine RS.lv (LV.load tab_ok rfl (Has.own 0 rfl) rfl) rfl ?_ | refine RS.lv (LV.load tab_ok rfl (Has.own 1 rfl) rfl) rfl ?_ | refine RS.lv (LV.load tab_ok rfl (Has.own 2 rfl) rfl) rfl ?_)
  refine RS.pv (PV.all tab_ok rfl) rfl ?_
  refine RS.call (GiveC_s [_, _, _] p nw js 50 T _ r _ R (hp.le (by assumption)) (hr.le (by assumption)) hmade.ok) rfl (by kernel_rfl) rfl ?_
  rintro v i6 L6 hi6 ⟨e, js', rfl, hg, rfl⟩
  obtain ⟨rfl, hown⟩ := own_new hp hb (by omega) hg
  rw [show min (max T 1) 16000 = T by omega] at hown
  have hp' := (hp.le hi5).give hi6 hmade.ok hg
  replace hl := (hl.le hi5).le hi6
  replace hr := (hr.le hi5).le hi6
  (first | refine RS.pv (PV.all tab_ok rfl) rfl ?_ | refine RS.pv (PV.neqT rfl rfl (by omega)) rfl ?_ | refine RS.pv (PV.neqF rfl rfl (by omega)) rfl ?_ | refine RS.ifNeq rfl rfl rfl (fun h => ?_) (fun h => ?_) | refine RS.ifSneq rfl rfl rfl (fun h => ?_) (fun h => ?_))
  (all_goals refine RS.nil ?_)
  repeat' (first
    | refine CS.seq ?_
    | refine thenQ.normal ?_
    | refine CS.cond_true rfl ?_
    | refine CS.cond_false rfl ?_
    | refine CS.skip ?_
    | (refine CS.region (id := 0) ?_;
        refine RS.pv (PV.all tab_ok rfl) rfl ?_;
        refine RS.nil ?_)
    | (refine CS.region (id := 1) ?_;
        refine RS.pv (PV.all tab_ok rfl) rfl ?_;
        refine RS.pv (PV.all tab_ok rfl) rfl ?_;
        refine RS.box rfl rfl (fun b => ?_);
        refine RS.pv (PV.all tab_ok rfl) rfl ?_;
        refine RS.nil ?_)
    | (refine CS.region (id := 2) ?_;
        refine RS.pv (PV.all tab_ok rfl) rfl ?_)
    | (refine CS.region (id := 3) ?_;
        refine RS.pv (PV.all tab_ok rfl) rfl ?_;
        (first | refine RS.pv (PV.all tab_ok rfl) rfl ?_ | refine RS.pv (PV.eqlT rfl rfl (by omega)) rfl ?_ | refine RS.pv (PV.eqlF rfl rfl (by omega)) rfl ?_ | refine RS.ifEql rfl rfl rfl (fun h => ?_) (fun h => ?_) | refine RS.ifSeql rfl rfl rfl (fun h => ?_) (fun h => ?_));
        (all_goals refine RS.nil ?_))
    | (refine CS.region (id := 4) ?_;
        refine RS.pv (PV.all tab_ok rfl) rfl ?_;
        refine RS.nil ?_)
    | (refine CS.region (id := 5) ?_;
        refine RS.pv (PV.all tab_ok rfl) rfl ?_)
    | (refine CS.region (id := 6) ?_;
        refine RS.pv (PV.all tab_ok rfl) rfl ?_)
    | (refine CS.region (id := 7) ?_;
        refine RS.pv (PV.all tab_ok rfl) rfl ?_)
    | (refine CS.region (id := 8) ?_;
        refine RS.pv (PV.all tab_ok rfl) rfl ?_;
        (first | refine RS.pv (PV.gtrT rfl rfl (by omega)) rfl ?_ | refine RS.pv (PV.gtrF rfl rfl (by omega)) rfl ?_ | refine RS.ifGtr rfl rfl rfl (fun h => ?_) (fun h => ?_));
        (all_goals refine RS.nil ?_))
    | (refine CS.region (id := 9) ?_;
        refine RS.pv (PV.all tab_ok rfl) rfl ?_;
        refine RS.pv (PV.sub rfl rfl (by omega)) rfl ?_;
        refine RS.pv (PV.all tab_ok rfl) rfl ?_;
        refine RS.nil ?_)
    | (refine CS.region (id := 10) ?_;
        refine RS.pv (PV.all tab_ok rfl) rfl ?_;
        refine RS.pv (PV.all tab_ok rfl) rfl ?_)
    | (refine CS.region (id := 11) ?_;
        refine RS.pv (PV.all tab_ok rfl) rfl ?_)
    | (refine CS.region (id := 12) ?_)
    | (refine CS.region (id := 13) ?_;
        refine RS.pv (PV.all tab_ok rfl) rfl ?_;
        (first | refine RS.lv (LV.load tab_ok rfl (Has.own 0 rfl) rfl) rfl ?_ | refine RS.lv (LV.load tab_ok rfl (Has.own 1 rfl) rfl) rfl ?_ | refine RS.lv (LV.load tab_ok rfl (Has.own 2 rfl) rfl) rfl ?_);
        refine RS.pv (PV.all tab_ok rfl) rfl ?_)
    | (refine CS.region (id := 14) ?_;
        refine RS.pv (PV.all tab_ok rfl) rfl ?_;
        refine RS.nil ?_)
    | (refine CS.region (id := 15) ?_;
        refine RS.pv (PV.all tab_ok rfl) rfl ?_;
        refine RS.nil ?_)
    | refine CS.ret ?_
    | refine thenQ.ret ?_
    | refine blkQ.ret ?_
    | refine retQ.ret ?_
    | refine CS.block ?_
    | refine CS.exit ?_
    | refine thenQ.exit ?_
    | refine blkQ.normal ?_
    | refine blkQ.here ?_
    | refine blkQ.past rfl ?_
    | refine retQ.normal ?_)
  clear hp hb hg
  refine CS.loop [1, 5, 6, 8, 10] (fun m vs i' L' => ∃ (js : List (Option JobP)) (at_ pa : Int), m = (T - pa).toNat ∧ PoolSt i' js nw ∧ 0 ≤ pa ∧ pa ≤ 40 ∧ (pa < T → Own js nw (T - pa) r) ∧ (T ≤ pa → idxLe js) ∧ IntSl i' (.slice ao ln cap) ∧ RecV i' [.string r.path, .int .i64 r.index, .slice a2 r.props.length c2, .slice a3 r.tags.length c3, .slice a4 r.links.length c4, .slice a5 r.run.length c5, .slice a6 r.load.length c6, .string r.name, .int .i64 r.priority, .string r.owner, .string r.group, .int .i64 r.mode] r ∧ 0 ≤ at_ ∧ at_ ≤ 200 + 4 * pa ∧ vs = [.int .i64 T, .pointer (some ⟨tp, 0, none⟩), .pointer (some ⟨p, 0, none⟩), .pointer (some ⟨sb, 0, none⟩), .int .i64 pa] ∧ L' = [(sb, .cells (List.toArray [.string r.path, .int .i64 r.index, .slice a2 r.props.length c2, .slice a3 r.tags.length c3, .slice a4 r.links.length c4, .slice a5 r.run.length c5, .slice a6 r.load.length c6, .string r.name, .int .i64 r.priority, .string r.owner, .string r.group, .int .i64 r.mode]) 36 (0, 0)), (wb, .cells [.slice ra nw rc].toArray 45 (0, 0)), (tp, tapeO (.slice ao ln cap) (at_))] ++ (poolL p (js) nw ++ R)) T.toNat ⟨js', at_, 0, by omega, hp', by omega, by omega, fun _ => by rw [Int.sub_zero]; exact hown, fun h => by omega, hl, hr, by omega, by omega, rfl, rfl⟩ ?_
  clear hl hr hp' hown
  clear js js' ha3 ha4 hjc hcl h
  clear at_
  rintro m2 fr2 vs i7 L7 hi7 ⟨js, at_, pa, rfl, hp, hpa0, hpa1, ho, hb, hl, hr, ha3, ha4, rfl, rfl⟩
  by_cases hlt : pa < T
  · replace ho := ho hlt
    clear hb
    repeat' (first
      | refine CS.seq ?_
      | refine thenQ.normal ?_
      | refine CS.cond_true rfl ?_
      | refine CS.cond_false rfl ?_
      | refine CS.skip ?_
      | (refine CS.region (id := 0) ?_;
          refine RS.pv (PV.all tab_ok rfl) rfl ?_;
          refine RS.nil ?_)
      | (refine CS.region (id := 1) ?_;
          refine RS.pv (PV.all tab_ok rfl) rfl ?_;
          refine RS.pv (PV.all tab_ok rfl) rfl ?_;
          refine RS.box rfl rfl (fun b => ?_);
          refine RS.pv (PV.all tab_ok rfl) rfl ?_;
          refine RS.nil ?_)
      | (refine CS.region (id := 2) ?_;
          refine RS.pv (PV.all tab_ok rfl) rfl ?_)
      | (refine CS.region (id := 3) ?_;
          refine RS.pv (PV.all tab_ok rfl) rfl ?_;
          (first | refine RS.pv (PV.all tab_ok rfl) rfl ?_ | refine RS.pv (PV.eqlT rfl rfl (by omega)) rfl ?_ | refine RS.pv (PV.eqlF rfl rfl (by omega)) rfl ?_ | refine RS.ifEql rfl rfl rfl (fun h => ?_) (fun h => ?_) | refine RS.ifSeql rfl rfl rfl (fun h => ?_) (fun h => ?_));
          (all_goals refine RS.nil ?_))
      | (refine CS.region (id := 4) ?_;
          refine RS.pv (PV.all tab_ok rfl) rfl ?_;
          refine RS.nil ?_)
      | (refine CS.region (id := 5) ?_;
          refine RS.pv (PV.all tab_ok rfl) rfl ?_)
      | (refine CS.region (id := 6) ?_;
          refine RS.pv (PV.all tab_ok rfl) rfl ?_)
      | (refine CS.region (id := 7) ?_;
          refine RS.pv (PV.all tab_ok rfl) rfl ?_)
      | (refine CS.region (id := 8) ?_;
          refine RS.pv (PV.all tab_ok rfl) rfl ?_;
          (first | refine RS.pv (PV.gtrT rfl rfl (by omega)) rfl ?_ | refine RS.pv (PV.gtrF rfl rfl (by omega)) rfl ?_ | refine RS.ifGtr rfl rfl rfl (fun h => ?_) (fun h => ?_));
          (all_goals refine RS.nil ?_))
      | (refine CS.region (id := 9) ?_;
          refine RS.pv (PV.all tab_ok rfl) rfl ?_;
          refine RS.pv (PV.sub rfl rfl (by omega)) rfl ?_;
          refine RS.pv (PV.all tab_ok rfl) rfl ?_;
          refine RS.nil ?_)
      | (refine CS.region (id := 10) ?_;
          refine RS.pv (PV.all tab_ok rfl) rfl ?_;
          refine RS.pv (PV.all tab_ok rfl) rfl ?_)
      | (refine CS.region (id := 11) ?_;
          refine RS.pv (PV.all tab_ok rfl) rfl ?_)
      | (refine CS.region (id := 12) ?_)
      | (refine CS.region (id := 13) ?_;
          refine RS.pv (PV.all tab_ok rfl) rfl ?_;
          (first | refine RS.lv (LV.load tab_ok rfl (Has.own 0 rfl) rfl) rfl ?_ | refine RS.lv (LV.load tab_ok rfl (Has.own 1 rfl) rfl) rfl ?_ | refine RS.lv (LV.load tab_ok rfl (Has.own 2 rfl) rfl) rfl ?_);
          refine RS.pv (PV.all tab_ok rfl) rfl ?_)
      | (refine CS.region (id := 14) ?_;
          refine RS.pv (PV.all tab_ok rfl) rfl ?_;
          refine RS.nil ?_)
      | (refine CS.region (id := 15) ?_;
          refine RS.pv (PV.all tab_ok rfl) rfl ?_;
          refine RS.nil ?_)
      | (refine CS.region (id := 16) ?_;
          refine RS.pv (PV.all tab_ok rfl) rfl ?_;
          refine RS.pv (PV.all tab_ok rfl) rfl ?_;
          (first | refine RS.pv (PV.lssT rfl rfl (by omega)) rfl ?_ | refine RS.pv (PV.lssF rfl rfl (by omega)) rfl ?_ | refine RS.ifLss rfl rfl rfl (fun h => ?_) (fun h => ?_));
          (all_goals refine RS.nil ?_))
      | (refine CS.region (id := 17) ?_;
          refine RS.pv (PV.all tab_ok rfl) rfl ?_;
          (refine RS.call (Next_s tp 2 (.slice ao ln cap) (at_) 4 _ _ (by omega) hl (by omega) rfl) rfl (by kernel_rfl) rfl ?_; rintro v i5 L5 hi5 ⟨⟨y, rfl⟩, rfl, rfl⟩; have hy := foldI_bd y (n := 4) (by omega));
          (all_goals refine RS.pv (PV.add rfl rfl (by omega)) rfl ?_);
          (all_goals refine RS.pv (PV.all tab_ok rfl) rfl ?_);
          (all_goals refine RS.nil ?_))
      | refine CS.ret ?_
      | refine thenQ.ret ?_
      | refine blkQ.ret ?_
      | refine retQ.ret ?_
      | refine CS.block ?_
      | refine CS.exit ?_
      | refine thenQ.exit ?_
      | refine blkQ.normal ?_
      | refine blkQ.here ?_
      | refine blkQ.past rfl ?_
      | refine retQ.normal ?_)
    obtain ⟨t, ht⟩ : ∃ t : Nat, 1 + foldI y 4 = t := ⟨(1 + foldI y 4).toNat, by omega⟩
    rw [ht]
    repeat' (first
      | refine CS.seq ?_
      | refine thenQ.normal ?_
      | refine CS.cond_true rfl ?_
      | refine CS.cond_false rfl ?_
      | refine CS.skip ?_
      | (refine CS.region (id := 0) ?_;
          refine RS.pv (PV.all tab_ok rfl) rfl ?_;
          refine RS.nil ?_)
      | (refine CS.region (id := 1) ?_;
          refine RS.pv (PV.all tab_ok rfl) rfl ?_;
          refine RS.pv (PV.all tab_ok rfl) rfl ?_;
          refine RS.box rfl rfl (fun b => ?_);
          refine RS.pv (PV.all tab_ok rfl) rfl ?_;
          refine RS.nil ?_)
      | (refine CS.region (id := 2) ?_;
          refine RS.pv (PV.all tab_ok rfl) rfl ?_)
      | (refine CS.region (id := 3) ?_;
          refine RS.pv (PV.all tab_ok rfl) rfl ?_;
          (first | refine RS.pv (PV.all tab_ok rfl) rfl ?_ | refine RS.pv (PV.eqlT rfl rfl (by omega)) rfl ?_ | refine RS.pv (PV.eqlF rfl rfl (by omega)) rfl ?_ | refine RS.ifEql rfl rfl rfl (fun h => ?_) (fun h => ?_) | refine RS.ifSeql rfl rfl rfl (fun h => ?_) (fun h => ?_));
          (all_goals refine RS.nil ?_))
      | (refine CS.region (id := 4) ?_;
          refine RS.pv (PV.all tab_ok rfl) rfl ?_;
          refine RS.nil ?_)
      | (refine CS.region (id := 5) ?_;
          refine RS.pv (PV.all tab_ok rfl) rfl ?_)
      | (refine CS.region (id := 6) ?_;
          refine RS.pv (PV.all tab_ok rfl) rfl ?_)
      | (refine CS.region (id := 7) ?_;
          refine RS.pv (PV.all tab_ok rfl) rfl ?_)
      | (refine CS.region (id := 8) ?_;
          refine RS.pv (PV.all tab_ok rfl) rfl ?_;
          (first | refine RS.pv (PV.gtrT rfl rfl (by omega)) rfl ?_ | refine RS.pv (PV.gtrF rfl rfl (by omega)) rfl ?_ | refine RS.ifGtr rfl rfl rfl (fun h => ?_) (fun h => ?_));
          (all_goals refine RS.nil ?_))
      | (refine CS.region (id := 9) ?_;
          refine RS.pv (PV.all tab_ok rfl) rfl ?_;
          refine RS.pv (PV.sub rfl rfl (by omega)) rfl ?_;
          refine RS.pv (PV.all tab_ok rfl) rfl ?_;
          refine RS.nil ?_)
      | (refine CS.region (id := 10) ?_;
          refine RS.pv (PV.all tab_ok rfl) rfl ?_;
          refine RS.pv (PV.all tab_ok rfl) rfl ?_)
      | (refine CS.region (id := 11) ?_;
          refine RS.pv (PV.all tab_ok rfl) rfl ?_)
      | (refine CS.region (id := 12) ?_)
      | (refine CS.region (id := 13) ?_;
          refine RS.pv (PV.all tab_ok rfl) rfl ?_;
          (first | refine RS.lv (LV.load tab_ok rfl (Has.own 0 rfl) rfl) rfl ?_ | refine RS.lv (LV.load tab_ok rfl (Has.own 1 rfl) rfl) rfl ?_ | refine RS.lv (LV.load tab_ok rfl (Has.own 2 rfl) rfl) rfl ?_);
          refine RS.pv (PV.all tab_ok rfl) rfl ?_)
      | (refine CS.region (id := 14) ?_;
          refine RS.pv (PV.all tab_ok rfl) rfl ?_;
          refine RS.nil ?_)
      | (refine CS.region (id := 15) ?_;
          refine RS.pv (PV.all tab_ok rfl) rfl ?_;
          refine RS.nil ?_)
      | (refine CS.region (id := 16) ?_;
          refine RS.pv (PV.all tab_ok rfl) rfl ?_;
          refine RS.pv (PV.all tab_ok rfl) rfl ?_;
          (first | refine RS.pv (PV.lssT rfl rfl (by omega)) rfl ?_ | refine RS.pv (PV.lssF rfl rfl (by omega)) rfl ?_ | refine RS.ifLss rfl rfl rfl (fun h => ?_) (fun h => ?_));
          (all_goals refine RS.nil ?_))
      | (refine CS.region (id := 18) ?_;
          refine RS.pv (PV.all tab_ok rfl) rfl ?_;
          refine RS.pv (PV.all tab_ok rfl) rfl ?_;
          (refine RS.call (TickC_s [_, _, _] p nw js t (by omega) _ R hp) rfl (by kernel_rfl) rfl ?_; rintro v i6 L6 hi6 ⟨sv, rfl, hsv, rfl⟩; obtain ⟨sa, sc, rfl, _⟩ := id hsv; have hp' := (hp.tick (t := t) (by omega)).le hi6);
          (all_goals refine RS.pv (PV.all tab_ok rfl) rfl ?_);
          (all_goals refine RS.pv (PV.all tab_ok rfl) rfl ?_);
          (all_goals refine RS.pv (PV.all tab_ok rfl) rfl ?_);
          (all_goals refine RS.pv (PV.all tab_ok rfl) rfl ?_);
          (all_goals refine RS.pv (PV.all tab_ok rfl) rfl ?_);
          (all_goals refine RS.nil ?_))
      | (refine CS.region (id := 19) ?_;
          refine RS.pv (PV.all tab_ok rfl) rfl ?_;
          (first | refine RS.pv (PV.all tab_ok rfl) rfl ?_ | refine RS.pv (PV.neqT rfl rfl (by omega)) rfl ?_ | refine RS.pv (PV.neqF rfl rfl (by omega)) rfl ?_ | refine RS.ifNeq rfl rfl rfl (fun h => ?_) (fun h => ?_) | refine RS.ifSneq rfl rfl rfl (fun h => ?_) (fun h => ?_));
          (all_goals refine RS.nil ?_))
      | (refine CS.region (id := 20) ?_;
          refine RS.pv (PV.all tab_ok rfl) rfl ?_;
          refine RS.nil ?_)
      | (refine CS.region (id := 21) ?_;
          refine RS.pv (PV.all tab_ok rfl) rfl ?_;
          refine RS.nil ?_)
      | (refine CS.region (id := 22) ?_;
          refine RS.pv (PV.all tab_ok rfl) rfl ?_;
          refine RS.nil ?_)
      | refine CS.ret ?_
      | refine thenQ.ret ?_
      | refine blkQ.ret ?_
      | refine retQ.ret ?_
      | refine CS.block ?_
      | refine CS.exit ?_
      | refine thenQ.exit ?_
      | refine blkQ.normal ?_
      | refine blkQ.here ?_
      | refine blkQ.past rfl ?_
      | refine retQ.normal ?_)
    have hS := endedS_len js t
    have h8 : (js.filterMap (fin t)).length ≤ 8 := by have := List.length_filterMap_le (fin t) js; have := hp.len; omega
    refine CS.loop [1, 5, 6, 8, 10, 11, 12, 14, 15] (fun m vs i' L' => ∃ (j : Nat) (fb : Bool), m = (endedS js t).length - j ∧ j ≤ (endedS js t).length ∧ fb = ((endedS js t).take j).any (fun z => decide (z.1 = 50)) ∧ vs = [.int .i64 T, .pointer (some ⟨tp, 0, none⟩), .pointer (some ⟨p, 0, none⟩), .pointer (some ⟨sb, 0, none⟩), .int .i64 pa, .int .i64 t, .slice sa (js.filterMap (fin t)).length sc, .bool fb, .int .i64 (j : Int)] ∧ i' = i6 ∧ L' = [(sb, .cells (List.toArray [.string r.path, .int .i64 r.index, .slice a2 r.props.length c2, .slice a3 r.tags.length c3, .slice a4 r.links.length c4, .slice a5 r.run.length c5, .slice a6 r.load.length c6, .string r.name, .int .i64 r.priority, .string r.owner, .string r.group, .int .i64 r.mode]) 36 (0, 0)), (wb, .cells [.slice ra nw rc].toArray 45 (0, 0)), (tp, tapeO (.slice ao ln cap) (at_ + 1))] ++ (poolL p (js.map (tick1 t)) nw ++ R)) (endedS js t).length ⟨0, false, rfl, Nat.zero_le _, rfl, rfl, rfl, rfl⟩ ?_
    rintro m3 fr3 vs i8 L8 hi8 ⟨j, fb, rfl, hj, hfb, rfl, rfl, rfl⟩
    by_cases hjl : j < (endedS js t).length
    · obtain ⟨⟨z1, z2, z3⟩, hz⟩ : ∃ z, (endedS js t)[j]? = some z := ⟨_, List.getElem?_eq_getElem hjl⟩
      obtain ⟨y, hy1, hy2, hy3, hy4, hyr, hyo, hcell⟩ := ended_at hp hz
      simp only at hy3 hy4 hyr hcell
      have hnext := any_take_succ (fun z : SJ => decide (z.1 = 50)) hz
      rw [← hfb] at hnext
      obtain ⟨b, o, cs, tt, fz, cap', e, hbl, hc⟩ := hsv.at (k := j) (by omega) (by omega)
      cases e
      obtain ⟨d2, e2, d3, e3, d4, e4, d5, e5, d6, e6, rfl⟩ := hyr.lit
      have q0 : cs[o + ((j : Nat) : Int).toNat * 14 + 0]? = some (.int .i64 z1) := by rw [hc 0 (by omega)]; exact hcell 0 _ rfl
      have qr : ∀ (d : Nat) (u : Value), ([.string y.jd.rcd.path, .int .i64 y.jd.rcd.index, .slice d2 y.jd.rcd.props.length e2, .slice d3 y.jd.rcd.tags.length e3, .slice d4 y.jd.rcd.links.length e4, .slice d5 y.jd.rcd.run.length e5, .slice d6 y.jd.rcd.load.length e6, .string y.jd.rcd.name, .int .i64 y.jd.rcd.priority, .string y.jd.rcd.owner, .string y.jd.rcd.group, .int .i64 y.jd.rcd.mode] : List Value)[d]? = some u → cs[o + ((j : Nat) : Int).toNat * 14 + 2 + d]? = some u := fun d u hu => by
        have hd : d < 12 := (List.getElem?_eq_some_iff.1 hu).1
        rw [Nat.add_assoc, hc (2 + d) (by omega)]
        refine hcell (2 + d) u ?_
        rw [show 2 + d = d + 2 by omega]
        exact hu
      cases fb with
      | true =>
        repeat' (first
          | refine CS.seq ?_
          | refine thenQ.normal ?_
          | refine CS.cond_true rfl ?_
          | refine CS.cond_false rfl ?_
          | refine CS.skip ?_
          | (refine CS.region (id := 0) ?_;
              refine RS.pv (PV.all tab_ok rfl) rfl ?_;
              refine RS.nil ?_)
          | (refine CS.region (id := 1) ?_;
              refine RS.pv (PV.all tab_ok rfl) rfl ?_;
              refine RS.pv (PV.all tab_ok rfl) rfl ?_;
              refine RS.box rfl rfl (fun b => ?_);
              refine RS.pv (PV.all tab_ok rfl) rfl ?_;
              refine RS.nil ?_)
          | (refine CS.region (id := 2) ?_;
              refine RS.pv (PV.all tab_ok rfl) rfl ?_)
          | (refine CS.region (id := 3) ?_;
              refine RS.pv (PV.all tab_ok rfl) rfl ?_;
              (first | refine RS.pv (PV.all tab_ok rfl) rfl ?_ | refine RS.pv (PV.eqlT rfl rfl (by omega)) rfl ?_ | refine RS.pv (PV.eqlF rfl rfl (by omega)) rfl ?_ | refine RS.ifEql rfl rfl rfl (fun h => ?_) (fun h => ?_) | refine RS.ifSeql rfl rfl rfl (fun h => ?_) (fun h => ?_));
              (all_goals refine RS.nil ?_))
          | (refine CS.region (id := 4) ?_;
              refine RS.pv (PV.all tab_ok rfl) rfl ?_;
              refine RS.nil ?_)
          | (refine CS.region (id := 5) ?_;
              refine RS.pv (PV.all tab_ok rfl) rfl ?_)
          | (refine CS.region (id := 6) ?_;
              refine RS.pv (PV.all tab_ok rfl) rfl ?_)
          | (refine CS.region (id := 7) ?_;
              refine RS.pv (PV.all tab_ok rfl) rfl ?_)
          | (refine CS.region (id := 8) ?_;
              refine RS.pv (PV.all tab_ok rfl) rfl ?_;
              (first | refine RS.pv (PV.gtrT rfl rfl (by omega)) rfl ?_ | refine RS.pv (PV.gtrF rfl rfl (by omega)) rfl ?_ | refine RS.ifGtr rfl rfl rfl (fun h => ?_) (fun h => ?_));
              (all_goals refine RS.nil ?_))
          | (refine CS.region (id := 9) ?_;
              refine RS.pv (PV.all tab_ok rfl) rfl ?_;
              refine RS.pv (PV.sub rfl rfl (by omega)) rfl ?_;
              refine RS.pv (PV.all tab_ok rfl) rfl ?_;
              refine RS.nil ?_)
          | (refine CS.region (id := 10) ?_;
              refine RS.pv (PV.all tab_ok rfl) rfl ?_;
              refine RS.pv (PV.all tab_ok rfl) rfl ?_)
          | (refine CS.region (id := 11) ?_;
              refine RS.pv (PV.all tab_ok rfl) rfl ?_)
          | (refine CS.region (id := 12) ?_)
          | (refine CS.region (id := 13) ?_;
              refine RS.pv (PV.all tab_ok rfl) rfl ?_;
              (first | refine RS.lv (LV.load tab_ok rfl (Has.own 0 rfl) rfl) rfl ?_ | refine RS.lv (LV.load tab_ok rfl (Has.own 1 rfl) rfl) rfl ?_ | refine RS.lv (LV.load tab_ok rfl (Has.own 2 rfl) rfl) rfl ?_);
              refine RS.pv (PV.all tab_ok rfl) rfl ?_)
          | (refine CS.region (id := 14) ?_;
              refine RS.pv (PV.all tab_ok rfl) rfl ?_;
              refine RS.nil ?_)
          | (refine CS.region (id := 15) ?_;
              refine RS.pv (PV.all tab_ok rfl) rfl ?_;
              refine RS.nil ?_)
          | (refine CS.region (id := 16) ?_;
              refine RS.pv (PV.all tab_ok rfl) rfl ?_;
              refine RS.pv (PV.all tab_ok rfl) rfl ?_;
              (first | refine RS.pv (PV.lssT rfl rfl (by omega)) rfl ?_ | refine RS.pv (PV.lssF rfl rfl (by omega)) rfl ?_ | refine RS.ifLss rfl rfl rfl (fun h => ?_) (fun h => ?_));
              (all_goals refine RS.nil ?_))
          | (refine CS.region (id := 17) ?_;
              refine RS.pv (PV.all tab_ok rfl) rfl ?_)
          | (refine CS.region (id := 18) ?_;
              refine RS.pv (PV.all tab_ok rfl) rfl ?_;
              refine RS.pv (PV.all tab_ok rfl) rfl ?_)
          | (refine CS.region (id := 19) ?_;
              refine RS.pv (PV.all tab_ok rfl) rfl ?_;
              (first | refine RS.pv (PV.all tab_ok rfl) rfl ?_ | refine RS.pv (PV.neqT rfl rfl (by omega)) rfl ?_ | refine RS.pv (PV.neqF rfl rfl (by omega)) rfl ?_ | refine RS.ifNeq rfl rfl rfl (fun h => ?_) (fun h => ?_) | refine RS.ifSneq rfl rfl rfl (fun h => ?_) (fun h => ?_));
              (all_goals refine RS.nil ?_))
          | (refine CS.region (id := 20) ?_;
              refine RS.pv (PV.all tab_ok rfl) rfl ?_;
              refine RS.nil ?_)
          | (refine CS.region (id := 21) ?_;
              refine RS.pv (PV.all tab_ok rfl) rfl ?_;
              refine RS.nil ?_)
          | (refine CS.region (id := 23) ?_;
              refine RS.pv (PV.all tab_ok rfl) rfl ?_;
              refine RS.pv (PV.all tab_ok rfl) rfl ?_;
              (first | refine RS.pv (PV.lenS tab_ok rfl rfl) rfl ?_ | refine RS.pv (PV.lenT tab_ok rfl rfl) rfl ?_);
              (first | refine RS.pv (PV.lssT rfl rfl (by omega)) rfl ?_ | refine RS.pv (PV.lssF rfl rfl (by omega)) rfl ?_ | refine RS.ifLss rfl rfl rfl (fun h => ?_) (fun h => ?_));
              (all_goals refine RS.nil ?_))
          | (refine CS.region (id := 24) ?_;
              refine RS.pv (PV.all tab_ok rfl) rfl ?_;
              refine RS.pv (PV.add rfl rfl (by omega)) rfl ?_;
              refine RS.pv (PV.all tab_ok rfl) rfl ?_;
              refine RS.nil ?_)
          | (refine CS.drawQ (id := 25) mix (by kernel_rfl) ?_;
              refine QS.pv (PV.all tab_ok rfl) rfl ?_;
              refine QS.pv (PV.all tab_ok rfl) rfl ?_;
              (first | refine QS.pv (PV.all tab_ok rfl) rfl ?_ | refine QS.skip rfl ?_);
              (first | refine QS.pv (PV.all tab_ok rfl) rfl ?_ | refine QS.skip rfl ?_);
              (first | refine QS.pv (PV.indexAddr tab_ok rfl rfl rfl (by omega)) rfl ?_ | refine QS.pv (PV.indexAddrA tab_ok rfl rfl rfl (by omega)) rfl ?_ | refine QS.skip rfl ?_);
              (first | refine QS.pv (PV.all tab_ok rfl) rfl ?_ | refine QS.skip rfl ?_);
              (first | refine QS.lv (LV.load tab_ok rfl (Has.own 0 rfl) rfl) rfl ?_ | refine QS.lv (LV.load tab_ok rfl (Has.own 1 rfl) rfl) rfl ?_ | refine QS.lv (LV.load tab_ok rfl (Has.own 2 rfl) rfl) rfl ?_ | refine QS.skip rfl ?_);
              (first | refine QS.pv (PV.all tab_ok rfl) rfl ?_ | refine QS.pv (PV.eqlT rfl rfl (by omega)) rfl ?_ | refine QS.pv (PV.eqlF rfl rfl (by omega)) rfl ?_ | refine QS.ifEql rfl rfl rfl (fun h => ?_) (fun h => ?_) | refine QS.ifSeql rfl rfl rfl (fun h => ?_) (fun h => ?_) | refine QS.skip rfl ?_);
              (all_goals (first | refine QS.pv (PV.all tab_ok rfl) rfl ?_ | refine QS.skip rfl ?_));
              (all_goals (first | refine QS.pv (PV.all tab_ok rfl) rfl ?_ | refine QS.skip rfl ?_));
              (all_goals (first | refine QS.pv (PV.all tab_ok rfl) rfl ?_ | refine QS.skip rfl ?_));
              (all_goals (first | refine QS.pv (PV.indexAddr tab_ok rfl rfl rfl (by omega)) rfl ?_ | refine QS.pv (PV.indexAddrA tab_ok rfl rfl rfl (by omega)) rfl ?_ | refine QS.skip rfl ?_));
              (all_goals (first | refine QS.pv (PV.all tab_ok rfl) rfl ?_ | refine QS.skip rfl ?_));
              (all_goals (first | refine QS.lv (LV.load tab_ok rfl (Has.own 0 rfl) rfl) rfl ?_ | refine QS.lv (LV.load tab_ok rfl (Has.own 1 rfl) rfl) rfl ?_ | refine QS.lv (LV.load tab_ok rfl (Has.own 2 rfl) rfl) rfl ?_ | refine QS.skip rfl ?_));
              (all_goals (first | refine QS.lv (LV.load tab_ok rfl (Has.own 0 rfl) rfl) rfl ?_ | refine QS.lv (LV.load tab_ok rfl (Has.own 1 rfl) rfl) rfl ?_ | refine QS.lv (LV.load tab_ok rfl (Has.own 2 rfl) rfl) rfl ?_ | refine QS.skip rfl ?_));
              (all_goals refine QS.skip rfl ?_);
              (all_goals (first | refine QS.pv (PV.all tab_ok rfl) rfl ?_ | refine QS.skip rfl ?_));
              (all_goals refine QS.pv (PV.all tab_ok rfl) rfl ?_);
              (all_goals refine QS.pv (PV.all tab_ok rfl) rfl ?_);
              (all_goals refine QS.nil ?_))
          | refine CS.ret ?_
          | refine thenQ.ret ?_
          | refine blkQ.ret ?_
          | refine retQ.ret ?_
          | refine CS.block ?_
          | refine CS.exit ?_
          | refine thenQ.exit ?_
          | refine blkQ.normal ?_
          | refine blkQ.here ?_
          | refine blkQ.past rfl ?_
          | refine retQ.normal ?_)
        exact ⟨(endedS js t).length - (j + 1), by omega, j + 1, true, rfl, hjl, by rw [hnext]; rfl, rfl, rfl, rfl⟩
      | false =>
        by_cases h50 : z1 = 50
        · have hrr := (ho.mem.2 y hy1 (by omega)).2
          repeat' (first
            | refine CS.seq ?_
            | refine thenQ.normal ?_
            | refine CS.cond_true rfl ?_
            | refine CS.cond_false rfl ?_
            | refine CS.skip ?_
            | (refine CS.region (id := 0) ?_;
                refine RS.pv (PV.all tab_ok rfl) rfl ?_;
                refine RS.nil ?_)
            | (refine CS.region (id := 1) ?_;
                refine RS.pv (PV.all tab_ok rfl) rfl ?_;
                refine RS.pv (PV.all tab_ok rfl) rfl ?_;
                refine RS.box rfl rfl (fun b => ?_);
                refine RS.pv (PV.all tab_ok rfl) rfl ?_;
                refine RS.nil ?_)
            | (refine CS.region (id := 2) ?_;
                refine RS.pv (PV.all tab_ok rfl) rfl ?_)
            | (refine CS.region (id := 3) ?_;
                refine RS.pv (PV.all tab_ok rfl) rfl ?_;
                (first | refine RS.pv (PV.all tab_ok rfl) rfl ?_ | refine RS.pv (PV.eqlT rfl rfl (by omega)) rfl ?_ | refine RS.pv (PV.eqlF rfl rfl (by omega)) rfl ?_ | refine RS.ifEql rfl rfl rfl (fun h => ?_) (fun h => ?_) | refine RS.ifSeql rfl rfl rfl (fun h => ?_) (fun h => ?_));
                (all_goals refine RS.nil ?_))
            | (refine CS.region (id := 4) ?_;
                refine RS.pv (PV.all tab_ok rfl) rfl ?_;
                refine RS.nil ?_)
            | (refine CS.region (id := 5) ?_;
                refine RS.pv (PV.all tab_ok rfl) rfl ?_)
            | (refine CS.region (id := 6) ?_;
                refine RS.pv (PV.all tab_ok rfl) rfl ?_)
            | (refine CS.region (id := 7) ?_;
                refine RS.pv (PV.all tab_ok rfl) rfl ?_)
            | (refine CS.region (id := 8) ?_;
                refine RS.pv (PV.all tab_ok rfl) rfl ?_;
                (first | refine RS.pv (PV.gtrT rfl rfl (by omega)) rfl ?_ | refine RS.pv (PV.gtrF rfl rfl (by omega)) rfl ?_ | refine RS.ifGtr rfl rfl rfl (fun h => ?_) (fun h => ?_));
                (all_goals refine RS.nil ?_))
            | (refine CS.region (id := 9) ?_;
                refine RS.pv (PV.all tab_ok rfl) rfl ?_;
                refine RS.pv (PV.sub rfl rfl (by omega)) rfl ?_;
                refine RS.pv (PV.all tab_ok rfl) rfl ?_;
                refine RS.nil ?_)
            | (refine CS.region (id := 10) ?_;
                refine RS.pv (PV.all tab_ok rfl) rfl ?_;
                refine RS.pv (PV.all tab_ok rfl) rfl ?_)
            | (refine CS.region (id := 11) ?_;
                refine RS.pv (PV.all tab_ok rfl) rfl ?_)
            | (refine CS.region (id := 12) ?_)
            | (refine CS.region (id := 13) ?_;
                refine RS.pv (PV.all tab_ok rfl) rfl ?_;
                (first | refine RS.lv (LV.load tab_ok rfl (Has.own 0 rfl) rfl) rfl ?_ | refine RS.lv (LV.load tab_ok rfl (Has.own 1 rfl) rfl) rfl ?_ | refine RS.lv (LV.load tab_ok rfl (Has.own 2 rfl) rfl) rfl ?_);
                refine RS.pv (PV.all tab_ok rfl) rfl ?_)
            | (refine CS.region (id := 14) ?_;
                refine RS.pv (PV.all tab_ok rfl) rfl ?_;
                refine RS.nil ?_)
            | (refine CS.region (id := 15) ?_;
                refine RS.pv (PV.all tab_ok rfl) rfl ?_;
                refine RS.nil ?_)
            | (refine CS.region (id := 16) ?_;
                refine RS.pv (PV.all tab_ok rfl) rfl ?_;
                refine RS.pv (PV.all tab_ok rfl) rfl ?_;
                (first | refine RS.pv (PV.lssT rfl rfl (by omega)) rfl ?_ | refine RS.pv (PV.lssF rfl rfl (by omega)) rfl ?_ | refine RS.ifLss rfl rfl rfl (fun h => ?_) (fun h => ?_));
                (all_goals refine RS.nil ?_))
            | (refine CS.region (id := 17) ?_;
                refine RS.pv (PV.all tab_ok rfl) rfl ?_)
            | (refine CS.region (id := 18) ?_;
                refine RS.pv (PV.all tab_ok rfl) rfl ?_;
                refine RS.pv (PV.all tab_ok rfl) rfl ?_)
            | (refine CS.region (id := 19) ?_;
                refine RS.pv (PV.all tab_ok rfl) rfl ?_;
                (first | refine RS.pv (PV.all tab_ok rfl) rfl ?_ | refine RS.pv (PV.neqT rfl rfl (by omega)) rfl ?_ | refine RS.pv (PV.neqF rfl rfl (by omega)) rfl ?_ | refine RS.ifNeq rfl rfl rfl (fun h => ?_) (fun h => ?_) | refine RS.ifSneq rfl rfl rfl (fun h => ?_) (fun h => ?_));
                (all_goals refine RS.nil ?_))
            | (refine CS.region (id := 20) ?_;
                refine RS.pv (PV.all tab_ok rfl) rfl ?_;
                refine RS.nil ?_)
            | (refine CS.region (id := 21) ?_;
                refine RS.pv (PV.all tab_ok rfl) rfl ?_;
                refine RS.nil ?_)
            | (refine CS.region (id := 23) ?_;
                refine RS.pv (PV.all tab_ok rfl) rfl ?_;
                refine RS.pv (PV.all tab_ok rfl) rfl ?_;
                (first | refine RS.pv (PV.lenS tab_ok rfl rfl) rfl ?_ | refine RS.pv (PV.lenT tab_ok rfl rfl) rfl ?_);
                (first | refine RS.pv (PV.lssT rfl rfl (by omega)) rfl ?_ | refine RS.pv (PV.lssF rfl rfl (by omega)) rfl ?_ | refine RS.ifLss rfl rfl rfl (fun h => ?_) (fun h => ?_));
                (all_goals refine RS.nil ?_))
            | (refine CS.region (id := 24) ?_;
                refine RS.pv (PV.all tab_ok rfl) rfl ?_;
                refine RS.pv (PV.add rfl rfl (by omega)) rfl ?_;
                refine RS.pv (PV.all tab_ok rfl) rfl ?_;
                refine RS.nil ?_)
            | (refine CS.drawQ (id := 25) mix (by kernel_rfl) ?_;
                refine QS.pv (PV.all tab_ok rfl) rfl ?_;
                refine QS.pv (PV.all tab_ok rfl) rfl ?_;
                (first | refine QS.pv (PV.all tab_ok rfl) rfl ?_ | refine QS.skip rfl ?_);
                (first | refine QS.pv (PV.all tab_ok rfl) rfl ?_ | refine QS.skip rfl ?_);
                (first | refine QS.pv (PV.indexAddr tab_ok rfl rfl rfl (by omega)) rfl ?_ | refine QS.pv (PV.indexAddrA tab_ok rfl rfl rfl (by omega)) rfl ?_ | refine QS.skip rfl ?_);
                (first | refine QS.pv (PV.all tab_ok rfl) rfl ?_ | refine QS.skip rfl ?_);
                refine QS.lv (LV.load1 tab_ok rfl (Has.imm hbl) rfl q0) rfl ?_;
                (all_goals (first | refine QS.pv (PV.all tab_ok rfl) rfl ?_ | refine QS.pv (PV.eqlT rfl rfl (by omega)) rfl ?_ | refine QS.pv (PV.eqlF rfl rfl (by omega)) rfl ?_ | refine QS.ifEql rfl rfl rfl (fun h => ?_) (fun h => ?_) | refine QS.ifSeql rfl rfl rfl (fun h => ?_) (fun h => ?_) | refine QS.skip rfl ?_));
                (all_goals (first | refine QS.pv (PV.all tab_ok rfl) rfl ?_ | refine QS.skip rfl ?_));
                (all_goals (first | refine QS.pv (PV.all tab_ok rfl) rfl ?_ | refine QS.skip rfl ?_));
                (all_goals (first | refine QS.pv (PV.all tab_ok rfl) rfl ?_ | refine QS.skip rfl ?_));
                (all_goals (first | refine QS.pv (PV.indexAddr tab_ok rfl rfl rfl (by omega)) rfl ?_ | refine QS.pv (PV.indexAddrA tab_ok rfl rfl rfl (by omega)) rfl ?_ | refine QS.skip rfl ?_));
                (all_goals (first | refine QS.pv (PV.all tab_ok rfl) rfl ?_ | refine QS.skip rfl ?_));
                (all_goals refine QS.lv (LV.loadL tab_ok rfl (Has.imm hbl) rfl rfl rfl qr) rfl ?_);
                (all_goals (first | refine QS.lv (LV.load tab_ok rfl (Has.own 0 rfl) rfl) rfl ?_ | refine QS.lv (LV.load tab_ok rfl (Has.own 1 rfl) rfl) rfl ?_ | refine QS.lv (LV.load tab_ok rfl (Has.own 2 rfl) rfl) rfl ?_ | refine QS.skip rfl ?_));
                (all_goals refine QS.callB ((Same_s _ _ y.jd.rcd r _ _ (hyr.le hi6) (hr.le hi6) hyo.small).mono (fun _ _ _ _ h => ⟨h.1, h.2.2⟩)) rfl (by kernel_rfl) rfl (fun h => ?_) (fun h => absurd hrr h));
                (all_goals (first | refine QS.pv (PV.all tab_ok rfl) rfl ?_ | refine QS.skip rfl ?_));
                (all_goals refine QS.pv (PV.all tab_ok rfl) rfl ?_);
                (all_goals refine QS.pv (PV.all tab_ok rfl) rfl ?_);
                (all_goals refine QS.nil ?_))
            | refine CS.ret ?_
            | refine thenQ.ret ?_
            | refine blkQ.ret ?_
            | refine retQ.ret ?_
            | refine CS.block ?_
            | refine CS.exit ?_
            | refine thenQ.exit ?_
            | refine blkQ.normal ?_
            | refine blkQ.here ?_
            | refine blkQ.past rfl ?_
            | refine retQ.normal ?_)
          exact ⟨(endedS js t).length - (j + 1), by omega, j + 1, true, rfl, hjl, by rw [hnext]; simp [h50], rfl, rfl, rfl⟩
        · repeat' (first
            | refine CS.seq ?_
            | refine thenQ.normal ?_
            | refine CS.cond_true rfl ?_
            | refine CS.cond_false rfl ?_
            | refine CS.skip ?_
            | (refine CS.region (id := 0) ?_;
                refine RS.pv (PV.all tab_ok rfl) rfl ?_;
                refine RS.nil ?_)
            | (refine CS.region (id := 1) ?_;
                refine RS.pv (PV.all tab_ok rfl) rfl ?_;
                refine RS.pv (PV.all tab_ok rfl) rfl ?_;
                refine RS.box rfl rfl (fun b => ?_);
                refine RS.pv (PV.all tab_ok rfl) rfl ?_;
                refine RS.nil ?_)
            | (refine CS.region (id := 2) ?_;
                refine RS.pv (PV.all tab_ok rfl) rfl ?_)
            | (refine CS.region (id := 3) ?_;
                refine RS.pv (PV.all tab_ok rfl) rfl ?_;
                (first | refine RS.pv (PV.all tab_ok rfl) rfl ?_ | refine RS.pv (PV.eqlT rfl rfl (by omega)) rfl ?_ | refine RS.pv (PV.eqlF rfl rfl (by omega)) rfl ?_ | refine RS.ifEql rfl rfl rfl (fun h => ?_) (fun h => ?_) | refine RS.ifSeql rfl rfl rfl (fun h => ?_) (fun h => ?_));
                (all_goals refine RS.nil ?_))
            | (refine CS.region (id := 4) ?_;
                refine RS.pv (PV.all tab_ok rfl) rfl ?_;
                refine RS.nil ?_)
            | (refine CS.region (id := 5) ?_;
                refine RS.pv (PV.all tab_ok rfl) rfl ?_)
            | (refine CS.region (id := 6) ?_;
                refine RS.pv (PV.all tab_ok rfl) rfl ?_)
            | (refine CS.region (id := 7) ?_;
                refine RS.pv (PV.all tab_ok rfl) rfl ?_)
            | (refine CS.region (id := 8) ?_;
                refine RS.pv (PV.all tab_ok rfl) rfl ?_;
                (first | refine RS.pv (PV.gtrT rfl rfl (by omega)) rfl ?_ | refine RS.pv (PV.gtrF rfl rfl (by omega)) rfl ?_ | refine RS.ifGtr rfl rfl rfl (fun h => ?_) (fun h => ?_));
                (all_goals refine RS.nil ?_))
            | (refine CS.region (id := 9) ?_;
                refine RS.pv (PV.all tab_ok rfl) rfl ?_;
                refine RS.pv (PV.sub rfl rfl (by omega)) rfl ?_;
                refine RS.pv (PV.all tab_ok rfl) rfl ?_;
                refine RS.nil ?_)
            | (refine CS.region (id := 10) ?_;
                refine RS.pv (PV.all tab_ok rfl) rfl ?_;
                refine RS.pv (PV.all tab_ok rfl) rfl ?_)
            | (refine CS.region (id := 11) ?_;
                refine RS.pv (PV.all tab_ok rfl) rfl ?_)
            | (refine CS.region (id := 12) ?_)
            | (refine CS.region (id := 13) ?_;
                refine RS.pv (PV.all tab_ok rfl) rfl ?_;
                (first | refine RS.lv (LV.load tab_ok rfl (Has.own 0 rfl) rfl) rfl ?_ | refine RS.lv (LV.load tab_ok rfl (Has.own 1 rfl) rfl) rfl ?_ | refine RS.lv (LV.load tab_ok rfl (Has.own 2 rfl) rfl) rfl ?_);
                refine RS.pv (PV.all tab_ok rfl) rfl ?_)
            | (refine CS.region (id := 14) ?_;
                refine RS.pv (PV.all tab_ok rfl) rfl ?_;
                refine RS.nil ?_)
            | (refine CS.region (id := 15) ?_;
                refine RS.pv (PV.all tab_ok rfl) rfl ?_;
                refine RS.nil ?_)
            | (refine CS.region (id := 16) ?_;
                refine RS.pv (PV.all tab_ok rfl) rfl ?_;
                refine RS.pv (PV.all tab_ok rfl) rfl ?_;
                (first | refine RS.pv (PV.lssT rfl rfl (by omega)) rfl ?_ | refine RS.pv (PV.lssF rfl rfl (by omega)) rfl ?_ | refine RS.ifLss rfl rfl rfl (fun h => ?_) (fun h => ?_));
                (all_goals refine RS.nil ?_))
            | (refine CS.region (id := 17) ?_;
                refine RS.pv (PV.all tab_ok rfl) rfl ?_)
            | (refine CS.region (id := 18) ?_;
                refine RS.pv (PV.all tab_ok rfl) rfl ?_;
                refine RS.pv (PV.all tab_ok rfl) rfl ?_)
            | (refine CS.region (id := 19) ?_;
                refine RS.pv (PV.all tab_ok rfl) rfl ?_;
                (first | refine RS.pv (PV.all tab_ok rfl) rfl ?_ | refine RS.pv (PV.neqT rfl rfl (by omega)) rfl ?_ | refine RS.pv (PV.neqF rfl rfl (by omega)) rfl ?_ | refine RS.ifNeq rfl rfl rfl (fun h => ?_) (fun h => ?_) | refine RS.ifSneq rfl rfl rfl (fun h => ?_) (fun h => ?_));
                (all_goals refine RS.nil ?_))
            | (refine CS.region (id := 20) ?_;
                refine RS.pv (PV.all tab_ok rfl) rfl ?_;
                refine RS.nil ?_)
            | (refine CS.region (id := 21) ?_;
                refine RS.pv (PV.all tab_ok rfl) rfl ?_;
                refine RS.nil ?_)
            | (refine CS.region (id := 23) ?_;
                refine RS.pv (PV.all tab_ok rfl) rfl ?_;
                refine RS.pv (PV.all tab_ok rfl) rfl ?_;
                (first | refine RS.pv (PV.lenS tab_ok rfl rfl) rfl ?_ | refine RS.pv (PV.lenT tab_ok rfl rfl) rfl ?_);
                (first | refine RS.pv (PV.lssT rfl rfl (by omega)) rfl ?_ | refine RS.pv (PV.lssF rfl rfl (by omega)) rfl ?_ | refine RS.ifLss rfl rfl rfl (fun h => ?_) (fun h => ?_));
                (all_goals refine RS.nil ?_))
            | (refine CS.region (id := 24) ?_;
                refine RS.pv (PV.all tab_ok rfl) rfl ?_;
                refine RS.pv (PV.add rfl rfl (by omega)) rfl ?_;
                refine RS.pv (PV.all tab_ok rfl) rfl ?_;
                refine RS.nil ?_)
            | (refine CS.drawQ (id := 25) mix (by kernel_rfl) ?_;
                refine QS.pv (PV.all tab_ok rfl) rfl ?_;
                refine QS.pv (PV.all tab_ok rfl) rfl ?_;
                (first | refine QS.pv (PV.all tab_ok rfl) rfl ?_ | refine QS.skip rfl ?_);
                (first | refine QS.pv (PV.all tab_ok rfl) rfl ?_ | refine QS.skip rfl ?_);
                (first | refine QS.pv (PV.indexAddr tab_ok rfl rfl rfl (by omega)) rfl ?_ | refine QS.pv (PV.indexAddrA tab_ok rfl rfl rfl (by omega)) rfl ?_ | refine QS.skip rfl ?_);
                (first | refine QS.pv (PV.all tab_ok rfl) rfl ?_ | refine QS.skip rfl ?_);
                refine QS.lv (LV.load1 tab_ok rfl (Has.imm hbl) rfl q0) rfl ?_;
                (all_goals (first | refine QS.pv (PV.all tab_ok rfl) rfl ?_ | refine QS.pv (PV.eqlT rfl rfl (by omega)) rfl ?_ | refine QS.pv (PV.eqlF rfl rfl (by omega)) rfl ?_ | refine QS.ifEql rfl rfl rfl (fun h => ?_) (fun h => ?_) | refine QS.ifSeql rfl rfl rfl (fun h => ?_) (fun h => ?_) | refine QS.skip rfl ?_));
                (all_goals (first | refine QS.pv (PV.all tab_ok rfl) rfl ?_ | refine QS.skip rfl ?_));
                (all_goals (first | refine QS.pv (PV.all tab_ok rfl) rfl ?_ | refine QS.skip rfl ?_));
                (all_goals (first | refine QS.pv (PV.all tab_ok rfl) rfl ?_ | refine QS.skip rfl ?_));
                (all_goals (first | refine QS.pv (PV.indexAddr tab_ok rfl rfl rfl (by omega)) rfl ?_ | refine QS.pv (PV.indexAddrA tab_ok rfl rfl rfl (by omega)) rfl ?_ | refine QS.skip rfl ?_));
                (all_goals (first | refine QS.pv (PV.all tab_ok rfl) rfl ?_ | refine QS.skip rfl ?_));
                (all_goals refine QS.skip rfl ?_);
                (all_goals (first | refine QS.lv (LV.load tab_ok rfl (Has.own 0 rfl) rfl) rfl ?_ | refine QS.lv (LV.load tab_ok rfl (Has.own 1 rfl) rfl) rfl ?_ | refine QS.lv (LV.load tab_ok rfl (Has.own 2 rfl) rfl) rfl ?_ | refine QS.skip rfl ?_));
                (all_goals refine QS.skip rfl ?_);
                (all_goals (first | refine QS.pv (PV.all tab_ok rfl) rfl ?_ | refine QS.skip rfl ?_));
                (all_goals refine QS.pv (PV.all tab_ok rfl) rfl ?_);
                (all_goals refine QS.pv (PV.all tab_ok rfl) rfl ?_);
                (all_goals refine QS.nil ?_))
            | refine CS.ret ?_
            | refine thenQ.ret ?_
            | refine blkQ.ret ?_
            | refine retQ.ret ?_
            | refine CS.block ?_
            | refine CS.exit ?_
            | refine thenQ.exit ?_
            | refine blkQ.normal ?_
            | refine blkQ.here ?_
            | refine blkQ.past rfl ?_
            | refine retQ.normal ?_)
          exact ⟨(endedS js t).length - (j + 1), by omega, j + 1, false, rfl, hjl, by rw [hnext]; simp [h50], rfl, rfl, rfl⟩
    · have hje : j = (endedS js t).length := by omega
      subst hje
      rw [List.take_length] at hfb
      have hfd : fb = decide (T - pa ≤ t) := by
        rw [hfb]
        obtain ⟨⟨x5, h1, h2, h3⟩, h4⟩ := ho.mem
        by_cases hle : T - pa ≤ t
        · rw [decide_eq_true hle, List.any_eq_true]
          exact ⟨toSJ x5, endedS_mem.2 ⟨x5, h1, by omega, rfl⟩, decide_eq_true h2⟩
        · rw [decide_eq_false hle, List.any_eq_false]
          intro z hz hz5
          obtain ⟨y, g1, g2, rfl⟩ := endedS_mem.1 hz
          have := (h4 y g1 (of_decide_eq_true hz5)).1
          omega
      clear hfb
      replace hl := hl.le hi6
      replace hr := hr.le hi6
      clear hp
      have hp := hp'
      clear hp'
      by_cases hle : T - pa ≤ t
      · rw [decide_eq_true hle] at hfd
        subst hfd
        have hb0 := ho.goes hle
        repeat' (first
          | refine CS.seq ?_
          | refine thenQ.normal ?_
          | refine CS.cond_true rfl ?_
          | refine CS.cond_false rfl ?_
          | refine CS.skip ?_
          | (refine CS.region (id := 0) ?_;
              refine RS.pv (PV.all tab_ok rfl) rfl ?_;
              refine RS.nil ?_)
          | (refine CS.region (id := 1) ?_;
              refine RS.pv (PV.all tab_ok rfl) rfl ?_;
              refine RS.pv (PV.all tab_ok rfl) rfl ?_;
              refine RS.box rfl rfl (fun b => ?_);
              refine RS.pv (PV.all tab_ok rfl) rfl ?_;
              refine RS.nil ?_)
          | (refine CS.region (id := 2) ?_;
              refine RS.pv (PV.all tab_ok rfl) rfl ?_)
          | (refine CS.region (id := 3) ?_;
              refine RS.pv (PV.all tab_ok rfl) rfl ?_;
              (first | refine RS.pv (PV.all tab_ok rfl) rfl ?_ | refine RS.pv (PV.eqlT rfl rfl (by omega)) rfl ?_ | refine RS.pv (PV.eqlF rfl rfl (by omega)) rfl ?_ | refine RS.ifEql rfl rfl rfl (fun h => ?_) (fun h => ?_) | refine RS.ifSeql rfl rfl rfl (fun h => ?_) (fun h => ?_));
              (all_goals refine RS.nil ?_))
          | (refine CS.region (id := 4) ?_;
              refine RS.pv (PV.all tab_ok rfl) rfl ?_;
              refine RS.nil ?_)
          | (refine CS.region (id := 5) ?_;
              refine RS.pv (PV.all tab_ok rfl) rfl ?_)
          | (refine CS.region (id := 6) ?_;
              refine RS.pv (PV.all tab_ok rfl) rfl ?_)
          | (refine CS.region (id := 7) ?_;
              refine RS.pv (PV.all tab_ok rfl) rfl ?_)
          | (refine CS.region (id := 8) ?_;
              refine RS.pv (PV.all tab_ok rfl) rfl ?_;
              (first | refine RS.pv (PV.gtrT rfl rfl (by omega)) rfl ?_ | refine RS.pv (PV.gtrF rfl rfl (by omega)) rfl ?_ | refine RS.ifGtr rfl rfl rfl (fun h => ?_) (fun h => ?_));
              (all_goals refine RS.nil ?_))
          | (refine CS.region (id := 9) ?_;
              refine RS.pv (PV.all tab_ok rfl) rfl ?_;
              refine RS.pv (PV.sub rfl rfl (by omega)) rfl ?_;
              refine RS.pv (PV.all tab_ok rfl) rfl ?_;
              refine RS.nil ?_)
          | (refine CS.region (id := 10) ?_;
              refine RS.pv (PV.all tab_ok rfl) rfl ?_;
              refine RS.pv (PV.all tab_ok rfl) rfl ?_)
          | (refine CS.region (id := 11) ?_;
              refine RS.pv (PV.all tab_ok rfl) rfl ?_)
          | (refine CS.region (id := 12) ?_)
          | (refine CS.region (id := 13) ?_;
              refine RS.pv (PV.all tab_ok rfl) rfl ?_;
              (first | refine RS.lv (LV.load tab_ok rfl (Has.own 0 rfl) rfl) rfl ?_ | refine RS.lv (LV.load tab_ok rfl (Has.own 1 rfl) rfl) rfl ?_ | refine RS.lv (LV.load tab_ok rfl (Has.own 2 rfl) rfl) rfl ?_);
              refine RS.pv (PV.all tab_ok rfl) rfl ?_)
          | (refine CS.region (id := 14) ?_;
              refine RS.pv (PV.all tab_ok rfl) rfl ?_;
              refine RS.nil ?_)
          | (refine CS.region (id := 15) ?_;
              refine RS.pv (PV.all tab_ok rfl) rfl ?_;
              refine RS.nil ?_)
          | (refine CS.region (id := 23) ?_;
              refine RS.pv (PV.all tab_ok rfl) rfl ?_;
              refine RS.pv (PV.all tab_ok rfl) rfl ?_;
              (first | refine RS.pv (PV.lenS tab_ok rfl rfl) rfl ?_ | refine RS.pv (PV.lenT tab_ok rfl rfl) rfl ?_);
              (first | refine RS.pv (PV.lssT rfl rfl (by omega)) rfl ?_ | refine RS.pv (PV.lssF rfl rfl (by omega)) rfl ?_ | refine RS.ifLss rfl rfl rfl (fun h => ?_) (fun h => ?_));
              (all_goals refine RS.nil ?_))
          | (refine CS.region (id := 26) ?_;
              refine RS.pv (PV.all tab_ok rfl) rfl ?_;
              refine RS.pv (PV.all tab_ok rfl) rfl ?_;
              refine RS.pv (PV.add rfl rfl (by omega)) rfl ?_;
              refine RS.pv (PV.all tab_ok rfl) rfl ?_;
              refine RS.nil ?_)
          | (refine CS.region (id := 27) ?_;
              refine RS.pv (PV.all tab_ok rfl) rfl ?_;
              refine RS.pv (PV.all tab_ok rfl) rfl ?_;
              refine RS.pv (PV.all tab_ok rfl) rfl ?_;
              (first | refine RS.pv (PV.geqT rfl rfl (by omega)) rfl ?_ | refine RS.pv (PV.geqF rfl rfl (by omega)) rfl ?_ | refine RS.ifGeq rfl rfl rfl (fun h => ?_) (fun h => ?_));
              (all_goals refine RS.pv (PV.bneq tab_ok ⟨_, rfl, rfl⟩ rfl rfl) rfl ?_);
              (all_goals refine RS.nil ?_))
          | (refine CS.region (id := 28) ?_;
              refine RS.pv (PV.all tab_ok rfl) rfl ?_;
              refine RS.nil ?_)
          | (refine CS.region (id := 29) ?_;
              refine RS.pv (PV.all tab_ok rfl) rfl ?_;
              refine RS.pv (PV.all tab_ok rfl) rfl ?_;
              (refine RS.call (Next_s tp 2 (.slice ao ln cap) (at_ + 1) 5 _ _ (by omega) hl (by omega) rfl) rfl (by kernel_rfl) rfl ?_; rintro v i5 L5 hi5 ⟨⟨u, rfl⟩, rfl, rfl⟩; have hu := foldI_bd u (n := 5) (by omega));
              (all_goals refine RS.pv (PV.add rfl rfl (by omega)) rfl ?_);
              (all_goals refine RS.pv (PV.all tab_ok rfl) rfl ?_);
              (all_goals refine RS.pv (PV.all tab_ok rfl) rfl ?_);
              (all_goals (refine RS.call (Next_s tp 2 (.slice ao ln cap) (at_ + 1 + 1) 9 _ _ (by omega) hl (by omega) rfl) rfl (by kernel_rfl) rfl ?_; rintro v i5 L5 hi5 ⟨⟨w, rfl⟩, rfl, rfl⟩; have hw := foldI_bd w (n := 9) (by omega)));
              (all_goals refine RS.pv (PV.add rfl rfl (by omega)) rfl ?_);
              (all_goals (refine RS.call (GiveC_s [_, _, _] p nw _ _ _ (rzc ByteArray.empty) (rz ByteArray.empty) _ R hp (rz_v _ _) (rz_ok _)) rfl (by kernel_rfl) rfl ?_; rintro v i6 L6 hi6 ⟨e, js', rfl, hg, rfl⟩; have hp' := hp.give hi6 (rz_ok _) hg; replace hl := hl.le hi6; replace hr := hr.le hi6; have hb' := hb0.give (by omega) hg; clear hp; have hp := hp'; clear hp'));
              (all_goals refine RS.nil ?_))
          | (refine CS.region (id := 30) ?_;
              refine RS.pv (PV.all tab_ok rfl) rfl ?_;
              refine RS.pv (PV.all tab_ok rfl) rfl ?_;
              (refine RS.call (Next_s tp 2 (.slice ao ln cap) (at_ + 1 + 1 + 1) 5 _ _ (by omega) hl (by omega) rfl) rfl (by kernel_rfl) rfl ?_; rintro v i5 L5 hi5 ⟨⟨q, rfl⟩, rfl, rfl⟩; have hq := foldI_bd q (n := 5) (by omega));
              (all_goals refine RS.pv (PV.add rfl rfl (by omega)) rfl ?_);
              (all_goals (refine RS.call (CancelC_s [_, _, _] p nw _ _ _ R hp) rfl (by kernel_rfl) rfl ?_; rintro v i9 L9 hi9 ⟨e2, js2, rfl, hg2, rfl⟩; have hp2 := (hp.cancel hg2).le hi9; have hb2 := hb'.cancel hg2));
              (all_goals refine RS.nil ?_))
          | refine CS.ret ?_
          | refine thenQ.ret ?_
          | refine blkQ.ret ?_
          | refine retQ.ret ?_
          | refine CS.block ?_
          | refine CS.exit ?_
          | refine thenQ.exit ?_
          | refine blkQ.normal ?_
          | refine blkQ.here ?_
          | refine blkQ.past rfl ?_
          | refine retQ.normal ?_)
        exact ⟨_, by omega, js2, _, _, rfl, hp2, by omega, by omega, fun h => by omega, fun _ => hb2, hl.le hi9, hr.le hi9, by omega, by omega, rfl, rfl⟩
      · rw [decide_eq_false hle] at hfd
        subst hfd
        have hb0 := ho.stay (t := t) (by omega)
        repeat' (first
          | refine CS.seq ?_
          | refine thenQ.normal ?_
          | refine CS.cond_true rfl ?_
          | refine CS.cond_false rfl ?_
          | refine CS.skip ?_
          | (refine CS.region (id := 0) ?_;
              refine RS.pv (PV.all tab_ok rfl) rfl ?_;
              refine RS.nil ?_)
          | (refine CS.region (id := 1) ?_;
              refine RS.pv (PV.all tab_ok rfl) rfl ?_;
              refine RS.pv (PV.all tab_ok rfl) rfl ?_;
              refine RS.box rfl rfl (fun b => ?_);
              refine RS.pv (PV.all tab_ok rfl) rfl ?_;
              refine RS.nil ?_)
          | (refine CS.region (id := 2) ?_;
              refine RS.pv (PV.all tab_ok rfl) rfl ?_)
          | (refine CS.region (id := 3) ?_;
              refine RS.pv (PV.all tab_ok rfl) rfl ?_;
              (first | refine RS.pv (PV.all tab_ok rfl) rfl ?_ | refine RS.pv (PV.eqlT rfl rfl (by omega)) rfl ?_ | refine RS.pv (PV.eqlF rfl rfl (by omega)) rfl ?_ | refine RS.ifEql rfl rfl rfl (fun h => ?_) (fun h => ?_) | refine RS.ifSeql rfl rfl rfl (fun h => ?_) (fun h => ?_));
              (all_goals refine RS.nil ?_))
          | (refine CS.region (id := 4) ?_;
              refine RS.pv (PV.all tab_ok rfl) rfl ?_;
              refine RS.nil ?_)
          | (refine CS.region (id := 5) ?_;
              refine RS.pv (PV.all tab_ok rfl) rfl ?_)
          | (refine CS.region (id := 6) ?_;
              refine RS.pv (PV.all tab_ok rfl) rfl ?_)
          | (refine CS.region (id := 7) ?_;
              refine RS.pv (PV.all tab_ok rfl) rfl ?_)
          | (refine CS.region (id := 8) ?_;
              refine RS.pv (PV.all tab_ok rfl) rfl ?_;
              (first | refine RS.pv (PV.gtrT rfl rfl (by omega)) rfl ?_ | refine RS.pv (PV.gtrF rfl rfl (by omega)) rfl ?_ | refine RS.ifGtr rfl rfl rfl (fun h => ?_) (fun h => ?_));
              (all_goals refine RS.nil ?_))
          | (refine CS.region (id := 9) ?_;
              refine RS.pv (PV.all tab_ok rfl) rfl ?_;
              refine RS.pv (PV.sub rfl rfl (by omega)) rfl ?_;
              refine RS.pv (PV.all tab_ok rfl) rfl ?_;
              refine RS.nil ?_)
          | (refine CS.region (id := 10) ?_;
              refine RS.pv (PV.all tab_ok rfl) rfl ?_;
              refine RS.pv (PV.all tab_ok rfl) rfl ?_)
          | (refine CS.region (id := 11) ?_;
              refine RS.pv (PV.all tab_ok rfl) rfl ?_)
          | (refine CS.region (id := 12) ?_)
          | (refine CS.region (id := 13) ?_;
              refine RS.pv (PV.all tab_ok rfl) rfl ?_;
              (first | refine RS.lv (LV.load tab_ok rfl (Has.own 0 rfl) rfl) rfl ?_ | refine RS.lv (LV.load tab_ok rfl (Has.own 1 rfl) rfl) rfl ?_ | refine RS.lv (LV.load tab_ok rfl (Has.own 2 rfl) rfl) rfl ?_);
              refine RS.pv (PV.all tab_ok rfl) rfl ?_)
          | (refine CS.region (id := 14) ?_;
              refine RS.pv (PV.all tab_ok rfl) rfl ?_;
              refine RS.nil ?_)
          | (refine CS.region (id := 15) ?_;
              refine RS.pv (PV.all tab_ok rfl) rfl ?_;
              refine RS.nil ?_)
          | (refine CS.region (id := 23) ?_;
              refine RS.pv (PV.all tab_ok rfl) rfl ?_;
              refine RS.pv (PV.all tab_ok rfl) rfl ?_;
              (first | refine RS.pv (PV.lenS tab_ok rfl rfl) rfl ?_ | refine RS.pv (PV.lenT tab_ok rfl rfl) rfl ?_);
              (first | refine RS.pv (PV.lssT rfl rfl (by omega)) rfl ?_ | refine RS.pv (PV.lssF rfl rfl (by omega)) rfl ?_ | refine RS.ifLss rfl rfl rfl (fun h => ?_) (fun h => ?_));
              (all_goals refine RS.nil ?_))
          | (refine CS.region (id := 26) ?_;
              refine RS.pv (PV.all tab_ok rfl) rfl ?_;
              refine RS.pv (PV.all tab_ok rfl) rfl ?_;
              refine RS.pv (PV.add rfl rfl (by omega)) rfl ?_;
              refine RS.pv (PV.all tab_ok rfl) rfl ?_;
              refine RS.nil ?_)
          | (refine CS.region (id := 27) ?_;
              refine RS.pv (PV.all tab_ok rfl) rfl ?_;
              refine RS.pv (PV.all tab_ok rfl) rfl ?_;
              refine RS.pv (PV.all tab_ok rfl) rfl ?_;
              (first | refine RS.pv (PV.geqT rfl rfl (by omega)) rfl ?_ | refine RS.pv (PV.geqF rfl rfl (by omega)) rfl ?_ | refine RS.ifGeq rfl rfl rfl (fun h => ?_) (fun h => ?_));
              (all_goals refine RS.pv (PV.bneq tab_ok ⟨_, rfl, rfl⟩ rfl rfl) rfl ?_);
              (all_goals refine RS.nil ?_))
          | (refine CS.region (id := 28) ?_;
              refine RS.pv (PV.all tab_ok rfl) rfl ?_;
              refine RS.nil ?_)
          | (refine CS.region (id := 29) ?_;
              refine RS.pv (PV.all tab_ok rfl) rfl ?_;
              refine RS.pv (PV.all tab_ok rfl) rfl ?_;
              (refine RS.call (Next_s tp 2 (.slice ao ln cap) (at_ + 1) 5 _ _ (by omega) hl (by omega) rfl) rfl (by kernel_rfl) rfl ?_; rintro v i5 L5 hi5 ⟨⟨u, rfl⟩, rfl, rfl⟩; have hu := foldI_bd u (n := 5) (by omega));
              (all_goals refine RS.pv (PV.add rfl rfl (by omega)) rfl ?_);
              (all_goals refine RS.pv (PV.all tab_ok rfl) rfl ?_);
              (all_goals refine RS.pv (PV.all tab_ok rfl) rfl ?_);
              (all_goals (refine RS.call (Next_s tp 2 (.slice ao ln cap) (at_ + 1 + 1) 9 _ _ (by omega) hl (by omega) rfl) rfl (by kernel_rfl) rfl ?_; rintro v i5 L5 hi5 ⟨⟨w, rfl⟩, rfl, rfl⟩; have hw := foldI_bd w (n := 9) (by omega)));
              (all_goals refine RS.pv (PV.add rfl rfl (by omega)) rfl ?_);
              (all_goals (refine RS.call (GiveC_s [_, _, _] p nw _ _ _ (rzc ByteArray.empty) (rz ByteArray.empty) _ R hp (rz_v _ _) (rz_ok _)) rfl (by kernel_rfl) rfl ?_; rintro v i6 L6 hi6 ⟨e, js', rfl, hg, rfl⟩; have hp' := hp.give hi6 (rz_ok _) hg; replace hl := hl.le hi6; replace hr := hr.le hi6; have hb' := hb0.give (by omega) hg; clear hp; have hp := hp'; clear hp'));
              (all_goals refine RS.nil ?_))
          | (refine CS.region (id := 30) ?_;
              refine RS.pv (PV.all tab_ok rfl) rfl ?_;
              refine RS.pv (PV.all tab_ok rfl) rfl ?_;
              (refine RS.call (Next_s tp 2 (.slice ao ln cap) (at_ + 1 + 1 + 1) 5 _ _ (by omega) hl (by omega) rfl) rfl (by kernel_rfl) rfl ?_; rintro v i5 L5 hi5 ⟨⟨q, rfl⟩, rfl, rfl⟩; have hq := foldI_bd q (n := 5) (by omega));
              (all_goals refine RS.pv (PV.add rfl rfl (by omega)) rfl ?_);
              (all_goals (refine RS.call (CancelC_s [_, _, _] p nw _ _ _ R hp) rfl (by kernel_rfl) rfl ?_; rintro v i9 L9 hi9 ⟨e2, js2, rfl, hg2, rfl⟩; have hp2 := (hp.cancel hg2).le hi9; have hb2 := hb'.cancel (by omega) hg2));
              (all_goals refine RS.nil ?_))
          | refine CS.ret ?_
          | refine thenQ.ret ?_
          | refine blkQ.ret ?_
          | refine retQ.ret ?_
          | refine CS.block ?_
          | refine CS.exit ?_
          | refine thenQ.exit ?_
          | refine blkQ.normal ?_
          | refine blkQ.here ?_
          | refine blkQ.past rfl ?_
          | refine retQ.normal ?_)
        exact ⟨_, by omega, js2, _, _, rfl, hp2, by omega, by omega, fun _ => by rw [show T - (pa + (t : Int)) = T - pa - (t : Int) by omega]; exact hb2, fun h => by omega, hl.le hi9, hr.le hi9, by omega, by omega, rfl, rfl⟩
  · replace hb := hb (by omega)
    repeat' (first
      | refine CS.seq ?_
      | refine thenQ.normal ?_
      | refine CS.cond_true rfl ?_
      | refine CS.cond_false rfl ?_
      | refine CS.skip ?_
      | (refine CS.region (id := 0) ?_;
          refine RS.pv (PV.all tab_ok rfl) rfl ?_;
          refine RS.nil ?_)
      | (refine CS.region (id := 1) ?_;
          refine RS.pv (PV.all tab_ok rfl) rfl ?_;
          refine RS.pv (PV.all tab_ok rfl) rfl ?_;
          refine RS.box rfl rfl (fun b => ?_);
          refine RS.pv (PV.all tab_ok rfl) rfl ?_;
          refine RS.nil ?_)
      | (refine CS.region (id := 2) ?_;
          refine RS.pv (PV.all tab_ok rfl) rfl ?_)
      | (refine CS.region (id := 3) ?_;
          refine RS.pv (PV.all tab_ok rfl) rfl ?_;
          (first | refine RS.pv (PV.all tab_ok rfl) rfl ?_ | refine RS.pv (PV.eqlT rfl rfl (by omega)) rfl ?_ | refine RS.pv (PV.eqlF rfl rfl (by omega)) rfl ?_ | refine RS.ifEql rfl rfl rfl (fun h => ?_) (fun h => ?_) | refine RS.ifSeql rfl rfl rfl (fun h => ?_) (fun h => ?_));
          (all_goals refine RS.nil ?_))
      | (refine CS.region (id := 4) ?_;
          refine RS.pv (PV.all tab_ok rfl) rfl ?_;
          refine RS.nil ?_)
      | (refine CS.region (id := 5) ?_;
          refine RS.pv (PV.all tab_ok rfl) rfl ?_)
      | (refine CS.region (id := 6) ?_;
          refine RS.pv (PV.all tab_ok rfl) rfl ?_)
      | (refine CS.region (id := 7) ?_;
          refine RS.pv (PV.all tab_ok rfl) rfl ?_)
      | (refine CS.region (id := 8) ?_;
          refine RS.pv (PV.all tab_ok rfl) rfl ?_;
          (first | refine RS.pv (PV.gtrT rfl rfl (by omega)) rfl ?_ | refine RS.pv (PV.gtrF rfl rfl (by omega)) rfl ?_ | refine RS.ifGtr rfl rfl rfl (fun h => ?_) (fun h => ?_));
          (all_goals refine RS.nil ?_))
      | (refine CS.region (id := 9) ?_;
          refine RS.pv (PV.all tab_ok rfl) rfl ?_;
          refine RS.pv (PV.sub rfl rfl (by omega)) rfl ?_;
          refine RS.pv (PV.all tab_ok rfl) rfl ?_;
          refine RS.nil ?_)
      | (refine CS.region (id := 10) ?_;
          refine RS.pv (PV.all tab_ok rfl) rfl ?_;
          refine RS.pv (PV.all tab_ok rfl) rfl ?_)
      | (refine CS.region (id := 11) ?_;
          refine RS.pv (PV.all tab_ok rfl) rfl ?_)
      | (refine CS.region (id := 12) ?_)
      | (refine CS.region (id := 13) ?_;
          refine RS.pv (PV.all tab_ok rfl) rfl ?_;
          (first | refine RS.lv (LV.load tab_ok rfl (Has.own 0 rfl) rfl) rfl ?_ | refine RS.lv (LV.load tab_ok rfl (Has.own 1 rfl) rfl) rfl ?_ | refine RS.lv (LV.load tab_ok rfl (Has.own 2 rfl) rfl) rfl ?_);
          refine RS.pv (PV.all tab_ok rfl) rfl ?_)
      | (refine CS.region (id := 14) ?_;
          refine RS.pv (PV.all tab_ok rfl) rfl ?_;
          refine RS.nil ?_)
      | (refine CS.region (id := 15) ?_;
          refine RS.pv (PV.all tab_ok rfl) rfl ?_;
          refine RS.nil ?_)
      | (refine CS.region (id := 16) ?_;
          refine RS.pv (PV.all tab_ok rfl) rfl ?_;
          refine RS.pv (PV.all tab_ok rfl) rfl ?_;
          (first | refine RS.pv (PV.lssT rfl rfl (by omega)) rfl ?_ | refine RS.pv (PV.lssF rfl rfl (by omega)) rfl ?_ | refine RS.ifLss rfl rfl rfl (fun h => ?_) (fun h => ?_));
          (all_goals refine RS.nil ?_))
      | (refine CS.region (id := 31) ?_;
          refine RS.pv (PV.all tab_ok rfl) rfl ?_;
          (refine RS.call (CancelC_s [_, _, _] p nw _ _ _ R hp) rfl (by kernel_rfl) rfl ?_; rintro v i9 L9 hi9 ⟨e2, js2, rfl, hg2, rfl⟩; obtain ⟨rfl, rfl⟩ := none_of_idxLe hb (by omega) hg2);
          (all_goals (first | refine RS.pv (PV.all tab_ok rfl) rfl ?_ | refine RS.pv (PV.eqlT rfl rfl (by omega)) rfl ?_ | refine RS.pv (PV.eqlF rfl rfl (by omega)) rfl ?_ | refine RS.ifEql rfl rfl rfl (fun h => ?_) (fun h => ?_) | refine RS.ifSeql rfl rfl rfl (fun h => ?_) (fun h => ?_)));
          (all_goals refine RS.pv (PV.all tab_ok rfl) rfl ?_);
          (all_goals (refine RS.call (known_s _ _) rfl (by kernel_rfl) rfl ?_; rintro v i8 L8 hi8 ⟨rfl, rfl⟩));
          (all_goals refine RS.pv (PV.all tab_ok rfl) rfl ?_);
          (all_goals refine RS.pv (PV.all tab_ok rfl) rfl ?_);
          (all_goals refine RS.nil ?_))
      | refine CS.ret ?_
      | refine thenQ.ret ?_
      | refine blkQ.ret ?_
      | refine retQ.ret ?_
      | refine CS.block ?_
      | refine CS.exit ?_
      | refine thenQ.exit ?_
      | refine blkQ.normal ?_
      | refine blkQ.here ?_
      | refine blkQ.past rfl ?_
      | refine retQ.normal ?_)
    rfl
end Go.Proofs.Ytmcajldlcomegaa
