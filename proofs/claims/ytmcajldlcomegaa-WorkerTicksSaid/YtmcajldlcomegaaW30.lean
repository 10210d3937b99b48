/- A call in both pools. -/
import Derived.Test.YtmcajldlcomegaaW29
namespace Go.Proofs.Ytmcajldlcomegaa
open Go Go.Eng

def idxGe (js : List (Option JobP)) : Prop := ∀ x, some x ∈ js → 1 ≤ x.jd.index
theorem idxGe.give {js js' : List (Option JobP)} {nw : Nat} {index ticks e : Int} {r : Rec} {i : Imm} (hb : idxGe js) (h : GiveTo js nw index ticks r i e js') : idxGe js' := by
  cases h with
  | low _ => exact hb
  | taken _ _ => exact hb
  | full _ _ _ => exact hb
  | ok k x h1 _ _ h4 _ h6 _ =>
    intro y hy
    rcases List.mem_or_eq_of_mem_set hy with hy | hy
    · exact hb y hy
    · cases hy; rw [h6]; exact h1
theorem idxGe.cancel {js js' : List (Option JobP)} {nw : Nat} {index e : Int} (hb : idxGe js) (h : CancelTo js nw index e js') : idxGe js' := by
  cases h with
  | none _ => exact hb
  | ok k h1 h2 =>
    intro y hy
    rcases List.mem_or_eq_of_mem_set hy with hy | hy
    · exact hb y hy
    · cases hy
theorem idxGe.tick {js : List (Option JobP)} {t : Int} (hb : idxGe js) : idxGe (js.map (tick1 t)) := by
  intro y hy
  obtain ⟨o, ho, he⟩ := List.mem_map.1 hy
  obtain ⟨x, rfl, _, _, h⟩ := tick1_some he
  rw [h]; exact hb x ho
/-- both pools hold the same jobs -/
structure Both (i : Imm) (js : List (Option JobP)) (nw : Nat) (w : Value) : Prop where
  pool : PoolSt i js nw
  idx : idxGe js
  ref : RefV i w nw (ods js nw)
theorem Both.up {i i' : Imm} {js : List (Option JobP)} {nw : Nat} {w : Value} (h : Both i js nw w) (hi : i.le i') : Both i' js nw w := ⟨h.pool.le hi, h.idx, h.ref.le hi⟩
theorem Both.refS {i : Imm} {js : List (Option JobP)} {nw : Nat} {w : Value} (h : Both i js nw w) : RefS i w nw (ods js nw) :=
  ⟨h.ref, h.pool.nwpos, h.pool.nwle, fun j hj => by
    obtain ⟨o, ho, he⟩ := List.mem_map.1 hj
    obtain ⟨x, rfl, rfl⟩ := Option.map_eq_some_iff.1 he
    have hm := List.mem_of_mem_take ho
    obtain ⟨_, h2, h3, h4⟩ := h.pool.job x hm
    exact ⟨h.idx x hm, h3, h4, h2⟩⟩
theorem outs_ok {i : Imm} {js : List (Option JobP)} {nw : Nat} {w : Value} (h : Both i js nw w) (t : Nat) : ∀ j ∈ outs (ods js nw) t, j.rcd.ok := by
  intro j hj
  obtain ⟨m, _, hj⟩ := List.mem_flatMap.1 hj
  obtain ⟨o, ho, he⟩ := List.mem_filterMap.1 hj
  cases o with
  | none => cases he
  | some j' =>
    have := (h.refS.job j' ho).2.2.2
    rw [show endAt ((m : Int) + 1) (some j') = if j'.left = (m : Int) + 1 then some ⟨j'.index, 0, j'.rcd⟩ else none from rfl] at he
    split at he
    · cases he; exact this
    · cases he
theorem call_s (tp p nw : Nat) (lv w : Value) (at_ raw : Int) (js : List (Option JobP)) (i : Imm) (R : SH) (hl : IntSl i lv) (ha : 0 ≤ at_ ∧ at_ ≤ 1000000) (hb : Both i js nw w) :
    FnS Try.prog 23 [.pointer (some ⟨tp, 0, none⟩), .pointer (some ⟨p, 0, none⟩), w, .int .i64 raw] i ((tp, tapeO lv (at_)) :: (poolL p js nw ++ R)) fun v i' L' => ∃ js' w' at', v = .tuple #[w', .bool true] ∧ Both i' js' nw w' ∧ at_ ≤ at' ∧ at' ≤ at_ + 60 ∧ L' = (tp, tapeO lv (at')) :: (poolL p js' nw ++ R) := by
  refine FnS.state (K := fun v i' L' => ∃ js' w' at' G, v = .tuple #[w', .bool true] ∧ Both i' js' nw w' ∧ at_ ≤ at' ∧ at' ≤ at_ + 60 ∧ L' = G ++ ((tp, tapeO lv (at')) :: (poolL p js' nw ++ R))) ?_ ?_
  rotate_left
  · rintro v i' L' w _ hs ⟨js', w', at', G, h1, h2, h3, h4, rfl⟩
    exact ⟨i', _, Imm.le.refl i', hs.dropL, js', w', at', h1, h2, h3, h4, rfl⟩
  obtain ⟨wa, wc, rfl⟩ := hb.ref.shape
  refine FnS.introCT tab_ok Try.func23 rfl Try.ntmps23 (by simp) Try.results23 ?_
  repeat' (first
    | refine CS.cut (x := .seq (.region 2 _ _) _) [0, 1, 3, 6, 8, 10] (fun vs i' L' => ∃ n : Int, vs = [.pointer (some ⟨tp, 0, none⟩), .pointer (some ⟨p, 0, none⟩), .int .i64 raw, .pointer (some ⟨b6, 0, none⟩), .pointer (some ⟨b8, 0, none⟩), .int .i64 n] ∧ L' = (b8, .cells [.slice none 0 0].toArray 45 (0, 0)) :: (b6, .cells [.slice wa nw wc].toArray 45 (0, 0)) :: (tp, tapeO lv (at_ + 1 + 1)) :: (poolL p js nw ++ R)) ?_ ?_
    | refine CS.seq ?_
    | refine thenQ.normal ?_
    | refine CS.cond_true rfl ?_
    | refine CS.cond_false rfl ?_
    | refine CS.skip ?_
    | (refine CS.region (id := 0) ?_;
        refine RS.box rfl rfl (fun b6 => ?_);
        (all_goals refine RS.alloc tab_ok rfl rfl (fun b8 => ?_));
        (all_goals refine RS.pv (PV.all tab_ok rfl) rfl ?_);
        (all_goals refine RS.nil ?_))
    | (refine CS.region (id := 1) ?_;
        refine RS.pv (PV.all tab_ok rfl) rfl ?_;
        (refine RS.call (Next_s tp 2 lv (at_) 9 _ _ (by omega) hl (by omega) rfl) rfl (by kernel_rfl) rfl ?_; rintro v i5 L5 hi5 ⟨⟨x, rfl⟩, rfl, rfl⟩; have hx := foldI_bd x (n := 9) (by omega));
        (all_goals refine RS.pv (PV.add rfl rfl (by omega)) rfl ?_);
        (all_goals refine RS.pv (PV.all tab_ok rfl) rfl ?_);
        (all_goals refine RS.nil ?_))
    | (refine CS.region (id := 2) ?_;
        refine RS.pv (PV.all tab_ok rfl) rfl ?_;
        (refine RS.call (Next_s tp 2 lv (at_ + 1) 14 _ _ (by omega) hl (by omega) rfl) rfl (by kernel_rfl) rfl ?_; rintro v i5 L5 hi5 ⟨⟨y, rfl⟩, rfl, rfl⟩; have hy := foldI_bd y (n := 14) (by omega));
        (all_goals (first | refine RS.pv (PV.all tab_ok rfl) rfl ?_ | refine RS.pv (PV.eqlT rfl rfl (by omega)) rfl ?_ | refine RS.pv (PV.eqlF rfl rfl (by omega)) rfl ?_ | refine RS.ifEql rfl rfl rfl (fun h => ?_) (fun h => ?_) | refine RS.ifSeql rfl rfl rfl (fun h => ?_) (fun h => ?_)));
        (all_goals refine RS.nil ?_))
    | (refine CS.region (id := 3) ?_;
        refine RS.pv (PV.all tab_ok rfl) rfl ?_;
        refine RS.pv (PV.all tab_ok rfl) rfl ?_;
        refine RS.nil ?_)
    | refine CS.ret ?_
    | refine thenQ.ret ?_
    | refine blkQ.ret ?_
    | refine retQ.ret ?_
    | refine CS.block ?_
    | refine CS.exit ?_
    | refine thenQ.exit ?_
    | refine blkQ.normal ?_
    | refine blkQ.here ?_
    | refine blkQ.past rfl ?_
    | refine retQ.normal ?_)
  · exact ⟨_, rfl, rfl⟩
  · exact ⟨_, rfl, rfl⟩
  rintro g1 vs i1 L1 hi1 ⟨n, rfl, rfl⟩
  replace hl := hl.le hi1
  replace hb := hb.up hi1
  repeat' (first
    | refine CS.cut (x := .seq (.region 5 _ _) _) [0, 1, 3, 6, 8, 10, 33, 34] (fun vs i' L' => ∃ bb : Bool, vs = [.pointer (some ⟨tp, 0, none⟩), .pointer (some ⟨p, 0, none⟩), .int .i64 raw, .pointer (some ⟨b6, 0, none⟩), .pointer (some ⟨b8, 0, none⟩), .int .i64 n] ++ [.int .i64 (foldI z 6), .bool bb] ∧ L' = (b8, .cells [.slice none 0 0].toArray 45 (0, 0)) :: (b6, .cells [.slice wa nw wc].toArray 45 (0, 0)) :: (tp, tapeO lv (at_ + 1 + 1 + 1)) :: (poolL p js nw ++ R)) ?_ ?_
    | refine CS.seq ?_
    | refine thenQ.normal ?_
    | refine CS.cond_true rfl ?_
    | refine CS.cond_false rfl ?_
    | refine CS.skip ?_
    | (refine CS.region (id := 0) ?_;
        refine RS.box rfl rfl (fun b => ?_);
        refine RS.alloc tab_ok rfl rfl (fun b => ?_);
        refine RS.pv (PV.all tab_ok rfl) rfl ?_;
        refine RS.nil ?_)
    | (refine CS.region (id := 1) ?_;
        refine RS.pv (PV.all tab_ok rfl) rfl ?_)
    | (refine CS.region (id := 4) ?_;
        refine RS.pv (PV.all tab_ok rfl) rfl ?_;
        (refine RS.call (Next_s tp 2 lv (at_ + 1 + 1) 6 _ _ (by omega) hl (by omega) rfl) rfl (by kernel_rfl) rfl ?_; rintro v i5 L5 hi5 ⟨⟨z, rfl⟩, rfl, rfl⟩; have hz := foldI_bd z (n := 6) (by omega));
        (all_goals refine RS.nil ?_))
    | (refine CS.region (id := 5) ?_;
        (first | refine RS.pv (PV.all tab_ok rfl) rfl ?_ | refine RS.pv (PV.eqlT rfl rfl (by omega)) rfl ?_ | refine RS.pv (PV.eqlF rfl rfl (by omega)) rfl ?_ | refine RS.ifEql rfl rfl rfl (fun h => ?_) (fun h => ?_) | refine RS.ifSeql rfl rfl rfl (fun h => ?_) (fun h => ?_));
        (all_goals refine RS.pv (PV.all tab_ok rfl) rfl ?_);
        (all_goals refine RS.nil ?_))
    | (refine CS.region (id := 6) ?_;
        (first | refine RS.pv (PV.all tab_ok rfl) rfl ?_ | refine RS.pv (PV.eqlT rfl rfl (by omega)) rfl ?_ | refine RS.pv (PV.eqlF rfl rfl (by omega)) rfl ?_ | refine RS.ifEql rfl rfl rfl (fun h => ?_) (fun h => ?_) | refine RS.ifSeql rfl rfl rfl (fun h => ?_) (fun h => ?_));
        (all_goals refine RS.pv (PV.all tab_ok rfl) rfl ?_);
        (all_goals refine RS.nil ?_))
    | (refine CS.region (id := 7) ?_;
        (first | refine RS.pv (PV.all tab_ok rfl) rfl ?_ | refine RS.pv (PV.eqlT rfl rfl (by omega)) rfl ?_ | refine RS.pv (PV.eqlF rfl rfl (by omega)) rfl ?_ | refine RS.ifEql rfl rfl rfl (fun h => ?_) (fun h => ?_) | refine RS.ifSeql rfl rfl rfl (fun h => ?_) (fun h => ?_));
        (all_goals refine RS.pv (PV.all tab_ok rfl) rfl ?_);
        (all_goals refine RS.nil ?_))
    | refine CS.ret ?_
    | refine thenQ.ret ?_
    | refine blkQ.ret ?_
    | refine retQ.ret ?_
    | refine CS.block ?_
    | refine CS.exit ?_
    | refine thenQ.exit ?_
    | refine blkQ.normal ?_
    | refine blkQ.here ?_
    | refine blkQ.past rfl ?_
    | refine retQ.normal ?_)
  all_goals first
    | exact ⟨_, rfl, rfl⟩
    | skip
  rintro g2 vs i2 L2 hi2 ⟨bb, rfl, rfl⟩
  replace hl := hl.le hi2
  replace hb := hb.up hi2
  cases bb with
  | true =>
    repeat' (first
      | refine CS.cut (x := .seq (.region 10 _ _) _) [0, 1, 6, 8, 10, 11, 12] (fun vs i' L' => ∃ (tk at' : Int), at_ ≤ at' ∧ at' ≤ at_ + 55 ∧ vs = [.pointer (some ⟨tp, 0, none⟩), .pointer (some ⟨p, 0, none⟩), .pointer (some ⟨b6, 0, none⟩), .pointer (some ⟨b8, 0, none⟩), .int .i64 n, .pointer (some ⟨b11, 0, none⟩), .int .i64 tk] ∧ L' = (b11, .cells (List.toArray [.string r.path, .int .i64 r.index, .slice a2 r.props.length c2, .slice a3 r.tags.length c3, .slice a4 r.links.length c4, .slice a5 r.run.length c5, .slice a6 r.load.length c6, .string r.name, .int .i64 r.priority, .string r.owner, .string r.group, .int .i64 r.mode]) 36 (0, 0)) :: (b8, .cells [.slice none 0 0].toArray 45 (0, 0)) :: (b6, .cells [.slice wa nw wc].toArray 45 (0, 0)) :: (tp, tapeO lv (at')) :: (poolL p js nw ++ R)) ?_ ?_
      | refine CS.seq ?_
      | refine thenQ.normal ?_
      | refine CS.cond_true rfl ?_
      | refine CS.cond_false rfl ?_
      | refine CS.skip ?_
      | (refine CS.region (id := 0) ?_;
          refine RS.box rfl rfl (fun b => ?_);
          refine RS.alloc tab_ok rfl rfl (fun b => ?_);
          refine RS.pv (PV.all tab_ok rfl) rfl ?_;
          refine RS.nil ?_)
      | (refine CS.region (id := 1) ?_;
          refine RS.pv (PV.all tab_ok rfl) rfl ?_)
      | (refine CS.region (id := 8) ?_;
          refine RS.pv (PV.all tab_ok rfl) rfl ?_;
          refine RS.pv (PV.all tab_ok rfl) rfl ?_;
          (refine RS.call (Path_s tp 2 lv _ _ _ hl (by omega) rfl) rfl (by kernel_rfl) rfl ?_; rintro v i5 L5 hi5 ⟨ps, at2, rfl, ha2, ha3, rfl⟩; replace hl := hl.le hi5; replace hb := hb.up hi5);
          (all_goals refine RS.pv (PV.all tab_ok rfl) rfl ?_);
          (all_goals (refine RS.call (Next_s tp 2 lv (at2) 9 _ _ (by omega) hl (by omega) rfl) rfl (by kernel_rfl) rfl ?_; rintro v i5 L5 hi5 ⟨⟨u, rfl⟩, rfl, rfl⟩; have hu := foldI_bd u (n := 9) (by omega)));
          (all_goals refine RS.pv (PV.add rfl rfl (by omega)) rfl ?_);
          (all_goals (refine RS.call (Record_s tp 2 lv (at2 + 1) _ _ _ _ hl (by omega) rfl) rfl (by kernel_rfl) rfl ?_; rintro v i5 L5 hi5 ⟨rv, r, at3, rfl, hr, hmade, ha4, ha5, rfl⟩; replace hl := hl.le hi5; replace hb := hb.up hi5; obtain ⟨a2, c2, a3, c3, a4, c4, a5, c5, a6, c6, rfl⟩ := hr.lit));
          (all_goals refine RS.alloc tab_ok rfl rfl (fun b11 => ?_));
          (all_goals (first | refine RS.store (k := 0) tab_ok rfl rfl rfl rfl rfl rfl rfl rfl ?_ | refine RS.store (k := 1) tab_ok rfl rfl rfl rfl rfl rfl rfl rfl ?_ | refine RS.store (k := 2) tab_ok rfl rfl rfl rfl rfl rfl rfl rfl ?_));
          (all_goals refine RS.nil ?_))
      | (refine CS.region (id := 9) ?_;
          refine RS.pv (PV.all tab_ok rfl) rfl ?_;
          (refine RS.call (Next_s tp 3 lv (at3) 9 _ _ (by omega) hl (by omega) rfl) rfl (by kernel_rfl) rfl ?_; rintro v i5 L5 hi5 ⟨⟨q, rfl⟩, rfl, rfl⟩; have hq := foldI_bd q (n := 9) (by omega));
          (all_goals refine RS.pv (PV.sub rfl rfl (by omega)) rfl ?_);
          (all_goals refine RS.pv (PV.all tab_ok rfl) rfl ?_);
          (all_goals refine RS.nil ?_))
      | (refine CS.region (id := 10) ?_;
          refine RS.pv (PV.all tab_ok rfl) rfl ?_;
          (refine RS.call (Next_s tp 3 lv (at3 + 1) 20 _ _ (by omega) hl (by omega) rfl) rfl (by kernel_rfl) rfl ?_; rintro v i5 L5 hi5 ⟨⟨w, rfl⟩, rfl, rfl⟩; have hw := foldI_bd w (n := 20) (by omega));
          (all_goals (first | refine RS.pv (PV.all tab_ok rfl) rfl ?_ | refine RS.pv (PV.eqlT rfl rfl (by omega)) rfl ?_ | refine RS.pv (PV.eqlF rfl rfl (by omega)) rfl ?_ | refine RS.ifEql rfl rfl rfl (fun h => ?_) (fun h => ?_) | refine RS.ifSeql rfl rfl rfl (fun h => ?_) (fun h => ?_)));
          (all_goals refine RS.nil ?_))
      | (refine CS.region (id := 11) ?_;
          refine RS.pv (PV.all tab_ok rfl) rfl ?_;
          refine RS.pv (PV.all tab_ok rfl) rfl ?_;
          refine RS.nil ?_)
      | refine CS.ret ?_
      | refine thenQ.ret ?_
      | refine blkQ.ret ?_
      | refine retQ.ret ?_
      | refine CS.block ?_
      | refine CS.exit ?_
      | refine thenQ.exit ?_
      | refine blkQ.normal ?_
      | refine blkQ.here ?_
      | refine blkQ.past rfl ?_
      | refine retQ.normal ?_)
    · exact ⟨_, _, by omega, by omega, rfl, rfl⟩
    · exact ⟨_, _, by omega, by omega, rfl, rfl⟩
    rintro g3 vs i3 L3 hi3 ⟨tk, at4, ha6, ha7, rfl, rfl⟩
    replace hl := hl.le hi3
    replace hb := hb.up hi3
    replace hr := hr.le hi3
    repeat' (first
      | refine CS.seq ?_
      | refine thenQ.normal ?_
      | refine CS.cond_true rfl ?_
      | refine CS.cond_false rfl ?_
      | refine CS.skip ?_
      | (refine CS.region (id := 0) ?_;
          refine RS.box rfl rfl (fun b => ?_);
          refine RS.alloc tab_ok rfl rfl (fun b => ?_);
          refine RS.pv (PV.all tab_ok rfl) rfl ?_;
          refine RS.nil ?_)
      | (refine CS.region (id := 1) ?_;
          refine RS.pv (PV.all tab_ok rfl) rfl ?_)
      | (refine CS.region (id := 11) ?_;
          refine RS.pv (PV.all tab_ok rfl) rfl ?_;
          refine RS.pv (PV.all tab_ok rfl) rfl ?_;
          refine RS.nil ?_)
      | (refine CS.region (id := 12) ?_;
          refine RS.pv (PV.all tab_ok rfl) rfl ?_;
          refine RS.pv (PV.all tab_ok rfl) rfl ?_;
          (first | refine RS.lv (LV.load tab_ok rfl (Has.own 0 rfl) rfl) rfl ?_ | refine RS.lv (LV.load tab_ok rfl (Has.own 1 rfl) rfl) rfl ?_ | refine RS.lv (LV.load tab_ok rfl (Has.own 2 rfl) rfl) rfl ?_);
          refine RS.pv (PV.all tab_ok rfl) rfl ?_;
          (refine RS.call (GiveC_s [_, _, _, _] p nw js n tk _ r _ R hb.pool hr hmade.ok) rfl (by kernel_rfl) rfl ?_; rintro v i6 L6 hi6 ⟨e, js', rfl, hg, rfl⟩; have hp' := hb.pool.give hi6 hmade.ok hg; have hx' := hb.idx.give hg; have hgd := hg.giveD; replace hb := hb.up hi6; replace hr := hr.le hi6);
          (all_goals refine RS.pv (PV.all tab_ok rfl) rfl ?_);
          (all_goals refine RS.nil ?_))
      | (refine CS.region (id := 13) ?_;
          (first | refine RS.lv (LV.load tab_ok rfl (Has.own 0 rfl) rfl) rfl ?_ | refine RS.lv (LV.load tab_ok rfl (Has.own 1 rfl) rfl) rfl ?_ | refine RS.lv (LV.load tab_ok rfl (Has.own 2 rfl) rfl) rfl ?_);
          refine RS.pv (PV.all tab_ok rfl) rfl ?_;
          (first | refine RS.lv (LV.load tab_ok rfl (Has.own 0 rfl) rfl) rfl ?_ | refine RS.lv (LV.load tab_ok rfl (Has.own 1 rfl) rfl) rfl ?_ | refine RS.lv (LV.load tab_ok rfl (Has.own 2 rfl) rfl) rfl ?_);
          refine RS.pv (PV.all tab_ok rfl) rfl ?_;
          (refine RS.call (rGive_s _ nw (ods js nw) n tk _ r _ _ hb.refS hr) rfl (by kernel_rfl) rfl ?_; rintro v i7 L7 hi7 ⟨⟨w3, hv3, hw3⟩, rfl⟩; rw [hgd] at hv3 hw3; subst hv3; dsimp only at hw3 ⊢; obtain ⟨wa3, wc3, rfl⟩ := hw3.shape);
          (all_goals refine RS.pv (PV.all tab_ok rfl) rfl ?_);
          (all_goals refine RS.pv (PV.all tab_ok rfl) rfl ?_);
          (all_goals refine RS.pv (PV.all tab_ok rfl) rfl ?_);
          (all_goals refine RS.alloc tab_ok rfl rfl (fun b => ?_));
          (all_goals (first | refine RS.store (k := 0) tab_ok rfl rfl rfl rfl rfl rfl rfl rfl ?_ | refine RS.store (k := 1) tab_ok rfl rfl rfl rfl rfl rfl rfl rfl ?_ | refine RS.store (k := 2) tab_ok rfl rfl rfl rfl rfl rfl rfl rfl ?_));
          (all_goals refine RS.pv (PV.all tab_ok rfl) rfl ?_);
          (all_goals refine RS.nil ?_))
      | (refine CS.region (id := 14) ?_;
          (first | refine RS.lv (LV.load tab_ok rfl (Has.own 0 rfl) rfl) rfl ?_ | refine RS.lv (LV.load tab_ok rfl (Has.own 1 rfl) rfl) rfl ?_ | refine RS.lv (LV.load tab_ok rfl (Has.own 2 rfl) rfl) rfl ?_);
          refine RS.pv (PV.all tab_ok rfl) rfl ?_;
          refine RS.pv (PV.all tab_ok rfl) rfl ?_;
          refine RS.pv (PV.eqlT rfl rfl rfl) rfl ?_;
          (all_goals (first | refine RS.store (k := 0) tab_ok rfl rfl rfl rfl rfl rfl rfl rfl ?_ | refine RS.store (k := 1) tab_ok rfl rfl rfl rfl rfl rfl rfl rfl ?_ | refine RS.store (k := 2) tab_ok rfl rfl rfl rfl rfl rfl rfl rfl ?_));
          (all_goals refine RS.pv (PV.all tab_ok rfl) rfl ?_);
          (all_goals refine RS.nil ?_))
      | refine CS.ret ?_
      | refine thenQ.ret ?_
      | refine blkQ.ret ?_
      | refine retQ.ret ?_
      | refine CS.block ?_
      | refine CS.exit ?_
      | refine thenQ.exit ?_
      | refine blkQ.normal ?_
      | refine blkQ.here ?_
      | refine blkQ.past rfl ?_
      | refine retQ.normal ?_)
    exact ⟨_, _, _, _, _, _, rfl, Has.own 2 rfl, rfl, js', _, at4, [_, _, _, _], rfl, ⟨hp'.le hi7, hx', hw3⟩, by omega, by omega, rfl⟩
  | false =>
    by_cases hz3 : foldI z 6 = 3
    · rw [hz3]
      repeat' (first
        | refine CS.seq ?_
        | refine thenQ.normal ?_
        | refine CS.cond_true rfl ?_
        | refine CS.cond_false rfl ?_
        | refine CS.skip ?_
        | (refine CS.region (id := 0) ?_;
            refine RS.box rfl rfl (fun b => ?_);
            refine RS.alloc tab_ok rfl rfl (fun b => ?_);
            refine RS.pv (PV.all tab_ok rfl) rfl ?_;
            refine RS.nil ?_)
        | (refine CS.region (id := 1) ?_;
            refine RS.pv (PV.all tab_ok rfl) rfl ?_)
        | (refine CS.region (id := 15) ?_;
            (first | refine RS.pv (PV.all tab_ok rfl) rfl ?_ | refine RS.pv (PV.eqlT rfl rfl (by omega)) rfl ?_ | refine RS.pv (PV.eqlF rfl rfl (by omega)) rfl ?_ | refine RS.ifEql rfl rfl rfl (fun h => ?_) (fun h => ?_) | refine RS.ifSeql rfl rfl rfl (fun h => ?_) (fun h => ?_));
            (all_goals refine RS.pv (PV.all tab_ok rfl) rfl ?_);
            (all_goals refine RS.nil ?_))
        | (refine CS.region (id := 16) ?_;
            refine RS.pv (PV.all tab_ok rfl) rfl ?_;
            refine RS.pv (PV.all tab_ok rfl) rfl ?_;
            (refine RS.call (CancelC_s [_, _, _] p nw js n _ R hb.pool) rfl (by kernel_rfl) rfl ?_; rintro v i6 L6 hi6 ⟨e, js', rfl, hg, rfl⟩; have hp' := (hb.pool.cancel hg).le hi6; have hx' := hb.idx.cancel hg; have hgd := hg.cancelD; replace hb := hb.up hi6);
            (all_goals refine RS.pv (PV.all tab_ok rfl) rfl ?_);
            (all_goals refine RS.nil ?_))
        | (refine CS.region (id := 17) ?_;
            (first | refine RS.lv (LV.load tab_ok rfl (Has.own 0 rfl) rfl) rfl ?_ | refine RS.lv (LV.load tab_ok rfl (Has.own 1 rfl) rfl) rfl ?_ | refine RS.lv (LV.load tab_ok rfl (Has.own 2 rfl) rfl) rfl ?_);
            refine RS.pv (PV.all tab_ok rfl) rfl ?_;
            (refine RS.call (rCancel_s _ nw (ods js nw) n _ _ hb.refS) rfl (by kernel_rfl) rfl ?_; rintro v i7 L7 hi7 ⟨⟨w3, hv3, hw3⟩, rfl⟩; rw [hgd] at hv3 hw3; subst hv3; dsimp only at hw3 ⊢; obtain ⟨wa3, wc3, rfl⟩ := hw3.shape);
            (all_goals refine RS.pv (PV.all tab_ok rfl) rfl ?_);
            (all_goals refine RS.pv (PV.all tab_ok rfl) rfl ?_);
            (all_goals refine RS.pv (PV.all tab_ok rfl) rfl ?_);
            (all_goals refine RS.alloc tab_ok rfl rfl (fun b => ?_));
            (all_goals (first | refine RS.store (k := 0) tab_ok rfl rfl rfl rfl rfl rfl rfl rfl ?_ | refine RS.store (k := 1) tab_ok rfl rfl rfl rfl rfl rfl rfl rfl ?_ | refine RS.store (k := 2) tab_ok rfl rfl rfl rfl rfl rfl rfl rfl ?_));
            (all_goals refine RS.pv (PV.all tab_ok rfl) rfl ?_);
            (all_goals refine RS.nil ?_))
        | (refine CS.region (id := 18) ?_;
            (first | refine RS.lv (LV.load tab_ok rfl (Has.own 0 rfl) rfl) rfl ?_ | refine RS.lv (LV.load tab_ok rfl (Has.own 1 rfl) rfl) rfl ?_ | refine RS.lv (LV.load tab_ok rfl (Has.own 2 rfl) rfl) rfl ?_);
            refine RS.pv (PV.all tab_ok rfl) rfl ?_;
            refine RS.pv (PV.all tab_ok rfl) rfl ?_;
            refine RS.pv (PV.eqlT rfl rfl rfl) rfl ?_;
            (all_goals (first | refine RS.store (k := 0) tab_ok rfl rfl rfl rfl rfl rfl rfl rfl ?_ | refine RS.store (k := 1) tab_ok rfl rfl rfl rfl rfl rfl rfl rfl ?_ | refine RS.store (k := 2) tab_ok rfl rfl rfl rfl rfl rfl rfl rfl ?_));
            (all_goals refine RS.pv (PV.all tab_ok rfl) rfl ?_);
            (all_goals refine RS.nil ?_))
        | refine CS.ret ?_
        | refine thenQ.ret ?_
        | refine blkQ.ret ?_
        | refine retQ.ret ?_
        | refine CS.block ?_
        | refine CS.exit ?_
        | refine thenQ.exit ?_
        | refine blkQ.normal ?_
        | refine blkQ.here ?_
        | refine blkQ.past rfl ?_
        | refine retQ.normal ?_)
      exact ⟨_, _, _, _, _, _, rfl, Has.own 1 rfl, rfl, js', _, _, [_, _, _], rfl, ⟨hp'.le hi7, hx', hw3⟩, by omega, by omega, rfl⟩
    · repeat' (first
        | refine CS.cut (x := .seq (.region 20 _ _) _) [1, 6, 8, 19] (fun vs i' L' => ∃ kk : Int, vs = [.pointer (some ⟨p, 0, none⟩), .pointer (some ⟨b6, 0, none⟩), .pointer (some ⟨b8, 0, none⟩), .int .i64 kk] ∧ L' = (b8, .cells [.slice none 0 0].toArray 45 (0, 0)) :: (b6, .cells [.slice wa nw wc].toArray 45 (0, 0)) :: (tp, tapeO lv (at_ + 1 + 1 + 1 + 1 + 1)) :: (poolL p js nw ++ R)) ?_ ?_
        | refine CS.seq ?_
        | refine thenQ.normal ?_
        | refine CS.cond_true rfl ?_
        | refine CS.cond_false rfl ?_
        | refine CS.skip ?_
        | (refine CS.region (id := 0) ?_;
            refine RS.box rfl rfl (fun b => ?_);
            refine RS.alloc tab_ok rfl rfl (fun b => ?_);
            refine RS.pv (PV.all tab_ok rfl) rfl ?_;
            refine RS.nil ?_)
        | (refine CS.region (id := 1) ?_;
            refine RS.pv (PV.all tab_ok rfl) rfl ?_)
        | (refine CS.region (id := 15) ?_;
            (first | refine RS.pv (PV.all tab_ok rfl) rfl ?_ | refine RS.pv (PV.eqlT rfl rfl (by omega)) rfl ?_ | refine RS.pv (PV.eqlF rfl rfl (by omega)) rfl ?_ | refine RS.ifEql rfl rfl rfl (fun h => ?_) (fun h => ?_) | refine RS.ifSeql rfl rfl rfl (fun h => ?_) (fun h => ?_));
            (all_goals refine RS.pv (PV.all tab_ok rfl) rfl ?_);
            (all_goals refine RS.nil ?_))
        | (refine CS.region (id := 19) ?_;
            refine RS.pv (PV.all tab_ok rfl) rfl ?_;
            (refine RS.call (Next_s tp 2 lv (at_ + 1 + 1 + 1) 5 _ _ (by omega) hl (by omega) rfl) rfl (by kernel_rfl) rfl ?_; rintro v i5 L5 hi5 ⟨⟨u, rfl⟩, rfl, rfl⟩; have hu := foldI_bd u (n := 5) (by omega));
            (all_goals refine RS.pv (PV.all tab_ok rfl) rfl ?_);
            (all_goals refine RS.nil ?_))
        | (refine CS.region (id := 20) ?_;
            refine RS.pv (PV.all tab_ok rfl) rfl ?_;
            (refine RS.call (Next_s tp 2 lv (at_ + 1 + 1 + 1 + 1) 12 _ _ (by omega) hl (by omega) rfl) rfl (by kernel_rfl) rfl ?_; rintro v i5 L5 hi5 ⟨⟨q, rfl⟩, rfl, rfl⟩; have hq := foldI_bd q (n := 12) (by omega));
            (all_goals (first | refine RS.pv (PV.all tab_ok rfl) rfl ?_ | refine RS.pv (PV.eqlT rfl rfl (by omega)) rfl ?_ | refine RS.pv (PV.eqlF rfl rfl (by omega)) rfl ?_ | refine RS.ifEql rfl rfl rfl (fun h => ?_) (fun h => ?_) | refine RS.ifSeql rfl rfl rfl (fun h => ?_) (fun h => ?_)));
            (all_goals refine RS.nil ?_))
        | (refine CS.region (id := 21) ?_;
            refine RS.pv (PV.all tab_ok rfl) rfl ?_;
            refine RS.pv (PV.all tab_ok rfl) rfl ?_;
            refine RS.nil ?_)
        | refine CS.ret ?_
        | refine thenQ.ret ?_
        | refine blkQ.ret ?_
        | refine retQ.ret ?_
        | refine CS.block ?_
        | refine CS.exit ?_
        | refine thenQ.exit ?_
        | refine blkQ.normal ?_
        | refine blkQ.here ?_
        | refine blkQ.past rfl ?_
        | refine retQ.normal ?_)
      · exact ⟨_, rfl, rfl⟩
      · exact ⟨_, rfl, rfl⟩
      rintro g3 vs i3 L3 hi3 ⟨kk, rfl, rfl⟩
      replace hl := hl.le hi3
      replace hb := hb.up hi3
      by_cases hk : 0 ≤ kk ∧ kk ≤ 1000
      · obtain ⟨t, rfl⟩ : ∃ t : Nat, kk = t := ⟨kk.toNat, by omega⟩
        repeat' (first
          | refine CS.seq ?_
          | refine thenQ.normal ?_
          | refine CS.cond_true rfl ?_
          | refine CS.cond_false rfl ?_
          | refine CS.skip ?_
          | (refine CS.region (id := 0) ?_;
              refine RS.box rfl rfl (fun b => ?_);
              refine RS.alloc tab_ok rfl rfl (fun b => ?_);
              refine RS.pv (PV.all tab_ok rfl) rfl ?_;
              refine RS.nil ?_)
          | (refine CS.region (id := 1) ?_;
              refine RS.pv (PV.all tab_ok rfl) rfl ?_)
          | (refine CS.region (id := 15) ?_;
              (first | refine RS.pv (PV.all tab_ok rfl) rfl ?_ | refine RS.pv (PV.eqlT rfl rfl (by omega)) rfl ?_ | refine RS.pv (PV.eqlF rfl rfl (by omega)) rfl ?_ | refine RS.ifEql rfl rfl rfl (fun h => ?_) (fun h => ?_) | refine RS.ifSeql rfl rfl rfl (fun h => ?_) (fun h => ?_));
              (all_goals refine RS.pv (PV.all tab_ok rfl) rfl ?_);
              (all_goals refine RS.nil ?_))
          | (refine CS.region (id := 22) ?_;
              refine RS.pv (PV.all tab_ok rfl) rfl ?_;
              refine RS.pv (PV.all tab_ok rfl) rfl ?_;
              (refine RS.call (TickC_s [_, _, _] p nw js t (by omega) _ R hb.pool) rfl (by kernel_rfl) rfl ?_; rintro v i6 L6 hi6 ⟨sv, rfl, hsv, rfl⟩; obtain ⟨sa, sc, rfl, _⟩ := id hsv; have hp' := (hb.pool.tick (t := t) (by omega)).le hi6; have hx' := hb.idx.tick (t := t); replace hb := hb.up hi6);
              (all_goals refine RS.pv (PV.all tab_ok rfl) rfl ?_);
              (all_goals refine RS.pv (PV.all tab_ok rfl) rfl ?_);
              (all_goals refine RS.pv (PV.all tab_ok rfl) rfl ?_);
              (all_goals refine RS.pv (PV.all tab_ok rfl) rfl ?_);
              (all_goals refine RS.pv (PV.all tab_ok rfl) rfl ?_);
              (all_goals refine RS.nil ?_))
          | (refine CS.region (id := 23) ?_;
              (first | refine RS.lv (LV.load tab_ok rfl (Has.own 0 rfl) rfl) rfl ?_ | refine RS.lv (LV.load tab_ok rfl (Has.own 1 rfl) rfl) rfl ?_ | refine RS.lv (LV.load tab_ok rfl (Has.own 2 rfl) rfl) rfl ?_);
              refine RS.pv (PV.all tab_ok rfl) rfl ?_;
              (refine RS.call (rTick_s _ nw (ods js nw) t _ _ hb.refS (by omega)) rfl (by kernel_rfl) rfl ?_; rintro v i7 L7 hi7 ⟨⟨w3, sv2, cs2, rfl, hw3, hsv2, hrw2⟩, rfl⟩; obtain ⟨wa3, wc3, rfl⟩ := hw3.shape; obtain ⟨sa2, sc2, rfl, _⟩ := id hsv2);
              (all_goals refine RS.pv (PV.all tab_ok rfl) rfl ?_);
              (all_goals refine RS.pv (PV.all tab_ok rfl) rfl ?_);
              (all_goals refine RS.pv (PV.all tab_ok rfl) rfl ?_);
              (all_goals refine RS.pv (PV.all tab_ok rfl) rfl ?_);
              (all_goals refine RS.alloc tab_ok rfl rfl (fun b22 => ?_));
              (all_goals (first | refine RS.store (k := 0) tab_ok rfl rfl rfl rfl rfl rfl rfl rfl ?_ | refine RS.store (k := 1) tab_ok rfl rfl rfl rfl rfl rfl rfl rfl ?_ | refine RS.store (k := 2) tab_ok rfl rfl rfl rfl rfl rfl rfl rfl ?_));
              (all_goals refine RS.pv (PV.all tab_ok rfl) rfl ?_);
              (all_goals refine RS.pv (PV.all tab_ok rfl) rfl ?_);
              (all_goals refine RS.nil ?_))
          | refine CS.ret ?_
          | refine thenQ.ret ?_
          | refine blkQ.ret ?_
          | refine retQ.ret ?_
          | refine CS.block ?_
          | refine CS.exit ?_
          | refine thenQ.exit ?_
          | refine blkQ.normal ?_
          | refine blkQ.here ?_
          | refine blkQ.past rfl ?_
          | refine retQ.normal ?_)
        have hje := ended_rw (hb.pool) t
        have hol := outs_len hb.pool t
        have hoe := outs_ok hb t
        have h8 : (js.filterMap (fin t)).length ≤ 8 := by have := List.length_filterMap_le (fin t) js; have := hb.pool.len; omega
        have hS := fun i' (hi' : Imm.le i7 i') L => SameJobs_s (.slice sa (js.filterMap (fin t)).length sc) (.slice sa2 (outs (ods js nw) t).length sc2) (js.filterMap (fin t)).length (outs (ods js nw) t) (endedC js t) cs2 i' L ((hsv.le hi7).le hi') (by rw [← hol]; exact hsv2.le hi') (Rw.mono hje fun r j h => (JobV.le h hi7).le hi') (Rw.mono hrw2 fun r j h => JobV.le h hi') hol.symm hoe (by omega)
        refine CS.draw [0, 1, 2, 3, 4, 5, 6, 7, 8, 9] [10] [9] [(b22, .cells [.slice wa3 nw wc3].toArray 45 (0, 0)) :: (b8, .cells [.slice none 0 0].toArray 45 (0, 0)) :: (b6, .cells [.slice wa nw wc].toArray 45 (0, 0)) :: (tp, tapeO lv (at_ + 1 + 1 + 1 + 1 + 1)) :: (poolL p (js.map (tick1 t)) nw ++ R), (b22, .cells [.slice wa3 nw wc3].toArray 45 (0, 0)) :: (b8, .cells [.slice wa3 nw wc3].toArray 45 (0, 0)) :: (b6, .cells [.slice wa nw wc].toArray 45 (0, 0)) :: (tp, tapeO lv (at_ + 1 + 1 + 1 + 1 + 1)) :: (poolL p (js.map (tick1 t)) nw ++ R)] mix (by kernel_rfl) rfl rfl [_] rfl ?_
        refine GS.fix (v := .agg #[.slice wa3 nw wc3]) rfl rfl rfl rfl rfl rfl (fun i' _ L' hL' => by rcases List.mem_cons.1 hL' with rfl | h; exact LV.load tab_ok rfl (Has.own 0 rfl) rfl; rw [List.mem_singleton.1 h]; exact LV.load tab_ok rfl (Has.own 0 rfl) rfl) ?_
        refine GS.pv (PV.all tab_ok rfl) rfl rfl rfl rfl rfl rfl ?_
        refine GS.pv (PV.all tab_ok rfl) rfl rfl rfl rfl rfl rfl ?_
        refine GS.pv (PV.eqlT rfl rfl rfl) rfl rfl rfl rfl rfl rfl ?_
        (all_goals refine GS.pv (PV.all tab_ok rfl) rfl rfl rfl rfl rfl rfl ?_)
        (all_goals (first | refine GS.pv (PV.all tab_ok rfl) rfl rfl rfl rfl rfl rfl ?_ | refine GS.skip rfl rfl rfl rfl rfl ?_))
        (all_goals (first | refine GS.pv (PV.all tab_ok rfl) rfl rfl rfl rfl rfl rfl ?_ | refine GS.skip rfl rfl rfl rfl rfl ?_))
        (all_goals refine GS.valA (v := .bool true) rfl rfl rfl rfl (fun i' hi' L hL => ⟨rfl, OpS.call (by kernel_rfl) rfl (hS i' hi' L) (fun _ _ _ _ h => ⟨h.2.2, h.1⟩)⟩) ⟨_, .head _⟩ ?_)
        (all_goals refine GS.pv (PV.all tab_ok rfl) rfl rfl rfl rfl rfl rfl ?_)
        refine GS.turn0 0 rfl rfl rfl rfl rfl rfl (by decide) rfl rfl (fun i2 _ => OpS.store (k := 1) tab_ok rfl rfl rfl rfl rfl rfl rfl rfl) ?_
        refine GS.done rfl rfl (fun i9 hi9 => ?_)
        refine RS.pv (PV.all tab_ok rfl) rfl ?_
        refine RS.nil ?_
        refine thenQ.normal ?_
        refine CS.ret ?_
        refine retQ.ret ?_
        exact ⟨_, _, _, _, _, _, rfl, Has.own 1 rfl, rfl, js.map (tick1 t), _, _, [_, _, _], rfl, ⟨(hp'.le hi7).le hi9, hx', by rw [ods_tick]; exact hw3.le hi9⟩, by omega, by omega, rfl⟩
      · have hkk : kk < 0 ∨ 1000 < kk := by omega
        repeat' (first
          | refine CS.seq ?_
          | refine thenQ.normal ?_
          | refine CS.cond_true rfl ?_
          | refine CS.cond_false rfl ?_
          | refine CS.skip ?_
          | (refine CS.region (id := 0) ?_;
              refine RS.box rfl rfl (fun b => ?_);
              refine RS.alloc tab_ok rfl rfl (fun b => ?_);
              refine RS.pv (PV.all tab_ok rfl) rfl ?_;
              refine RS.nil ?_)
          | (refine CS.region (id := 1) ?_;
              refine RS.pv (PV.all tab_ok rfl) rfl ?_)
          | (refine CS.region (id := 15) ?_;
              (first | refine RS.pv (PV.all tab_ok rfl) rfl ?_ | refine RS.pv (PV.eqlT rfl rfl (by omega)) rfl ?_ | refine RS.pv (PV.eqlF rfl rfl (by omega)) rfl ?_ | refine RS.ifEql rfl rfl rfl (fun h => ?_) (fun h => ?_) | refine RS.ifSeql rfl rfl rfl (fun h => ?_) (fun h => ?_));
              (all_goals refine RS.pv (PV.all tab_ok rfl) rfl ?_);
              (all_goals refine RS.nil ?_))
          | (refine CS.region (id := 22) ?_;
              refine RS.pv (PV.all tab_ok rfl) rfl ?_;
              refine RS.pv (PV.all tab_ok rfl) rfl ?_;
              (refine RS.call (Tick_bad p kk _ _ hkk) rfl (by kernel_rfl) rfl ?_; rintro v i6 L6 hi6 ⟨rfl, rfl, rfl⟩);
              (all_goals refine RS.pv (PV.all tab_ok rfl) rfl ?_);
              (all_goals refine RS.pv (PV.all tab_ok rfl) rfl ?_);
              (all_goals refine RS.pv (PV.all tab_ok rfl) rfl ?_);
              (all_goals refine RS.pv (PV.all tab_ok rfl) rfl ?_);
              (all_goals refine RS.pv (PV.all tab_ok rfl) rfl ?_);
              (all_goals refine RS.nil ?_))
          | (refine CS.region (id := 23) ?_;
              (first | refine RS.lv (LV.load tab_ok rfl (Has.own 0 rfl) rfl) rfl ?_ | refine RS.lv (LV.load tab_ok rfl (Has.own 1 rfl) rfl) rfl ?_ | refine RS.lv (LV.load tab_ok rfl (Has.own 2 rfl) rfl) rfl ?_);
              refine RS.pv (PV.all tab_ok rfl) rfl ?_;
              (refine RS.call (rTick_bad _ nw (ods js nw) kk _ _ hb.ref hkk) rfl (by kernel_rfl) rfl ?_; rintro v i7 L7 hi7 ⟨rfl, rfl⟩);
              (all_goals refine RS.pv (PV.all tab_ok rfl) rfl ?_);
              (all_goals refine RS.pv (PV.all tab_ok rfl) rfl ?_);
              (all_goals refine RS.pv (PV.all tab_ok rfl) rfl ?_);
              (all_goals refine RS.pv (PV.all tab_ok rfl) rfl ?_);
              (all_goals refine RS.alloc tab_ok rfl rfl (fun b22 => ?_));
              (all_goals (first | refine RS.store (k := 0) tab_ok rfl rfl rfl rfl rfl rfl rfl rfl ?_ | refine RS.store (k := 1) tab_ok rfl rfl rfl rfl rfl rfl rfl rfl ?_ | refine RS.store (k := 2) tab_ok rfl rfl rfl rfl rfl rfl rfl rfl ?_));
              (all_goals refine RS.pv (PV.all tab_ok rfl) rfl ?_);
              (all_goals refine RS.pv (PV.all tab_ok rfl) rfl ?_);
              (all_goals refine RS.nil ?_))
          | refine CS.ret ?_
          | refine thenQ.ret ?_
          | refine blkQ.ret ?_
          | refine retQ.ret ?_
          | refine CS.block ?_
          | refine CS.exit ?_
          | refine thenQ.exit ?_
          | refine blkQ.normal ?_
          | refine blkQ.here ?_
          | refine blkQ.past rfl ?_
          | refine retQ.normal ?_)
        have hS := fun i' (_ : Imm.le i7 i') L => SameJobs_s (.slice none 0 0) (.slice none 0 0) 0 [] [] [] i' L (Sl.nil _ 14) (Sl.nil _ 14) Rw.nil Rw.nil rfl (fun j hj => by cases hj) (by omega)
        refine CS.draw [0, 1, 2, 3, 4, 5, 6, 7, 8, 9] [10] [9] [(b22, .cells [.slice wa nw wc].toArray 45 (0, 0)) :: (b8, .cells [.slice none 0 0].toArray 45 (0, 0)) :: (b6, .cells [.slice wa nw wc].toArray 45 (0, 0)) :: (tp, tapeO lv (at_ + 1 + 1 + 1 + 1 + 1)) :: (poolL p js nw ++ R), (b22, .cells [.slice wa nw wc].toArray 45 (0, 0)) :: (b8, .cells [.slice wa nw wc].toArray 45 (0, 0)) :: (b6, .cells [.slice wa nw wc].toArray 45 (0, 0)) :: (tp, tapeO lv (at_ + 1 + 1 + 1 + 1 + 1)) :: (poolL p js nw ++ R)] mix (by kernel_rfl) rfl rfl [_] rfl ?_
        refine GS.fix (v := .agg #[.slice wa nw wc]) rfl rfl rfl rfl rfl rfl (fun i' _ L' hL' => by rcases List.mem_cons.1 hL' with rfl | h; exact LV.load tab_ok rfl (Has.own 0 rfl) rfl; rw [List.mem_singleton.1 h]; exact LV.load tab_ok rfl (Has.own 0 rfl) rfl) ?_
        refine GS.pv (PV.all tab_ok rfl) rfl rfl rfl rfl rfl rfl ?_
        refine GS.pv (PV.all tab_ok rfl) rfl rfl rfl rfl rfl rfl ?_
        refine GS.pv (PV.eqlT rfl rfl rfl) rfl rfl rfl rfl rfl rfl ?_
        (all_goals refine GS.pv (PV.all tab_ok rfl) rfl rfl rfl rfl rfl rfl ?_)
        (all_goals (first | refine GS.pv (PV.all tab_ok rfl) rfl rfl rfl rfl rfl rfl ?_ | refine GS.skip rfl rfl rfl rfl rfl ?_))
        (all_goals (first | refine GS.pv (PV.all tab_ok rfl) rfl rfl rfl rfl rfl rfl ?_ | refine GS.skip rfl rfl rfl rfl rfl ?_))
        (all_goals refine GS.valA (v := .bool true) rfl rfl rfl rfl (fun i' hi' L hL => ⟨rfl, OpS.call (by kernel_rfl) rfl (hS i' hi' L) (fun _ _ _ _ h => ⟨h.2.2, h.1⟩)⟩) ⟨_, .head _⟩ ?_)
        (all_goals refine GS.pv (PV.all tab_ok rfl) rfl rfl rfl rfl rfl rfl ?_)
        refine GS.turn0 0 rfl rfl rfl rfl rfl rfl (by decide) rfl rfl (fun i2 _ => OpS.store (k := 1) tab_ok rfl rfl rfl rfl rfl rfl rfl rfl) ?_
        refine GS.done rfl rfl (fun i9 hi9 => ?_)
        refine RS.pv (PV.all tab_ok rfl) rfl ?_
        refine RS.nil ?_
        refine thenQ.normal ?_
        refine CS.ret ?_
        refine retQ.ret ?_
        exact ⟨_, _, _, _, _, _, rfl, Has.own 1 rfl, rfl, js, _, _, [_, _, _], rfl, hb.up (hi7.trans hi9), by omega, by omega, rfl⟩
end Go.Proofs.Ytmcajldlcomegaa
