/- Contracts: a new pool of both kinds. -/
import Derived.Test.YtmcajldlcomegaaW17
import Derived.Test.YtmcajldlcomegaaEng10
namespace Go.Proofs.Ytmcajldlcomegaa
open Go Go.Eng

theorem flatten_rep (z : List Value) (hz : 0 < z.length) : ∀ (m j : Nat), j < m * z.length → (List.replicate m z).flatten[j]? = z[j % z.length]?
  | 0, j, h => by omega
  | m + 1, j, h => by
    rw [List.replicate_succ, List.flatten_cons]
    by_cases hj : j < z.length
    · rw [List.getElem?_append_left hj, Nat.mod_eq_of_lt hj]
    · rw [List.getElem?_append_right (by omega), flatten_rep z hz m (j - z.length) (by rw [Nat.add_mul, Nat.one_mul] at h; omega), ← Nat.mod_eq_sub_mod (by omega)]
theorem cells_rep {cs z : List Value} {m : Nat} (hz : 0 < z.length) (h1 : cs.length = m * z.length) (h2 : ∀ j, j < m * z.length → cs[j]? = z[j % z.length]?) : cs = (List.replicate m z).flatten := by
  apply List.ext_getElem?
  intro j
  by_cases hj : j < m * z.length
  · rw [h2 j hj, flatten_rep z hz m j hj]
  · rw [List.getElem?_eq_none (by omega), List.getElem?_eq_none]
    simp; omega
theorem zrow_len : zrow.length = 14 := rfl
theorem RowsV.zero (i : Imm) (m : Nat) : RowsV i (List.replicate m zrow).flatten (List.replicate m none) := by
  refine ⟨List.replicate m zrow, rfl, by simp, fun k o hk => ⟨zrow, ?_, ?_⟩⟩
  · have := (List.getElem?_eq_some_iff.1 hk).1
    simp at this
    rw [List.getElem?_replicate, if_pos this]
  · rw [List.getElem?_replicate] at hk
    split at hk
    · cases hk; rfl
    · cases hk
theorem RefV.le {i i' : Imm} {v : Value} {nw : Nat} {l : List (Option JobD)} (h : RefV i v nw l) (hi : i.le i') : RefV i' v nw l := by
  obtain ⟨sv, cs, h1, h2, ⟨rows, h3, h4, h5⟩, h6⟩ := h
  exact ⟨sv, cs, h1, h2.le hi, ⟨rows, h3, h4, fun k o hk => by obtain ⟨r, h7, h8⟩ := h5 k o hk; exact ⟨r, h7, h8.le hi⟩⟩, h6⟩
theorem RefV.shape {i : Imm} {v : Value} {nw : Nat} {l : List (Option JobD)} (h : RefV i v nw l) : ∃ ao cap, v = .agg #[.slice ao nw cap] := by
  obtain ⟨sv, cs, rfl, ⟨ao, cap, rfl, _⟩, _⟩ := h
  exact ⟨ao, cap, rfl⟩
theorem rNewF_s (nw : Nat) (i : Imm) (L : SH) (h1 : 1 ≤ nw) (h2 : nw ≤ 8) : FnS Try.prog 19 [.int .i64 nw] i L fun v i' L' => (∃ v2, v = .tuple #[v2, .int .i64 0] ∧ RefV i' v2 nw (List.replicate nw none)) ∧ L' = L := by
  refine FnS.state (K := fun v i' L' => ∃ b cs o, v = .tuple #[.agg #[.slice (some ⟨b, 0, none⟩) nw nw], .int .i64 0] ∧ cs = (List.replicate nw zrow).flatten ∧ L' = (b, .cells (List.toArray cs) 41 (0, 0)) :: o :: L) ?_ ?_
  rotate_left
  · rintro v i' L' w _ hs ⟨b, cs, o, rfl, rfl, rfl⟩
    have hs1 := (hs.perm (List.Perm.swap _ _ _)).drop
    obtain ⟨h3, h4⟩ := St.freeze hs1
    have hl : (List.replicate nw zrow).flatten.length = nw * 14 := by simp [zrow_len]
    refine ⟨_, L, h3, h4, ⟨_, rfl, _, _, rfl, ⟨_, _, rfl, hl, .inr ⟨b, 0, (List.replicate nw zrow).flatten, 41, (0, 0), rfl, by simp [Imm.add], fun j _ => by rw [Nat.zero_add]⟩⟩, RowsV.zero _ nw, by simp⟩, rfl⟩
  refine FnS.introCT tab_ok Try.func19 rfl Try.ntmps19 (by simp) Try.results19 ?_
  repeat' (first
    | refine CS.seq ?_
    | refine thenQ.normal ?_
    | refine CS.cond_true rfl ?_
    | refine CS.cond_false rfl ?_
    | refine CS.skip ?_
    | (refine CS.region (id := 0) ?_;
        refine RS.alloc tab_ok rfl rfl (fun b => ?_);
        refine RS.pv (PV.all tab_ok rfl) rfl ?_;
        refine RS.nil ?_)
    | (refine CS.region (id := 1) ?_;
        refine RS.pv (PV.all tab_ok rfl) rfl ?_;
        (first | refine RS.pv (PV.lssT rfl rfl (by omega)) rfl ?_ | refine RS.pv (PV.lssF rfl rfl (by omega)) rfl ?_ | refine RS.ifLss rfl rfl rfl (fun h => ?_) (fun h => ?_));
        (all_goals refine RS.pv (PV.all tab_ok rfl) rfl ?_);
        (all_goals (first | refine RS.pv (PV.all tab_ok rfl) rfl ?_ | refine RS.skip rfl ?_));
        (all_goals (first | refine RS.pv (PV.gtrT rfl rfl (by omega)) rfl ?_ | refine RS.pv (PV.gtrF rfl rfl (by omega)) rfl ?_ | refine RS.ifGtr rfl rfl rfl (fun h => ?_) (fun h => ?_) | refine RS.skip rfl ?_));
        (all_goals refine RS.pv (PV.all tab_ok rfl) rfl ?_);
        (all_goals refine RS.nil ?_))
    | (refine CS.region (id := 2) ?_;
        refine RS.pv (PV.all tab_ok rfl) rfl ?_;
        (first | refine RS.store (k := 0) tab_ok rfl rfl rfl rfl rfl rfl rfl rfl ?_ | refine RS.store (k := 1) tab_ok rfl rfl rfl rfl rfl rfl rfl rfl ?_ | refine RS.store (k := 2) tab_ok rfl rfl rfl rfl rfl rfl rfl rfl ?_);
        refine RS.pv (PV.all tab_ok rfl) rfl ?_;
        refine RS.nil ?_)
    | (refine CS.region (id := 3) ?_;
        refine RS.pv (PV.all tab_ok rfl) rfl ?_;
        (refine RS.make tab_ok (m := nw) (sz := 14) (bytes := 224) rfl rfl rfl ⟨_, rfl, rfl⟩ ⟨_, rfl, rfl, rfl, rfl⟩ (by omega) (by omega) (by omega) ?_; intro mb mcs hm1 hm2);
        (all_goals refine RS.pv (PV.all tab_ok rfl) rfl ?_);
        (all_goals (first | refine RS.store (k := 0) tab_ok rfl rfl rfl rfl rfl rfl rfl rfl ?_ | refine RS.store (k := 1) tab_ok rfl rfl rfl rfl rfl rfl rfl rfl ?_ | refine RS.store (k := 2) tab_ok rfl rfl rfl rfl rfl rfl rfl rfl ?_));
        (all_goals refine RS.pv (PV.all tab_ok rfl) rfl ?_);
        (all_goals refine RS.nil ?_))
    | refine CS.ret ?_
    | refine thenQ.ret ?_
    | refine blkQ.ret ?_
    | refine retQ.ret ?_
    | refine CS.block ?_
    | refine CS.exit ?_
    | refine thenQ.exit ?_
    | refine blkQ.normal ?_
    | refine blkQ.here ?_
    | refine blkQ.past rfl ?_
    | refine retQ.normal ?_)
  exact ⟨_, _, _, _, _, _, rfl, Has.own 1 rfl, rfl, mb, _, _, rfl, cells_rep (z := zrow) (by rw [zrow_len]; omega) hm1 hm2, rfl⟩
theorem pools_s (tp : Nat) (lv : Value) (at_ : Int) (i : Imm) (R : SH) (hl : IntSl i lv) (ha : 0 ≤ at_ ∧ at_ ≤ 1000000000000) :
    FnS Try.prog 22 [.pointer (some ⟨tp, 0, none⟩)] i ((tp, tapeO lv at_) :: R) fun v i' L' => ∃ p nw v2, v = .tuple #[.pointer (some ⟨p, 0, none⟩), v2] ∧ 1 ≤ nw ∧ nw ≤ 4 ∧ RefV i' v2 nw (List.replicate nw none) ∧ L' = (tp, tapeO lv (at_ + 1)) :: (poolL p (List.replicate 8 none) nw ++ R) := by
  refine FnS.state (K := fun v i' L' => ∃ p nw v2 G, v = .tuple #[.pointer (some ⟨p, 0, none⟩), v2] ∧ 1 ≤ nw ∧ nw ≤ 4 ∧ RefV i' v2 nw (List.replicate nw none) ∧ L'.Perm (G ++ ((tp, tapeO lv (at_ + 1)) :: (poolL p (List.replicate 8 none) nw ++ R)))) ?_ ?_
  rotate_left
  · rintro v i' L' w _ hs ⟨p, nw, v2, G, h1, h2, h3, h4, hL⟩
    exact ⟨i', _, Imm.le.refl i', (hs.perm hL).dropL, p, nw, v2, h1, h2, h3, h4, rfl⟩
  refine FnS.introTC tab_ok Try.func22 rfl Try.ntmps22 (by simp) Try.results22 ?_
  repeat' (first
    | refine CS.seq ?_
    | refine thenQ.normal ?_
    | refine CS.cond_true rfl ?_
    | refine CS.cond_false rfl ?_
    | refine CS.skip ?_
    | (refine CS.region (id := 0) ?_;
        refine RS.pv (PV.all tab_ok rfl) rfl ?_;
        refine RS.alloc tab_ok rfl rfl (fun b => ?_);
        refine RS.nil ?_)
    | (refine CS.region (id := 1) ?_;
        refine RS.pv (PV.all tab_ok rfl) rfl ?_;
        (refine RS.call (Next_s tp 1 lv at_ 4 _ _ (by omega) hl ha rfl) rfl (by kernel_rfl) rfl ?_; rintro v i1 L1 hi1 ⟨⟨x, rfl⟩, rfl, rfl⟩; have hx := foldI_bd x (n := 4) (by omega));
        (all_goals refine RS.pv (PV.add rfl rfl (by omega)) rfl ?_);
        (all_goals refine RS.pv (PV.all tab_ok rfl) rfl ?_);
        (all_goals refine RS.nil ?_))
    | refine CS.ret ?_
    | refine thenQ.ret ?_
    | refine blkQ.ret ?_
    | refine retQ.ret ?_
    | refine CS.block ?_
    | refine CS.exit ?_
    | refine thenQ.exit ?_
    | refine blkQ.normal ?_
    | refine blkQ.here ?_
    | refine blkQ.past rfl ?_
    | refine retQ.normal ?_)
  obtain ⟨nw, hnn⟩ : ∃ nw : Nat, 1 + foldI x 4 = nw := ⟨(1 + foldI x 4).toNat, by omega⟩
  have h1 : 1 ≤ nw := by omega
  have h4 : nw ≤ 4 := by omega
  rw [hnn]
  repeat' (first
    | refine CS.seq ?_
    | refine thenQ.normal ?_
    | refine CS.cond_true rfl ?_
    | refine CS.cond_false rfl ?_
    | refine CS.skip ?_
    | (refine CS.region (id := 0) ?_;
        refine RS.pv (PV.all tab_ok rfl) rfl ?_;
        refine RS.alloc tab_ok rfl rfl (fun b => ?_);
        refine RS.nil ?_)
    | (refine CS.region (id := 2) ?_;
        refine RS.pv (PV.all tab_ok rfl) rfl ?_;
        (refine RS.call (New_s nw _ _ h1 (by omega)) rfl (by kernel_rfl) rfl ?_; rintro v i2 L2 hi2 ⟨p, rfl, rfl, rfl⟩);
        (all_goals refine RS.pv (PV.all tab_ok rfl) rfl ?_);
        (all_goals refine RS.pv (PV.all tab_ok rfl) rfl ?_);
        (all_goals refine RS.pv (PV.all tab_ok rfl) rfl ?_);
        (all_goals refine RS.pv (PV.all tab_ok rfl) rfl ?_);
        (all_goals refine RS.pv (PV.all tab_ok rfl) rfl ?_);
        (all_goals refine RS.nil ?_))
    | (refine CS.region (id := 3) ?_;
        refine RS.pv (PV.all tab_ok rfl) rfl ?_;
        (refine RS.call (rNewF_s nw _ _ h1 (by omega)) rfl (by kernel_rfl) rfl ?_; rintro v i3 L3 hi3 ⟨⟨v2, rfl, hv2⟩, rfl⟩; obtain ⟨ao, cap, rfl⟩ := hv2.shape);
        (all_goals refine RS.pv (PV.all tab_ok rfl) rfl ?_);
        (all_goals refine RS.pv (PV.all tab_ok rfl) rfl ?_);
        (all_goals refine RS.pv (PV.all tab_ok rfl) rfl ?_);
        (all_goals refine RS.alloc tab_ok rfl rfl (fun b => ?_));
        (all_goals (first | refine RS.store (k := 0) tab_ok rfl rfl rfl rfl rfl rfl rfl rfl ?_ | refine RS.store (k := 1) tab_ok rfl rfl rfl rfl rfl rfl rfl rfl ?_ | refine RS.store (k := 2) tab_ok rfl rfl rfl rfl rfl rfl rfl rfl ?_));
        (all_goals refine RS.pv (PV.all tab_ok rfl) rfl ?_);
        (all_goals refine RS.nil ?_))
    | refine CS.ret ?_
    | refine thenQ.ret ?_
    | refine blkQ.ret ?_
    | refine retQ.ret ?_
    | refine CS.block ?_
    | refine CS.exit ?_
    | refine thenQ.exit ?_
    | refine blkQ.normal ?_
    | refine blkQ.here ?_
    | refine blkQ.past rfl ?_
    | refine retQ.normal ?_)
  refine CS.draw0 mix [0, 1, 2] [3] (by kernel_rfl) rfl ?_
  refine GS.pv (PV.all tab_ok rfl) rfl rfl rfl rfl rfl rfl ?_
  (first | refine GS.lv (fun _ _ => LV.load tab_ok rfl (Has.own 0 rfl) rfl) rfl rfl rfl rfl rfl rfl ?_ | refine GS.lv (fun _ _ => LV.load tab_ok rfl (Has.own 1 rfl) rfl) rfl rfl rfl rfl rfl rfl ?_ | refine GS.lv (fun _ _ => LV.load tab_ok rfl (Has.own 2 rfl) rfl) rfl rfl rfl rfl rfl rfl ?_)
  refine GS.pv (PV.all tab_ok rfl) rfl rfl rfl rfl rfl rfl ?_
  refine GS.done rfl rfl (fun i4 hi4 => ?_)
  refine RS.store (k := 2) tab_ok rfl rfl rfl rfl rfl rfl rfl rfl ?_
  refine RS.nil ?_
  refine thenQ.normal ?_
  refine CS.ret ?_
  refine retQ.ret ?_
  exact ⟨_, _, _, _, _, _, rfl, Has.own 2 rfl, rfl, p, nw, _, [_, _], rfl, h1, h4, hv2.le hi4, .cons _ ((List.Perm.swap _ _ _).trans (.cons _ (List.Perm.swap _ _ _)))⟩
end Go.Proofs.Ytmcajldlcomegaa
