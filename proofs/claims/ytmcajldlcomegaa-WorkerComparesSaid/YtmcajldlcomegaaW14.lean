/- WorkerOrder walked. -/
import Derived.Test.YtmcajldlcomegaaW13
namespace Go.Proofs.Ytmcajldlcomegaa
open Go Go.Eng

theorem foldI_bd (v : Int) {n : Int} (h : 1 < n) : 0 ≤ foldI v n ∧ foldI v n < n := by
  unfold foldI
  rw [if_neg (by omega)]
  exact ⟨Int.emod_nonneg v (by omega), Int.emod_lt_of_pos v (by omega)⟩
theorem findI_last {a : Int} {u : Value} {c : Nat} : ∀ {es : List ME} (n : Nat), findI a es n = none → findI a (es ++ [(a, u, c)]) n = some (n + es.length, u)
  | [], n, _ => by simp [findI]
  | e :: es, n, h => by
    rw [findI] at h
    by_cases ha : a = e.1
    · rw [if_pos ha] at h; cases h
    · rw [if_neg ha] at h
      have := findI_last (u := u) (c := c) (n + 1) h
      rw [List.cons_append, findI, if_neg ha, this]
      simp; omega
theorem fm_id {α : Type} {f : α → Option α} : ∀ (l : List α), (∀ x ∈ l, f x = some x) → l.filterMap f = l
  | [], _ => rfl
  | x :: l, h => by rw [List.filterMap_cons, h x (List.mem_cons_self ..)]; simp only; rw [fm_id l fun y hy => h y (List.mem_cons_of_mem _ hy)]
theorem Order_s (lv : Value) (i : Imm) (R : SH) (hl : IntSl i lv) : FnS Try.prog 3 [lv] i R fun v _ _ => v = .bool true := by
  have hl0 := hl
  obtain ⟨ao, ln, cap, rfl, hln, hcs⟩ := hl0
  refine FnS.intro1 Try.func3 rfl Try.ntmps3 (by simp) Try.results3 ?_
  repeat' (first
    | refine CS.seq ?_
    | refine thenQ.normal ?_
    | refine CS.cond_true rfl ?_
    | refine CS.cond_false rfl ?_
    | refine CS.skip ?_
    | (refine CS.region (id := 0) ?_;
        refine RS.pv (PV.all tab_ok rfl) rfl ?_;
        refine RS.nil ?_)
    | (refine CS.region (id := 1) ?_;
        (refine RS.call (New_s 8 _ _ (by omega) (by omega)) rfl (by kernel_rfl) rfl ?_; rintro v i1 L1 hi1 ⟨p, rfl, rfl, rfl⟩);
        (all_goals refine RS.pv (PV.all tab_ok rfl) rfl ?_);
        (all_goals refine RS.pv (PV.all tab_ok rfl) rfl ?_);
        (all_goals refine RS.pv (PV.all tab_ok rfl) rfl ?_);
        (all_goals refine RS.pv (PV.all tab_ok rfl) rfl ?_);
        (all_goals refine RS.pv (PV.all tab_ok rfl) rfl ?_);
        (all_goals refine RS.nil ?_))
    | (refine CS.region (id := 2) ?_;
        refine RS.pv (PV.all tab_ok rfl) rfl ?_;
        (first | refine RS.pv (PV.all tab_ok rfl) rfl ?_ | refine RS.pv (PV.neqT rfl rfl (by omega)) rfl ?_ | refine RS.pv (PV.neqF rfl rfl (by omega)) rfl ?_ | refine RS.ifNeq rfl rfl rfl (fun h => ?_) (fun h => ?_) | refine RS.ifSneq rfl rfl rfl (fun h => ?_) (fun h => ?_));
        (all_goals refine RS.pv (PV.all tab_ok rfl) rfl ?_);
        (all_goals (first | refine RS.pv (PV.all tab_ok rfl) rfl ?_ | refine RS.skip rfl ?_));
        (all_goals (first | refine RS.pv (PV.all tab_ok rfl) rfl ?_ | refine RS.pv (PV.eqlT rfl rfl (by omega)) rfl ?_ | refine RS.pv (PV.eqlF rfl rfl (by omega)) rfl ?_ | refine RS.ifEql rfl rfl rfl (fun h => ?_) (fun h => ?_) | refine RS.ifSeql rfl rfl rfl (fun h => ?_) (fun h => ?_) | refine RS.skip rfl ?_));
        (all_goals refine RS.pv (PV.all tab_ok rfl) rfl ?_);
        (all_goals refine RS.nil ?_))
    | (refine CS.region (id := 4) ?_;
        refine RS.pv (PV.all tab_ok rfl) rfl ?_;
        refine RS.pv (PV.all tab_ok rfl) rfl ?_;
        refine RS.box rfl rfl (fun b => ?_);
        refine RS.pv (PV.all tab_ok rfl) rfl ?_;
        refine RS.nil ?_)
    | (refine CS.region (id := 5) ?_;
        refine RS.makeMap rfl (fun mb => ?_);
        (all_goals refine RS.pv (PV.all tab_ok rfl) rfl ?_);
        (all_goals refine RS.nil ?_))
    | (refine CS.region (id := 6) ?_;
        refine RS.pv (PV.all tab_ok rfl) rfl ?_;
        (refine RS.call (Next_s _ 1 (.slice ao ln cap) 0 9 _ _ (by omega) (hl.le hi1) (by omega) rfl) rfl (by kernel_rfl) rfl ?_; rintro v i2 L2 hi2 ⟨⟨x, rfl⟩, rfl, rfl⟩);
        (all_goals refine RS.pv (PV.all tab_ok rfl) rfl ?_);
        (all_goals refine RS.nil ?_))
    | (refine CS.region (id := 7) ?_;
        refine RS.pv (PV.all tab_ok rfl) rfl ?_;
        refine RS.nil ?_)
    | refine CS.ret ?_
    | refine thenQ.ret ?_
    | refine blkQ.ret ?_
    | refine retQ.ret ?_
    | refine CS.block ?_
    | refine CS.exit ?_
    | refine thenQ.exit ?_
    | refine blkQ.normal ?_
    | refine blkQ.here ?_
    | refine blkQ.past rfl ?_
    | refine retQ.normal ?_)
  have hn := foldI_bd x (n := 9) (by omega)
  obtain ⟨n, hnn⟩ : ∃ n : Nat, foldI x 9 = n := ⟨(foldI x 9).toNat, by omega⟩
  rw [hnn]
  have hn8 : n ≤ 8 := by omega
  refine CS.loop [3, 5, 6, 7, 8] (fun m vs i' L' => ∃ (xs : List JobP) (es : List ME) (at_ : Int), m = n - xs.length ∧ xs.length ≤ n ∧ es = esOf xs ∧ at_ = xs.length + 1 ∧ Idx xs ∧ PoolSt i' (JX xs) 8 ∧ IntSl i' (.slice ao ln cap) ∧ vs = [.pointer (some ⟨p, 0, none⟩), .pointer (some ⟨b, 0, none⟩), .map (some mb), .int .i64 n, .int .i64 ((xs.length + 1 : Nat) : Int)] ∧ L' = (mb, .map (ents es) xs.length) :: (b, tapeO (.slice ao ln cap) at_) :: (poolL p (JX xs) 8 ++ R)) n ⟨[], [], 1, rfl, Nat.zero_le _, rfl, rfl, fun k x h => (by cases h), PoolSt.new _ 8 (by omega) (by omega), hl, rfl, rfl⟩ ?_
  clear hcs hl
  rintro m fr vs i' L' hi ⟨xs, es, at_, rfl, hxn, hes, hat, hidx, hps, hl, rfl, rfl⟩
  by_cases hlt : xs.length < n
  · have hnone : findI ((xs.length + 1 : Nat) : Int) es 0 = none := by
      rw [hes]
      refine findI_none 0 fun y hy => ?_
      obtain ⟨k, hk⟩ := List.mem_iff_getElem?.1 hy
      have h1 := (hidx k y hk).1
      have h2 := (List.getElem?_eq_some_iff.1 hk).1
      omega
    repeat' (first
      | refine CS.seq ?_
      | refine thenQ.normal ?_
      | refine CS.cond_true rfl ?_
      | refine CS.cond_false rfl ?_
      | refine CS.skip ?_
      | (refine CS.region (id := 0) ?_;
          refine RS.pv (PV.all tab_ok rfl) rfl ?_;
          refine RS.nil ?_)
      | (refine CS.region (id := 1) ?_)
      | (refine CS.region (id := 2) ?_;
          refine RS.pv (PV.all tab_ok rfl) rfl ?_;
          (first | refine RS.pv (PV.all tab_ok rfl) rfl ?_ | refine RS.pv (PV.neqT rfl rfl (by omega)) rfl ?_ | refine RS.pv (PV.neqF rfl rfl (by omega)) rfl ?_ | refine RS.ifNeq rfl rfl rfl (fun h => ?_) (fun h => ?_) | refine RS.ifSneq rfl rfl rfl (fun h => ?_) (fun h => ?_));
          (all_goals refine RS.pv (PV.all tab_ok rfl) rfl ?_);
          (all_goals (first | refine RS.pv (PV.all tab_ok rfl) rfl ?_ | refine RS.skip rfl ?_));
          (all_goals (first | refine RS.pv (PV.all tab_ok rfl) rfl ?_ | refine RS.pv (PV.eqlT rfl rfl (by omega)) rfl ?_ | refine RS.pv (PV.eqlF rfl rfl (by omega)) rfl ?_ | refine RS.ifEql rfl rfl rfl (fun h => ?_) (fun h => ?_) | refine RS.ifSeql rfl rfl rfl (fun h => ?_) (fun h => ?_) | refine RS.skip rfl ?_));
          (all_goals refine RS.pv (PV.all tab_ok rfl) rfl ?_);
          (all_goals refine RS.nil ?_))
      | (refine CS.region (id := 3) ?_;
          refine RS.pv (PV.all tab_ok rfl) rfl ?_;
          refine RS.nil ?_)
      | (refine CS.region (id := 4) ?_;
          refine RS.pv (PV.all tab_ok rfl) rfl ?_;
          refine RS.pv (PV.all tab_ok rfl) rfl ?_;
          refine RS.box rfl rfl (fun b => ?_);
          refine RS.pv (PV.all tab_ok rfl) rfl ?_;
          refine RS.nil ?_)
      | (refine CS.region (id := 5) ?_)
      | (refine CS.region (id := 6) ?_;
          refine RS.pv (PV.all tab_ok rfl) rfl ?_)
      | (refine CS.region (id := 7) ?_;
          refine RS.pv (PV.all tab_ok rfl) rfl ?_;
          refine RS.nil ?_)
      | (refine CS.region (id := 8) ?_;
          refine RS.pv (PV.all tab_ok rfl) rfl ?_;
          refine RS.pv (PV.all tab_ok rfl) rfl ?_;
          (first | refine RS.pv (PV.leqT rfl rfl (by omega)) rfl ?_ | refine RS.pv (PV.leqF rfl rfl (by omega)) rfl ?_ | refine RS.ifLeq rfl rfl rfl (fun h => ?_) (fun h => ?_));
          (all_goals refine RS.nil ?_))
      | (refine CS.region (id := 10) ?_;
          refine RS.pv (PV.all tab_ok rfl) rfl ?_;
          refine RS.pv (PV.all tab_ok rfl) rfl ?_;
          refine RS.pv (PV.all tab_ok rfl) rfl ?_;
          (refine RS.call (Next_s b 1 (.slice ao ln cap) at_ 4 _ _ (by omega) hl (by omega) rfl) rfl (by kernel_rfl) rfl ?_; rintro v i3 L3 hi3 ⟨⟨y, rfl⟩, rfl, rfl⟩; have hy4 := foldI_bd y (n := 4) (by omega));
          (all_goals refine RS.pv (PV.add rfl rfl (by omega)) rfl ?_);
          (all_goals refine RS.mapUpdate (k := 0) tab_ok rfl rfl rfl rfl ⟨_, rfl, rfl⟩ ⟨_, rfl, rfl⟩ rfl hnone rfl ?_);
          (all_goals refine RS.nil ?_))
      | refine CS.ret ?_
      | refine thenQ.ret ?_
      | refine blkQ.ret ?_
      | refine retQ.ret ?_
      | refine CS.block ?_
      | refine CS.exit ?_
      | refine thenQ.exit ?_
      | refine blkQ.normal ?_
      | refine blkQ.here ?_
      | refine blkQ.past rfl ?_
      | refine retQ.normal ?_)
    have hlast := findI_last (u := .int .i64 (1 + foldI y 4)) (c := xs.length) 0 hnone
    refine CS.region (id := 11) ?_
    refine RS.pv (PV.all tab_ok rfl) rfl ?_
    refine RS.pv (PV.all tab_ok rfl) rfl ?_
    refine RS.pv (PV.all tab_ok rfl) rfl ?_
    refine RS.pv (PV.all tab_ok rfl) rfl ?_
    refine RS.pv (PV.all tab_ok rfl) rfl ?_
    refine RS.lv (LV.lookup tab_ok rfl rfl ⟨_, rfl, rfl⟩ ⟨_, rfl, rfl⟩ (Has.own 0 rfl) hlast) rfl ?_
    refine RS.perm (List.perm_append_comm_assoc [_, _] (poolL p (JX xs) 8) R) ?_
    refine RS.call (Give_s p 8 (JX xs) ((xs.length + 1 : Nat) : Int) (1 + foldI y 4) (rzc ByteArray.empty) (rz ByteArray.empty) _ _ hps (rz_v _ _) (rz_ok _)) rfl (by kernel_rfl) rfl ?_
    rintro v i4 L4 hi4 ⟨e, js', rfl, hg, rfl⟩
    have hps' := hps.give hi4 (rz_ok _) hg
    obtain ⟨rfl, z, rfl, hz⟩ := give_next hidx (by omega) (by omega) (by omega) hg
    refine RS.perm (List.perm_append_comm_assoc [_, _] (poolL p (JX (xs ++ [z])) 8) R).symm ?_
    (first | refine RS.pv (PV.all tab_ok rfl) rfl ?_ | refine RS.pv (PV.neqT rfl rfl (by omega)) rfl ?_ | refine RS.pv (PV.neqF rfl rfl (by omega)) rfl ?_ | refine RS.ifNeq rfl rfl rfl (fun h => ?_) (fun h => ?_) | refine RS.ifSneq rfl rfl rfl (fun h => ?_) (fun h => ?_))
    (all_goals refine RS.nil ?_)
    repeat' (first
      | refine CS.seq ?_
      | refine thenQ.normal ?_
      | refine CS.cond_true rfl ?_
      | refine CS.cond_false rfl ?_
      | refine CS.skip ?_
      | (refine CS.region (id := 0) ?_;
          refine RS.pv (PV.all tab_ok rfl) rfl ?_;
          refine RS.nil ?_)
      | (refine CS.region (id := 1) ?_)
      | (refine CS.region (id := 2) ?_;
          refine RS.pv (PV.all tab_ok rfl) rfl ?_;
          (first | refine RS.pv (PV.all tab_ok rfl) rfl ?_ | refine RS.pv (PV.neqT rfl rfl (by omega)) rfl ?_ | refine RS.pv (PV.neqF rfl rfl (by omega)) rfl ?_ | refine RS.ifNeq rfl rfl rfl (fun h => ?_) (fun h => ?_) | refine RS.ifSneq rfl rfl rfl (fun h => ?_) (fun h => ?_));
          (all_goals refine RS.pv (PV.all tab_ok rfl) rfl ?_);
          (all_goals (first | refine RS.pv (PV.all tab_ok rfl) rfl ?_ | refine RS.skip rfl ?_));
          (all_goals (first | refine RS.pv (PV.all tab_ok rfl) rfl ?_ | refine RS.pv (PV.eqlT rfl rfl (by omega)) rfl ?_ | refine RS.pv (PV.eqlF rfl rfl (by omega)) rfl ?_ | refine RS.ifEql rfl rfl rfl (fun h => ?_) (fun h => ?_) | refine RS.ifSeql rfl rfl rfl (fun h => ?_) (fun h => ?_) | refine RS.skip rfl ?_));
          (all_goals refine RS.pv (PV.all tab_ok rfl) rfl ?_);
          (all_goals refine RS.nil ?_))
      | (refine CS.region (id := 3) ?_;
          refine RS.pv (PV.all tab_ok rfl) rfl ?_;
          refine RS.nil ?_)
      | (refine CS.region (id := 4) ?_;
          refine RS.pv (PV.all tab_ok rfl) rfl ?_;
          refine RS.pv (PV.all tab_ok rfl) rfl ?_;
          refine RS.box rfl rfl (fun b => ?_);
          refine RS.pv (PV.all tab_ok rfl) rfl ?_;
          refine RS.nil ?_)
      | (refine CS.region (id := 5) ?_)
      | (refine CS.region (id := 6) ?_;
          refine RS.pv (PV.all tab_ok rfl) rfl ?_)
      | (refine CS.region (id := 7) ?_;
          refine RS.pv (PV.all tab_ok rfl) rfl ?_;
          refine RS.nil ?_)
      | (refine CS.region (id := 8) ?_;
          refine RS.pv (PV.all tab_ok rfl) rfl ?_;
          refine RS.pv (PV.all tab_ok rfl) rfl ?_;
          (first | refine RS.pv (PV.leqT rfl rfl (by omega)) rfl ?_ | refine RS.pv (PV.leqF rfl rfl (by omega)) rfl ?_ | refine RS.ifLeq rfl rfl rfl (fun h => ?_) (fun h => ?_));
          (all_goals refine RS.nil ?_))
      | (refine CS.region (id := 9) ?_;
          refine RS.pv (PV.all tab_ok rfl) rfl ?_;
          refine RS.pv (PV.add rfl rfl (by omega)) rfl ?_;
          refine RS.pv (PV.all tab_ok rfl) rfl ?_;
          refine RS.nil ?_)
      | refine CS.ret ?_
      | refine thenQ.ret ?_
      | refine blkQ.ret ?_
      | refine retQ.ret ?_
      | refine CS.block ?_
      | refine CS.exit ?_
      | refine thenQ.exit ?_
      | refine blkQ.normal ?_
      | refine blkQ.here ?_
      | refine blkQ.past rfl ?_
      | refine retQ.normal ?_)
    have hlen : (xs ++ [z]).length = xs.length + 1 := by simp
    refine ⟨n - (xs ++ [z]).length, by omega, xs ++ [z], _, _, rfl, by omega, rfl, rfl, Idx_snoc hidx (by rw [hz]; simp only; omega) (by rw [hz]; simp only; omega), hps', hl.le hi4, ?_, ?_⟩
    · exact congrArg (fun q : Int => [Value.pointer (some ⟨p, 0, none⟩), .pointer (some ⟨b, 0, none⟩), .map (some mb), .int .i64 n, .int .i64 q]) (by rw [hlen]; omega)
    · have he : esOf (xs ++ [z]) = es ++ [(((xs.length + 1 : Nat) : Int), .int .i64 (1 + foldI y 4), xs.length)] := by
        rw [hes]
        unfold esOf
        rw [List.map_append, List.map_cons, List.map_nil, hz]
        simp only
        rw [show (((xs.length + 1 : Nat) : Int) - 1).toNat = xs.length by omega]
      rw [he, hlen, show ((xs.length + 1 : Nat) : Int) + 1 = at_ + 1 by omega]
      rfl
  · have hxe : xs.length = n := by omega
    have hD : (JX xs).filterMap (fin ((10 : Nat) : Int)) = xs := by
      unfold JX
      rw [List.filterMap_append, List.filterMap_map]
      have e1 : (List.replicate (8 - xs.length) (none : Option JobP)).filterMap (fin ((10 : Nat) : Int)) = [] := List.filterMap_eq_nil_iff.2 fun o ho => by rw [List.eq_of_mem_replicate ho]; rfl
      rw [e1, List.append_nil]
      exact fm_id xs fun z hz => by
        obtain ⟨k, hk⟩ := List.mem_iff_getElem?.1 hz
        exact if_pos (by have := (hidx k z hk).2.2; omega)
    have hT := TickG_s p 8 (JX xs) 10 (by omega) i' ([(mb, .map (ents es) xs.length), (b, tapeO (.slice ao ln cap) at_)] ++ R) hps
    rw [hD] at hT
    repeat' (first
      | refine CS.seq ?_
      | refine thenQ.normal ?_
      | refine CS.cond_true rfl ?_
      | refine CS.cond_false rfl ?_
      | refine CS.skip ?_
      | (refine CS.region (id := 0) ?_;
          refine RS.pv (PV.all tab_ok rfl) rfl ?_;
          refine RS.nil ?_)
      | (refine CS.region (id := 1) ?_)
      | (refine CS.region (id := 2) ?_;
          refine RS.pv (PV.all tab_ok rfl) rfl ?_;
          (first | refine RS.pv (PV.all tab_ok rfl) rfl ?_ | refine RS.pv (PV.neqT rfl rfl (by omega)) rfl ?_ | refine RS.pv (PV.neqF rfl rfl (by omega)) rfl ?_ | refine RS.ifNeq rfl rfl rfl (fun h => ?_) (fun h => ?_) | refine RS.ifSneq rfl rfl rfl (fun h => ?_) (fun h => ?_));
          (all_goals refine RS.pv (PV.all tab_ok rfl) rfl ?_);
          (all_goals (first | refine RS.pv (PV.all tab_ok rfl) rfl ?_ | refine RS.skip rfl ?_));
          (all_goals (first | refine RS.pv (PV.all tab_ok rfl) rfl ?_ | refine RS.pv (PV.eqlT rfl rfl (by omega)) rfl ?_ | refine RS.pv (PV.eqlF rfl rfl (by omega)) rfl ?_ | refine RS.ifEql rfl rfl rfl (fun h => ?_) (fun h => ?_) | refine RS.ifSeql rfl rfl rfl (fun h => ?_) (fun h => ?_) | refine RS.skip rfl ?_));
          (all_goals refine RS.pv (PV.all tab_ok rfl) rfl ?_);
          (all_goals refine RS.nil ?_))
      | (refine CS.region (id := 3) ?_;
          refine RS.pv (PV.all tab_ok rfl) rfl ?_;
          refine RS.nil ?_)
      | (refine CS.region (id := 4) ?_;
          refine RS.pv (PV.all tab_ok rfl) rfl ?_;
          refine RS.pv (PV.all tab_ok rfl) rfl ?_;
          refine RS.box rfl rfl (fun b => ?_);
          refine RS.pv (PV.all tab_ok rfl) rfl ?_;
          refine RS.nil ?_)
      | (refine CS.region (id := 5) ?_)
      | (refine CS.region (id := 6) ?_;
          refine RS.pv (PV.all tab_ok rfl) rfl ?_)
      | (refine CS.region (id := 7) ?_;
          refine RS.pv (PV.all tab_ok rfl) rfl ?_;
          refine RS.nil ?_)
      | (refine CS.region (id := 8) ?_;
          refine RS.pv (PV.all tab_ok rfl) rfl ?_;
          refine RS.pv (PV.all tab_ok rfl) rfl ?_;
          (first | refine RS.pv (PV.leqT rfl rfl (by omega)) rfl ?_ | refine RS.pv (PV.leqF rfl rfl (by omega)) rfl ?_ | refine RS.ifLeq rfl rfl rfl (fun h => ?_) (fun h => ?_));
          (all_goals refine RS.nil ?_))
      | (refine CS.region (id := 13) ?_;
          refine RS.pv (PV.all tab_ok rfl) rfl ?_;
          (refine RS.perm (List.perm_append_comm_assoc [_, _] (poolL p (JX xs) 8) R) ?_; refine RS.call hT rfl (by kernel_rfl) rfl ?_; rintro v i3 L3 hi3 ⟨sv, O, rfl, hO, rfl⟩; obtain ⟨sa, sc, rfl⟩ := SlO.shape hO);
          (all_goals refine RS.pv (PV.all tab_ok rfl) rfl ?_);
          (all_goals refine RS.pv (PV.all tab_ok rfl) rfl ?_);
          (all_goals refine RS.pv (PV.all tab_ok rfl) rfl ?_);
          (all_goals refine RS.pv (PV.all tab_ok rfl) rfl ?_);
          (all_goals refine RS.pv (PV.all tab_ok rfl) rfl ?_);
          (all_goals refine RS.nil ?_))
      | (refine CS.region (id := 14) ?_;
          refine RS.pv (PV.all tab_ok rfl) rfl ?_;
          (first | refine RS.pv (PV.all tab_ok rfl) rfl ?_ | refine RS.pv (PV.neqT rfl rfl (by omega)) rfl ?_ | refine RS.pv (PV.neqF rfl rfl (by omega)) rfl ?_ | refine RS.ifNeq rfl rfl rfl (fun h => ?_) (fun h => ?_) | refine RS.ifSneq rfl rfl rfl (fun h => ?_) (fun h => ?_));
          (all_goals refine RS.pv (PV.all tab_ok rfl) rfl ?_);
          (all_goals (first | refine RS.pv (PV.all tab_ok rfl) rfl ?_ | refine RS.skip rfl ?_));
          (all_goals (first | refine RS.pv (PV.lenS tab_ok rfl rfl) rfl ?_ | refine RS.pv (PV.lenT tab_ok rfl rfl) rfl ?_ | refine RS.skip rfl ?_));
          (all_goals (first | refine RS.pv (PV.all tab_ok rfl) rfl ?_ | refine RS.skip rfl ?_));
          (all_goals (first | refine RS.pv (PV.all tab_ok rfl) rfl ?_ | refine RS.pv (PV.neqT rfl rfl (by omega)) rfl ?_ | refine RS.pv (PV.neqF rfl rfl (by omega)) rfl ?_ | refine RS.ifNeq rfl rfl rfl (fun h => ?_) (fun h => ?_) | refine RS.ifSneq rfl rfl rfl (fun h => ?_) (fun h => ?_) | refine RS.skip rfl ?_));
          (all_goals refine RS.pv (PV.all tab_ok rfl) rfl ?_);
          (all_goals refine RS.nil ?_))
      | (refine CS.region (id := 16) ?_;
          refine RS.pv (PV.all tab_ok rfl) rfl ?_;
          refine RS.nil ?_)
      | refine CS.ret ?_
      | refine thenQ.ret ?_
      | refine blkQ.ret ?_
      | refine retQ.ret ?_
      | refine CS.block ?_
      | refine CS.exit ?_
      | refine thenQ.exit ?_
      | refine blkQ.normal ?_
      | refine blkQ.here ?_
      | refine blkQ.past rfl ?_
      | refine retQ.normal ?_)
    have hsub : sjOk (xs.map toSJ) := (jcs_flat (i := i') fun z hz => (hps.job z (List.mem_append_left _ (List.mem_map.2 ⟨z, hz, rfl⟩))).1).2
    have hsort : (isort (xs.map toSJ)).Pairwise lexR := isort_sorted (List.pairwise_iff_getElem.2 fun k1 k2 h1 h2 hk => by
      simp only [List.getElem_map, toSJ]
      simp only [List.length_map] at h1 h2
      have g1 := (hidx k1 _ (List.getElem?_eq_getElem h1)).1
      have g2 := (hidx k2 _ (List.getElem?_eq_getElem h2)).1
      omega)
    have hfind : ∀ z ∈ isort (xs.map toSJ), ∃ q, findI z.1 es 0 = some (q, .int .i64 z.2.1) := fun z hz => by
      obtain ⟨y, hy, rfl⟩ := List.mem_map.1 (isort_mem hz)
      obtain ⟨k, hk⟩ := List.mem_iff_getElem?.1 hy
      obtain ⟨q, hq⟩ := findI_map y.jd.index xs 0 k y (fun j y hy => by have := (hidx j y hy).1; omega) hk rfl
      exact ⟨0 + q, by rw [hes]; exact hq 0⟩
    have hil : (isort (xs.map toSJ)).length = xs.length := by rw [isort_len, List.length_map]
    have hzok : sjOk ((isort (xs.map toSJ)).map zr) := by rw [← zk_end]; exact zk_ok (isort_ok hsub) _
    refine CS.loop [6, 9, 10] (fun m vs i2 L2 => ∃ j : Nat, 1 ≤ j ∧ m = xs.length - j ∧ vs = [.map (some mb), .slice sa xs.length sc, .int .i64 j] ∧ L2 = O ++ (poolL p ((JX xs).map (tick1 ((10 : Nat) : Int))) 8 ++ ([(mb, .map (ents es) xs.length), (b, tapeO (.slice ao ln cap) at_)] ++ R))) (xs.length - 1) ⟨1, Nat.le_refl _, rfl, rfl, rfl⟩ ?_
    rintro m fr2 vs i5 L5 hi5 ⟨j, hj1, rfl, rfl, rfl⟩
    by_cases hj : j < xs.length
    · obtain ⟨hs1, ⟨_, h01, _⟩ | ⟨gb, cap', sp, h3, h4, h5, rfl⟩⟩ := hO
      · omega
      cases h3
      obtain ⟨a, ha⟩ : ∃ a, (isort (xs.map toSJ))[j - 1]? = some a := ⟨_, List.getElem?_eq_getElem (by omega)⟩
      obtain ⟨c, hcc⟩ : ∃ c, (isort (xs.map toSJ))[j]? = some c := ⟨_, List.getElem?_eq_getElem (by omega)⟩
      have hlex : lexR a c := by
        obtain ⟨g1, g2⟩ := List.getElem?_eq_some_iff.1 ha
        obtain ⟨g3, g4⟩ := List.getElem?_eq_some_iff.1 hcc
        have := List.pairwise_iff_getElem.1 hsort (j - 1) j g1 g3 (by omega)
        rw [g2, g4] at this
        exact this
      unfold lexR at hlex
      obtain ⟨qa, fa⟩ := hfind a (List.mem_of_getElem? ha)
      obtain ⟨qc, fc⟩ := hfind c (List.mem_of_getElem? hcc)
      have ha' : ((isort (xs.map toSJ)).map zr)[j - 1]? = some (zr a) := by rw [List.getElem?_map, ha]; rfl
      have hc' : ((isort (xs.map toSJ)).map zr)[j]? = some (zr c) := by rw [List.getElem?_map, hcc]; rfl
      have va : (flat ((isort (xs.map toSJ)).map zr) ++ sp)[0 + ((j : Int) - 1).toNat * 14 + 0]? = some (.int .i64 a.1) := by
        rw [show ((j : Int) - 1).toNat = ((j - 1 : Nat) : Int).toNat by omega]
        exact flat_at sp ha' hzok 0 _ rfl
      have vc : (flat ((isort (xs.map toSJ)).map zr) ++ sp)[0 + ((j : Nat) : Int).toNat * 14 + 0]? = some (.int .i64 c.1) := flat_at sp hc' hzok 0 _ rfl
      have hmb : (mb, Obj.map (ents es) xs.length) ∈ [(gb, Obj.cells (flat ((isort (xs.map toSJ)).map zr) ++ sp).toArray 41 (0, 0))] ++ (poolL p ((JX xs).map (tick1 ((10 : Nat) : Int))) 8 ++ ([(mb, Obj.map (ents es) xs.length), (b, tapeO (.slice ao ln cap) at_)] ++ R)) := List.mem_append_right _ (List.mem_append_right _ (List.mem_cons_self ..))
      repeat' (first
        | refine CS.seq ?_
        | refine thenQ.normal ?_
        | refine CS.cond_true rfl ?_
        | refine CS.cond_false rfl ?_
        | refine CS.skip ?_
        | (refine CS.region (id := 0) ?_;
            refine RS.pv (PV.all tab_ok rfl) rfl ?_;
            refine RS.nil ?_)
        | (refine CS.region (id := 1) ?_)
        | (refine CS.region (id := 2) ?_;
            refine RS.pv (PV.all tab_ok rfl) rfl ?_;
            (first | refine RS.pv (PV.all tab_ok rfl) rfl ?_ | refine RS.pv (PV.neqT rfl rfl (by omega)) rfl ?_ | refine RS.pv (PV.neqF rfl rfl (by omega)) rfl ?_ | refine RS.ifNeq rfl rfl rfl (fun h => ?_) (fun h => ?_) | refine RS.ifSneq rfl rfl rfl (fun h => ?_) (fun h => ?_));
            (all_goals refine RS.pv (PV.all tab_ok rfl) rfl ?_);
            (all_goals (first | refine RS.pv (PV.all tab_ok rfl) rfl ?_ | refine RS.skip rfl ?_));
            (all_goals (first | refine RS.pv (PV.all tab_ok rfl) rfl ?_ | refine RS.pv (PV.eqlT rfl rfl (by omega)) rfl ?_ | refine RS.pv (PV.eqlF rfl rfl (by omega)) rfl ?_ | refine RS.ifEql rfl rfl rfl (fun h => ?_) (fun h => ?_) | refine RS.ifSeql rfl rfl rfl (fun h => ?_) (fun h => ?_) | refine RS.skip rfl ?_));
            (all_goals refine RS.pv (PV.all tab_ok rfl) rfl ?_);
            (all_goals refine RS.nil ?_))
        | (refine CS.region (id := 3) ?_;
            refine RS.pv (PV.all tab_ok rfl) rfl ?_;
            refine RS.nil ?_)
        | (refine CS.region (id := 4) ?_;
            refine RS.pv (PV.all tab_ok rfl) rfl ?_;
            refine RS.pv (PV.all tab_ok rfl) rfl ?_;
            refine RS.box rfl rfl (fun b => ?_);
            refine RS.pv (PV.all tab_ok rfl) rfl ?_;
            refine RS.nil ?_)
        | (refine CS.region (id := 5) ?_)
        | (refine CS.region (id := 6) ?_;
            refine RS.pv (PV.all tab_ok rfl) rfl ?_)
        | (refine CS.region (id := 7) ?_;
            refine RS.pv (PV.all tab_ok rfl) rfl ?_;
            refine RS.nil ?_)
        | (refine CS.region (id := 14) ?_;
            refine RS.pv (PV.all tab_ok rfl) rfl ?_;
            (first | refine RS.pv (PV.all tab_ok rfl) rfl ?_ | refine RS.pv (PV.neqT rfl rfl (by omega)) rfl ?_ | refine RS.pv (PV.neqF rfl rfl (by omega)) rfl ?_ | refine RS.ifNeq rfl rfl rfl (fun h => ?_) (fun h => ?_) | refine RS.ifSneq rfl rfl rfl (fun h => ?_) (fun h => ?_));
            (all_goals refine RS.pv (PV.all tab_ok rfl) rfl ?_);
            (all_goals (first | refine RS.pv (PV.all tab_ok rfl) rfl ?_ | refine RS.skip rfl ?_));
            (all_goals (first | refine RS.pv (PV.lenS tab_ok rfl rfl) rfl ?_ | refine RS.pv (PV.lenT tab_ok rfl rfl) rfl ?_ | refine RS.skip rfl ?_));
            (all_goals (first | refine RS.pv (PV.all tab_ok rfl) rfl ?_ | refine RS.skip rfl ?_));
            (all_goals (first | refine RS.pv (PV.all tab_ok rfl) rfl ?_ | refine RS.pv (PV.neqT rfl rfl (by omega)) rfl ?_ | refine RS.pv (PV.neqF rfl rfl (by omega)) rfl ?_ | refine RS.ifNeq rfl rfl rfl (fun h => ?_) (fun h => ?_) | refine RS.ifSneq rfl rfl rfl (fun h => ?_) (fun h => ?_) | refine RS.skip rfl ?_));
            (all_goals refine RS.pv (PV.all tab_ok rfl) rfl ?_);
            (all_goals refine RS.nil ?_))
        | (refine CS.region (id := 15) ?_;
            refine RS.pv (PV.all tab_ok rfl) rfl ?_;
            refine RS.nil ?_)
        | (refine CS.region (id := 16) ?_;
            refine RS.pv (PV.all tab_ok rfl) rfl ?_;
            refine RS.nil ?_)
        | (refine CS.region (id := 17) ?_;
            refine RS.pv (PV.all tab_ok rfl) rfl ?_;
            refine RS.pv (PV.all tab_ok rfl) rfl ?_;
            (first | refine RS.pv (PV.lenS tab_ok rfl rfl) rfl ?_ | refine RS.pv (PV.lenT tab_ok rfl rfl) rfl ?_);
            (first | refine RS.pv (PV.lssT rfl rfl (by omega)) rfl ?_ | refine RS.pv (PV.lssF rfl rfl (by omega)) rfl ?_ | refine RS.ifLss rfl rfl rfl (fun h => ?_) (fun h => ?_));
            (all_goals refine RS.nil ?_))
        | (refine CS.region (id := 18) ?_;
            refine RS.pv (PV.all tab_ok rfl) rfl ?_;
            refine RS.pv (PV.add rfl rfl (by omega)) rfl ?_;
            refine RS.pv (PV.all tab_ok rfl) rfl ?_;
            refine RS.nil ?_)
        | (refine CS.drawQ (id := 19) mix (by kernel_rfl) ?_;
            refine QS.pv (PV.all tab_ok rfl) rfl ?_;
            refine QS.pv (PV.all tab_ok rfl) rfl ?_;
            refine QS.pv (PV.sub rfl rfl (by omega)) rfl ?_;
            (first | refine QS.pv (PV.indexAddr tab_ok rfl rfl rfl (by omega)) rfl ?_ | refine QS.pv (PV.indexAddrA tab_ok rfl rfl rfl (by omega)) rfl ?_);
            refine QS.pv (PV.all tab_ok rfl) rfl ?_;
            refine QS.lv (LV.load1 tab_ok rfl (Has.own 0 rfl) rfl va) rfl ?_;
            (all_goals refine QS.pv (PV.all tab_ok rfl) rfl ?_);
            (all_goals refine QS.pv (PV.all tab_ok rfl) rfl ?_);
            (all_goals (first | refine QS.pv (PV.indexAddr tab_ok rfl rfl rfl (by omega)) rfl ?_ | refine QS.pv (PV.indexAddrA tab_ok rfl rfl rfl (by omega)) rfl ?_));
            (all_goals refine QS.pv (PV.all tab_ok rfl) rfl ?_);
            (all_goals refine QS.lv (LV.load1 tab_ok rfl (Has.own 0 rfl) rfl vc) rfl ?_);
            (all_goals refine QS.pv (PV.all tab_ok rfl) rfl ?_);
            (all_goals refine QS.pv (PV.all tab_ok rfl) rfl ?_);
            (all_goals refine QS.nil ?_))
        | (refine CS.region (id := 20) ?_;
            refine RS.pv (PV.all tab_ok rfl) rfl ?_;
            refine RS.pv (PV.all tab_ok rfl) rfl ?_;
            refine RS.lv (LV.lookup tab_ok rfl rfl ⟨_, rfl, rfl⟩ ⟨_, rfl, rfl⟩ (Has.mem hmb) fa) rfl ?_;
            (all_goals refine RS.pv (PV.all tab_ok rfl) rfl ?_);
            (all_goals refine RS.pv (PV.all tab_ok rfl) rfl ?_);
            (all_goals refine RS.lv (LV.lookup tab_ok rfl rfl ⟨_, rfl, rfl⟩ ⟨_, rfl, rfl⟩ (Has.mem hmb) fc) rfl ?_);
            (all_goals (first | refine RS.pv (PV.gtrT rfl rfl (by omega)) rfl ?_ | refine RS.pv (PV.gtrF rfl rfl (by omega)) rfl ?_ | refine RS.ifGtr rfl rfl rfl (fun h => ?_) (fun h => ?_)));
            (all_goals refine RS.pv (PV.all tab_ok rfl) rfl ?_);
            (all_goals (first | refine RS.pv (PV.all tab_ok rfl) rfl ?_ | refine RS.skip rfl ?_));
            (all_goals (first | refine RS.pv (PV.all tab_ok rfl) rfl ?_ | refine RS.skip rfl ?_));
            (all_goals refine RS.lv (LV.lookup tab_ok rfl rfl ⟨_, rfl, rfl⟩ ⟨_, rfl, rfl⟩ (Has.mem hmb) fa) rfl ?_);
            (all_goals (first | refine RS.pv (PV.all tab_ok rfl) rfl ?_ | refine RS.skip rfl ?_));
            (all_goals (first | refine RS.pv (PV.all tab_ok rfl) rfl ?_ | refine RS.skip rfl ?_));
            (all_goals refine RS.lv (LV.lookup tab_ok rfl rfl ⟨_, rfl, rfl⟩ ⟨_, rfl, rfl⟩ (Has.mem hmb) fc) rfl ?_);
            (all_goals (first | refine RS.pv (PV.all tab_ok rfl) rfl ?_ | refine RS.pv (PV.eqlT rfl rfl (by omega)) rfl ?_ | refine RS.pv (PV.eqlF rfl rfl (by omega)) rfl ?_ | refine RS.ifEql rfl rfl rfl (fun h => ?_) (fun h => ?_) | refine RS.ifSeql rfl rfl rfl (fun h => ?_) (fun h => ?_) | refine RS.skip rfl ?_));
            (all_goals (first | refine RS.pv (PV.all tab_ok rfl) rfl ?_ | refine RS.skip rfl ?_));
            (all_goals (first | refine RS.pv (PV.all tab_ok rfl) rfl ?_ | refine RS.skip rfl ?_));
            (all_goals (first | refine RS.pv (PV.all tab_ok rfl) rfl ?_ | refine RS.skip rfl ?_));
            (all_goals (first | refine RS.pv (PV.gtrT rfl rfl (by omega)) rfl ?_ | refine RS.pv (PV.gtrF rfl rfl (by omega)) rfl ?_ | refine RS.ifGtr rfl rfl rfl (fun h => ?_) (fun h => ?_) | refine RS.skip rfl ?_));
            (all_goals (first | refine RS.pv (PV.all tab_ok rfl) rfl ?_ | refine RS.skip rfl ?_));
            (all_goals refine RS.pv (PV.all tab_ok rfl) rfl ?_);
            (all_goals refine RS.nil ?_))
        | refine CS.ret ?_
        | refine thenQ.ret ?_
        | refine blkQ.ret ?_
        | refine retQ.ret ?_
        | refine CS.block ?_
        | refine CS.exit ?_
        | refine thenQ.exit ?_
        | refine blkQ.normal ?_
        | refine blkQ.here ?_
        | refine blkQ.past rfl ?_
        | refine retQ.normal ?_)
      all_goals exact ⟨xs.length - (j + 1), by omega, j + 1, by omega, rfl, rfl, rfl⟩
    · repeat' (first
        | refine CS.seq ?_
        | refine thenQ.normal ?_
        | refine CS.cond_true rfl ?_
        | refine CS.cond_false rfl ?_
        | refine CS.skip ?_
        | (refine CS.region (id := 0) ?_;
            refine RS.pv (PV.all tab_ok rfl) rfl ?_;
            refine RS.nil ?_)
        | (refine CS.region (id := 1) ?_)
        | (refine CS.region (id := 2) ?_;
            refine RS.pv (PV.all tab_ok rfl) rfl ?_;
            (first | refine RS.pv (PV.all tab_ok rfl) rfl ?_ | refine RS.pv (PV.neqT rfl rfl (by omega)) rfl ?_ | refine RS.pv (PV.neqF rfl rfl (by omega)) rfl ?_ | refine RS.ifNeq rfl rfl rfl (fun h => ?_) (fun h => ?_) | refine RS.ifSneq rfl rfl rfl (fun h => ?_) (fun h => ?_));
            (all_goals refine RS.pv (PV.all tab_ok rfl) rfl ?_);
            (all_goals (first | refine RS.pv (PV.all tab_ok rfl) rfl ?_ | refine RS.skip rfl ?_));
            (all_goals (first | refine RS.pv (PV.all tab_ok rfl) rfl ?_ | refine RS.pv (PV.eqlT rfl rfl (by omega)) rfl ?_ | refine RS.pv (PV.eqlF rfl rfl (by omega)) rfl ?_ | refine RS.ifEql rfl rfl rfl (fun h => ?_) (fun h => ?_) | refine RS.ifSeql rfl rfl rfl (fun h => ?_) (fun h => ?_) | refine RS.skip rfl ?_));
            (all_goals refine RS.pv (PV.all tab_ok rfl) rfl ?_);
            (all_goals refine RS.nil ?_))
        | (refine CS.region (id := 3) ?_;
            refine RS.pv (PV.all tab_ok rfl) rfl ?_;
            refine RS.nil ?_)
        | (refine CS.region (id := 4) ?_;
            refine RS.pv (PV.all tab_ok rfl) rfl ?_;
            refine RS.pv (PV.all tab_ok rfl) rfl ?_;
            refine RS.box rfl rfl (fun b => ?_);
            refine RS.pv (PV.all tab_ok rfl) rfl ?_;
            refine RS.nil ?_)
        | (refine CS.region (id := 5) ?_)
        | (refine CS.region (id := 6) ?_;
            refine RS.pv (PV.all tab_ok rfl) rfl ?_)
        | (refine CS.region (id := 7) ?_;
            refine RS.pv (PV.all tab_ok rfl) rfl ?_;
            refine RS.nil ?_)
        | (refine CS.region (id := 14) ?_;
            refine RS.pv (PV.all tab_ok rfl) rfl ?_;
            (first | refine RS.pv (PV.all tab_ok rfl) rfl ?_ | refine RS.pv (PV.neqT rfl rfl (by omega)) rfl ?_ | refine RS.pv (PV.neqF rfl rfl (by omega)) rfl ?_ | refine RS.ifNeq rfl rfl rfl (fun h => ?_) (fun h => ?_) | refine RS.ifSneq rfl rfl rfl (fun h => ?_) (fun h => ?_));
            (all_goals refine RS.pv (PV.all tab_ok rfl) rfl ?_);
            (all_goals (first | refine RS.pv (PV.all tab_ok rfl) rfl ?_ | refine RS.skip rfl ?_));
            (all_goals (first | refine RS.pv (PV.lenS tab_ok rfl rfl) rfl ?_ | refine RS.pv (PV.lenT tab_ok rfl rfl) rfl ?_ | refine RS.skip rfl ?_));
            (all_goals (first | refine RS.pv (PV.all tab_ok rfl) rfl ?_ | refine RS.skip rfl ?_));
            (all_goals (first | refine RS.pv (PV.all tab_ok rfl) rfl ?_ | refine RS.pv (PV.neqT rfl rfl (by omega)) rfl ?_ | refine RS.pv (PV.neqF rfl rfl (by omega)) rfl ?_ | refine RS.ifNeq rfl rfl rfl (fun h => ?_) (fun h => ?_) | refine RS.ifSneq rfl rfl rfl (fun h => ?_) (fun h => ?_) | refine RS.skip rfl ?_));
            (all_goals refine RS.pv (PV.all tab_ok rfl) rfl ?_);
            (all_goals refine RS.nil ?_))
        | (refine CS.region (id := 15) ?_;
            refine RS.pv (PV.all tab_ok rfl) rfl ?_;
            refine RS.nil ?_)
        | (refine CS.region (id := 16) ?_;
            refine RS.pv (PV.all tab_ok rfl) rfl ?_;
            refine RS.nil ?_)
        | (refine CS.region (id := 17) ?_;
            refine RS.pv (PV.all tab_ok rfl) rfl ?_;
            refine RS.pv (PV.all tab_ok rfl) rfl ?_;
            (first | refine RS.pv (PV.lenS tab_ok rfl rfl) rfl ?_ | refine RS.pv (PV.lenT tab_ok rfl rfl) rfl ?_);
            (first | refine RS.pv (PV.lssT rfl rfl (by omega)) rfl ?_ | refine RS.pv (PV.lssF rfl rfl (by omega)) rfl ?_ | refine RS.ifLss rfl rfl rfl (fun h => ?_) (fun h => ?_));
            (all_goals refine RS.nil ?_))
        | (refine CS.region (id := 18) ?_;
            refine RS.pv (PV.all tab_ok rfl) rfl ?_;
            refine RS.pv (PV.add rfl rfl (by omega)) rfl ?_;
            refine RS.pv (PV.all tab_ok rfl) rfl ?_;
            refine RS.nil ?_)
        | (refine CS.region (id := 22) ?_;
            (refine RS.call (known_s _ _) rfl (by kernel_rfl) rfl ?_; rintro v i6 L6 hi6 ⟨rfl, rfl⟩);
            (all_goals refine RS.pv (PV.all tab_ok rfl) rfl ?_);
            (all_goals refine RS.nil ?_))
        | refine CS.ret ?_
        | refine thenQ.ret ?_
        | refine blkQ.ret ?_
        | refine retQ.ret ?_
        | refine CS.block ?_
        | refine CS.exit ?_
        | refine thenQ.exit ?_
        | refine blkQ.normal ?_
        | refine blkQ.here ?_
        | refine blkQ.past rfl ?_
        | refine retQ.normal ?_)
      rfl
end Go.Proofs.Ytmcajldlcomegaa
