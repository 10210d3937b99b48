/- Contracts: a pool's jobs and room. -/
import Derived.Test.YtmcajldlcomegaaW14
namespace Go.Proofs.Ytmcajldlcomegaa
open Go Go.Eng

/-- cells that read as jobs, one behind the other -/
inductive JL (i : Imm) : List Value → List JobD → Prop where
  | nil : JL i [] []
  | snoc {cs jc : List Value} {l : List JobD} {j : JobD} : JL i cs l → JobV i jc j → JL i (cs ++ jc) (l ++ [j])
theorem JL.le {i i' : Imm} {cs : List Value} {l : List JobD} (h : JL i cs l) (hi : i.le i') : JL i' cs l := by
  induction h with
  | nil => exact .nil
  | snoc _ h2 ih => exact .snoc ih (h2.le hi)
def jds (js : List (Option JobP)) (k : Nat) : List JobD := (js.take k).filterMap fun o => o.map fun x => x.jd
theorem jds_none {js : List (Option JobP)} {k : Nat} (h : js[k]? = some none) : jds js (k + 1) = jds js k := by
  unfold jds
  rw [List.take_add_one, List.filterMap_append, h]
  simp
theorem jds_some {js : List (Option JobP)} {k : Nat} {x : JobP} (h : js[k]? = some (some x)) : jds js (k + 1) = jds js k ++ [x.jd] := by
  unfold jds
  rw [List.take_add_one, List.filterMap_append, h]
  simp
theorem jds_len (js : List (Option JobP)) (k : Nat) : (jds js k).length ≤ k := by
  have := List.length_filterMap_le (fun o : Option JobP => o.map fun x => x.jd) (js.take k)
  unfold jds
  simp at this ⊢
  omega
theorem Jobs_s (p nw : Nat) (js : List (Option JobP)) (i : Imm) (R : SH) (hp : PoolSt i js nw) :
    FnS Try.prog 21 [.pointer (some ⟨p, 0, none⟩)] i (poolL p js nw ++ R) fun v i' L' => ∃ cs O, SlO 41 v 14 (jds js nw).length cs O ∧ JL i' cs (jds js nw) ∧ L' = O ++ (poolL p js nw ++ R) := by
  refine FnS.state (K := fun v i' L' => ∃ cs O G, SlO 41 v 14 (jds js nw).length cs O ∧ JL i' cs (jds js nw) ∧ L' = O ++ (G ++ (poolL p js nw ++ R))) ?_ ?_
  rotate_left
  · rintro v i' L' w _ hs ⟨cs, O, G, h1, h2, rfl⟩
    exact ⟨i', _, Imm.le.refl i', (hs.perm (List.perm_append_comm_assoc O G _)).dropL, cs, O, h1, h2, rfl⟩
  have hlen := hp.len
  have hnw := hp.nwle
  have hc := poolC_nw (nw := nw) hp.len
  have hpool : (p, poolO js nw) ∈ poolL p js nw ++ R := List.mem_append_left _ (List.mem_cons_self ..)
  refine FnS.intro1 Try.func21 rfl Try.ntmps21 (by simp) Try.results21 ?_
  repeat' (first
    | refine CS.seq ?_
    | refine thenQ.normal ?_
    | refine CS.cond_true rfl ?_
    | refine CS.cond_false rfl ?_
    | refine CS.skip ?_
    | (refine CS.region (id := 0) ?_;
        refine RS.pv (PV.all tab_ok rfl) rfl ?_;
        refine RS.nil ?_)
    | (refine CS.region (id := 1) ?_;
        refine RS.pv (PV.all tab_ok rfl) rfl ?_;
        refine RS.nil ?_)
    | (refine CS.drawQ (id := 2) mix (by kernel_rfl) ?_;
        refine QS.pv (PV.all tab_ok rfl) rfl ?_;
        refine QS.pv (PV.all tab_ok rfl) rfl ?_;
        refine QS.pv (PV.all tab_ok rfl) rfl ?_;
        refine QS.pv (PV.all tab_ok rfl) rfl ?_;
        refine QS.pv (PV.all tab_ok rfl) rfl ?_;
        refine QS.pv (PV.all tab_ok rfl) rfl ?_;
        refine QS.lv (LV.load1 tab_ok rfl (Has.mem hpool) rfl hc) rfl ?_;
        (all_goals refine QS.pv (PV.sliceArr tab_ok rfl rfl rfl (by omega)) rfl ?_);
        (all_goals (first | refine QS.pv (PV.lenS tab_ok rfl rfl) rfl ?_ | refine QS.pv (PV.lenT tab_ok rfl rfl) rfl ?_));
        (all_goals refine QS.pv (PV.all tab_ok rfl) rfl ?_);
        (all_goals refine QS.nil ?_))
    | refine CS.ret ?_
    | refine thenQ.ret ?_
    | refine blkQ.ret ?_
    | refine retQ.ret ?_
    | refine CS.block ?_
    | refine CS.exit ?_
    | refine thenQ.exit ?_
    | refine blkQ.normal ?_
    | refine blkQ.here ?_
    | refine blkQ.past rfl ?_
    | refine retQ.normal ?_)
  refine CS.loop [3, 13, 14, 15] (fun m vs i' L' => ∃ (k : Nat) (ao : Option Addr) (cap : Nat) (cs : List Value) (O G : SH), m = nw - k ∧ k ≤ nw ∧ SlO 41 (.slice ao (jds js k).length cap) 14 (jds js k).length cs O ∧ JL i' cs (jds js k) ∧ vs = [.slice ao (jds js k).length cap, .slice (some ⟨p, 0, none⟩) nw 8, .int .i64 nw, .int .i64 k] ∧ PoolSt i' js nw ∧ L' = O ++ (G ++ (poolL p js nw ++ R))) nw ⟨0, none, 0, [], [], [], rfl, Nat.zero_le _, SlO.nil 41 14, .nil, rfl, hp, rfl⟩ ?_
  clear hp
  rintro m g vs i' L' hi ⟨k, ao, cap, cs, O, G, rfl, hkn, hsl, hjl, rfl, hp, rfl⟩
  have hin : (p, poolO js nw) ∈ O ++ (G ++ (poolL p js nw ++ R)) := List.mem_append_right _ (List.mem_append_right _ hpool)
  by_cases hlt : k < nw
  · obtain ⟨o, ho⟩ : ∃ o, js[k]? = some o := ⟨_, List.getElem?_eq_getElem (by omega)⟩
    have hcell := poolC_at (nw := nw) ho
    cases o with
    | none =>
      change _ = some (Value.pointer none) at hcell
      have e1 := jds_none ho
      repeat' (first
        | refine CS.seq ?_
        | refine thenQ.normal ?_
        | refine CS.cond_true rfl ?_
        | refine CS.cond_false rfl ?_
        | refine CS.skip ?_
        | (refine CS.region (id := 0) ?_;
            refine RS.pv (PV.all tab_ok rfl) rfl ?_;
            refine RS.nil ?_)
        | (refine CS.region (id := 1) ?_;
            refine RS.pv (PV.all tab_ok rfl) rfl ?_;
            refine RS.nil ?_)
        | (refine CS.region (id := 3) ?_;
            (first | refine RS.pv (PV.lssT rfl rfl (by omega)) rfl ?_ | refine RS.pv (PV.lssF rfl rfl (by omega)) rfl ?_ | refine RS.ifLss rfl rfl rfl (fun h => ?_) (fun h => ?_));
            (all_goals refine RS.nil ?_))
        | (refine CS.region (id := 4) ?_;
            (first | refine RS.pv (PV.indexAddr tab_ok rfl rfl rfl (by omega)) rfl ?_ | refine RS.pv (PV.indexAddrA tab_ok rfl rfl rfl (by omega)) rfl ?_);
            refine RS.lv (LV.load1 tab_ok rfl (Has.mem hin) rfl hcell) rfl ?_;
            (all_goals refine RS.pv (PV.all tab_ok rfl) rfl ?_);
            (all_goals refine RS.nil ?_))
        | (refine CS.region (id := 5) ?_;
            refine RS.pv (PV.all tab_ok rfl) rfl ?_;
            (first | refine RS.pv (PV.all tab_ok rfl) rfl ?_ | refine RS.pv (PV.neqT rfl rfl (by omega)) rfl ?_ | refine RS.pv (PV.neqF rfl rfl (by omega)) rfl ?_ | refine RS.ifNeq rfl rfl rfl (fun h => ?_) (fun h => ?_) | refine RS.ifSneq rfl rfl rfl (fun h => ?_) (fun h => ?_));
            (all_goals refine RS.nil ?_))
        | (refine CS.region (id := 7) ?_;
            refine RS.pv (PV.add rfl rfl (by omega)) rfl ?_;
            refine RS.pv (PV.all tab_ok rfl) rfl ?_;
            refine RS.nil ?_)
        | refine CS.ret ?_
        | refine thenQ.ret ?_
        | refine blkQ.ret ?_
        | refine retQ.ret ?_
        | refine CS.block ?_
        | refine CS.exit ?_
        | refine thenQ.exit ?_
        | refine blkQ.normal ?_
        | refine blkQ.here ?_
        | refine blkQ.past rfl ?_
        | refine retQ.normal ?_)
      exact ⟨nw - (k + 1), by omega, k + 1, ao, cap, cs, O, G, rfl, hlt, by rw [e1]; exact hsl, by rw [e1]; exact hjl, by rw [e1]; rfl, hp, rfl⟩
    | some x =>
      obtain ⟨xb, xjc, xjd⟩ := x
      have hxm := List.mem_of_getElem? ho
      obtain ⟨hjv, hok, hl1, hl2⟩ := hp.job _ hxm
      have hmem : (xb, jobO ⟨xb, xjc, xjd⟩) ∈ O ++ (G ++ (poolL p js nw ++ R)) := List.mem_append_right _ (List.mem_append_right _ (List.mem_append_left _ (List.mem_cons_of_mem _ (jobsL_mem hxm))))
      have hjv0 := hjv
      obtain ⟨rc, hjc, hrc⟩ := hjv0
      simp only at hjc hrc hok
      obtain ⟨d2, e2, d3, e3, d4, e4, d5, e5, d6, e6, rfl⟩ := hrc.lit
      subst hjc
      unfold jobO at hmem
      change _ = some (Value.pointer (some ⟨xb, 0, none⟩)) at hcell
      have hcall := copied_s _ _ i' (O ++ (G ++ (poolL p js nw ++ R))) hjv hok
      have e1 := jds_some ho
      have e0 : (jds js (k + 1)).length = (jds js k).length + 1 := by rw [e1]; simp
      have h8 := jds_len js (k + 1)
      repeat' (first
        | refine CS.seq ?_
        | refine thenQ.normal ?_
        | refine CS.cond_true rfl ?_
        | refine CS.cond_false rfl ?_
        | refine CS.skip ?_
        | (refine CS.region (id := 0) ?_;
            refine RS.pv (PV.all tab_ok rfl) rfl ?_;
            refine RS.nil ?_)
        | (refine CS.region (id := 1) ?_;
            refine RS.pv (PV.all tab_ok rfl) rfl ?_;
            refine RS.nil ?_)
        | (refine CS.region (id := 3) ?_;
            (first | refine RS.pv (PV.lssT rfl rfl (by omega)) rfl ?_ | refine RS.pv (PV.lssF rfl rfl (by omega)) rfl ?_ | refine RS.ifLss rfl rfl rfl (fun h => ?_) (fun h => ?_));
            (all_goals refine RS.nil ?_))
        | (refine CS.region (id := 4) ?_;
            (first | refine RS.pv (PV.indexAddr tab_ok rfl rfl rfl (by omega)) rfl ?_ | refine RS.pv (PV.indexAddrA tab_ok rfl rfl rfl (by omega)) rfl ?_);
            refine RS.lv (LV.load1 tab_ok rfl (Has.mem hin) rfl hcell) rfl ?_;
            (all_goals refine RS.pv (PV.all tab_ok rfl) rfl ?_);
            (all_goals refine RS.nil ?_))
        | (refine CS.region (id := 5) ?_;
            refine RS.pv (PV.all tab_ok rfl) rfl ?_;
            (first | refine RS.pv (PV.all tab_ok rfl) rfl ?_ | refine RS.pv (PV.neqT rfl rfl (by omega)) rfl ?_ | refine RS.pv (PV.neqF rfl rfl (by omega)) rfl ?_ | refine RS.ifNeq rfl rfl rfl (fun h => ?_) (fun h => ?_) | refine RS.ifSneq rfl rfl rfl (fun h => ?_) (fun h => ?_));
            (all_goals refine RS.nil ?_))
        | (refine CS.region (id := 7) ?_;
            refine RS.pv (PV.add rfl rfl (by omega)) rfl ?_;
            refine RS.pv (PV.all tab_ok rfl) rfl ?_;
            refine RS.nil ?_)
        | refine CS.ret ?_
        | refine thenQ.ret ?_
        | refine blkQ.ret ?_
        | refine retQ.ret ?_
        | refine CS.block ?_
        | refine CS.exit ?_
        | refine thenQ.exit ?_
        | refine blkQ.normal ?_
        | refine blkQ.here ?_
        | refine blkQ.past rfl ?_
        | refine retQ.normal ?_)
      refine CS.region (id := 6) ?_
      refine RS.pv (PV.all tab_ok rfl) rfl ?_
      refine RS.pv (PV.all tab_ok rfl) rfl ?_
      refine RS.pv (PV.all tab_ok rfl) rfl ?_
      refine RS.lv (LV.load tab_ok rfl (Has.mem hmem) rfl) rfl ?_
      refine RS.call hcall rfl (by kernel_rfl) rfl ?_
      rintro v i3 L3 hi3 ⟨jc', rfl, hj, rfl⟩
      have hj' := hj
      obtain ⟨rc', rfl, hrc'⟩ := hj
      obtain ⟨u2, w2, u3, w3, u4, w4, u5, w5, u6, w6, rfl⟩ := hrc'.lit
      refine RS.buildSlice tab_ok rfl rfl (fun bb => ?_)
      refine RS.perm (L' := O ++ ((bb, .cells ([.int .i64 xjd.index, .int .i64 xjd.left, .string xjd.rcd.path, .int .i64 xjd.rcd.index, .slice u2 xjd.rcd.props.length w2, .slice u3 xjd.rcd.tags.length w3, .slice u4 xjd.rcd.links.length w4, .slice u5 xjd.rcd.run.length w5, .slice u6 xjd.rcd.load.length w6, .string xjd.rcd.name, .int .i64 xjd.rcd.priority, .string xjd.rcd.owner, .string xjd.rcd.group, .int .i64 xjd.rcd.mode]).toArray 41 (0, 0)) :: (G ++ (poolL p js nw ++ R)))) List.perm_middle.symm ?_
      refine RS.append tab_ok (sz := 14) (bytes := 224) (k := (jds js k).length) (m := 1) (xs := cs) (news := [.int .i64 xjd.index, .int .i64 xjd.left, .string xjd.rcd.path, .int .i64 xjd.rcd.index, .slice u2 xjd.rcd.props.length w2, .slice u3 xjd.rcd.tags.length w3, .slice u4 xjd.rcd.links.length w4, .slice u5 xjd.rcd.run.length w5, .slice u6 xjd.rcd.load.length w6, .string xjd.rcd.name, .int .i64 xjd.rcd.priority, .string xjd.rcd.owner, .string xjd.rcd.group, .int .i64 xjd.rcd.mode]) rfl rfl rfl ⟨_, rfl, rfl⟩ ⟨_, rfl, rfl, rfl⟩ (by omega) hsl rfl (Rd.sub (i := i3) (L := [(bb, _)]) ((SlO.built 41 14 1 bb _ rfl).rd (L := [])) (fun e he => List.mem_append_right _ (List.mem_cons.2 (.inl (List.mem_singleton.1 he))))) (by intro c hc; simp at hc; rcases hc with rfl | rfl | rfl | rfl | rfl | rfl | rfl | rfl | rfl | rfl | rfl | rfl | rfl | rfl <;> rfl) (by omega) (by omega) ?_
      intro v' O' hO hnil
      obtain ⟨ao', cap', rfl⟩ := SlO.shape hO
      refine RS.pv (PV.all tab_ok rfl) rfl ?_
      refine RS.nil ?_
      repeat' (first
        | refine CS.seq ?_
        | refine thenQ.normal ?_
        | refine CS.cond_true rfl ?_
        | refine CS.cond_false rfl ?_
        | refine CS.skip ?_
        | (refine CS.region (id := 0) ?_;
            refine RS.pv (PV.all tab_ok rfl) rfl ?_;
            refine RS.nil ?_)
        | (refine CS.region (id := 1) ?_;
            refine RS.pv (PV.all tab_ok rfl) rfl ?_;
            refine RS.nil ?_)
        | (refine CS.region (id := 3) ?_;
            (first | refine RS.pv (PV.lssT rfl rfl (by omega)) rfl ?_ | refine RS.pv (PV.lssF rfl rfl (by omega)) rfl ?_ | refine RS.ifLss rfl rfl rfl (fun h => ?_) (fun h => ?_));
            (all_goals refine RS.nil ?_))
        | (refine CS.region (id := 7) ?_;
            refine RS.pv (PV.add rfl rfl (by omega)) rfl ?_;
            refine RS.pv (PV.all tab_ok rfl) rfl ?_;
            refine RS.nil ?_)
        | refine CS.ret ?_
        | refine thenQ.ret ?_
        | refine blkQ.ret ?_
        | refine retQ.ret ?_
        | refine CS.block ?_
        | refine CS.exit ?_
        | refine thenQ.exit ?_
        | refine blkQ.normal ?_
        | refine blkQ.here ?_
        | refine blkQ.past rfl ?_
        | refine retQ.normal ?_)
      exact ⟨nw - (k + 1), by omega, k + 1, ao', cap', _, O', (bb, .cells ([.int .i64 xjd.index, .int .i64 xjd.left, .string xjd.rcd.path, .int .i64 xjd.rcd.index, .slice u2 xjd.rcd.props.length w2, .slice u3 xjd.rcd.tags.length w3, .slice u4 xjd.rcd.links.length w4, .slice u5 xjd.rcd.run.length w5, .slice u6 xjd.rcd.load.length w6, .string xjd.rcd.name, .int .i64 xjd.rcd.priority, .string xjd.rcd.owner, .string xjd.rcd.group, .int .i64 xjd.rcd.mode]).toArray 41 (0, 0)) :: G, rfl, hlt, by rw [e0]; exact hO, by rw [e1]; exact .snoc (hjl.le hi3) hj', by rw [e0]; rfl, hp.le hi3, rfl⟩
  · have : k = nw := by omega
    subst this
    repeat' (first
      | refine CS.seq ?_
      | refine thenQ.normal ?_
      | refine CS.cond_true rfl ?_
      | refine CS.cond_false rfl ?_
      | refine CS.skip ?_
      | (refine CS.region (id := 0) ?_;
          refine RS.pv (PV.all tab_ok rfl) rfl ?_;
          refine RS.nil ?_)
      | (refine CS.region (id := 1) ?_;
          refine RS.pv (PV.all tab_ok rfl) rfl ?_;
          refine RS.nil ?_)
      | (refine CS.region (id := 3) ?_;
          (first | refine RS.pv (PV.lssT rfl rfl (by omega)) rfl ?_ | refine RS.pv (PV.lssF rfl rfl (by omega)) rfl ?_ | refine RS.ifLss rfl rfl rfl (fun h => ?_) (fun h => ?_));
          (all_goals refine RS.nil ?_))
      | (refine CS.region (id := 8) ?_;
          refine RS.pv (PV.all tab_ok rfl) rfl ?_;
          refine RS.pv (PV.all tab_ok rfl) rfl ?_;
          refine RS.nil ?_)
      | refine CS.ret ?_
      | refine thenQ.ret ?_
      | refine blkQ.ret ?_
      | refine retQ.ret ?_
      | refine CS.block ?_
      | refine CS.exit ?_
      | refine thenQ.exit ?_
      | refine blkQ.normal ?_
      | refine blkQ.here ?_
      | refine blkQ.past rfl ?_
      | refine retQ.normal ?_)
    exact ⟨cs, O, G, hsl, hjl, rfl⟩
theorem JobsF_s (p nw : Nat) (js : List (Option JobP)) (i : Imm) (R : SH) (hp : PoolSt i js nw) :
    FnS Try.prog 21 [.pointer (some ⟨p, 0, none⟩)] i (poolL p js nw ++ R) fun v i' L' => ∃ cs, Sl i' v 14 (jds js nw).length cs ∧ JL i' cs (jds js nw) ∧ L' = poolL p js nw ++ R := by
  refine FnS.state (Jobs_s p nw js i R hp) ?_
  rintro v i' L' w _ hs ⟨cs, O, h1, h2, rfl⟩
  obtain ⟨i2, h3, h4, h5⟩ := SlO.freeze h1 hs
  exact ⟨i2, _, h3, h4, cs, h5, h2.le h3, rfl⟩
theorem Room_s (p nw : Nat) (js : List (Option JobP)) (i : Imm) (R : SH) (hp : PoolSt i js nw) :
    FnS Try.prog 20 [.pointer (some ⟨p, 0, none⟩)] i (poolL p js nw ++ R) fun v _ L' => v = .int .i64 ((nw : Int) - (jds js nw).length) ∧ L' = poolL p js nw ++ R := by
  have hc := poolC_nw (nw := nw) hp.len
  have hpool : (p, poolO js nw) ∈ poolL p js nw ++ R := List.mem_append_left _ (List.mem_cons_self ..)
  have hl8 := jds_len js nw
  have hnw := hp.nwle
  refine FnS.intro1 Try.func20 rfl Try.ntmps20 (by simp) Try.results20 ?_
  repeat' (first
    | refine CS.seq ?_
    | refine thenQ.normal ?_
    | refine CS.cond_true rfl ?_
    | refine CS.cond_false rfl ?_
    | refine CS.skip ?_
    | (refine CS.region (id := 0) ?_;
        refine RS.pv (PV.all tab_ok rfl) rfl ?_;
        refine RS.nil ?_)
    | refine CS.ret ?_
    | refine thenQ.ret ?_
    | refine blkQ.ret ?_
    | refine retQ.ret ?_
    | refine CS.block ?_
    | refine CS.exit ?_
    | refine thenQ.exit ?_
    | refine blkQ.normal ?_
    | refine blkQ.here ?_
    | refine blkQ.past rfl ?_
    | refine retQ.normal ?_)
  refine CS.draw0 mix [0, 1, 2, 3, 4, 5, 6, 7] [8] (by kernel_rfl) rfl ?_
  refine GS.pv (PV.all tab_ok rfl) rfl rfl rfl rfl rfl rfl ?_
  refine GS.pv (PV.all tab_ok rfl) rfl rfl rfl rfl rfl rfl ?_
  refine GS.pv (PV.all tab_ok rfl) rfl rfl rfl rfl rfl rfl ?_
  refine GS.lv (fun _ _ => LV.load1 tab_ok rfl (Has.mem hpool) rfl hc) rfl rfl rfl rfl rfl rfl ?_
  refine GS.pv (PV.all tab_ok rfl) rfl rfl rfl rfl rfl rfl ?_
  refine GS.fact0 (fun _ v => ∃ ao cap, v = .slice ao (jds js nw).length cap) (fun _ _ _ _ h => h) rfl rfl rfl rfl rfl rfl (fun i' hi => OpS.call (by kernel_rfl) rfl (JobsF_s p nw js _ R (hp.le hi)) (fun _ _ _ _ ⟨cs, hs, _, hL⟩ => ⟨hL, by obtain ⟨ao, cap, h, _⟩ := hs; exact ⟨ao, cap, h⟩⟩)) ?_
  refine GS.valF (v := .int .i64 (jds js nw).length) rfl rfl rfl rfl (fun i' hi => by rintro v ⟨ao, cap, rfl⟩; refine ⟨rfl, OpS.value (v := .int .i64 (jds js nw).length) ?_ ⟨rfl, rfl⟩⟩; intro w hw; refine (show PV Try.prog _ _ _ _ → _ from fun h => by unfold PV at h; exact h w) ?_; exact PV.lenS tab_ok rfl rfl) ?_
  refine GS.pv (PV.sub rfl rfl (by omega)) rfl rfl rfl rfl rfl rfl ?_
  refine GS.done rfl rfl (fun i2 hi2 => ?_)
  intro v hv
  obtain ⟨ao, cap, rfl⟩ := hv
  refine RS.pv (PV.all tab_ok rfl) rfl ?_
  refine RS.nil ?_
  refine thenQ.normal ?_
  refine CS.ret ?_
  refine retQ.ret ?_
  exact ⟨rfl, rfl⟩
end Go.Proofs.Ytmcajldlcomegaa
