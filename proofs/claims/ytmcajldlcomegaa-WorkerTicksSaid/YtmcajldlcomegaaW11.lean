/- Contracts: ticks, whatever ends. -/
import Derived.Test.YtmcajldlcomegaaW10
namespace Go.Proofs.Ytmcajldlcomegaa
open Go Go.Eng

def zr (x : SJ) : SJ := (x.1, 0, x.2.2)
def zk (l : List SJ) (k : Nat) : List SJ := (l.take k).map zr ++ l.drop k
theorem zk_at {l : List SJ} {k : Nat} (h : k < l.length) : (zk l k)[k]? = l[k]? := by
  unfold zk
  rw [List.getElem?_append_right (by simp; omega)]
  simp [Nat.min_eq_left (Nat.le_of_lt h)]
theorem zk_set {l : List SJ} {k : Nat} {o : SJ} (h : l[k]? = some o) : zk l (k + 1) = (zk l k).set k (zr o) := by
  obtain ⟨hk, he⟩ := List.getElem?_eq_some_iff.1 h
  apply List.ext_getElem?
  intro j
  rw [List.getElem?_set]
  unfold zk
  have h1 : ((l.take k).map zr).length = k := by simp; omega
  have h2 : ((l.take (k + 1)).map zr).length = k + 1 := by simp; omega
  split
  · rename_i hkj
    subst hkj
    rw [List.getElem?_append_left (by omega)]
    simp only [List.length_append, h1, List.length_drop]
    rw [if_pos (by omega)]
    simp [h]
  · rename_i hkj
    by_cases hj : j < k
    · rw [List.getElem?_append_left (by omega), List.getElem?_append_left (by omega)]
      simp [hj, Nat.lt_succ_of_lt hj]
    · rw [List.getElem?_append_right (by omega), List.getElem?_append_right (by omega), h1, h2, List.getElem?_drop, List.getElem?_drop]
      congr 1; omega
theorem zk_ok {l : List SJ} (h : sjOk l) (k : Nat) : sjOk (zk l k) := fun y hy => by
  rcases List.mem_append.1 hy with hy | hy
  · obtain ⟨z, hz, rfl⟩ := List.mem_map.1 hy
    exact h z (List.mem_of_mem_take hz)
  · exact h y (List.mem_of_mem_drop hy)
theorem zk_len (l : List SJ) (k : Nat) : (zk l k).length = l.length := by
  simp only [zk, List.length_append, List.length_map, List.length_take, List.length_drop]; omega
theorem zk_end (l : List SJ) : zk l l.length = l.map zr := by simp [zk]
/-- the ticks of one job are set -/
theorem flat_put1 {l : List SJ} {j : Nat} {x : SJ} (sp : List Value) (u : Int) (h : l[j]? = some x) (hok : sjOk l) : putAt (flat l ++ sp) (0 + ((j : Nat) : Int).toNat * 14 + 1) [.int .i64 u] = some (flat (l.set j (x.1, u, x.2.2)) ++ sp) := by
  obtain ⟨A, B, rfl, rfl, h3⟩ := split_at h
  have hA := flat_len (l := A) fun y hy => hok y (List.mem_append_left _ hy)
  rw [h3, flat_append, flat_cons, flat_append, flat_cons, Int.toNat_natCast, Nat.zero_add, ← hA]
  have := putAt_mid [.int .i64 u] [.int .i64 x.2.1] (flat A ++ [.int .i64 x.1]) (x.2.2 ++ (flat B ++ sp)) rfl
  simp only [List.length_append, List.length_cons, List.length_nil] at this
  simp only [sjc, List.append_assoc, List.cons_append, List.nil_append] at this ⊢
  exact this
def toSJ (x : JobP) : SJ := (x.jd.index, x.jd.left, x.jc.drop 2)
theorem RecV.one {i : Imm} {rc : List Value} {r : Rec} (h : RecV i rc r) : rc.length = 12 ∧ rc.all (·.oneCell') = true := by
  obtain ⟨a2, c2, a3, c3, a4, c4, a5, c5, a6, c6, rfl⟩ := h.lit
  exact ⟨rfl, rfl⟩
theorem toSJ_c {i : Imm} {x : JobP} (h : JobV i x.jc x.jd) : sjc (toSJ x) = x.jc ∧ sjOne (toSJ x) := by
  obtain ⟨rc, h1, h2⟩ := h
  unfold sjc toSJ sjOne
  rw [h1]
  exact ⟨rfl, h2.one⟩
theorem jcs_flat {i : Imm} : ∀ {D : List JobP}, (∀ x ∈ D, JobV i x.jc x.jd) → jcs D = flat (D.map toSJ) ∧ sjOk (D.map toSJ)
  | [], _ => ⟨rfl, fun _ h => (by cases h)⟩
  | x :: D, h => by
    obtain ⟨h1, h2⟩ := jcs_flat (D := D) fun y hy => h y (List.mem_cons_of_mem _ hy)
    obtain ⟨h3, h4⟩ := toSJ_c (h x (List.mem_cons_self ..))
    refine ⟨?_, fun y hy => ?_⟩
    · rw [List.map_cons, flat_cons, h3, ← h1]; rfl
    · rcases List.mem_cons.1 hy with rfl | hy
      · exact h4
      · exact h2 y hy

theorem TickG_s (p nw : Nat) (js : List (Option JobP)) (t : Nat) (ht : t ≤ 1000) (i : Imm) (R : SH) (hp : PoolSt i js nw) :
    FnS Try.prog 17 [.pointer (some ⟨p, 0, none⟩), .int .i64 t] i (poolL p js nw ++ R) fun v _ L' => ∃ sv O, v = .tuple #[sv, .int .i64 0] ∧ SlO 41 sv 14 (js.filterMap (fin t)).length (flat ((isort ((js.filterMap (fin t)).map toSJ)).map zr)) O ∧ L' = O ++ (poolL p (js.map (tick1 t)) nw ++ R) := by
  refine FnS.state (K := fun v _ L' => ∃ sv O, v = .tuple #[sv, .int .i64 0] ∧ SlO 41 sv 14 (js.filterMap (fin t)).length (flat ((isort ((js.filterMap (fin t)).map toSJ)).map zr)) O ∧ ∃ G, L'.Perm (G ++ (O ++ (poolL p (js.map (tick1 t)) nw ++ R)))) ?_ ?_
  rotate_left
  · rintro v i' L' w _ hs ⟨sv, O, hv, hg, G, hL⟩
    exact ⟨i', _, Imm.le.refl i', (hs.perm hL).dropL, sv, O, hv, hg, rfl⟩
  have hlen := hp.len
  have hnw := hp.nwle
  have hc := poolC_nw (nw := nw) hp.len
  have hpool : (p, poolO js nw) ∈ poolL p js nw ++ R := List.mem_append_left _ (List.mem_cons_self ..)
  refine FnS.intro2 Try.func17 rfl Try.ntmps17 (by simp) Try.results17 ?_
  repeat' (first
    | refine CS.seq ?_
    | refine thenQ.normal ?_
    | refine CS.cond_true rfl ?_
    | refine CS.cond_false rfl ?_
    | refine CS.skip ?_
    | (refine CS.region (id := 0) ?_;
        refine RS.pv (PV.all tab_ok rfl) rfl ?_;
        refine RS.pv (PV.all tab_ok rfl) rfl ?_;
        refine RS.nil ?_)
    | (refine CS.region (id := 1) ?_;
        refine RS.pv (PV.all tab_ok rfl) rfl ?_;
        (first | refine RS.pv (PV.lssT rfl rfl (by omega)) rfl ?_ | refine RS.pv (PV.lssF rfl rfl (by omega)) rfl ?_ | refine RS.ifLss rfl rfl rfl (fun h => ?_) (fun h => ?_));
        (all_goals refine RS.pv (PV.all tab_ok rfl) rfl ?_);
        (all_goals (first | refine RS.pv (PV.all tab_ok rfl) rfl ?_ | refine RS.skip rfl ?_));
        (all_goals (first | refine RS.pv (PV.gtrT rfl rfl (by omega)) rfl ?_ | refine RS.pv (PV.gtrF rfl rfl (by omega)) rfl ?_ | refine RS.ifGtr rfl rfl rfl (fun h => ?_) (fun h => ?_) | refine RS.skip rfl ?_));
        (all_goals refine RS.pv (PV.all tab_ok rfl) rfl ?_);
        (all_goals refine RS.nil ?_))
    | (refine CS.region (id := 2) ?_;
        refine RS.pv (PV.all tab_ok rfl) rfl ?_;
        refine RS.pv (PV.all tab_ok rfl) rfl ?_;
        refine RS.nil ?_)
    | (refine CS.region (id := 3) ?_;
        refine RS.pv (PV.all tab_ok rfl) rfl ?_;
        refine RS.nil ?_)
    | (refine CS.drawQ (id := 4) mix (by kernel_rfl) ?_;
        refine QS.pv (PV.all tab_ok rfl) rfl ?_;
        refine QS.pv (PV.all tab_ok rfl) rfl ?_;
        refine QS.pv (PV.all tab_ok rfl) rfl ?_;
        refine QS.pv (PV.all tab_ok rfl) rfl ?_;
        refine QS.pv (PV.all tab_ok rfl) rfl ?_;
        refine QS.pv (PV.all tab_ok rfl) rfl ?_;
        refine QS.lv (LV.load1 tab_ok rfl (Has.mem hpool) rfl hc) rfl ?_;
        (all_goals refine QS.pv (PV.sliceArr tab_ok rfl rfl rfl (by omega)) rfl ?_);
        (all_goals (first | refine QS.pv (PV.lenS tab_ok rfl rfl) rfl ?_ | refine QS.pv (PV.lenT tab_ok rfl rfl) rfl ?_));
        (all_goals refine QS.pv (PV.all tab_ok rfl) rfl ?_);
        (all_goals refine QS.nil ?_))
    | (refine CS.region (id := 19) ?_;
        refine RS.pv (PV.all tab_ok rfl) rfl ?_;
        refine RS.pv (PV.all tab_ok rfl) rfl ?_;
        refine RS.pv (PV.all tab_ok rfl) rfl ?_;
        refine RS.nil ?_)
    | refine CS.ret ?_
    | refine thenQ.ret ?_
    | refine blkQ.ret ?_
    | refine retQ.ret ?_
    | refine CS.block ?_
    | refine CS.exit ?_
    | refine thenQ.exit ?_
    | refine blkQ.normal ?_
    | refine blkQ.here ?_
    | refine blkQ.past rfl ?_
    | refine retQ.normal ?_)
  refine CS.loop [0, 1, 6, 23, 24, 25] (fun m vs i' L' => ∃ (k : Nat) (ao : Option Addr) (cap : Nat) (O G : SH), m = nw - k ∧ k ≤ nw ∧ SlO 41 (.slice ao (fins t js k).length cap) 14 (fins t js k).length (jcs (fins t js k)) O ∧ vs = [.pointer (some ⟨p, 0, none⟩), .int .i64 t, .slice ao (fins t js k).length cap, .slice (some ⟨p, 0, none⟩) nw 8, .int .i64 nw, .int .i64 k] ∧ i' = i ∧ L'.Perm (O ++ (poolL p (tkd t js k) nw ++ (G ++ R)))) nw ⟨0, none, 0, [], [], rfl, Nat.zero_le _, SlO.nil 41 14, rfl, rfl, by simp [tkd]⟩ ?_
  rintro m g vs i' L' hi ⟨k, ao, cap, O, G, rfl, hkn, hsl, rfl, rfl, hL⟩
  refine CS.perm hL ?_
  by_cases hlt : k < nw
  · obtain ⟨o, ho⟩ : ∃ o, js[k]? = some o := ⟨_, List.getElem?_eq_getElem (by omega)⟩
    have ho' : (tkd t js k)[k]? = some o := (tkd_at (by omega)).trans ho
    have hcell := poolC_at (nw := nw) ho'
    have hset := tkd_set (t := (t : Int)) ho
    have hfin := fin_take (t := (t : Int)) ho
    have hfl := fins_len t js (k + 1)
    cases o with
    | none =>
      unfold jptr at hcell
      have hin : (p, poolO (tkd t js k) nw) ∈ O ++ (poolL p (tkd t js k) nw ++ (G ++ R)) := List.mem_append_right _ (List.mem_append_left _ (List.mem_cons_self ..))
      have e1 : fins t js (k + 1) = fins t js k := by unfold fins; rw [hfin]; simp [fin]
      have e2 : tkd t js (k + 1) = tkd t js k := by rw [hset]; exact set_same ho'
      repeat' (first
        | refine CS.seq ?_
        | refine thenQ.normal ?_
        | refine CS.cond_true rfl ?_
        | refine CS.cond_false rfl ?_
        | refine CS.skip ?_
        | (refine CS.region (id := 0) ?_;
            refine RS.pv (PV.all tab_ok rfl) rfl ?_;
            refine RS.pv (PV.all tab_ok rfl) rfl ?_;
            refine RS.nil ?_)
        | (refine CS.region (id := 1) ?_;
            refine RS.pv (PV.all tab_ok rfl) rfl ?_;
            (first | refine RS.pv (PV.lssT rfl rfl (by omega)) rfl ?_ | refine RS.pv (PV.lssF rfl rfl (by omega)) rfl ?_ | refine RS.ifLss rfl rfl rfl (fun h => ?_) (fun h => ?_));
            (all_goals refine RS.pv (PV.all tab_ok rfl) rfl ?_);
            (all_goals (first | refine RS.pv (PV.all tab_ok rfl) rfl ?_ | refine RS.skip rfl ?_));
            (all_goals (first | refine RS.pv (PV.gtrT rfl rfl (by omega)) rfl ?_ | refine RS.pv (PV.gtrF rfl rfl (by omega)) rfl ?_ | refine RS.ifGtr rfl rfl rfl (fun h => ?_) (fun h => ?_) | refine RS.skip rfl ?_));
            (all_goals refine RS.pv (PV.all tab_ok rfl) rfl ?_);
            (all_goals refine RS.nil ?_))
        | (refine CS.region (id := 2) ?_;
            refine RS.pv (PV.all tab_ok rfl) rfl ?_;
            refine RS.pv (PV.all tab_ok rfl) rfl ?_;
            refine RS.nil ?_)
        | (refine CS.region (id := 3) ?_;
            refine RS.pv (PV.all tab_ok rfl) rfl ?_;
            refine RS.nil ?_)
        | (refine CS.drawQ (id := 4) mix (by kernel_rfl) ?_;
            refine QS.pv (PV.all tab_ok rfl) rfl ?_;
            refine QS.pv (PV.all tab_ok rfl) rfl ?_;
            refine QS.pv (PV.all tab_ok rfl) rfl ?_;
            refine QS.pv (PV.all tab_ok rfl) rfl ?_;
            refine QS.pv (PV.all tab_ok rfl) rfl ?_;
            refine QS.pv (PV.all tab_ok rfl) rfl ?_;
            (first | refine QS.lv (LV.load tab_ok rfl (Has.own 0 rfl) rfl) rfl ?_ | refine QS.lv (LV.load tab_ok rfl (Has.own 1 rfl) rfl) rfl ?_ | refine QS.lv (LV.load tab_ok rfl (Has.own 2 rfl) rfl) rfl ?_);
            refine QS.pv (PV.sliceArr tab_ok rfl rfl rfl (by omega)) rfl ?_;
            (first | refine QS.pv (PV.lenS tab_ok rfl rfl) rfl ?_ | refine QS.pv (PV.lenT tab_ok rfl rfl) rfl ?_);
            refine QS.pv (PV.all tab_ok rfl) rfl ?_;
            refine QS.nil ?_)
        | (refine CS.region (id := 5) ?_;
            (first | refine RS.pv (PV.lssT rfl rfl (by omega)) rfl ?_ | refine RS.pv (PV.lssF rfl rfl (by omega)) rfl ?_ | refine RS.ifLss rfl rfl rfl (fun h => ?_) (fun h => ?_));
            (all_goals refine RS.nil ?_))
        | (refine CS.region (id := 6) ?_;
            refine RS.pv (PV.all tab_ok rfl) rfl ?_;
            (first | refine RS.pv (PV.indexAddr tab_ok rfl rfl rfl (by omega)) rfl ?_ | refine RS.pv (PV.indexAddrA tab_ok rfl rfl rfl (by omega)) rfl ?_);
            refine RS.lv (LV.load1 tab_ok rfl (Has.mem hin) rfl hcell) rfl ?_;
            (all_goals refine RS.pv (PV.all tab_ok rfl) rfl ?_);
            (all_goals refine RS.pv (PV.all tab_ok rfl) rfl ?_);
            (all_goals refine RS.nil ?_))
        | (refine CS.region (id := 8) ?_;
            refine RS.pv (PV.all tab_ok rfl) rfl ?_;
            (first | refine RS.pv (PV.all tab_ok rfl) rfl ?_ | refine RS.pv (PV.eqlT rfl rfl (by omega)) rfl ?_ | refine RS.pv (PV.eqlF rfl rfl (by omega)) rfl ?_ | refine RS.ifEql rfl rfl rfl (fun h => ?_) (fun h => ?_) | refine RS.ifSeql rfl rfl rfl (fun h => ?_) (fun h => ?_));
            (all_goals refine RS.pv (PV.all tab_ok rfl) rfl ?_);
            (all_goals refine RS.nil ?_))
        | (refine CS.region (id := 12) ?_;
            refine RS.pv (PV.add rfl rfl (by omega)) rfl ?_;
            refine RS.pv (PV.all tab_ok rfl) rfl ?_;
            refine RS.nil ?_)
        | (refine CS.region (id := 19) ?_;
            refine RS.pv (PV.all tab_ok rfl) rfl ?_;
            refine RS.pv (PV.all tab_ok rfl) rfl ?_;
            refine RS.pv (PV.all tab_ok rfl) rfl ?_;
            refine RS.nil ?_)
        | refine CS.ret ?_
        | refine thenQ.ret ?_
        | refine blkQ.ret ?_
        | refine retQ.ret ?_
        | refine CS.block ?_
        | refine CS.exit ?_
        | refine thenQ.exit ?_
        | refine blkQ.normal ?_
        | refine blkQ.here ?_
        | refine blkQ.past rfl ?_
        | refine retQ.normal ?_)
      exact ⟨nw - (k + 1), by omega, k + 1, ao, cap, O, G, rfl, hlt, by rw [e1]; exact hsl, by rw [e1]; rfl, rfl, by rw [e2]⟩
    | some x =>
      obtain ⟨xb, xjc, xjd⟩ := x
      obtain ⟨⟨rc, hjc, hrc⟩, hok, hl1, hl2⟩ := hp.job _ (List.mem_of_getElem? ho)
      simp only at hjc hrc hok hl1 hl2
      obtain ⟨d2, e2, d3, e3, d4, e4, d5, e5, d6, e6, rfl⟩ := hrc.lit
      subst hjc
      have hdel := jobsL_del ho'
      have hklen : k < (tkd t js k).length := (List.getElem?_eq_some_iff.1 ho').1
      change _ = some (Value.pointer (some ⟨xb, 0, none⟩)) at hcell
      by_cases hx : xjd.left ≤ t
      · have hput := poolC_put (nw := nw) hklen none
        have hf1 : fin t (some ⟨xb, [.int .i64 xjd.index, .int .i64 xjd.left, .string xjd.rcd.path, .int .i64 xjd.rcd.index, .slice d2 xjd.rcd.props.length e2, .slice d3 xjd.rcd.tags.length e3, .slice d4 xjd.rcd.links.length e4, .slice d5 xjd.rcd.run.length e5, .slice d6 xjd.rcd.load.length e6, .string xjd.rcd.name, .int .i64 xjd.rcd.priority, .string xjd.rcd.owner, .string xjd.rcd.group, .int .i64 xjd.rcd.mode], xjd⟩) = some ⟨xb, [.int .i64 xjd.index, .int .i64 xjd.left, .string xjd.rcd.path, .int .i64 xjd.rcd.index, .slice d2 xjd.rcd.props.length e2, .slice d3 xjd.rcd.tags.length e3, .slice d4 xjd.rcd.links.length e4, .slice d5 xjd.rcd.run.length e5, .slice d6 xjd.rcd.load.length e6, .string xjd.rcd.name, .int .i64 xjd.rcd.priority, .string xjd.rcd.owner, .string xjd.rcd.group, .int .i64 xjd.rcd.mode], xjd⟩ := if_pos hx
        have ht1 : tick1 t (some ⟨xb, [.int .i64 xjd.index, .int .i64 xjd.left, .string xjd.rcd.path, .int .i64 xjd.rcd.index, .slice d2 xjd.rcd.props.length e2, .slice d3 xjd.rcd.tags.length e3, .slice d4 xjd.rcd.links.length e4, .slice d5 xjd.rcd.run.length e5, .slice d6 xjd.rcd.load.length e6, .string xjd.rcd.name, .int .i64 xjd.rcd.priority, .string xjd.rcd.owner, .string xjd.rcd.group, .int .i64 xjd.rcd.mode], xjd⟩) = none := if_pos hx
        rw [ht1] at hset
        rw [hf1] at hfin
        change fins t js (k + 1) = fins t js k ++ [_] at hfin
        have h8 : (js.filterMap (fin t)).length ≤ 8 := by have := List.length_filterMap_le (fin t) js; omega
        have hle : (fins t js k).length + 1 ≤ 8 := by have := congrArg List.length hfin; simp at this; omega
        refine CS.perm (L' := (p, poolO (tkd t js k) nw) :: (xb, .cells ([.int .i64 xjd.index, .int .i64 xjd.left, .string xjd.rcd.path, .int .i64 xjd.rcd.index, .slice d2 xjd.rcd.props.length e2, .slice d3 xjd.rcd.tags.length e3, .slice d4 xjd.rcd.links.length e4, .slice d5 xjd.rcd.run.length e5, .slice d6 xjd.rcd.load.length e6, .string xjd.rcd.name, .int .i64 xjd.rcd.priority, .string xjd.rcd.owner, .string xjd.rcd.group, .int .i64 xjd.rcd.mode]).toArray 41 (0, 0)) :: (O ++ (jobsL ((tkd t js k).set k none) ++ (G ++ R)))) ?_ ?_
        · refine perm_of_sum _ _ fun f => ?_
          have := (hdel.map f).sum_nat
          simp only [poolL, List.map_append, List.map_cons, List.sum_append, List.sum_cons, List.cons_append, jobO] at this ⊢
          omega
        repeat' (first
          | refine CS.seq ?_
          | refine thenQ.normal ?_
          | refine CS.cond_true rfl ?_
          | refine CS.cond_false rfl ?_
          | refine CS.skip ?_
          | (refine CS.region (id := 0) ?_;
              refine RS.pv (PV.all tab_ok rfl) rfl ?_;
              refine RS.pv (PV.all tab_ok rfl) rfl ?_;
              refine RS.nil ?_)
          | (refine CS.region (id := 1) ?_;
              refine RS.pv (PV.all tab_ok rfl) rfl ?_;
              (first | refine RS.pv (PV.lssT rfl rfl (by omega)) rfl ?_ | refine RS.pv (PV.lssF rfl rfl (by omega)) rfl ?_ | refine RS.ifLss rfl rfl rfl (fun h => ?_) (fun h => ?_));
              (all_goals refine RS.pv (PV.all tab_ok rfl) rfl ?_);
              (all_goals (first | refine RS.pv (PV.all tab_ok rfl) rfl ?_ | refine RS.skip rfl ?_));
              (all_goals (first | refine RS.pv (PV.gtrT rfl rfl (by omega)) rfl ?_ | refine RS.pv (PV.gtrF rfl rfl (by omega)) rfl ?_ | refine RS.ifGtr rfl rfl rfl (fun h => ?_) (fun h => ?_) | refine RS.skip rfl ?_));
              (all_goals refine RS.pv (PV.all tab_ok rfl) rfl ?_);
              (all_goals refine RS.nil ?_))
          | (refine CS.region (id := 2) ?_;
              refine RS.pv (PV.all tab_ok rfl) rfl ?_;
              refine RS.pv (PV.all tab_ok rfl) rfl ?_;
              refine RS.nil ?_)
          | (refine CS.region (id := 3) ?_;
              refine RS.pv (PV.all tab_ok rfl) rfl ?_;
              refine RS.nil ?_)
          | (refine CS.drawQ (id := 4) mix (by kernel_rfl) ?_;
              refine QS.pv (PV.all tab_ok rfl) rfl ?_;
              refine QS.pv (PV.all tab_ok rfl) rfl ?_;
              refine QS.pv (PV.all tab_ok rfl) rfl ?_;
              refine QS.pv (PV.all tab_ok rfl) rfl ?_;
              refine QS.pv (PV.all tab_ok rfl) rfl ?_;
              refine QS.pv (PV.all tab_ok rfl) rfl ?_;
              (first | refine QS.lv (LV.load tab_ok rfl (Has.own 0 rfl) rfl) rfl ?_ | refine QS.lv (LV.load tab_ok rfl (Has.own 1 rfl) rfl) rfl ?_ | refine QS.lv (LV.load tab_ok rfl (Has.own 2 rfl) rfl) rfl ?_);
              refine QS.pv (PV.sliceArr tab_ok rfl rfl rfl (by omega)) rfl ?_;
              (first | refine QS.pv (PV.lenS tab_ok rfl rfl) rfl ?_ | refine QS.pv (PV.lenT tab_ok rfl rfl) rfl ?_);
              refine QS.pv (PV.all tab_ok rfl) rfl ?_;
              refine QS.nil ?_)
          | (refine CS.region (id := 5) ?_;
              (first | refine RS.pv (PV.lssT rfl rfl (by omega)) rfl ?_ | refine RS.pv (PV.lssF rfl rfl (by omega)) rfl ?_ | refine RS.ifLss rfl rfl rfl (fun h => ?_) (fun h => ?_));
              (all_goals refine RS.nil ?_))
          | (refine CS.region (id := 6) ?_;
              refine RS.pv (PV.all tab_ok rfl) rfl ?_;
              (first | refine RS.pv (PV.indexAddr tab_ok rfl rfl rfl (by omega)) rfl ?_ | refine RS.pv (PV.indexAddrA tab_ok rfl rfl rfl (by omega)) rfl ?_);
              refine RS.lv (LV.load1 tab_ok rfl (Has.own 0 rfl) rfl hcell) rfl ?_;
              (all_goals refine RS.pv (PV.all tab_ok rfl) rfl ?_);
              (all_goals refine RS.pv (PV.all tab_ok rfl) rfl ?_);
              (all_goals refine RS.nil ?_))
          | (refine CS.region (id := 8) ?_;
              refine RS.pv (PV.all tab_ok rfl) rfl ?_;
              (first | refine RS.pv (PV.all tab_ok rfl) rfl ?_ | refine RS.pv (PV.eqlT rfl rfl (by omega)) rfl ?_ | refine RS.pv (PV.eqlF rfl rfl (by omega)) rfl ?_ | refine RS.ifEql rfl rfl rfl (fun h => ?_) (fun h => ?_) | refine RS.ifSeql rfl rfl rfl (fun h => ?_) (fun h => ?_));
              (all_goals refine RS.pv (PV.all tab_ok rfl) rfl ?_);
              (all_goals refine RS.nil ?_))
          | (refine CS.region (id := 9) ?_;
              refine RS.pv (PV.all tab_ok rfl) rfl ?_;
              refine RS.pv (PV.all tab_ok rfl) rfl ?_;
              refine RS.pv (PV.all tab_ok rfl) rfl ?_;
              (first | refine RS.lv (LV.load tab_ok rfl (Has.own 0 rfl) rfl) rfl ?_ | refine RS.lv (LV.load tab_ok rfl (Has.own 1 rfl) rfl) rfl ?_ | refine RS.lv (LV.load tab_ok rfl (Has.own 2 rfl) rfl) rfl ?_);
              refine RS.pv (PV.all tab_ok rfl) rfl ?_;
              (first | refine RS.pv (PV.leqT rfl rfl (by omega)) rfl ?_ | refine RS.pv (PV.leqF rfl rfl (by omega)) rfl ?_ | refine RS.ifLeq rfl rfl rfl (fun h => ?_) (fun h => ?_));
              (all_goals refine RS.pv (PV.all tab_ok rfl) rfl ?_);
              (all_goals refine RS.nil ?_))
          | (refine CS.region (id := 12) ?_;
              refine RS.pv (PV.add rfl rfl (by omega)) rfl ?_;
              refine RS.pv (PV.all tab_ok rfl) rfl ?_;
              refine RS.nil ?_)
          | (refine CS.region (id := 19) ?_;
              refine RS.pv (PV.all tab_ok rfl) rfl ?_;
              refine RS.pv (PV.all tab_ok rfl) rfl ?_;
              refine RS.pv (PV.all tab_ok rfl) rfl ?_;
              refine RS.nil ?_)
          | refine CS.ret ?_
          | refine thenQ.ret ?_
          | refine blkQ.ret ?_
          | refine retQ.ret ?_
          | refine CS.block ?_
          | refine CS.exit ?_
          | refine thenQ.exit ?_
          | refine blkQ.normal ?_
          | refine blkQ.here ?_
          | refine blkQ.past rfl ?_
          | refine retQ.normal ?_)
        refine CS.region (id := 10) ?_
        refine RS.pv (PV.all tab_ok rfl) rfl ?_
        refine RS.pv (PV.all tab_ok rfl) rfl ?_
        refine RS.pv (PV.all tab_ok rfl) rfl ?_
        (first | refine RS.lv (LV.load tab_ok rfl (Has.own 0 rfl) rfl) rfl ?_ | refine RS.lv (LV.load tab_ok rfl (Has.own 1 rfl) rfl) rfl ?_ | refine RS.lv (LV.load tab_ok rfl (Has.own 2 rfl) rfl) rfl ?_)
        refine RS.buildSlice tab_ok rfl rfl (fun bb => ?_)
        refine RS.perm (L' := O ++ ((bb, .cells ([.int .i64 xjd.index, .int .i64 xjd.left, .string xjd.rcd.path, .int .i64 xjd.rcd.index, .slice d2 xjd.rcd.props.length e2, .slice d3 xjd.rcd.tags.length e3, .slice d4 xjd.rcd.links.length e4, .slice d5 xjd.rcd.run.length e5, .slice d6 xjd.rcd.load.length e6, .string xjd.rcd.name, .int .i64 xjd.rcd.priority, .string xjd.rcd.owner, .string xjd.rcd.group, .int .i64 xjd.rcd.mode]).toArray 41 (0, 0)) :: (p, poolO (tkd t js k) nw) :: (xb, .cells ([.int .i64 xjd.index, .int .i64 xjd.left, .string xjd.rcd.path, .int .i64 xjd.rcd.index, .slice d2 xjd.rcd.props.length e2, .slice d3 xjd.rcd.tags.length e3, .slice d4 xjd.rcd.links.length e4, .slice d5 xjd.rcd.run.length e5, .slice d6 xjd.rcd.load.length e6, .string xjd.rcd.name, .int .i64 xjd.rcd.priority, .string xjd.rcd.owner, .string xjd.rcd.group, .int .i64 xjd.rcd.mode]).toArray 41 (0, 0)) :: (jobsL ((tkd t js k).set k none) ++ (G ++ R)))) ?_ ?_
        · refine perm_of_sum _ _ fun f => ?_
          simp only [List.map_append, List.map_cons, List.sum_append, List.sum_cons]
          omega
        refine RS.append tab_ok (sz := 14) (bytes := 224) (k := (fins t js k).length) (m := 1) (xs := jcs (fins t js k)) (news := [.int .i64 xjd.index, .int .i64 xjd.left, .string xjd.rcd.path, .int .i64 xjd.rcd.index, .slice d2 xjd.rcd.props.length e2, .slice d3 xjd.rcd.tags.length e3, .slice d4 xjd.rcd.links.length e4, .slice d5 xjd.rcd.run.length e5, .slice d6 xjd.rcd.load.length e6, .string xjd.rcd.name, .int .i64 xjd.rcd.priority, .string xjd.rcd.owner, .string xjd.rcd.group, .int .i64 xjd.rcd.mode]) rfl rfl rfl ⟨_, rfl, rfl⟩ ⟨_, rfl, rfl, rfl⟩ (by omega) hsl rfl (Rd.sub (i := i') (L := [(bb, _)]) ((SlO.built 41 14 1 bb _ rfl).rd (L := [])) (fun e he => List.mem_append_right _ (List.mem_cons.2 (.inl (List.mem_singleton.1 he))))) (by intro c hc; simp at hc; rcases hc with rfl | rfl | rfl | rfl | rfl | rfl | rfl | rfl | rfl | rfl | rfl | rfl | rfl | rfl <;> rfl) (by omega) (by omega) ?_
        intro v' O' hO hnil
        obtain ⟨ao', cap', rfl⟩ := SlO.shape hO
        refine RS.pv (PV.all tab_ok rfl) rfl ?_
        refine RS.nil ?_
        refine thenQ.normal ?_
        refine CS.perm (L' := (p, poolO (tkd t js k) nw) :: (O' ++ ((bb, .cells ([.int .i64 xjd.index, .int .i64 xjd.left, .string xjd.rcd.path, .int .i64 xjd.rcd.index, .slice d2 xjd.rcd.props.length e2, .slice d3 xjd.rcd.tags.length e3, .slice d4 xjd.rcd.links.length e4, .slice d5 xjd.rcd.run.length e5, .slice d6 xjd.rcd.load.length e6, .string xjd.rcd.name, .int .i64 xjd.rcd.priority, .string xjd.rcd.owner, .string xjd.rcd.group, .int .i64 xjd.rcd.mode]).toArray 41 (0, 0)) :: (xb, .cells ([.int .i64 xjd.index, .int .i64 xjd.left, .string xjd.rcd.path, .int .i64 xjd.rcd.index, .slice d2 xjd.rcd.props.length e2, .slice d3 xjd.rcd.tags.length e3, .slice d4 xjd.rcd.links.length e4, .slice d5 xjd.rcd.run.length e5, .slice d6 xjd.rcd.load.length e6, .string xjd.rcd.name, .int .i64 xjd.rcd.priority, .string xjd.rcd.owner, .string xjd.rcd.group, .int .i64 xjd.rcd.mode]).toArray 41 (0, 0)) :: (jobsL ((tkd t js k).set k none) ++ (G ++ R))))) ?_ ?_
        · refine perm_of_sum _ _ fun f => ?_
          simp only [List.map_append, List.map_cons, List.sum_append, List.sum_cons]
          omega
        have e0 : (fins t js (k + 1)).length = (fins t js k).length + 1 := by rw [hfin]; simp
        have e1 : jcs (fins t js (k + 1)) = jcs (fins t js k) ++ [.int .i64 xjd.index, .int .i64 xjd.left, .string xjd.rcd.path, .int .i64 xjd.rcd.index, .slice d2 xjd.rcd.props.length e2, .slice d3 xjd.rcd.tags.length e3, .slice d4 xjd.rcd.links.length e4, .slice d5 xjd.rcd.run.length e5, .slice d6 xjd.rcd.load.length e6, .string xjd.rcd.name, .int .i64 xjd.rcd.priority, .string xjd.rcd.owner, .string xjd.rcd.group, .int .i64 xjd.rcd.mode] := by rw [hfin]; simp [jcs]
        rw [← e0, ← e1] at hO
        repeat' (first
          | refine CS.seq ?_
          | refine thenQ.normal ?_
          | refine CS.cond_true rfl ?_
          | refine CS.cond_false rfl ?_
          | refine CS.skip ?_
          | (refine CS.region (id := 0) ?_;
              refine RS.pv (PV.all tab_ok rfl) rfl ?_;
              refine RS.pv (PV.all tab_ok rfl) rfl ?_;
              refine RS.nil ?_)
          | (refine CS.region (id := 1) ?_;
              refine RS.pv (PV.all tab_ok rfl) rfl ?_;
              (first | refine RS.pv (PV.lssT rfl rfl (by omega)) rfl ?_ | refine RS.pv (PV.lssF rfl rfl (by omega)) rfl ?_ | refine RS.ifLss rfl rfl rfl (fun h => ?_) (fun h => ?_));
              (all_goals refine RS.pv (PV.all tab_ok rfl) rfl ?_);
              (all_goals (first | refine RS.pv (PV.all tab_ok rfl) rfl ?_ | refine RS.skip rfl ?_));
              (all_goals (first | refine RS.pv (PV.gtrT rfl rfl (by omega)) rfl ?_ | refine RS.pv (PV.gtrF rfl rfl (by omega)) rfl ?_ | refine RS.ifGtr rfl rfl rfl (fun h => ?_) (fun h => ?_) | refine RS.skip rfl ?_));
              (all_goals refine RS.pv (PV.all tab_ok rfl) rfl ?_);
              (all_goals refine RS.nil ?_))
          | (refine CS.region (id := 2) ?_;
              refine RS.pv (PV.all tab_ok rfl) rfl ?_;
              refine RS.pv (PV.all tab_ok rfl) rfl ?_;
              refine RS.nil ?_)
          | (refine CS.region (id := 3) ?_;
              refine RS.pv (PV.all tab_ok rfl) rfl ?_;
              refine RS.nil ?_)
          | (refine CS.drawQ (id := 4) mix (by kernel_rfl) ?_;
              refine QS.pv (PV.all tab_ok rfl) rfl ?_;
              refine QS.pv (PV.all tab_ok rfl) rfl ?_;
              refine QS.pv (PV.all tab_ok rfl) rfl ?_;
              refine QS.pv (PV.all tab_ok rfl) rfl ?_;
              refine QS.pv (PV.all tab_ok rfl) rfl ?_;
              refine QS.pv (PV.all tab_ok rfl) rfl ?_;
              (first | refine QS.lv (LV.load tab_ok rfl (Has.own 0 rfl) rfl) rfl ?_ | refine QS.lv (LV.load tab_ok rfl (Has.own 1 rfl) rfl) rfl ?_ | refine QS.lv (LV.load tab_ok rfl (Has.own 2 rfl) rfl) rfl ?_);
              refine QS.pv (PV.sliceArr tab_ok rfl rfl rfl (by omega)) rfl ?_;
              (first | refine QS.pv (PV.lenS tab_ok rfl rfl) rfl ?_ | refine QS.pv (PV.lenT tab_ok rfl rfl) rfl ?_);
              refine QS.pv (PV.all tab_ok rfl) rfl ?_;
              refine QS.nil ?_)
          | (refine CS.region (id := 5) ?_;
              (first | refine RS.pv (PV.lssT rfl rfl (by omega)) rfl ?_ | refine RS.pv (PV.lssF rfl rfl (by omega)) rfl ?_ | refine RS.ifLss rfl rfl rfl (fun h => ?_) (fun h => ?_));
              (all_goals refine RS.nil ?_))
          | (refine CS.region (id := 6) ?_;
              refine RS.pv (PV.all tab_ok rfl) rfl ?_;
              (first | refine RS.pv (PV.indexAddr tab_ok rfl rfl rfl (by omega)) rfl ?_ | refine RS.pv (PV.indexAddrA tab_ok rfl rfl rfl (by omega)) rfl ?_);
              (first | refine RS.lv (LV.load tab_ok rfl (Has.own 0 rfl) rfl) rfl ?_ | refine RS.lv (LV.load tab_ok rfl (Has.own 1 rfl) rfl) rfl ?_ | refine RS.lv (LV.load tab_ok rfl (Has.own 2 rfl) rfl) rfl ?_);
              refine RS.pv (PV.all tab_ok rfl) rfl ?_;
              refine RS.pv (PV.all tab_ok rfl) rfl ?_;
              refine RS.nil ?_)
          | (refine CS.region (id := 8) ?_;
              refine RS.pv (PV.all tab_ok rfl) rfl ?_;
              (first | refine RS.pv (PV.all tab_ok rfl) rfl ?_ | refine RS.pv (PV.eqlT rfl rfl (by omega)) rfl ?_ | refine RS.pv (PV.eqlF rfl rfl (by omega)) rfl ?_ | refine RS.ifEql rfl rfl rfl (fun h => ?_) (fun h => ?_) | refine RS.ifSeql rfl rfl rfl (fun h => ?_) (fun h => ?_));
              (all_goals refine RS.pv (PV.all tab_ok rfl) rfl ?_);
              (all_goals refine RS.nil ?_))
          | (refine CS.region (id := 9) ?_;
              refine RS.pv (PV.all tab_ok rfl) rfl ?_;
              refine RS.pv (PV.all tab_ok rfl) rfl ?_;
              refine RS.pv (PV.all tab_ok rfl) rfl ?_;
              (first | refine RS.lv (LV.load tab_ok rfl (Has.own 0 rfl) rfl) rfl ?_ | refine RS.lv (LV.load tab_ok rfl (Has.own 1 rfl) rfl) rfl ?_ | refine RS.lv (LV.load tab_ok rfl (Has.own 2 rfl) rfl) rfl ?_);
              refine RS.pv (PV.all tab_ok rfl) rfl ?_;
              (first | refine RS.pv (PV.leqT rfl rfl (by omega)) rfl ?_ | refine RS.pv (PV.leqF rfl rfl (by omega)) rfl ?_ | refine RS.ifLeq rfl rfl rfl (fun h => ?_) (fun h => ?_));
              (all_goals refine RS.pv (PV.all tab_ok rfl) rfl ?_);
              (all_goals refine RS.nil ?_))
          | (refine CS.region (id := 11) ?_;
              refine RS.pv (PV.all tab_ok rfl) rfl ?_;
              refine RS.pv (PV.all tab_ok rfl) rfl ?_;
              refine RS.pv (PV.all tab_ok rfl) rfl ?_;
              refine RS.pv (PV.all tab_ok rfl) rfl ?_;
              (first | refine RS.pv (PV.indexAddr tab_ok rfl rfl rfl (by omega)) rfl ?_ | refine RS.pv (PV.indexAddrA tab_ok rfl rfl rfl (by omega)) rfl ?_);
              refine RS.store (k := 0) tab_ok rfl rfl rfl rfl rfl rfl hput rfl ?_;
              (all_goals refine RS.nil ?_))
          | (refine CS.region (id := 12) ?_;
              refine RS.pv (PV.add rfl rfl (by omega)) rfl ?_;
              refine RS.pv (PV.all tab_ok rfl) rfl ?_;
              refine RS.nil ?_)
          | (refine CS.region (id := 19) ?_;
              refine RS.pv (PV.all tab_ok rfl) rfl ?_;
              refine RS.pv (PV.all tab_ok rfl) rfl ?_;
              refine RS.pv (PV.all tab_ok rfl) rfl ?_;
              refine RS.nil ?_)
          | refine CS.ret ?_
          | refine thenQ.ret ?_
          | refine blkQ.ret ?_
          | refine retQ.ret ?_
          | refine CS.block ?_
          | refine CS.exit ?_
          | refine thenQ.exit ?_
          | refine blkQ.normal ?_
          | refine blkQ.here ?_
          | refine blkQ.past rfl ?_
          | refine retQ.normal ?_)
        refine ⟨nw - (k + 1), by omega, k + 1, ao', cap', O', (bb, .cells ([.int .i64 xjd.index, .int .i64 xjd.left, .string xjd.rcd.path, .int .i64 xjd.rcd.index, .slice d2 xjd.rcd.props.length e2, .slice d3 xjd.rcd.tags.length e3, .slice d4 xjd.rcd.links.length e4, .slice d5 xjd.rcd.run.length e5, .slice d6 xjd.rcd.load.length e6, .string xjd.rcd.name, .int .i64 xjd.rcd.priority, .string xjd.rcd.owner, .string xjd.rcd.group, .int .i64 xjd.rcd.mode]).toArray 41 (0, 0)) :: (xb, .cells ([.int .i64 xjd.index, .int .i64 xjd.left, .string xjd.rcd.path, .int .i64 xjd.rcd.index, .slice d2 xjd.rcd.props.length e2, .slice d3 xjd.rcd.tags.length e3, .slice d4 xjd.rcd.links.length e4, .slice d5 xjd.rcd.run.length e5, .slice d6 xjd.rcd.load.length e6, .string xjd.rcd.name, .int .i64 xjd.rcd.priority, .string xjd.rcd.owner, .string xjd.rcd.group, .int .i64 xjd.rcd.mode]).toArray 41 (0, 0)) :: G, rfl, hlt, by rw [e0] at hO ⊢; exact hO, by rw [e0]; rfl, rfl, ?_⟩
        rw [hset]
        refine perm_of_sum _ _ fun f => ?_
        simp only [poolL, poolO, List.map_append, List.map_cons, List.sum_append, List.sum_cons, List.cons_append]
        omega
      · have hx' : t < xjd.left := by omega
        have ht1 : tick1 t (some ⟨xb, [.int .i64 xjd.index, .int .i64 xjd.left, .string xjd.rcd.path, .int .i64 xjd.rcd.index, .slice d2 xjd.rcd.props.length e2, .slice d3 xjd.rcd.tags.length e3, .slice d4 xjd.rcd.links.length e4, .slice d5 xjd.rcd.run.length e5, .slice d6 xjd.rcd.load.length e6, .string xjd.rcd.name, .int .i64 xjd.rcd.priority, .string xjd.rcd.owner, .string xjd.rcd.group, .int .i64 xjd.rcd.mode], xjd⟩) = some ⟨xb, .int .i64 xjd.index :: .int .i64 (xjd.left - t) :: ([.int .i64 xjd.index, .int .i64 xjd.left, .string xjd.rcd.path, .int .i64 xjd.rcd.index, .slice d2 xjd.rcd.props.length e2, .slice d3 xjd.rcd.tags.length e3, .slice d4 xjd.rcd.links.length e4, .slice d5 xjd.rcd.run.length e5, .slice d6 xjd.rcd.load.length e6, .string xjd.rcd.name, .int .i64 xjd.rcd.priority, .string xjd.rcd.owner, .string xjd.rcd.group, .int .i64 xjd.rcd.mode]).drop 2, ⟨xjd.index, xjd.left - t, xjd.rcd⟩⟩ := if_neg hx
        have hf1 : fin t (some ⟨xb, [.int .i64 xjd.index, .int .i64 xjd.left, .string xjd.rcd.path, .int .i64 xjd.rcd.index, .slice d2 xjd.rcd.props.length e2, .slice d3 xjd.rcd.tags.length e3, .slice d4 xjd.rcd.links.length e4, .slice d5 xjd.rcd.run.length e5, .slice d6 xjd.rcd.load.length e6, .string xjd.rcd.name, .int .i64 xjd.rcd.priority, .string xjd.rcd.owner, .string xjd.rcd.group, .int .i64 xjd.rcd.mode], xjd⟩) = none := if_neg hx
        rw [ht1] at hset
        rw [hf1] at hfin
        change fins t js (k + 1) = fins t js k ++ [] at hfin
        rw [List.append_nil] at hfin
        refine CS.perm (L' := (p, poolO (tkd t js k) nw) :: (xb, .cells ([.int .i64 xjd.index, .int .i64 xjd.left, .string xjd.rcd.path, .int .i64 xjd.rcd.index, .slice d2 xjd.rcd.props.length e2, .slice d3 xjd.rcd.tags.length e3, .slice d4 xjd.rcd.links.length e4, .slice d5 xjd.rcd.run.length e5, .slice d6 xjd.rcd.load.length e6, .string xjd.rcd.name, .int .i64 xjd.rcd.priority, .string xjd.rcd.owner, .string xjd.rcd.group, .int .i64 xjd.rcd.mode]).toArray 41 (0, 0)) :: (O ++ (jobsL ((tkd t js k).set k none) ++ (G ++ R)))) ?_ ?_
        · refine perm_of_sum _ _ fun f => ?_
          have := (hdel.map f).sum_nat
          simp only [poolL, List.map_append, List.map_cons, List.sum_append, List.sum_cons, List.cons_append, jobO] at this ⊢
          omega
        repeat' (first
          | refine CS.seq ?_
          | refine thenQ.normal ?_
          | refine CS.cond_true rfl ?_
          | refine CS.cond_false rfl ?_
          | refine CS.skip ?_
          | (refine CS.region (id := 0) ?_;
              refine RS.pv (PV.all tab_ok rfl) rfl ?_;
              refine RS.pv (PV.all tab_ok rfl) rfl ?_;
              refine RS.nil ?_)
          | (refine CS.region (id := 1) ?_;
              refine RS.pv (PV.all tab_ok rfl) rfl ?_;
              (first | refine RS.pv (PV.lssT rfl rfl (by omega)) rfl ?_ | refine RS.pv (PV.lssF rfl rfl (by omega)) rfl ?_ | refine RS.ifLss rfl rfl rfl (fun h => ?_) (fun h => ?_));
              (all_goals refine RS.pv (PV.all tab_ok rfl) rfl ?_);
              (all_goals (first | refine RS.pv (PV.all tab_ok rfl) rfl ?_ | refine RS.skip rfl ?_));
              (all_goals (first | refine RS.pv (PV.gtrT rfl rfl (by omega)) rfl ?_ | refine RS.pv (PV.gtrF rfl rfl (by omega)) rfl ?_ | refine RS.ifGtr rfl rfl rfl (fun h => ?_) (fun h => ?_) | refine RS.skip rfl ?_));
              (all_goals refine RS.pv (PV.all tab_ok rfl) rfl ?_);
              (all_goals refine RS.nil ?_))
          | (refine CS.region (id := 2) ?_;
              refine RS.pv (PV.all tab_ok rfl) rfl ?_;
              refine RS.pv (PV.all tab_ok rfl) rfl ?_;
              refine RS.nil ?_)
          | (refine CS.region (id := 3) ?_;
              refine RS.pv (PV.all tab_ok rfl) rfl ?_;
              refine RS.nil ?_)
          | (refine CS.drawQ (id := 4) mix (by kernel_rfl) ?_;
              refine QS.pv (PV.all tab_ok rfl) rfl ?_;
              refine QS.pv (PV.all tab_ok rfl) rfl ?_;
              refine QS.pv (PV.all tab_ok rfl) rfl ?_;
              refine QS.pv (PV.all tab_ok rfl) rfl ?_;
              refine QS.pv (PV.all tab_ok rfl) rfl ?_;
              refine QS.pv (PV.all tab_ok rfl) rfl ?_;
              (first | refine QS.lv (LV.load tab_ok rfl (Has.own 0 rfl) rfl) rfl ?_ | refine QS.lv (LV.load tab_ok rfl (Has.own 1 rfl) rfl) rfl ?_ | refine QS.lv (LV.load tab_ok rfl (Has.own 2 rfl) rfl) rfl ?_);
              refine QS.pv (PV.sliceArr tab_ok rfl rfl rfl (by omega)) rfl ?_;
              (first | refine QS.pv (PV.lenS tab_ok rfl rfl) rfl ?_ | refine QS.pv (PV.lenT tab_ok rfl rfl) rfl ?_);
              refine QS.pv (PV.all tab_ok rfl) rfl ?_;
              refine QS.nil ?_)
          | (refine CS.region (id := 5) ?_;
              (first | refine RS.pv (PV.lssT rfl rfl (by omega)) rfl ?_ | refine RS.pv (PV.lssF rfl rfl (by omega)) rfl ?_ | refine RS.ifLss rfl rfl rfl (fun h => ?_) (fun h => ?_));
              (all_goals refine RS.nil ?_))
          | (refine CS.region (id := 6) ?_;
              refine RS.pv (PV.all tab_ok rfl) rfl ?_;
              (first | refine RS.pv (PV.indexAddr tab_ok rfl rfl rfl (by omega)) rfl ?_ | refine RS.pv (PV.indexAddrA tab_ok rfl rfl rfl (by omega)) rfl ?_);
              refine RS.lv (LV.load1 tab_ok rfl (Has.own 0 rfl) rfl hcell) rfl ?_;
              (all_goals refine RS.pv (PV.all tab_ok rfl) rfl ?_);
              (all_goals refine RS.pv (PV.all tab_ok rfl) rfl ?_);
              (all_goals refine RS.nil ?_))
          | (refine CS.region (id := 7) ?_;
              refine RS.pv (PV.all tab_ok rfl) rfl ?_;
              refine RS.pv (PV.all tab_ok rfl) rfl ?_;
              refine RS.pv (PV.all tab_ok rfl) rfl ?_;
              (first | refine RS.lv (LV.load tab_ok rfl (Has.own 0 rfl) rfl) rfl ?_ | refine RS.lv (LV.load tab_ok rfl (Has.own 1 rfl) rfl) rfl ?_ | refine RS.lv (LV.load tab_ok rfl (Has.own 2 rfl) rfl) rfl ?_);
              refine RS.pv (PV.all tab_ok rfl) rfl ?_;
              refine RS.pv (PV.sub rfl rfl (by omega)) rfl ?_;
              refine RS.pv (PV.all tab_ok rfl) rfl ?_;
              refine RS.pv (PV.all tab_ok rfl) rfl ?_;
              (first | refine RS.store (k := 0) tab_ok rfl rfl rfl rfl rfl rfl rfl rfl ?_ | refine RS.store (k := 1) tab_ok rfl rfl rfl rfl rfl rfl rfl rfl ?_ | refine RS.store (k := 2) tab_ok rfl rfl rfl rfl rfl rfl rfl rfl ?_);
              refine RS.nil ?_)
          | (refine CS.region (id := 8) ?_;
              refine RS.pv (PV.all tab_ok rfl) rfl ?_;
              (first | refine RS.pv (PV.all tab_ok rfl) rfl ?_ | refine RS.pv (PV.eqlT rfl rfl (by omega)) rfl ?_ | refine RS.pv (PV.eqlF rfl rfl (by omega)) rfl ?_ | refine RS.ifEql rfl rfl rfl (fun h => ?_) (fun h => ?_) | refine RS.ifSeql rfl rfl rfl (fun h => ?_) (fun h => ?_));
              (all_goals refine RS.pv (PV.all tab_ok rfl) rfl ?_);
              (all_goals refine RS.nil ?_))
          | (refine CS.region (id := 9) ?_;
              refine RS.pv (PV.all tab_ok rfl) rfl ?_;
              refine RS.pv (PV.all tab_ok rfl) rfl ?_;
              refine RS.pv (PV.all tab_ok rfl) rfl ?_;
              (first | refine RS.lv (LV.load tab_ok rfl (Has.own 0 rfl) rfl) rfl ?_ | refine RS.lv (LV.load tab_ok rfl (Has.own 1 rfl) rfl) rfl ?_ | refine RS.lv (LV.load tab_ok rfl (Has.own 2 rfl) rfl) rfl ?_);
              refine RS.pv (PV.all tab_ok rfl) rfl ?_;
              (first | refine RS.pv (PV.leqT rfl rfl (by omega)) rfl ?_ | refine RS.pv (PV.leqF rfl rfl (by omega)) rfl ?_ | refine RS.ifLeq rfl rfl rfl (fun h => ?_) (fun h => ?_));
              (all_goals refine RS.pv (PV.all tab_ok rfl) rfl ?_);
              (all_goals refine RS.nil ?_))
          | (refine CS.region (id := 12) ?_;
              refine RS.pv (PV.add rfl rfl (by omega)) rfl ?_;
              refine RS.pv (PV.all tab_ok rfl) rfl ?_;
              refine RS.nil ?_)
          | (refine CS.region (id := 19) ?_;
              refine RS.pv (PV.all tab_ok rfl) rfl ?_;
              refine RS.pv (PV.all tab_ok rfl) rfl ?_;
              refine RS.pv (PV.all tab_ok rfl) rfl ?_;
              refine RS.nil ?_)
          | refine CS.ret ?_
          | refine thenQ.ret ?_
          | refine blkQ.ret ?_
          | refine retQ.ret ?_
          | refine CS.block ?_
          | refine CS.exit ?_
          | refine thenQ.exit ?_
          | refine blkQ.normal ?_
          | refine blkQ.here ?_
          | refine blkQ.past rfl ?_
          | refine retQ.normal ?_)
        refine ⟨nw - (k + 1), by omega, k + 1, ao, cap, O, G, rfl, hlt, by rw [hfin]; exact hsl, by rw [hfin]; rfl, rfl, ?_⟩
        have hadd := jobsL_add (js := (tkd t js k).set k none) (k := k) ⟨xb, .int .i64 xjd.index :: .int .i64 (xjd.left - t) :: ([.int .i64 xjd.index, .int .i64 xjd.left, .string xjd.rcd.path, .int .i64 xjd.rcd.index, .slice d2 xjd.rcd.props.length e2, .slice d3 xjd.rcd.tags.length e3, .slice d4 xjd.rcd.links.length e4, .slice d5 xjd.rcd.run.length e5, .slice d6 xjd.rcd.load.length e6, .string xjd.rcd.name, .int .i64 xjd.rcd.priority, .string xjd.rcd.owner, .string xjd.rcd.group, .int .i64 xjd.rcd.mode]).drop 2, ⟨xjd.index, xjd.left - t, xjd.rcd⟩⟩ (by rw [List.getElem?_set, if_pos rfl, if_pos hklen])
        rw [List.set_set, ← hset] at hadd
        have hkeep := poolC_keep (nw := nw) (y := ⟨xb, .int .i64 xjd.index :: .int .i64 (xjd.left - t) :: ([.int .i64 xjd.index, .int .i64 xjd.left, .string xjd.rcd.path, .int .i64 xjd.rcd.index, .slice d2 xjd.rcd.props.length e2, .slice d3 xjd.rcd.tags.length e3, .slice d4 xjd.rcd.links.length e4, .slice d5 xjd.rcd.run.length e5, .slice d6 xjd.rcd.load.length e6, .string xjd.rcd.name, .int .i64 xjd.rcd.priority, .string xjd.rcd.owner, .string xjd.rcd.group, .int .i64 xjd.rcd.mode]).drop 2, ⟨xjd.index, xjd.left - t, xjd.rcd⟩⟩) ho' rfl
        rw [← hset] at hkeep
        refine perm_of_sum _ _ fun f => ?_
        have := (hadd.map f).sum_nat
        simp only [poolL, poolO, hkeep, List.map_append, List.map_cons, List.sum_append, List.sum_cons, List.cons_append, jobO] at this ⊢
        have e3 : ∀ o, f (xb, o) = f (xb, o) := fun _ => rfl
        simp only [List.drop] at this
        omega
  · have hkk : k = nw := by omega
    subst hkk
    obtain ⟨e1, e2⟩ := fins_end (t := (t : Int)) hp
    rw [e1] at hsl ⊢
    rw [e2]
    have hmem : ∀ x, x ∈ js.filterMap (fin t) → some x ∈ js := by
      intro x hx
      obtain ⟨o, h3, h4⟩ := List.mem_filterMap.1 hx
      cases o with
      | none => cases h4
      | some y =>
        rw [show fin t (some y) = if y.jd.left ≤ t then some y else none from rfl] at h4
        by_cases hy : y.jd.left ≤ t
        · rw [if_pos hy] at h4; cases h4; exact h3
        · rw [if_neg hy] at h4; cases h4
    have h8 : (js.filterMap (fin t)).length ≤ 8 := by have := List.length_filterMap_le (fin t) js; omega
    revert hsl hmem h8
    generalize js.filterMap (fin t) = D
    intro hsl hmem h8
    obtain ⟨hj1, hj2⟩ := jcs_flat (D := D) fun x hx => (hp.job x (hmem x hx)).1
    have hil : (isort (D.map toSJ)).length = D.length := by rw [isort_len, List.length_map]
    obtain ⟨hs1, ⟨h0, h01, rfl⟩ | ⟨gb, cap', sp, h3, h4, h5, rfl⟩⟩ := hsl
    · cases List.eq_nil_of_length_eq_zero h01
      repeat' (first
        | refine CS.seq ?_
        | refine thenQ.normal ?_
        | refine CS.cond_true rfl ?_
        | refine CS.cond_false rfl ?_
        | refine CS.skip ?_
        | (refine CS.region (id := 0) ?_;
            refine RS.pv (PV.all tab_ok rfl) rfl ?_;
            refine RS.pv (PV.all tab_ok rfl) rfl ?_;
            refine RS.nil ?_)
        | (refine CS.region (id := 1) ?_;
            refine RS.pv (PV.all tab_ok rfl) rfl ?_;
            (first | refine RS.pv (PV.lssT rfl rfl (by omega)) rfl ?_ | refine RS.pv (PV.lssF rfl rfl (by omega)) rfl ?_ | refine RS.ifLss rfl rfl rfl (fun h => ?_) (fun h => ?_));
            (all_goals refine RS.pv (PV.all tab_ok rfl) rfl ?_);
            (all_goals (first | refine RS.pv (PV.all tab_ok rfl) rfl ?_ | refine RS.skip rfl ?_));
            (all_goals (first | refine RS.pv (PV.gtrT rfl rfl (by omega)) rfl ?_ | refine RS.pv (PV.gtrF rfl rfl (by omega)) rfl ?_ | refine RS.ifGtr rfl rfl rfl (fun h => ?_) (fun h => ?_) | refine RS.skip rfl ?_));
            (all_goals refine RS.pv (PV.all tab_ok rfl) rfl ?_);
            (all_goals refine RS.nil ?_))
        | (refine CS.region (id := 2) ?_;
            refine RS.pv (PV.all tab_ok rfl) rfl ?_;
            refine RS.pv (PV.all tab_ok rfl) rfl ?_;
            refine RS.nil ?_)
        | (refine CS.region (id := 3) ?_;
            refine RS.pv (PV.all tab_ok rfl) rfl ?_;
            refine RS.nil ?_)
        | (refine CS.drawQ (id := 4) mix (by kernel_rfl) ?_;
            refine QS.pv (PV.all tab_ok rfl) rfl ?_;
            refine QS.pv (PV.all tab_ok rfl) rfl ?_;
            refine QS.pv (PV.all tab_ok rfl) rfl ?_;
            refine QS.pv (PV.all tab_ok rfl) rfl ?_;
            refine QS.pv (PV.all tab_ok rfl) rfl ?_;
            refine QS.pv (PV.all tab_ok rfl) rfl ?_;
            (first | refine QS.lv (LV.load tab_ok rfl (Has.own 0 rfl) rfl) rfl ?_ | refine QS.lv (LV.load tab_ok rfl (Has.own 1 rfl) rfl) rfl ?_ | refine QS.lv (LV.load tab_ok rfl (Has.own 2 rfl) rfl) rfl ?_);
            refine QS.pv (PV.sliceArr tab_ok rfl rfl rfl (by omega)) rfl ?_;
            (first | refine QS.pv (PV.lenS tab_ok rfl rfl) rfl ?_ | refine QS.pv (PV.lenT tab_ok rfl rfl) rfl ?_);
            refine QS.pv (PV.all tab_ok rfl) rfl ?_;
            refine QS.nil ?_)
        | (refine CS.region (id := 5) ?_;
            (first | refine RS.pv (PV.lssT rfl rfl (by omega)) rfl ?_ | refine RS.pv (PV.lssF rfl rfl (by omega)) rfl ?_ | refine RS.ifLss rfl rfl rfl (fun h => ?_) (fun h => ?_));
            (all_goals refine RS.nil ?_))
        | (refine CS.region (id := 13) ?_;
            refine RS.pv (PV.all tab_ok rfl) rfl ?_;
            (refine RS.call (sort_s ao 0 cap (by omega) _ _) rfl (by kernel_rfl) rfl ?_; rintro v2 i2 L2 hi2 ⟨rfl, rfl⟩);
            (all_goals refine RS.nil ?_))
        | (refine CS.region (id := 14) ?_;
            refine RS.pv (PV.all tab_ok rfl) rfl ?_;
            (first | refine RS.pv (PV.lenS tab_ok rfl rfl) rfl ?_ | refine RS.pv (PV.lenT tab_ok rfl rfl) rfl ?_);
            refine RS.pv (PV.all tab_ok rfl) rfl ?_;
            refine RS.nil ?_)
        | (refine CS.region (id := 19) ?_;
            refine RS.pv (PV.all tab_ok rfl) rfl ?_;
            refine RS.pv (PV.all tab_ok rfl) rfl ?_;
            refine RS.pv (PV.all tab_ok rfl) rfl ?_;
            refine RS.nil ?_)
        | refine CS.ret ?_
        | refine thenQ.ret ?_
        | refine blkQ.ret ?_
        | refine retQ.ret ?_
        | refine CS.block ?_
        | refine CS.exit ?_
        | refine thenQ.exit ?_
        | refine blkQ.normal ?_
        | refine blkQ.here ?_
        | refine blkQ.past rfl ?_
        | refine retQ.normal ?_)
      refine CS.loop [6, 63, 64] (fun _ vs i' L' => vs = [.slice ao 0 cap, .int .i64 0, .int .i64 0] ∧ L' = [] ++ (poolL p (js.map (tick1 t)) k ++ (G ++ R))) 0 ⟨rfl, rfl⟩ ?_
      rintro m g vs i' L' hi ⟨rfl, rfl⟩
      repeat' (first
        | refine CS.seq ?_
        | refine thenQ.normal ?_
        | refine CS.cond_true rfl ?_
        | refine CS.cond_false rfl ?_
        | refine CS.skip ?_
        | (refine CS.region (id := 0) ?_;
            refine RS.pv (PV.all tab_ok rfl) rfl ?_;
            refine RS.pv (PV.all tab_ok rfl) rfl ?_;
            refine RS.nil ?_)
        | (refine CS.region (id := 1) ?_;
            refine RS.pv (PV.all tab_ok rfl) rfl ?_;
            (first | refine RS.pv (PV.lssT rfl rfl (by omega)) rfl ?_ | refine RS.pv (PV.lssF rfl rfl (by omega)) rfl ?_ | refine RS.ifLss rfl rfl rfl (fun h => ?_) (fun h => ?_));
            (all_goals refine RS.pv (PV.all tab_ok rfl) rfl ?_);
            (all_goals (first | refine RS.pv (PV.all tab_ok rfl) rfl ?_ | refine RS.skip rfl ?_));
            (all_goals (first | refine RS.pv (PV.gtrT rfl rfl (by omega)) rfl ?_ | refine RS.pv (PV.gtrF rfl rfl (by omega)) rfl ?_ | refine RS.ifGtr rfl rfl rfl (fun h => ?_) (fun h => ?_) | refine RS.skip rfl ?_));
            (all_goals refine RS.pv (PV.all tab_ok rfl) rfl ?_);
            (all_goals refine RS.nil ?_))
        | (refine CS.region (id := 2) ?_;
            refine RS.pv (PV.all tab_ok rfl) rfl ?_;
            refine RS.pv (PV.all tab_ok rfl) rfl ?_;
            refine RS.nil ?_)
        | (refine CS.region (id := 3) ?_;
            refine RS.pv (PV.all tab_ok rfl) rfl ?_;
            refine RS.nil ?_)
        | (refine CS.drawQ (id := 4) mix (by kernel_rfl) ?_;
            refine QS.pv (PV.all tab_ok rfl) rfl ?_;
            refine QS.pv (PV.all tab_ok rfl) rfl ?_;
            refine QS.pv (PV.all tab_ok rfl) rfl ?_;
            refine QS.pv (PV.all tab_ok rfl) rfl ?_;
            refine QS.pv (PV.all tab_ok rfl) rfl ?_;
            refine QS.pv (PV.all tab_ok rfl) rfl ?_;
            (first | refine QS.lv (LV.load tab_ok rfl (Has.own 0 rfl) rfl) rfl ?_ | refine QS.lv (LV.load tab_ok rfl (Has.own 1 rfl) rfl) rfl ?_ | refine QS.lv (LV.load tab_ok rfl (Has.own 2 rfl) rfl) rfl ?_);
            refine QS.pv (PV.sliceArr tab_ok rfl rfl rfl (by omega)) rfl ?_;
            (first | refine QS.pv (PV.lenS tab_ok rfl rfl) rfl ?_ | refine QS.pv (PV.lenT tab_ok rfl rfl) rfl ?_);
            refine QS.pv (PV.all tab_ok rfl) rfl ?_;
            refine QS.nil ?_)
        | (refine CS.region (id := 13) ?_;
            refine RS.pv (PV.all tab_ok rfl) rfl ?_)
        | (refine CS.region (id := 14) ?_;
            refine RS.pv (PV.all tab_ok rfl) rfl ?_;
            (first | refine RS.pv (PV.lenS tab_ok rfl rfl) rfl ?_ | refine RS.pv (PV.lenT tab_ok rfl rfl) rfl ?_);
            refine RS.pv (PV.all tab_ok rfl) rfl ?_;
            refine RS.nil ?_)
        | (refine CS.region (id := 15) ?_;
            (first | refine RS.pv (PV.lssT rfl rfl (by omega)) rfl ?_ | refine RS.pv (PV.lssF rfl rfl (by omega)) rfl ?_ | refine RS.ifLss rfl rfl rfl (fun h => ?_) (fun h => ?_));
            (all_goals refine RS.nil ?_))
        | (refine CS.region (id := 19) ?_;
            refine RS.pv (PV.all tab_ok rfl) rfl ?_;
            refine RS.pv (PV.all tab_ok rfl) rfl ?_;
            refine RS.pv (PV.all tab_ok rfl) rfl ?_;
            refine RS.nil ?_)
        | refine CS.ret ?_
        | refine thenQ.ret ?_
        | refine blkQ.ret ?_
        | refine retQ.ret ?_
        | refine CS.block ?_
        | refine CS.exit ?_
        | refine thenQ.exit ?_
        | refine blkQ.normal ?_
        | refine blkQ.here ?_
        | refine blkQ.past rfl ?_
        | refine retQ.normal ?_)
      refine ⟨.slice ao 0 cap, [], rfl, ⟨rfl, .inl ⟨h0, rfl, rfl⟩⟩, G, ?_⟩
      refine perm_of_sum _ _ fun f => ?_
      simp only [List.map_append, List.sum_append, List.map_nil, List.sum_nil]
      omega
    · cases h3
      rw [hj1]
      refine CS.perm (L' := (gb, .cells (flat (D.map toSJ) ++ sp).toArray 41 (0, 0)) :: (poolL p (js.map (tick1 t)) k ++ (G ++ R))) (List.Perm.refl _) ?_
      repeat' (first
        | refine CS.seq ?_
        | refine thenQ.normal ?_
        | refine CS.cond_true rfl ?_
        | refine CS.cond_false rfl ?_
        | refine CS.skip ?_
        | (refine CS.region (id := 0) ?_;
            refine RS.pv (PV.all tab_ok rfl) rfl ?_;
            refine RS.pv (PV.all tab_ok rfl) rfl ?_;
            refine RS.nil ?_)
        | (refine CS.region (id := 1) ?_;
            refine RS.pv (PV.all tab_ok rfl) rfl ?_;
            (first | refine RS.pv (PV.lssT rfl rfl (by omega)) rfl ?_ | refine RS.pv (PV.lssF rfl rfl (by omega)) rfl ?_ | refine RS.ifLss rfl rfl rfl (fun h => ?_) (fun h => ?_));
            (all_goals refine RS.pv (PV.all tab_ok rfl) rfl ?_);
            (all_goals (first | refine RS.pv (PV.all tab_ok rfl) rfl ?_ | refine RS.skip rfl ?_));
            (all_goals (first | refine RS.pv (PV.gtrT rfl rfl (by omega)) rfl ?_ | refine RS.pv (PV.gtrF rfl rfl (by omega)) rfl ?_ | refine RS.ifGtr rfl rfl rfl (fun h => ?_) (fun h => ?_) | refine RS.skip rfl ?_));
            (all_goals refine RS.pv (PV.all tab_ok rfl) rfl ?_);
            (all_goals refine RS.nil ?_))
        | (refine CS.region (id := 2) ?_;
            refine RS.pv (PV.all tab_ok rfl) rfl ?_;
            refine RS.pv (PV.all tab_ok rfl) rfl ?_;
            refine RS.nil ?_)
        | (refine CS.region (id := 3) ?_;
            refine RS.pv (PV.all tab_ok rfl) rfl ?_;
            refine RS.nil ?_)
        | (refine CS.drawQ (id := 4) mix (by kernel_rfl) ?_;
            refine QS.pv (PV.all tab_ok rfl) rfl ?_;
            refine QS.pv (PV.all tab_ok rfl) rfl ?_;
            refine QS.pv (PV.all tab_ok rfl) rfl ?_;
            refine QS.pv (PV.all tab_ok rfl) rfl ?_;
            refine QS.pv (PV.all tab_ok rfl) rfl ?_;
            refine QS.pv (PV.all tab_ok rfl) rfl ?_;
            (first | refine QS.lv (LV.load tab_ok rfl (Has.own 0 rfl) rfl) rfl ?_ | refine QS.lv (LV.load tab_ok rfl (Has.own 1 rfl) rfl) rfl ?_ | refine QS.lv (LV.load tab_ok rfl (Has.own 2 rfl) rfl) rfl ?_);
            refine QS.pv (PV.sliceArr tab_ok rfl rfl rfl (by omega)) rfl ?_;
            (first | refine QS.pv (PV.lenS tab_ok rfl rfl) rfl ?_ | refine QS.pv (PV.lenT tab_ok rfl rfl) rfl ?_);
            refine QS.pv (PV.all tab_ok rfl) rfl ?_;
            refine QS.nil ?_)
        | (refine CS.region (id := 5) ?_;
            (first | refine RS.pv (PV.lssT rfl rfl (by omega)) rfl ?_ | refine RS.pv (PV.lssF rfl rfl (by omega)) rfl ?_ | refine RS.ifLss rfl rfl rfl (fun h => ?_) (fun h => ?_));
            (all_goals refine RS.nil ?_))
        | (refine CS.region (id := 13) ?_;
            refine RS.pv (PV.all tab_ok rfl) rfl ?_;
            (refine RS.call (sortg_s gb D.length cap (D.map toSJ) sp _ _ (List.length_map ..) (by omega) hj2) rfl (by kernel_rfl) rfl ?_; rintro v2 i2 L2 hi2 rfl);
            (all_goals refine RS.nil ?_))
        | (refine CS.region (id := 14) ?_;
            refine RS.pv (PV.all tab_ok rfl) rfl ?_;
            (first | refine RS.pv (PV.lenS tab_ok rfl rfl) rfl ?_ | refine RS.pv (PV.lenT tab_ok rfl rfl) rfl ?_);
            refine RS.pv (PV.all tab_ok rfl) rfl ?_;
            refine RS.nil ?_)
        | (refine CS.region (id := 19) ?_;
            refine RS.pv (PV.all tab_ok rfl) rfl ?_;
            refine RS.pv (PV.all tab_ok rfl) rfl ?_;
            refine RS.pv (PV.all tab_ok rfl) rfl ?_;
            refine RS.nil ?_)
        | refine CS.ret ?_
        | refine thenQ.ret ?_
        | refine blkQ.ret ?_
        | refine retQ.ret ?_
        | refine CS.block ?_
        | refine CS.exit ?_
        | refine thenQ.exit ?_
        | refine blkQ.normal ?_
        | refine blkQ.here ?_
        | refine blkQ.past rfl ?_
        | refine retQ.normal ?_)
      refine CS.loop [6, 63, 64] (fun m vs _ L' => ∃ j : Nat, m = D.length - j ∧ j ≤ D.length ∧ vs = [.slice (some ⟨gb, 0, none⟩) D.length cap, .int .i64 D.length, .int .i64 j] ∧ L' = (gb, .cells (flat (zk (isort (D.map toSJ)) j) ++ sp).toArray 41 (0, 0)) :: (poolL p (js.map (tick1 t)) k ++ (G ++ R))) D.length ⟨0, rfl, Nat.zero_le _, rfl, rfl⟩ ?_
      rintro m g vs i' L' hi ⟨j, rfl, hjn, rfl, rfl⟩
      by_cases hj : j < D.length
      · obtain ⟨x, hx⟩ : ∃ x, (isort (D.map toSJ))[j]? = some x := ⟨_, List.getElem?_eq_getElem (by omega)⟩
        have hx' := (zk_at (l := isort (D.map toSJ)) (k := j) (by omega)).trans hx
        have hput := flat_put1 sp 0 hx' (zk_ok (isort_ok hj2) j)
        have hset := zk_set hx
        unfold zr at hset
        rw [← hset] at hput
        repeat' (first
          | refine CS.seq ?_
          | refine thenQ.normal ?_
          | refine CS.cond_true rfl ?_
          | refine CS.cond_false rfl ?_
          | refine CS.skip ?_
          | (refine CS.region (id := 0) ?_;
              refine RS.pv (PV.all tab_ok rfl) rfl ?_;
              refine RS.pv (PV.all tab_ok rfl) rfl ?_;
              refine RS.nil ?_)
          | (refine CS.region (id := 1) ?_;
              refine RS.pv (PV.all tab_ok rfl) rfl ?_;
              (first | refine RS.pv (PV.lssT rfl rfl (by omega)) rfl ?_ | refine RS.pv (PV.lssF rfl rfl (by omega)) rfl ?_ | refine RS.ifLss rfl rfl rfl (fun h => ?_) (fun h => ?_));
              (all_goals refine RS.pv (PV.all tab_ok rfl) rfl ?_);
              (all_goals (first | refine RS.pv (PV.all tab_ok rfl) rfl ?_ | refine RS.skip rfl ?_));
              (all_goals (first | refine RS.pv (PV.gtrT rfl rfl (by omega)) rfl ?_ | refine RS.pv (PV.gtrF rfl rfl (by omega)) rfl ?_ | refine RS.ifGtr rfl rfl rfl (fun h => ?_) (fun h => ?_) | refine RS.skip rfl ?_));
              (all_goals refine RS.pv (PV.all tab_ok rfl) rfl ?_);
              (all_goals refine RS.nil ?_))
          | (refine CS.region (id := 2) ?_;
              refine RS.pv (PV.all tab_ok rfl) rfl ?_;
              refine RS.pv (PV.all tab_ok rfl) rfl ?_;
              refine RS.nil ?_)
          | (refine CS.region (id := 3) ?_;
              refine RS.pv (PV.all tab_ok rfl) rfl ?_;
              refine RS.nil ?_)
          | (refine CS.drawQ (id := 4) mix (by kernel_rfl) ?_;
              refine QS.pv (PV.all tab_ok rfl) rfl ?_;
              refine QS.pv (PV.all tab_ok rfl) rfl ?_;
              refine QS.pv (PV.all tab_ok rfl) rfl ?_;
              refine QS.pv (PV.all tab_ok rfl) rfl ?_;
              refine QS.pv (PV.all tab_ok rfl) rfl ?_;
              refine QS.pv (PV.all tab_ok rfl) rfl ?_;
              (first | refine QS.lv (LV.load tab_ok rfl (Has.own 0 rfl) rfl) rfl ?_ | refine QS.lv (LV.load tab_ok rfl (Has.own 1 rfl) rfl) rfl ?_ | refine QS.lv (LV.load tab_ok rfl (Has.own 2 rfl) rfl) rfl ?_);
              refine QS.pv (PV.sliceArr tab_ok rfl rfl rfl (by omega)) rfl ?_;
              (first | refine QS.pv (PV.lenS tab_ok rfl rfl) rfl ?_ | refine QS.pv (PV.lenT tab_ok rfl rfl) rfl ?_);
              refine QS.pv (PV.all tab_ok rfl) rfl ?_;
              refine QS.nil ?_)
          | (refine CS.region (id := 13) ?_;
              refine RS.pv (PV.all tab_ok rfl) rfl ?_)
          | (refine CS.region (id := 14) ?_;
              refine RS.pv (PV.all tab_ok rfl) rfl ?_;
              (first | refine RS.pv (PV.lenS tab_ok rfl rfl) rfl ?_ | refine RS.pv (PV.lenT tab_ok rfl rfl) rfl ?_);
              refine RS.pv (PV.all tab_ok rfl) rfl ?_;
              refine RS.nil ?_)
          | (refine CS.region (id := 15) ?_;
              (first | refine RS.pv (PV.lssT rfl rfl (by omega)) rfl ?_ | refine RS.pv (PV.lssF rfl rfl (by omega)) rfl ?_ | refine RS.ifLss rfl rfl rfl (fun h => ?_) (fun h => ?_));
              (all_goals refine RS.nil ?_))
          | (refine CS.region (id := 16) ?_;
              refine RS.pv (PV.all tab_ok rfl) rfl ?_;
              refine RS.pv (PV.all tab_ok rfl) rfl ?_;
              refine RS.nil ?_)
          | (refine CS.region (id := 17) ?_;
              refine RS.pv (PV.all tab_ok rfl) rfl ?_;
              refine RS.pv (PV.all tab_ok rfl) rfl ?_;
              (first | refine RS.pv (PV.indexAddr tab_ok rfl rfl rfl (by omega)) rfl ?_ | refine RS.pv (PV.indexAddrA tab_ok rfl rfl rfl (by omega)) rfl ?_);
              refine RS.pv (PV.all tab_ok rfl) rfl ?_;
              refine RS.store (k := 0) tab_ok rfl rfl rfl rfl rfl rfl hput rfl ?_;
              (all_goals refine RS.nil ?_))
          | (refine CS.region (id := 18) ?_;
              refine RS.pv (PV.add rfl rfl (by omega)) rfl ?_;
              refine RS.pv (PV.all tab_ok rfl) rfl ?_;
              refine RS.nil ?_)
          | (refine CS.region (id := 19) ?_;
              refine RS.pv (PV.all tab_ok rfl) rfl ?_;
              refine RS.pv (PV.all tab_ok rfl) rfl ?_;
              refine RS.pv (PV.all tab_ok rfl) rfl ?_;
              refine RS.nil ?_)
          | refine CS.ret ?_
          | refine thenQ.ret ?_
          | refine blkQ.ret ?_
          | refine retQ.ret ?_
          | refine CS.block ?_
          | refine CS.exit ?_
          | refine thenQ.exit ?_
          | refine blkQ.normal ?_
          | refine blkQ.here ?_
          | refine blkQ.past rfl ?_
          | refine retQ.normal ?_)
        exact ⟨D.length - (j + 1), by omega, j + 1, rfl, hj, rfl, rfl⟩
      · have hjj : j = D.length := by omega
        subst hjj
        have hze := zk_end (isort (D.map toSJ))
        rw [hil] at hze
        rw [hze]
        repeat' (first
          | refine CS.seq ?_
          | refine thenQ.normal ?_
          | refine CS.cond_true rfl ?_
          | refine CS.cond_false rfl ?_
          | refine CS.skip ?_
          | (refine CS.region (id := 0) ?_;
              refine RS.pv (PV.all tab_ok rfl) rfl ?_;
              refine RS.pv (PV.all tab_ok rfl) rfl ?_;
              refine RS.nil ?_)
          | (refine CS.region (id := 1) ?_;
              refine RS.pv (PV.all tab_ok rfl) rfl ?_;
              (first | refine RS.pv (PV.lssT rfl rfl (by omega)) rfl ?_ | refine RS.pv (PV.lssF rfl rfl (by omega)) rfl ?_ | refine RS.ifLss rfl rfl rfl (fun h => ?_) (fun h => ?_));
              (all_goals refine RS.pv (PV.all tab_ok rfl) rfl ?_);
              (all_goals (first | refine RS.pv (PV.all tab_ok rfl) rfl ?_ | refine RS.skip rfl ?_));
              (all_goals (first | refine RS.pv (PV.gtrT rfl rfl (by omega)) rfl ?_ | refine RS.pv (PV.gtrF rfl rfl (by omega)) rfl ?_ | refine RS.ifGtr rfl rfl rfl (fun h => ?_) (fun h => ?_) | refine RS.skip rfl ?_));
              (all_goals refine RS.pv (PV.all tab_ok rfl) rfl ?_);
              (all_goals refine RS.nil ?_))
          | (refine CS.region (id := 2) ?_;
              refine RS.pv (PV.all tab_ok rfl) rfl ?_;
              refine RS.pv (PV.all tab_ok rfl) rfl ?_;
              refine RS.nil ?_)
          | (refine CS.region (id := 3) ?_;
              refine RS.pv (PV.all tab_ok rfl) rfl ?_;
              refine RS.nil ?_)
          | (refine CS.drawQ (id := 4) mix (by kernel_rfl) ?_;
              refine QS.pv (PV.all tab_ok rfl) rfl ?_;
              refine QS.pv (PV.all tab_ok rfl) rfl ?_;
              refine QS.pv (PV.all tab_ok rfl) rfl ?_;
              refine QS.pv (PV.all tab_ok rfl) rfl ?_;
              refine QS.pv (PV.all tab_ok rfl) rfl ?_;
              refine QS.pv (PV.all tab_ok rfl) rfl ?_;
              (first | refine QS.lv (LV.load tab_ok rfl (Has.own 0 rfl) rfl) rfl ?_ | refine QS.lv (LV.load tab_ok rfl (Has.own 1 rfl) rfl) rfl ?_ | refine QS.lv (LV.load tab_ok rfl (Has.own 2 rfl) rfl) rfl ?_);
              refine QS.pv (PV.sliceArr tab_ok rfl rfl rfl (by omega)) rfl ?_;
              (first | refine QS.pv (PV.lenS tab_ok rfl rfl) rfl ?_ | refine QS.pv (PV.lenT tab_ok rfl rfl) rfl ?_);
              refine QS.pv (PV.all tab_ok rfl) rfl ?_;
              refine QS.nil ?_)
          | (refine CS.region (id := 13) ?_;
              refine RS.pv (PV.all tab_ok rfl) rfl ?_)
          | (refine CS.region (id := 14) ?_;
              refine RS.pv (PV.all tab_ok rfl) rfl ?_;
              (first | refine RS.pv (PV.lenS tab_ok rfl rfl) rfl ?_ | refine RS.pv (PV.lenT tab_ok rfl rfl) rfl ?_);
              refine RS.pv (PV.all tab_ok rfl) rfl ?_;
              refine RS.nil ?_)
          | (refine CS.region (id := 15) ?_;
              (first | refine RS.pv (PV.lssT rfl rfl (by omega)) rfl ?_ | refine RS.pv (PV.lssF rfl rfl (by omega)) rfl ?_ | refine RS.ifLss rfl rfl rfl (fun h => ?_) (fun h => ?_));
              (all_goals refine RS.nil ?_))
          | (refine CS.region (id := 19) ?_;
              refine RS.pv (PV.all tab_ok rfl) rfl ?_;
              refine RS.pv (PV.all tab_ok rfl) rfl ?_;
              refine RS.pv (PV.all tab_ok rfl) rfl ?_;
              refine RS.nil ?_)
          | refine CS.ret ?_
          | refine thenQ.ret ?_
          | refine blkQ.ret ?_
          | refine retQ.ret ?_
          | refine CS.block ?_
          | refine CS.exit ?_
          | refine thenQ.exit ?_
          | refine blkQ.normal ?_
          | refine blkQ.here ?_
          | refine blkQ.past rfl ?_
          | refine retQ.normal ?_)
        have hfl : (flat ((isort (D.map toSJ)).map zr)).length = D.length * 14 := by
          rw [← hze, flat_len (zk_ok (isort_ok hj2) _), zk_len, hil]
        refine ⟨.slice (some ⟨gb, 0, none⟩) D.length cap, [(gb, .cells (flat ((isort (D.map toSJ)).map zr) ++ sp).toArray 41 (0, 0))], rfl, ⟨hfl, .inr ⟨gb, cap, sp, rfl, h4, ?_, rfl⟩⟩, G, ?_⟩
        · rw [List.length_append] at h5 ⊢
          omega
        refine perm_of_sum _ _ fun f => ?_
        simp only [List.map_append, List.map_cons, List.sum_append, List.sum_cons, List.map_nil, List.sum_nil]
        omega
end Go.Proofs.Ytmcajldlcomegaa
