/- Contracts: sorting at most one job, ticks. -/
import Derived.Test.YtmcajldlcomegaaW5
namespace Go.Proofs.Ytmcajldlcomegaa
open Go Go.Eng

theorem ins_s (ao : Option Addr) (n cap : Nat) (h : n ≤ 1) (i : Imm) (L : SH) : FnS Try.prog 102 [.slice ao n cap, .int .i64 0, .int .i64 n, .func (.func 47) #[] #[]] i L fun _ i' L' => i' = i ∧ L' = L := by
  refine FnS.intro0 Try.func102 rfl Try.ntmps102 (by simp) Try.results102 ?_
  repeat' (first
    | refine CS.seq ?_
    | refine thenQ.normal ?_
    | refine CS.cond_true rfl ?_
    | refine CS.cond_false rfl ?_
    | refine CS.skip ?_
    | (refine CS.region (id := 0) ?_;
        refine RS.pv (PV.all tab_ok rfl) rfl ?_;
        refine RS.pv (PV.add rfl rfl (by omega)) rfl ?_;
        refine RS.pv (PV.all tab_ok rfl) rfl ?_;
        refine RS.nil ?_)
    | refine CS.ret ?_
    | refine thenQ.ret ?_
    | refine blkQ.ret ?_
    | refine retQ.ret ?_
    | refine CS.block ?_
    | refine CS.exit ?_
    | refine thenQ.exit ?_
    | refine blkQ.normal ?_
    | refine blkQ.here ?_
    | refine blkQ.past rfl ?_
    | refine retQ.normal ?_)
  refine CS.loop [2, 8] (fun _ vs i' L' => vs = [.int .i64 n, .int .i64 1] ∧ i' = i ∧ L' = L) 0 ⟨rfl, rfl, rfl⟩ ?_
  rintro m g vs i' L' hi ⟨rfl, rfl, rfl⟩
  repeat' (first
    | refine CS.seq ?_
    | refine thenQ.normal ?_
    | refine CS.cond_true rfl ?_
    | refine CS.cond_false rfl ?_
    | refine CS.skip ?_
    | (refine CS.region (id := 0) ?_;
        refine RS.pv (PV.all tab_ok rfl) rfl ?_;
        refine RS.pv (PV.add rfl rfl (by omega)) rfl ?_;
        refine RS.pv (PV.all tab_ok rfl) rfl ?_;
        refine RS.nil ?_)
    | (refine CS.region (id := 1) ?_;
        refine RS.pv (PV.all tab_ok rfl) rfl ?_;
        refine RS.pv (PV.all tab_ok rfl) rfl ?_;
        (first | refine RS.pv (PV.lssT rfl rfl (by omega)) rfl ?_ | refine RS.pv (PV.lssF rfl rfl (by omega)) rfl ?_ | refine RS.ifLss rfl rfl rfl (fun h => ?_) (fun h => ?_));
        (all_goals refine RS.nil ?_))
    | refine CS.ret ?_
    | refine thenQ.ret ?_
    | refine blkQ.ret ?_
    | refine retQ.ret ?_
    | refine CS.block ?_
    | refine CS.exit ?_
    | refine thenQ.exit ?_
    | refine blkQ.normal ?_
    | refine blkQ.here ?_
    | refine blkQ.past rfl ?_
    | refine retQ.normal ?_)
  exact ⟨rfl, rfl⟩
theorem stab_s (ao : Option Addr) (n cap : Nat) (h : n ≤ 1) (i : Imm) (L : SH) : FnS Try.prog 86 [.slice ao n cap, .int .i64 n, .func (.func 47) #[] #[]] i L fun _ i' L' => i' = i ∧ L' = L := by
  refine FnS.intro0 Try.func86 rfl Try.ntmps86 (by simp) Try.results86 ?_
  repeat' (first
    | refine CS.seq ?_
    | refine thenQ.normal ?_
    | refine CS.cond_true rfl ?_
    | refine CS.cond_false rfl ?_
    | refine CS.skip ?_
    | (refine CS.region (id := 0) ?_;
        refine RS.pv (PV.all tab_ok rfl) rfl ?_;
        refine RS.nil ?_)
    | (refine CS.region (id := 1) ?_;
        refine RS.pv (PV.all tab_ok rfl) rfl ?_;
        refine RS.pv (PV.all tab_ok rfl) rfl ?_;
        refine RS.pv (PV.all tab_ok rfl) rfl ?_;
        refine RS.nil ?_)
    | refine CS.ret ?_
    | refine thenQ.ret ?_
    | refine blkQ.ret ?_
    | refine retQ.ret ?_
    | refine CS.block ?_
    | refine CS.exit ?_
    | refine thenQ.exit ?_
    | refine blkQ.normal ?_
    | refine blkQ.here ?_
    | refine blkQ.past rfl ?_
    | refine retQ.normal ?_)
  refine CS.loop [0, 1, 2, 6, 7, 8] (fun _ vs i' L' => vs = [.slice ao n cap, .int .i64 n, .func (.func 47) #[] #[], .int .i64 20, .int .i64 0, .int .i64 20] ∧ i' = i ∧ L' = L) 0 ⟨rfl, rfl, rfl⟩ ?_
  rintro m g vs i' L' hi ⟨rfl, rfl, rfl⟩
  repeat' (first
    | refine CS.seq ?_
    | refine thenQ.normal ?_
    | refine CS.cond_true rfl ?_
    | refine CS.cond_false rfl ?_
    | refine CS.skip ?_
    | (refine CS.region (id := 0) ?_;
        refine RS.pv (PV.all tab_ok rfl) rfl ?_;
        refine RS.nil ?_)
    | (refine CS.region (id := 1) ?_;
        refine RS.pv (PV.all tab_ok rfl) rfl ?_;
        refine RS.pv (PV.all tab_ok rfl) rfl ?_;
        refine RS.pv (PV.all tab_ok rfl) rfl ?_;
        refine RS.nil ?_)
    | (refine CS.region (id := 2) ?_;
        refine RS.pv (PV.all tab_ok rfl) rfl ?_;
        refine RS.pv (PV.all tab_ok rfl) rfl ?_;
        (first | refine RS.pv (PV.leqT rfl rfl (by omega)) rfl ?_ | refine RS.pv (PV.leqF rfl rfl (by omega)) rfl ?_ | refine RS.ifLeq rfl rfl rfl (fun h => ?_) (fun h => ?_));
        (all_goals refine RS.nil ?_))
    | (refine CS.region (id := 6) ?_;
        refine RS.pv (PV.all tab_ok rfl) rfl ?_;
        refine RS.pv (PV.all tab_ok rfl) rfl ?_;
        refine RS.pv (PV.all tab_ok rfl) rfl ?_;
        refine RS.pv (PV.all tab_ok rfl) rfl ?_;
        (refine RS.call (ins_s ao n cap h _ _) rfl (by kernel_rfl) rfl ?_; rintro v2 i2 L2 hi2 ⟨rfl, rfl⟩);
        (all_goals refine RS.nil ?_))
    | refine CS.ret ?_
    | refine thenQ.ret ?_
    | refine blkQ.ret ?_
    | refine retQ.ret ?_
    | refine CS.block ?_
    | refine CS.exit ?_
    | refine thenQ.exit ?_
    | refine blkQ.normal ?_
    | refine blkQ.here ?_
    | refine blkQ.past rfl ?_
    | refine retQ.normal ?_)
  refine CS.loop [1, 6] (fun _ vs i' L' => vs = [.int .i64 n, .int .i64 20] ∧ i' = i2 ∧ L' = L2) 0 ⟨rfl, rfl, rfl⟩ ?_
  rintro m g vs i' L' hi ⟨rfl, rfl, rfl⟩
  repeat' (first
    | refine CS.seq ?_
    | refine thenQ.normal ?_
    | refine CS.cond_true rfl ?_
    | refine CS.cond_false rfl ?_
    | refine CS.skip ?_
    | (refine CS.region (id := 0) ?_;
        refine RS.pv (PV.all tab_ok rfl) rfl ?_;
        refine RS.nil ?_)
    | (refine CS.region (id := 1) ?_;
        refine RS.pv (PV.all tab_ok rfl) rfl ?_;
        refine RS.pv (PV.all tab_ok rfl) rfl ?_;
        refine RS.pv (PV.all tab_ok rfl) rfl ?_;
        refine RS.nil ?_)
    | (refine CS.region (id := 7) ?_;
        refine RS.pv (PV.all tab_ok rfl) rfl ?_;
        refine RS.pv (PV.all tab_ok rfl) rfl ?_;
        (first | refine RS.pv (PV.lssT rfl rfl (by omega)) rfl ?_ | refine RS.pv (PV.lssF rfl rfl (by omega)) rfl ?_ | refine RS.ifLss rfl rfl rfl (fun h => ?_) (fun h => ?_));
        (all_goals refine RS.nil ?_))
    | refine CS.ret ?_
    | refine thenQ.ret ?_
    | refine blkQ.ret ?_
    | refine retQ.ret ?_
    | refine CS.block ?_
    | refine CS.exit ?_
    | refine thenQ.exit ?_
    | refine blkQ.normal ?_
    | refine blkQ.here ?_
    | refine blkQ.past rfl ?_
    | refine retQ.normal ?_)
  exact ⟨rfl, rfl⟩
theorem sort_s (ao : Option Addr) (n cap : Nat) (h : n ≤ 1) (i : Imm) (L : SH) : FnS Try.prog 46 [.slice ao n cap, .func (.func 47) #[] #[]] i L fun _ i' L' => i' = i ∧ L' = L := by
  refine FnS.intro0 Try.func46 rfl Try.ntmps46 (by simp) Try.results46 ?_
  repeat' (first
    | refine CS.seq ?_
    | refine thenQ.normal ?_
    | refine CS.cond_true rfl ?_
    | refine CS.cond_false rfl ?_
    | refine CS.skip ?_
    | (refine CS.region (id := 0) ?_;
        refine RS.pv (PV.all tab_ok rfl) rfl ?_;
        refine RS.pv (PV.all tab_ok rfl) rfl ?_;
        (first | refine RS.pv (PV.lenS tab_ok rfl rfl) rfl ?_ | refine RS.pv (PV.lenT tab_ok rfl rfl) rfl ?_);
        refine RS.pv (PV.all tab_ok rfl) rfl ?_;
        (refine RS.call (stab_s ao n cap h _ _) rfl (by kernel_rfl) rfl ?_; rintro v2 i2 L2 hi2 ⟨rfl, rfl⟩);
        (all_goals refine RS.nil ?_))
    | refine CS.ret ?_
    | refine thenQ.ret ?_
    | refine blkQ.ret ?_
    | refine retQ.ret ?_
    | refine CS.block ?_
    | refine CS.exit ?_
    | refine thenQ.exit ?_
    | refine blkQ.normal ?_
    | refine blkQ.here ?_
    | refine blkQ.past rfl ?_
    | refine retQ.normal ?_)
  exact ⟨rfl, rfl⟩

theorem Rd.sub {i : Imm} {L L' : SH} {v : Value} {sz n : Nat} {xs : List Value} (h : Rd i L v sz n xs) (hs : ∀ e ∈ L, e ∈ L') : Rd i L' v sz n xs := by
  obtain ⟨ao, cap, h1, h2, h3⟩ := h
  refine ⟨ao, cap, h1, h2, h3.imp id ?_⟩
  rintro ⟨b, o, cs, t, fz, h4, h5, h6⟩
  refine ⟨b, o, cs, t, fz, h4, ?_, h6⟩
  rcases h5 with h5 | h5
  · exact .inl h5
  · exact .inr (hs _ h5)

def fin (t : Int) : Option JobP → Option JobP
  | some x => if x.jd.left ≤ t then some x else none
  | none => none
def tick1 (t : Int) : Option JobP → Option JobP
  | some x => if x.jd.left ≤ t then none else some ⟨x.b, x.jc.set 1 (.int .i64 (x.jd.left - t)), ⟨x.jd.index, x.jd.left - t, x.jd.rcd⟩⟩
  | none => none
def jcs (l : List JobP) : List Value := (l.map (fun x => x.jc)).flatten
/-- the jobs behind k rounds -/
def tkd (t : Int) (js : List (Option JobP)) (k : Nat) : List (Option JobP) := (js.take k).map (tick1 t) ++ js.drop k
theorem tkd_at {t : Int} {js : List (Option JobP)} {k : Nat} (h : k < js.length) : (tkd t js k)[k]? = js[k]? := by
  unfold tkd
  rw [List.getElem?_append_right (by simp; omega)]
  simp [Nat.min_eq_left (Nat.le_of_lt h)]
theorem tkd_set {t : Int} {js : List (Option JobP)} {k : Nat} {o : Option JobP} (h : js[k]? = some o) : tkd t js (k + 1) = (tkd t js k).set k (tick1 t o) := by
  obtain ⟨hk, he⟩ := List.getElem?_eq_some_iff.1 h
  apply List.ext_getElem?
  intro j
  rw [List.getElem?_set]
  unfold tkd
  have h1 : ((js.take k).map (tick1 t)).length = k := by simp; omega
  have h2 : ((js.take (k + 1)).map (tick1 t)).length = k + 1 := by simp; omega
  split
  · rename_i hkj
    subst hkj
    rw [List.getElem?_append_left (by omega)]
    simp only [List.length_append, h1, List.length_drop]
    rw [if_pos (by omega)]
    simp [h]
  · rename_i hkj
    by_cases hj : j < k
    · rw [List.getElem?_append_left (by omega), List.getElem?_append_left (by omega)]
      simp [hj, Nat.lt_succ_of_lt hj]
    · rw [List.getElem?_append_right (by omega), List.getElem?_append_right (by omega), h1, h2, List.getElem?_drop, List.getElem?_drop]
      congr 1; omega
theorem fin_take {t : Int} {js : List (Option JobP)} {k : Nat} {o : Option JobP} (h : js[k]? = some o) : (js.take (k + 1)).filterMap (fin t) = (js.take k).filterMap (fin t) ++ (fin t o).toList := by
  obtain ⟨hk, he⟩ := List.getElem?_eq_some_iff.1 h
  rw [List.take_add_one, List.filterMap_append, h]
  cases o with
  | none => rfl
  | some x =>
    simp only [Option.toList, List.filterMap_cons, List.filterMap_nil, fin]
    by_cases hx : x.jd.left ≤ t <;> simp [hx]

theorem perm_of_sum {α : Type} : ∀ (l1 l2 : List α), (∀ f : α → Nat, (l1.map f).sum = (l2.map f).sum) → l1.Perm l2
  | [], l2, h => by
    cases l2 with
    | nil => exact .nil
    | cons a l => have := h (fun _ => 1); simp at this; omega
  | a :: l, l2, h => by
    classical
    have hm : a ∈ l2 := by
      apply Decidable.byContradiction
      intro hn
      have h1 := h (fun x => if x = a then 1 else 0)
      have h2 : (l2.map (fun x => if x = a then 1 else 0)).sum = 0 := by
        rw [List.sum_eq_zero_iff_forall_eq_nat]
        intro x hx
        obtain ⟨y, hy, rfl⟩ := List.mem_map.1 hx
        have hya : y ≠ a := fun e => hn (e ▸ hy)
        simp [hya]
      rw [h2] at h1
      simp at h1
    obtain ⟨A, B, rfl⟩ := List.append_of_mem hm
    refine (List.Perm.cons a (perm_of_sum l (A ++ B) fun f => ?_)).trans List.perm_middle.symm
    have := h f
    simp at this ⊢
    omega
theorem set_same {α : Type} {l : List α} {k : Nat} {a : α} (h : l[k]? = some a) : l.set k a = l := by
  apply List.ext_getElem?
  intro j
  rw [List.getElem?_set]
  split
  · rename_i e
    subst e
    rw [h, if_pos (List.getElem?_eq_some_iff.1 h).1]
  · rfl
theorem poolC_keep {js : List (Option JobP)} {nw k : Nat} {x y : JobP} (h : js[k]? = some (some x)) (hb : y.b = x.b) : poolC (js.set k (some y)) nw = poolC js nw := by
  have : (js.map jptr)[k]? = some (jptr (some y)) := by rw [List.getElem?_map, h]; simp [jptr, hb]
  unfold poolC
  rw [List.map_set, set_same this]
theorem SlO.shape {e : TypeId} {v : Value} {sz n : Nat} {xs : List Value} {O : SH} (h : SlO e v sz n xs O) : ∃ ao cap, v = .slice ao n cap := by
  obtain ⟨_, ⟨rfl, rfl, _⟩ | ⟨g, cap, sp, rfl, _⟩⟩ := h
  · exact ⟨_, _, rfl⟩
  · exact ⟨_, _, rfl⟩
def fins (t : Int) (js : List (Option JobP)) (k : Nat) : List JobP := (js.take k).filterMap (fin t)
theorem fins_len (t : Int) (js : List (Option JobP)) (k : Nat) : (fins t js k).length ≤ (js.filterMap (fin t)).length :=
  ((List.take_sublist k js).filterMap (fin t)).length_le
theorem fins_end {t : Int} {js : List (Option JobP)} {nw : Nat} {i : Imm} (hp : PoolSt i js nw) : fins t js nw = js.filterMap (fin t) ∧ tkd t js nw = js.map (tick1 t) := by
  have hd : ∀ o ∈ js.drop nw, o = none := by
    intro o ho
    obtain ⟨j, hj⟩ := List.mem_iff_getElem?.1 ho
    rw [List.getElem?_drop] at hj
    have hlt := (List.getElem?_eq_some_iff.1 hj).1
    rw [hp.idle (nw + j) (by omega) (by have := hp.len; omega)] at hj
    exact (Option.some.inj hj).symm
  have e1 : (js.drop nw).filterMap (fin t) = [] := List.filterMap_eq_nil_iff.2 fun o ho => by rw [hd o ho]; rfl
  have e2 : (js.drop nw).map (tick1 t) = js.drop nw := by
    conv => rhs; rw [← List.map_id (js.drop nw)]
    exact List.map_congr_left fun o ho => by rw [hd o ho]; rfl
  constructor
  · conv => rhs; rw [← List.take_append_drop nw js]
    rw [List.filterMap_append, e1, List.append_nil]; rfl
  · conv => rhs; rw [← List.take_append_drop nw js]
    rw [List.map_append, e2]; rfl

theorem Tick_s (p nw : Nat) (js : List (Option JobP)) (t : Nat) (ht : t ≤ 1000) (i : Imm) (R : SH) (hp : PoolSt i js nw) (h1 : (js.filterMap (fin t)).length ≤ 1) :
    FnS Try.prog 17 [.pointer (some ⟨p, 0, none⟩), .int .i64 t] i (poolL p js nw ++ R) fun v i' L' => ∃ sv O, v = .tuple #[sv, .int .i64 0] ∧ SlO 41 sv 14 (js.filterMap (fin t)).length ((js.filterMap (fin t)).map (fun x => x.jc.set 1 (.int .i64 0))).flatten O ∧ i' = i ∧ L' = O ++ (poolL p (js.map (tick1 t)) nw ++ R) := by
  refine FnS.state (K := fun v i' L' => ∃ sv O, v = .tuple #[sv, .int .i64 0] ∧ SlO 41 sv 14 (js.filterMap (fin t)).length ((js.filterMap (fin t)).map (fun x => x.jc.set 1 (.int .i64 0))).flatten O ∧ i' = i ∧ ∃ G, L'.Perm (G ++ (O ++ (poolL p (js.map (tick1 t)) nw ++ R)))) ?_ ?_
  rotate_left
  · rintro v i' L' w _ hs ⟨sv, O, hv, hg, hi, G, hL⟩
    exact ⟨i', _, Imm.le.refl i', (hs.perm hL).dropL, sv, O, hv, hg, hi, rfl⟩
  have hlen := hp.len
  have hnw := hp.nwle
  have hc := poolC_nw (nw := nw) hp.len
  have hpool : (p, poolO js nw) ∈ poolL p js nw ++ R := List.mem_append_left _ (List.mem_cons_self ..)
  refine FnS.intro2 Try.func17 rfl Try.ntmps17 (by simp) Try.results17 ?_
  repeat' (first
    | refine CS.seq ?_
    | refine thenQ.normal ?_
    | refine CS.cond_true rfl ?_
    | refine CS.cond_false rfl ?_
    | refine CS.skip ?_
    | (refine CS.region (id := 0) ?_;
        refine RS.pv (PV.all tab_ok rfl) rfl ?_;
        refine RS.pv (PV.all tab_ok rfl) rfl ?_;
        refine RS.nil ?_)
    | (refine CS.region (id := 1) ?_;
        refine RS.pv (PV.all tab_ok rfl) rfl ?_;
        (first | refine RS.pv (PV.lssT rfl rfl (by omega)) rfl ?_ | refine RS.pv (PV.lssF rfl rfl (by omega)) rfl ?_ | refine RS.ifLss rfl rfl rfl (fun h => ?_) (fun h => ?_));
        (all_goals refine RS.pv (PV.all tab_ok rfl) rfl ?_);
        (all_goals (first | refine RS.pv (PV.all tab_ok rfl) rfl ?_ | refine RS.skip rfl ?_));
        (all_goals (first | refine RS.pv (PV.gtrT rfl rfl (by omega)) rfl ?_ | refine RS.pv (PV.gtrF rfl rfl (by omega)) rfl ?_ | refine RS.ifGtr rfl rfl rfl (fun h => ?_) (fun h => ?_) | refine RS.skip rfl ?_));
        (all_goals refine RS.pv (PV.all tab_ok rfl) rfl ?_);
        (all_goals refine RS.nil ?_))
    | (refine CS.region (id := 2) ?_;
        refine RS.pv (PV.all tab_ok rfl) rfl ?_;
        refine RS.pv (PV.all tab_ok rfl) rfl ?_;
        refine RS.nil ?_)
    | (refine CS.region (id := 3) ?_;
        refine RS.pv (PV.all tab_ok rfl) rfl ?_;
        refine RS.nil ?_)
    | (refine CS.drawQ (id := 4) mix (by kernel_rfl) ?_;
        refine QS.pv (PV.all tab_ok rfl) rfl ?_;
        refine QS.pv (PV.all tab_ok rfl) rfl ?_;
        refine QS.pv (PV.all tab_ok rfl) rfl ?_;
        refine QS.pv (PV.all tab_ok rfl) rfl ?_;
        refine QS.pv (PV.all tab_ok rfl) rfl ?_;
        refine QS.pv (PV.all tab_ok rfl) rfl ?_;
        refine QS.lv (LV.load1 tab_ok rfl (Has.mem hpool) rfl hc) rfl ?_;
        (all_goals refine QS.pv (PV.sliceArr tab_ok rfl rfl rfl (by omega)) rfl ?_);
        (all_goals (first | refine QS.pv (PV.lenS tab_ok rfl rfl) rfl ?_ | refine QS.pv (PV.lenT tab_ok rfl rfl) rfl ?_));
        (all_goals refine QS.pv (PV.all tab_ok rfl) rfl ?_);
        (all_goals refine QS.nil ?_))
    | (refine CS.region (id := 19) ?_;
        refine RS.pv (PV.all tab_ok rfl) rfl ?_;
        refine RS.pv (PV.all tab_ok rfl) rfl ?_;
        refine RS.pv (PV.all tab_ok rfl) rfl ?_;
        refine RS.nil ?_)
    | refine CS.ret ?_
    | refine thenQ.ret ?_
    | refine blkQ.ret ?_
    | refine retQ.ret ?_
    | refine CS.block ?_
    | refine CS.exit ?_
    | refine thenQ.exit ?_
    | refine blkQ.normal ?_
    | refine blkQ.here ?_
    | refine blkQ.past rfl ?_
    | refine retQ.normal ?_)
  refine CS.loop [0, 1, 6, 23, 24, 25] (fun m vs i' L' => ∃ (k : Nat) (ao : Option Addr) (cap : Nat) (O G : SH), m = nw - k ∧ k ≤ nw ∧ SlO 41 (.slice ao (fins t js k).length cap) 14 (fins t js k).length (jcs (fins t js k)) O ∧ vs = [.pointer (some ⟨p, 0, none⟩), .int .i64 t, .slice ao (fins t js k).length cap, .slice (some ⟨p, 0, none⟩) nw 8, .int .i64 nw, .int .i64 k] ∧ i' = i ∧ L'.Perm (O ++ (poolL p (tkd t js k) nw ++ (G ++ R)))) nw ⟨0, none, 0, [], [], rfl, Nat.zero_le _, SlO.nil 41 14, rfl, rfl, by simp [tkd]⟩ ?_
  rintro m g vs i' L' hi ⟨k, ao, cap, O, G, rfl, hkn, hsl, rfl, rfl, hL⟩
  refine CS.perm hL ?_
  by_cases hlt : k < nw
  · obtain ⟨o, ho⟩ : ∃ o, js[k]? = some o := ⟨_, List.getElem?_eq_getElem (by omega)⟩
    have ho' : (tkd t js k)[k]? = some o := (tkd_at (by omega)).trans ho
    have hcell := poolC_at (nw := nw) ho'
    have hset := tkd_set (t := (t : Int)) ho
    have hfin := fin_take (t := (t : Int)) ho
    have hfl := fins_len t js (k + 1)
    cases o with
    | none =>
      unfold jptr at hcell
      have hin : (p, poolO (tkd t js k) nw) ∈ O ++ (poolL p (tkd t js k) nw ++ (G ++ R)) := List.mem_append_right _ (List.mem_append_left _ (List.mem_cons_self ..))
      have e1 : fins t js (k + 1) = fins t js k := by unfold fins; rw [hfin]; simp [fin]
      have e2 : tkd t js (k + 1) = tkd t js k := by rw [hset]; exact set_same ho'
      repeat' (first
        | refine CS.seq ?_
        | refine thenQ.normal ?_
        | refine CS.cond_true rfl ?_
        | refine CS.cond_false rfl ?_
        | refine CS.skip ?_
        | (refine CS.region (id := 0) ?_;
            refine RS.pv (PV.all tab_ok rfl) rfl ?_;
            refine RS.pv (PV.all tab_ok rfl) rfl ?_;
            refine RS.nil ?_)
        | (refine CS.region (id := 1) ?_;
            refine RS.pv (PV.all tab_ok rfl) rfl ?_;
            (first | refine RS.pv (PV.lssT rfl rfl (by omega)) rfl ?_ | refine RS.pv (PV.lssF rfl rfl (by omega)) rfl ?_ | refine RS.ifLss rfl rfl rfl (fun h => ?_) (fun h => ?_));
            (all_goals refine RS.pv (PV.all tab_ok rfl) rfl ?_);
            (all_goals (first | refine RS.pv (PV.all tab_ok rfl) rfl ?_ | refine RS.skip rfl ?_));
            (all_goals (first | refine RS.pv (PV.gtrT rfl rfl (by omega)) rfl ?_ | refine RS.pv (PV.gtrF rfl rfl (by omega)) rfl ?_ | refine RS.ifGtr rfl rfl rfl (fun h => ?_) (fun h => ?_) | refine RS.skip rfl ?_));
            (all_goals refine RS.pv (PV.all tab_ok rfl) rfl ?_);
            (all_goals refine RS.nil ?_))
        | (refine CS.region (id := 2) ?_;
            refine RS.pv (PV.all tab_ok rfl) rfl ?_;
            refine RS.pv (PV.all tab_ok rfl) rfl ?_;
            refine RS.nil ?_)
        | (refine CS.region (id := 3) ?_;
            refine RS.pv (PV.all tab_ok rfl) rfl ?_;
            refine RS.nil ?_)
        | (refine CS.drawQ (id := 4) mix (by kernel_rfl) ?_;
            refine QS.pv (PV.all tab_ok rfl) rfl ?_;
            refine QS.pv (PV.all tab_ok rfl) rfl ?_;
            refine QS.pv (PV.all tab_ok rfl) rfl ?_;
            refine QS.pv (PV.all tab_ok rfl) rfl ?_;
            refine QS.pv (PV.all tab_ok rfl) rfl ?_;
            refine QS.pv (PV.all tab_ok rfl) rfl ?_;
            (first | refine QS.lv (LV.load tab_ok rfl (Has.own 0 rfl) rfl) rfl ?_ | refine QS.lv (LV.load tab_ok rfl (Has.own 1 rfl) rfl) rfl ?_ | refine QS.lv (LV.load tab_ok rfl (Has.own 2 rfl) rfl) rfl ?_);
            refine QS.pv (PV.sliceArr tab_ok rfl rfl rfl (by omega)) rfl ?_;
            (first | refine QS.pv (PV.lenS tab_ok rfl rfl) rfl ?_ | refine QS.pv (PV.lenT tab_ok rfl rfl) rfl ?_);
            refine QS.pv (PV.all tab_ok rfl) rfl ?_;
            refine QS.nil ?_)
        | (refine CS.region (id := 5) ?_;
            (first | refine RS.pv (PV.lssT rfl rfl (by omega)) rfl ?_ | refine RS.pv (PV.lssF rfl rfl (by omega)) rfl ?_ | refine RS.ifLss rfl rfl rfl (fun h => ?_) (fun h => ?_));
            (all_goals refine RS.nil ?_))
        | (refine CS.region (id := 6) ?_;
            refine RS.pv (PV.all tab_ok rfl) rfl ?_;
            (first | refine RS.pv (PV.indexAddr tab_ok rfl rfl rfl (by omega)) rfl ?_ | refine RS.pv (PV.indexAddrA tab_ok rfl rfl rfl (by omega)) rfl ?_);
            refine RS.lv (LV.load1 tab_ok rfl (Has.mem hin) rfl hcell) rfl ?_;
            (all_goals refine RS.pv (PV.all tab_ok rfl) rfl ?_);
            (all_goals refine RS.pv (PV.all tab_ok rfl) rfl ?_);
            (all_goals refine RS.nil ?_))
        | (refine CS.region (id := 8) ?_;
            refine RS.pv (PV.all tab_ok rfl) rfl ?_;
            (first | refine RS.pv (PV.all tab_ok rfl) rfl ?_ | refine RS.pv (PV.eqlT rfl rfl (by omega)) rfl ?_ | refine RS.pv (PV.eqlF rfl rfl (by omega)) rfl ?_ | refine RS.ifEql rfl rfl rfl (fun h => ?_) (fun h => ?_) | refine RS.ifSeql rfl rfl rfl (fun h => ?_) (fun h => ?_));
            (all_goals refine RS.pv (PV.all tab_ok rfl) rfl ?_);
            (all_goals refine RS.nil ?_))
        | (refine CS.region (id := 12) ?_;
            refine RS.pv (PV.add rfl rfl (by omega)) rfl ?_;
            refine RS.pv (PV.all tab_ok rfl) rfl ?_;
            refine RS.nil ?_)
        | (refine CS.region (id := 19) ?_;
            refine RS.pv (PV.all tab_ok rfl) rfl ?_;
            refine RS.pv (PV.all tab_ok rfl) rfl ?_;
            refine RS.pv (PV.all tab_ok rfl) rfl ?_;
            refine RS.nil ?_)
        | refine CS.ret ?_
        | refine thenQ.ret ?_
        | refine blkQ.ret ?_
        | refine retQ.ret ?_
        | refine CS.block ?_
        | refine CS.exit ?_
        | refine thenQ.exit ?_
        | refine blkQ.normal ?_
        | refine blkQ.here ?_
        | refine blkQ.past rfl ?_
        | refine retQ.normal ?_)
      exact ⟨nw - (k + 1), by omega, k + 1, ao, cap, O, G, rfl, hlt, by rw [e1]; exact hsl, by rw [e1]; rfl, rfl, by rw [e2]⟩
    | some x =>
      obtain ⟨xb, xjc, xjd⟩ := x
      obtain ⟨⟨rc, hjc, hrc⟩, hok, hl1, hl2⟩ := hp.job _ (List.mem_of_getElem? ho)
      simp only at hjc hrc hok hl1 hl2
      obtain ⟨d2, e2, d3, e3, d4, e4, d5, e5, d6, e6, rfl⟩ := hrc.lit
      subst hjc
      have hdel := jobsL_del ho'
      have hklen : k < (tkd t js k).length := (List.getElem?_eq_some_iff.1 ho').1
      change _ = some (Value.pointer (some ⟨xb, 0, none⟩)) at hcell
      by_cases hx : xjd.left ≤ t
      · have hput := poolC_put (nw := nw) hklen none
        have hf1 : fin t (some ⟨xb, [.int .i64 xjd.index, .int .i64 xjd.left, .string xjd.rcd.path, .int .i64 xjd.rcd.index, .slice d2 xjd.rcd.props.length e2, .slice d3 xjd.rcd.tags.length e3, .slice d4 xjd.rcd.links.length e4, .slice d5 xjd.rcd.run.length e5, .slice d6 xjd.rcd.load.length e6, .string xjd.rcd.name, .int .i64 xjd.rcd.priority, .string xjd.rcd.owner, .string xjd.rcd.group, .int .i64 xjd.rcd.mode], xjd⟩) = some ⟨xb, [.int .i64 xjd.index, .int .i64 xjd.left, .string xjd.rcd.path, .int .i64 xjd.rcd.index, .slice d2 xjd.rcd.props.length e2, .slice d3 xjd.rcd.tags.length e3, .slice d4 xjd.rcd.links.length e4, .slice d5 xjd.rcd.run.length e5, .slice d6 xjd.rcd.load.length e6, .string xjd.rcd.name, .int .i64 xjd.rcd.priority, .string xjd.rcd.owner, .string xjd.rcd.group, .int .i64 xjd.rcd.mode], xjd⟩ := if_pos hx
        have ht1 : tick1 t (some ⟨xb, [.int .i64 xjd.index, .int .i64 xjd.left, .string xjd.rcd.path, .int .i64 xjd.rcd.index, .slice d2 xjd.rcd.props.length e2, .slice d3 xjd.rcd.tags.length e3, .slice d4 xjd.rcd.links.length e4, .slice d5 xjd.rcd.run.length e5, .slice d6 xjd.rcd.load.length e6, .string xjd.rcd.name, .int .i64 xjd.rcd.priority, .string xjd.rcd.owner, .string xjd.rcd.group, .int .i64 xjd.rcd.mode], xjd⟩) = none := if_pos hx
        rw [ht1] at hset
        rw [hf1] at hfin
        change fins t js (k + 1) = fins t js k ++ [_] at hfin
        have hle : (fins t js k).length + 1 ≤ 1 := by have := congrArg List.length hfin; simp at this; omega
        refine CS.perm (L' := (p, poolO (tkd t js k) nw) :: (xb, .cells ([.int .i64 xjd.index, .int .i64 xjd.left, .string xjd.rcd.path, .int .i64 xjd.rcd.index, .slice d2 xjd.rcd.props.length e2, .slice d3 xjd.rcd.tags.length e3, .slice d4 xjd.rcd.links.length e4, .slice d5 xjd.rcd.run.length e5, .slice d6 xjd.rcd.load.length e6, .string xjd.rcd.name, .int .i64 xjd.rcd.priority, .string xjd.rcd.owner, .string xjd.rcd.group, .int .i64 xjd.rcd.mode]).toArray 41 (0, 0)) :: (O ++ (jobsL ((tkd t js k).set k none) ++ (G ++ R)))) ?_ ?_
        · refine perm_of_sum _ _ fun f => ?_
          have := (hdel.map f).sum_nat
          simp only [poolL, List.map_append, List.map_cons, List.sum_append, List.sum_cons, List.cons_append, jobO] at this ⊢
          omega
        repeat' (first
          | refine CS.seq ?_
          | refine thenQ.normal ?_
          | refine CS.cond_true rfl ?_
          | refine CS.cond_false rfl ?_
          | refine CS.skip ?_
          | (refine CS.region (id := 0) ?_;
              refine RS.pv (PV.all tab_ok rfl) rfl ?_;
              refine RS.pv (PV.all tab_ok rfl) rfl ?_;
              refine RS.nil ?_)
          | (refine CS.region (id := 1) ?_;
              refine RS.pv (PV.all tab_ok rfl) rfl ?_;
              (first | refine RS.pv (PV.lssT rfl rfl (by omega)) rfl ?_ | refine RS.pv (PV.lssF rfl rfl (by omega)) rfl ?_ | refine RS.ifLss rfl rfl rfl (fun h => ?_) (fun h => ?_));
              (all_goals refine RS.pv (PV.all tab_ok rfl) rfl ?_);
              (all_goals (first | refine RS.pv (PV.all tab_ok rfl) rfl ?_ | refine RS.skip rfl ?_));
              (all_goals (first | refine RS.pv (PV.gtrT rfl rfl (by omega)) rfl ?_ | refine RS.pv (PV.gtrF rfl rfl (by omega)) rfl ?_ | refine RS.ifGtr rfl rfl rfl (fun h => ?_) (fun h => ?_) | refine RS.skip rfl ?_));
              (all_goals refine RS.pv (PV.all tab_ok rfl) rfl ?_);
              (all_goals refine RS.nil ?_))
          | (refine CS.region (id := 2) ?_;
              refine RS.pv (PV.all tab_ok rfl) rfl ?_;
              refine RS.pv (PV.all tab_ok rfl) rfl ?_;
              refine RS.nil ?_)
          | (refine CS.region (id := 3) ?_;
              refine RS.pv (PV.all tab_ok rfl) rfl ?_;
              refine RS.nil ?_)
          | (refine CS.drawQ (id := 4) mix (by kernel_rfl) ?_;
              refine QS.pv (PV.all tab_ok rfl) rfl ?_;
              refine QS.pv (PV.all tab_ok rfl) rfl ?_;
              refine QS.pv (PV.all tab_ok rfl) rfl ?_;
              refine QS.pv (PV.all tab_ok rfl) rfl ?_;
              refine QS.pv (PV.all tab_ok rfl) rfl ?_;
              refine QS.pv (PV.all tab_ok rfl) rfl ?_;
              (first | refine QS.lv (LV.load tab_ok rfl (Has.own 0 rfl) rfl) rfl ?_ | refine QS.lv (LV.load tab_ok rfl (Has.own 1 rfl) rfl) rfl ?_ | refine QS.lv (LV.load tab_ok rfl (Has.own 2 rfl) rfl) rfl ?_);
              refine QS.pv (PV.sliceArr tab_ok rfl rfl rfl (by omega)) rfl ?_;
              (first | refine QS.pv (PV.lenS tab_ok rfl rfl) rfl ?_ | refine QS.pv (PV.lenT tab_ok rfl rfl) rfl ?_);
              refine QS.pv (PV.all tab_ok rfl) rfl ?_;
              refine QS.nil ?_)
          | (refine CS.region (id := 5) ?_;
              (first | refine RS.pv (PV.lssT rfl rfl (by omega)) rfl ?_ | refine RS.pv (PV.lssF rfl rfl (by omega)) rfl ?_ | refine RS.ifLss rfl rfl rfl (fun h => ?_) (fun h => ?_));
              (all_goals refine RS.nil ?_))
          | (refine CS.region (id := 6) ?_;
              refine RS.pv (PV.all tab_ok rfl) rfl ?_;
              (first | refine RS.pv (PV.indexAddr tab_ok rfl rfl rfl (by omega)) rfl ?_ | refine RS.pv (PV.indexAddrA tab_ok rfl rfl rfl (by omega)) rfl ?_);
              refine RS.lv (LV.load1 tab_ok rfl (Has.own 0 rfl) rfl hcell) rfl ?_;
              (all_goals refine RS.pv (PV.all tab_ok rfl) rfl ?_);
              (all_goals refine RS.pv (PV.all tab_ok rfl) rfl ?_);
              (all_goals refine RS.nil ?_))
          | (refine CS.region (id := 8) ?_;
              refine RS.pv (PV.all tab_ok rfl) rfl ?_;
              (first | refine RS.pv (PV.all tab_ok rfl) rfl ?_ | refine RS.pv (PV.eqlT rfl rfl (by omega)) rfl ?_ | refine RS.pv (PV.eqlF rfl rfl (by omega)) rfl ?_ | refine RS.ifEql rfl rfl rfl (fun h => ?_) (fun h => ?_) | refine RS.ifSeql rfl rfl rfl (fun h => ?_) (fun h => ?_));
              (all_goals refine RS.pv (PV.all tab_ok rfl) rfl ?_);
              (all_goals refine RS.nil ?_))
          | (refine CS.region (id := 9) ?_;
              refine RS.pv (PV.all tab_ok rfl) rfl ?_;
              refine RS.pv (PV.all tab_ok rfl) rfl ?_;
              refine RS.pv (PV.all tab_ok rfl) rfl ?_;
              (first | refine RS.lv (LV.load tab_ok rfl (Has.own 0 rfl) rfl) rfl ?_ | refine RS.lv (LV.load tab_ok rfl (Has.own 1 rfl) rfl) rfl ?_ | refine RS.lv (LV.load tab_ok rfl (Has.own 2 rfl) rfl) rfl ?_);
              refine RS.pv (PV.all tab_ok rfl) rfl ?_;
              (first | refine RS.pv (PV.leqT rfl rfl (by omega)) rfl ?_ | refine RS.pv (PV.leqF rfl rfl (by omega)) rfl ?_ | refine RS.ifLeq rfl rfl rfl (fun h => ?_) (fun h => ?_));
              (all_goals refine RS.pv (PV.all tab_ok rfl) rfl ?_);
              (all_goals refine RS.nil ?_))
          | (refine CS.region (id := 12) ?_;
              refine RS.pv (PV.add rfl rfl (by omega)) rfl ?_;
              refine RS.pv (PV.all tab_ok rfl) rfl ?_;
              refine RS.nil ?_)
          | (refine CS.region (id := 19) ?_;
              refine RS.pv (PV.all tab_ok rfl) rfl ?_;
              refine RS.pv (PV.all tab_ok rfl) rfl ?_;
              refine RS.pv (PV.all tab_ok rfl) rfl ?_;
              refine RS.nil ?_)
          | refine CS.ret ?_
          | refine thenQ.ret ?_
          | refine blkQ.ret ?_
          | refine retQ.ret ?_
          | refine CS.block ?_
          | refine CS.exit ?_
          | refine thenQ.exit ?_
          | refine blkQ.normal ?_
          | refine blkQ.here ?_
          | refine blkQ.past rfl ?_
          | refine retQ.normal ?_)
        refine CS.region (id := 10) ?_
        refine RS.pv (PV.all tab_ok rfl) rfl ?_
        refine RS.pv (PV.all tab_ok rfl) rfl ?_
        refine RS.pv (PV.all tab_ok rfl) rfl ?_
        (first | refine RS.lv (LV.load tab_ok rfl (Has.own 0 rfl) rfl) rfl ?_ | refine RS.lv (LV.load tab_ok rfl (Has.own 1 rfl) rfl) rfl ?_ | refine RS.lv (LV.load tab_ok rfl (Has.own 2 rfl) rfl) rfl ?_)
        refine RS.buildSlice tab_ok rfl rfl (fun bb => ?_)
        refine RS.perm (L' := O ++ ((bb, .cells ([.int .i64 xjd.index, .int .i64 xjd.left, .string xjd.rcd.path, .int .i64 xjd.rcd.index, .slice d2 xjd.rcd.props.length e2, .slice d3 xjd.rcd.tags.length e3, .slice d4 xjd.rcd.links.length e4, .slice d5 xjd.rcd.run.length e5, .slice d6 xjd.rcd.load.length e6, .string xjd.rcd.name, .int .i64 xjd.rcd.priority, .string xjd.rcd.owner, .string xjd.rcd.group, .int .i64 xjd.rcd.mode]).toArray 41 (0, 0)) :: (p, poolO (tkd t js k) nw) :: (xb, .cells ([.int .i64 xjd.index, .int .i64 xjd.left, .string xjd.rcd.path, .int .i64 xjd.rcd.index, .slice d2 xjd.rcd.props.length e2, .slice d3 xjd.rcd.tags.length e3, .slice d4 xjd.rcd.links.length e4, .slice d5 xjd.rcd.run.length e5, .slice d6 xjd.rcd.load.length e6, .string xjd.rcd.name, .int .i64 xjd.rcd.priority, .string xjd.rcd.owner, .string xjd.rcd.group, .int .i64 xjd.rcd.mode]).toArray 41 (0, 0)) :: (jobsL ((tkd t js k).set k none) ++ (G ++ R)))) ?_ ?_
        · refine perm_of_sum _ _ fun f => ?_
          simp only [List.map_append, List.map_cons, List.sum_append, List.sum_cons]
          omega
        refine RS.append tab_ok (sz := 14) (bytes := 224) (k := (fins t js k).length) (m := 1) (xs := jcs (fins t js k)) (news := [.int .i64 xjd.index, .int .i64 xjd.left, .string xjd.rcd.path, .int .i64 xjd.rcd.index, .slice d2 xjd.rcd.props.length e2, .slice d3 xjd.rcd.tags.length e3, .slice d4 xjd.rcd.links.length e4, .slice d5 xjd.rcd.run.length e5, .slice d6 xjd.rcd.load.length e6, .string xjd.rcd.name, .int .i64 xjd.rcd.priority, .string xjd.rcd.owner, .string xjd.rcd.group, .int .i64 xjd.rcd.mode]) rfl rfl rfl ⟨_, rfl, rfl⟩ ⟨_, rfl, rfl, rfl⟩ (by omega) hsl rfl (Rd.sub (i := i') (L := [(bb, _)]) ((SlO.built 41 14 1 bb _ rfl).rd (L := [])) (fun e he => List.mem_append_right _ (List.mem_cons.2 (.inl (List.mem_singleton.1 he))))) (by intro c hc; simp at hc; rcases hc with rfl | rfl | rfl | rfl | rfl | rfl | rfl | rfl | rfl | rfl | rfl | rfl | rfl | rfl <;> rfl) (by omega) (by omega) ?_
        intro v' O' hO hnil
        obtain ⟨ao', cap', rfl⟩ := SlO.shape hO
        refine RS.pv (PV.all tab_ok rfl) rfl ?_
        refine RS.nil ?_
        refine thenQ.normal ?_
        refine CS.perm (L' := (p, poolO (tkd t js k) nw) :: (O' ++ ((bb, .cells ([.int .i64 xjd.index, .int .i64 xjd.left, .string xjd.rcd.path, .int .i64 xjd.rcd.index, .slice d2 xjd.rcd.props.length e2, .slice d3 xjd.rcd.tags.length e3, .slice d4 xjd.rcd.links.length e4, .slice d5 xjd.rcd.run.length e5, .slice d6 xjd.rcd.load.length e6, .string xjd.rcd.name, .int .i64 xjd.rcd.priority, .string xjd.rcd.owner, .string xjd.rcd.group, .int .i64 xjd.rcd.mode]).toArray 41 (0, 0)) :: (xb, .cells ([.int .i64 xjd.index, .int .i64 xjd.left, .string xjd.rcd.path, .int .i64 xjd.rcd.index, .slice d2 xjd.rcd.props.length e2, .slice d3 xjd.rcd.tags.length e3, .slice d4 xjd.rcd.links.length e4, .slice d5 xjd.rcd.run.length e5, .slice d6 xjd.rcd.load.length e6, .string xjd.rcd.name, .int .i64 xjd.rcd.priority, .string xjd.rcd.owner, .string xjd.rcd.group, .int .i64 xjd.rcd.mode]).toArray 41 (0, 0)) :: (jobsL ((tkd t js k).set k none) ++ (G ++ R))))) ?_ ?_
        · refine perm_of_sum _ _ fun f => ?_
          simp only [List.map_append, List.map_cons, List.sum_append, List.sum_cons]
          omega
        have e0 : (fins t js (k + 1)).length = (fins t js k).length + 1 := by rw [hfin]; simp
        have e1 : jcs (fins t js (k + 1)) = jcs (fins t js k) ++ [.int .i64 xjd.index, .int .i64 xjd.left, .string xjd.rcd.path, .int .i64 xjd.rcd.index, .slice d2 xjd.rcd.props.length e2, .slice d3 xjd.rcd.tags.length e3, .slice d4 xjd.rcd.links.length e4, .slice d5 xjd.rcd.run.length e5, .slice d6 xjd.rcd.load.length e6, .string xjd.rcd.name, .int .i64 xjd.rcd.priority, .string xjd.rcd.owner, .string xjd.rcd.group, .int .i64 xjd.rcd.mode] := by rw [hfin]; simp [jcs]
        rw [← e0, ← e1] at hO
        repeat' (first
          | refine CS.seq ?_
          | refine thenQ.normal ?_
          | refine CS.cond_true rfl ?_
          | refine CS.cond_false rfl ?_
          | refine CS.skip ?_
          | (refine CS.region (id := 0) ?_;
              refine RS.pv (PV.all tab_ok rfl) rfl ?_;
              refine RS.pv (PV.all tab_ok rfl) rfl ?_;
              refine RS.nil ?_)
          | (refine CS.region (id := 1) ?_;
              refine RS.pv (PV.all tab_ok rfl) rfl ?_;
              (first | refine RS.pv (PV.lssT rfl rfl (by omega)) rfl ?_ | refine RS.pv (PV.lssF rfl rfl (by omega)) rfl ?_ | refine RS.ifLss rfl rfl rfl (fun h => ?_) (fun h => ?_));
              (all_goals refine RS.pv (PV.all tab_ok rfl) rfl ?_);
              (all_goals (first | refine RS.pv (PV.all tab_ok rfl) rfl ?_ | refine RS.skip rfl ?_));
              (all_goals (first | refine RS.pv (PV.gtrT rfl rfl (by omega)) rfl ?_ | refine RS.pv (PV.gtrF rfl rfl (by omega)) rfl ?_ | refine RS.ifGtr rfl rfl rfl (fun h => ?_) (fun h => ?_) | refine RS.skip rfl ?_));
              (all_goals refine RS.pv (PV.all tab_ok rfl) rfl ?_);
              (all_goals refine RS.nil ?_))
          | (refine CS.region (id := 2) ?_;
              refine RS.pv (PV.all tab_ok rfl) rfl ?_;
              refine RS.pv (PV.all tab_ok rfl) rfl ?_;
              refine RS.nil ?_)
          | (refine CS.region (id := 3) ?_;
              refine RS.pv (PV.all tab_ok rfl) rfl ?_;
              refine RS.nil ?_)
          | (refine CS.drawQ (id := 4) mix (by kernel_rfl) ?_;
              refine QS.pv (PV.all tab_ok rfl) rfl ?_;
              refine QS.pv (PV.all tab_ok rfl) rfl ?_;
              refine QS.pv (PV.all tab_ok rfl) rfl ?_;
              refine QS.pv (PV.all tab_ok rfl) rfl ?_;
              refine QS.pv (PV.all tab_ok rfl) rfl ?_;
              refine QS.pv (PV.all tab_ok rfl) rfl ?_;
              (first | refine QS.lv (LV.load tab_ok rfl (Has.own 0 rfl) rfl) rfl ?_ | refine QS.lv (LV.load tab_ok rfl (Has.own 1 rfl) rfl) rfl ?_ | refine QS.lv (LV.load tab_ok rfl (Has.own 2 rfl) rfl) rfl ?_);
              refine QS.pv (PV.sliceArr tab_ok rfl rfl rfl (by omega)) rfl ?_;
              (first | refine QS.pv (PV.lenS tab_ok rfl rfl) rfl ?_ | refine QS.pv (PV.lenT tab_ok rfl rfl) rfl ?_);
              refine QS.pv (PV.all tab_ok rfl) rfl ?_;
              refine QS.nil ?_)
          | (refine CS.region (id := 5) ?_;
              (first | refine RS.pv (PV.lssT rfl rfl (by omega)) rfl ?_ | refine RS.pv (PV.lssF rfl rfl (by omega)) rfl ?_ | refine RS.ifLss rfl rfl rfl (fun h => ?_) (fun h => ?_));
              (all_goals refine RS.nil ?_))
          | (refine CS.region (id := 6) ?_;
              refine RS.pv (PV.all tab_ok rfl) rfl ?_;
              (first | refine RS.pv (PV.indexAddr tab_ok rfl rfl rfl (by omega)) rfl ?_ | refine RS.pv (PV.indexAddrA tab_ok rfl rfl rfl (by omega)) rfl ?_);
              (first | refine RS.lv (LV.load tab_ok rfl (Has.own 0 rfl) rfl) rfl ?_ | refine RS.lv (LV.load tab_ok rfl (Has.own 1 rfl) rfl) rfl ?_ | refine RS.lv (LV.load tab_ok rfl (Has.own 2 rfl) rfl) rfl ?_);
              refine RS.pv (PV.all tab_ok rfl) rfl ?_;
              refine RS.pv (PV.all tab_ok rfl) rfl ?_;
              refine RS.nil ?_)
          | (refine CS.region (id := 8) ?_;
              refine RS.pv (PV.all tab_ok rfl) rfl ?_;
              (first | refine RS.pv (PV.all tab_ok rfl) rfl ?_ | refine RS.pv (PV.eqlT rfl rfl (by omega)) rfl ?_ | refine RS.pv (PV.eqlF rfl rfl (by omega)) rfl ?_ | refine RS.ifEql rfl rfl rfl (fun h => ?_) (fun h => ?_) | refine RS.ifSeql rfl rfl rfl (fun h => ?_) (fun h => ?_));
              (all_goals refine RS.pv (PV.all tab_ok rfl) rfl ?_);
              (all_goals refine RS.nil ?_))
          | (refine CS.region (id := 9) ?_;
              refine RS.pv (PV.all tab_ok rfl) rfl ?_;
              refine RS.pv (PV.all tab_ok rfl) rfl ?_;
              refine RS.pv (PV.all tab_ok rfl) rfl ?_;
              (first | refine RS.lv (LV.load tab_ok rfl (Has.own 0 rfl) rfl) rfl ?_ | refine RS.lv (LV.load tab_ok rfl (Has.own 1 rfl) rfl) rfl ?_ | refine RS.lv (LV.load tab_ok rfl (Has.own 2 rfl) rfl) rfl ?_);
              refine RS.pv (PV.all tab_ok rfl) rfl ?_;
              (first | refine RS.pv (PV.leqT rfl rfl (by omega)) rfl ?_ | refine RS.pv (PV.leqF rfl rfl (by omega)) rfl ?_ | refine RS.ifLeq rfl rfl rfl (fun h => ?_) (fun h => ?_));
              (all_goals refine RS.pv (PV.all tab_ok rfl) rfl ?_);
              (all_goals refine RS.nil ?_))
          | (refine CS.region (id := 11) ?_;
              refine RS.pv (PV.all tab_ok rfl) rfl ?_;
              refine RS.pv (PV.all tab_ok rfl) rfl ?_;
              refine RS.pv (PV.all tab_ok rfl) rfl ?_;
              refine RS.pv (PV.all tab_ok rfl) rfl ?_;
              (first | refine RS.pv (PV.indexAddr tab_ok rfl rfl rfl (by omega)) rfl ?_ | refine RS.pv (PV.indexAddrA tab_ok rfl rfl rfl (by omega)) rfl ?_);
              refine RS.store (k := 0) tab_ok rfl rfl rfl rfl rfl rfl hput rfl ?_;
              (all_goals refine RS.nil ?_))
          | (refine CS.region (id := 12) ?_;
              refine RS.pv (PV.add rfl rfl (by omega)) rfl ?_;
              refine RS.pv (PV.all tab_ok rfl) rfl ?_;
              refine RS.nil ?_)
          | (refine CS.region (id := 19) ?_;
              refine RS.pv (PV.all tab_ok rfl) rfl ?_;
              refine RS.pv (PV.all tab_ok rfl) rfl ?_;
              refine RS.pv (PV.all tab_ok rfl) rfl ?_;
              refine RS.nil ?_)
          | refine CS.ret ?_
          | refine thenQ.ret ?_
          | refine blkQ.ret ?_
          | refine retQ.ret ?_
          | refine CS.block ?_
          | refine CS.exit ?_
          | refine thenQ.exit ?_
          | refine blkQ.normal ?_
          | refine blkQ.here ?_
          | refine blkQ.past rfl ?_
          | refine retQ.normal ?_)
        refine ⟨nw - (k + 1), by omega, k + 1, ao', cap', O', (bb, .cells ([.int .i64 xjd.index, .int .i64 xjd.left, .string xjd.rcd.path, .int .i64 xjd.rcd.index, .slice d2 xjd.rcd.props.length e2, .slice d3 xjd.rcd.tags.length e3, .slice d4 xjd.rcd.links.length e4, .slice d5 xjd.rcd.run.length e5, .slice d6 xjd.rcd.load.length e6, .string xjd.rcd.name, .int .i64 xjd.rcd.priority, .string xjd.rcd.owner, .string xjd.rcd.group, .int .i64 xjd.rcd.mode]).toArray 41 (0, 0)) :: (xb, .cells ([.int .i64 xjd.index, .int .i64 xjd.left, .string xjd.rcd.path, .int .i64 xjd.rcd.index, .slice d2 xjd.rcd.props.length e2, .slice d3 xjd.rcd.tags.length e3, .slice d4 xjd.rcd.links.length e4, .slice d5 xjd.rcd.run.length e5, .slice d6 xjd.rcd.load.length e6, .string xjd.rcd.name, .int .i64 xjd.rcd.priority, .string xjd.rcd.owner, .string xjd.rcd.group, .int .i64 xjd.rcd.mode]).toArray 41 (0, 0)) :: G, rfl, hlt, by rw [e0] at hO ⊢; exact hO, by rw [e0]; rfl, rfl, ?_⟩
        rw [hset]
        refine perm_of_sum _ _ fun f => ?_
        simp only [poolL, poolO, List.map_append, List.map_cons, List.sum_append, List.sum_cons, List.cons_append]
        omega
      · have hx' : t < xjd.left := by omega
        have ht1 : tick1 t (some ⟨xb, [.int .i64 xjd.index, .int .i64 xjd.left, .string xjd.rcd.path, .int .i64 xjd.rcd.index, .slice d2 xjd.rcd.props.length e2, .slice d3 xjd.rcd.tags.length e3, .slice d4 xjd.rcd.links.length e4, .slice d5 xjd.rcd.run.length e5, .slice d6 xjd.rcd.load.length e6, .string xjd.rcd.name, .int .i64 xjd.rcd.priority, .string xjd.rcd.owner, .string xjd.rcd.group, .int .i64 xjd.rcd.mode], xjd⟩) = some ⟨xb, .int .i64 xjd.index :: .int .i64 (xjd.left - t) :: ([.int .i64 xjd.index, .int .i64 xjd.left, .string xjd.rcd.path, .int .i64 xjd.rcd.index, .slice d2 xjd.rcd.props.length e2, .slice d3 xjd.rcd.tags.length e3, .slice d4 xjd.rcd.links.length e4, .slice d5 xjd.rcd.run.length e5, .slice d6 xjd.rcd.load.length e6, .string xjd.rcd.name, .int .i64 xjd.rcd.priority, .string xjd.rcd.owner, .string xjd.rcd.group, .int .i64 xjd.rcd.mode]).drop 2, ⟨xjd.index, xjd.left - t, xjd.rcd⟩⟩ := if_neg hx
        have hf1 : fin t (some ⟨xb, [.int .i64 xjd.index, .int .i64 xjd.left, .string xjd.rcd.path, .int .i64 xjd.rcd.index, .slice d2 xjd.rcd.props.length e2, .slice d3 xjd.rcd.tags.length e3, .slice d4 xjd.rcd.links.length e4, .slice d5 xjd.rcd.run.length e5, .slice d6 xjd.rcd.load.length e6, .string xjd.rcd.name, .int .i64 xjd.rcd.priority, .string xjd.rcd.owner, .string xjd.rcd.group, .int .i64 xjd.rcd.mode], xjd⟩) = none := if_neg hx
        rw [ht1] at hset
        rw [hf1] at hfin
        change fins t js (k + 1) = fins t js k ++ [] at hfin
        rw [List.append_nil] at hfin
        refine CS.perm (L' := (p, poolO (tkd t js k) nw) :: (xb, .cells ([.int .i64 xjd.index, .int .i64 xjd.left, .string xjd.rcd.path, .int .i64 xjd.rcd.index, .slice d2 xjd.rcd.props.length e2, .slice d3 xjd.rcd.tags.length e3, .slice d4 xjd.rcd.links.length e4, .slice d5 xjd.rcd.run.length e5, .slice d6 xjd.rcd.load.length e6, .string xjd.rcd.name, .int .i64 xjd.rcd.priority, .string xjd.rcd.owner, .string xjd.rcd.group, .int .i64 xjd.rcd.mode]).toArray 41 (0, 0)) :: (O ++ (jobsL ((tkd t js k).set k none) ++ (G ++ R)))) ?_ ?_
        · refine perm_of_sum _ _ fun f => ?_
          have := (hdel.map f).sum_nat
          simp only [poolL, List.map_append, List.map_cons, List.sum_append, List.sum_cons, List.cons_append, jobO] at this ⊢
          omega
        repeat' (first
          | refine CS.seq ?_
          | refine thenQ.normal ?_
          | refine CS.cond_true rfl ?_
          | refine CS.cond_false rfl ?_
          | refine CS.skip ?_
          | (refine CS.region (id := 0) ?_;
              refine RS.pv (PV.all tab_ok rfl) rfl ?_;
              refine RS.pv (PV.all tab_ok rfl) rfl ?_;
              refine RS.nil ?_)
          | (refine CS.region (id := 1) ?_;
              refine RS.pv (PV.all tab_ok rfl) rfl ?_;
              (first | refine RS.pv (PV.lssT rfl rfl (by omega)) rfl ?_ | refine RS.pv (PV.lssF rfl rfl (by omega)) rfl ?_ | refine RS.ifLss rfl rfl rfl (fun h => ?_) (fun h => ?_));
              (all_goals refine RS.pv (PV.all tab_ok rfl) rfl ?_);
              (all_goals (first | refine RS.pv (PV.all tab_ok rfl) rfl ?_ | refine RS.skip rfl ?_));
              (all_goals (first | refine RS.pv (PV.gtrT rfl rfl (by omega)) rfl ?_ | refine RS.pv (PV.gtrF rfl rfl (by omega)) rfl ?_ | refine RS.ifGtr rfl rfl rfl (fun h => ?_) (fun h => ?_) | refine RS.skip rfl ?_));
              (all_goals refine RS.pv (PV.all tab_ok rfl) rfl ?_);
              (all_goals refine RS.nil ?_))
          | (refine CS.region (id := 2) ?_;
              refine RS.pv (PV.all tab_ok rfl) rfl ?_;
              refine RS.pv (PV.all tab_ok rfl) rfl ?_;
              refine RS.nil ?_)
          | (refine CS.region (id := 3) ?_;
              refine RS.pv (PV.all tab_ok rfl) rfl ?_;
              refine RS.nil ?_)
          | (refine CS.drawQ (id := 4) mix (by kernel_rfl) ?_;
              refine QS.pv (PV.all tab_ok rfl) rfl ?_;
              refine QS.pv (PV.all tab_ok rfl) rfl ?_;
              refine QS.pv (PV.all tab_ok rfl) rfl ?_;
              refine QS.pv (PV.all tab_ok rfl) rfl ?_;
              refine QS.pv (PV.all tab_ok rfl) rfl ?_;
              refine QS.pv (PV.all tab_ok rfl) rfl ?_;
              (first | refine QS.lv (LV.load tab_ok rfl (Has.own 0 rfl) rfl) rfl ?_ | refine QS.lv (LV.load tab_ok rfl (Has.own 1 rfl) rfl) rfl ?_ | refine QS.lv (LV.load tab_ok rfl (Has.own 2 rfl) rfl) rfl ?_);
              refine QS.pv (PV.sliceArr tab_ok rfl rfl rfl (by omega)) rfl ?_;
              (first | refine QS.pv (PV.lenS tab_ok rfl rfl) rfl ?_ | refine QS.pv (PV.lenT tab_ok rfl rfl) rfl ?_);
              refine QS.pv (PV.all tab_ok rfl) rfl ?_;
              refine QS.nil ?_)
          | (refine CS.region (id := 5) ?_;
              (first | refine RS.pv (PV.lssT rfl rfl (by omega)) rfl ?_ | refine RS.pv (PV.lssF rfl rfl (by omega)) rfl ?_ | refine RS.ifLss rfl rfl rfl (fun h => ?_) (fun h => ?_));
              (all_goals refine RS.nil ?_))
          | (refine CS.region (id := 6) ?_;
              refine RS.pv (PV.all tab_ok rfl) rfl ?_;
              (first | refine RS.pv (PV.indexAddr tab_ok rfl rfl rfl (by omega)) rfl ?_ | refine RS.pv (PV.indexAddrA tab_ok rfl rfl rfl (by omega)) rfl ?_);
              refine RS.lv (LV.load1 tab_ok rfl (Has.own 0 rfl) rfl hcell) rfl ?_;
              (all_goals refine RS.pv (PV.all tab_ok rfl) rfl ?_);
              (all_goals refine RS.pv (PV.all tab_ok rfl) rfl ?_);
              (all_goals refine RS.nil ?_))
          | (refine CS.region (id := 7) ?_;
              refine RS.pv (PV.all tab_ok rfl) rfl ?_;
              refine RS.pv (PV.all tab_ok rfl) rfl ?_;
              refine RS.pv (PV.all tab_ok rfl) rfl ?_;
              (first | refine RS.lv (LV.load tab_ok rfl (Has.own 0 rfl) rfl) rfl ?_ | refine RS.lv (LV.load tab_ok rfl (Has.own 1 rfl) rfl) rfl ?_ | refine RS.lv (LV.load tab_ok rfl (Has.own 2 rfl) rfl) rfl ?_);
              refine RS.pv (PV.all tab_ok rfl) rfl ?_;
              refine RS.pv (PV.sub rfl rfl (by omega)) rfl ?_;
              refine RS.pv (PV.all tab_ok rfl) rfl ?_;
              refine RS.pv (PV.all tab_ok rfl) rfl ?_;
              (first | refine RS.store (k := 0) tab_ok rfl rfl rfl rfl rfl rfl rfl rfl ?_ | refine RS.store (k := 1) tab_ok rfl rfl rfl rfl rfl rfl rfl rfl ?_ | refine RS.store (k := 2) tab_ok rfl rfl rfl rfl rfl rfl rfl rfl ?_);
              refine RS.nil ?_)
          | (refine CS.region (id := 8) ?_;
              refine RS.pv (PV.all tab_ok rfl) rfl ?_;
              (first | refine RS.pv (PV.all tab_ok rfl) rfl ?_ | refine RS.pv (PV.eqlT rfl rfl (by omega)) rfl ?_ | refine RS.pv (PV.eqlF rfl rfl (by omega)) rfl ?_ | refine RS.ifEql rfl rfl rfl (fun h => ?_) (fun h => ?_) | refine RS.ifSeql rfl rfl rfl (fun h => ?_) (fun h => ?_));
              (all_goals refine RS.pv (PV.all tab_ok rfl) rfl ?_);
              (all_goals refine RS.nil ?_))
          | (refine CS.region (id := 9) ?_;
              refine RS.pv (PV.all tab_ok rfl) rfl ?_;
              refine RS.pv (PV.all tab_ok rfl) rfl ?_;
              refine RS.pv (PV.all tab_ok rfl) rfl ?_;
              (first | refine RS.lv (LV.load tab_ok rfl (Has.own 0 rfl) rfl) rfl ?_ | refine RS.lv (LV.load tab_ok rfl (Has.own 1 rfl) rfl) rfl ?_ | refine RS.lv (LV.load tab_ok rfl (Has.own 2 rfl) rfl) rfl ?_);
              refine RS.pv (PV.all tab_ok rfl) rfl ?_;
              (first | refine RS.pv (PV.leqT rfl rfl (by omega)) rfl ?_ | refine RS.pv (PV.leqF rfl rfl (by omega)) rfl ?_ | refine RS.ifLeq rfl rfl rfl (fun h => ?_) (fun h => ?_));
              (all_goals refine RS.pv (PV.all tab_ok rfl) rfl ?_);
              (all_goals refine RS.nil ?_))
          | (refine CS.region (id := 12) ?_;
              refine RS.pv (PV.add rfl rfl (by omega)) rfl ?_;
              refine RS.pv (PV.all tab_ok rfl) rfl ?_;
              refine RS.nil ?_)
          | (refine CS.region (id := 19) ?_;
              refine RS.pv (PV.all tab_ok rfl) rfl ?_;
              refine RS.pv (PV.all tab_ok rfl) rfl ?_;
              refine RS.pv (PV.all tab_ok rfl) rfl ?_;
              refine RS.nil ?_)
          | refine CS.ret ?_
          | refine thenQ.ret ?_
          | refine blkQ.ret ?_
          | refine retQ.ret ?_
          | refine CS.block ?_
          | refine CS.exit ?_
          | refine thenQ.exit ?_
          | refine blkQ.normal ?_
          | refine blkQ.here ?_
          | refine blkQ.past rfl ?_
          | refine retQ.normal ?_)
        refine ⟨nw - (k + 1), by omega, k + 1, ao, cap, O, G, rfl, hlt, by rw [hfin]; exact hsl, by rw [hfin]; rfl, rfl, ?_⟩
        have hadd := jobsL_add (js := (tkd t js k).set k none) (k := k) ⟨xb, .int .i64 xjd.index :: .int .i64 (xjd.left - t) :: ([.int .i64 xjd.index, .int .i64 xjd.left, .string xjd.rcd.path, .int .i64 xjd.rcd.index, .slice d2 xjd.rcd.props.length e2, .slice d3 xjd.rcd.tags.length e3, .slice d4 xjd.rcd.links.length e4, .slice d5 xjd.rcd.run.length e5, .slice d6 xjd.rcd.load.length e6, .string xjd.rcd.name, .int .i64 xjd.rcd.priority, .string xjd.rcd.owner, .string xjd.rcd.group, .int .i64 xjd.rcd.mode]).drop 2, ⟨xjd.index, xjd.left - t, xjd.rcd⟩⟩ (by rw [List.getElem?_set, if_pos rfl, if_pos hklen])
        rw [List.set_set, ← hset] at hadd
        have hkeep := poolC_keep (nw := nw) (y := ⟨xb, .int .i64 xjd.index :: .int .i64 (xjd.left - t) :: ([.int .i64 xjd.index, .int .i64 xjd.left, .string xjd.rcd.path, .int .i64 xjd.rcd.index, .slice d2 xjd.rcd.props.length e2, .slice d3 xjd.rcd.tags.length e3, .slice d4 xjd.rcd.links.length e4, .slice d5 xjd.rcd.run.length e5, .slice d6 xjd.rcd.load.length e6, .string xjd.rcd.name, .int .i64 xjd.rcd.priority, .string xjd.rcd.owner, .string xjd.rcd.group, .int .i64 xjd.rcd.mode]).drop 2, ⟨xjd.index, xjd.left - t, xjd.rcd⟩⟩) ho' rfl
        rw [← hset] at hkeep
        refine perm_of_sum _ _ fun f => ?_
        have := (hadd.map f).sum_nat
        simp only [poolL, poolO, hkeep, List.map_append, List.map_cons, List.sum_append, List.sum_cons, List.cons_append, jobO] at this ⊢
        have e3 : ∀ o, f (xb, o) = f (xb, o) := fun _ => rfl
        simp only [List.drop] at this
        omega
  · have hkk : k = nw := by omega
    subst hkk
    obtain ⟨e1, e2⟩ := fins_end (t := (t : Int)) hp
    rw [e1] at hsl ⊢
    rw [e2]
    have hmem : ∀ x, x ∈ js.filterMap (fin t) → some x ∈ js := by
      intro x hx
      obtain ⟨o, h3, h4⟩ := List.mem_filterMap.1 hx
      cases o with
      | none => cases h4
      | some y =>
        rw [show fin t (some y) = if y.jd.left ≤ t then some y else none from rfl] at h4
        by_cases hy : y.jd.left ≤ t
        · rw [if_pos hy] at h4; cases h4; exact h3
        · rw [if_neg hy] at h4; cases h4
    revert h1 hsl hmem
    generalize js.filterMap (fin t) = D
    intro h1 hsl hmem
    repeat' (first
      | refine CS.seq ?_
      | refine thenQ.normal ?_
      | refine CS.cond_true rfl ?_
      | refine CS.cond_false rfl ?_
      | refine CS.skip ?_
      | (refine CS.region (id := 0) ?_;
          refine RS.pv (PV.all tab_ok rfl) rfl ?_;
          refine RS.pv (PV.all tab_ok rfl) rfl ?_;
          refine RS.nil ?_)
      | (refine CS.region (id := 1) ?_;
          refine RS.pv (PV.all tab_ok rfl) rfl ?_;
          (first | refine RS.pv (PV.lssT rfl rfl (by omega)) rfl ?_ | refine RS.pv (PV.lssF rfl rfl (by omega)) rfl ?_ | refine RS.ifLss rfl rfl rfl (fun h => ?_) (fun h => ?_));
          (all_goals refine RS.pv (PV.all tab_ok rfl) rfl ?_);
          (all_goals (first | refine RS.pv (PV.all tab_ok rfl) rfl ?_ | refine RS.skip rfl ?_));
          (all_goals (first | refine RS.pv (PV.gtrT rfl rfl (by omega)) rfl ?_ | refine RS.pv (PV.gtrF rfl rfl (by omega)) rfl ?_ | refine RS.ifGtr rfl rfl rfl (fun h => ?_) (fun h => ?_) | refine RS.skip rfl ?_));
          (all_goals refine RS.pv (PV.all tab_ok rfl) rfl ?_);
          (all_goals refine RS.nil ?_))
      | (refine CS.region (id := 2) ?_;
          refine RS.pv (PV.all tab_ok rfl) rfl ?_;
          refine RS.pv (PV.all tab_ok rfl) rfl ?_;
          refine RS.nil ?_)
      | (refine CS.region (id := 3) ?_;
          refine RS.pv (PV.all tab_ok rfl) rfl ?_;
          refine RS.nil ?_)
      | (refine CS.drawQ (id := 4) mix (by kernel_rfl) ?_;
          refine QS.pv (PV.all tab_ok rfl) rfl ?_;
          refine QS.pv (PV.all tab_ok rfl) rfl ?_;
          refine QS.pv (PV.all tab_ok rfl) rfl ?_;
          refine QS.pv (PV.all tab_ok rfl) rfl ?_;
          refine QS.pv (PV.all tab_ok rfl) rfl ?_;
          refine QS.pv (PV.all tab_ok rfl) rfl ?_;
          (first | refine QS.lv (LV.load tab_ok rfl (Has.own 0 rfl) rfl) rfl ?_ | refine QS.lv (LV.load tab_ok rfl (Has.own 1 rfl) rfl) rfl ?_ | refine QS.lv (LV.load tab_ok rfl (Has.own 2 rfl) rfl) rfl ?_);
          refine QS.pv (PV.sliceArr tab_ok rfl rfl rfl (by omega)) rfl ?_;
          (first | refine QS.pv (PV.lenS tab_ok rfl rfl) rfl ?_ | refine QS.pv (PV.lenT tab_ok rfl rfl) rfl ?_);
          refine QS.pv (PV.all tab_ok rfl) rfl ?_;
          refine QS.nil ?_)
      | (refine CS.region (id := 5) ?_;
          (first | refine RS.pv (PV.lssT rfl rfl (by omega)) rfl ?_ | refine RS.pv (PV.lssF rfl rfl (by omega)) rfl ?_ | refine RS.ifLss rfl rfl rfl (fun h => ?_) (fun h => ?_));
          (all_goals refine RS.nil ?_))
      | (refine CS.region (id := 13) ?_;
          refine RS.pv (PV.all tab_ok rfl) rfl ?_;
          (refine RS.call (sort_s ao _ cap h1 _ _) rfl (by kernel_rfl) rfl ?_; rintro v2 i2 L2 hi2 ⟨rfl, rfl⟩);
          (all_goals refine RS.nil ?_))
      | (refine CS.region (id := 14) ?_;
          refine RS.pv (PV.all tab_ok rfl) rfl ?_;
          (first | refine RS.pv (PV.lenS tab_ok rfl rfl) rfl ?_ | refine RS.pv (PV.lenT tab_ok rfl rfl) rfl ?_);
          refine RS.pv (PV.all tab_ok rfl) rfl ?_;
          refine RS.nil ?_)
      | (refine CS.region (id := 19) ?_;
          refine RS.pv (PV.all tab_ok rfl) rfl ?_;
          refine RS.pv (PV.all tab_ok rfl) rfl ?_;
          refine RS.pv (PV.all tab_ok rfl) rfl ?_;
          refine RS.nil ?_)
      | refine CS.ret ?_
      | refine thenQ.ret ?_
      | refine blkQ.ret ?_
      | refine retQ.ret ?_
      | refine CS.block ?_
      | refine CS.exit ?_
      | refine thenQ.exit ?_
      | refine blkQ.normal ?_
      | refine blkQ.here ?_
      | refine blkQ.past rfl ?_
      | refine retQ.normal ?_)
    match D, h1, hsl, hmem with
    | [], _, hsl, _ =>
      refine CS.loop [6, 63, 64] (fun _ vs i' L' => vs = [.slice ao 0 cap, .int .i64 0, .int .i64 0] ∧ i' = i2 ∧ L' = O ++ (poolL p (js.map (tick1 t)) k ++ (G ++ R))) 0 ⟨rfl, rfl, rfl⟩ ?_
      rintro m g vs i' L' hi ⟨rfl, rfl, rfl⟩
      repeat' (first
        | refine CS.seq ?_
        | refine thenQ.normal ?_
        | refine CS.cond_true rfl ?_
        | refine CS.cond_false rfl ?_
        | refine CS.skip ?_
        | (refine CS.region (id := 0) ?_;
            refine RS.pv (PV.all tab_ok rfl) rfl ?_;
            refine RS.pv (PV.all tab_ok rfl) rfl ?_;
            refine RS.nil ?_)
        | (refine CS.region (id := 1) ?_;
            refine RS.pv (PV.all tab_ok rfl) rfl ?_;
            (first | refine RS.pv (PV.lssT rfl rfl (by omega)) rfl ?_ | refine RS.pv (PV.lssF rfl rfl (by omega)) rfl ?_ | refine RS.ifLss rfl rfl rfl (fun h => ?_) (fun h => ?_));
            (all_goals refine RS.pv (PV.all tab_ok rfl) rfl ?_);
            (all_goals (first | refine RS.pv (PV.all tab_ok rfl) rfl ?_ | refine RS.skip rfl ?_));
            (all_goals (first | refine RS.pv (PV.gtrT rfl rfl (by omega)) rfl ?_ | refine RS.pv (PV.gtrF rfl rfl (by omega)) rfl ?_ | refine RS.ifGtr rfl rfl rfl (fun h => ?_) (fun h => ?_) | refine RS.skip rfl ?_));
            (all_goals refine RS.pv (PV.all tab_ok rfl) rfl ?_);
            (all_goals refine RS.nil ?_))
        | (refine CS.region (id := 2) ?_;
            refine RS.pv (PV.all tab_ok rfl) rfl ?_;
            refine RS.pv (PV.all tab_ok rfl) rfl ?_;
            refine RS.nil ?_)
        | (refine CS.region (id := 3) ?_;
            refine RS.pv (PV.all tab_ok rfl) rfl ?_;
            refine RS.nil ?_)
        | (refine CS.drawQ (id := 4) mix (by kernel_rfl) ?_;
            refine QS.pv (PV.all tab_ok rfl) rfl ?_;
            refine QS.pv (PV.all tab_ok rfl) rfl ?_;
            refine QS.pv (PV.all tab_ok rfl) rfl ?_;
            refine QS.pv (PV.all tab_ok rfl) rfl ?_;
            refine QS.pv (PV.all tab_ok rfl) rfl ?_;
            refine QS.pv (PV.all tab_ok rfl) rfl ?_;
            (first | refine QS.lv (LV.load tab_ok rfl (Has.own 0 rfl) rfl) rfl ?_ | refine QS.lv (LV.load tab_ok rfl (Has.own 1 rfl) rfl) rfl ?_ | refine QS.lv (LV.load tab_ok rfl (Has.own 2 rfl) rfl) rfl ?_);
            refine QS.pv (PV.sliceArr tab_ok rfl rfl rfl (by omega)) rfl ?_;
            (first | refine QS.pv (PV.lenS tab_ok rfl rfl) rfl ?_ | refine QS.pv (PV.lenT tab_ok rfl rfl) rfl ?_);
            refine QS.pv (PV.all tab_ok rfl) rfl ?_;
            refine QS.nil ?_)
        | (refine CS.region (id := 13) ?_;
            refine RS.pv (PV.all tab_ok rfl) rfl ?_)
        | (refine CS.region (id := 14) ?_;
            refine RS.pv (PV.all tab_ok rfl) rfl ?_;
            (first | refine RS.pv (PV.lenS tab_ok rfl rfl) rfl ?_ | refine RS.pv (PV.lenT tab_ok rfl rfl) rfl ?_);
            refine RS.pv (PV.all tab_ok rfl) rfl ?_;
            refine RS.nil ?_)
        | (refine CS.region (id := 15) ?_;
            (first | refine RS.pv (PV.lssT rfl rfl (by omega)) rfl ?_ | refine RS.pv (PV.lssF rfl rfl (by omega)) rfl ?_ | refine RS.ifLss rfl rfl rfl (fun h => ?_) (fun h => ?_));
            (all_goals refine RS.nil ?_))
        | (refine CS.region (id := 19) ?_;
            refine RS.pv (PV.all tab_ok rfl) rfl ?_;
            refine RS.pv (PV.all tab_ok rfl) rfl ?_;
            refine RS.pv (PV.all tab_ok rfl) rfl ?_;
            refine RS.nil ?_)
        | refine CS.ret ?_
        | refine thenQ.ret ?_
        | refine blkQ.ret ?_
        | refine retQ.ret ?_
        | refine CS.block ?_
        | refine CS.exit ?_
        | refine thenQ.exit ?_
        | refine blkQ.normal ?_
        | refine blkQ.here ?_
        | refine blkQ.past rfl ?_
        | refine retQ.normal ?_)
      refine ⟨.slice ao 0 cap, O, rfl, hsl, rfl, G, ?_⟩
      refine perm_of_sum _ _ fun f => ?_
      simp only [List.map_append, List.sum_append]
      omega
    | [x], _, hsl, hmem =>
      obtain ⟨xb, xjc, xjd⟩ := x
      obtain ⟨⟨rc, hjc, hrc⟩, hok, hl1, hl2⟩ := hp.job _ (hmem _ (List.mem_cons_self ..))
      simp only at hjc hrc
      obtain ⟨d2, e2, d3, e3, d4, e4, d5, e5, d6, e6, rfl⟩ := hrc.lit
      subst hjc
      obtain ⟨hs1, ⟨_, h0, _⟩ | ⟨gb, cap', sp, h3, h4, h5, rfl⟩⟩ := hsl
      · cases h0
      cases h3
      refine CS.loop [6, 63, 64] (fun m vs i' L' => i' = i2 ∧ ((m = 1 ∧ vs = [.slice (some ⟨gb, 0, none⟩) 1 cap, .int .i64 1, .int .i64 0] ∧ L' = (gb, .cells (.int .i64 xjd.index :: .int .i64 xjd.left :: .string xjd.rcd.path :: .int .i64 xjd.rcd.index :: .slice d2 xjd.rcd.props.length e2 :: .slice d3 xjd.rcd.tags.length e3 :: .slice d4 xjd.rcd.links.length e4 :: .slice d5 xjd.rcd.run.length e5 :: .slice d6 xjd.rcd.load.length e6 :: .string xjd.rcd.name :: .int .i64 xjd.rcd.priority :: .string xjd.rcd.owner :: .string xjd.rcd.group :: .int .i64 xjd.rcd.mode :: sp).toArray 41 (0, 0)) :: (poolL p (js.map (tick1 t)) k ++ (G ++ R))) ∨
        (m = 0 ∧ vs = [.slice (some ⟨gb, 0, none⟩) 1 cap, .int .i64 1, .int .i64 1] ∧ L' = (gb, .cells (.int .i64 xjd.index :: .int .i64 0 :: .string xjd.rcd.path :: .int .i64 xjd.rcd.index :: .slice d2 xjd.rcd.props.length e2 :: .slice d3 xjd.rcd.tags.length e3 :: .slice d4 xjd.rcd.links.length e4 :: .slice d5 xjd.rcd.run.length e5 :: .slice d6 xjd.rcd.load.length e6 :: .string xjd.rcd.name :: .int .i64 xjd.rcd.priority :: .string xjd.rcd.owner :: .string xjd.rcd.group :: .int .i64 xjd.rcd.mode :: sp).toArray 41 (0, 0)) :: (poolL p (js.map (tick1 t)) k ++ (G ++ R))))) 1 ⟨rfl, .inl ⟨rfl, rfl, rfl⟩⟩ ?_
      rintro m g vs i' L' hi ⟨rfl, ⟨rfl, rfl, rfl⟩ | ⟨rfl, rfl, rfl⟩⟩
      · repeat' (first
          | refine CS.seq ?_
          | refine thenQ.normal ?_
          | refine CS.cond_true rfl ?_
          | refine CS.cond_false rfl ?_
          | refine CS.skip ?_
          | (refine CS.region (id := 0) ?_;
              refine RS.pv (PV.all tab_ok rfl) rfl ?_;
              refine RS.pv (PV.all tab_ok rfl) rfl ?_;
              refine RS.nil ?_)
          | (refine CS.region (id := 1) ?_;
              refine RS.pv (PV.all tab_ok rfl) rfl ?_;
              (first | refine RS.pv (PV.lssT rfl rfl (by omega)) rfl ?_ | refine RS.pv (PV.lssF rfl rfl (by omega)) rfl ?_ | refine RS.ifLss rfl rfl rfl (fun h => ?_) (fun h => ?_));
              (all_goals refine RS.pv (PV.all tab_ok rfl) rfl ?_);
              (all_goals (first | refine RS.pv (PV.all tab_ok rfl) rfl ?_ | refine RS.skip rfl ?_));
              (all_goals (first | refine RS.pv (PV.gtrT rfl rfl (by omega)) rfl ?_ | refine RS.pv (PV.gtrF rfl rfl (by omega)) rfl ?_ | refine RS.ifGtr rfl rfl rfl (fun h => ?_) (fun h => ?_) | refine RS.skip rfl ?_));
              (all_goals refine RS.pv (PV.all tab_ok rfl) rfl ?_);
              (all_goals refine RS.nil ?_))
          | (refine CS.region (id := 2) ?_;
              refine RS.pv (PV.all tab_ok rfl) rfl ?_;
              refine RS.pv (PV.all tab_ok rfl) rfl ?_;
              refine RS.nil ?_)
          | (refine CS.region (id := 3) ?_;
              refine RS.pv (PV.all tab_ok rfl) rfl ?_;
              refine RS.nil ?_)
          | (refine CS.drawQ (id := 4) mix (by kernel_rfl) ?_;
              refine QS.pv (PV.all tab_ok rfl) rfl ?_;
              refine QS.pv (PV.all tab_ok rfl) rfl ?_;
              refine QS.pv (PV.all tab_ok rfl) rfl ?_;
              refine QS.pv (PV.all tab_ok rfl) rfl ?_;
              refine QS.pv (PV.all tab_ok rfl) rfl ?_;
              refine QS.pv (PV.all tab_ok rfl) rfl ?_;
              (first | refine QS.lv (LV.load tab_ok rfl (Has.own 0 rfl) rfl) rfl ?_ | refine QS.lv (LV.load tab_ok rfl (Has.own 1 rfl) rfl) rfl ?_ | refine QS.lv (LV.load tab_ok rfl (Has.own 2 rfl) rfl) rfl ?_);
              refine QS.pv (PV.sliceArr tab_ok rfl rfl rfl (by omega)) rfl ?_;
              (first | refine QS.pv (PV.lenS tab_ok rfl rfl) rfl ?_ | refine QS.pv (PV.lenT tab_ok rfl rfl) rfl ?_);
              refine QS.pv (PV.all tab_ok rfl) rfl ?_;
              refine QS.nil ?_)
          | (refine CS.region (id := 13) ?_;
              refine RS.pv (PV.all tab_ok rfl) rfl ?_)
          | (refine CS.region (id := 14) ?_;
              refine RS.pv (PV.all tab_ok rfl) rfl ?_;
              (first | refine RS.pv (PV.lenS tab_ok rfl rfl) rfl ?_ | refine RS.pv (PV.lenT tab_ok rfl rfl) rfl ?_);
              refine RS.pv (PV.all tab_ok rfl) rfl ?_;
              refine RS.nil ?_)
          | (refine CS.region (id := 15) ?_;
              (first | refine RS.pv (PV.lssT rfl rfl (by omega)) rfl ?_ | refine RS.pv (PV.lssF rfl rfl (by omega)) rfl ?_ | refine RS.ifLss rfl rfl rfl (fun h => ?_) (fun h => ?_));
              (all_goals refine RS.nil ?_))
          | (refine CS.region (id := 16) ?_;
              refine RS.pv (PV.all tab_ok rfl) rfl ?_;
              refine RS.pv (PV.all tab_ok rfl) rfl ?_;
              refine RS.nil ?_)
          | (refine CS.region (id := 17) ?_;
              refine RS.pv (PV.all tab_ok rfl) rfl ?_;
              refine RS.pv (PV.all tab_ok rfl) rfl ?_;
              (first | refine RS.pv (PV.indexAddr tab_ok rfl rfl rfl (by omega)) rfl ?_ | refine RS.pv (PV.indexAddrA tab_ok rfl rfl rfl (by omega)) rfl ?_);
              refine RS.pv (PV.all tab_ok rfl) rfl ?_;
              (first | refine RS.store (k := 0) tab_ok rfl rfl rfl rfl rfl rfl rfl rfl ?_ | refine RS.store (k := 1) tab_ok rfl rfl rfl rfl rfl rfl rfl rfl ?_ | refine RS.store (k := 2) tab_ok rfl rfl rfl rfl rfl rfl rfl rfl ?_);
              refine RS.nil ?_)
          | (refine CS.region (id := 18) ?_;
              refine RS.pv (PV.add rfl rfl (by omega)) rfl ?_;
              refine RS.pv (PV.all tab_ok rfl) rfl ?_;
              refine RS.nil ?_)
          | (refine CS.region (id := 19) ?_;
              refine RS.pv (PV.all tab_ok rfl) rfl ?_;
              refine RS.pv (PV.all tab_ok rfl) rfl ?_;
              refine RS.pv (PV.all tab_ok rfl) rfl ?_;
              refine RS.nil ?_)
          | refine CS.ret ?_
          | refine thenQ.ret ?_
          | refine blkQ.ret ?_
          | refine retQ.ret ?_
          | refine CS.block ?_
          | refine CS.exit ?_
          | refine thenQ.exit ?_
          | refine blkQ.normal ?_
          | refine blkQ.here ?_
          | refine blkQ.past rfl ?_
          | refine retQ.normal ?_)
        exact ⟨0, by omega, rfl, .inr ⟨rfl, rfl, rfl⟩⟩
      · repeat' (first
          | refine CS.seq ?_
          | refine thenQ.normal ?_
          | refine CS.cond_true rfl ?_
          | refine CS.cond_false rfl ?_
          | refine CS.skip ?_
          | (refine CS.region (id := 0) ?_;
              refine RS.pv (PV.all tab_ok rfl) rfl ?_;
              refine RS.pv (PV.all tab_ok rfl) rfl ?_;
              refine RS.nil ?_)
          | (refine CS.region (id := 1) ?_;
              refine RS.pv (PV.all tab_ok rfl) rfl ?_;
              (first | refine RS.pv (PV.lssT rfl rfl (by omega)) rfl ?_ | refine RS.pv (PV.lssF rfl rfl (by omega)) rfl ?_ | refine RS.ifLss rfl rfl rfl (fun h => ?_) (fun h => ?_));
              (all_goals refine RS.pv (PV.all tab_ok rfl) rfl ?_);
              (all_goals (first | refine RS.pv (PV.all tab_ok rfl) rfl ?_ | refine RS.skip rfl ?_));
              (all_goals (first | refine RS.pv (PV.gtrT rfl rfl (by omega)) rfl ?_ | refine RS.pv (PV.gtrF rfl rfl (by omega)) rfl ?_ | refine RS.ifGtr rfl rfl rfl (fun h => ?_) (fun h => ?_) | refine RS.skip rfl ?_));
              (all_goals refine RS.pv (PV.all tab_ok rfl) rfl ?_);
              (all_goals refine RS.nil ?_))
          | (refine CS.region (id := 2) ?_;
              refine RS.pv (PV.all tab_ok rfl) rfl ?_;
              refine RS.pv (PV.all tab_ok rfl) rfl ?_;
              refine RS.nil ?_)
          | (refine CS.region (id := 3) ?_;
              refine RS.pv (PV.all tab_ok rfl) rfl ?_;
              refine RS.nil ?_)
          | (refine CS.drawQ (id := 4) mix (by kernel_rfl) ?_;
              refine QS.pv (PV.all tab_ok rfl) rfl ?_;
              refine QS.pv (PV.all tab_ok rfl) rfl ?_;
              refine QS.pv (PV.all tab_ok rfl) rfl ?_;
              refine QS.pv (PV.all tab_ok rfl) rfl ?_;
              refine QS.pv (PV.all tab_ok rfl) rfl ?_;
              refine QS.pv (PV.all tab_ok rfl) rfl ?_;
              (first | refine QS.lv (LV.load tab_ok rfl (Has.own 0 rfl) rfl) rfl ?_ | refine QS.lv (LV.load tab_ok rfl (Has.own 1 rfl) rfl) rfl ?_ | refine QS.lv (LV.load tab_ok rfl (Has.own 2 rfl) rfl) rfl ?_);
              refine QS.pv (PV.sliceArr tab_ok rfl rfl rfl (by omega)) rfl ?_;
              (first | refine QS.pv (PV.lenS tab_ok rfl rfl) rfl ?_ | refine QS.pv (PV.lenT tab_ok rfl rfl) rfl ?_);
              refine QS.pv (PV.all tab_ok rfl) rfl ?_;
              refine QS.nil ?_)
          | (refine CS.region (id := 13) ?_;
              refine RS.pv (PV.all tab_ok rfl) rfl ?_)
          | (refine CS.region (id := 14) ?_;
              refine RS.pv (PV.all tab_ok rfl) rfl ?_;
              (first | refine RS.pv (PV.lenS tab_ok rfl rfl) rfl ?_ | refine RS.pv (PV.lenT tab_ok rfl rfl) rfl ?_);
              refine RS.pv (PV.all tab_ok rfl) rfl ?_;
              refine RS.nil ?_)
          | (refine CS.region (id := 15) ?_;
              (first | refine RS.pv (PV.lssT rfl rfl (by omega)) rfl ?_ | refine RS.pv (PV.lssF rfl rfl (by omega)) rfl ?_ | refine RS.ifLss rfl rfl rfl (fun h => ?_) (fun h => ?_));
              (all_goals refine RS.nil ?_))
          | (refine CS.region (id := 19) ?_;
              refine RS.pv (PV.all tab_ok rfl) rfl ?_;
              refine RS.pv (PV.all tab_ok rfl) rfl ?_;
              refine RS.pv (PV.all tab_ok rfl) rfl ?_;
              refine RS.nil ?_)
          | refine CS.ret ?_
          | refine thenQ.ret ?_
          | refine blkQ.ret ?_
          | refine retQ.ret ?_
          | refine CS.block ?_
          | refine CS.exit ?_
          | refine thenQ.exit ?_
          | refine blkQ.normal ?_
          | refine blkQ.here ?_
          | refine blkQ.past rfl ?_
          | refine retQ.normal ?_)
        refine ⟨.slice (some ⟨gb, 0, none⟩) 1 cap, [(gb, .cells (.int .i64 xjd.index :: .int .i64 0 :: .string xjd.rcd.path :: .int .i64 xjd.rcd.index :: .slice d2 xjd.rcd.props.length e2 :: .slice d3 xjd.rcd.tags.length e3 :: .slice d4 xjd.rcd.links.length e4 :: .slice d5 xjd.rcd.run.length e5 :: .slice d6 xjd.rcd.load.length e6 :: .string xjd.rcd.name :: .int .i64 xjd.rcd.priority :: .string xjd.rcd.owner :: .string xjd.rcd.group :: .int .i64 xjd.rcd.mode :: sp).toArray 41 (0, 0))], rfl, ⟨rfl, .inr ⟨gb, cap, sp, rfl, h4, ?_, rfl⟩⟩, rfl, G, ?_⟩
        · simpa [jcs] using h5
        refine perm_of_sum _ _ fun f => ?_
        simp only [List.map_append, List.map_cons, List.sum_append, List.sum_cons, List.map_nil, List.sum_nil]
        omega
    | _ :: _ :: _, h1, _, _ => exact absurd h1 (by simp)
end Go.Proofs.Ytmcajldlcomegaa
