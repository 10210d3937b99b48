/- Contracts: copies of records and jobs. -/
import Derived.Test.YtmcajldlcomegaaW1
namespace Go.Proofs.Ytmcajldlcomegaa
open Go Go.Eng

theorem Clone1_s (v : Value) (n : Nat) (xs : List Value) (i : Imm) (L : SH) (hv : Sl i v 1 n xs) (hone : ∀ c ∈ xs, c.oneCell' = true) (hb : n * 16 ≤ 140737488355328) :
    FnS Try.prog 101 [v] i L fun v' i' L' => Sl i' v' 1 n xs ∧ L' = L := by
  refine FnS.frozen (e := 9) ?_
  have hrd := hv.rd
  obtain ⟨ao, cap, rfl, hl, hr⟩ := hv
  refine FnS.intro1 Try.func101 rfl Try.ntmps101 (by simp) Try.results101 ?_
  cases ao with
  | none =>
    have hxs : xs = [] := by
      rcases hr with h | ⟨b, o, cs, t, fz, h, _⟩
      · exact h
      · cases h
    subst hxs
    have hn : n = 0 := by simpa using hl.symm
    subst hn
    repeat' (first
      | refine CS.seq ?_
      | refine thenQ.normal ?_
      | refine CS.cond_true rfl ?_
      | refine CS.cond_false rfl ?_
      | refine CS.skip ?_
      | (refine CS.region (id := 0) ?_;
          refine RS.pv (PV.all tab_ok rfl) rfl ?_;
          refine RS.nil ?_)
      | (refine CS.region (id := 1) ?_;
          refine RS.pv (PV.all tab_ok rfl) rfl ?_;
          (first | refine RS.pv (PV.all tab_ok rfl) rfl ?_ | refine RS.pv (PV.eqlT rfl rfl (by omega)) rfl ?_ | refine RS.pv (PV.eqlF rfl rfl (by omega)) rfl ?_ | refine RS.ifEql rfl rfl rfl (fun h => ?_) (fun h => ?_) | refine RS.ifSeql rfl rfl rfl (fun h => ?_) (fun h => ?_));
          (all_goals refine RS.nil ?_))
      | (refine CS.region (id := 2) ?_;
          refine RS.pv (PV.all tab_ok rfl) rfl ?_;
          refine RS.nil ?_)
      | refine CS.ret ?_
      | refine thenQ.ret ?_
      | refine blkQ.ret ?_
      | refine retQ.ret ?_
      | refine CS.block ?_
      | refine CS.exit ?_
      | refine thenQ.exit ?_
      | refine blkQ.normal ?_
      | refine blkQ.here ?_
      | refine blkQ.past rfl ?_
      | refine retQ.normal ?_)
    exact ⟨[], SlO.nil 9 1, rfl⟩
  | some a =>
    repeat' (first
      | refine CS.seq ?_
      | refine thenQ.normal ?_
      | refine CS.cond_true rfl ?_
      | refine CS.cond_false rfl ?_
      | refine CS.skip ?_
      | (refine CS.region (id := 0) ?_;
          refine RS.pv (PV.all tab_ok rfl) rfl ?_;
          refine RS.nil ?_)
      | (refine CS.region (id := 1) ?_;
          refine RS.pv (PV.all tab_ok rfl) rfl ?_;
          (first | refine RS.pv (PV.all tab_ok rfl) rfl ?_ | refine RS.pv (PV.eqlT rfl rfl (by omega)) rfl ?_ | refine RS.pv (PV.eqlF rfl rfl (by omega)) rfl ?_ | refine RS.ifEql rfl rfl rfl (fun h => ?_) (fun h => ?_) | refine RS.ifSeql rfl rfl rfl (fun h => ?_) (fun h => ?_));
          (all_goals refine RS.nil ?_))
      | (refine CS.region (id := 2) ?_;
          refine RS.pv (PV.all tab_ok rfl) rfl ?_;
          refine RS.nil ?_)
      | (refine CS.region (id := 3) ?_;
          refine RS.buildSlice tab_ok rfl rfl (fun b => ?_);
          (all_goals refine RS.pv (PV.all tab_ok rfl) rfl ?_);
          (all_goals (refine RS.append tab_ok (sz := 1) (bytes := 16) (k := 0) (m := n) (xs := []) (news := xs) rfl rfl rfl ⟨_, rfl, rfl⟩ ⟨_, rfl, rfl, rfl⟩ (by omega) (SlO.built 9 1 0 b [] rfl) rfl (hrd _) hone (by omega) (by omega) ?_; intro v' O' hO hnil));
          (all_goals refine RS.pv (PV.assign (v := v') (sv_eq _)) rfl ?_);
          (all_goals refine RS.nil ?_))
      | refine CS.ret ?_
      | refine thenQ.ret ?_
      | refine blkQ.ret ?_
      | refine retQ.ret ?_
      | refine CS.block ?_
      | refine CS.exit ?_
      | refine thenQ.exit ?_
      | refine blkQ.normal ?_
      | refine blkQ.here ?_
      | refine blkQ.past rfl ?_
      | refine retQ.normal ?_)
    rw [Nat.zero_add, List.nil_append] at hO
    exact ⟨O', hO, rfl⟩

theorem Clone2_s (v : Value) (n : Nat) (xs : List Value) (i : Imm) (L : SH) (hv : Sl i v 2 n xs) (hone : ∀ c ∈ xs, c.oneCell' = true) (hb : n * 32 ≤ 140737488355328) :
    FnS Try.prog 100 [v] i L fun v' i' L' => Sl i' v' 2 n xs ∧ L' = L := by
  refine FnS.frozen (e := 103) ?_
  have hrd := hv.rd
  obtain ⟨ao, cap, rfl, hl, hr⟩ := hv
  refine FnS.intro1 Try.func100 rfl Try.ntmps100 (by simp) Try.results100 ?_
  cases ao with
  | none =>
    have hxs : xs = [] := by
      rcases hr with h | ⟨b, o, cs, t, fz, h, _⟩
      · exact h
      · cases h
    subst hxs
    have hn : n = 0 := by simp at hl; omega
    subst hn
    repeat' (first
      | refine CS.seq ?_
      | refine thenQ.normal ?_
      | refine CS.cond_true rfl ?_
      | refine CS.cond_false rfl ?_
      | refine CS.skip ?_
      | (refine CS.region (id := 0) ?_;
          refine RS.pv (PV.all tab_ok rfl) rfl ?_;
          refine RS.nil ?_)
      | (refine CS.region (id := 1) ?_;
          refine RS.pv (PV.all tab_ok rfl) rfl ?_;
          (first | refine RS.pv (PV.all tab_ok rfl) rfl ?_ | refine RS.pv (PV.eqlT rfl rfl (by omega)) rfl ?_ | refine RS.pv (PV.eqlF rfl rfl (by omega)) rfl ?_ | refine RS.ifEql rfl rfl rfl (fun h => ?_) (fun h => ?_) | refine RS.ifSeql rfl rfl rfl (fun h => ?_) (fun h => ?_));
          (all_goals refine RS.nil ?_))
      | (refine CS.region (id := 2) ?_;
          refine RS.pv (PV.all tab_ok rfl) rfl ?_;
          refine RS.nil ?_)
      | refine CS.ret ?_
      | refine thenQ.ret ?_
      | refine blkQ.ret ?_
      | refine retQ.ret ?_
      | refine CS.block ?_
      | refine CS.exit ?_
      | refine thenQ.exit ?_
      | refine blkQ.normal ?_
      | refine blkQ.here ?_
      | refine blkQ.past rfl ?_
      | refine retQ.normal ?_)
    exact ⟨[], SlO.nil 103 2, rfl⟩
  | some a =>
    repeat' (first
      | refine CS.seq ?_
      | refine thenQ.normal ?_
      | refine CS.cond_true rfl ?_
      | refine CS.cond_false rfl ?_
      | refine CS.skip ?_
      | (refine CS.region (id := 0) ?_;
          refine RS.pv (PV.all tab_ok rfl) rfl ?_;
          refine RS.nil ?_)
      | (refine CS.region (id := 1) ?_;
          refine RS.pv (PV.all tab_ok rfl) rfl ?_;
          (first | refine RS.pv (PV.all tab_ok rfl) rfl ?_ | refine RS.pv (PV.eqlT rfl rfl (by omega)) rfl ?_ | refine RS.pv (PV.eqlF rfl rfl (by omega)) rfl ?_ | refine RS.ifEql rfl rfl rfl (fun h => ?_) (fun h => ?_) | refine RS.ifSeql rfl rfl rfl (fun h => ?_) (fun h => ?_));
          (all_goals refine RS.nil ?_))
      | (refine CS.region (id := 2) ?_;
          refine RS.pv (PV.all tab_ok rfl) rfl ?_;
          refine RS.nil ?_)
      | (refine CS.region (id := 3) ?_;
          refine RS.buildSlice tab_ok rfl rfl (fun b => ?_);
          (all_goals refine RS.pv (PV.all tab_ok rfl) rfl ?_);
          (all_goals (refine RS.append tab_ok (sz := 2) (bytes := 32) (k := 0) (m := n) (xs := []) (news := xs) rfl rfl rfl ⟨_, rfl, rfl⟩ ⟨_, rfl, rfl, rfl⟩ (by omega) (SlO.built 103 2 0 b [] rfl) rfl (hrd _) hone (by omega) (by omega) ?_; intro v' O' hO hnil));
          (all_goals refine RS.pv (PV.assign (v := v') (sv_eq _)) rfl ?_);
          (all_goals refine RS.nil ?_))
      | refine CS.ret ?_
      | refine thenQ.ret ?_
      | refine blkQ.ret ?_
      | refine retQ.ret ?_
      | refine CS.block ?_
      | refine CS.exit ?_
      | refine thenQ.exit ?_
      | refine blkQ.normal ?_
      | refine blkQ.here ?_
      | refine blkQ.past rfl ?_
      | refine retQ.normal ?_)
    rw [Nat.zero_add, List.nil_append] at hO
    exact ⟨O', hO, rfl⟩

/-! ### records -/
structure Rec where
  path : ByteArray
  index : Int
  props : List (ByteArray × ByteArray)
  tags : List ByteArray
  links : List ByteArray
  run : List ByteArray
  load : List ByteArray
  name : ByteArray
  priority : Int
  owner : ByteArray
  group : ByteArray
  mode : Int
def strs (l : List ByteArray) : List Value := l.map .string
def attrs (l : List (ByteArray × ByteArray)) : List Value := l.flatMap fun p => [.string p.1, .string p.2]
theorem strs_one (l : List ByteArray) : ∀ c ∈ strs l, c.oneCell' = true := by
  intro c hc; obtain ⟨s, _, rfl⟩ := List.mem_map.1 hc; rfl
theorem attrs_one (l : List (ByteArray × ByteArray)) : ∀ c ∈ attrs l, c.oneCell' = true := by
  intro c hc
  obtain ⟨p, _, hp⟩ := List.mem_flatMap.1 hc
  simp at hp
  rcases hp with rfl | rfl <;> rfl
/-- the sizes that an append may reach -/
def lenOk (n : Nat) : Prop := n * 32 ≤ 140737488355328
structure Rec.ok (r : Rec) : Prop where
  props : lenOk r.props.length
  tags : lenOk r.tags.length
  links : lenOk r.links.length
  run : lenOk r.run.length
  load : lenOk r.load.length
/-- twelve cells that read as a record -/
def RecV (i : Imm) (rc : List Value) (r : Rec) : Prop :=
  ∃ v2 v3 v4 v5 v6, rc = [.string r.path, .int .i64 r.index, v2, v3, v4, v5, v6, .string r.name, .int .i64 r.priority, .string r.owner, .string r.group, .int .i64 r.mode] ∧
    Sl i v2 2 r.props.length (attrs r.props) ∧ Sl i v3 1 r.tags.length (strs r.tags) ∧ Sl i v4 1 r.links.length (strs r.links) ∧ Sl i v5 1 r.run.length (strs r.run) ∧ Sl i v6 1 r.load.length (strs r.load)
theorem RecV.le {i i' : Imm} {rc : List Value} {r : Rec} (h : RecV i rc r) (hi : i.le i') : RecV i' rc r := by
  obtain ⟨v2, v3, v4, v5, v6, h1, h2, h3, h4, h5, h6⟩ := h
  exact ⟨v2, v3, v4, v5, v6, h1, h2.le hi, h3.le hi, h4.le hi, h5.le hi, h6.le hi⟩

theorem Sl.mono (sz n : Nat) (xs : List Value) : Mono fun i v => Sl i v sz n xs := fun _ _ hi _ h => h.le hi

theorem ownRecord_s (rc : List Value) (r : Rec) (i : Imm) (L : SH) (hr : RecV i rc r) (hok : r.ok) :
    FnS Try.prog 85 [.agg rc.toArray] i L fun v i' L' => ∃ rc', v = .agg (List.toArray rc') ∧ RecV i' rc' r ∧ L' = L := by
  obtain ⟨v2, v3, v4, v5, v6, rfl, h2, h3, h4, h5, h6⟩ := hr
  have e2 := h2; obtain ⟨a2, c2, rfl, _⟩ := e2
  have e3 := h3; obtain ⟨a3, c3, rfl, _⟩ := e3
  have e4 := h4; obtain ⟨a4, c4, rfl, _⟩ := e4
  have e5 := h5; obtain ⟨a5, c5, rfl, _⟩ := e5
  have e6 := h6; obtain ⟨a6, c6, rfl, _⟩ := e6
  have ok2 := hok.props; have ok3 := hok.tags; have ok4 := hok.links; have ok5 := hok.run; have ok6 := hok.load
  unfold lenOk at ok2 ok3 ok4 ok5 ok6
  refine FnS.state (K := fun v i' L' => ∃ b1 o1 b2 o2, ∃ rc', v = .agg (List.toArray rc') ∧ RecV i' rc' r ∧ L' = (b2, o2) :: (b1, o1) :: L) ?_ ?_
  rotate_left
  · rintro v i' L' w _ hs ⟨b1, o1, b2, o2, rc', hv, hr, rfl⟩
    exact ⟨i', L, Imm.le.refl i', hs.drop.drop, rc', hv, hr, rfl⟩
  refine FnS.introC tab_ok Try.func85 rfl Try.ntmps85 (by simp) Try.results85 ?_
  refine CS.seq ?_
  refine CS.region ?_
  refine RS.box rfl rfl (fun b1 => ?_)
  refine RS.alloc tab_ok rfl rfl (fun b2 => ?_)
  refine RS.nil ?_
  refine thenQ.normal ?_
  refine CS.seq ?_
  refine CS.draw0 mix [0,1,2,3,4,5,6,7,8,9] [10,11,12,13,14] (by kernel_rfl) rfl ?_
  refine GS.pv (PV.all tab_ok rfl) rfl rfl rfl rfl rfl rfl ?_
  refine GS.lv (fun _ _ => LV.load tab_ok rfl (Has.own 1 rfl) rfl) rfl rfl rfl rfl rfl rfl ?_
  refine GS.fact0 _ (Sl.mono 2 r.props.length (attrs r.props)) rfl rfl rfl rfl rfl rfl (fun i' hi => OpS.call (by kernel_rfl) rfl (Clone2_s _ _ _ _ _ (h2.le hi) (attrs_one _) ok2) (fun _ _ _ _ ⟨x, y⟩ => ⟨y, x⟩)) ?_
  refine GS.pv (PV.all tab_ok rfl) rfl rfl rfl rfl rfl rfl ?_
  refine GS.lv (fun _ _ => LV.load tab_ok rfl (Has.own 1 rfl) rfl) rfl rfl rfl rfl rfl rfl ?_
  refine GS.fact0 _ (Sl.mono 1 r.tags.length (strs r.tags)) rfl rfl rfl rfl rfl rfl (fun i' hi => OpS.call (by kernel_rfl) rfl (Clone1_s _ _ _ _ _ (h3.le hi) (strs_one _) (by omega)) (fun _ _ _ _ ⟨x, y⟩ => ⟨y, x⟩)) ?_
  refine GS.pv (PV.all tab_ok rfl) rfl rfl rfl rfl rfl rfl ?_
  refine GS.lv (fun _ _ => LV.load tab_ok rfl (Has.own 1 rfl) rfl) rfl rfl rfl rfl rfl rfl ?_
  refine GS.fact0 _ (Sl.mono 1 r.links.length (strs r.links)) rfl rfl rfl rfl rfl rfl (fun i' hi => OpS.call (by kernel_rfl) rfl (Clone1_s _ _ _ _ _ (h4.le hi) (strs_one _) (by omega)) (fun _ _ _ _ ⟨x, y⟩ => ⟨y, x⟩)) ?_
  refine GS.pv (PV.all tab_ok rfl) rfl rfl rfl rfl rfl rfl ?_
  refine GS.done rfl rfl (fun i2 hi2 => ?_)
  intro w4 g4 w3 g3 w2 g2
  have f4 := g4; obtain ⟨x4, y4, rfl, _⟩ := f4
  have f3 := g3; obtain ⟨x3, y3, rfl, _⟩ := f3
  have f2 := g2; obtain ⟨x2, y2, rfl, _⟩ := f2
  refine RS.store (k := 1) tab_ok rfl rfl rfl rfl rfl rfl rfl rfl ?_
  refine RS.pv (PV.all tab_ok rfl) rfl ?_
  refine RS.store (k := 1) tab_ok rfl rfl rfl rfl rfl rfl rfl rfl ?_
  refine RS.pv (PV.all tab_ok rfl) rfl ?_
  refine RS.store (k := 1) tab_ok rfl rfl rfl rfl rfl rfl rfl rfl ?_
  refine RS.nil ?_
  refine thenQ.normal ?_
  refine CS.seq ?_
  refine CS.draw0 mix [0,1,2,3,4,5,6] [7,8,9] (by kernel_rfl) rfl ?_
  refine GS.pv (PV.all tab_ok rfl) rfl rfl rfl rfl rfl rfl ?_
  refine GS.lv (fun _ _ => LV.load tab_ok rfl (Has.own 1 rfl) rfl) rfl rfl rfl rfl rfl rfl ?_
  refine GS.fact0 _ (Sl.mono 1 r.run.length (strs r.run)) rfl rfl rfl rfl rfl rfl (fun i' hi => OpS.call (by kernel_rfl) rfl (Clone1_s _ _ _ _ _ (h5.le (hi2.trans hi)) (strs_one _) (by omega)) (fun _ _ _ _ ⟨x, y⟩ => ⟨y, x⟩)) ?_
  refine GS.pv (PV.all tab_ok rfl) rfl rfl rfl rfl rfl rfl ?_
  refine GS.lv (fun _ _ => LV.load tab_ok rfl (Has.own 1 rfl) rfl) rfl rfl rfl rfl rfl rfl ?_
  refine GS.fact0 _ (Sl.mono 1 r.load.length (strs r.load)) rfl rfl rfl rfl rfl rfl (fun i' hi => OpS.call (by kernel_rfl) rfl (Clone1_s _ _ _ _ _ (h6.le (hi2.trans hi)) (strs_one _) (by omega)) (fun _ _ _ _ ⟨x, y⟩ => ⟨y, x⟩)) ?_
  refine GS.pv (PV.all tab_ok rfl) rfl rfl rfl rfl rfl rfl ?_
  refine GS.done rfl rfl (fun i3 hi3 => ?_)
  intro w6 g6 w5 g5
  have f6 := g6; obtain ⟨x6, y6, rfl, _⟩ := f6
  have f5 := g5; obtain ⟨x5, y5, rfl, _⟩ := f5
  refine RS.store (k := 1) tab_ok rfl rfl rfl rfl rfl rfl rfl rfl ?_
  refine RS.pv (PV.all tab_ok rfl) rfl ?_
  refine RS.store (k := 1) tab_ok rfl rfl rfl rfl rfl rfl rfl rfl ?_
  refine RS.nil ?_
  repeat' (first
    | refine CS.seq ?_
    | refine thenQ.normal ?_
    | refine CS.cond_true rfl ?_
    | refine CS.cond_false rfl ?_
    | refine CS.skip ?_
    | (refine CS.region (id := 0) ?_;
        refine RS.box rfl rfl (fun b => ?_);
        refine RS.alloc tab_ok rfl rfl (fun b => ?_);
        refine RS.nil ?_)
    | (refine CS.region (id := 3) ?_;
        (first | refine RS.lv (LV.load tab_ok rfl (Has.own 0 rfl) rfl) rfl ?_ | refine RS.lv (LV.load tab_ok rfl (Has.own 1 rfl) rfl) rfl ?_ | refine RS.lv (LV.load tab_ok rfl (Has.own 2 rfl) rfl) rfl ?_);
        (first | refine RS.store (k := 0) tab_ok rfl rfl rfl rfl rfl rfl rfl rfl ?_ | refine RS.store (k := 1) tab_ok rfl rfl rfl rfl rfl rfl rfl rfl ?_ | refine RS.store (k := 2) tab_ok rfl rfl rfl rfl rfl rfl rfl rfl ?_);
        refine RS.nil ?_)
    | refine CS.ret ?_
    | refine thenQ.ret ?_
    | refine blkQ.ret ?_
    | refine retQ.ret ?_
    | refine CS.block ?_
    | refine CS.exit ?_
    | refine thenQ.exit ?_
    | refine blkQ.normal ?_
    | refine blkQ.here ?_
    | refine blkQ.past rfl ?_
    | refine retQ.normal ?_)
  exact ⟨b2, 0, _, _, _, _, rfl, Has.own 0 rfl, rfl, b1, _, b2, _, _, rfl, ⟨_, _, _, _, _, rfl, g2.le hi3, g3.le hi3, g4.le hi3, g5, g6⟩, rfl⟩
theorem RecV.lit {i : Imm} {rc : List Value} {r : Rec} (h : RecV i rc r) : ∃ a2 c2 a3 c3 a4 c4 a5 c5 a6 c6, rc = [.string r.path, .int .i64 r.index, .slice a2 r.props.length c2, .slice a3 r.tags.length c3, .slice a4 r.links.length c4, .slice a5 r.run.length c5, .slice a6 r.load.length c6, .string r.name, .int .i64 r.priority, .string r.owner, .string r.group, .int .i64 r.mode] := by
  obtain ⟨v2, v3, v4, v5, v6, rfl, ⟨a2, c2, rfl, _⟩, ⟨a3, c3, rfl, _⟩, ⟨a4, c4, rfl, _⟩, ⟨a5, c5, rfl, _⟩, ⟨a6, c6, rfl, _⟩⟩ := h
  exact ⟨_, _, _, _, _, _, _, _, _, _, rfl⟩
theorem split_at {α : Type} : ∀ {l : List α} {j : Nat} {x : α}, l[j]? = some x → ∃ A B, l = A ++ x :: B ∧ A.length = j ∧ ∀ y, l.set j y = A ++ y :: B
  | [], _, _, h => by cases h
  | a :: l, 0, x, h => by
    cases h
    exact ⟨[], l, rfl, rfl, fun _ => rfl⟩
  | a :: l, j + 1, x, h => by
    obtain ⟨A, B, h1, h2, h3⟩ := split_at (l := l) (j := j) (by simpa using h)
    exact ⟨a :: A, B, by rw [h1]; rfl, by simp [h2], fun y => by simp [h3]⟩
theorem perm_of_sum {α : Type} : ∀ (l1 l2 : List α), (∀ f : α → Nat, (l1.map f).sum = (l2.map f).sum) → l1.Perm l2
  | [], l2, h => by
    cases l2 with
    | nil => exact .nil
    | cons a l => have := h (fun _ => 1); simp at this; omega
  | a :: l, l2, h => by
    classical
    have hm : a ∈ l2 := by
      apply Decidable.byContradiction
      intro hn
      have h1 := h (fun x => if x = a then 1 else 0)
      have h2 : (l2.map (fun x => if x = a then 1 else 0)).sum = 0 := by
        rw [List.sum_eq_zero_iff_forall_eq_nat]
        intro x hx
        obtain ⟨y, hy, rfl⟩ := List.mem_map.1 hx
        have hya : y ≠ a := fun e => hn (e ▸ hy)
        simp [hya]
      rw [h2] at h1
      simp at h1
    obtain ⟨A, B, rfl⟩ := List.append_of_mem hm
    refine (List.Perm.cons a (perm_of_sum l (A ++ B) fun f => ?_)).trans List.perm_middle.symm
    have := h f
    simp at this ⊢
    omega
theorem SlO.shape {e : TypeId} {v : Value} {sz n : Nat} {xs : List Value} {O : SH} (h : SlO e v sz n xs O) : ∃ ao cap, v = .slice ao n cap := by
  obtain ⟨_, ⟨rfl, rfl, _⟩ | ⟨g, cap, sp, rfl, _⟩⟩ := h
  · exact ⟨_, _, rfl⟩
  · exact ⟨_, _, rfl⟩
end Go.Proofs.Ytmcajldlcomegaa
