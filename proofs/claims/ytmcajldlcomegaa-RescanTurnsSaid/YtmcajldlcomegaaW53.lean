/- RescanCompares, part 8: worlds, and rescan.Compare. -/
import Derived.Test.YtmcajldlcomegaaW51
import Derived.Test.YtmcajldlcomegaaW52
namespace Go.Proofs.Ytmcajldlcomegaa
open Go Go.Eng

/-! ### rows of plain structs: a cell is a text or a number -/
def isCell (b : Bool) (v : Value) : Prop := if b then ∃ s, v = .string s else ∃ n, v = .int .i64 n
def shp : List Bool → List Value → Prop
  | [], [] => True
  | b :: bs, v :: vs => isCell b v ∧ shp bs vs
  | _, _ => False
theorem shp_len : ∀ {ks : List Bool} {c : List Value}, shp ks c → c.length = ks.length
  | [], [], _ => rfl
  | [], _ :: _, h => h.elim
  | _ :: _, [], h => h.elim
  | b :: bs, v :: vs, h => by rw [List.length_cons, List.length_cons, shp_len h.2]
theorem shp_one : ∀ {ks : List Bool} {c : List Value}, shp ks c → ∀ v ∈ c, v.oneCell' = true
  | [], [], _, v, hv => by cases hv
  | [], _ :: _, h, _, _ => h.elim
  | _ :: _, [], h, _, _ => h.elim
  | b :: bs, x :: xs, h, v, hv => by
    rcases List.mem_cons.1 hv with rfl | hv
    · have h1 := h.1
      unfold isCell at h1
      split at h1
      · obtain ⟨s, rfl⟩ := h1; rfl
      · obtain ⟨s, rfl⟩ := h1; rfl
    · exact shp_one h.2 v hv
/-- the name: the first cell -/
def nm0 : List Value → ByteArray
  | .string s :: _ => s
  | _ => ByteArray.empty
theorem shp_name {ks : List Bool} {c : List Value} (h : shp (true :: ks) c) : nmAt c (nm0 c) := by
  cases c with
  | nil => exact h.elim
  | cons v vs =>
    obtain ⟨s, rfl⟩ : ∃ s, v = .string s := h.1
    rfl
theorem allEq_refl : ∀ {ks : List Bool} {c : List Value}, shp ks c → allEq c c = true
  | [], [], _ => rfl
  | [], _ :: _, h => h.elim
  | _ :: _, [], h => h.elim
  | b :: bs, v :: vs, h => by
    have h1 := h.1
    unfold isCell at h1
    simp only [allEq, allEq_refl h.2, Bool.and_true]
    split at h1
    · obtain ⟨s, rfl⟩ := h1; simp [scEq]
    · obtain ⟨s, rfl⟩ := h1; simp [scEq]
theorem allEq_comm : ∀ {ks : List Bool} {c d : List Value}, shp ks c → shp ks d → allEq c d = allEq d c
  | [], [], [], _, _ => rfl
  | [], _ :: _, _, h, _ => h.elim
  | [], [], _ :: _, _, h => h.elim
  | _ :: _, [], _, h, _ => h.elim
  | _ :: _, _ :: _, [], _, h => h.elim
  | b :: bs, v :: vs, u :: us, h, k => by
    have h1 := h.1
    have k1 := k.1
    unfold isCell at h1 k1
    simp only [allEq, allEq_comm h.2 k.2]
    congr 1
    split at h1
    · rename_i hb
      rw [if_pos hb] at k1
      obtain ⟨s, rfl⟩ := h1
      obtain ⟨t, rfl⟩ := k1
      simp only [scEq]
      by_cases e : s = t
      · subst e; rfl
      · rw [decide_eq_false e, decide_eq_false fun x => e x.symm]
    · rename_i hb
      rw [if_neg hb] at k1
      obtain ⟨s, rfl⟩ := h1
      obtain ⟨t, rfl⟩ := k1
      simp only [scEq]
      by_cases e : s = t
      · subst e; rfl
      · rw [decide_eq_false e, decide_eq_false fun x => e x.symm]
abbrev kNode : List Bool := [true, false, false, true, true, false, true]
abbrev kLink : List Bool := [true, true, true]
abbrev kAttr : List Bool := [true, true]
theorem shp2 {c : List Value} (h : shp kAttr c) : ∃ a b, c = [.string a, .string b] := by
  match c, h with
  | [_, _], ⟨⟨a, rfl⟩, ⟨b, rfl⟩, _⟩ => exact ⟨a, b, rfl⟩
theorem shp3 {c : List Value} (h : shp kLink c) : ∃ a b d, c = [.string a, .string b, .string d] := by
  match c, h with
  | [_, _, _], ⟨⟨a, rfl⟩, ⟨b, rfl⟩, ⟨d, rfl⟩, _⟩ => exact ⟨a, b, d, rfl⟩
theorem shp7 {c : List Value} (h : shp kNode c) : ∃ a b d e f g k, c = [.string a, .int .i64 b, .int .i64 d, .string e, .string f, .int .i64 g, .string k] := by
  match c, h with
  | [_, _, _, _, _, _, _], ⟨⟨a, rfl⟩, ⟨b, rfl⟩, ⟨d, rfl⟩, ⟨e, rfl⟩, ⟨f, rfl⟩, ⟨g, rfl⟩, ⟨k, rfl⟩, _⟩ => exact ⟨a, b, d, e, f, g, k, rfl⟩
theorem stOk109 {c d : List Value} (h : shp kNode c) (k : shp kNode d) : stOk tab 109 c d = true := by
  obtain ⟨_, _, _, _, _, _, _, rfl⟩ := shp7 h
  obtain ⟨_, _, _, _, _, _, _, rfl⟩ := shp7 k
  rfl
theorem stOk124 {c d : List Value} (h : shp kLink c) (k : shp kLink d) : stOk tab 124 c d = true := by
  obtain ⟨_, _, _, rfl⟩ := shp3 h
  obtain ⟨_, _, _, rfl⟩ := shp3 k
  rfl
theorem stOk103 {c d : List Value} (h : shp kAttr c) (k : shp kAttr d) : stOk tab 103 c d = true := by
  obtain ⟨_, _, rfl⟩ := shp2 h
  obtain ⟨_, _, rfl⟩ := shp2 k
  rfl
theorem equal_68 (c d : List Value) (i : Imm) (L : SH) (hc : shp kNode c) (hd : shp kNode d) : FnS Try.prog 68 [.agg c.toArray, .agg d.toArray] i L fun v _ L' => v = .bool (allEq c d) ∧ L' = L := by
  refine FnS.state (K := fun v _ L' => ∃ M, v = .bool (allEq c d) ∧ L' = M ++ L) ?_ ?_
  rotate_left
  · rintro v i' L' w _ hs ⟨M, hv, rfl⟩
    exact ⟨i', _, Imm.le.refl i', hs.dropL, hv, rfl⟩
  have hst := stOk109 hc hd
  have h1 := shp_len hc
  have h2 := shp_len hd
  refine FnS.intro1 Try.func68 rfl Try.ntmps68 (by simp) Try.results68 ?_
  repeat' (first
    | refine CS.seq ?_
    | refine thenQ.normal ?_
    | refine CS.cond_true rfl ?_
    | refine CS.cond_false rfl ?_
    | refine CS.skip ?_
    | (refine CS.region (id := 0) ?_;
        refine RS.box rfl rfl (fun b => ?_);
        refine RS.box rfl rfl (fun b => ?_);
        refine RS.pv (PV.all tab_ok rfl) rfl ?_;
        refine RS.nil ?_)
    | (refine CS.region (id := 1) ?_;
        refine RS.lv (LV.loadL tab_ok rfl (Has.own 1 rfl) (l := c) rfl rfl h1 (fun j u hu => by rw [Nat.zero_add]; exact hu)) rfl ?_;
        (all_goals refine RS.lv (LV.loadL tab_ok rfl (Has.own 0 rfl) (l := d) rfl rfl h2 (fun j u hu => by rw [Nat.zero_add]; exact hu)) rfl ?_);
        (all_goals refine RS.pv (PV.steql tab_ok (by kernel_rfl) (by kernel_rfl) rfl rfl hst) rfl ?_);
        (all_goals refine RS.pv (PV.all tab_ok rfl) rfl ?_);
        (all_goals refine RS.nil ?_))
    | refine CS.ret ?_
    | refine thenQ.ret ?_
    | refine blkQ.ret ?_
    | refine retQ.ret ?_
    | refine CS.block ?_
    | refine CS.exit ?_
    | refine thenQ.exit ?_
    | refine blkQ.normal ?_
    | refine blkQ.here ?_
    | refine blkQ.past rfl ?_
    | refine retQ.normal ?_)
  exact ⟨[_, _], rfl, rfl⟩
theorem equal_71 (c d : List Value) (i : Imm) (L : SH) (hc : shp kLink c) (hd : shp kLink d) : FnS Try.prog 71 [.agg c.toArray, .agg d.toArray] i L fun v _ L' => v = .bool (allEq c d) ∧ L' = L := by
  refine FnS.state (K := fun v _ L' => ∃ M, v = .bool (allEq c d) ∧ L' = M ++ L) ?_ ?_
  rotate_left
  · rintro v i' L' w _ hs ⟨M, hv, rfl⟩
    exact ⟨i', _, Imm.le.refl i', hs.dropL, hv, rfl⟩
  have hst := stOk124 hc hd
  have h1 := shp_len hc
  have h2 := shp_len hd
  refine FnS.intro1 Try.func71 rfl Try.ntmps71 (by simp) Try.results71 ?_
  repeat' (first
    | refine CS.seq ?_
    | refine thenQ.normal ?_
    | refine CS.cond_true rfl ?_
    | refine CS.cond_false rfl ?_
    | refine CS.skip ?_
    | (refine CS.region (id := 0) ?_;
        refine RS.box rfl rfl (fun b => ?_);
        refine RS.box rfl rfl (fun b => ?_);
        refine RS.pv (PV.all tab_ok rfl) rfl ?_;
        refine RS.nil ?_)
    | (refine CS.region (id := 1) ?_;
        refine RS.lv (LV.loadL tab_ok rfl (Has.own 1 rfl) (l := c) rfl rfl h1 (fun j u hu => by rw [Nat.zero_add]; exact hu)) rfl ?_;
        (all_goals refine RS.lv (LV.loadL tab_ok rfl (Has.own 0 rfl) (l := d) rfl rfl h2 (fun j u hu => by rw [Nat.zero_add]; exact hu)) rfl ?_);
        (all_goals refine RS.pv (PV.steql tab_ok (by kernel_rfl) (by kernel_rfl) rfl rfl hst) rfl ?_);
        (all_goals refine RS.pv (PV.all tab_ok rfl) rfl ?_);
        (all_goals refine RS.nil ?_))
    | refine CS.ret ?_
    | refine thenQ.ret ?_
    | refine blkQ.ret ?_
    | refine retQ.ret ?_
    | refine CS.block ?_
    | refine CS.exit ?_
    | refine thenQ.exit ?_
    | refine blkQ.normal ?_
    | refine blkQ.here ?_
    | refine blkQ.past rfl ?_
    | refine retQ.normal ?_)
  exact ⟨[_, _], rfl, rfl⟩
theorem equal_74 (c d : List Value) (i : Imm) (L : SH) (hc : shp kAttr c) (hd : shp kAttr d) : FnS Try.prog 74 [.agg c.toArray, .agg d.toArray] i L fun v _ L' => v = .bool (allEq c d) ∧ L' = L := by
  refine FnS.state (K := fun v _ L' => ∃ M, v = .bool (allEq c d) ∧ L' = M ++ L) ?_ ?_
  rotate_left
  · rintro v i' L' w _ hs ⟨M, hv, rfl⟩
    exact ⟨i', _, Imm.le.refl i', hs.dropL, hv, rfl⟩
  have hst := stOk103 hc hd
  have h1 := shp_len hc
  have h2 := shp_len hd
  refine FnS.intro1 Try.func74 rfl Try.ntmps74 (by simp) Try.results74 ?_
  repeat' (first
    | refine CS.seq ?_
    | refine thenQ.normal ?_
    | refine CS.cond_true rfl ?_
    | refine CS.cond_false rfl ?_
    | refine CS.skip ?_
    | (refine CS.region (id := 0) ?_;
        refine RS.box rfl rfl (fun b => ?_);
        refine RS.box rfl rfl (fun b => ?_);
        refine RS.pv (PV.all tab_ok rfl) rfl ?_;
        refine RS.nil ?_)
    | (refine CS.region (id := 1) ?_;
        refine RS.lv (LV.loadL tab_ok rfl (Has.own 1 rfl) (l := c) rfl rfl h1 (fun j u hu => by rw [Nat.zero_add]; exact hu)) rfl ?_;
        (all_goals refine RS.lv (LV.loadL tab_ok rfl (Has.own 0 rfl) (l := d) rfl rfl h2 (fun j u hu => by rw [Nat.zero_add]; exact hu)) rfl ?_);
        (all_goals refine RS.pv (PV.steql tab_ok (by kernel_rfl) (by kernel_rfl) rfl rfl hst) rfl ?_);
        (all_goals refine RS.pv (PV.all tab_ok rfl) rfl ?_);
        (all_goals refine RS.nil ?_))
    | refine CS.ret ?_
    | refine thenQ.ret ?_
    | refine blkQ.ret ?_
    | refine retQ.ret ?_
    | refine CS.block ?_
    | refine CS.exit ?_
    | refine thenQ.exit ?_
    | refine blkQ.normal ?_
    | refine blkQ.here ?_
    | refine blkQ.past rfl ?_
    | refine retQ.normal ?_)
  exact ⟨[_, _], rfl, rfl⟩
theorem equal_77 (c d : ByteArray) (i : Imm) (L : SH) : FnS Try.prog 77 [.string c, .string d] i L fun v _ L' => v = .bool (decide (c = d)) ∧ L' = L := by
  refine FnS.intro1 Try.func77 rfl Try.ntmps77 (by simp) Try.results77 ?_
  repeat' (first
    | refine CS.seq ?_
    | refine thenQ.normal ?_
    | refine CS.cond_true rfl ?_
    | refine CS.cond_false rfl ?_
    | refine CS.skip ?_
    | (refine CS.region (id := 0) ?_;
        refine RS.pv (PV.all tab_ok rfl) rfl ?_;
        refine RS.nil ?_)
    | (refine CS.region (id := 1) ?_;
        refine RS.pv (PV.all tab_ok rfl) rfl ?_;
        refine RS.pv (PV.all tab_ok rfl) rfl ?_;
        refine RS.pv (PV.seql rfl rfl) rfl ?_;
        (all_goals refine RS.pv (PV.all tab_ok rfl) rfl ?_);
        (all_goals refine RS.nil ?_))
    | refine CS.ret ?_
    | refine thenQ.ret ?_
    | refine blkQ.ret ?_
    | refine retQ.ret ?_
    | refine CS.block ?_
    | refine CS.exit ?_
    | refine thenQ.exit ?_
    | refine blkQ.normal ?_
    | refine blkQ.here ?_
    | refine blkQ.past rfl ?_
    | refine retQ.normal ?_)
  exact ⟨rfl, rfl⟩

/-! ### worlds -/
structure WorldD where
  recs : List (List Value × Rec)
  nodes : List (List Value)
  links : List (List Value)
  names : List (List Value)
  mods : List ByteArray
def rnm (p : List Value × Rec) : ByteArray := p.2.path
open Classical in
noncomputable def rsm (p q : List Value × Rec) : Bool := decide (p.2 = q.2)
/-- the cells of a world -/
def WorldV (i : Imm) (wc : List Value) (W : WorldD) : Prop :=
  ∃ v0 v1 v2 v3 v4, wc = [v0, v1, v2, v3, v4] ∧ Sl i v0 12 W.recs.length (rowC Prod.fst W.recs) ∧ Sl i v1 7 W.nodes.length (rowC id W.nodes) ∧ Sl i v2 3 W.links.length (rowC id W.links) ∧ Sl i v3 2 W.names.length (rowC id W.names) ∧ Sl i v4 1 W.mods.length (strs W.mods) ∧
    ∀ p ∈ W.recs, RecV i p.1 p.2
theorem WorldV.le {i i' : Imm} {wc : List Value} {W : WorldD} (h : WorldV i wc W) (hi : i.le i') : WorldV i' wc W := by
  obtain ⟨v0, v1, v2, v3, v4, e, h0, h1, h2, h3, h4, h5⟩ := h
  exact ⟨v0, v1, v2, v3, v4, e, h0.le hi, h1.le hi, h2.le hi, h3.le hi, h4.le hi, fun p hp => (h5 p hp).le hi⟩
/-- sane worlds -/
structure WorldD.ok (W : WorldD) : Prop where
  recs : ∀ p ∈ W.recs, p.2.small ∧ p.2.path.size ≤ maxLen
  nodes : ∀ c ∈ W.nodes, shp kNode c ∧ (nm0 c).size ≤ maxLen
  links : ∀ c ∈ W.links, shp kLink c ∧ (nm0 c).size ≤ maxLen
  names : ∀ c ∈ W.names, shp kAttr c ∧ (nm0 c).size ≤ maxLen
  mods : ∀ s ∈ W.mods, s.size ≤ maxLen
structure WorldD.few (W : WorldD) : Prop where
  recs : W.recs.length ≤ 1000000
  nodes : W.nodes.length ≤ 1000000
  links : W.links.length ≤ 1000000
  names : W.names.length ≤ 1000000
  mods : W.mods.length ≤ 1000000
theorem els_shp {ks : List Bool} {l : List (List Value)} (h : ∀ c ∈ l, shp (true :: ks) c ∧ (nm0 c).size ≤ maxLen) : ElsOk id nm0 (ks.length + 1) l :=
  ⟨fun c hc => shp_len (h c hc).1, fun c hc => shp_one (h c hc).1, fun c hc => shp_name (h c hc).1, fun c hc => (h c hc).2⟩
theorem sl_one (i : Imm) (s : Value) (sz n : Nat) (xs : List Value) (h : Sl i s sz n xs) : s.oneCell' = true := by
  obtain ⟨_, _, rfl, _⟩ := h; rfl
theorem els_recs {i : Imm} {l : List (List Value × Rec)} (h : ∀ p ∈ l, RecV i p.1 p.2) (k : ∀ p ∈ l, p.2.small ∧ p.2.path.size ≤ maxLen) : ElsOk Prod.fst rnm 12 l := by
  refine ⟨fun p hp => ?_, fun p hp => ?_, fun p hp => ?_, fun p hp => (k p hp).2⟩
  · obtain ⟨v2, v3, v4, v5, v6, e, _⟩ := h p hp; rw [e]; rfl
  · obtain ⟨v2, v3, v4, v5, v6, e, h2, h3, h4, h5, h6⟩ := h p hp
    rw [e]
    intro c hc
    simp only [List.mem_cons, List.not_mem_nil, or_false] at hc
    rcases hc with rfl | rfl | rfl | rfl | rfl | rfl | rfl | rfl | rfl | rfl | rfl | rfl <;> first | rfl | exact sl_one _ _ _ _ _ h2 | exact sl_one _ _ _ _ _ h3 | exact sl_one _ _ _ _ _ h4 | exact sl_one _ _ _ _ _ h5 | exact sl_one _ _ _ _ _ h6
  · obtain ⟨v2, v3, v4, v5, v6, e, _⟩ := h p hp
    unfold nmAt
    rw [e]; rfl
/-- the differences of two worlds -/
def WDiff (A B : WorldD) (l : List Diff) : Prop :=
  ∃ l1 l2 l3 l4 l5, DiffOf 1 rnm rsm A.recs B.recs l1 ∧ DiffOf 2 nm0 allEq A.nodes B.nodes l2 ∧ DiffOf 3 nm0 allEq A.links B.links l3 ∧ DiffOf 4 nm0 allEq A.names B.names l4 ∧ DiffOf 5 id (fun x y => decide (x = y)) A.mods B.mods l5 ∧ l = l1 ++ (l2 ++ (l3 ++ (l4 ++ l5)))
theorem WDiff.unique {A B : WorldD} {l l' : List Diff} (h : WDiff A B l) (k : WDiff A B l') : l = l' := by
  obtain ⟨a1, a2, a3, a4, a5, h1, h2, h3, h4, h5, rfl⟩ := h
  obtain ⟨b1, b2, b3, b4, b5, k1, k2, k3, k4, k5, rfl⟩ := k
  rw [h1.unique k1, h2.unique k2, h3.unique k3, h4.unique k4, h5.unique k5]
theorem WDiff.self {A : WorldD} {l : List Diff} (h : WDiff A A l) (hok : A.ok) : l = [] := by
  obtain ⟨a1, a2, a3, a4, a5, h1, h2, h3, h4, h5, rfl⟩ := h
  rw [h1.exists _ _ _ _ _ fun x _ => by unfold rsm; simp, h2.exists _ _ _ _ _ fun x hx => allEq_refl (hok.nodes x hx).1, h3.exists _ _ _ _ _ fun x hx => allEq_refl (hok.links x hx).1, h4.exists _ _ _ _ _ fun x hx => allEq_refl (hok.names x hx).1, h5.exists _ _ _ _ _ fun x _ => decide_eq_true rfl]
  rfl
end Go.Proofs.Ytmcajldlcomegaa
