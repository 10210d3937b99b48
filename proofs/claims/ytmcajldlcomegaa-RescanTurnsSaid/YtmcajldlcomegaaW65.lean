/- RescanTurns, part 3: the law of the turned list; the walk. -/
import Derived.Test.YtmcajldlcomegaaW64
namespace Go.Proofs.Ytmcajldlcomegaa
open Go Go.Eng

/-! ### the turned list -/
def turnHow (h : Int) : Int := if h = 3 then 3 else 3 - h
def Diff.turn (d : Diff) : Diff := ⟨d.of_, turnHow d.how, d.name⟩
theorem filterMap_congr_ {α β : Type} {f g : α → Option β} : ∀ (l : List α), (∀ a ∈ l, f a = g a) → l.filterMap f = l.filterMap g
  | [], _ => rfl
  | a :: l, h => by rw [List.filterMap_cons, List.filterMap_cons, h a (List.mem_cons_self ..), filterMap_congr_ l fun x hx => h x (List.mem_cons_of_mem _ hx)]
theorem diffAt_turn {E : Type} {of_ : Int} {nm : E → ByteArray} {sm : E → E → Bool} {A B : List E} (hs : ∀ x ∈ A, ∀ y ∈ B, sm x y = sm y x) {a : ByteArray} (ha : a ∈ A.map nm ∨ a ∈ B.map nm) :
    diffAt of_ nm sm B A a = (diffAt of_ nm sm A B a).map Diff.turn := by
  cases hA : firstE nm A a with
  | none =>
    have hB : ∃ y, firstE nm B a = some y := by
      cases hB : firstE nm B a with
      | some y => exact ⟨y, rfl⟩
      | none => exact absurd ha fun h => h.elim (firstE_none.1 hA) (firstE_none.1 hB)
    obtain ⟨y, hB⟩ := hB
    rw [diffAt_l hA, diffAt_m hB hA]; rfl
  | some x =>
    cases hB : firstE nm B a with
    | none => rw [diffAt_m hA hB, diffAt_l hB]; rfl
    | some y =>
      have h := hs x (firstE_mem hA).1 y (firstE_mem hB).1
      cases hx : sm x y with
      | true => rw [diffAt_s hA hB hx, diffAt_s hB hA (by rw [← h]; exact hx)]; rfl
      | false => rw [diffAt_o hA hB hx, diffAt_o hB hA (by rw [← h]; exact hx)]; rfl
theorem DiffOf.turn {E : Type} {of_ : Int} {nm : E → ByteArray} {sm : E → E → Bool} {A B : List E} {l : List Diff} (h : DiffOf of_ nm sm A B l) (hs : ∀ x ∈ A, ∀ y ∈ B, sm x y = sm y x) : DiffOf of_ nm sm B A (l.map Diff.turn) := by
  obtain ⟨names, h1, h2, rfl⟩ := h
  refine ⟨names, h1, fun a => (h2 a).trans Or.comm, ?_⟩
  rw [List.map_filterMap]
  refine filterMap_congr_ _ fun a ha => ?_
  exact (diffAt_turn hs ((h2 a).1 ha)).symm
theorem WDiff.turn {A B : WorldD} {l : List Diff} (h : WDiff A B l) (oA : A.ok) (oB : B.ok) : WDiff B A (l.map Diff.turn) := by
  obtain ⟨l1, l2, l3, l4, l5, h1, h2, h3, h4, h5, rfl⟩ := h
  refine ⟨_, _, _, _, _, h1.turn fun x _ y _ => ?_, h2.turn fun x hx y hy => allEq_comm (oA.nodes x hx).1 (oB.nodes y hy).1, h3.turn fun x hx y hy => allEq_comm (oA.links x hx).1 (oB.links y hy).1, h4.turn fun x hx y hy => allEq_comm (oA.names x hx).1 (oB.names y hy).1, h5.turn fun x _ y _ => ?_, by simp⟩
  · unfold rsm
    exact decide_eq_decide.2 eq_comm
  · exact decide_eq_decide.2 eq_comm
theorem diffAt_how {E : Type} {of_ : Int} {nm : E → ByteArray} {sm : E → E → Bool} {A B : List E} {a : ByteArray} {d : Diff} (h : diffAt of_ nm sm A B a = some d) : 1 ≤ d.how ∧ d.how ≤ 3 := by
  unfold diffAt at h
  split at h
  · cases h; exact ⟨by show (1 : Int) ≤ 1; omega, by show (1 : Int) ≤ 3; omega⟩
  · cases h; exact ⟨by show (1 : Int) ≤ 2; omega, by show (2 : Int) ≤ 3; omega⟩
  · split at h
    · cases h
    · cases h; exact ⟨by show (1 : Int) ≤ 3; omega, by show (3 : Int) ≤ 3; omega⟩
theorem DiffOf.how {E : Type} {of_ : Int} {nm : E → ByteArray} {sm : E → E → Bool} {A B : List E} {l : List Diff} (h : DiffOf of_ nm sm A B l) : ∀ d ∈ l, 1 ≤ d.how ∧ d.how ≤ 3 := by
  obtain ⟨names, _, _, rfl⟩ := h
  intro d hd
  obtain ⟨a, _, ha⟩ := List.mem_filterMap.1 hd
  exact diffAt_how ha
theorem WDiff.how {A B : WorldD} {l : List Diff} (h : WDiff A B l) : ∀ d ∈ l, 1 ≤ d.how ∧ d.how ≤ 3 := by
  obtain ⟨l1, l2, l3, l4, l5, h1, h2, h3, h4, h5, rfl⟩ := h
  intro d hd
  simp only [List.mem_append] at hd
  rcases hd with hd | hd | hd | hd | hd
  · exact h1.how d hd
  · exact h2.how d hd
  · exact h3.how d hd
  · exact h4.how d hd
  · exact h5.how d hd

/-! ### the walk -/
theorem Records_s (tp k : Nat) (lv : Value) (at_ : Int) (i : Imm) (L : SH) (hl : IntSl i lv) (ha : 0 ≤ at_ ∧ at_ ≤ 1000000) (hk : L[k]? = some (tp, tapeO lv at_)) :
    FnS Try.prog 42 [.pointer (some ⟨tp, 0, none⟩), .int .i64 5] i L fun v i' L' => ∃ (es : List (List Value × Rec)) (at' : Int), Sl i' v 12 es.length (rowC Prod.fst es) ∧ RecsV i' es ∧ es.length ≤ 5 ∧ at_ ≤ at' ∧ at' ≤ at_ + 300 ∧ L' = L.set k (tp, tapeO lv at') := by
  refine (FnS.tapeK (φ := fun v i' o' => ∃ (es : List (List Value × Rec)) (at' : Int), Sl i' v 12 es.length (rowC Prod.fst es) ∧ RecsV i' es ∧ es.length ≤ 5 ∧ at_ ≤ at' ∧ at' ≤ at_ + 300 ∧ o' = tapeO lv at') hk fun R => ?_).mono fun v i' L' _ ⟨o', ⟨es, at', h1, h2, h3, h4, h5, h6⟩, h7⟩ => ⟨es, at', h1, h2, h3, h4, h5, by rw [h7, h6]⟩
  refine FnS.state (Records0_s tp lv at_ i R hl ha) ?_
  rintro v i' L' w _ hst ⟨es, at', O, hO, hes, h1, h2, h3, rfl⟩
  obtain ⟨i2, h4, h5, h6⟩ := SlO.freeze hO (hst.perm (List.perm_middle (l₁ := O)).symm)
  exact ⟨i2, _, h4, h5, _, ⟨es, at', h6, hes.le h4, h1, h2, h3, rfl⟩, rfl⟩
theorem WorldV.withRecs {i : Imm} {v0 v1 v2 v3 v4 v : Value} {W : WorldD} (h : WorldV i [v0, v1, v2, v3, v4] W) {es : List (List Value × Rec)} (hs : Sl i v 12 es.length (rowC Prod.fst es)) (he : RecsV i es) : WorldV i [v, v1, v2, v3, v4] { W with recs := es } := by
  obtain ⟨u0, u1, u2, u3, u4, e, h0, h1, h2, h3, h4, h5⟩ := h
  cases e
  exact ⟨_, _, _, _, _, rfl, hs, h1, h2, h3, h4, fun p hp => (he p hp).1⟩
theorem WorldD.ok.withRecs {i : Imm} {W : WorldD} (h : W.ok) {es : List (List Value × Rec)} (he : RecsV i es) : WorldD.ok { W with recs := es } := ⟨fun p hp => (he p hp).2, h.nodes, h.links, h.names, h.mods⟩
theorem WorldD.few.withRecs {W : WorldD} (h : W.few) {es : List (List Value × Rec)} (he : es.length ≤ 5) : WorldD.few { W with recs := es } := ⟨by show es.length ≤ _; omega, h.nodes, h.links, h.names, h.mods⟩
theorem RTurns_s (lv : Value) (ac bc : List Value) (A B : WorldD) (i : Imm) (L : SH) (hlv : IntSl i lv) (hA : WorldV i ac A) (oA : A.ok) (la0 : A.recs.length ≤ 10000000000000) (la4 : A.mods.length ≤ 10000000000000) (hB : WorldV i bc B) (oB : B.ok) (lb0 : B.recs.length ≤ 10000000000000) (lb4 : B.mods.length ≤ 10000000000000) :
    FnS Try.prog 13 [lv, .agg ac.toArray, .agg bc.toArray] i L fun v _ _ => v = .bool true := by
  obtain ⟨a0, c0, a1, c1, a2, c2, a3, c3, a4, c4, rfl, -⟩ := hA.lit
  obtain ⟨b0, d0, b1, d1, b2, d2, b3, d3, b4, d4, rfl, -⟩ := hB.lit
  obtain ⟨la, ln, lc, rfl, -⟩ := id hlv
  refine FnS.intro1 Try.func13 rfl Try.ntmps13 (by simp) Try.results13 ?_
  repeat' (first
    | refine CS.seq ?_
    | refine thenQ.normal ?_
    | refine CS.cond_true rfl ?_
    | refine CS.cond_false rfl ?_
    | refine CS.skip ?_
    | (refine CS.region (id := 0) ?_;
        refine RS.box rfl rfl (fun b => ?_);
        refine RS.box rfl rfl (fun b => ?_);
        refine RS.pv (PV.all tab_ok rfl) rfl ?_;
        refine RS.nil ?_)
    | (refine CS.region (id := 1) ?_;
        (first | refine RS.lv (LV.load tab_ok rfl (Has.own 0 rfl) rfl) rfl ?_ | refine RS.lv (LV.load tab_ok rfl (Has.own 1 rfl) rfl) rfl ?_ | refine RS.lv (LV.load tab_ok rfl (Has.own 2 rfl) rfl) rfl ?_ | refine RS.lv (LV.load tab_ok rfl (Has.own 3 rfl) rfl) rfl ?_ | refine RS.lv (LV.load tab_ok rfl (Has.own 4 rfl) rfl) rfl ?_);
        (refine RS.call (few_37 _ A _ _ hA oA la0 la4) rfl (by kernel_rfl) rfl ?_; rintro v i1 L1 hi1 ⟨hL1, q1, rfl, hf1⟩; subst hL1; cases q1);
        (all_goals refine RS.pv (PV.all tab_ok rfl) rfl ?_);
        (all_goals refine RS.pv (PV.all tab_ok rfl) rfl ?_);
        (all_goals (first | refine RS.lv (LV.load tab_ok rfl (Has.own 0 rfl) rfl) rfl ?_ | refine RS.lv (LV.load tab_ok rfl (Has.own 1 rfl) rfl) rfl ?_ | refine RS.lv (LV.load tab_ok rfl (Has.own 2 rfl) rfl) rfl ?_ | refine RS.lv (LV.load tab_ok rfl (Has.own 3 rfl) rfl) rfl ?_ | refine RS.lv (LV.load tab_ok rfl (Has.own 4 rfl) rfl) rfl ?_ | refine RS.skip rfl ?_));
        (all_goals (first | (refine RS.call (few_37 _ B _ _ (hB.le hi1) oB lb0 lb4) rfl (by kernel_rfl) rfl ?_; rintro v i2 L2 hi2 ⟨hL2, q2, rfl, hf2⟩; subst hL2; cases q2) | refine RS.skip rfl ?_));
        (all_goals (first | refine RS.pv (PV.all tab_ok rfl) rfl ?_ | refine RS.skip rfl ?_));
        (all_goals refine RS.pv (PV.all tab_ok rfl) rfl ?_);
        (all_goals refine RS.nil ?_))
    | (refine CS.region (id := 2) ?_;
        (refine RS.call (known_38 _ _) rfl (by kernel_rfl) rfl ?_; rintro v i3 L3 hi3 ⟨rfl, hL3⟩; subst hL3);
        (all_goals refine RS.pv (PV.all tab_ok rfl) rfl ?_);
        (all_goals refine RS.nil ?_))
    | refine CS.ret ?_
    | refine thenQ.ret ?_
    | refine blkQ.ret ?_
    | refine retQ.ret ?_
    | refine CS.block ?_
    | refine CS.exit ?_
    | refine thenQ.exit ?_
    | refine blkQ.normal ?_
    | refine blkQ.here ?_
    | refine blkQ.past rfl ?_
    | refine retQ.normal ?_)
  · rfl
  · rfl
  have fA := hf1 rfl
  have fB := hf2 rfl
  replace hA := (hA.le hi1).le hi2
  replace hB := (hB.le hi1).le hi2
  replace hlv := (hlv.le hi1).le hi2
  repeat' (first
    | refine CS.seq ?_
    | refine thenQ.normal ?_
    | refine CS.cond_true rfl ?_
    | refine CS.cond_false rfl ?_
    | refine CS.skip ?_
    | (refine CS.region (id := 0) ?_;
        refine RS.box rfl rfl (fun b => ?_);
        refine RS.box rfl rfl (fun b => ?_);
        refine RS.pv (PV.all tab_ok rfl) rfl ?_;
        refine RS.nil ?_)
    | (refine CS.region (id := 1) ?_;
        (first | refine RS.lv (LV.load tab_ok rfl (Has.own 0 rfl) rfl) rfl ?_ | refine RS.lv (LV.load tab_ok rfl (Has.own 1 rfl) rfl) rfl ?_ | refine RS.lv (LV.load tab_ok rfl (Has.own 2 rfl) rfl) rfl ?_ | refine RS.lv (LV.load tab_ok rfl (Has.own 3 rfl) rfl) rfl ?_ | refine RS.lv (LV.load tab_ok rfl (Has.own 4 rfl) rfl) rfl ?_))
    | (refine CS.region (id := 2) ?_)
    | (refine CS.region (id := 3) ?_;
        refine RS.pv (PV.all tab_ok rfl) rfl ?_;
        refine RS.pv (PV.all tab_ok rfl) rfl ?_;
        refine RS.box rfl rfl (fun tp => ?_);
        (all_goals refine RS.pv (PV.all tab_ok rfl) rfl ?_);
        (all_goals refine RS.nil ?_))
    | (refine CS.region (id := 4) ?_;
        refine RS.pv (PV.all tab_ok rfl) rfl ?_;
        (refine RS.call (Records_s _ 0 (.slice la ln lc) 0 _ _ hlv (by omega) rfl) rfl (by kernel_rfl) rfl ?_; rintro v i3 L3 hi3 ⟨es, at1, sA, eA, nA, k1, k2, rfl⟩; obtain ⟨x1, y1, rfl, -⟩ := id sA);
        (all_goals refine RS.pv (PV.all tab_ok rfl) rfl ?_);
        (all_goals (refine RS.call (Records_s _ 0 (.slice la ln lc) at1 _ _ (hlv.le hi3) (by omega) rfl) rfl (by kernel_rfl) rfl ?_; rintro v i4 L4 hi4 ⟨fs, at2, sB, eB, nB, k3, k4, rfl⟩; obtain ⟨x2, y2, rfl, -⟩ := id sB));
        (all_goals refine RS.pv (PV.all tab_ok rfl) rfl ?_);
        (all_goals (first | refine RS.store (k := 0) tab_ok rfl rfl rfl rfl rfl rfl rfl rfl ?_ | refine RS.store (k := 1) tab_ok rfl rfl rfl rfl rfl rfl rfl rfl ?_ | refine RS.store (k := 2) tab_ok rfl rfl rfl rfl rfl rfl rfl rfl ?_ | refine RS.store (k := 3) tab_ok rfl rfl rfl rfl rfl rfl rfl rfl ?_ | refine RS.store (k := 4) tab_ok rfl rfl rfl rfl rfl rfl rfl rfl ?_));
        (all_goals refine RS.pv (PV.all tab_ok rfl) rfl ?_);
        (all_goals (first | refine RS.store (k := 0) tab_ok rfl rfl rfl rfl rfl rfl rfl rfl ?_ | refine RS.store (k := 1) tab_ok rfl rfl rfl rfl rfl rfl rfl rfl ?_ | refine RS.store (k := 2) tab_ok rfl rfl rfl rfl rfl rfl rfl rfl ?_ | refine RS.store (k := 3) tab_ok rfl rfl rfl rfl rfl rfl rfl rfl ?_ | refine RS.store (k := 4) tab_ok rfl rfl rfl rfl rfl rfl rfl rfl ?_));
        (all_goals refine RS.nil ?_))
    | refine CS.ret ?_
    | refine thenQ.ret ?_
    | refine blkQ.ret ?_
    | refine retQ.ret ?_
    | refine CS.block ?_
    | refine CS.exit ?_
    | refine thenQ.exit ?_
    | refine blkQ.normal ?_
    | refine blkQ.here ?_
    | refine blkQ.past rfl ?_
    | refine retQ.normal ?_)
  replace hA := ((hA.le hi3).le hi4).withRecs (sA.le hi4) (eA.le hi4)
  replace hB := ((hB.le hi3).le hi4).withRecs sB eB
  replace oA := oA.withRecs (eA.le hi4)
  replace oB := oB.withRecs eB
  replace fA := fA.withRecs nA
  replace fB := fB.withRecs nB
  generalize ({ A with recs := es } : WorldD) = A' at hA oA fA
  generalize ({ B with recs := fs } : WorldD) = B' at hB oB fB
  refine CS.draw0 mix [0, 1, 2, 3, 4, 5] [6, 7] (by kernel_rfl) rfl ?_
  (first | refine GS.lv (fun _i _hi => LV.load tab_ok rfl (Has.own 0 rfl) rfl) rfl rfl rfl rfl rfl rfl ?_ | refine GS.lv (fun _i _hi => LV.load tab_ok rfl (Has.own 1 rfl) rfl) rfl rfl rfl rfl rfl rfl ?_ | refine GS.lv (fun _i _hi => LV.load tab_ok rfl (Has.own 2 rfl) rfl) rfl rfl rfl rfl rfl rfl ?_ | refine GS.lv (fun _i _hi => LV.load tab_ok rfl (Has.own 3 rfl) rfl) rfl rfl rfl rfl rfl rfl ?_ | refine GS.lv (fun _i _hi => LV.load tab_ok rfl (Has.own 4 rfl) rfl) rfl rfl rfl rfl rfl rfl ?_)
  (first | refine GS.lv (fun _i _hi => LV.load tab_ok rfl (Has.own 0 rfl) rfl) rfl rfl rfl rfl rfl rfl ?_ | refine GS.lv (fun _i _hi => LV.load tab_ok rfl (Has.own 1 rfl) rfl) rfl rfl rfl rfl rfl rfl ?_ | refine GS.lv (fun _i _hi => LV.load tab_ok rfl (Has.own 2 rfl) rfl) rfl rfl rfl rfl rfl rfl ?_ | refine GS.lv (fun _i _hi => LV.load tab_ok rfl (Has.own 3 rfl) rfl) rfl rfl rfl rfl rfl rfl ?_ | refine GS.lv (fun _i _hi => LV.load tab_ok rfl (Has.own 4 rfl) rfl) rfl rfl rfl rfl rfl rfl ?_)
  refine GS.fact0 (fun i v => ∃ l : List Diff, Sl i v 3 l.length (diffs l) ∧ WDiff A' B' l ∧ l.length ≤ 10000000) (fun _ _ hi _ ⟨l, h1, h2⟩ => ⟨l, h1.le hi, h2⟩) rfl rfl rfl rfl rfl rfl (fun i' hi => OpS.call (by kernel_rfl) rfl (Compare_40 _ _ A' B' i' _ (hA.le hi) (hB.le hi) oA oB fA fB) (fun _ _ _ _ h => h)) ?_
  (first | refine GS.lv (fun _i _hi => LV.load tab_ok rfl (Has.own 0 rfl) rfl) rfl rfl rfl rfl rfl rfl ?_ | refine GS.lv (fun _i _hi => LV.load tab_ok rfl (Has.own 1 rfl) rfl) rfl rfl rfl rfl rfl rfl ?_ | refine GS.lv (fun _i _hi => LV.load tab_ok rfl (Has.own 2 rfl) rfl) rfl rfl rfl rfl rfl rfl ?_ | refine GS.lv (fun _i _hi => LV.load tab_ok rfl (Has.own 3 rfl) rfl) rfl rfl rfl rfl rfl rfl ?_ | refine GS.lv (fun _i _hi => LV.load tab_ok rfl (Has.own 4 rfl) rfl) rfl rfl rfl rfl rfl rfl ?_)
  (first | refine GS.lv (fun _i _hi => LV.load tab_ok rfl (Has.own 0 rfl) rfl) rfl rfl rfl rfl rfl rfl ?_ | refine GS.lv (fun _i _hi => LV.load tab_ok rfl (Has.own 1 rfl) rfl) rfl rfl rfl rfl rfl rfl ?_ | refine GS.lv (fun _i _hi => LV.load tab_ok rfl (Has.own 2 rfl) rfl) rfl rfl rfl rfl rfl rfl ?_ | refine GS.lv (fun _i _hi => LV.load tab_ok rfl (Has.own 3 rfl) rfl) rfl rfl rfl rfl rfl rfl ?_ | refine GS.lv (fun _i _hi => LV.load tab_ok rfl (Has.own 4 rfl) rfl) rfl rfl rfl rfl rfl rfl ?_)
  refine GS.fact0 (fun i v => ∃ l : List Diff, Sl i v 3 l.length (diffs l) ∧ WDiff B' A' l ∧ l.length ≤ 10000000) (fun _ _ hi _ ⟨l, h1, h2⟩ => ⟨l, h1.le hi, h2⟩) rfl rfl rfl rfl rfl rfl (fun i' hi => OpS.call (by kernel_rfl) rfl (Compare_40 _ _ B' A' i' _ (hB.le hi) (hA.le hi) oB oA fB fA) (fun _ _ _ _ h => h)) ?_
  refine GS.done rfl rfl (fun i5 hi5 => ?_)
  rintro v35 ⟨m, hm, em, -⟩ v32 ⟨l, hl, el, nl⟩
  obtain rfl := em.unique (el.turn oA oB)
  obtain ⟨xa, xc, rfl, -⟩ := id hl
  obtain ⟨ya, yc, rfl, -⟩ := id hm
  have hlen : (l.map Diff.turn).length = l.length := List.length_map ..
  refine RS.pv (PV.all tab_ok rfl) rfl ?_
  refine RS.pv (PV.all tab_ok rfl) rfl ?_
  refine RS.nil ?_
  refine thenQ.normal ?_
  rw [hlen] at hm ⊢
  repeat' (first
    | refine CS.seq ?_
    | refine thenQ.normal ?_
    | refine CS.cond_true rfl ?_
    | refine CS.cond_false rfl ?_
    | refine CS.skip ?_
    | (refine CS.region (id := 0) ?_;
        refine RS.box rfl rfl (fun b => ?_);
        refine RS.box rfl rfl (fun b => ?_);
        refine RS.pv (PV.all tab_ok rfl) rfl ?_;
        refine RS.nil ?_)
    | (refine CS.region (id := 1) ?_;
        (first | refine RS.lv (LV.load tab_ok rfl (Has.own 0 rfl) rfl) rfl ?_ | refine RS.lv (LV.load tab_ok rfl (Has.own 1 rfl) rfl) rfl ?_ | refine RS.lv (LV.load tab_ok rfl (Has.own 2 rfl) rfl) rfl ?_))
    | (refine CS.region (id := 2) ?_)
    | (refine CS.region (id := 3) ?_;
        refine RS.pv (PV.all tab_ok rfl) rfl ?_;
        refine RS.pv (PV.all tab_ok rfl) rfl ?_;
        refine RS.box rfl rfl (fun b => ?_);
        refine RS.pv (PV.all tab_ok rfl) rfl ?_;
        refine RS.nil ?_)
    | (refine CS.region (id := 4) ?_;
        refine RS.pv (PV.all tab_ok rfl) rfl ?_)
    | (refine CS.drawQ (id := 5) mix (by kernel_rfl) ?_;
        (first | refine QS.lv (LV.load tab_ok rfl (Has.own 0 rfl) rfl) rfl ?_ | refine QS.lv (LV.load tab_ok rfl (Has.own 1 rfl) rfl) rfl ?_ | refine QS.lv (LV.load tab_ok rfl (Has.own 2 rfl) rfl) rfl ?_);
        (first | refine QS.lv (LV.load tab_ok rfl (Has.own 0 rfl) rfl) rfl ?_ | refine QS.lv (LV.load tab_ok rfl (Has.own 1 rfl) rfl) rfl ?_ | refine QS.lv (LV.load tab_ok rfl (Has.own 2 rfl) rfl) rfl ?_))
    | (refine CS.region (id := 6) ?_;
        refine RS.pv (PV.all tab_ok rfl) rfl ?_;
        (first | refine RS.pv (PV.lenS tab_ok rfl rfl) rfl ?_ | refine RS.pv (PV.lenT tab_ok rfl rfl) rfl ?_);
        refine RS.pv (PV.all tab_ok rfl) rfl ?_;
        (first | refine RS.pv (PV.lenS tab_ok rfl rfl) rfl ?_ | refine RS.pv (PV.lenT tab_ok rfl rfl) rfl ?_);
        (first | refine RS.pv (PV.all tab_ok rfl) rfl ?_ | refine RS.pv (PV.neqT rfl rfl (by omega)) rfl ?_ | refine RS.pv (PV.neqF rfl rfl (by omega)) rfl ?_ | refine RS.ifNeq rfl rfl rfl (fun h => ?_) (fun h => ?_) | refine RS.ifSneq rfl rfl rfl (fun h => ?_) (fun h => ?_));
        (all_goals refine RS.nil ?_))
    | (refine CS.region (id := 7) ?_;
        refine RS.pv (PV.all tab_ok rfl) rfl ?_;
        refine RS.nil ?_)
    | (refine CS.region (id := 8) ?_;
        refine RS.pv (PV.all tab_ok rfl) rfl ?_;
        refine RS.nil ?_)
    | refine CS.ret ?_
    | refine thenQ.ret ?_
    | refine blkQ.ret ?_
    | refine retQ.ret ?_
    | refine CS.block ?_
    | refine CS.exit ?_
    | refine thenQ.exit ?_
    | refine blkQ.normal ?_
    | refine blkQ.here ?_
    | refine blkQ.past rfl ?_
    | refine retQ.normal ?_)
  refine CS.loop [8, 9, 10] (fun m vs i' L' => ∃ k : Nat, m = l.length - k ∧ k ≤ l.length ∧ i5.le i' ∧ vs = [.slice xa l.length xc, .slice ya l.length yc, .int .i64 (k : Int)]) l.length ⟨0, rfl, Nat.zero_le _, Imm.le.refl i5, rfl⟩ ?_
  rintro m g vs i' L' _ ⟨k, rfl, hk, hi', rfl⟩
  by_cases hlt : k < l.length
  · obtain ⟨b1, o1, s1, t1, z1, p1, e1, g1, h1⟩ := (hl.le hi').at hlt (by omega)
    obtain ⟨b2, o2, s2, t2, z2, p2, e2, g2, h2⟩ := (hm.le hi').at hlt (by omega)
    cases e1
    cases e2
    obtain ⟨x, hx⟩ : ∃ x, l[k]? = some x := ⟨_, List.getElem?_eq_getElem hlt⟩
    have hy : (l.map Diff.turn)[k]? = some x.turn := by rw [List.getElem?_map, hx]; rfl
    have how := el.how x (List.mem_of_getElem? hx)
    have r0 : s1[o1 + ((k : Nat) : Int).toNat * 3 + 0]? = some (.int .i64 x.of_) := by rw [h1 0 (by omega), diffs_at hx 0 (by omega)]; rfl
    have r1 : s1[o1 + ((k : Nat) : Int).toNat * 3 + 1]? = some (.int .i64 x.how) := by rw [h1 1 (by omega), diffs_at hx 1 (by omega)]; rfl
    have r2 : s1[o1 + ((k : Nat) : Int).toNat * 3 + 2]? = some (.string x.name) := by rw [h1 2 (by omega), diffs_at hx 2 (by omega)]; rfl
    have q2 : ∀ j u, [Value.int .i64 x.of_, .int .i64 (turnHow x.how), .string x.name][j]? = some u → s2[o2 + ((k : Nat) : Int).toNat * 3 + j]? = some u := fun j u hu => by
      have hj : j < 3 := (List.getElem?_eq_some_iff.1 hu).1
      rw [h2 j hj, diffs_at hy j hj]; exact hu
    have hst : allEq [.int .i64 x.of_, .int .i64 (turnHow x.how), .string x.name] [.int .i64 x.of_, .int .i64 (turnHow x.how), .string x.name] = true := by
      simp [allEq, scEq]
    have hto : turnHow x.how = if x.how = 3 then 3 else 3 - x.how := rfl
    by_cases h3 : x.how = 3
    · rw [if_pos h3] at hto
      rw [hto, ← h3] at q2 hst
      repeat' (first
        | refine CS.seq ?_
        | refine thenQ.normal ?_
        | refine CS.cond_true rfl ?_
        | refine CS.cond_false rfl ?_
        | refine CS.skip ?_
        | (refine CS.region (id := 0) ?_;
            refine RS.box rfl rfl (fun b => ?_);
            refine RS.box rfl rfl (fun b => ?_);
            refine RS.pv (PV.all tab_ok rfl) rfl ?_;
            refine RS.nil ?_)
        | (refine CS.region (id := 1) ?_;
            (first | refine RS.lv (LV.load tab_ok rfl (Has.own 0 rfl) rfl) rfl ?_ | refine RS.lv (LV.load tab_ok rfl (Has.own 1 rfl) rfl) rfl ?_ | refine RS.lv (LV.load tab_ok rfl (Has.own 2 rfl) rfl) rfl ?_))
        | (refine CS.region (id := 2) ?_)
        | (refine CS.region (id := 3) ?_;
            refine RS.pv (PV.all tab_ok rfl) rfl ?_;
            refine RS.pv (PV.all tab_ok rfl) rfl ?_;
            refine RS.box rfl rfl (fun b => ?_);
            refine RS.pv (PV.all tab_ok rfl) rfl ?_;
            refine RS.nil ?_)
        | (refine CS.region (id := 4) ?_;
            refine RS.pv (PV.all tab_ok rfl) rfl ?_)
        | (refine CS.drawQ (id := 5) mix (by kernel_rfl) ?_;
            (first | refine QS.lv (LV.load tab_ok rfl (Has.own 0 rfl) rfl) rfl ?_ | refine QS.lv (LV.load tab_ok rfl (Has.own 1 rfl) rfl) rfl ?_ | refine QS.lv (LV.load tab_ok rfl (Has.own 2 rfl) rfl) rfl ?_);
            (first | refine QS.lv (LV.load tab_ok rfl (Has.own 0 rfl) rfl) rfl ?_ | refine QS.lv (LV.load tab_ok rfl (Has.own 1 rfl) rfl) rfl ?_ | refine QS.lv (LV.load tab_ok rfl (Has.own 2 rfl) rfl) rfl ?_))
        | (refine CS.region (id := 6) ?_;
            refine RS.pv (PV.all tab_ok rfl) rfl ?_;
            (first | refine RS.pv (PV.lenS tab_ok rfl rfl) rfl ?_ | refine RS.pv (PV.lenT tab_ok rfl rfl) rfl ?_);
            refine RS.pv (PV.all tab_ok rfl) rfl ?_;
            (first | refine RS.pv (PV.lenS tab_ok rfl rfl) rfl ?_ | refine RS.pv (PV.lenT tab_ok rfl rfl) rfl ?_);
            (first | refine RS.pv (PV.all tab_ok rfl) rfl ?_ | refine RS.pv (PV.neqT rfl rfl (by omega)) rfl ?_ | refine RS.pv (PV.neqF rfl rfl (by omega)) rfl ?_ | refine RS.ifNeq rfl rfl rfl (fun h => ?_) (fun h => ?_) | refine RS.ifSneq rfl rfl rfl (fun h => ?_) (fun h => ?_));
            (all_goals refine RS.nil ?_))
        | (refine CS.region (id := 7) ?_;
            refine RS.pv (PV.all tab_ok rfl) rfl ?_;
            refine RS.nil ?_)
        | (refine CS.region (id := 8) ?_;
            refine RS.pv (PV.all tab_ok rfl) rfl ?_;
            refine RS.nil ?_)
        | (refine CS.region (id := 9) ?_;
            refine RS.pv (PV.all tab_ok rfl) rfl ?_;
            refine RS.pv (PV.all tab_ok rfl) rfl ?_;
            (first | refine RS.pv (PV.lenS tab_ok rfl rfl) rfl ?_ | refine RS.pv (PV.lenT tab_ok rfl rfl) rfl ?_);
            (first | refine RS.pv (PV.lssT rfl rfl (by omega)) rfl ?_ | refine RS.pv (PV.lssF rfl rfl (by omega)) rfl ?_ | refine RS.ifLss rfl rfl rfl (fun h => ?_) (fun h => ?_));
            (all_goals refine RS.nil ?_))
        | (refine CS.region (id := 10) ?_;
            refine RS.pv (PV.all tab_ok rfl) rfl ?_;
            refine RS.pv (PV.add rfl rfl (by omega)) rfl ?_;
            refine RS.pv (PV.all tab_ok rfl) rfl ?_;
            refine RS.nil ?_)
        | (refine CS.region (id := 11) ?_;
            refine RS.pv (PV.all tab_ok rfl) rfl ?_;
            refine RS.pv (PV.all tab_ok rfl) rfl ?_;
            (first | refine RS.pv (PV.indexAddr tab_ok rfl rfl rfl (by omega)) rfl ?_ | refine RS.pv (PV.indexAddrA tab_ok rfl rfl rfl (by omega)) rfl ?_);
            refine RS.pv (PV.all tab_ok rfl) rfl ?_;
            refine RS.lv (LV.load1 tab_ok rfl (Has.imm g1) rfl r1) rfl ?_;
            (all_goals refine RS.pv (PV.all tab_ok rfl) rfl ?_);
            (all_goals refine RS.nil ?_))
        | (refine CS.region (id := 12) ?_;
            refine RS.pv (PV.all tab_ok rfl) rfl ?_;
            (first | refine RS.pv (PV.all tab_ok rfl) rfl ?_ | refine RS.pv (PV.neqT rfl rfl (by omega)) rfl ?_ | refine RS.pv (PV.neqF rfl rfl (by omega)) rfl ?_ | refine RS.ifNeq rfl rfl rfl (fun h => ?_) (fun h => ?_) | refine RS.ifSneq rfl rfl rfl (fun h => ?_) (fun h => ?_));
            (all_goals refine RS.nil ?_))
        | (refine CS.drawQ (id := 14) mix (by kernel_rfl) ?_;
            refine QS.pv (PV.all tab_ok rfl) rfl ?_;
            refine QS.pv (PV.all tab_ok rfl) rfl ?_;
            (first | refine QS.pv (PV.indexAddr tab_ok rfl rfl rfl (by omega)) rfl ?_ | refine QS.pv (PV.indexAddrA tab_ok rfl rfl rfl (by omega)) rfl ?_);
            refine QS.lv (LV.loadL tab_ok rfl (Has.imm g2) (l := [.int .i64 x.of_, .int .i64 x.how, .string x.name]) rfl rfl rfl q2) rfl ?_;
            (all_goals refine QS.pv (PV.all tab_ok rfl) rfl ?_);
            (all_goals refine QS.pv (PV.all tab_ok rfl) rfl ?_);
            (all_goals (first | refine QS.pv (PV.indexAddr tab_ok rfl rfl rfl (by omega)) rfl ?_ | refine QS.pv (PV.indexAddrA tab_ok rfl rfl rfl (by omega)) rfl ?_));
            (all_goals refine QS.pv (PV.all tab_ok rfl) rfl ?_);
            (all_goals refine QS.lv (LV.load1 tab_ok rfl (Has.imm g1) rfl r0) rfl ?_);
            (all_goals refine QS.pv (PV.all tab_ok rfl) rfl ?_);
            (all_goals refine QS.pv (PV.all tab_ok rfl) rfl ?_);
            (all_goals refine QS.pv (PV.all tab_ok rfl) rfl ?_);
            (all_goals (first | refine QS.pv (PV.indexAddr tab_ok rfl rfl rfl (by omega)) rfl ?_ | refine QS.pv (PV.indexAddrA tab_ok rfl rfl rfl (by omega)) rfl ?_));
            (all_goals refine QS.pv (PV.all tab_ok rfl) rfl ?_);
            (all_goals refine QS.lv (LV.load1 tab_ok rfl (Has.imm g1) rfl r2) rfl ?_);
            (all_goals refine QS.pv (PV.all tab_ok rfl) rfl ?_);
            (all_goals refine QS.pv (PV.stneqB (b := true) tab_ok (by kernel_rfl) (by kernel_rfl) rfl rfl rfl hst) rfl ?_);
            (all_goals refine QS.nil ?_))
        | refine CS.ret ?_
        | refine thenQ.ret ?_
        | refine blkQ.ret ?_
        | refine retQ.ret ?_
        | refine CS.block ?_
        | refine CS.exit ?_
        | refine thenQ.exit ?_
        | refine blkQ.normal ?_
        | refine blkQ.here ?_
        | refine blkQ.past rfl ?_
        | refine retQ.normal ?_)
      exact ⟨l.length - (k + 1), by omega, k + 1, rfl, hlt, hi', rfl⟩
    · rw [if_neg h3] at hto
      rw [hto] at q2 hst
      repeat' (first
        | refine CS.seq ?_
        | refine thenQ.normal ?_
        | refine CS.cond_true rfl ?_
        | refine CS.cond_false rfl ?_
        | refine CS.skip ?_
        | (refine CS.region (id := 0) ?_;
            refine RS.box rfl rfl (fun b => ?_);
            refine RS.box rfl rfl (fun b => ?_);
            refine RS.pv (PV.all tab_ok rfl) rfl ?_;
            refine RS.nil ?_)
        | (refine CS.region (id := 1) ?_;
            (first | refine RS.lv (LV.load tab_ok rfl (Has.own 0 rfl) rfl) rfl ?_ | refine RS.lv (LV.load tab_ok rfl (Has.own 1 rfl) rfl) rfl ?_ | refine RS.lv (LV.load tab_ok rfl (Has.own 2 rfl) rfl) rfl ?_))
        | (refine CS.region (id := 2) ?_)
        | (refine CS.region (id := 3) ?_;
            refine RS.pv (PV.all tab_ok rfl) rfl ?_;
            refine RS.pv (PV.all tab_ok rfl) rfl ?_;
            refine RS.box rfl rfl (fun b => ?_);
            refine RS.pv (PV.all tab_ok rfl) rfl ?_;
            refine RS.nil ?_)
        | (refine CS.region (id := 4) ?_;
            refine RS.pv (PV.all tab_ok rfl) rfl ?_)
        | (refine CS.drawQ (id := 5) mix (by kernel_rfl) ?_;
            (first | refine QS.lv (LV.load tab_ok rfl (Has.own 0 rfl) rfl) rfl ?_ | refine QS.lv (LV.load tab_ok rfl (Has.own 1 rfl) rfl) rfl ?_ | refine QS.lv (LV.load tab_ok rfl (Has.own 2 rfl) rfl) rfl ?_);
            (first | refine QS.lv (LV.load tab_ok rfl (Has.own 0 rfl) rfl) rfl ?_ | refine QS.lv (LV.load tab_ok rfl (Has.own 1 rfl) rfl) rfl ?_ | refine QS.lv (LV.load tab_ok rfl (Has.own 2 rfl) rfl) rfl ?_))
        | (refine CS.region (id := 6) ?_;
            refine RS.pv (PV.all tab_ok rfl) rfl ?_;
            (first | refine RS.pv (PV.lenS tab_ok rfl rfl) rfl ?_ | refine RS.pv (PV.lenT tab_ok rfl rfl) rfl ?_);
            refine RS.pv (PV.all tab_ok rfl) rfl ?_;
            (first | refine RS.pv (PV.lenS tab_ok rfl rfl) rfl ?_ | refine RS.pv (PV.lenT tab_ok rfl rfl) rfl ?_);
            (first | refine RS.pv (PV.all tab_ok rfl) rfl ?_ | refine RS.pv (PV.neqT rfl rfl (by omega)) rfl ?_ | refine RS.pv (PV.neqF rfl rfl (by omega)) rfl ?_ | refine RS.ifNeq rfl rfl rfl (fun h => ?_) (fun h => ?_) | refine RS.ifSneq rfl rfl rfl (fun h => ?_) (fun h => ?_));
            (all_goals refine RS.nil ?_))
        | (refine CS.region (id := 7) ?_;
            refine RS.pv (PV.all tab_ok rfl) rfl ?_;
            refine RS.nil ?_)
        | (refine CS.region (id := 8) ?_;
            refine RS.pv (PV.all tab_ok rfl) rfl ?_;
            refine RS.nil ?_)
        | (refine CS.region (id := 9) ?_;
            refine RS.pv (PV.all tab_ok rfl) rfl ?_;
            refine RS.pv (PV.all tab_ok rfl) rfl ?_;
            (first | refine RS.pv (PV.lenS tab_ok rfl rfl) rfl ?_ | refine RS.pv (PV.lenT tab_ok rfl rfl) rfl ?_);
            (first | refine RS.pv (PV.lssT rfl rfl (by omega)) rfl ?_ | refine RS.pv (PV.lssF rfl rfl (by omega)) rfl ?_ | refine RS.ifLss rfl rfl rfl (fun h => ?_) (fun h => ?_));
            (all_goals refine RS.nil ?_))
        | (refine CS.region (id := 10) ?_;
            refine RS.pv (PV.all tab_ok rfl) rfl ?_;
            refine RS.pv (PV.add rfl rfl (by omega)) rfl ?_;
            refine RS.pv (PV.all tab_ok rfl) rfl ?_;
            refine RS.nil ?_)
        | (refine CS.region (id := 11) ?_;
            refine RS.pv (PV.all tab_ok rfl) rfl ?_;
            refine RS.pv (PV.all tab_ok rfl) rfl ?_;
            (first | refine RS.pv (PV.indexAddr tab_ok rfl rfl rfl (by omega)) rfl ?_ | refine RS.pv (PV.indexAddrA tab_ok rfl rfl rfl (by omega)) rfl ?_);
            refine RS.pv (PV.all tab_ok rfl) rfl ?_;
            refine RS.lv (LV.load1 tab_ok rfl (Has.imm g1) rfl r1) rfl ?_;
            (all_goals refine RS.pv (PV.all tab_ok rfl) rfl ?_);
            (all_goals refine RS.nil ?_))
        | (refine CS.region (id := 12) ?_;
            refine RS.pv (PV.all tab_ok rfl) rfl ?_;
            (first | refine RS.pv (PV.all tab_ok rfl) rfl ?_ | refine RS.pv (PV.neqT rfl rfl (by omega)) rfl ?_ | refine RS.pv (PV.neqF rfl rfl (by omega)) rfl ?_ | refine RS.ifNeq rfl rfl rfl (fun h => ?_) (fun h => ?_) | refine RS.ifSneq rfl rfl rfl (fun h => ?_) (fun h => ?_));
            (all_goals refine RS.nil ?_))
        | (refine CS.region (id := 13) ?_;
            refine RS.pv (PV.all tab_ok rfl) rfl ?_;
            refine RS.pv (PV.sub rfl rfl (by omega)) rfl ?_;
            refine RS.pv (PV.all tab_ok rfl) rfl ?_;
            refine RS.nil ?_)
        | (refine CS.drawQ (id := 14) mix (by kernel_rfl) ?_;
            refine QS.pv (PV.all tab_ok rfl) rfl ?_;
            refine QS.pv (PV.all tab_ok rfl) rfl ?_;
            (first | refine QS.pv (PV.indexAddr tab_ok rfl rfl rfl (by omega)) rfl ?_ | refine QS.pv (PV.indexAddrA tab_ok rfl rfl rfl (by omega)) rfl ?_);
            refine QS.lv (LV.loadL tab_ok rfl (Has.imm g2) (l := [.int .i64 x.of_, .int .i64 (3 - x.how), .string x.name]) rfl rfl rfl q2) rfl ?_;
            (all_goals refine QS.pv (PV.all tab_ok rfl) rfl ?_);
            (all_goals refine QS.pv (PV.all tab_ok rfl) rfl ?_);
            (all_goals (first | refine QS.pv (PV.indexAddr tab_ok rfl rfl rfl (by omega)) rfl ?_ | refine QS.pv (PV.indexAddrA tab_ok rfl rfl rfl (by omega)) rfl ?_));
            (all_goals refine QS.pv (PV.all tab_ok rfl) rfl ?_);
            (all_goals refine QS.lv (LV.load1 tab_ok rfl (Has.imm g1) rfl r0) rfl ?_);
            (all_goals refine QS.pv (PV.all tab_ok rfl) rfl ?_);
            (all_goals refine QS.pv (PV.all tab_ok rfl) rfl ?_);
            (all_goals refine QS.pv (PV.all tab_ok rfl) rfl ?_);
            (all_goals (first | refine QS.pv (PV.indexAddr tab_ok rfl rfl rfl (by omega)) rfl ?_ | refine QS.pv (PV.indexAddrA tab_ok rfl rfl rfl (by omega)) rfl ?_));
            (all_goals refine QS.pv (PV.all tab_ok rfl) rfl ?_);
            (all_goals refine QS.lv (LV.load1 tab_ok rfl (Has.imm g1) rfl r2) rfl ?_);
            (all_goals refine QS.pv (PV.all tab_ok rfl) rfl ?_);
            (all_goals refine QS.pv (PV.stneqB (b := true) tab_ok (by kernel_rfl) (by kernel_rfl) rfl rfl rfl hst) rfl ?_);
            (all_goals refine QS.nil ?_))
        | refine CS.ret ?_
        | refine thenQ.ret ?_
        | refine blkQ.ret ?_
        | refine retQ.ret ?_
        | refine CS.block ?_
        | refine CS.exit ?_
        | refine thenQ.exit ?_
        | refine blkQ.normal ?_
        | refine blkQ.here ?_
        | refine blkQ.past rfl ?_
        | refine retQ.normal ?_)
      exact ⟨l.length - (k + 1), by omega, k + 1, rfl, hlt, hi', rfl⟩
  · repeat' (first
      | refine CS.seq ?_
      | refine thenQ.normal ?_
      | refine CS.cond_true rfl ?_
      | refine CS.cond_false rfl ?_
      | refine CS.skip ?_
      | (refine CS.region (id := 0) ?_;
          refine RS.box rfl rfl (fun b => ?_);
          refine RS.box rfl rfl (fun b => ?_);
          refine RS.pv (PV.all tab_ok rfl) rfl ?_;
          refine RS.nil ?_)
      | (refine CS.region (id := 1) ?_;
          (first | refine RS.lv (LV.load tab_ok rfl (Has.own 0 rfl) rfl) rfl ?_ | refine RS.lv (LV.load tab_ok rfl (Has.own 1 rfl) rfl) rfl ?_ | refine RS.lv (LV.load tab_ok rfl (Has.own 2 rfl) rfl) rfl ?_))
      | (refine CS.region (id := 2) ?_)
      | (refine CS.region (id := 3) ?_;
          refine RS.pv (PV.all tab_ok rfl) rfl ?_;
          refine RS.pv (PV.all tab_ok rfl) rfl ?_;
          refine RS.box rfl rfl (fun b => ?_);
          refine RS.pv (PV.all tab_ok rfl) rfl ?_;
          refine RS.nil ?_)
      | (refine CS.region (id := 4) ?_;
          refine RS.pv (PV.all tab_ok rfl) rfl ?_)
      | (refine CS.drawQ (id := 5) mix (by kernel_rfl) ?_;
          (first | refine QS.lv (LV.load tab_ok rfl (Has.own 0 rfl) rfl) rfl ?_ | refine QS.lv (LV.load tab_ok rfl (Has.own 1 rfl) rfl) rfl ?_ | refine QS.lv (LV.load tab_ok rfl (Has.own 2 rfl) rfl) rfl ?_);
          (first | refine QS.lv (LV.load tab_ok rfl (Has.own 0 rfl) rfl) rfl ?_ | refine QS.lv (LV.load tab_ok rfl (Has.own 1 rfl) rfl) rfl ?_ | refine QS.lv (LV.load tab_ok rfl (Has.own 2 rfl) rfl) rfl ?_))
      | (refine CS.region (id := 6) ?_;
          refine RS.pv (PV.all tab_ok rfl) rfl ?_;
          (first | refine RS.pv (PV.lenS tab_ok rfl rfl) rfl ?_ | refine RS.pv (PV.lenT tab_ok rfl rfl) rfl ?_);
          refine RS.pv (PV.all tab_ok rfl) rfl ?_;
          (first | refine RS.pv (PV.lenS tab_ok rfl rfl) rfl ?_ | refine RS.pv (PV.lenT tab_ok rfl rfl) rfl ?_);
          (first | refine RS.pv (PV.all tab_ok rfl) rfl ?_ | refine RS.pv (PV.neqT rfl rfl (by omega)) rfl ?_ | refine RS.pv (PV.neqF rfl rfl (by omega)) rfl ?_ | refine RS.ifNeq rfl rfl rfl (fun h => ?_) (fun h => ?_) | refine RS.ifSneq rfl rfl rfl (fun h => ?_) (fun h => ?_));
          (all_goals refine RS.nil ?_))
      | (refine CS.region (id := 7) ?_;
          refine RS.pv (PV.all tab_ok rfl) rfl ?_;
          refine RS.nil ?_)
      | (refine CS.region (id := 8) ?_;
          refine RS.pv (PV.all tab_ok rfl) rfl ?_;
          refine RS.nil ?_)
      | (refine CS.region (id := 9) ?_;
          refine RS.pv (PV.all tab_ok rfl) rfl ?_;
          refine RS.pv (PV.all tab_ok rfl) rfl ?_;
          (first | refine RS.pv (PV.lenS tab_ok rfl rfl) rfl ?_ | refine RS.pv (PV.lenT tab_ok rfl rfl) rfl ?_);
          (first | refine RS.pv (PV.lssT rfl rfl (by omega)) rfl ?_ | refine RS.pv (PV.lssF rfl rfl (by omega)) rfl ?_ | refine RS.ifLss rfl rfl rfl (fun h => ?_) (fun h => ?_));
          (all_goals refine RS.nil ?_))
      | (refine CS.region (id := 16) ?_;
          (refine RS.call (known_38 _ _) rfl (by kernel_rfl) rfl ?_; rintro v i6 L6 hi6 ⟨rfl, hL6⟩; subst hL6);
          (all_goals refine RS.pv (PV.all tab_ok rfl) rfl ?_);
          (all_goals refine RS.nil ?_))
      | refine CS.ret ?_
      | refine thenQ.ret ?_
      | refine blkQ.ret ?_
      | refine retQ.ret ?_
      | refine CS.block ?_
      | refine CS.exit ?_
      | refine thenQ.exit ?_
      | refine blkQ.normal ?_
      | refine blkQ.here ?_
      | refine blkQ.past rfl ?_
      | refine retQ.normal ?_)
    rfl
end Go.Proofs.Ytmcajldlcomegaa
