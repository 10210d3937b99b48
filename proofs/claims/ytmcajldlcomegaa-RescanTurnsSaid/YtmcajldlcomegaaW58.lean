/- RescanCompares, part 13: the reference's Compare. -/
import Derived.Test.YtmcajldlcomegaaW57
namespace Go.Proofs.Ytmcajldlcomegaa
open Go Go.Eng

/-- the difference at a name, by places -/
def dI (of_ : Int) (KA KB : List ByteArray) (sm : Nat → Nat → Bool) (a : ByteArray) : Option Diff :=
  if plv a KA 0 < 0 then some ⟨of_, 1, a⟩ else if plv a KB 0 < 0 then some ⟨of_, 2, a⟩ else if sm (plv a KA 0).toNat (plv a KB 0).toNat then none else some ⟨of_, 3, a⟩
theorem plv_first {E : Type} (nm : E → ByteArray) (a : ByteArray) : ∀ (es : List E) (k : Nat), (firstE nm es a = none ∧ plv a (es.map nm) k = -1) ∨ ∃ j e, es[j]? = some e ∧ firstE nm es a = some e ∧ plv a (es.map nm) k = ((k + j : Nat) : Int)
  | [], k => .inl ⟨rfl, rfl⟩
  | x :: es, k => by
    rw [firstE_cons]
    simp only [List.map_cons, plv]
    by_cases h : nm x = a
    · rw [if_pos h, if_pos h.symm]
      exact .inr ⟨0, x, rfl, rfl, rfl⟩
    · rw [if_neg h, if_neg fun e => h e.symm]
      have ih := plv_first nm a es (k + 1)
      rw [show ((k : Nat) : Int) + 1 = ((k + 1 : Nat) : Int) by omega]
      rcases ih with ⟨h1, h2⟩ | ⟨j, e, h1, h2, h3⟩
      · exact .inl ⟨h1, h2⟩
      · exact .inr ⟨j + 1, e, by simpa using h1, h2, by rw [h3]; omega⟩
theorem dI_eq {E : Type} (of_ : Int) (nm : E → ByteArray) (sm : E → E → Bool) (A B : List E) (si : Nat → Nat → Bool) (a : ByteArray) (h : ∀ (x y : Nat) p q, A[x]? = some p → B[y]? = some q → nm p = a → nm q = a → si x y = sm p q) : dI of_ (A.map nm) (B.map nm) si a = diffAt of_ nm sm A B a := by
  unfold dI diffAt
  rcases plv_first nm a A 0 with ⟨h1, h2⟩ | ⟨x, p, h1, h2, h3⟩
  · rw [show ((0 : Nat) : Int) = 0 from rfl] at h2
    rw [h1, h2]; rfl
  · rw [show ((0 : Nat) : Int) = 0 from rfl, Nat.zero_add] at h3
    rw [h2, h3, if_neg (by omega)]
    rcases plv_first nm a B 0 with ⟨k1, k2⟩ | ⟨y, q, k1, k2, k3⟩
    · rw [show ((0 : Nat) : Int) = 0 from rfl] at k2
      rw [k1, k2]; rfl
    · rw [show ((0 : Nat) : Int) = 0 from rfl, Nat.zero_add] at k3
      rw [k2, k3, if_neg (by omega)]
      have e := h x y p q h1 k1 (firstE_mem h2).2 (firstE_mem k2).2
      simp only [Int.toNat_natCast, e]
theorem plv_cases (a : ByteArray) (l : List ByteArray) : plv a l 0 = -1 ∨ ∃ x : Nat, x < l.length ∧ plv a l 0 = (x : Int) := by
  have h := plv_first id a l 0
  rw [List.map_id, show ((0 : Nat) : Int) = 0 from rfl] at h
  rcases h with ⟨_, h⟩ | ⟨x, e, h1, _, h⟩
  · exact .inl h
  · exact .inr ⟨x, (List.getElem?_eq_some_iff.1 h1).1, by rw [h, Nat.zero_add]⟩
/-- the differences of one kind -/
def KDiff (A B : WorldD) (n : Nat) (l : List Diff) : Prop :=
  ∃ names, Asc names ∧ (∀ a, a ∈ names ↔ a ∈ keysOf A n ∨ a ∈ keysOf B n) ∧ l = names.filterMap (dI (n : Int) (keysOf A n) (keysOf B n) (smI A B n))
/-- the differences of the first kinds -/
def RD (A B : WorldD) : Nat → List Diff → Prop
  | 0, l => l = []
  | n + 1, l => ∃ l1 l2, RD A B n l1 ∧ KDiff A B (n + 1) l2 ∧ l = l1 ++ l2
theorem RD.whole {A B : WorldD} {l : List Diff} (h : RD A B 5 l) : WDiff A B l := by
  obtain ⟨m4, l5, ⟨m3, l4, ⟨m2, l3, ⟨m1, l2, ⟨m0, l1, h0, ⟨n1, s1, e1, rfl⟩, rfl⟩, ⟨n2, s2, e2, rfl⟩, rfl⟩, ⟨n3, s3, e3, rfl⟩, rfl⟩, ⟨n4, s4, e4, rfl⟩, rfl⟩, ⟨n5, s5, e5, rfl⟩, rfl⟩ := h
  have h0' : m0 = [] := h0
  subst h0'
  refine ⟨_, _, _, _, _, ⟨n1, s1, e1, rfl⟩, ⟨n2, s2, e2, rfl⟩, ⟨n3, s3, e3, rfl⟩, ⟨n4, s4, e4, rfl⟩, ⟨n5, s5, fun a => by have := e5 a; simpa [keysOf] using this, rfl⟩, ?_⟩
  have x1 : dI ((0 + 1 : Nat) : Int) (keysOf A (0 + 1)) (keysOf B (0 + 1)) (smI A B (0 + 1)) = diffAt 1 rnm rsm A.recs B.recs := funext fun a => dI_eq 1 rnm rsm A.recs B.recs (smI A B 1) a fun x y p q hp hq _ _ => by simp only [smI, hp, hq]
  have x2 : dI ((1 + 1 : Nat) : Int) (keysOf A (1 + 1)) (keysOf B (1 + 1)) (smI A B (1 + 1)) = diffAt 2 nm0 allEq A.nodes B.nodes := funext fun a => dI_eq 2 nm0 allEq A.nodes B.nodes (smI A B 2) a fun x y p q hp hq _ _ => by simp only [smI, hp, hq]
  have x3 : dI ((2 + 1 : Nat) : Int) (keysOf A (2 + 1)) (keysOf B (2 + 1)) (smI A B (2 + 1)) = diffAt 3 nm0 allEq A.links B.links := funext fun a => dI_eq 3 nm0 allEq A.links B.links (smI A B 3) a fun x y p q hp hq _ _ => by simp only [smI, hp, hq]
  have x4 : dI ((3 + 1 : Nat) : Int) (keysOf A (3 + 1)) (keysOf B (3 + 1)) (smI A B (3 + 1)) = diffAt 4 nm0 allEq A.names B.names := funext fun a => dI_eq 4 nm0 allEq A.names B.names (smI A B 4) a fun x y p q hp hq _ _ => by simp only [smI, hp, hq]
  have x5 : dI ((4 + 1 : Nat) : Int) (keysOf A (4 + 1)) (keysOf B (4 + 1)) (smI A B (4 + 1)) = diffAt 5 id (fun x y => decide (x = y)) A.mods B.mods := funext fun a => by
    have h := dI_eq 5 id (fun x y => decide (x = y)) A.mods B.mods (smI A B 5) a fun x y p q hp hq h1 h2 => by
      have e : p = q := by rw [show p = a from h1, show q = a from h2]
      rw [decide_eq_true e]; rfl
    rw [List.map_id, List.map_id] at h
    exact h
  rw [x1, x2, x3, x4, x5]
  simp
set_option maxHeartbeats 2000000 in
theorem Compare_41 (ac bc : List Value) (A B : WorldD) (i : Imm) (L : SH) (hA : WorldV i ac A) (hB : WorldV i bc B) (oA : A.ok) (oB : B.ok) (fA : A.few) (fB : B.few) :
    FnS Try.prog 41 [.agg ac.toArray, .agg bc.toArray] i L fun v i' L' => L' = L ∧ ∃ l, Sl i' v 3 l.length (diffs l) ∧ WDiff A B l := by
  refine FnS.state (K := fun v i' L' => ∃ l O, SlO 85 v 3 l.length (diffs l) O ∧ WDiff A B l ∧ L' = O ++ L) ?_ ?_
  rotate_left
  · rintro v i' L' w _ hs ⟨l, O, hO, hd, rfl⟩
    obtain ⟨i2, h1, h2, h3⟩ := hO.freeze hs
    exact ⟨i2, L, h1, h2, rfl, l, h3, hd⟩
  obtain ⟨a0, c0, a1, c1, a2, c2, a3, c3, a4, c4, rfl, -⟩ := hA.lit
  obtain ⟨b0, d0, b1, d1, b2, d2, b3, d3, b4, d4, rfl, -⟩ := hB.lit
  refine FnS.intro1 Try.func41 rfl Try.ntmps41 (by simp) Try.results41 ?_
  repeat' (first
    | refine CS.seq ?_
    | refine thenQ.normal ?_
    | refine CS.cond_true rfl ?_
    | refine CS.cond_false rfl ?_
    | refine CS.skip ?_
    | (refine CS.region (id := 0) ?_;
        (refine RS.box rfl rfl (fun bx => ?_); refine RS.freeze (fun i1 hi1 hbx => ?_));
        (all_goals (refine RS.box rfl rfl (fun b_y => ?_); refine RS.freeze (fun i2 hi2 hby => ?_)));
        (all_goals refine RS.pv (PV.all tab_ok rfl) rfl ?_);
        (all_goals refine RS.nil ?_))
    | (refine CS.region (id := 1) ?_;
        refine RS.pv (PV.all tab_ok rfl) rfl ?_;
        refine RS.nil ?_)
    | (refine CS.region (id := 2) ?_;
        refine RS.pv (PV.all tab_ok rfl) rfl ?_;
        refine RS.nil ?_)
    | refine CS.ret ?_
    | refine thenQ.ret ?_
    | refine blkQ.ret ?_
    | refine retQ.ret ?_
    | refine CS.block ?_
    | refine CS.exit ?_
    | refine thenQ.exit ?_
    | refine blkQ.normal ?_
    | refine blkQ.here ?_
    | refine blkQ.past rfl ?_
    | refine retQ.normal ?_)
  replace hbx := hi2.blk _ _ hbx
  replace hA := (hA.le hi1).le hi2
  replace hB := (hB.le hi1).le hi2
  refine CS.loop [2, 3, 5, 6] (fun m vs i' L' => ∃ (n : Nat) (l : List Diff) (O : SH) (oa : Option Addr) (oc : Nat), m = 6 - n ∧ 1 ≤ n ∧ n ≤ 6 ∧ i2.le i' ∧ RD A B (n - 1) l ∧ l.length ≤ n * 2000000 ∧ SlO 85 (.slice oa l.length oc) 3 l.length (diffs l) O ∧ vs = [.pointer (some ⟨bx, 0, none⟩), .pointer (some ⟨b_y, 0, none⟩), .slice oa l.length oc, .int .i64 (n : Int)] ∧ L' = O ++ L) 5 ⟨1, [], [], none, 0, rfl, Nat.le_refl _, by omega, Imm.le.refl i2, rfl, Nat.zero_le _, SlO.nil 85 3, rfl, rfl⟩ ?_
  rintro m g vs i' L' - ⟨n, pre, O, oa, oc, rfl, hn1, hn6, hi, hRD, hpl, hO, rfl, rfl⟩
  by_cases hn5 : n ≤ 5
  · have hbx' := hi.blk _ _ hbx
    have hby' := hi.blk _ _ hby
    have hA' := hA.le hi
    have hB' := hB.le hi
    have hkA := keysOf_len fA n
    have hkB := keysOf_len fB n
    repeat' (first
      | refine CS.seq ?_
      | refine thenQ.normal ?_
      | refine CS.cond_true rfl ?_
      | refine CS.cond_false rfl ?_
      | refine CS.skip ?_
      | (refine CS.region (id := 3) ?_;
          refine RS.pv (PV.all tab_ok rfl) rfl ?_;
          (first | refine RS.pv (PV.leqT rfl rfl (by omega)) rfl ?_ | refine RS.pv (PV.leqF rfl rfl (by omega)) rfl ?_ | refine RS.ifLeq rfl rfl rfl (fun h => ?_) (fun h => ?_));
          (all_goals refine RS.nil ?_))
      | refine CS.ret ?_
      | refine thenQ.ret ?_
      | refine blkQ.ret ?_
      | refine retQ.ret ?_
      | refine CS.block ?_
      | refine CS.exit ?_
      | refine thenQ.exit ?_
      | refine blkQ.normal ?_
      | refine blkQ.here ?_
      | refine blkQ.past rfl ?_
      | refine retQ.normal ?_)
    refine CS.draw0 mix [0, 1, 2, 3, 4, 5, 6, 7, 8, 9] [10, 11, 12] (by kernel_rfl) rfl ?_
    (first | refine GS.lv (fun _i _hi => LV.load tab_ok rfl (Has.imm (_hi.blk _ _ hbx')) rfl) rfl rfl rfl rfl rfl rfl ?_ | refine GS.lv (fun _i _hi => LV.load tab_ok rfl (Has.imm (_hi.blk _ _ hby')) rfl) rfl rfl rfl rfl rfl rfl ?_)
    refine GS.pv (PV.all tab_ok rfl) rfl rfl rfl rfl rfl rfl ?_
    refine GS.fact0 (fun i v => Sl i v 1 (keysOf A n).length (strs (keysOf A n))) (fun _ _ hi _ h => h.le hi) rfl rfl rfl rfl rfl rfl (fun i' hi => OpS.call (by kernel_rfl) rfl (keys_78 n hn1 hn5 _ A i' _ (hA'.le hi) oA fA) (fun _ _ _ _ h => h)) ?_
    (all_goals (first | refine GS.lv (fun _i _hi => LV.load tab_ok rfl (Has.imm (_hi.blk _ _ hbx')) rfl) rfl rfl rfl rfl rfl rfl ?_ | refine GS.lv (fun _i _hi => LV.load tab_ok rfl (Has.imm (_hi.blk _ _ hby')) rfl) rfl rfl rfl rfl rfl rfl ?_))
    (all_goals refine GS.pv (PV.all tab_ok rfl) rfl rfl rfl rfl rfl rfl ?_)
    (all_goals refine GS.fact0 (fun i v => Sl i v 1 (keysOf B n).length (strs (keysOf B n))) (fun _ _ hi _ h => h.le hi) rfl rfl rfl rfl rfl rfl (fun i' hi => OpS.call (by kernel_rfl) rfl (keys_78 n hn1 hn5 _ B i' _ (hB'.le hi) oB fB) (fun _ _ _ _ h => h)) ?_)
    (all_goals (first | refine GS.lv (fun _i _hi => LV.load tab_ok rfl (Has.imm (_hi.blk _ _ hbx')) rfl) rfl rfl rfl rfl rfl rfl ?_ | refine GS.lv (fun _i _hi => LV.load tab_ok rfl (Has.imm (_hi.blk _ _ hby')) rfl) rfl rfl rfl rfl rfl rfl ?_))
    (all_goals (first | refine GS.lv (fun _i _hi => LV.load tab_ok rfl (Has.imm (_hi.blk _ _ hbx')) rfl) rfl rfl rfl rfl rfl rfl ?_ | refine GS.lv (fun _i _hi => LV.load tab_ok rfl (Has.imm (_hi.blk _ _ hby')) rfl) rfl rfl rfl rfl rfl rfl ?_))
    (all_goals refine GS.pv (PV.all tab_ok rfl) rfl rfl rfl rfl rfl rfl ?_)
    (all_goals refine GS.fact0 (fun i v => ∃ names : List ByteArray, Sl i v 1 names.length (strs names) ∧ Asc names ∧ (∀ a, a ∈ names ↔ a ∈ keysOf A n ∨ a ∈ keysOf B n) ∧ names.length ≤ 2000000) (fun _ _ hi _ ⟨l, h, k⟩ => ⟨l, h.le hi, k⟩) rfl rfl rfl rfl rfl rfl (fun i' hi => OpS.call (by kernel_rfl) rfl (names_79 n hn1 hn5 _ _ A B i' _ (hA'.le hi) (hB'.le hi) oA oB fA fB) (fun _ _ _ _ h => h)) ?_)
    refine GS.done rfl rfl (fun i5 hi5 => ?_)
    rintro v26 ⟨names, hsn, hasc, hmem, hnl⟩ v22 hkb v19 hka
    obtain ⟨xa, ya, rfl, -⟩ := id hka
    obtain ⟨xb, yb, rfl, -⟩ := id hkb
    obtain ⟨na, nc, rfl, -⟩ := id hsn
    refine RS.pv (PV.all tab_ok rfl) rfl ?_
    refine RS.pv (PV.all tab_ok rfl) rfl ?_
    refine RS.pv (PV.all tab_ok rfl) rfl ?_
    refine RS.nil ?_
    refine thenQ.normal ?_
    repeat' (first
      | refine CS.seq ?_
      | refine thenQ.normal ?_
      | refine CS.cond_true rfl ?_
      | refine CS.cond_false rfl ?_
      | refine CS.skip ?_
      | (refine CS.region (id := 6) ?_;
          refine RS.pv (PV.all tab_ok rfl) rfl ?_;
          refine RS.nil ?_)
      | refine CS.ret ?_
      | refine thenQ.ret ?_
      | refine blkQ.ret ?_
      | refine retQ.ret ?_
      | refine CS.block ?_
      | refine CS.exit ?_
      | refine thenQ.exit ?_
      | refine blkQ.normal ?_
      | refine blkQ.here ?_
      | refine blkQ.past rfl ?_
      | refine retQ.normal ?_)
    replace hbx' := hi5.blk _ _ hbx'
    replace hby' := hi5.blk _ _ hby'
    replace hA' := hA'.le hi5
    replace hB' := hB'.le hi5
    refine CS.loop [2, 3, 5, 6, 7, 8, 9, 10] (fun m vs i' L' => ∃ (k : Nat) (O : SH) (oa : Option Addr) (oc : Nat), m = names.length - k ∧ k ≤ names.length ∧ i5.le i' ∧ SlO 85 (.slice oa (pre.length + ((names.take k).filterMap (dI (n : Int) (keysOf A n) (keysOf B n) (smI A B n))).length) oc) 3 (pre.length + ((names.take k).filterMap (dI (n : Int) (keysOf A n) (keysOf B n) (smI A B n))).length) (diffs (pre ++ (names.take k).filterMap (dI (n : Int) (keysOf A n) (keysOf B n) (smI A B n)))) O ∧ vs = [.pointer (some ⟨bx, 0, none⟩), .pointer (some ⟨b_y, 0, none⟩), .slice oa (pre.length + ((names.take k).filterMap (dI (n : Int) (keysOf A n) (keysOf B n) (smI A B n))).length) oc, .int .i64 (n : Int), .slice xa (keysOf A n).length ya, .slice xb (keysOf B n).length yb, .slice na names.length nc, .int .i64 (k : Int)] ∧ L' = O ++ L) names.length ⟨0, O, oa, oc, rfl, Nat.zero_le _, Imm.le.refl i5, by simpa using hO, rfl, rfl⟩ ?_
    rintro m g vs i' L' - ⟨k, O, oa, oc, rfl, hk, hi6, hO, rfl, rfl⟩
    by_cases hlt : k < names.length
    · obtain ⟨bq, o1, u1, t1, z1, p1, e1, g1, h1⟩ := (hsn.le hi6).at hlt (by omega)
      cases e1
      obtain ⟨a, ha⟩ : ∃ a, names[k]? = some a := ⟨_, List.getElem?_eq_getElem hlt⟩
      have q1 := h1 0 (by omega)
      rw [strs_at, ha] at q1
      have hdl := take_filterMap_len (f := (dI (n : Int) (keysOf A n) (keysOf B n) (smI A B n))) hk
      have hnx := take_filterMap (f := (dI (n : Int) (keysOf A n) (keysOf B n) (smI A B n))) ha
      have hbx6 := hi6.blk _ _ hbx'
      have hby6 := hi6.blk _ _ hby'
      have hsp : ∀ d, (dI (n : Int) (keysOf A n) (keysOf B n) (smI A B n)) a = some d → ((names.take (k + 1)).filterMap (dI (n : Int) (keysOf A n) (keysOf B n) (smI A B n))) = ((names.take k).filterMap (dI (n : Int) (keysOf A n) (keysOf B n) (smI A B n))) ++ [d] ∧ ((names.take (k + 1)).filterMap (dI (n : Int) (keysOf A n) (keysOf B n) (smI A B n))).length = ((names.take k).filterMap (dI (n : Int) (keysOf A n) (keysOf B n) (smI A B n))).length + 1 := fun d hd => by
        have e : ((names.take (k + 1)).filterMap (dI (n : Int) (keysOf A n) (keysOf B n) (smI A B n))) = ((names.take k).filterMap (dI (n : Int) (keysOf A n) (keysOf B n) (smI A B n))) ++ [d] := by rw [hnx, hd]; rfl
        exact ⟨e, by rw [e, List.length_append]; rfl⟩
      rcases plv_cases a (keysOf A n) with hpA | ⟨x, hx, hpA⟩
      · obtain ⟨e, el⟩ := hsp ⟨(n : Int), 1, a⟩ (by unfold dI; rw [hpA]; rfl)
        rcases plv_cases a (keysOf B n) with hpB | ⟨y, hy, hpB⟩
        · repeat' (first
            | refine CS.seq ?_
            | refine thenQ.normal ?_
            | refine CS.cond_true rfl ?_
            | refine CS.cond_false rfl ?_
            | refine CS.skip ?_
            | (refine CS.region (id := 7) ?_;
                refine RS.pv (PV.all tab_ok rfl) rfl ?_;
                refine RS.pv (PV.all tab_ok rfl) rfl ?_;
                (first | refine RS.pv (PV.lenS tab_ok rfl rfl) rfl ?_ | refine RS.pv (PV.lenT tab_ok rfl rfl) rfl ?_);
                (first | refine RS.pv (PV.lssT rfl rfl (by omega)) rfl ?_ | refine RS.pv (PV.lssF rfl rfl (by omega)) rfl ?_ | refine RS.ifLss rfl rfl rfl (fun h => ?_) (fun h => ?_));
                (all_goals refine RS.nil ?_))
            | (refine CS.region (id := 8) ?_;
                refine RS.pv (PV.all tab_ok rfl) rfl ?_;
                refine RS.pv (PV.add rfl rfl (by omega)) rfl ?_;
                refine RS.pv (PV.all tab_ok rfl) rfl ?_;
                refine RS.nil ?_)
            | (refine CS.drawQ (id := 9) mix (by kernel_rfl) ?_;
                refine QS.pv (PV.all tab_ok rfl) rfl ?_;
                refine QS.pv (PV.all tab_ok rfl) rfl ?_;
                refine QS.pv (PV.all tab_ok rfl) rfl ?_;
                (first | refine QS.pv (PV.indexAddr tab_ok rfl rfl rfl (by omega)) rfl ?_ | refine QS.pv (PV.indexAddrA tab_ok rfl rfl rfl (by omega)) rfl ?_);
                refine QS.lv (LV.load1 tab_ok rfl (Has.imm g1) rfl q1) rfl ?_;
                (all_goals refine QS.call (v := .int .i64 (-1)) ((place_80 _ _ a _ _ ((hka.le hi6)) (by omega)).mono fun _ _ _ _ ⟨h1, h2⟩ => ⟨by rw [h1, hpA], h2⟩) rfl (by kernel_rfl) rfl ?_);
                (all_goals refine QS.pv (PV.all tab_ok rfl) rfl ?_);
                (all_goals refine QS.pv (PV.all tab_ok rfl) rfl ?_);
                (all_goals refine QS.pv (PV.all tab_ok rfl) rfl ?_);
                (all_goals (first | refine QS.pv (PV.indexAddr tab_ok rfl rfl rfl (by omega)) rfl ?_ | refine QS.pv (PV.indexAddrA tab_ok rfl rfl rfl (by omega)) rfl ?_));
                (all_goals refine QS.lv (LV.load1 tab_ok rfl (Has.imm g1) rfl q1) rfl ?_);
                (all_goals refine QS.call (v := .int .i64 (-1)) ((place_80 _ _ a _ _ ((hkb.le hi6)) (by omega)).mono fun _ _ _ _ ⟨h1, h2⟩ => ⟨by rw [h1, hpB], h2⟩) rfl (by kernel_rfl) rfl ?_);
                (all_goals refine QS.pv (PV.all tab_ok rfl) rfl ?_);
                (all_goals refine QS.pv (PV.all tab_ok rfl) rfl ?_);
                (all_goals refine QS.nil ?_))
            | (refine CS.region (id := 10) ?_;
                refine RS.pv (PV.all tab_ok rfl) rfl ?_;
                (first | refine RS.pv (PV.lssT rfl rfl (by omega)) rfl ?_ | refine RS.pv (PV.lssF rfl rfl (by omega)) rfl ?_ | refine RS.ifLss rfl rfl rfl (fun h => ?_) (fun h => ?_));
                (all_goals refine RS.pv (PV.all tab_ok rfl) rfl ?_);
                (all_goals refine RS.nil ?_))
            | (refine CS.region (id := 11) ?_;
                refine RS.pv (PV.all tab_ok rfl) rfl ?_;
                refine RS.pv (PV.all tab_ok rfl) rfl ?_;
                refine RS.pv (PV.all tab_ok rfl) rfl ?_;
                refine RS.pv (PV.all tab_ok rfl) rfl ?_;
                (first | refine RS.pv (PV.indexAddr tab_ok rfl rfl rfl (by omega)) rfl ?_ | refine RS.pv (PV.indexAddrA tab_ok rfl rfl rfl (by omega)) rfl ?_);
                refine RS.lv (LV.load1 tab_ok rfl (Has.imm g1) rfl q1) rfl ?_;
                (all_goals refine RS.pv (PV.all tab_ok rfl) rfl ?_);
                (all_goals refine RS.buildSliceF tab_ok 3 rfl rfl rfl (fun bb i9 hi9 hbs => ?_));
                (all_goals (refine RS.append tab_ok (sz := 3) (bytes := 32) (k := pre.length + ((names.take k).filterMap (dI (n : Int) (keysOf A n) (keysOf B n) (smI A B n))).length) (m := 1) (xs := diffs (pre ++ (names.take k).filterMap (dI (n : Int) (keysOf A n) (keysOf B n) (smI A B n)))) (news := [Value.int .i64 (n : Int), .int .i64 1, .string a]) rfl rfl rfl ⟨_, rfl, rfl⟩ ⟨_, rfl, rfl, rfl⟩ (by omega) hO rfl (hbs.rd _) (by intro c hc; simp at hc; rcases hc with rfl | rfl | rfl <;> rfl) (by omega) (by omega) ?_; intro v' O' hO' hnil; obtain ⟨oa', oc', rfl⟩ := SlO.shape hO'));
                (all_goals refine RS.pv (PV.all tab_ok rfl) rfl ?_);
                (all_goals refine RS.nil ?_))
            | refine CS.ret ?_
            | refine thenQ.ret ?_
            | refine blkQ.ret ?_
            | refine retQ.ret ?_
            | refine CS.block ?_
            | refine CS.exit ?_
            | refine thenQ.exit ?_
            | refine blkQ.normal ?_
            | refine blkQ.here ?_
            | refine blkQ.past rfl ?_
            | refine retQ.normal ?_)
          exact ⟨names.length - (k + 1), by omega, k + 1, O', oa', oc', rfl, hlt, hi6.trans hi9, by rw [el, e, ← List.append_assoc, diffs_snoc, ← Nat.add_assoc]; exact hO', by rw [el, ← Nat.add_assoc]; rfl, rfl⟩
        · repeat' (first
            | refine CS.seq ?_
            | refine thenQ.normal ?_
            | refine CS.cond_true rfl ?_
            | refine CS.cond_false rfl ?_
            | refine CS.skip ?_
            | (refine CS.region (id := 7) ?_;
                refine RS.pv (PV.all tab_ok rfl) rfl ?_;
                refine RS.pv (PV.all tab_ok rfl) rfl ?_;
                (first | refine RS.pv (PV.lenS tab_ok rfl rfl) rfl ?_ | refine RS.pv (PV.lenT tab_ok rfl rfl) rfl ?_);
                (first | refine RS.pv (PV.lssT rfl rfl (by omega)) rfl ?_ | refine RS.pv (PV.lssF rfl rfl (by omega)) rfl ?_ | refine RS.ifLss rfl rfl rfl (fun h => ?_) (fun h => ?_));
                (all_goals refine RS.nil ?_))
            | (refine CS.region (id := 8) ?_;
                refine RS.pv (PV.all tab_ok rfl) rfl ?_;
                refine RS.pv (PV.add rfl rfl (by omega)) rfl ?_;
                refine RS.pv (PV.all tab_ok rfl) rfl ?_;
                refine RS.nil ?_)
            | (refine CS.drawQ (id := 9) mix (by kernel_rfl) ?_;
                refine QS.pv (PV.all tab_ok rfl) rfl ?_;
                refine QS.pv (PV.all tab_ok rfl) rfl ?_;
                refine QS.pv (PV.all tab_ok rfl) rfl ?_;
                (first | refine QS.pv (PV.indexAddr tab_ok rfl rfl rfl (by omega)) rfl ?_ | refine QS.pv (PV.indexAddrA tab_ok rfl rfl rfl (by omega)) rfl ?_);
                refine QS.lv (LV.load1 tab_ok rfl (Has.imm g1) rfl q1) rfl ?_;
                (all_goals refine QS.call (v := .int .i64 (-1)) ((place_80 _ _ a _ _ ((hka.le hi6)) (by omega)).mono fun _ _ _ _ ⟨h1, h2⟩ => ⟨by rw [h1, hpA], h2⟩) rfl (by kernel_rfl) rfl ?_);
                (all_goals refine QS.pv (PV.all tab_ok rfl) rfl ?_);
                (all_goals refine QS.pv (PV.all tab_ok rfl) rfl ?_);
                (all_goals refine QS.pv (PV.all tab_ok rfl) rfl ?_);
                (all_goals (first | refine QS.pv (PV.indexAddr tab_ok rfl rfl rfl (by omega)) rfl ?_ | refine QS.pv (PV.indexAddrA tab_ok rfl rfl rfl (by omega)) rfl ?_));
                (all_goals refine QS.lv (LV.load1 tab_ok rfl (Has.imm g1) rfl q1) rfl ?_);
                (all_goals refine QS.call (v := .int .i64 (y)) ((place_80 _ _ a _ _ ((hkb.le hi6)) (by omega)).mono fun _ _ _ _ ⟨h1, h2⟩ => ⟨by rw [h1, hpB], h2⟩) rfl (by kernel_rfl) rfl ?_);
                (all_goals refine QS.pv (PV.all tab_ok rfl) rfl ?_);
                (all_goals refine QS.pv (PV.all tab_ok rfl) rfl ?_);
                (all_goals refine QS.nil ?_))
            | (refine CS.region (id := 10) ?_;
                refine RS.pv (PV.all tab_ok rfl) rfl ?_;
                (first | refine RS.pv (PV.lssT rfl rfl (by omega)) rfl ?_ | refine RS.pv (PV.lssF rfl rfl (by omega)) rfl ?_ | refine RS.ifLss rfl rfl rfl (fun h => ?_) (fun h => ?_));
                (all_goals refine RS.pv (PV.all tab_ok rfl) rfl ?_);
                (all_goals refine RS.nil ?_))
            | (refine CS.region (id := 11) ?_;
                refine RS.pv (PV.all tab_ok rfl) rfl ?_;
                refine RS.pv (PV.all tab_ok rfl) rfl ?_;
                refine RS.pv (PV.all tab_ok rfl) rfl ?_;
                refine RS.pv (PV.all tab_ok rfl) rfl ?_;
                (first | refine RS.pv (PV.indexAddr tab_ok rfl rfl rfl (by omega)) rfl ?_ | refine RS.pv (PV.indexAddrA tab_ok rfl rfl rfl (by omega)) rfl ?_);
                refine RS.lv (LV.load1 tab_ok rfl (Has.imm g1) rfl q1) rfl ?_;
                (all_goals refine RS.pv (PV.all tab_ok rfl) rfl ?_);
                (all_goals refine RS.buildSliceF tab_ok 3 rfl rfl rfl (fun bb i9 hi9 hbs => ?_));
                (all_goals (refine RS.append tab_ok (sz := 3) (bytes := 32) (k := pre.length + ((names.take k).filterMap (dI (n : Int) (keysOf A n) (keysOf B n) (smI A B n))).length) (m := 1) (xs := diffs (pre ++ (names.take k).filterMap (dI (n : Int) (keysOf A n) (keysOf B n) (smI A B n)))) (news := [Value.int .i64 (n : Int), .int .i64 1, .string a]) rfl rfl rfl ⟨_, rfl, rfl⟩ ⟨_, rfl, rfl, rfl⟩ (by omega) hO rfl (hbs.rd _) (by intro c hc; simp at hc; rcases hc with rfl | rfl | rfl <;> rfl) (by omega) (by omega) ?_; intro v' O' hO' hnil; obtain ⟨oa', oc', rfl⟩ := SlO.shape hO'));
                (all_goals refine RS.pv (PV.all tab_ok rfl) rfl ?_);
                (all_goals refine RS.nil ?_))
            | refine CS.ret ?_
            | refine thenQ.ret ?_
            | refine blkQ.ret ?_
            | refine retQ.ret ?_
            | refine CS.block ?_
            | refine CS.exit ?_
            | refine thenQ.exit ?_
            | refine blkQ.normal ?_
            | refine blkQ.here ?_
            | refine blkQ.past rfl ?_
            | refine retQ.normal ?_)
          exact ⟨names.length - (k + 1), by omega, k + 1, O', oa', oc', rfl, hlt, hi6.trans hi9, by rw [el, e, ← List.append_assoc, diffs_snoc, ← Nat.add_assoc]; exact hO', by rw [el, ← Nat.add_assoc]; rfl, rfl⟩
      · rcases plv_cases a (keysOf B n) with hpB | ⟨y, hy, hpB⟩
        · obtain ⟨e, el⟩ := hsp ⟨(n : Int), 2, a⟩ (by unfold dI; rw [hpA, hpB, if_neg (by omega)]; rfl)
          repeat' (first
            | refine CS.seq ?_
            | refine thenQ.normal ?_
            | refine CS.cond_true rfl ?_
            | refine CS.cond_false rfl ?_
            | refine CS.skip ?_
            | (refine CS.region (id := 7) ?_;
                refine RS.pv (PV.all tab_ok rfl) rfl ?_;
                refine RS.pv (PV.all tab_ok rfl) rfl ?_;
                (first | refine RS.pv (PV.lenS tab_ok rfl rfl) rfl ?_ | refine RS.pv (PV.lenT tab_ok rfl rfl) rfl ?_);
                (first | refine RS.pv (PV.lssT rfl rfl (by omega)) rfl ?_ | refine RS.pv (PV.lssF rfl rfl (by omega)) rfl ?_ | refine RS.ifLss rfl rfl rfl (fun h => ?_) (fun h => ?_));
                (all_goals refine RS.nil ?_))
            | (refine CS.region (id := 8) ?_;
                refine RS.pv (PV.all tab_ok rfl) rfl ?_;
                refine RS.pv (PV.add rfl rfl (by omega)) rfl ?_;
                refine RS.pv (PV.all tab_ok rfl) rfl ?_;
                refine RS.nil ?_)
            | (refine CS.drawQ (id := 9) mix (by kernel_rfl) ?_;
                refine QS.pv (PV.all tab_ok rfl) rfl ?_;
                refine QS.pv (PV.all tab_ok rfl) rfl ?_;
                refine QS.pv (PV.all tab_ok rfl) rfl ?_;
                (first | refine QS.pv (PV.indexAddr tab_ok rfl rfl rfl (by omega)) rfl ?_ | refine QS.pv (PV.indexAddrA tab_ok rfl rfl rfl (by omega)) rfl ?_);
                refine QS.lv (LV.load1 tab_ok rfl (Has.imm g1) rfl q1) rfl ?_;
                (all_goals refine QS.call (v := .int .i64 (x)) ((place_80 _ _ a _ _ ((hka.le hi6)) (by omega)).mono fun _ _ _ _ ⟨h1, h2⟩ => ⟨by rw [h1, hpA], h2⟩) rfl (by kernel_rfl) rfl ?_);
                (all_goals refine QS.pv (PV.all tab_ok rfl) rfl ?_);
                (all_goals refine QS.pv (PV.all tab_ok rfl) rfl ?_);
                (all_goals refine QS.pv (PV.all tab_ok rfl) rfl ?_);
                (all_goals (first | refine QS.pv (PV.indexAddr tab_ok rfl rfl rfl (by omega)) rfl ?_ | refine QS.pv (PV.indexAddrA tab_ok rfl rfl rfl (by omega)) rfl ?_));
                (all_goals refine QS.lv (LV.load1 tab_ok rfl (Has.imm g1) rfl q1) rfl ?_);
                (all_goals refine QS.call (v := .int .i64 (-1)) ((place_80 _ _ a _ _ ((hkb.le hi6)) (by omega)).mono fun _ _ _ _ ⟨h1, h2⟩ => ⟨by rw [h1, hpB], h2⟩) rfl (by kernel_rfl) rfl ?_);
                (all_goals refine QS.pv (PV.all tab_ok rfl) rfl ?_);
                (all_goals refine QS.pv (PV.all tab_ok rfl) rfl ?_);
                (all_goals refine QS.nil ?_))
            | (refine CS.region (id := 10) ?_;
                refine RS.pv (PV.all tab_ok rfl) rfl ?_;
                (first | refine RS.pv (PV.lssT rfl rfl (by omega)) rfl ?_ | refine RS.pv (PV.lssF rfl rfl (by omega)) rfl ?_ | refine RS.ifLss rfl rfl rfl (fun h => ?_) (fun h => ?_));
                (all_goals refine RS.pv (PV.all tab_ok rfl) rfl ?_);
                (all_goals refine RS.nil ?_))
            | (refine CS.region (id := 12) ?_;
                refine RS.pv (PV.all tab_ok rfl) rfl ?_;
                (first | refine RS.pv (PV.lssT rfl rfl (by omega)) rfl ?_ | refine RS.pv (PV.lssF rfl rfl (by omega)) rfl ?_ | refine RS.ifLss rfl rfl rfl (fun h => ?_) (fun h => ?_));
                (all_goals refine RS.pv (PV.all tab_ok rfl) rfl ?_);
                (all_goals refine RS.nil ?_))
            | (refine CS.region (id := 13) ?_;
                refine RS.pv (PV.all tab_ok rfl) rfl ?_;
                refine RS.pv (PV.all tab_ok rfl) rfl ?_;
                refine RS.pv (PV.all tab_ok rfl) rfl ?_;
                refine RS.pv (PV.all tab_ok rfl) rfl ?_;
                (first | refine RS.pv (PV.indexAddr tab_ok rfl rfl rfl (by omega)) rfl ?_ | refine RS.pv (PV.indexAddrA tab_ok rfl rfl rfl (by omega)) rfl ?_);
                refine RS.lv (LV.load1 tab_ok rfl (Has.imm g1) rfl q1) rfl ?_;
                (all_goals refine RS.pv (PV.all tab_ok rfl) rfl ?_);
                (all_goals refine RS.buildSliceF tab_ok 3 rfl rfl rfl (fun bb i9 hi9 hbs => ?_));
                (all_goals (refine RS.append tab_ok (sz := 3) (bytes := 32) (k := pre.length + ((names.take k).filterMap (dI (n : Int) (keysOf A n) (keysOf B n) (smI A B n))).length) (m := 1) (xs := diffs (pre ++ (names.take k).filterMap (dI (n : Int) (keysOf A n) (keysOf B n) (smI A B n)))) (news := [Value.int .i64 (n : Int), .int .i64 2, .string a]) rfl rfl rfl ⟨_, rfl, rfl⟩ ⟨_, rfl, rfl, rfl⟩ (by omega) hO rfl (hbs.rd _) (by intro c hc; simp at hc; rcases hc with rfl | rfl | rfl <;> rfl) (by omega) (by omega) ?_; intro v' O' hO' hnil; obtain ⟨oa', oc', rfl⟩ := SlO.shape hO'));
                (all_goals refine RS.pv (PV.all tab_ok rfl) rfl ?_);
                (all_goals refine RS.nil ?_))
            | refine CS.ret ?_
            | refine thenQ.ret ?_
            | refine blkQ.ret ?_
            | refine retQ.ret ?_
            | refine CS.block ?_
            | refine CS.exit ?_
            | refine thenQ.exit ?_
            | refine blkQ.normal ?_
            | refine blkQ.here ?_
            | refine blkQ.past rfl ?_
            | refine retQ.normal ?_)
          exact ⟨names.length - (k + 1), by omega, k + 1, O', oa', oc', rfl, hlt, hi6.trans hi9, by rw [el, e, ← List.append_assoc, diffs_snoc, ← Nat.add_assoc]; exact hO', by rw [el, ← Nat.add_assoc]; rfl, rfl⟩
        · have hsm := same_81 n hn1 hn5 _ _ A B x y i' (O ++ L) (hA'.le hi6) (hB'.le hi6) oA oB hx hy
          cases hsb : smI A B n x y with
          | true =>
            rw [hsb] at hsm
            have e : ((names.take (k + 1)).filterMap (dI (n : Int) (keysOf A n) (keysOf B n) (smI A B n))) = ((names.take k).filterMap (dI (n : Int) (keysOf A n) (keysOf B n) (smI A B n))) := by
              rw [hnx, show (dI (n : Int) (keysOf A n) (keysOf B n) (smI A B n)) a = none by unfold dI; rw [hpA, hpB, if_neg (by omega), if_neg (by omega), Int.toNat_natCast, Int.toNat_natCast, hsb]; rfl]
              simp
            repeat' (first
              | refine CS.seq ?_
              | refine thenQ.normal ?_
              | refine CS.cond_true rfl ?_
              | refine CS.cond_false rfl ?_
              | refine CS.skip ?_
              | (refine CS.region (id := 7) ?_;
                  refine RS.pv (PV.all tab_ok rfl) rfl ?_;
                  refine RS.pv (PV.all tab_ok rfl) rfl ?_;
                  (first | refine RS.pv (PV.lenS tab_ok rfl rfl) rfl ?_ | refine RS.pv (PV.lenT tab_ok rfl rfl) rfl ?_);
                  (first | refine RS.pv (PV.lssT rfl rfl (by omega)) rfl ?_ | refine RS.pv (PV.lssF rfl rfl (by omega)) rfl ?_ | refine RS.ifLss rfl rfl rfl (fun h => ?_) (fun h => ?_));
                  (all_goals refine RS.nil ?_))
              | (refine CS.region (id := 8) ?_;
                  refine RS.pv (PV.all tab_ok rfl) rfl ?_;
                  refine RS.pv (PV.add rfl rfl (by omega)) rfl ?_;
                  refine RS.pv (PV.all tab_ok rfl) rfl ?_;
                  refine RS.nil ?_)
              | (refine CS.drawQ (id := 9) mix (by kernel_rfl) ?_;
                  refine QS.pv (PV.all tab_ok rfl) rfl ?_;
                  refine QS.pv (PV.all tab_ok rfl) rfl ?_;
                  refine QS.pv (PV.all tab_ok rfl) rfl ?_;
                  (first | refine QS.pv (PV.indexAddr tab_ok rfl rfl rfl (by omega)) rfl ?_ | refine QS.pv (PV.indexAddrA tab_ok rfl rfl rfl (by omega)) rfl ?_);
                  refine QS.lv (LV.load1 tab_ok rfl (Has.imm g1) rfl q1) rfl ?_;
                  (all_goals refine QS.call (v := .int .i64 (x)) ((place_80 _ _ a _ _ ((hka.le hi6)) (by omega)).mono fun _ _ _ _ ⟨h1, h2⟩ => ⟨by rw [h1, hpA], h2⟩) rfl (by kernel_rfl) rfl ?_);
                  (all_goals refine QS.pv (PV.all tab_ok rfl) rfl ?_);
                  (all_goals refine QS.pv (PV.all tab_ok rfl) rfl ?_);
                  (all_goals refine QS.pv (PV.all tab_ok rfl) rfl ?_);
                  (all_goals (first | refine QS.pv (PV.indexAddr tab_ok rfl rfl rfl (by omega)) rfl ?_ | refine QS.pv (PV.indexAddrA tab_ok rfl rfl rfl (by omega)) rfl ?_));
                  (all_goals refine QS.lv (LV.load1 tab_ok rfl (Has.imm g1) rfl q1) rfl ?_);
                  (all_goals refine QS.call (v := .int .i64 (y)) ((place_80 _ _ a _ _ ((hkb.le hi6)) (by omega)).mono fun _ _ _ _ ⟨h1, h2⟩ => ⟨by rw [h1, hpB], h2⟩) rfl (by kernel_rfl) rfl ?_);
                  (all_goals refine QS.pv (PV.all tab_ok rfl) rfl ?_);
                  (all_goals refine QS.pv (PV.all tab_ok rfl) rfl ?_);
                  (all_goals refine QS.nil ?_))
              | (refine CS.region (id := 10) ?_;
                  refine RS.pv (PV.all tab_ok rfl) rfl ?_;
                  (first | refine RS.pv (PV.lssT rfl rfl (by omega)) rfl ?_ | refine RS.pv (PV.lssF rfl rfl (by omega)) rfl ?_ | refine RS.ifLss rfl rfl rfl (fun h => ?_) (fun h => ?_));
                  (all_goals refine RS.pv (PV.all tab_ok rfl) rfl ?_);
                  (all_goals refine RS.nil ?_))
              | (refine CS.region (id := 12) ?_;
                  refine RS.pv (PV.all tab_ok rfl) rfl ?_;
                  (first | refine RS.pv (PV.lssT rfl rfl (by omega)) rfl ?_ | refine RS.pv (PV.lssF rfl rfl (by omega)) rfl ?_ | refine RS.ifLss rfl rfl rfl (fun h => ?_) (fun h => ?_));
                  (all_goals refine RS.pv (PV.all tab_ok rfl) rfl ?_);
                  (all_goals refine RS.nil ?_))
              | (refine CS.region (id := 14) ?_;
                  (first | refine RS.lv (LV.load tab_ok rfl (Has.imm hbx6) rfl) rfl ?_ | refine RS.lv (LV.load tab_ok rfl (Has.imm hby6) rfl) rfl ?_);
                  (first | refine RS.lv (LV.load tab_ok rfl (Has.imm hbx6) rfl) rfl ?_ | refine RS.lv (LV.load tab_ok rfl (Has.imm hby6) rfl) rfl ?_);
                  refine RS.pv (PV.all tab_ok rfl) rfl ?_;
                  refine RS.pv (PV.all tab_ok rfl) rfl ?_;
                  refine RS.pv (PV.all tab_ok rfl) rfl ?_;
                  (refine RS.call hsm rfl (by kernel_rfl) rfl ?_; rintro v i8 L8 hi8 ⟨rfl, rfl⟩);
                  (all_goals refine RS.pv (PV.all tab_ok rfl) rfl ?_);
                  (all_goals refine RS.pv (PV.all tab_ok rfl) rfl ?_);
                  (all_goals refine RS.nil ?_))
              | refine CS.ret ?_
              | refine thenQ.ret ?_
              | refine blkQ.ret ?_
              | refine retQ.ret ?_
              | refine CS.block ?_
              | refine CS.exit ?_
              | refine thenQ.exit ?_
              | refine blkQ.normal ?_
              | refine blkQ.here ?_
              | refine blkQ.past rfl ?_
              | refine retQ.normal ?_)
            exact ⟨names.length - (k + 1), by omega, k + 1, O, oa, oc, rfl, hlt, hi6.trans hi8, by rw [e]; exact hO, by rw [e]; rfl, rfl⟩
          | false =>
            rw [hsb] at hsm
            obtain ⟨e, el⟩ := hsp ⟨(n : Int), 3, a⟩ (by unfold dI; rw [hpA, hpB, if_neg (by omega), if_neg (by omega), Int.toNat_natCast, Int.toNat_natCast, hsb]; rfl)
            repeat' (first
              | refine CS.seq ?_
              | refine thenQ.normal ?_
              | refine CS.cond_true rfl ?_
              | refine CS.cond_false rfl ?_
              | refine CS.skip ?_
              | (refine CS.region (id := 7) ?_;
                  refine RS.pv (PV.all tab_ok rfl) rfl ?_;
                  refine RS.pv (PV.all tab_ok rfl) rfl ?_;
                  (first | refine RS.pv (PV.lenS tab_ok rfl rfl) rfl ?_ | refine RS.pv (PV.lenT tab_ok rfl rfl) rfl ?_);
                  (first | refine RS.pv (PV.lssT rfl rfl (by omega)) rfl ?_ | refine RS.pv (PV.lssF rfl rfl (by omega)) rfl ?_ | refine RS.ifLss rfl rfl rfl (fun h => ?_) (fun h => ?_));
                  (all_goals refine RS.nil ?_))
              | (refine CS.region (id := 8) ?_;
                  refine RS.pv (PV.all tab_ok rfl) rfl ?_;
                  refine RS.pv (PV.add rfl rfl (by omega)) rfl ?_;
                  refine RS.pv (PV.all tab_ok rfl) rfl ?_;
                  refine RS.nil ?_)
              | (refine CS.drawQ (id := 9) mix (by kernel_rfl) ?_;
                  refine QS.pv (PV.all tab_ok rfl) rfl ?_;
                  refine QS.pv (PV.all tab_ok rfl) rfl ?_;
                  refine QS.pv (PV.all tab_ok rfl) rfl ?_;
                  (first | refine QS.pv (PV.indexAddr tab_ok rfl rfl rfl (by omega)) rfl ?_ | refine QS.pv (PV.indexAddrA tab_ok rfl rfl rfl (by omega)) rfl ?_);
                  refine QS.lv (LV.load1 tab_ok rfl (Has.imm g1) rfl q1) rfl ?_;
                  (all_goals refine QS.call (v := .int .i64 (x)) ((place_80 _ _ a _ _ ((hka.le hi6)) (by omega)).mono fun _ _ _ _ ⟨h1, h2⟩ => ⟨by rw [h1, hpA], h2⟩) rfl (by kernel_rfl) rfl ?_);
                  (all_goals refine QS.pv (PV.all tab_ok rfl) rfl ?_);
                  (all_goals refine QS.pv (PV.all tab_ok rfl) rfl ?_);
                  (all_goals refine QS.pv (PV.all tab_ok rfl) rfl ?_);
                  (all_goals (first | refine QS.pv (PV.indexAddr tab_ok rfl rfl rfl (by omega)) rfl ?_ | refine QS.pv (PV.indexAddrA tab_ok rfl rfl rfl (by omega)) rfl ?_));
                  (all_goals refine QS.lv (LV.load1 tab_ok rfl (Has.imm g1) rfl q1) rfl ?_);
                  (all_goals refine QS.call (v := .int .i64 (y)) ((place_80 _ _ a _ _ ((hkb.le hi6)) (by omega)).mono fun _ _ _ _ ⟨h1, h2⟩ => ⟨by rw [h1, hpB], h2⟩) rfl (by kernel_rfl) rfl ?_);
                  (all_goals refine QS.pv (PV.all tab_ok rfl) rfl ?_);
                  (all_goals refine QS.pv (PV.all tab_ok rfl) rfl ?_);
                  (all_goals refine QS.nil ?_))
              | (refine CS.region (id := 10) ?_;
                  refine RS.pv (PV.all tab_ok rfl) rfl ?_;
                  (first | refine RS.pv (PV.lssT rfl rfl (by omega)) rfl ?_ | refine RS.pv (PV.lssF rfl rfl (by omega)) rfl ?_ | refine RS.ifLss rfl rfl rfl (fun h => ?_) (fun h => ?_));
                  (all_goals refine RS.pv (PV.all tab_ok rfl) rfl ?_);
                  (all_goals refine RS.nil ?_))
              | (refine CS.region (id := 12) ?_;
                  refine RS.pv (PV.all tab_ok rfl) rfl ?_;
                  (first | refine RS.pv (PV.lssT rfl rfl (by omega)) rfl ?_ | refine RS.pv (PV.lssF rfl rfl (by omega)) rfl ?_ | refine RS.ifLss rfl rfl rfl (fun h => ?_) (fun h => ?_));
                  (all_goals refine RS.pv (PV.all tab_ok rfl) rfl ?_);
                  (all_goals refine RS.nil ?_))
              | (refine CS.region (id := 14) ?_;
                  (first | refine RS.lv (LV.load tab_ok rfl (Has.imm hbx6) rfl) rfl ?_ | refine RS.lv (LV.load tab_ok rfl (Has.imm hby6) rfl) rfl ?_);
                  (first | refine RS.lv (LV.load tab_ok rfl (Has.imm hbx6) rfl) rfl ?_ | refine RS.lv (LV.load tab_ok rfl (Has.imm hby6) rfl) rfl ?_);
                  refine RS.pv (PV.all tab_ok rfl) rfl ?_;
                  refine RS.pv (PV.all tab_ok rfl) rfl ?_;
                  refine RS.pv (PV.all tab_ok rfl) rfl ?_;
                  (refine RS.call hsm rfl (by kernel_rfl) rfl ?_; rintro v i8 L8 hi8 ⟨rfl, rfl⟩; replace g1 := hi8.blk _ _ g1);
                  (all_goals refine RS.pv (PV.all tab_ok rfl) rfl ?_);
                  (all_goals refine RS.pv (PV.all tab_ok rfl) rfl ?_);
                  (all_goals refine RS.nil ?_))
              | (refine CS.region (id := 15) ?_;
                  refine RS.pv (PV.all tab_ok rfl) rfl ?_;
                  refine RS.pv (PV.all tab_ok rfl) rfl ?_;
                  refine RS.pv (PV.all tab_ok rfl) rfl ?_;
                  refine RS.pv (PV.all tab_ok rfl) rfl ?_;
                  (first | refine RS.pv (PV.indexAddr tab_ok rfl rfl rfl (by omega)) rfl ?_ | refine RS.pv (PV.indexAddrA tab_ok rfl rfl rfl (by omega)) rfl ?_);
                  refine RS.lv (LV.load1 tab_ok rfl (Has.imm g1) rfl q1) rfl ?_;
                  (all_goals refine RS.pv (PV.all tab_ok rfl) rfl ?_);
                  (all_goals refine RS.buildSliceF tab_ok 3 rfl rfl rfl (fun bb i9 hi9 hbs => ?_));
                  (all_goals (refine RS.append tab_ok (sz := 3) (bytes := 32) (k := pre.length + ((names.take k).filterMap (dI (n : Int) (keysOf A n) (keysOf B n) (smI A B n))).length) (m := 1) (xs := diffs (pre ++ (names.take k).filterMap (dI (n : Int) (keysOf A n) (keysOf B n) (smI A B n)))) (news := [Value.int .i64 (n : Int), .int .i64 3, .string a]) rfl rfl rfl ⟨_, rfl, rfl⟩ ⟨_, rfl, rfl, rfl⟩ (by omega) hO rfl (hbs.rd _) (by intro c hc; simp at hc; rcases hc with rfl | rfl | rfl <;> rfl) (by omega) (by omega) ?_; intro v' O' hO' hnil; obtain ⟨oa', oc', rfl⟩ := SlO.shape hO'));
                  (all_goals refine RS.pv (PV.all tab_ok rfl) rfl ?_);
                  (all_goals refine RS.nil ?_))
              | refine CS.ret ?_
              | refine thenQ.ret ?_
              | refine blkQ.ret ?_
              | refine retQ.ret ?_
              | refine CS.block ?_
              | refine CS.exit ?_
              | refine thenQ.exit ?_
              | refine blkQ.normal ?_
              | refine blkQ.here ?_
              | refine blkQ.past rfl ?_
              | refine retQ.normal ?_)
            exact ⟨names.length - (k + 1), by omega, k + 1, O', oa', oc', rfl, hlt, (hi6.trans hi8).trans hi9, by rw [el, e, ← List.append_assoc, diffs_snoc, ← Nat.add_assoc]; exact hO', by rw [el, ← Nat.add_assoc]; rfl, rfl⟩
    · have : k = names.length := by omega
      subst this
      rw [List.take_length] at hO ⊢
      have hfl := List.length_filterMap_le (dI (n : Int) (keysOf A n) (keysOf B n) (smI A B n)) names
      repeat' (first
        | refine CS.seq ?_
        | refine thenQ.normal ?_
        | refine CS.cond_true rfl ?_
        | refine CS.cond_false rfl ?_
        | refine CS.skip ?_
        | (refine CS.region (id := 4) ?_;
            refine RS.pv (PV.all tab_ok rfl) rfl ?_;
            refine RS.pv (PV.add rfl rfl (by omega)) rfl ?_;
            refine RS.pv (PV.all tab_ok rfl) rfl ?_;
            refine RS.nil ?_)
        | (refine CS.region (id := 7) ?_;
            refine RS.pv (PV.all tab_ok rfl) rfl ?_;
            refine RS.pv (PV.all tab_ok rfl) rfl ?_;
            (first | refine RS.pv (PV.lenS tab_ok rfl rfl) rfl ?_ | refine RS.pv (PV.lenT tab_ok rfl rfl) rfl ?_);
            (first | refine RS.pv (PV.lssT rfl rfl (by omega)) rfl ?_ | refine RS.pv (PV.lssF rfl rfl (by omega)) rfl ?_ | refine RS.ifLss rfl rfl rfl (fun h => ?_) (fun h => ?_));
            (all_goals refine RS.nil ?_))
        | (refine CS.region (id := 8) ?_;
            refine RS.pv (PV.all tab_ok rfl) rfl ?_;
            refine RS.pv (PV.add rfl rfl (by omega)) rfl ?_;
            refine RS.pv (PV.all tab_ok rfl) rfl ?_;
            refine RS.nil ?_)
        | refine CS.ret ?_
        | refine thenQ.ret ?_
        | refine blkQ.ret ?_
        | refine retQ.ret ?_
        | refine CS.block ?_
        | refine CS.exit ?_
        | refine thenQ.exit ?_
        | refine blkQ.normal ?_
        | refine blkQ.here ?_
        | refine blkQ.past rfl ?_
        | refine retQ.normal ?_)
      have hn' : n - 1 + 1 = n := by omega
      refine ⟨6 - (n + 1), by omega, n + 1, pre ++ names.filterMap (dI (n : Int) (keysOf A n) (keysOf B n) (smI A B n)), O, oa, oc, rfl, by omega, by omega, (hi.trans hi5).trans hi6, ?_, by rw [List.length_append]; omega, by rw [List.length_append]; exact hO, by rw [List.length_append]; rfl, rfl⟩
      rw [show n + 1 - 1 = n - 1 + 1 by omega]
      exact ⟨pre, _, hRD, by rw [hn']; exact ⟨names, hasc, hmem, rfl⟩, rfl⟩
  · have : n = 6 := by omega
    subst this
    repeat' (first
      | refine CS.seq ?_
      | refine thenQ.normal ?_
      | refine CS.cond_true rfl ?_
      | refine CS.cond_false rfl ?_
      | refine CS.skip ?_
      | (refine CS.region (id := 3) ?_;
          refine RS.pv (PV.all tab_ok rfl) rfl ?_;
          (first | refine RS.pv (PV.leqT rfl rfl (by omega)) rfl ?_ | refine RS.pv (PV.leqF rfl rfl (by omega)) rfl ?_ | refine RS.ifLeq rfl rfl rfl (fun h => ?_) (fun h => ?_));
          (all_goals refine RS.nil ?_))
      | (refine CS.region (id := 16) ?_;
          refine RS.pv (PV.all tab_ok rfl) rfl ?_;
          refine RS.pv (PV.all tab_ok rfl) rfl ?_;
          refine RS.nil ?_)
      | refine CS.ret ?_
      | refine thenQ.ret ?_
      | refine blkQ.ret ?_
      | refine retQ.ret ?_
      | refine CS.block ?_
      | refine CS.exit ?_
      | refine thenQ.exit ?_
      | refine blkQ.normal ?_
      | refine blkQ.here ?_
      | refine blkQ.past rfl ?_
      | refine retQ.normal ?_)
    exact ⟨pre, O, hO, hRD.whole, rfl⟩
end Go.Proofs.Ytmcajldlcomegaa
