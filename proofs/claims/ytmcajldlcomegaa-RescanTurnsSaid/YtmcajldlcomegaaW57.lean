/- RescanCompares, part 12: the reference's names and same. -/
import Derived.Test.YtmcajldlcomegaaW56
namespace Go.Proofs.Ytmcajldlcomegaa
open Go Go.Eng

/-- the names of the first worlds of a list -/
def nmIn (ws : List (List Value × WorldD)) (n j : Nat) (a : ByteArray) : Prop := ∃ p ∈ ws.take j, a ∈ keysOf p.2 n
theorem nmIn_succ {ws : List (List Value × WorldD)} {n j : Nat} {p : List Value × WorldD} (h : ws[j]? = some p) (a : ByteArray) : nmIn ws n (j + 1) a ↔ nmIn ws n j a ∨ a ∈ keysOf p.2 n := by
  unfold nmIn
  rw [List.take_add_one, h]
  constructor
  · rintro ⟨q, hq, ha⟩
    rcases List.mem_append.1 hq with hq | hq
    · exact .inl ⟨q, hq, ha⟩
    · simp at hq; subst hq; exact .inr ha
  · rintro (⟨q, hq, ha⟩ | ha)
    · exact ⟨q, List.mem_append_left _ hq, ha⟩
    · exact ⟨p, by simp, ha⟩
set_option maxHeartbeats 1000000 in
theorem names_79 (n : Nat) (hn1 : 1 ≤ n) (hn5 : n ≤ 5) (ac bc : List Value) (A B : WorldD) (i : Imm) (L : SH) (hA : WorldV i ac A) (hB : WorldV i bc B) (oA : A.ok) (oB : B.ok) (fA : A.few) (fB : B.few) :
    FnS Try.prog 79 [.agg ac.toArray, .agg bc.toArray, .int .i64 (n : Int)] i L fun u i' L' => L' = L ∧ ∃ names, Sl i' u 1 names.length (strs names) ∧ Asc names ∧ (∀ a, a ∈ names ↔ a ∈ keysOf A n ∨ a ∈ keysOf B n) ∧ names.length ≤ 2000000 := by
  refine FnS.state (K := fun u i' L' => ∃ M, (∃ names, Sl i' u 1 names.length (strs names) ∧ Asc names ∧ (∀ a, a ∈ names ↔ a ∈ keysOf A n ∨ a ∈ keysOf B n) ∧ names.length ≤ 2000000) ∧ L' = M ++ L) ?_ ?_
  rotate_left
  · rintro v i' L' w _ hs ⟨M, hv, rfl⟩
    exact ⟨i', L, Imm.le.refl i', hs.dropL, rfl, hv⟩
  obtain ⟨ws, hws⟩ : ∃ ws : List (List Value × WorldD), ws = [(ac, A), (bc, B)] := ⟨_, rfl⟩
  have hwp : ∀ p ∈ ws, WorldV i p.1 p.2 ∧ p.2.ok ∧ p.2.few := fun p hp => by
    rw [hws] at hp
    simp only [List.mem_cons, List.not_mem_nil, or_false] at hp
    rcases hp with rfl | rfl
    · exact ⟨hA, oA, fA⟩
    · exact ⟨hB, oB, fB⟩
  have hw5 : ∀ p ∈ ws, p.1.length = 5 := fun p hp => by
    obtain ⟨v0, v1, v2, v3, v4, e, _⟩ := (hwp p hp).1
    rw [e]; rfl
  have hwl : ws.length = 2 := by rw [hws]; rfl
  obtain ⟨a0, c0, a1, c1, a2, c2, a3, c3, a4, c4, rfl, -⟩ := hA.lit
  obtain ⟨b0, d0, b1, d1, b2, d2, b3, d3, b4, d4, rfl, -⟩ := hB.lit
  refine FnS.intro1 Try.func79 rfl Try.ntmps79 (by simp) Try.results79 ?_
  repeat' (first
    | refine CS.seq ?_
    | refine thenQ.normal ?_
    | refine CS.cond_true rfl ?_
    | refine CS.cond_false rfl ?_
    | refine CS.skip ?_
    | (refine CS.region (id := 0) ?_;
        refine RS.box rfl rfl (fun bx => ?_);
        (all_goals refine RS.box rfl rfl (fun b_y => ?_));
        (all_goals refine RS.pv (PV.all tab_ok rfl) rfl ?_);
        (all_goals refine RS.nil ?_))
    | (refine CS.region (id := 1) ?_;
        refine RS.pv (PV.all tab_ok rfl) rfl ?_;
        refine RS.nil ?_)
    | (refine CS.region (id := 2) ?_;
        (first | refine RS.lv (LV.load tab_ok rfl (Has.own 0 rfl) rfl) rfl ?_ | refine RS.lv (LV.load tab_ok rfl (Has.own 1 rfl) rfl) rfl ?_ | refine RS.lv (LV.load tab_ok rfl (Has.own 2 rfl) rfl) rfl ?_);
        (first | refine RS.lv (LV.load tab_ok rfl (Has.own 0 rfl) rfl) rfl ?_ | refine RS.lv (LV.load tab_ok rfl (Has.own 1 rfl) rfl) rfl ?_ | refine RS.lv (LV.load tab_ok rfl (Has.own 2 rfl) rfl) rfl ?_);
        refine RS.buildSliceF tab_ok 5 rfl rfl rfl (fun bs i1 hi1 hbs => ?_);
        (all_goals refine RS.pv (PV.all tab_ok rfl) rfl ?_);
        (all_goals refine RS.nil ?_))
    | (refine CS.region (id := 3) ?_;
        refine RS.pv (PV.all tab_ok rfl) rfl ?_;
        refine RS.nil ?_)
    | refine CS.ret ?_
    | refine thenQ.ret ?_
    | refine blkQ.ret ?_
    | refine retQ.ret ?_
    | refine CS.block ?_
    | refine CS.exit ?_
    | refine thenQ.exit ?_
    | refine blkQ.normal ?_
    | refine blkQ.here ?_
    | refine blkQ.past rfl ?_
    | refine retQ.normal ?_)
  have hsl : Sl i1 (.slice (some ⟨bs, 0, none⟩) 2 2) 5 ws.length (rowC Prod.fst ws) := by rw [hws]; exact hbs
  refine CS.loop [2, 7, 8, 9] (fun m vs i' L' => ∃ (j : Nat) (l : List ByteArray) (oa : Option Addr) (oc : Nat), m = 2 - j ∧ j ≤ 2 ∧ i1.le i' ∧ Sl i' (.slice oa l.length oc) 1 l.length (strs l) ∧ Asc l ∧ (∀ a, a ∈ l ↔ nmIn ws n j a) ∧ l.length ≤ j * 1000000 ∧ vs = [.int .i64 (n : Int), .slice oa l.length oc, .slice (some ⟨bs, 0, none⟩) 2 2, .int .i64 (j : Int)] ∧ L' = _) 2 ⟨0, [], none, 0, rfl, Nat.zero_le _, Imm.le.refl i1, Sl.nil i1 1, List.Pairwise.nil, fun a => by simp [nmIn], Nat.zero_le _, rfl, rfl⟩ ?_
  rintro m g vs i' L' - ⟨j, l, oa, oc, rfl, hj, hi, hl, hasc, hmem, hlen, rfl, rfl⟩
  by_cases hlt : j < 2
  · obtain ⟨bq, o1, c5, t1, z1, p1, e1, g1, h1⟩ := (hsl.le hi).at (k := j) (by omega) (by omega)
    rw [hwl] at e1
    cases e1
    obtain ⟨⟨wc, W⟩, hw⟩ : ∃ p, ws[j]? = some p := ⟨_, List.getElem?_eq_getElem (by omega)⟩
    obtain ⟨hW, oW, fW⟩ : WorldV i wc W ∧ W.ok ∧ W.few := hwp _ (List.mem_of_getElem? hw)
    have hwc : wc.length = 5 := hw5 _ (List.mem_of_getElem? hw)
    have q1 : ∀ d u, wc[d]? = some u → c5[0 + ((j : Nat) : Int).toNat * 5 + d]? = some u := fun d u hu => by
      have hd : d < 5 := by have := (List.getElem?_eq_some_iff.1 hu).1; omega
      rw [h1 d hd, rowC_at hw5 hw d hd]; exact hu
    have hkl : (keysOf W n).length ≤ 1000000 := keysOf_len fW n
    have hsucc := nmIn_succ (n := n) hw
    simp only at hsucc
    repeat' (first
      | refine CS.seq ?_
      | refine thenQ.normal ?_
      | refine CS.cond_true rfl ?_
      | refine CS.cond_false rfl ?_
      | refine CS.skip ?_
      | (refine CS.region (id := 4) ?_;
          refine RS.pv (PV.all tab_ok rfl) rfl ?_;
          refine RS.pv (PV.all tab_ok rfl) rfl ?_;
          (first | refine RS.pv (PV.lenS tab_ok rfl rfl) rfl ?_ | refine RS.pv (PV.lenT tab_ok rfl rfl) rfl ?_);
          (first | refine RS.pv (PV.lssT rfl rfl (by omega)) rfl ?_ | refine RS.pv (PV.lssF rfl rfl (by omega)) rfl ?_ | refine RS.ifLss rfl rfl rfl (fun h => ?_) (fun h => ?_));
          (all_goals refine RS.nil ?_))
      | (refine CS.region (id := 5) ?_;
          refine RS.pv (PV.all tab_ok rfl) rfl ?_;
          refine RS.pv (PV.add rfl rfl (by omega)) rfl ?_;
          refine RS.pv (PV.all tab_ok rfl) rfl ?_;
          refine RS.nil ?_)
      | (refine CS.region (id := 6) ?_;
          refine RS.pv (PV.all tab_ok rfl) rfl ?_;
          refine RS.pv (PV.all tab_ok rfl) rfl ?_;
          (first | refine RS.pv (PV.indexAddr tab_ok rfl rfl rfl (by omega)) rfl ?_ | refine RS.pv (PV.indexAddrA tab_ok rfl rfl rfl (by omega)) rfl ?_);
          refine RS.lv (LV.loadL tab_ok rfl (Has.imm g1) (l := wc) rfl rfl hwc q1) rfl ?_;
          (all_goals refine RS.pv (PV.all tab_ok rfl) rfl ?_);
          (all_goals (refine RS.call (keys_78 n hn1 hn5 wc W _ _ ((hW.le hi1).le hi) oW fW) rfl (by kernel_rfl) rfl ?_; rintro v i2 L2 hi2 ⟨hL2, hks⟩; subst hL2; obtain ⟨ka, kc, rfl, -⟩ := id hks));
          (all_goals refine RS.pv (PV.all tab_ok rfl) rfl ?_);
          (all_goals refine RS.nil ?_))
      | (refine CS.region (id := 7) ?_;
          refine RS.pv (PV.all tab_ok rfl) rfl ?_;
          refine RS.nil ?_)
      | refine CS.ret ?_
      | refine thenQ.ret ?_
      | refine blkQ.ret ?_
      | refine retQ.ret ?_
      | refine CS.block ?_
      | refine CS.exit ?_
      | refine thenQ.exit ?_
      | refine blkQ.normal ?_
      | refine blkQ.here ?_
      | refine blkQ.past rfl ?_
      | refine retQ.normal ?_)
    refine CS.loop [2, 7, 8, 9, 10, 11] (fun m vs i' L' => ∃ (k : Nat) (l2 : List ByteArray) (oa : Option Addr) (oc : Nat), m = (keysOf W n).length - k ∧ k ≤ (keysOf W n).length ∧ i2.le i' ∧ Sl i' (.slice oa l2.length oc) 1 l2.length (strs l2) ∧ Asc l2 ∧ (∀ a, a ∈ l2 ↔ a ∈ l ∨ a ∈ (keysOf W n).take k) ∧ l2.length ≤ l.length + k ∧ vs = [.int .i64 (n : Int), .slice oa l2.length oc, .slice (some ⟨bs, 0, none⟩) 2 2, .int .i64 (j : Int), .slice ka (keysOf W n).length kc, .int .i64 (k : Int)] ∧ L' = _) (keysOf W n).length ⟨0, l, oa, oc, rfl, Nat.zero_le _, Imm.le.refl i2, hl.le hi2, hasc, fun a => by simp, Nat.le_refl _, rfl, rfl⟩ ?_
    rintro m g vs i' L' - ⟨k, l2, oa2, oc2, rfl, hk, hi3, hl2, hasc2, hmem2, hlen2, rfl, rfl⟩
    by_cases hlt2 : k < (keysOf W n).length
    · obtain ⟨b2, o2, c6, t2, z2, p2, e2, g2, h2⟩ := (hks.le hi3).at hlt2 (by omega)
      cases e2
      obtain ⟨x, hx⟩ : ∃ x, (keysOf W n)[k]? = some x := ⟨_, List.getElem?_eq_getElem hlt2⟩
      have q2 := h2 0 (by omega)
      rw [strs_at, hx] at q2
      obtain ⟨w1, w2⟩ := wth_asc x l2 hasc2
      have w3 := wth_len x false l2
      repeat' (first
        | refine CS.seq ?_
        | refine thenQ.normal ?_
        | refine CS.cond_true rfl ?_
        | refine CS.cond_false rfl ?_
        | refine CS.skip ?_
        | (refine CS.region (id := 8) ?_;
            refine RS.pv (PV.all tab_ok rfl) rfl ?_;
            refine RS.pv (PV.all tab_ok rfl) rfl ?_;
            (first | refine RS.pv (PV.lenS tab_ok rfl rfl) rfl ?_ | refine RS.pv (PV.lenT tab_ok rfl rfl) rfl ?_);
            (first | refine RS.pv (PV.lssT rfl rfl (by omega)) rfl ?_ | refine RS.pv (PV.lssF rfl rfl (by omega)) rfl ?_ | refine RS.ifLss rfl rfl rfl (fun h => ?_) (fun h => ?_));
            (all_goals refine RS.nil ?_))
        | (refine CS.region (id := 9) ?_;
            refine RS.pv (PV.all tab_ok rfl) rfl ?_;
            refine RS.pv (PV.add rfl rfl (by omega)) rfl ?_;
            refine RS.pv (PV.all tab_ok rfl) rfl ?_;
            refine RS.nil ?_)
        | (refine CS.region (id := 10) ?_;
            refine RS.pv (PV.all tab_ok rfl) rfl ?_;
            refine RS.pv (PV.all tab_ok rfl) rfl ?_;
            refine RS.pv (PV.all tab_ok rfl) rfl ?_;
            (first | refine RS.pv (PV.indexAddr tab_ok rfl rfl rfl (by omega)) rfl ?_ | refine RS.pv (PV.indexAddrA tab_ok rfl rfl rfl (by omega)) rfl ?_);
            refine RS.lv (LV.load1 tab_ok rfl (Has.imm g2) rfl q2) rfl ?_;
            (all_goals (refine RS.call (With_99 _ l2 x _ _ hl2 (by omega)) rfl (by kernel_rfl) rfl ?_; rintro v i4 L4 hi4 ⟨hL4, hws4⟩; subst hL4; obtain ⟨wa, wc4, rfl, -⟩ := id hws4));
            (all_goals refine RS.pv (PV.all tab_ok rfl) rfl ?_);
            (all_goals refine RS.nil ?_))
        | refine CS.ret ?_
        | refine thenQ.ret ?_
        | refine blkQ.ret ?_
        | refine retQ.ret ?_
        | refine CS.block ?_
        | refine CS.exit ?_
        | refine thenQ.exit ?_
        | refine blkQ.normal ?_
        | refine blkQ.here ?_
        | refine blkQ.past rfl ?_
        | refine retQ.normal ?_)
      refine ⟨(keysOf W n).length - (k + 1), by omega, k + 1, _, wa, wc4, rfl, hlt2, hi3.trans hi4, hws4, w1, fun a => ?_, by simp at w3; omega, rfl, rfl⟩
      rw [w2 a, hmem2 a, List.take_add_one, hx]
      simp only [Option.toList_some, List.mem_append, List.mem_singleton]
      constructor
      · rintro (h | h | h)
        · exact .inr (.inr h)
        · exact .inl h
        · exact .inr (.inl h)
      · rintro (h | h | h)
        · exact .inr (.inl h)
        · exact .inr (.inr h)
        · exact .inl h
    · have : k = (keysOf W n).length := by omega
      subst this
      repeat' (first
        | refine CS.seq ?_
        | refine thenQ.normal ?_
        | refine CS.cond_true rfl ?_
        | refine CS.cond_false rfl ?_
        | refine CS.skip ?_
        | (refine CS.region (id := 5) ?_;
            refine RS.pv (PV.all tab_ok rfl) rfl ?_;
            refine RS.pv (PV.add rfl rfl (by omega)) rfl ?_;
            refine RS.pv (PV.all tab_ok rfl) rfl ?_;
            refine RS.nil ?_)
        | (refine CS.region (id := 8) ?_;
            refine RS.pv (PV.all tab_ok rfl) rfl ?_;
            refine RS.pv (PV.all tab_ok rfl) rfl ?_;
            (first | refine RS.pv (PV.lenS tab_ok rfl rfl) rfl ?_ | refine RS.pv (PV.lenT tab_ok rfl rfl) rfl ?_);
            (first | refine RS.pv (PV.lssT rfl rfl (by omega)) rfl ?_ | refine RS.pv (PV.lssF rfl rfl (by omega)) rfl ?_ | refine RS.ifLss rfl rfl rfl (fun h => ?_) (fun h => ?_));
            (all_goals refine RS.nil ?_))
        | refine CS.ret ?_
        | refine thenQ.ret ?_
        | refine blkQ.ret ?_
        | refine retQ.ret ?_
        | refine CS.block ?_
        | refine CS.exit ?_
        | refine thenQ.exit ?_
        | refine blkQ.normal ?_
        | refine blkQ.here ?_
        | refine blkQ.past rfl ?_
        | refine retQ.normal ?_)
      refine ⟨2 - (j + 1), by omega, j + 1, l2, oa2, oc2, rfl, hlt, (hi.trans hi2).trans hi3, hl2, hasc2, fun a => ?_, by omega, rfl, rfl⟩
      rw [hmem2 a, hmem a, hsucc a, List.take_length]
  · have : j = 2 := by omega
    subst this
    repeat' (first
      | refine CS.seq ?_
      | refine thenQ.normal ?_
      | refine CS.cond_true rfl ?_
      | refine CS.cond_false rfl ?_
      | refine CS.skip ?_
      | (refine CS.region (id := 4) ?_;
          refine RS.pv (PV.all tab_ok rfl) rfl ?_;
          refine RS.pv (PV.all tab_ok rfl) rfl ?_;
          (first | refine RS.pv (PV.lenS tab_ok rfl rfl) rfl ?_ | refine RS.pv (PV.lenT tab_ok rfl rfl) rfl ?_);
          (first | refine RS.pv (PV.lssT rfl rfl (by omega)) rfl ?_ | refine RS.pv (PV.lssF rfl rfl (by omega)) rfl ?_ | refine RS.ifLss rfl rfl rfl (fun h => ?_) (fun h => ?_));
          (all_goals refine RS.nil ?_))
      | (refine CS.region (id := 11) ?_;
          refine RS.pv (PV.all tab_ok rfl) rfl ?_;
          refine RS.pv (PV.all tab_ok rfl) rfl ?_;
          refine RS.nil ?_)
      | refine CS.ret ?_
      | refine thenQ.ret ?_
      | refine blkQ.ret ?_
      | refine retQ.ret ?_
      | refine CS.block ?_
      | refine CS.exit ?_
      | refine thenQ.exit ?_
      | refine blkQ.normal ?_
      | refine blkQ.here ?_
      | refine blkQ.past rfl ?_
      | refine retQ.normal ?_)
    refine ⟨[_, _], ⟨l, hl, hasc, fun a => ?_, by omega⟩, rfl⟩
    rw [hmem a, nmIn_succ (p := _) (by rw [hws]; rfl), nmIn_succ (p := _) (by rw [hws]; rfl)]
    simp [nmIn]

/-! ### same -/
noncomputable def smI (A B : WorldD) (n x y : Nat) : Bool :=
  match n with
  | 1 => match A.recs[x]?, B.recs[y]? with | some p, some q => rsm p q | _, _ => true
  | 2 => match A.nodes[x]?, B.nodes[y]? with | some p, some q => allEq p q | _, _ => true
  | 3 => match A.links[x]?, B.links[y]? with | some p, some q => allEq p q | _, _ => true
  | 4 => match A.names[x]?, B.names[y]? with | some p, some q => allEq p q | _, _ => true
  | _ => true
theorem same81_2 (ac bc : List Value) (A B : WorldD) (x y : Nat) (i : Imm) (L : SH) (hA : WorldV i ac A) (hB : WorldV i bc B) (oA : A.ok) (oB : B.ok) (hx : x < A.nodes.length) (hy : y < B.nodes.length) :
    FnS Try.prog 81 [.agg ac.toArray, .agg bc.toArray, .int .i64 2, .int .i64 (x : Int), .int .i64 (y : Int)] i L fun v i' L' => v = .bool (smI A B 2 x y) ∧ L' = L := by
  refine FnS.state (K := fun v _ L' => ∃ M, v = .bool (smI A B 2 x y) ∧ L' = M ++ L) ?_ ?_
  rotate_left
  · rintro v i' L' w _ hs ⟨M, hv, rfl⟩
    exact ⟨i', _, Imm.le.refl i', hs.dropL, hv, rfl⟩
  obtain ⟨a0, c0, a1, c1, a2, c2, a3, c3, a4, c4, rfl, hA0, hA1, hA2, hA3, hA4, hA5⟩ := hA.lit
  obtain ⟨b0, d0, b1, d1, b2, d2, b3, d3, b4, d4, rfl, hB0, hB1, hB2, hB3, hB4, hB5⟩ := hB.lit
  obtain ⟨p, hp⟩ : ∃ p, A.nodes[x]? = some p := ⟨_, List.getElem?_eq_getElem hx⟩
  obtain ⟨q, hq⟩ : ∃ q, B.nodes[y]? = some q := ⟨_, List.getElem?_eq_getElem hy⟩
  have okp := (oA.nodes p (List.mem_of_getElem? hp)).1
  have okq := (oB.nodes q (List.mem_of_getElem? hq)).1
  have hlA : ∀ e ∈ A.nodes, (id e : List Value).length = 7 := fun e he => shp_len (oA.nodes e he).1
  have hlB : ∀ e ∈ B.nodes, (id e : List Value).length = 7 := fun e he => shp_len (oB.nodes e he).1
  obtain ⟨k1, o1, u1, t1, z1, p1, e1, g1, h1⟩ := hA1.at hx (by omega)
  obtain ⟨k2, o2, u2, t2, z2, p2, e2, g2, h2⟩ := hB1.at hy (by omega)
  cases e1
  cases e2
  have q1 : ∀ d u, p[d]? = some u → u1[o1 + ((x : Nat) : Int).toNat * 7 + d]? = some u := fun d u hu => by
    have hd : d < 7 := by have := (List.getElem?_eq_some_iff.1 hu).1; have := shp_len okp; simp at this; omega
    rw [h1 d hd, rowC_at hlA hp d hd]; exact hu
  have q2 : ∀ d u, q[d]? = some u → u2[o2 + ((y : Nat) : Int).toNat * 7 + d]? = some u := fun d u hu => by
    have hd : d < 7 := by have := (List.getElem?_eq_some_iff.1 hu).1; have := shp_len okq; simp at this; omega
    rw [h2 d hd, rowC_at hlB hq d hd]; exact hu
  have hst := stOk109 okp okq
  have hv : smI A B 2 x y = allEq p q := by simp only [smI, hp, hq]
  rw [hv]
  refine FnS.intro1 Try.func81 rfl Try.ntmps81 (by simp) Try.results81 ?_
  repeat' (first
    | refine CS.seq ?_
    | refine thenQ.normal ?_
    | refine CS.cond_true rfl ?_
    | refine CS.cond_false rfl ?_
    | refine CS.skip ?_
    | (refine CS.region (id := 0) ?_;
        refine RS.box rfl rfl (fun b => ?_);
        refine RS.box rfl rfl (fun b => ?_);
        refine RS.pv (PV.all tab_ok rfl) rfl ?_;
        refine RS.nil ?_)
    | (refine CS.region (id := 1) ?_;
        refine RS.pv (PV.all tab_ok rfl) rfl ?_;
        refine RS.nil ?_)
    | (refine CS.region (id := 2) ?_;
        (first | refine RS.pv (PV.all tab_ok rfl) rfl ?_ | refine RS.pv (PV.eqlT rfl rfl (by omega)) rfl ?_ | refine RS.pv (PV.eqlF rfl rfl (by omega)) rfl ?_ | refine RS.ifEql rfl rfl rfl (fun h => ?_) (fun h => ?_) | refine RS.ifSeql rfl rfl rfl (fun h => ?_) (fun h => ?_));
        (all_goals refine RS.pv (PV.all tab_ok rfl) rfl ?_);
        (all_goals refine RS.nil ?_))
    | (refine CS.region (id := 4) ?_;
        (first | refine RS.pv (PV.all tab_ok rfl) rfl ?_ | refine RS.pv (PV.eqlT rfl rfl (by omega)) rfl ?_ | refine RS.pv (PV.eqlF rfl rfl (by omega)) rfl ?_ | refine RS.ifEql rfl rfl rfl (fun h => ?_) (fun h => ?_) | refine RS.ifSeql rfl rfl rfl (fun h => ?_) (fun h => ?_));
        (all_goals refine RS.pv (PV.all tab_ok rfl) rfl ?_);
        (all_goals refine RS.nil ?_))
    | (refine CS.drawQ (id := 5) mix (by kernel_rfl) ?_;
        refine QS.pv (PV.all tab_ok rfl) rfl ?_;
        (first | refine QS.lv (LV.load tab_ok rfl (Has.own 0 rfl) rfl) rfl ?_ | refine QS.lv (LV.load tab_ok rfl (Has.own 1 rfl) rfl) rfl ?_ | refine QS.lv (LV.load tab_ok rfl (Has.own 2 rfl) rfl) rfl ?_);
        refine QS.pv (PV.all tab_ok rfl) rfl ?_;
        (first | refine QS.pv (PV.indexAddr tab_ok rfl rfl rfl (by omega)) rfl ?_ | refine QS.pv (PV.indexAddrA tab_ok rfl rfl rfl (by omega)) rfl ?_);
        refine QS.lv (LV.loadL tab_ok rfl (Has.imm g1) (l := p) rfl rfl (shp_len okp) q1) rfl ?_;
        (all_goals refine QS.pv (PV.all tab_ok rfl) rfl ?_);
        (all_goals (first | refine QS.lv (LV.load tab_ok rfl (Has.own 0 rfl) rfl) rfl ?_ | refine QS.lv (LV.load tab_ok rfl (Has.own 1 rfl) rfl) rfl ?_ | refine QS.lv (LV.load tab_ok rfl (Has.own 2 rfl) rfl) rfl ?_));
        (all_goals refine QS.pv (PV.all tab_ok rfl) rfl ?_);
        (all_goals (first | refine QS.pv (PV.indexAddr tab_ok rfl rfl rfl (by omega)) rfl ?_ | refine QS.pv (PV.indexAddrA tab_ok rfl rfl rfl (by omega)) rfl ?_));
        (all_goals refine QS.lv (LV.loadL tab_ok rfl (Has.imm g2) (l := q) rfl rfl (shp_len okq) q2) rfl ?_);
        (all_goals refine QS.pv (PV.steql tab_ok (by kernel_rfl) (by kernel_rfl) rfl rfl hst) rfl ?_);
        (all_goals refine QS.pv (PV.all tab_ok rfl) rfl ?_);
        (all_goals refine QS.nil ?_))
    | (refine CS.region (id := 6) ?_;
        (first | refine RS.pv (PV.all tab_ok rfl) rfl ?_ | refine RS.pv (PV.eqlT rfl rfl (by omega)) rfl ?_ | refine RS.pv (PV.eqlF rfl rfl (by omega)) rfl ?_ | refine RS.ifEql rfl rfl rfl (fun h => ?_) (fun h => ?_) | refine RS.ifSeql rfl rfl rfl (fun h => ?_) (fun h => ?_));
        (all_goals refine RS.pv (PV.all tab_ok rfl) rfl ?_);
        (all_goals refine RS.nil ?_))
    | (refine CS.region (id := 8) ?_;
        (first | refine RS.pv (PV.all tab_ok rfl) rfl ?_ | refine RS.pv (PV.eqlT rfl rfl (by omega)) rfl ?_ | refine RS.pv (PV.eqlF rfl rfl (by omega)) rfl ?_ | refine RS.ifEql rfl rfl rfl (fun h => ?_) (fun h => ?_) | refine RS.ifSeql rfl rfl rfl (fun h => ?_) (fun h => ?_));
        (all_goals refine RS.pv (PV.all tab_ok rfl) rfl ?_);
        (all_goals refine RS.nil ?_))
    | refine CS.ret ?_
    | refine thenQ.ret ?_
    | refine blkQ.ret ?_
    | refine retQ.ret ?_
    | refine CS.block ?_
    | refine CS.exit ?_
    | refine thenQ.exit ?_
    | refine blkQ.normal ?_
    | refine blkQ.here ?_
    | refine blkQ.past rfl ?_
    | refine retQ.normal ?_)
  exact ⟨[_, _], rfl, rfl⟩
theorem same81_3 (ac bc : List Value) (A B : WorldD) (x y : Nat) (i : Imm) (L : SH) (hA : WorldV i ac A) (hB : WorldV i bc B) (oA : A.ok) (oB : B.ok) (hx : x < A.links.length) (hy : y < B.links.length) :
    FnS Try.prog 81 [.agg ac.toArray, .agg bc.toArray, .int .i64 3, .int .i64 (x : Int), .int .i64 (y : Int)] i L fun v i' L' => v = .bool (smI A B 3 x y) ∧ L' = L := by
  refine FnS.state (K := fun v _ L' => ∃ M, v = .bool (smI A B 3 x y) ∧ L' = M ++ L) ?_ ?_
  rotate_left
  · rintro v i' L' w _ hs ⟨M, hv, rfl⟩
    exact ⟨i', _, Imm.le.refl i', hs.dropL, hv, rfl⟩
  obtain ⟨a0, c0, a1, c1, a2, c2, a3, c3, a4, c4, rfl, hA0, hA1, hA2, hA3, hA4, hA5⟩ := hA.lit
  obtain ⟨b0, d0, b1, d1, b2, d2, b3, d3, b4, d4, rfl, hB0, hB1, hB2, hB3, hB4, hB5⟩ := hB.lit
  obtain ⟨p, hp⟩ : ∃ p, A.links[x]? = some p := ⟨_, List.getElem?_eq_getElem hx⟩
  obtain ⟨q, hq⟩ : ∃ q, B.links[y]? = some q := ⟨_, List.getElem?_eq_getElem hy⟩
  have okp := (oA.links p (List.mem_of_getElem? hp)).1
  have okq := (oB.links q (List.mem_of_getElem? hq)).1
  have hlA : ∀ e ∈ A.links, (id e : List Value).length = 3 := fun e he => shp_len (oA.links e he).1
  have hlB : ∀ e ∈ B.links, (id e : List Value).length = 3 := fun e he => shp_len (oB.links e he).1
  obtain ⟨k1, o1, u1, t1, z1, p1, e1, g1, h1⟩ := hA2.at hx (by omega)
  obtain ⟨k2, o2, u2, t2, z2, p2, e2, g2, h2⟩ := hB2.at hy (by omega)
  cases e1
  cases e2
  have q1 : ∀ d u, p[d]? = some u → u1[o1 + ((x : Nat) : Int).toNat * 3 + d]? = some u := fun d u hu => by
    have hd : d < 3 := by have := (List.getElem?_eq_some_iff.1 hu).1; have := shp_len okp; simp at this; omega
    rw [h1 d hd, rowC_at hlA hp d hd]; exact hu
  have q2 : ∀ d u, q[d]? = some u → u2[o2 + ((y : Nat) : Int).toNat * 3 + d]? = some u := fun d u hu => by
    have hd : d < 3 := by have := (List.getElem?_eq_some_iff.1 hu).1; have := shp_len okq; simp at this; omega
    rw [h2 d hd, rowC_at hlB hq d hd]; exact hu
  have hst := stOk124 okp okq
  have hv : smI A B 3 x y = allEq p q := by simp only [smI, hp, hq]
  rw [hv]
  refine FnS.intro1 Try.func81 rfl Try.ntmps81 (by simp) Try.results81 ?_
  repeat' (first
    | refine CS.seq ?_
    | refine thenQ.normal ?_
    | refine CS.cond_true rfl ?_
    | refine CS.cond_false rfl ?_
    | refine CS.skip ?_
    | (refine CS.region (id := 0) ?_;
        refine RS.box rfl rfl (fun b => ?_);
        refine RS.box rfl rfl (fun b => ?_);
        refine RS.pv (PV.all tab_ok rfl) rfl ?_;
        refine RS.nil ?_)
    | (refine CS.region (id := 1) ?_;
        refine RS.pv (PV.all tab_ok rfl) rfl ?_;
        refine RS.nil ?_)
    | (refine CS.region (id := 2) ?_;
        (first | refine RS.pv (PV.all tab_ok rfl) rfl ?_ | refine RS.pv (PV.eqlT rfl rfl (by omega)) rfl ?_ | refine RS.pv (PV.eqlF rfl rfl (by omega)) rfl ?_ | refine RS.ifEql rfl rfl rfl (fun h => ?_) (fun h => ?_) | refine RS.ifSeql rfl rfl rfl (fun h => ?_) (fun h => ?_));
        (all_goals refine RS.pv (PV.all tab_ok rfl) rfl ?_);
        (all_goals refine RS.nil ?_))
    | (refine CS.region (id := 4) ?_;
        (first | refine RS.pv (PV.all tab_ok rfl) rfl ?_ | refine RS.pv (PV.eqlT rfl rfl (by omega)) rfl ?_ | refine RS.pv (PV.eqlF rfl rfl (by omega)) rfl ?_ | refine RS.ifEql rfl rfl rfl (fun h => ?_) (fun h => ?_) | refine RS.ifSeql rfl rfl rfl (fun h => ?_) (fun h => ?_));
        (all_goals refine RS.pv (PV.all tab_ok rfl) rfl ?_);
        (all_goals refine RS.nil ?_))
    | (refine CS.region (id := 6) ?_;
        (first | refine RS.pv (PV.all tab_ok rfl) rfl ?_ | refine RS.pv (PV.eqlT rfl rfl (by omega)) rfl ?_ | refine RS.pv (PV.eqlF rfl rfl (by omega)) rfl ?_ | refine RS.ifEql rfl rfl rfl (fun h => ?_) (fun h => ?_) | refine RS.ifSeql rfl rfl rfl (fun h => ?_) (fun h => ?_));
        (all_goals refine RS.pv (PV.all tab_ok rfl) rfl ?_);
        (all_goals refine RS.nil ?_))
    | (refine CS.drawQ (id := 7) mix (by kernel_rfl) ?_;
        refine QS.pv (PV.all tab_ok rfl) rfl ?_;
        (first | refine QS.lv (LV.load tab_ok rfl (Has.own 0 rfl) rfl) rfl ?_ | refine QS.lv (LV.load tab_ok rfl (Has.own 1 rfl) rfl) rfl ?_ | refine QS.lv (LV.load tab_ok rfl (Has.own 2 rfl) rfl) rfl ?_);
        refine QS.pv (PV.all tab_ok rfl) rfl ?_;
        (first | refine QS.pv (PV.indexAddr tab_ok rfl rfl rfl (by omega)) rfl ?_ | refine QS.pv (PV.indexAddrA tab_ok rfl rfl rfl (by omega)) rfl ?_);
        refine QS.lv (LV.loadL tab_ok rfl (Has.imm g1) (l := p) rfl rfl (shp_len okp) q1) rfl ?_;
        (all_goals refine QS.pv (PV.all tab_ok rfl) rfl ?_);
        (all_goals (first | refine QS.lv (LV.load tab_ok rfl (Has.own 0 rfl) rfl) rfl ?_ | refine QS.lv (LV.load tab_ok rfl (Has.own 1 rfl) rfl) rfl ?_ | refine QS.lv (LV.load tab_ok rfl (Has.own 2 rfl) rfl) rfl ?_));
        (all_goals refine QS.pv (PV.all tab_ok rfl) rfl ?_);
        (all_goals (first | refine QS.pv (PV.indexAddr tab_ok rfl rfl rfl (by omega)) rfl ?_ | refine QS.pv (PV.indexAddrA tab_ok rfl rfl rfl (by omega)) rfl ?_));
        (all_goals refine QS.lv (LV.loadL tab_ok rfl (Has.imm g2) (l := q) rfl rfl (shp_len okq) q2) rfl ?_);
        (all_goals refine QS.pv (PV.steql tab_ok (by kernel_rfl) (by kernel_rfl) rfl rfl hst) rfl ?_);
        (all_goals refine QS.pv (PV.all tab_ok rfl) rfl ?_);
        (all_goals refine QS.nil ?_))
    | (refine CS.region (id := 8) ?_;
        (first | refine RS.pv (PV.all tab_ok rfl) rfl ?_ | refine RS.pv (PV.eqlT rfl rfl (by omega)) rfl ?_ | refine RS.pv (PV.eqlF rfl rfl (by omega)) rfl ?_ | refine RS.ifEql rfl rfl rfl (fun h => ?_) (fun h => ?_) | refine RS.ifSeql rfl rfl rfl (fun h => ?_) (fun h => ?_));
        (all_goals refine RS.pv (PV.all tab_ok rfl) rfl ?_);
        (all_goals refine RS.nil ?_))
    | refine CS.ret ?_
    | refine thenQ.ret ?_
    | refine blkQ.ret ?_
    | refine retQ.ret ?_
    | refine CS.block ?_
    | refine CS.exit ?_
    | refine thenQ.exit ?_
    | refine blkQ.normal ?_
    | refine blkQ.here ?_
    | refine blkQ.past rfl ?_
    | refine retQ.normal ?_)
  exact ⟨[_, _], rfl, rfl⟩
theorem same81_4 (ac bc : List Value) (A B : WorldD) (x y : Nat) (i : Imm) (L : SH) (hA : WorldV i ac A) (hB : WorldV i bc B) (oA : A.ok) (oB : B.ok) (hx : x < A.names.length) (hy : y < B.names.length) :
    FnS Try.prog 81 [.agg ac.toArray, .agg bc.toArray, .int .i64 4, .int .i64 (x : Int), .int .i64 (y : Int)] i L fun v i' L' => v = .bool (smI A B 4 x y) ∧ L' = L := by
  refine FnS.state (K := fun v _ L' => ∃ M, v = .bool (smI A B 4 x y) ∧ L' = M ++ L) ?_ ?_
  rotate_left
  · rintro v i' L' w _ hs ⟨M, hv, rfl⟩
    exact ⟨i', _, Imm.le.refl i', hs.dropL, hv, rfl⟩
  obtain ⟨a0, c0, a1, c1, a2, c2, a3, c3, a4, c4, rfl, hA0, hA1, hA2, hA3, hA4, hA5⟩ := hA.lit
  obtain ⟨b0, d0, b1, d1, b2, d2, b3, d3, b4, d4, rfl, hB0, hB1, hB2, hB3, hB4, hB5⟩ := hB.lit
  obtain ⟨p, hp⟩ : ∃ p, A.names[x]? = some p := ⟨_, List.getElem?_eq_getElem hx⟩
  obtain ⟨q, hq⟩ : ∃ q, B.names[y]? = some q := ⟨_, List.getElem?_eq_getElem hy⟩
  have okp := (oA.names p (List.mem_of_getElem? hp)).1
  have okq := (oB.names q (List.mem_of_getElem? hq)).1
  have hlA : ∀ e ∈ A.names, (id e : List Value).length = 2 := fun e he => shp_len (oA.names e he).1
  have hlB : ∀ e ∈ B.names, (id e : List Value).length = 2 := fun e he => shp_len (oB.names e he).1
  obtain ⟨k1, o1, u1, t1, z1, p1, e1, g1, h1⟩ := hA3.at hx (by omega)
  obtain ⟨k2, o2, u2, t2, z2, p2, e2, g2, h2⟩ := hB3.at hy (by omega)
  cases e1
  cases e2
  have q1 : ∀ d u, p[d]? = some u → u1[o1 + ((x : Nat) : Int).toNat * 2 + d]? = some u := fun d u hu => by
    have hd : d < 2 := by have := (List.getElem?_eq_some_iff.1 hu).1; have := shp_len okp; simp at this; omega
    rw [h1 d hd, rowC_at hlA hp d hd]; exact hu
  have q2 : ∀ d u, q[d]? = some u → u2[o2 + ((y : Nat) : Int).toNat * 2 + d]? = some u := fun d u hu => by
    have hd : d < 2 := by have := (List.getElem?_eq_some_iff.1 hu).1; have := shp_len okq; simp at this; omega
    rw [h2 d hd, rowC_at hlB hq d hd]; exact hu
  have hst := stOk103 okp okq
  have hv : smI A B 4 x y = allEq p q := by simp only [smI, hp, hq]
  rw [hv]
  refine FnS.intro1 Try.func81 rfl Try.ntmps81 (by simp) Try.results81 ?_
  repeat' (first
    | refine CS.seq ?_
    | refine thenQ.normal ?_
    | refine CS.cond_true rfl ?_
    | refine CS.cond_false rfl ?_
    | refine CS.skip ?_
    | (refine CS.region (id := 0) ?_;
        refine RS.box rfl rfl (fun b => ?_);
        refine RS.box rfl rfl (fun b => ?_);
        refine RS.pv (PV.all tab_ok rfl) rfl ?_;
        refine RS.nil ?_)
    | (refine CS.region (id := 1) ?_;
        refine RS.pv (PV.all tab_ok rfl) rfl ?_;
        refine RS.nil ?_)
    | (refine CS.region (id := 2) ?_;
        (first | refine RS.pv (PV.all tab_ok rfl) rfl ?_ | refine RS.pv (PV.eqlT rfl rfl (by omega)) rfl ?_ | refine RS.pv (PV.eqlF rfl rfl (by omega)) rfl ?_ | refine RS.ifEql rfl rfl rfl (fun h => ?_) (fun h => ?_) | refine RS.ifSeql rfl rfl rfl (fun h => ?_) (fun h => ?_));
        (all_goals refine RS.pv (PV.all tab_ok rfl) rfl ?_);
        (all_goals refine RS.nil ?_))
    | (refine CS.region (id := 4) ?_;
        (first | refine RS.pv (PV.all tab_ok rfl) rfl ?_ | refine RS.pv (PV.eqlT rfl rfl (by omega)) rfl ?_ | refine RS.pv (PV.eqlF rfl rfl (by omega)) rfl ?_ | refine RS.ifEql rfl rfl rfl (fun h => ?_) (fun h => ?_) | refine RS.ifSeql rfl rfl rfl (fun h => ?_) (fun h => ?_));
        (all_goals refine RS.pv (PV.all tab_ok rfl) rfl ?_);
        (all_goals refine RS.nil ?_))
    | (refine CS.region (id := 6) ?_;
        (first | refine RS.pv (PV.all tab_ok rfl) rfl ?_ | refine RS.pv (PV.eqlT rfl rfl (by omega)) rfl ?_ | refine RS.pv (PV.eqlF rfl rfl (by omega)) rfl ?_ | refine RS.ifEql rfl rfl rfl (fun h => ?_) (fun h => ?_) | refine RS.ifSeql rfl rfl rfl (fun h => ?_) (fun h => ?_));
        (all_goals refine RS.pv (PV.all tab_ok rfl) rfl ?_);
        (all_goals refine RS.nil ?_))
    | (refine CS.region (id := 8) ?_;
        (first | refine RS.pv (PV.all tab_ok rfl) rfl ?_ | refine RS.pv (PV.eqlT rfl rfl (by omega)) rfl ?_ | refine RS.pv (PV.eqlF rfl rfl (by omega)) rfl ?_ | refine RS.ifEql rfl rfl rfl (fun h => ?_) (fun h => ?_) | refine RS.ifSeql rfl rfl rfl (fun h => ?_) (fun h => ?_));
        (all_goals refine RS.pv (PV.all tab_ok rfl) rfl ?_);
        (all_goals refine RS.nil ?_))
    | (refine CS.drawQ (id := 9) mix (by kernel_rfl) ?_;
        refine QS.pv (PV.all tab_ok rfl) rfl ?_;
        (first | refine QS.lv (LV.load tab_ok rfl (Has.own 0 rfl) rfl) rfl ?_ | refine QS.lv (LV.load tab_ok rfl (Has.own 1 rfl) rfl) rfl ?_ | refine QS.lv (LV.load tab_ok rfl (Has.own 2 rfl) rfl) rfl ?_);
        refine QS.pv (PV.all tab_ok rfl) rfl ?_;
        (first | refine QS.pv (PV.indexAddr tab_ok rfl rfl rfl (by omega)) rfl ?_ | refine QS.pv (PV.indexAddrA tab_ok rfl rfl rfl (by omega)) rfl ?_);
        refine QS.lv (LV.loadL tab_ok rfl (Has.imm g1) (l := p) rfl rfl (shp_len okp) q1) rfl ?_;
        (all_goals refine QS.pv (PV.all tab_ok rfl) rfl ?_);
        (all_goals (first | refine QS.lv (LV.load tab_ok rfl (Has.own 0 rfl) rfl) rfl ?_ | refine QS.lv (LV.load tab_ok rfl (Has.own 1 rfl) rfl) rfl ?_ | refine QS.lv (LV.load tab_ok rfl (Has.own 2 rfl) rfl) rfl ?_));
        (all_goals refine QS.pv (PV.all tab_ok rfl) rfl ?_);
        (all_goals (first | refine QS.pv (PV.indexAddr tab_ok rfl rfl rfl (by omega)) rfl ?_ | refine QS.pv (PV.indexAddrA tab_ok rfl rfl rfl (by omega)) rfl ?_));
        (all_goals refine QS.lv (LV.loadL tab_ok rfl (Has.imm g2) (l := q) rfl rfl (shp_len okq) q2) rfl ?_);
        (all_goals refine QS.pv (PV.steql tab_ok (by kernel_rfl) (by kernel_rfl) rfl rfl hst) rfl ?_);
        (all_goals refine QS.pv (PV.all tab_ok rfl) rfl ?_);
        (all_goals refine QS.nil ?_))
    | refine CS.ret ?_
    | refine thenQ.ret ?_
    | refine blkQ.ret ?_
    | refine retQ.ret ?_
    | refine CS.block ?_
    | refine CS.exit ?_
    | refine thenQ.exit ?_
    | refine blkQ.normal ?_
    | refine blkQ.here ?_
    | refine blkQ.past rfl ?_
    | refine retQ.normal ?_)
  exact ⟨[_, _], rfl, rfl⟩
theorem same81_1 (ac bc : List Value) (A B : WorldD) (x y : Nat) (i : Imm) (L : SH) (hA : WorldV i ac A) (hB : WorldV i bc B) (oA : A.ok) (oB : B.ok) (hx : x < A.recs.length) (hy : y < B.recs.length) :
    FnS Try.prog 81 [.agg ac.toArray, .agg bc.toArray, .int .i64 1, .int .i64 (x : Int), .int .i64 (y : Int)] i L fun v i' L' => v = .bool (smI A B 1 x y) ∧ L' = L := by
  refine FnS.state (K := fun v _ L' => ∃ M, v = .bool (smI A B 1 x y) ∧ L' = M ++ L) ?_ ?_
  rotate_left
  · rintro v i' L' w _ hs ⟨M, hv, rfl⟩
    exact ⟨i', _, Imm.le.refl i', hs.dropL, hv, rfl⟩
  obtain ⟨a0, c0, a1, c1, a2, c2, a3, c3, a4, c4, rfl, hA0, hA1, hA2, hA3, hA4, hA5⟩ := hA.lit
  obtain ⟨b0, d0, b1, d1, b2, d2, b3, d3, b4, d4, rfl, hB0, hB1, hB2, hB3, hB4, hB5⟩ := hB.lit
  obtain ⟨p, hp⟩ : ∃ p, A.recs[x]? = some p := ⟨_, List.getElem?_eq_getElem hx⟩
  obtain ⟨q, hq⟩ : ∃ q, B.recs[y]? = some q := ⟨_, List.getElem?_eq_getElem hy⟩
  have okp := hA5 p (List.mem_of_getElem? hp)
  have okq := hB5 q (List.mem_of_getElem? hq)
  have hlA := (els_recs hA5 oA.recs).len
  have hlB := (els_recs hB5 oB.recs).len
  have lp := hlA p (List.mem_of_getElem? hp)
  have lq := hlB q (List.mem_of_getElem? hq)
  obtain ⟨k1, o1, u1, t1, z1, p1, e1, g1, h1⟩ := hA0.at hx (by omega)
  obtain ⟨k2, o2, u2, t2, z2, p2, e2, g2, h2⟩ := hB0.at hy (by omega)
  cases e1
  cases e2
  have q1 : ∀ d u, p.1[d]? = some u → u1[o1 + ((x : Nat) : Int).toNat * 12 + d]? = some u := fun d u hu => by
    have hd : d < 12 := by have := (List.getElem?_eq_some_iff.1 hu).1; omega
    rw [h1 d hd, rowC_at hlA hp d hd]; exact hu
  have q2 : ∀ d u, q.1[d]? = some u → u2[o2 + ((y : Nat) : Int).toNat * 12 + d]? = some u := fun d u hu => by
    have hd : d < 12 := by have := (List.getElem?_eq_some_iff.1 hu).1; omega
    rw [h2 d hd, rowC_at hlB hq d hd]; exact hu
  have hv : smI A B 1 x y = rsm p q := by simp only [smI, hp, hq]
  rw [hv]
  refine FnS.intro1 Try.func81 rfl Try.ntmps81 (by simp) Try.results81 ?_
  repeat' (first
    | refine CS.seq ?_
    | refine thenQ.normal ?_
    | refine CS.cond_true rfl ?_
    | refine CS.cond_false rfl ?_
    | refine CS.skip ?_
    | (refine CS.region (id := 0) ?_;
        refine RS.box rfl rfl (fun b => ?_);
        refine RS.box rfl rfl (fun b => ?_);
        refine RS.pv (PV.all tab_ok rfl) rfl ?_;
        refine RS.nil ?_)
    | (refine CS.region (id := 1) ?_;
        refine RS.pv (PV.all tab_ok rfl) rfl ?_;
        refine RS.nil ?_)
    | (refine CS.region (id := 2) ?_;
        (first | refine RS.pv (PV.all tab_ok rfl) rfl ?_ | refine RS.pv (PV.eqlT rfl rfl (by omega)) rfl ?_ | refine RS.pv (PV.eqlF rfl rfl (by omega)) rfl ?_ | refine RS.ifEql rfl rfl rfl (fun h => ?_) (fun h => ?_) | refine RS.ifSeql rfl rfl rfl (fun h => ?_) (fun h => ?_));
        (all_goals refine RS.pv (PV.all tab_ok rfl) rfl ?_);
        (all_goals refine RS.nil ?_))
    | (refine CS.drawQ (id := 3) mix (by kernel_rfl) ?_;
        refine QS.pv (PV.all tab_ok rfl) rfl ?_;
        (first | refine QS.lv (LV.load tab_ok rfl (Has.own 0 rfl) rfl) rfl ?_ | refine QS.lv (LV.load tab_ok rfl (Has.own 1 rfl) rfl) rfl ?_ | refine QS.lv (LV.load tab_ok rfl (Has.own 2 rfl) rfl) rfl ?_);
        refine QS.pv (PV.all tab_ok rfl) rfl ?_;
        (first | refine QS.pv (PV.indexAddr tab_ok rfl rfl rfl (by omega)) rfl ?_ | refine QS.pv (PV.indexAddrA tab_ok rfl rfl rfl (by omega)) rfl ?_);
        refine QS.lv (LV.loadL tab_ok rfl (Has.imm g1) (l := p.1) rfl rfl lp q1) rfl ?_;
        (all_goals refine QS.pv (PV.all tab_ok rfl) rfl ?_);
        (all_goals (first | refine QS.lv (LV.load tab_ok rfl (Has.own 0 rfl) rfl) rfl ?_ | refine QS.lv (LV.load tab_ok rfl (Has.own 1 rfl) rfl) rfl ?_ | refine QS.lv (LV.load tab_ok rfl (Has.own 2 rfl) rfl) rfl ?_));
        (all_goals refine QS.pv (PV.all tab_ok rfl) rfl ?_);
        (all_goals (first | refine QS.pv (PV.indexAddr tab_ok rfl rfl rfl (by omega)) rfl ?_ | refine QS.pv (PV.indexAddrA tab_ok rfl rfl rfl (by omega)) rfl ?_));
        (all_goals refine QS.lv (LV.loadL tab_ok rfl (Has.imm g2) (l := q.1) rfl rfl lq q2) rfl ?_);
        (all_goals refine QS.call (v := .bool (rsm p q)) ((SameRecord_s _ _ _ _ _ _ okp okq (oA.recs p (List.mem_of_getElem? hp)).1).mono fun _ _ _ _ ⟨h1, _, h2⟩ => ⟨by rw [h1]; rfl, h2⟩) rfl (by kernel_rfl) rfl ?_);
        (all_goals refine QS.pv (PV.all tab_ok rfl) rfl ?_);
        (all_goals refine QS.nil ?_))
    | refine CS.ret ?_
    | refine thenQ.ret ?_
    | refine blkQ.ret ?_
    | refine retQ.ret ?_
    | refine CS.block ?_
    | refine CS.exit ?_
    | refine thenQ.exit ?_
    | refine blkQ.normal ?_
    | refine blkQ.here ?_
    | refine blkQ.past rfl ?_
    | refine retQ.normal ?_)
  exact ⟨[_, _], rfl, rfl⟩
theorem same81_5 (ac bc : List Value) (A B : WorldD) (x y : Nat) (i : Imm) (L : SH) : FnS Try.prog 81 [.agg ac.toArray, .agg bc.toArray, .int .i64 5, .int .i64 (x : Int), .int .i64 (y : Int)] i L fun v i' L' => v = .bool (smI A B 5 x y) ∧ L' = L := by
  refine FnS.state (K := fun v _ L' => ∃ M, v = .bool (smI A B 5 x y) ∧ L' = M ++ L) ?_ ?_
  rotate_left
  · rintro v i' L' w _ hs ⟨M, hv, rfl⟩
    exact ⟨i', _, Imm.le.refl i', hs.dropL, hv, rfl⟩
  refine FnS.intro1 Try.func81 rfl Try.ntmps81 (by simp) Try.results81 ?_
  repeat' (first
    | refine CS.seq ?_
    | refine thenQ.normal ?_
    | refine CS.cond_true rfl ?_
    | refine CS.cond_false rfl ?_
    | refine CS.skip ?_
    | (refine CS.region (id := 0) ?_;
        refine RS.box rfl rfl (fun b => ?_);
        refine RS.box rfl rfl (fun b => ?_);
        refine RS.pv (PV.all tab_ok rfl) rfl ?_;
        refine RS.nil ?_)
    | (refine CS.region (id := 1) ?_;
        refine RS.pv (PV.all tab_ok rfl) rfl ?_;
        refine RS.nil ?_)
    | (refine CS.region (id := 2) ?_;
        (first | refine RS.pv (PV.all tab_ok rfl) rfl ?_ | refine RS.pv (PV.eqlT rfl rfl (by omega)) rfl ?_ | refine RS.pv (PV.eqlF rfl rfl (by omega)) rfl ?_ | refine RS.ifEql rfl rfl rfl (fun h => ?_) (fun h => ?_) | refine RS.ifSeql rfl rfl rfl (fun h => ?_) (fun h => ?_));
        (all_goals refine RS.pv (PV.all tab_ok rfl) rfl ?_);
        (all_goals refine RS.nil ?_))
    | (refine CS.region (id := 4) ?_;
        (first | refine RS.pv (PV.all tab_ok rfl) rfl ?_ | refine RS.pv (PV.eqlT rfl rfl (by omega)) rfl ?_ | refine RS.pv (PV.eqlF rfl rfl (by omega)) rfl ?_ | refine RS.ifEql rfl rfl rfl (fun h => ?_) (fun h => ?_) | refine RS.ifSeql rfl rfl rfl (fun h => ?_) (fun h => ?_));
        (all_goals refine RS.pv (PV.all tab_ok rfl) rfl ?_);
        (all_goals refine RS.nil ?_))
    | (refine CS.region (id := 6) ?_;
        (first | refine RS.pv (PV.all tab_ok rfl) rfl ?_ | refine RS.pv (PV.eqlT rfl rfl (by omega)) rfl ?_ | refine RS.pv (PV.eqlF rfl rfl (by omega)) rfl ?_ | refine RS.ifEql rfl rfl rfl (fun h => ?_) (fun h => ?_) | refine RS.ifSeql rfl rfl rfl (fun h => ?_) (fun h => ?_));
        (all_goals refine RS.pv (PV.all tab_ok rfl) rfl ?_);
        (all_goals refine RS.nil ?_))
    | (refine CS.region (id := 8) ?_;
        (first | refine RS.pv (PV.all tab_ok rfl) rfl ?_ | refine RS.pv (PV.eqlT rfl rfl (by omega)) rfl ?_ | refine RS.pv (PV.eqlF rfl rfl (by omega)) rfl ?_ | refine RS.ifEql rfl rfl rfl (fun h => ?_) (fun h => ?_) | refine RS.ifSeql rfl rfl rfl (fun h => ?_) (fun h => ?_));
        (all_goals refine RS.pv (PV.all tab_ok rfl) rfl ?_);
        (all_goals refine RS.nil ?_))
    | (refine CS.region (id := 10) ?_;
        refine RS.pv (PV.all tab_ok rfl) rfl ?_;
        refine RS.nil ?_)
    | refine CS.ret ?_
    | refine thenQ.ret ?_
    | refine blkQ.ret ?_
    | refine retQ.ret ?_
    | refine CS.block ?_
    | refine CS.exit ?_
    | refine thenQ.exit ?_
    | refine blkQ.normal ?_
    | refine blkQ.here ?_
    | refine blkQ.past rfl ?_
    | refine retQ.normal ?_)
  exact ⟨[_, _], rfl, rfl⟩
theorem same_81 (n : Nat) (hn1 : 1 ≤ n) (hn5 : n ≤ 5) (ac bc : List Value) (A B : WorldD) (x y : Nat) (i : Imm) (L : SH) (hA : WorldV i ac A) (hB : WorldV i bc B) (oA : A.ok) (oB : B.ok) (hx : x < (keysOf A n).length) (hy : y < (keysOf B n).length) :
    FnS Try.prog 81 [.agg ac.toArray, .agg bc.toArray, .int .i64 (n : Int), .int .i64 (x : Int), .int .i64 (y : Int)] i L fun v i' L' => v = .bool (smI A B n x y) ∧ L' = L := by
  rcases (by omega : n = 1 ∨ n = 2 ∨ n = 3 ∨ n = 4 ∨ n = 5) with rfl | rfl | rfl | rfl | rfl
  · exact same81_1 ac bc A B x y i L hA hB oA oB (by simpa [keysOf] using hx) (by simpa [keysOf] using hy)
  · exact same81_2 ac bc A B x y i L hA hB oA oB (by simpa [keysOf] using hx) (by simpa [keysOf] using hy)
  · exact same81_3 ac bc A B x y i L hA hB oA oB (by simpa [keysOf] using hx) (by simpa [keysOf] using hy)
  · exact same81_4 ac bc A B x y i L hA hB oA oB (by simpa [keysOf] using hx) (by simpa [keysOf] using hy)
  · exact same81_5 ac bc A B x y i L
end Go.Proofs.Ytmcajldlcomegaa
