/- RescanCompares, part 6: rescan.compare walked, at its five types. -/
import Derived.Test.YtmcajldlcomegaaW50
namespace Go.Proofs.Ytmcajldlcomegaa
open Go Go.Eng

theorem Compare_64 {E : Type} (cl : E → List Value) (nm : E → ByteArray) (sm : E → E → Bool) (A B : List E) (of_ : Int) (sf : FuncId) (hsf : fnOk Try.prog sf = true) (va vb : Value) (i : Imm) (L : SH) (hA : ElsOk cl nm 12 A) (hB : ElsOk cl nm 12 B) (hsA : Sl i va 12 A.length (rowC cl A)) (hsB : Sl i vb 12 B.length (rowC cl B)) (hlA : A.length ≤ 10000000000) (hlB : B.length ≤ 10000000000)
    (hsm : ∀ x ∈ A, ∀ y ∈ B, ∀ i' L', i.le i' → FnS Try.prog sf [.agg (cl x).toArray, .agg (cl y).toArray] i' L' fun v _ L'' => v = .bool (sm x y) ∧ L'' = L') :
    FnS Try.prog 64 [.int .i64 of_, va, vb, .func (.func 65) #[] #[], .func (.func sf) #[] #[]] i L fun v i' L' => L' = L ∧ ∃ l, Sl i' v 3 l.length (diffs l) ∧ DiffOf of_ nm sm A B l ∧ l.length ≤ A.length + B.length := by
  refine FnS.state (K := fun v i' L' => ∃ l O M, SlO 85 v 3 l.length (diffs l) O ∧ L' = O ++ (M ++ L) ∧ DiffOf of_ nm sm A B l ∧ l.length ≤ A.length + B.length) ?_ ?_
  rotate_left
  · rintro v i' L' w _ hs ⟨l, O, M, hO, rfl, hd, hll⟩
    obtain ⟨i2, h1, h2, h3⟩ := hO.freeze hs
    exact ⟨i2, L, h1, h2.dropL, rfl, l, h3, hd, hll⟩
  obtain ⟨aa, ac, rfl, -⟩ := id hsA
  obtain ⟨ba, bc, rfl, -⟩ := id hsB
  refine FnS.intro1 Try.func64 rfl Try.ntmps64 (by simp) Try.results64 ?_
  repeat' (first
    | refine CS.seq ?_
    | refine thenQ.normal ?_
    | refine CS.cond_true rfl ?_
    | refine CS.cond_false rfl ?_
    | refine CS.skip ?_
    | (refine CS.region (id := 0) ?_;
        refine RS.pv (PV.all tab_ok rfl) rfl ?_;
        refine RS.nil ?_)
    | (refine CS.region (id := 1) ?_;
        refine RS.pv (PV.all tab_ok rfl) rfl ?_;
        refine RS.pv (PV.all tab_ok rfl) rfl ?_;
        (refine RS.call (First_92 cl nm A _ _ _ (fun e he => ⟨hA.len e he, hA.one e he, hA.name e he⟩) hsA (by omega)) rfl (by kernel_rfl) rfl ?_; rintro v i1 L1 hi1 ⟨hL1, ma, ms, ca, rfl, hma, hMA⟩; replace hL1 := hL1.symm; subst hL1);
        (all_goals refine RS.pv (PV.all tab_ok rfl) rfl ?_);
        (all_goals refine RS.pv (PV.all tab_ok rfl) rfl ?_);
        (all_goals (refine RS.call (First_92 cl nm B _ _ _ (fun e he => ⟨hB.len e he, hB.one e he, hB.name e he⟩) (hsB.le hi1) (by omega)) rfl (by kernel_rfl) rfl ?_; rintro v i2 L2 hi2 ⟨hL2, mb, ns, cb, rfl, hmb, hMB⟩; replace hL2 := hL2.symm; subst hL2));
        (all_goals refine RS.pv (PV.all tab_ok rfl) rfl ?_);
        (all_goals refine RS.pv (PV.all tab_ok rfl) rfl ?_);
        (all_goals refine RS.nil ?_))
    | (refine CS.region (id := 2) ?_;
        refine RS.makeMapV rfl (fun bn => ?_);
        (all_goals refine RS.pv (PV.all tab_ok rfl) rfl ?_);
        (all_goals refine RS.nil ?_))
    | (refine CS.region (id := 3) ?_;
        refine RS.pv (PV.all tab_ok rfl) rfl ?_;
        refine RS.rangeM tab_ok rfl rfl ⟨_, rfl, rfl⟩ (Has.imm (hi2.blk _ _ hma)) (fun it => ?_);
        (all_goals refine RS.nil ?_))
    | refine CS.ret ?_
    | refine thenQ.ret ?_
    | refine blkQ.ret ?_
    | refine retQ.ret ?_
    | refine CS.block ?_
    | refine CS.exit ?_
    | refine thenQ.exit ?_
    | refine blkQ.normal ?_
    | refine blkQ.here ?_
    | refine blkQ.past rfl ?_
    | refine retQ.normal ?_)
  replace hma := hi2.blk _ _ hma
  refine CS.loop [0, 4, 11, 12, 13, 32] (fun m vs i' L' => ∃ (xs : List VE) (c : Nat) (seen : Array Nat), m = leftM ms seen ∧ SetInv (fun _ => False) ms ms.length xs c seen ∧ vs = [.int .i64 of_, .func (.func sf) #[] #[], .map (some ma), .map (some mb), .map (some bn), .pointer (some ⟨it, 0, none⟩)] ∧ i2 = i' ∧ L' = (it, .mapIter (some ma) ca seen ca) :: (bn, .map (entV xs) c) :: L) ms.length ⟨[], 0, #[], (leftM_nil ms).symm, ⟨MapOk.nil, by rw [leftM_nil]; simp, fun a => by simp⟩, rfl, rfl, rfl⟩ ?_
  rintro m g vs i' L' hi ⟨xs, c, seen, rfl, hinv, rfl, rfl, rfl⟩
  repeat' (first
    | refine CS.seq ?_
    | refine thenQ.normal ?_
    | refine CS.cond_true rfl ?_
    | refine CS.cond_false rfl ?_
    | refine CS.skip ?_
    | (refine CS.region (id := 4) ?_;
        refine RS.nextM (k := 0) rfl rfl rfl (Has.imm hma) hMA.ok.lt (Nat.le_refl _) (fun hall => ?_) (fun e he hne => ?_);
        (all_goals refine RS.pv (PV.all tab_ok rfl) rfl ?_);
        (all_goals refine RS.nil ?_))
    | (refine CS.region (id := 5) ?_;
        refine RS.lv (LV.entryM (k := 0) rfl rfl (Has.imm hma) hMA.ok he) rfl ?_;
        (all_goals refine RS.pv (PV.all tab_ok rfl) rfl ?_);
        (all_goals refine RS.pv (PV.all tab_ok rfl) rfl ?_);
        (all_goals refine RS.nil ?_))
    | (refine CS.region (id := 6) ?_;
        refine RS.pv (PV.all tab_ok rfl) rfl ?_;
        refine RS.pv (PV.all tab_ok rfl) rfl ?_;
        refine RS.mapPut (k := 1) (a := e.1) tab_ok rfl rfl rfl rfl ⟨_, rfl, rfl⟩ ⟨_, rfl, rfl⟩ rfl rfl ?_;
        (all_goals refine RS.nil ?_))
    | refine CS.ret ?_
    | refine thenQ.ret ?_
    | refine blkQ.ret ?_
    | refine retQ.ret ?_
    | refine CS.block ?_
    | refine CS.exit ?_
    | refine thenQ.exit ?_
    | refine blkQ.normal ?_
    | refine blkQ.here ?_
    | refine blkQ.past rfl ?_
    | refine retQ.normal ?_)
  rotate_left
  · exact ⟨_, leftM_push ms seen e he hne, _, _, _, rfl, hinv.step hMA.ok he hne _, rfl, rfl, rfl⟩
  have hk1 : ∀ a, a ∈ xs.map (fun e => e.1) ↔ a ∈ A.map nm := fun a => by rw [hinv.all hall a, hMA.keys a]; simp
  have hx1 : xs.length ≤ ms.length := by have := hinv.few; omega
  have hok1 := hinv.ok
  clear hinv hall
  refine CS.drop ?_
  repeat' (first
    | refine CS.seq ?_
    | refine thenQ.normal ?_
    | refine CS.cond_true rfl ?_
    | refine CS.cond_false rfl ?_
    | refine CS.skip ?_
    | (refine CS.region (id := 7) ?_;
        refine RS.pv (PV.all tab_ok rfl) rfl ?_;
        refine RS.rangeM tab_ok rfl rfl ⟨_, rfl, rfl⟩ (Has.imm hmb) (fun it2 => ?_);
        (all_goals refine RS.nil ?_))
    | refine CS.ret ?_
    | refine thenQ.ret ?_
    | refine blkQ.ret ?_
    | refine retQ.ret ?_
    | refine CS.block ?_
    | refine CS.exit ?_
    | refine thenQ.exit ?_
    | refine blkQ.normal ?_
    | refine blkQ.here ?_
    | refine blkQ.past rfl ?_
    | refine retQ.normal ?_)
  refine CS.loop [0, 4, 11, 12, 13, 40] (fun m vs i' L' => ∃ (zs : List VE) (c : Nat) (seen : Array Nat), m = leftM ns seen ∧ SetInv (fun a => a ∈ A.map nm) ns (ms.length + ns.length) zs c seen ∧ vs = [.int .i64 of_, .func (.func sf) #[] #[], .map (some ma), .map (some mb), .map (some bn), .pointer (some ⟨it2, 0, none⟩)] ∧ i2 = i' ∧ L' = (it2, .mapIter (some mb) cb seen cb) :: (bn, .map (entV zs) c) :: L) ns.length ⟨xs, c, #[], (leftM_nil ns).symm, ⟨hok1, by rw [leftM_nil]; omega, fun a => by rw [hk1 a]; simp⟩, rfl, rfl, rfl⟩ ?_
  rintro m g2 vs i' L' hi' ⟨zs, c2, seen2, rfl, hinv, rfl, rfl, rfl⟩
  repeat' (first
    | refine CS.seq ?_
    | refine thenQ.normal ?_
    | refine CS.cond_true rfl ?_
    | refine CS.cond_false rfl ?_
    | refine CS.skip ?_
    | (refine CS.region (id := 8) ?_;
        refine RS.nextM (k := 0) rfl rfl rfl (Has.imm hmb) hMB.ok.lt (Nat.le_refl _) (fun hall => ?_) (fun e he hne => ?_);
        (all_goals refine RS.pv (PV.all tab_ok rfl) rfl ?_);
        (all_goals refine RS.nil ?_))
    | (refine CS.region (id := 9) ?_;
        refine RS.lv (LV.entryM (k := 0) rfl rfl (Has.imm hmb) hMB.ok he) rfl ?_;
        (all_goals refine RS.pv (PV.all tab_ok rfl) rfl ?_);
        (all_goals refine RS.pv (PV.all tab_ok rfl) rfl ?_);
        (all_goals refine RS.nil ?_))
    | (refine CS.region (id := 10) ?_;
        refine RS.pv (PV.all tab_ok rfl) rfl ?_;
        refine RS.pv (PV.all tab_ok rfl) rfl ?_;
        refine RS.mapPut (k := 1) (a := e.1) tab_ok rfl rfl rfl rfl ⟨_, rfl, rfl⟩ ⟨_, rfl, rfl⟩ rfl rfl ?_;
        (all_goals refine RS.nil ?_))
    | refine CS.ret ?_
    | refine thenQ.ret ?_
    | refine blkQ.ret ?_
    | refine retQ.ret ?_
    | refine CS.block ?_
    | refine CS.exit ?_
    | refine thenQ.exit ?_
    | refine blkQ.normal ?_
    | refine blkQ.here ?_
    | refine blkQ.past rfl ?_
    | refine retQ.normal ?_)
  rotate_left
  · exact ⟨_, leftM_push ns seen2 e he hne, _, _, _, rfl, hinv.step hMB.ok he hne _, rfl, rfl, rfl⟩
  have hk2 : ∀ a, a ∈ zs.map (fun e => e.1) ↔ a ∈ A.map nm ∨ a ∈ B.map nm := fun a => by rw [hinv.all hall a, hMB.keys a]
  have hx2 : zs.length ≤ ms.length + ns.length := by have := hinv.few; omega
  have hfa := hMA.few
  have hfb := hMB.few
  have hok2 := hinv.ok
  clear hinv hall hk1 hx1 hok1
  have hsz : ∀ e ∈ zs, e.1.size ≤ maxLen := fun e he => by
    have h1 := (hk2 e.1).1 (List.mem_map.2 ⟨e, he, rfl⟩)
    rw [List.mem_map, List.mem_map] at h1
    rcases h1 with ⟨x, hx, hxe⟩ | ⟨x, hx, hxe⟩
    · rw [← hxe]; exact hA.size x hx
    · rw [← hxe]; exact hB.size x hx
  refine CS.drop ?_
  repeat' (first
    | refine CS.seq ?_
    | refine thenQ.normal ?_
    | refine CS.cond_true rfl ?_
    | refine CS.cond_false rfl ?_
    | refine CS.skip ?_
    | (refine CS.region (id := 11) ?_;
        refine RS.pv (PV.all tab_ok rfl) rfl ?_;
        refine RS.nil ?_)
    | (refine CS.region (id := 12) ?_;
        refine RS.pv (PV.all tab_ok rfl) rfl ?_;
        (refine RS.call (Keys_94 _ _ _) rfl (by kernel_rfl) rfl ?_; rintro v i3 L3 hi3 ⟨rfl, p, rfl, rfl⟩);
        (all_goals (refine RS.call (Sorted_93 p bn c2 zs _ _ (Has.own 0 rfl) (Has.own 1 rfl) hok2 (by omega) hsz) rfl (by kernel_rfl) rfl ?_; rintro v i4 L4 hi4 ⟨rfl, names, hsn, hasc, hln, hmn⟩; obtain ⟨na, nc, rfl, -⟩ := id hsn));
        (all_goals (first | refine RS.pv (PV.lenS tab_ok rfl rfl) rfl ?_ | refine RS.pv (PV.lenT tab_ok rfl rfl) rfl ?_));
        (all_goals refine RS.pv (PV.all tab_ok rfl) rfl ?_);
        (all_goals refine RS.nil ?_))
    | refine CS.ret ?_
    | refine thenQ.ret ?_
    | refine blkQ.ret ?_
    | refine retQ.ret ?_
    | refine CS.block ?_
    | refine CS.exit ?_
    | refine thenQ.exit ?_
    | refine blkQ.normal ?_
    | refine blkQ.here ?_
    | refine blkQ.past rfl ?_
    | refine retQ.normal ?_)
  replace hma := hi4.blk _ _ hma
  replace hmb := hi4.blk _ _ hmb
  have hmn' : ∀ a, a ∈ names ↔ a ∈ A.map nm ∨ a ∈ B.map nm := fun a => (hmn a).trans (hk2 a)
  clear hmn hk2
  refine CS.loop [0, 4, 11, 12, 16, 49, 50, 51] (fun m vs i' L' => ∃ (k : Nat) (O : SH) (oa : Option Addr) (oc : Nat), m = names.length - k ∧ k ≤ names.length ∧ SlO 85 (.slice oa ((names.take (k)).filterMap (diffAt of_ nm sm A B)).length oc) 3 ((names.take (k)).filterMap (diffAt of_ nm sm A B)).length (diffs (((names.take (k)).filterMap (diffAt of_ nm sm A B)))) O ∧ vs = [.int .i64 of_, .func (.func sf) #[] #[], .map (some ma), .map (some mb), .slice oa ((names.take (k)).filterMap (diffAt of_ nm sm A B)).length oc, .slice na names.length nc, .int .i64 names.length, .int .i64 k] ∧ L' = O ++ ([(p, .cells (List.toArray [.map (some bn)]) 72 (0, 0)), (bn, .map (entV zs) c2)] ++ L)) names.length ⟨0, [], none, 0, rfl, Nat.zero_le _, SlO.nil 85 3, rfl, rfl⟩ ?_
  rintro m g3 vs i' L' hi3 ⟨k, O, oa, oc, rfl, hk, hO, rfl, rfl⟩
  replace hma := hi3.blk _ _ hma
  replace hmb := hi3.blk _ _ hmb
  by_cases hlt : k < names.length
  · obtain ⟨b1, o1, c1, t1, z1, p1, e1, g1, h1⟩ := (hsn.le hi3).at hlt (by omega)
    cases e1
    obtain ⟨a, ha⟩ : ∃ a, names[k]? = some a := ⟨_, List.getElem?_eq_getElem hlt⟩
    have q1 := h1 0 (by omega)
    rw [strs_at, ha] at q1
    have hdl := take_filterMap_len (f := diffAt of_ nm sm A B) hk
    have hnx := take_filterMap (f := diffAt of_ nm sm A B) ha
    have hgA := hMA.get a
    have hgB := hMB.get a
    cases hfA : firstE nm A a with
    | none =>
      replace hgA : mget ms a = none := by rw [hgA, hfA]; rfl
      cases hfB : firstE nm B a with
      | none =>
        replace hgB : mget ns a = none := by rw [hgB, hfB]; rfl
        repeat' (first
          | refine CS.seq ?_
          | refine thenQ.normal ?_
          | refine CS.cond_true rfl ?_
          | refine CS.cond_false rfl ?_
          | refine CS.skip ?_
          | (refine CS.region (id := 13) ?_;
              (first | refine RS.pv (PV.lssT rfl rfl (by omega)) rfl ?_ | refine RS.pv (PV.lssF rfl rfl (by omega)) rfl ?_ | refine RS.ifLss rfl rfl rfl (fun h => ?_) (fun h => ?_));
              (all_goals refine RS.nil ?_))
          | (refine CS.region (id := 14) ?_;
              (first | refine RS.pv (PV.indexAddr tab_ok rfl rfl rfl (by omega)) rfl ?_ | refine RS.pv (PV.indexAddrA tab_ok rfl rfl rfl (by omega)) rfl ?_);
              refine RS.lv (LV.load1 tab_ok rfl (Has.imm g1) rfl q1) rfl ?_;
              (all_goals refine RS.pv (PV.all tab_ok rfl) rfl ?_);
              (all_goals refine RS.nil ?_))
          | (refine CS.region (id := 15) ?_;
              refine RS.pv (PV.all tab_ok rfl) rfl ?_;
              refine RS.pv (PV.all tab_ok rfl) rfl ?_;
              refine RS.lv (LV.lookupVn tab_ok rfl rfl ⟨_, rfl, rfl⟩ ⟨_, rfl, rfl⟩ Try.zeroValue36 (Has.imm hma) hgA) rfl ?_;
              (all_goals refine RS.pv (PV.all tab_ok rfl) rfl ?_);
              (all_goals refine RS.pv (PV.all tab_ok rfl) rfl ?_);
              (all_goals refine RS.pv (PV.all tab_ok rfl) rfl ?_);
              (all_goals refine RS.alloc tab_ok rfl rfl (fun bx => ?_));
              (all_goals (refine RS.storeW (k := 0) tab_ok rfl rfl rfl rfl rfl nofun rfl ?_; refine RS.freeze (fun i6 hi6 hbx => ?_); have hmb' := hi6.blk _ _ hmb));
              (all_goals refine RS.pv (PV.all tab_ok rfl) rfl ?_);
              (all_goals refine RS.nil ?_))
          | (refine CS.region (id := 16) ?_;
              refine RS.pv (PV.all tab_ok rfl) rfl ?_;
              refine RS.pv (PV.all tab_ok rfl) rfl ?_;
              refine RS.lv (LV.lookupVn tab_ok rfl rfl ⟨_, rfl, rfl⟩ ⟨_, rfl, rfl⟩ Try.zeroValue36 (Has.imm hmb') hgB) rfl ?_;
              (all_goals refine RS.pv (PV.all tab_ok rfl) rfl ?_);
              (all_goals refine RS.pv (PV.all tab_ok rfl) rfl ?_);
              (all_goals refine RS.pv (PV.all tab_ok rfl) rfl ?_);
              (all_goals refine RS.alloc tab_ok rfl rfl (fun b_y => ?_));
              (all_goals (refine RS.storeW (k := 0) tab_ok rfl rfl rfl rfl rfl nofun rfl ?_; refine RS.freeze (fun i7 hi7 hby => ?_)));
              (all_goals refine RS.pv (PV.all tab_ok rfl) rfl ?_);
              (all_goals refine RS.nil ?_))
          | (refine CS.region (id := 17) ?_;
              refine RS.pv (PV.all tab_ok rfl) rfl ?_;
              refine RS.nil ?_)
          | (refine CS.region (id := 18) ?_;
              refine RS.pv (PV.all tab_ok rfl) rfl ?_;
              refine RS.pv (PV.all tab_ok rfl) rfl ?_;
              refine RS.pv (PV.all tab_ok rfl) rfl ?_;
              refine RS.nil ?_)
          | (refine CS.region (id := 19) ?_;
              refine RS.pv (PV.all tab_ok rfl) rfl ?_;
              refine RS.nil ?_)
          | (refine CS.region (id := 24) ?_;
              refine RS.pv (PV.all tab_ok rfl) rfl ?_;
              (first | refine RS.pv (PV.gtrT rfl rfl (by omega)) rfl ?_ | refine RS.pv (PV.gtrF rfl rfl (by omega)) rfl ?_ | refine RS.ifGtr rfl rfl rfl (fun h => ?_) (fun h => ?_));
              (all_goals refine RS.nil ?_))
          | (refine CS.region (id := 25) ?_;
              refine RS.pv (PV.all tab_ok rfl) rfl ?_;
              refine RS.pv (PV.all tab_ok rfl) rfl ?_;
              refine RS.pv (PV.all tab_ok rfl) rfl ?_;
              refine RS.pv (PV.all tab_ok rfl) rfl ?_;
              refine RS.pv (PV.all tab_ok rfl) rfl ?_;
              refine RS.buildSliceF tab_ok 3 rfl rfl rfl (fun bb i9 hi9 hbs => ?_);
              (all_goals (refine RS.append tab_ok (sz := 3) (bytes := 32) (k := ((names.take k).filterMap (diffAt of_ nm sm A B)).length) (m := 1) (xs := diffs (((names.take k).filterMap (diffAt of_ nm sm A B)))) (news := [.int .i64 of_, .int .i64 1, .string a]) rfl rfl rfl ⟨_, rfl, rfl⟩ ⟨_, rfl, rfl, rfl⟩ (by omega) hO rfl (hbs.rd _) (by intro c hc; simp at hc; rcases hc with rfl | rfl | rfl <;> rfl) (by omega) (by omega) ?_; intro v' O' hO' hnil; obtain ⟨ao', cap', rfl⟩ := SlO.shape hO'));
              (all_goals refine RS.pv (PV.all tab_ok rfl) rfl ?_);
              (all_goals refine RS.nil ?_))
          | (refine CS.region (id := 26) ?_;
              refine RS.pv (PV.add rfl rfl (by omega)) rfl ?_;
              refine RS.pv (PV.all tab_ok rfl) rfl ?_;
              refine RS.nil ?_)
          | refine CS.ret ?_
          | refine thenQ.ret ?_
          | refine blkQ.ret ?_
          | refine retQ.ret ?_
          | refine CS.block ?_
          | refine CS.exit ?_
          | refine thenQ.exit ?_
          | refine blkQ.normal ?_
          | refine blkQ.here ?_
          | refine blkQ.past rfl ?_
          | refine retQ.normal ?_)
        have e : ((names.take (k + 1)).filterMap (diffAt of_ nm sm A B)) = ((names.take k).filterMap (diffAt of_ nm sm A B)) ++ [⟨of_, 1, a⟩] := by rw [hnx, diffAt_l hfA]; rfl
        have el : ((names.take (k + 1)).filterMap (diffAt of_ nm sm A B)).length = ((names.take k).filterMap (diffAt of_ nm sm A B)).length + 1 := by rw [e, List.length_append]; rfl
        exact ⟨names.length - (k + 1), by omega, k + 1, O', ao', cap', rfl, hlt, by rw [el, e, diffs_snoc]; exact hO', by rw [el]; rfl, rfl⟩
      | some y =>
        replace hgB : mget ns a = some (.agg (List.toArray (cl y))) := by rw [hgB, hfB]; rfl
        have hy0 : 12 = (cl y).length := (hB.len y (firstE_mem hfB).1).symm
        have hy1 : cl y ≠ [] := fun h => by rw [h] at hy0; cases hy0
        have hy2 : okStore tab 36 (cl y) = true := by
          show (Nat.beq (cl y).length 12 && (cl y).all (·.oneCell')) = true
          rw [← hy0, List.all_eq_true.2 (hB.one y (firstE_mem hfB).1)]; rfl
        repeat' (first
          | refine CS.seq ?_
          | refine thenQ.normal ?_
          | refine CS.cond_true rfl ?_
          | refine CS.cond_false rfl ?_
          | refine CS.skip ?_
          | (refine CS.region (id := 13) ?_;
              (first | refine RS.pv (PV.lssT rfl rfl (by omega)) rfl ?_ | refine RS.pv (PV.lssF rfl rfl (by omega)) rfl ?_ | refine RS.ifLss rfl rfl rfl (fun h => ?_) (fun h => ?_));
              (all_goals refine RS.nil ?_))
          | (refine CS.region (id := 14) ?_;
              (first | refine RS.pv (PV.indexAddr tab_ok rfl rfl rfl (by omega)) rfl ?_ | refine RS.pv (PV.indexAddrA tab_ok rfl rfl rfl (by omega)) rfl ?_);
              refine RS.lv (LV.load1 tab_ok rfl (Has.imm g1) rfl q1) rfl ?_;
              (all_goals refine RS.pv (PV.all tab_ok rfl) rfl ?_);
              (all_goals refine RS.nil ?_))
          | (refine CS.region (id := 15) ?_;
              refine RS.pv (PV.all tab_ok rfl) rfl ?_;
              refine RS.pv (PV.all tab_ok rfl) rfl ?_;
              refine RS.lv (LV.lookupVn tab_ok rfl rfl ⟨_, rfl, rfl⟩ ⟨_, rfl, rfl⟩ Try.zeroValue36 (Has.imm hma) hgA) rfl ?_;
              (all_goals refine RS.pv (PV.all tab_ok rfl) rfl ?_);
              (all_goals refine RS.pv (PV.all tab_ok rfl) rfl ?_);
              (all_goals refine RS.pv (PV.all tab_ok rfl) rfl ?_);
              (all_goals refine RS.alloc tab_ok rfl rfl (fun bx => ?_));
              (all_goals (refine RS.storeW (k := 0) tab_ok rfl rfl rfl rfl rfl nofun rfl ?_; refine RS.freeze (fun i6 hi6 hbx => ?_); have hmb' := hi6.blk _ _ hmb));
              (all_goals refine RS.pv (PV.all tab_ok rfl) rfl ?_);
              (all_goals refine RS.nil ?_))
          | (refine CS.region (id := 16) ?_;
              refine RS.pv (PV.all tab_ok rfl) rfl ?_;
              refine RS.pv (PV.all tab_ok rfl) rfl ?_;
              refine RS.lv (LV.lookupVs tab_ok rfl rfl ⟨_, rfl, rfl⟩ ⟨_, rfl, rfl⟩ Try.zeroValue36 (Has.imm hmb') hgB) rfl ?_;
              (all_goals refine RS.pv (PV.all tab_ok rfl) rfl ?_);
              (all_goals refine RS.pv (PV.all tab_ok rfl) rfl ?_);
              (all_goals refine RS.pv (PV.all tab_ok rfl) rfl ?_);
              (all_goals refine RS.alloc tab_ok rfl rfl (fun b_y => ?_));
              (all_goals (refine RS.storeW (k := 0) tab_ok rfl rfl rfl rfl hy0 hy1 hy2 ?_; refine RS.freeze (fun i7 hi7 hby => ?_)));
              (all_goals refine RS.pv (PV.all tab_ok rfl) rfl ?_);
              (all_goals refine RS.nil ?_))
          | (refine CS.region (id := 17) ?_;
              refine RS.pv (PV.all tab_ok rfl) rfl ?_;
              refine RS.nil ?_)
          | (refine CS.region (id := 18) ?_;
              refine RS.pv (PV.all tab_ok rfl) rfl ?_;
              refine RS.pv (PV.all tab_ok rfl) rfl ?_;
              refine RS.pv (PV.all tab_ok rfl) rfl ?_;
              refine RS.nil ?_)
          | (refine CS.region (id := 19) ?_;
              refine RS.pv (PV.all tab_ok rfl) rfl ?_;
              refine RS.nil ?_)
          | (refine CS.region (id := 24) ?_;
              refine RS.pv (PV.all tab_ok rfl) rfl ?_;
              (first | refine RS.pv (PV.gtrT rfl rfl (by omega)) rfl ?_ | refine RS.pv (PV.gtrF rfl rfl (by omega)) rfl ?_ | refine RS.ifGtr rfl rfl rfl (fun h => ?_) (fun h => ?_));
              (all_goals refine RS.nil ?_))
          | (refine CS.region (id := 25) ?_;
              refine RS.pv (PV.all tab_ok rfl) rfl ?_;
              refine RS.pv (PV.all tab_ok rfl) rfl ?_;
              refine RS.pv (PV.all tab_ok rfl) rfl ?_;
              refine RS.pv (PV.all tab_ok rfl) rfl ?_;
              refine RS.pv (PV.all tab_ok rfl) rfl ?_;
              refine RS.buildSliceF tab_ok 3 rfl rfl rfl (fun bb i9 hi9 hbs => ?_);
              (all_goals (refine RS.append tab_ok (sz := 3) (bytes := 32) (k := ((names.take k).filterMap (diffAt of_ nm sm A B)).length) (m := 1) (xs := diffs (((names.take k).filterMap (diffAt of_ nm sm A B)))) (news := [.int .i64 of_, .int .i64 1, .string a]) rfl rfl rfl ⟨_, rfl, rfl⟩ ⟨_, rfl, rfl, rfl⟩ (by omega) hO rfl (hbs.rd _) (by intro c hc; simp at hc; rcases hc with rfl | rfl | rfl <;> rfl) (by omega) (by omega) ?_; intro v' O' hO' hnil; obtain ⟨ao', cap', rfl⟩ := SlO.shape hO'));
              (all_goals refine RS.pv (PV.all tab_ok rfl) rfl ?_);
              (all_goals refine RS.nil ?_))
          | (refine CS.region (id := 26) ?_;
              refine RS.pv (PV.add rfl rfl (by omega)) rfl ?_;
              refine RS.pv (PV.all tab_ok rfl) rfl ?_;
              refine RS.nil ?_)
          | refine CS.ret ?_
          | refine thenQ.ret ?_
          | refine blkQ.ret ?_
          | refine retQ.ret ?_
          | refine CS.block ?_
          | refine CS.exit ?_
          | refine thenQ.exit ?_
          | refine blkQ.normal ?_
          | refine blkQ.here ?_
          | refine blkQ.past rfl ?_
          | refine retQ.normal ?_)
        have e : ((names.take (k + 1)).filterMap (diffAt of_ nm sm A B)) = ((names.take k).filterMap (diffAt of_ nm sm A B)) ++ [⟨of_, 1, a⟩] := by rw [hnx, diffAt_l hfA]; rfl
        have el : ((names.take (k + 1)).filterMap (diffAt of_ nm sm A B)).length = ((names.take k).filterMap (diffAt of_ nm sm A B)).length + 1 := by rw [e, List.length_append]; rfl
        exact ⟨names.length - (k + 1), by omega, k + 1, O', ao', cap', rfl, hlt, by rw [el, e, diffs_snoc]; exact hO', by rw [el]; rfl, rfl⟩
    | some x =>
      replace hgA : mget ms a = some (.agg (List.toArray (cl x))) := by rw [hgA, hfA]; rfl
      have hx0 : 12 = (cl x).length := (hA.len x (firstE_mem hfA).1).symm
      have hx1 : cl x ≠ [] := fun h => by rw [h] at hx0; cases hx0
      have hx2 : okStore tab 36 (cl x) = true := by
        show (Nat.beq (cl x).length 12 && (cl x).all (·.oneCell')) = true
        rw [← hx0, List.all_eq_true.2 (hA.one x (firstE_mem hfA).1)]; rfl
      cases hfB : firstE nm B a with
      | none =>
        replace hgB : mget ns a = none := by rw [hgB, hfB]; rfl
        repeat' (first
          | refine CS.seq ?_
          | refine thenQ.normal ?_
          | refine CS.cond_true rfl ?_
          | refine CS.cond_false rfl ?_
          | refine CS.skip ?_
          | (refine CS.region (id := 13) ?_;
              (first | refine RS.pv (PV.lssT rfl rfl (by omega)) rfl ?_ | refine RS.pv (PV.lssF rfl rfl (by omega)) rfl ?_ | refine RS.ifLss rfl rfl rfl (fun h => ?_) (fun h => ?_));
              (all_goals refine RS.nil ?_))
          | (refine CS.region (id := 14) ?_;
              (first | refine RS.pv (PV.indexAddr tab_ok rfl rfl rfl (by omega)) rfl ?_ | refine RS.pv (PV.indexAddrA tab_ok rfl rfl rfl (by omega)) rfl ?_);
              refine RS.lv (LV.load1 tab_ok rfl (Has.imm g1) rfl q1) rfl ?_;
              (all_goals refine RS.pv (PV.all tab_ok rfl) rfl ?_);
              (all_goals refine RS.nil ?_))
          | (refine CS.region (id := 15) ?_;
              refine RS.pv (PV.all tab_ok rfl) rfl ?_;
              refine RS.pv (PV.all tab_ok rfl) rfl ?_;
              refine RS.lv (LV.lookupVs tab_ok rfl rfl ⟨_, rfl, rfl⟩ ⟨_, rfl, rfl⟩ Try.zeroValue36 (Has.imm hma) hgA) rfl ?_;
              (all_goals refine RS.pv (PV.all tab_ok rfl) rfl ?_);
              (all_goals refine RS.pv (PV.all tab_ok rfl) rfl ?_);
              (all_goals refine RS.pv (PV.all tab_ok rfl) rfl ?_);
              (all_goals refine RS.alloc tab_ok rfl rfl (fun bx => ?_));
              (all_goals (refine RS.storeW (k := 0) tab_ok rfl rfl rfl rfl hx0 hx1 hx2 ?_; refine RS.freeze (fun i6 hi6 hbx => ?_); have hmb' := hi6.blk _ _ hmb));
              (all_goals refine RS.pv (PV.all tab_ok rfl) rfl ?_);
              (all_goals refine RS.nil ?_))
          | (refine CS.region (id := 16) ?_;
              refine RS.pv (PV.all tab_ok rfl) rfl ?_;
              refine RS.pv (PV.all tab_ok rfl) rfl ?_;
              refine RS.lv (LV.lookupVn tab_ok rfl rfl ⟨_, rfl, rfl⟩ ⟨_, rfl, rfl⟩ Try.zeroValue36 (Has.imm hmb') hgB) rfl ?_;
              (all_goals refine RS.pv (PV.all tab_ok rfl) rfl ?_);
              (all_goals refine RS.pv (PV.all tab_ok rfl) rfl ?_);
              (all_goals refine RS.pv (PV.all tab_ok rfl) rfl ?_);
              (all_goals refine RS.alloc tab_ok rfl rfl (fun b_y => ?_));
              (all_goals (refine RS.storeW (k := 0) tab_ok rfl rfl rfl rfl rfl nofun rfl ?_; refine RS.freeze (fun i7 hi7 hby => ?_)));
              (all_goals refine RS.pv (PV.all tab_ok rfl) rfl ?_);
              (all_goals refine RS.nil ?_))
          | (refine CS.region (id := 17) ?_;
              refine RS.pv (PV.all tab_ok rfl) rfl ?_;
              refine RS.nil ?_)
          | (refine CS.region (id := 18) ?_;
              refine RS.pv (PV.all tab_ok rfl) rfl ?_;
              refine RS.pv (PV.all tab_ok rfl) rfl ?_;
              refine RS.pv (PV.all tab_ok rfl) rfl ?_;
              refine RS.nil ?_)
          | (refine CS.region (id := 19) ?_;
              refine RS.pv (PV.all tab_ok rfl) rfl ?_;
              refine RS.nil ?_)
          | (refine CS.region (id := 20) ?_;
              refine RS.pv (PV.all tab_ok rfl) rfl ?_;
              refine RS.pv (PV.all tab_ok rfl) rfl ?_;
              refine RS.pv (PV.all tab_ok rfl) rfl ?_;
              refine RS.nil ?_)
          | (refine CS.region (id := 21) ?_;
              refine RS.pv (PV.all tab_ok rfl) rfl ?_;
              refine RS.nil ?_)
          | (refine CS.region (id := 24) ?_;
              refine RS.pv (PV.all tab_ok rfl) rfl ?_;
              (first | refine RS.pv (PV.gtrT rfl rfl (by omega)) rfl ?_ | refine RS.pv (PV.gtrF rfl rfl (by omega)) rfl ?_ | refine RS.ifGtr rfl rfl rfl (fun h => ?_) (fun h => ?_));
              (all_goals refine RS.nil ?_))
          | (refine CS.region (id := 25) ?_;
              refine RS.pv (PV.all tab_ok rfl) rfl ?_;
              refine RS.pv (PV.all tab_ok rfl) rfl ?_;
              refine RS.pv (PV.all tab_ok rfl) rfl ?_;
              refine RS.pv (PV.all tab_ok rfl) rfl ?_;
              refine RS.pv (PV.all tab_ok rfl) rfl ?_;
              refine RS.buildSliceF tab_ok 3 rfl rfl rfl (fun bb i9 hi9 hbs => ?_);
              (all_goals (refine RS.append tab_ok (sz := 3) (bytes := 32) (k := ((names.take k).filterMap (diffAt of_ nm sm A B)).length) (m := 1) (xs := diffs (((names.take k).filterMap (diffAt of_ nm sm A B)))) (news := [.int .i64 of_, .int .i64 2, .string a]) rfl rfl rfl ⟨_, rfl, rfl⟩ ⟨_, rfl, rfl, rfl⟩ (by omega) hO rfl (hbs.rd _) (by intro c hc; simp at hc; rcases hc with rfl | rfl | rfl <;> rfl) (by omega) (by omega) ?_; intro v' O' hO' hnil; obtain ⟨ao', cap', rfl⟩ := SlO.shape hO'));
              (all_goals refine RS.pv (PV.all tab_ok rfl) rfl ?_);
              (all_goals refine RS.nil ?_))
          | (refine CS.region (id := 26) ?_;
              refine RS.pv (PV.add rfl rfl (by omega)) rfl ?_;
              refine RS.pv (PV.all tab_ok rfl) rfl ?_;
              refine RS.nil ?_)
          | refine CS.ret ?_
          | refine thenQ.ret ?_
          | refine blkQ.ret ?_
          | refine retQ.ret ?_
          | refine CS.block ?_
          | refine CS.exit ?_
          | refine thenQ.exit ?_
          | refine blkQ.normal ?_
          | refine blkQ.here ?_
          | refine blkQ.past rfl ?_
          | refine retQ.normal ?_)
        have e : ((names.take (k + 1)).filterMap (diffAt of_ nm sm A B)) = ((names.take k).filterMap (diffAt of_ nm sm A B)) ++ [⟨of_, 2, a⟩] := by rw [hnx, diffAt_m hfA hfB]; rfl
        have el : ((names.take (k + 1)).filterMap (diffAt of_ nm sm A B)).length = ((names.take k).filterMap (diffAt of_ nm sm A B)).length + 1 := by rw [e, List.length_append]; rfl
        exact ⟨names.length - (k + 1), by omega, k + 1, O', ao', cap', rfl, hlt, by rw [el, e, diffs_snoc]; exact hO', by rw [el]; rfl, rfl⟩
      | some y =>
        replace hgB : mget ns a = some (.agg (List.toArray (cl y))) := by rw [hgB, hfB]; rfl
        have hy0 : 12 = (cl y).length := (hB.len y (firstE_mem hfB).1).symm
        have hy1 : cl y ≠ [] := fun h => by rw [h] at hy0; cases hy0
        have hy2 : okStore tab 36 (cl y) = true := by
          show (Nat.beq (cl y).length 12 && (cl y).all (·.oneCell')) = true
          rw [← hy0, List.all_eq_true.2 (hB.one y (firstE_mem hfB).1)]; rfl
        have hsx := hsm x (firstE_mem hfA).1 y (firstE_mem hfB).1
        cases hsb : sm x y with
        | true =>
          rw [hsb] at hsx
          repeat' (first
            | refine CS.seq ?_
            | refine thenQ.normal ?_
            | refine CS.cond_true rfl ?_
            | refine CS.cond_false rfl ?_
            | refine CS.skip ?_
            | (refine CS.region (id := 13) ?_;
                (first | refine RS.pv (PV.lssT rfl rfl (by omega)) rfl ?_ | refine RS.pv (PV.lssF rfl rfl (by omega)) rfl ?_ | refine RS.ifLss rfl rfl rfl (fun h => ?_) (fun h => ?_));
                (all_goals refine RS.nil ?_))
            | (refine CS.region (id := 14) ?_;
                (first | refine RS.pv (PV.indexAddr tab_ok rfl rfl rfl (by omega)) rfl ?_ | refine RS.pv (PV.indexAddrA tab_ok rfl rfl rfl (by omega)) rfl ?_);
                refine RS.lv (LV.load1 tab_ok rfl (Has.imm g1) rfl q1) rfl ?_;
                (all_goals refine RS.pv (PV.all tab_ok rfl) rfl ?_);
                (all_goals refine RS.nil ?_))
            | (refine CS.region (id := 15) ?_;
                refine RS.pv (PV.all tab_ok rfl) rfl ?_;
                refine RS.pv (PV.all tab_ok rfl) rfl ?_;
                refine RS.lv (LV.lookupVs tab_ok rfl rfl ⟨_, rfl, rfl⟩ ⟨_, rfl, rfl⟩ Try.zeroValue36 (Has.imm hma) hgA) rfl ?_;
                (all_goals refine RS.pv (PV.all tab_ok rfl) rfl ?_);
                (all_goals refine RS.pv (PV.all tab_ok rfl) rfl ?_);
                (all_goals refine RS.pv (PV.all tab_ok rfl) rfl ?_);
                (all_goals refine RS.alloc tab_ok rfl rfl (fun bx => ?_));
                (all_goals (refine RS.storeW (k := 0) tab_ok rfl rfl rfl rfl hx0 hx1 hx2 ?_; refine RS.freeze (fun i6 hi6 hbx => ?_); have hmb' := hi6.blk _ _ hmb));
                (all_goals refine RS.pv (PV.all tab_ok rfl) rfl ?_);
                (all_goals refine RS.nil ?_))
            | (refine CS.region (id := 16) ?_;
                refine RS.pv (PV.all tab_ok rfl) rfl ?_;
                refine RS.pv (PV.all tab_ok rfl) rfl ?_;
                refine RS.lv (LV.lookupVs tab_ok rfl rfl ⟨_, rfl, rfl⟩ ⟨_, rfl, rfl⟩ Try.zeroValue36 (Has.imm hmb') hgB) rfl ?_;
                (all_goals refine RS.pv (PV.all tab_ok rfl) rfl ?_);
                (all_goals refine RS.pv (PV.all tab_ok rfl) rfl ?_);
                (all_goals refine RS.pv (PV.all tab_ok rfl) rfl ?_);
                (all_goals refine RS.alloc tab_ok rfl rfl (fun b_y => ?_));
                (all_goals (refine RS.storeW (k := 0) tab_ok rfl rfl rfl rfl hy0 hy1 hy2 ?_; refine RS.freeze (fun i7 hi7 hby => ?_)));
                (all_goals refine RS.pv (PV.all tab_ok rfl) rfl ?_);
                (all_goals refine RS.nil ?_))
            | (refine CS.region (id := 17) ?_;
                refine RS.pv (PV.all tab_ok rfl) rfl ?_;
                refine RS.nil ?_)
            | (refine CS.region (id := 18) ?_;
                refine RS.pv (PV.all tab_ok rfl) rfl ?_;
                refine RS.pv (PV.all tab_ok rfl) rfl ?_;
                refine RS.pv (PV.all tab_ok rfl) rfl ?_;
                refine RS.nil ?_)
            | (refine CS.region (id := 19) ?_;
                refine RS.pv (PV.all tab_ok rfl) rfl ?_;
                refine RS.nil ?_)
            | (refine CS.region (id := 20) ?_;
                refine RS.pv (PV.all tab_ok rfl) rfl ?_;
                refine RS.pv (PV.all tab_ok rfl) rfl ?_;
                refine RS.pv (PV.all tab_ok rfl) rfl ?_;
                refine RS.nil ?_)
            | (refine CS.region (id := 21) ?_;
                refine RS.pv (PV.all tab_ok rfl) rfl ?_;
                refine RS.nil ?_)
            | (refine CS.region (id := 22) ?_;
                refine RS.pv (PV.all tab_ok rfl) rfl ?_;
                refine RS.lv (LV.loadL tab_ok rfl (Has.imm (hi7.blk _ _ hbx)) (l := cl x) rfl rfl (hA.len x (firstE_mem hfA).1) (fun d u hu => by rw [Nat.zero_add]; exact hu)) rfl ?_;
                (all_goals refine RS.lv (LV.loadL tab_ok rfl (Has.imm hby) (l := cl y) rfl rfl (hB.len y (firstE_mem hfB).1) (fun d u hu => by rw [Nat.zero_add]; exact hu)) rfl ?_);
                (all_goals (refine RS.callV (hsx _ _ (((((hi1.trans hi2).trans hi4).trans hi3).trans hi6).trans hi7)) rfl rfl hsf rfl ?_; rintro v i8 L8 hi8 ⟨rfl, rfl⟩));
                (all_goals refine RS.pv (PV.all tab_ok rfl) rfl ?_);
                (all_goals refine RS.pv (PV.all tab_ok rfl) rfl ?_);
                (all_goals refine RS.nil ?_))
            | (refine CS.region (id := 24) ?_;
                refine RS.pv (PV.all tab_ok rfl) rfl ?_;
                (first | refine RS.pv (PV.gtrT rfl rfl (by omega)) rfl ?_ | refine RS.pv (PV.gtrF rfl rfl (by omega)) rfl ?_ | refine RS.ifGtr rfl rfl rfl (fun h => ?_) (fun h => ?_));
                (all_goals refine RS.nil ?_))
            | (refine CS.region (id := 26) ?_;
                refine RS.pv (PV.add rfl rfl (by omega)) rfl ?_;
                refine RS.pv (PV.all tab_ok rfl) rfl ?_;
                refine RS.nil ?_)
            | refine CS.ret ?_
            | refine thenQ.ret ?_
            | refine blkQ.ret ?_
            | refine retQ.ret ?_
            | refine CS.block ?_
            | refine CS.exit ?_
            | refine thenQ.exit ?_
            | refine blkQ.normal ?_
            | refine blkQ.here ?_
            | refine blkQ.past rfl ?_
            | refine retQ.normal ?_)
          have e : ((names.take (k + 1)).filterMap (diffAt of_ nm sm A B)) = ((names.take k).filterMap (diffAt of_ nm sm A B)) := by rw [hnx, diffAt_s hfA hfB hsb]; simp
          exact ⟨names.length - (k + 1), by omega, k + 1, O, oa, oc, rfl, hlt, by rw [e]; exact hO, by rw [e]; rfl, rfl⟩
        | false =>
          rw [hsb] at hsx
          repeat' (first
            | refine CS.seq ?_
            | refine thenQ.normal ?_
            | refine CS.cond_true rfl ?_
            | refine CS.cond_false rfl ?_
            | refine CS.skip ?_
            | (refine CS.region (id := 13) ?_;
                (first | refine RS.pv (PV.lssT rfl rfl (by omega)) rfl ?_ | refine RS.pv (PV.lssF rfl rfl (by omega)) rfl ?_ | refine RS.ifLss rfl rfl rfl (fun h => ?_) (fun h => ?_));
                (all_goals refine RS.nil ?_))
            | (refine CS.region (id := 14) ?_;
                (first | refine RS.pv (PV.indexAddr tab_ok rfl rfl rfl (by omega)) rfl ?_ | refine RS.pv (PV.indexAddrA tab_ok rfl rfl rfl (by omega)) rfl ?_);
                refine RS.lv (LV.load1 tab_ok rfl (Has.imm g1) rfl q1) rfl ?_;
                (all_goals refine RS.pv (PV.all tab_ok rfl) rfl ?_);
                (all_goals refine RS.nil ?_))
            | (refine CS.region (id := 15) ?_;
                refine RS.pv (PV.all tab_ok rfl) rfl ?_;
                refine RS.pv (PV.all tab_ok rfl) rfl ?_;
                refine RS.lv (LV.lookupVs tab_ok rfl rfl ⟨_, rfl, rfl⟩ ⟨_, rfl, rfl⟩ Try.zeroValue36 (Has.imm hma) hgA) rfl ?_;
                (all_goals refine RS.pv (PV.all tab_ok rfl) rfl ?_);
                (all_goals refine RS.pv (PV.all tab_ok rfl) rfl ?_);
                (all_goals refine RS.pv (PV.all tab_ok rfl) rfl ?_);
                (all_goals refine RS.alloc tab_ok rfl rfl (fun bx => ?_));
                (all_goals (refine RS.storeW (k := 0) tab_ok rfl rfl rfl rfl hx0 hx1 hx2 ?_; refine RS.freeze (fun i6 hi6 hbx => ?_); have hmb' := hi6.blk _ _ hmb));
                (all_goals refine RS.pv (PV.all tab_ok rfl) rfl ?_);
                (all_goals refine RS.nil ?_))
            | (refine CS.region (id := 16) ?_;
                refine RS.pv (PV.all tab_ok rfl) rfl ?_;
                refine RS.pv (PV.all tab_ok rfl) rfl ?_;
                refine RS.lv (LV.lookupVs tab_ok rfl rfl ⟨_, rfl, rfl⟩ ⟨_, rfl, rfl⟩ Try.zeroValue36 (Has.imm hmb') hgB) rfl ?_;
                (all_goals refine RS.pv (PV.all tab_ok rfl) rfl ?_);
                (all_goals refine RS.pv (PV.all tab_ok rfl) rfl ?_);
                (all_goals refine RS.pv (PV.all tab_ok rfl) rfl ?_);
                (all_goals refine RS.alloc tab_ok rfl rfl (fun b_y => ?_));
                (all_goals (refine RS.storeW (k := 0) tab_ok rfl rfl rfl rfl hy0 hy1 hy2 ?_; refine RS.freeze (fun i7 hi7 hby => ?_)));
                (all_goals refine RS.pv (PV.all tab_ok rfl) rfl ?_);
                (all_goals refine RS.nil ?_))
            | (refine CS.region (id := 17) ?_;
                refine RS.pv (PV.all tab_ok rfl) rfl ?_;
                refine RS.nil ?_)
            | (refine CS.region (id := 18) ?_;
                refine RS.pv (PV.all tab_ok rfl) rfl ?_;
                refine RS.pv (PV.all tab_ok rfl) rfl ?_;
                refine RS.pv (PV.all tab_ok rfl) rfl ?_;
                refine RS.nil ?_)
            | (refine CS.region (id := 19) ?_;
                refine RS.pv (PV.all tab_ok rfl) rfl ?_;
                refine RS.nil ?_)
            | (refine CS.region (id := 20) ?_;
                refine RS.pv (PV.all tab_ok rfl) rfl ?_;
                refine RS.pv (PV.all tab_ok rfl) rfl ?_;
                refine RS.pv (PV.all tab_ok rfl) rfl ?_;
                refine RS.nil ?_)
            | (refine CS.region (id := 21) ?_;
                refine RS.pv (PV.all tab_ok rfl) rfl ?_;
                refine RS.nil ?_)
            | (refine CS.region (id := 22) ?_;
                refine RS.pv (PV.all tab_ok rfl) rfl ?_;
                refine RS.lv (LV.loadL tab_ok rfl (Has.imm (hi7.blk _ _ hbx)) (l := cl x) rfl rfl (hA.len x (firstE_mem hfA).1) (fun d u hu => by rw [Nat.zero_add]; exact hu)) rfl ?_;
                (all_goals refine RS.lv (LV.loadL tab_ok rfl (Has.imm hby) (l := cl y) rfl rfl (hB.len y (firstE_mem hfB).1) (fun d u hu => by rw [Nat.zero_add]; exact hu)) rfl ?_);
                (all_goals (refine RS.callV (hsx _ _ (((((hi1.trans hi2).trans hi4).trans hi3).trans hi6).trans hi7)) rfl rfl hsf rfl ?_; rintro v i8 L8 hi8 ⟨rfl, rfl⟩));
                (all_goals refine RS.pv (PV.all tab_ok rfl) rfl ?_);
                (all_goals refine RS.pv (PV.all tab_ok rfl) rfl ?_);
                (all_goals refine RS.nil ?_))
            | (refine CS.region (id := 23) ?_;
                refine RS.pv (PV.all tab_ok rfl) rfl ?_;
                refine RS.nil ?_)
            | (refine CS.region (id := 24) ?_;
                refine RS.pv (PV.all tab_ok rfl) rfl ?_;
                (first | refine RS.pv (PV.gtrT rfl rfl (by omega)) rfl ?_ | refine RS.pv (PV.gtrF rfl rfl (by omega)) rfl ?_ | refine RS.ifGtr rfl rfl rfl (fun h => ?_) (fun h => ?_));
                (all_goals refine RS.nil ?_))
            | (refine CS.region (id := 25) ?_;
                refine RS.pv (PV.all tab_ok rfl) rfl ?_;
                refine RS.pv (PV.all tab_ok rfl) rfl ?_;
                refine RS.pv (PV.all tab_ok rfl) rfl ?_;
                refine RS.pv (PV.all tab_ok rfl) rfl ?_;
                refine RS.pv (PV.all tab_ok rfl) rfl ?_;
                refine RS.buildSliceF tab_ok 3 rfl rfl rfl (fun bb i9 hi9 hbs => ?_);
                (all_goals (refine RS.append tab_ok (sz := 3) (bytes := 32) (k := ((names.take k).filterMap (diffAt of_ nm sm A B)).length) (m := 1) (xs := diffs (((names.take k).filterMap (diffAt of_ nm sm A B)))) (news := [.int .i64 of_, .int .i64 3, .string a]) rfl rfl rfl ⟨_, rfl, rfl⟩ ⟨_, rfl, rfl, rfl⟩ (by omega) hO rfl (hbs.rd _) (by intro c hc; simp at hc; rcases hc with rfl | rfl | rfl <;> rfl) (by omega) (by omega) ?_; intro v' O' hO' hnil; obtain ⟨ao', cap', rfl⟩ := SlO.shape hO'));
                (all_goals refine RS.pv (PV.all tab_ok rfl) rfl ?_);
                (all_goals refine RS.nil ?_))
            | (refine CS.region (id := 26) ?_;
                refine RS.pv (PV.add rfl rfl (by omega)) rfl ?_;
                refine RS.pv (PV.all tab_ok rfl) rfl ?_;
                refine RS.nil ?_)
            | refine CS.ret ?_
            | refine thenQ.ret ?_
            | refine blkQ.ret ?_
            | refine retQ.ret ?_
            | refine CS.block ?_
            | refine CS.exit ?_
            | refine thenQ.exit ?_
            | refine blkQ.normal ?_
            | refine blkQ.here ?_
            | refine blkQ.past rfl ?_
            | refine retQ.normal ?_)
          have e : ((names.take (k + 1)).filterMap (diffAt of_ nm sm A B)) = ((names.take k).filterMap (diffAt of_ nm sm A B)) ++ [⟨of_, 3, a⟩] := by rw [hnx, diffAt_o hfA hfB hsb]; rfl
          have el : ((names.take (k + 1)).filterMap (diffAt of_ nm sm A B)).length = ((names.take k).filterMap (diffAt of_ nm sm A B)).length + 1 := by rw [e, List.length_append]; rfl
          exact ⟨names.length - (k + 1), by omega, k + 1, O', ao', cap', rfl, hlt, by rw [el, e, diffs_snoc]; exact hO', by rw [el]; rfl, rfl⟩
  · have : k = names.length := by omega
    subst this
    repeat' (first
      | refine CS.seq ?_
      | refine thenQ.normal ?_
      | refine CS.cond_true rfl ?_
      | refine CS.cond_false rfl ?_
      | refine CS.skip ?_
      | (refine CS.region (id := 13) ?_;
          (first | refine RS.pv (PV.lssT rfl rfl (by omega)) rfl ?_ | refine RS.pv (PV.lssF rfl rfl (by omega)) rfl ?_ | refine RS.ifLss rfl rfl rfl (fun h => ?_) (fun h => ?_));
          (all_goals refine RS.nil ?_))
      | (refine CS.region (id := 27) ?_;
          refine RS.pv (PV.all tab_ok rfl) rfl ?_;
          refine RS.pv (PV.all tab_ok rfl) rfl ?_;
          refine RS.nil ?_)
      | refine CS.ret ?_
      | refine thenQ.ret ?_
      | refine blkQ.ret ?_
      | refine retQ.ret ?_
      | refine CS.block ?_
      | refine CS.exit ?_
      | refine thenQ.exit ?_
      | refine blkQ.normal ?_
      | refine blkQ.here ?_
      | refine blkQ.past rfl ?_
      | refine retQ.normal ?_)
    refine ⟨((names.take (names.length)).filterMap (diffAt of_ nm sm A B)), O, _, hO, rfl, ⟨names, hasc, hmn', by rw [List.take_length]⟩, ?_⟩
    have := take_filterMap_len (f := diffAt of_ nm sm A B) (Nat.le_refl names.length)
    omega
theorem Compare_66 {E : Type} (cl : E → List Value) (nm : E → ByteArray) (sm : E → E → Bool) (A B : List E) (of_ : Int) (sf : FuncId) (hsf : fnOk Try.prog sf = true) (va vb : Value) (i : Imm) (L : SH) (hA : ElsOk cl nm 7 A) (hB : ElsOk cl nm 7 B) (hsA : Sl i va 7 A.length (rowC cl A)) (hsB : Sl i vb 7 B.length (rowC cl B)) (hlA : A.length ≤ 10000000000) (hlB : B.length ≤ 10000000000)
    (hsm : ∀ x ∈ A, ∀ y ∈ B, ∀ i' L', i.le i' → FnS Try.prog sf [.agg (cl x).toArray, .agg (cl y).toArray] i' L' fun v _ L'' => v = .bool (sm x y) ∧ L'' = L') :
    FnS Try.prog 66 [.int .i64 of_, va, vb, .func (.func 67) #[] #[], .func (.func sf) #[] #[]] i L fun v i' L' => L' = L ∧ ∃ l, Sl i' v 3 l.length (diffs l) ∧ DiffOf of_ nm sm A B l ∧ l.length ≤ A.length + B.length := by
  refine FnS.state (K := fun v i' L' => ∃ l O M, SlO 85 v 3 l.length (diffs l) O ∧ L' = O ++ (M ++ L) ∧ DiffOf of_ nm sm A B l ∧ l.length ≤ A.length + B.length) ?_ ?_
  rotate_left
  · rintro v i' L' w _ hs ⟨l, O, M, hO, rfl, hd, hll⟩
    obtain ⟨i2, h1, h2, h3⟩ := hO.freeze hs
    exact ⟨i2, L, h1, h2.dropL, rfl, l, h3, hd, hll⟩
  obtain ⟨aa, ac, rfl, -⟩ := id hsA
  obtain ⟨ba, bc, rfl, -⟩ := id hsB
  refine FnS.intro1 Try.func66 rfl Try.ntmps66 (by simp) Try.results66 ?_
  repeat' (first
    | refine CS.seq ?_
    | refine thenQ.normal ?_
    | refine CS.cond_true rfl ?_
    | refine CS.cond_false rfl ?_
    | refine CS.skip ?_
    | (refine CS.region (id := 0) ?_;
        refine RS.pv (PV.all tab_ok rfl) rfl ?_;
        refine RS.nil ?_)
    | (refine CS.region (id := 1) ?_;
        refine RS.pv (PV.all tab_ok rfl) rfl ?_;
        refine RS.pv (PV.all tab_ok rfl) rfl ?_;
        (refine RS.call (First_95 cl nm A _ _ _ (fun e he => ⟨hA.len e he, hA.one e he, hA.name e he⟩) hsA (by omega)) rfl (by kernel_rfl) rfl ?_; rintro v i1 L1 hi1 ⟨hL1, ma, ms, ca, rfl, hma, hMA⟩; replace hL1 := hL1.symm; subst hL1);
        (all_goals refine RS.pv (PV.all tab_ok rfl) rfl ?_);
        (all_goals refine RS.pv (PV.all tab_ok rfl) rfl ?_);
        (all_goals (refine RS.call (First_95 cl nm B _ _ _ (fun e he => ⟨hB.len e he, hB.one e he, hB.name e he⟩) (hsB.le hi1) (by omega)) rfl (by kernel_rfl) rfl ?_; rintro v i2 L2 hi2 ⟨hL2, mb, ns, cb, rfl, hmb, hMB⟩; replace hL2 := hL2.symm; subst hL2));
        (all_goals refine RS.pv (PV.all tab_ok rfl) rfl ?_);
        (all_goals refine RS.pv (PV.all tab_ok rfl) rfl ?_);
        (all_goals refine RS.nil ?_))
    | (refine CS.region (id := 2) ?_;
        refine RS.makeMapV rfl (fun bn => ?_);
        (all_goals refine RS.pv (PV.all tab_ok rfl) rfl ?_);
        (all_goals refine RS.nil ?_))
    | (refine CS.region (id := 3) ?_;
        refine RS.pv (PV.all tab_ok rfl) rfl ?_;
        refine RS.rangeM tab_ok rfl rfl ⟨_, rfl, rfl⟩ (Has.imm (hi2.blk _ _ hma)) (fun it => ?_);
        (all_goals refine RS.nil ?_))
    | refine CS.ret ?_
    | refine thenQ.ret ?_
    | refine blkQ.ret ?_
    | refine retQ.ret ?_
    | refine CS.block ?_
    | refine CS.exit ?_
    | refine thenQ.exit ?_
    | refine blkQ.normal ?_
    | refine blkQ.here ?_
    | refine blkQ.past rfl ?_
    | refine retQ.normal ?_)
  replace hma := hi2.blk _ _ hma
  refine CS.loop [0, 4, 11, 12, 13, 32] (fun m vs i' L' => ∃ (xs : List VE) (c : Nat) (seen : Array Nat), m = leftM ms seen ∧ SetInv (fun _ => False) ms ms.length xs c seen ∧ vs = [.int .i64 of_, .func (.func sf) #[] #[], .map (some ma), .map (some mb), .map (some bn), .pointer (some ⟨it, 0, none⟩)] ∧ i2 = i' ∧ L' = (it, .mapIter (some ma) ca seen ca) :: (bn, .map (entV xs) c) :: L) ms.length ⟨[], 0, #[], (leftM_nil ms).symm, ⟨MapOk.nil, by rw [leftM_nil]; simp, fun a => by simp⟩, rfl, rfl, rfl⟩ ?_
  rintro m g vs i' L' hi ⟨xs, c, seen, rfl, hinv, rfl, rfl, rfl⟩
  repeat' (first
    | refine CS.seq ?_
    | refine thenQ.normal ?_
    | refine CS.cond_true rfl ?_
    | refine CS.cond_false rfl ?_
    | refine CS.skip ?_
    | (refine CS.region (id := 4) ?_;
        refine RS.nextM (k := 0) rfl rfl rfl (Has.imm hma) hMA.ok.lt (Nat.le_refl _) (fun hall => ?_) (fun e he hne => ?_);
        (all_goals refine RS.pv (PV.all tab_ok rfl) rfl ?_);
        (all_goals refine RS.nil ?_))
    | (refine CS.region (id := 5) ?_;
        refine RS.lv (LV.entryM (k := 0) rfl rfl (Has.imm hma) hMA.ok he) rfl ?_;
        (all_goals refine RS.pv (PV.all tab_ok rfl) rfl ?_);
        (all_goals refine RS.pv (PV.all tab_ok rfl) rfl ?_);
        (all_goals refine RS.nil ?_))
    | (refine CS.region (id := 6) ?_;
        refine RS.pv (PV.all tab_ok rfl) rfl ?_;
        refine RS.pv (PV.all tab_ok rfl) rfl ?_;
        refine RS.mapPut (k := 1) (a := e.1) tab_ok rfl rfl rfl rfl ⟨_, rfl, rfl⟩ ⟨_, rfl, rfl⟩ rfl rfl ?_;
        (all_goals refine RS.nil ?_))
    | refine CS.ret ?_
    | refine thenQ.ret ?_
    | refine blkQ.ret ?_
    | refine retQ.ret ?_
    | refine CS.block ?_
    | refine CS.exit ?_
    | refine thenQ.exit ?_
    | refine blkQ.normal ?_
    | refine blkQ.here ?_
    | refine blkQ.past rfl ?_
    | refine retQ.normal ?_)
  rotate_left
  · exact ⟨_, leftM_push ms seen e he hne, _, _, _, rfl, hinv.step hMA.ok he hne _, rfl, rfl, rfl⟩
  have hk1 : ∀ a, a ∈ xs.map (fun e => e.1) ↔ a ∈ A.map nm := fun a => by rw [hinv.all hall a, hMA.keys a]; simp
  have hx1 : xs.length ≤ ms.length := by have := hinv.few; omega
  have hok1 := hinv.ok
  clear hinv hall
  refine CS.drop ?_
  repeat' (first
    | refine CS.seq ?_
    | refine thenQ.normal ?_
    | refine CS.cond_true rfl ?_
    | refine CS.cond_false rfl ?_
    | refine CS.skip ?_
    | (refine CS.region (id := 7) ?_;
        refine RS.pv (PV.all tab_ok rfl) rfl ?_;
        refine RS.rangeM tab_ok rfl rfl ⟨_, rfl, rfl⟩ (Has.imm hmb) (fun it2 => ?_);
        (all_goals refine RS.nil ?_))
    | refine CS.ret ?_
    | refine thenQ.ret ?_
    | refine blkQ.ret ?_
    | refine retQ.ret ?_
    | refine CS.block ?_
    | refine CS.exit ?_
    | refine thenQ.exit ?_
    | refine blkQ.normal ?_
    | refine blkQ.here ?_
    | refine blkQ.past rfl ?_
    | refine retQ.normal ?_)
  refine CS.loop [0, 4, 11, 12, 13, 40] (fun m vs i' L' => ∃ (zs : List VE) (c : Nat) (seen : Array Nat), m = leftM ns seen ∧ SetInv (fun a => a ∈ A.map nm) ns (ms.length + ns.length) zs c seen ∧ vs = [.int .i64 of_, .func (.func sf) #[] #[], .map (some ma), .map (some mb), .map (some bn), .pointer (some ⟨it2, 0, none⟩)] ∧ i2 = i' ∧ L' = (it2, .mapIter (some mb) cb seen cb) :: (bn, .map (entV zs) c) :: L) ns.length ⟨xs, c, #[], (leftM_nil ns).symm, ⟨hok1, by rw [leftM_nil]; omega, fun a => by rw [hk1 a]; simp⟩, rfl, rfl, rfl⟩ ?_
  rintro m g2 vs i' L' hi' ⟨zs, c2, seen2, rfl, hinv, rfl, rfl, rfl⟩
  repeat' (first
    | refine CS.seq ?_
    | refine thenQ.normal ?_
    | refine CS.cond_true rfl ?_
    | refine CS.cond_false rfl ?_
    | refine CS.skip ?_
    | (refine CS.region (id := 8) ?_;
        refine RS.nextM (k := 0) rfl rfl rfl (Has.imm hmb) hMB.ok.lt (Nat.le_refl _) (fun hall => ?_) (fun e he hne => ?_);
        (all_goals refine RS.pv (PV.all tab_ok rfl) rfl ?_);
        (all_goals refine RS.nil ?_))
    | (refine CS.region (id := 9) ?_;
        refine RS.lv (LV.entryM (k := 0) rfl rfl (Has.imm hmb) hMB.ok he) rfl ?_;
        (all_goals refine RS.pv (PV.all tab_ok rfl) rfl ?_);
        (all_goals refine RS.pv (PV.all tab_ok rfl) rfl ?_);
        (all_goals refine RS.nil ?_))
    | (refine CS.region (id := 10) ?_;
        refine RS.pv (PV.all tab_ok rfl) rfl ?_;
        refine RS.pv (PV.all tab_ok rfl) rfl ?_;
        refine RS.mapPut (k := 1) (a := e.1) tab_ok rfl rfl rfl rfl ⟨_, rfl, rfl⟩ ⟨_, rfl, rfl⟩ rfl rfl ?_;
        (all_goals refine RS.nil ?_))
    | refine CS.ret ?_
    | refine thenQ.ret ?_
    | refine blkQ.ret ?_
    | refine retQ.ret ?_
    | refine CS.block ?_
    | refine CS.exit ?_
    | refine thenQ.exit ?_
    | refine blkQ.normal ?_
    | refine blkQ.here ?_
    | refine blkQ.past rfl ?_
    | refine retQ.normal ?_)
  rotate_left
  · exact ⟨_, leftM_push ns seen2 e he hne, _, _, _, rfl, hinv.step hMB.ok he hne _, rfl, rfl, rfl⟩
  have hk2 : ∀ a, a ∈ zs.map (fun e => e.1) ↔ a ∈ A.map nm ∨ a ∈ B.map nm := fun a => by rw [hinv.all hall a, hMB.keys a]
  have hx2 : zs.length ≤ ms.length + ns.length := by have := hinv.few; omega
  have hfa := hMA.few
  have hfb := hMB.few
  have hok2 := hinv.ok
  clear hinv hall hk1 hx1 hok1
  have hsz : ∀ e ∈ zs, e.1.size ≤ maxLen := fun e he => by
    have h1 := (hk2 e.1).1 (List.mem_map.2 ⟨e, he, rfl⟩)
    rw [List.mem_map, List.mem_map] at h1
    rcases h1 with ⟨x, hx, hxe⟩ | ⟨x, hx, hxe⟩
    · rw [← hxe]; exact hA.size x hx
    · rw [← hxe]; exact hB.size x hx
  refine CS.drop ?_
  repeat' (first
    | refine CS.seq ?_
    | refine thenQ.normal ?_
    | refine CS.cond_true rfl ?_
    | refine CS.cond_false rfl ?_
    | refine CS.skip ?_
    | (refine CS.region (id := 11) ?_;
        refine RS.pv (PV.all tab_ok rfl) rfl ?_;
        refine RS.nil ?_)
    | (refine CS.region (id := 12) ?_;
        refine RS.pv (PV.all tab_ok rfl) rfl ?_;
        (refine RS.call (Keys_94 _ _ _) rfl (by kernel_rfl) rfl ?_; rintro v i3 L3 hi3 ⟨rfl, p, rfl, rfl⟩);
        (all_goals (refine RS.call (Sorted_93 p bn c2 zs _ _ (Has.own 0 rfl) (Has.own 1 rfl) hok2 (by omega) hsz) rfl (by kernel_rfl) rfl ?_; rintro v i4 L4 hi4 ⟨rfl, names, hsn, hasc, hln, hmn⟩; obtain ⟨na, nc, rfl, -⟩ := id hsn));
        (all_goals (first | refine RS.pv (PV.lenS tab_ok rfl rfl) rfl ?_ | refine RS.pv (PV.lenT tab_ok rfl rfl) rfl ?_));
        (all_goals refine RS.pv (PV.all tab_ok rfl) rfl ?_);
        (all_goals refine RS.nil ?_))
    | refine CS.ret ?_
    | refine thenQ.ret ?_
    | refine blkQ.ret ?_
    | refine retQ.ret ?_
    | refine CS.block ?_
    | refine CS.exit ?_
    | refine thenQ.exit ?_
    | refine blkQ.normal ?_
    | refine blkQ.here ?_
    | refine blkQ.past rfl ?_
    | refine retQ.normal ?_)
  replace hma := hi4.blk _ _ hma
  replace hmb := hi4.blk _ _ hmb
  have hmn' : ∀ a, a ∈ names ↔ a ∈ A.map nm ∨ a ∈ B.map nm := fun a => (hmn a).trans (hk2 a)
  clear hmn hk2
  refine CS.loop [0, 4, 11, 12, 16, 49, 50, 51] (fun m vs i' L' => ∃ (k : Nat) (O : SH) (oa : Option Addr) (oc : Nat), m = names.length - k ∧ k ≤ names.length ∧ SlO 85 (.slice oa ((names.take (k)).filterMap (diffAt of_ nm sm A B)).length oc) 3 ((names.take (k)).filterMap (diffAt of_ nm sm A B)).length (diffs (((names.take (k)).filterMap (diffAt of_ nm sm A B)))) O ∧ vs = [.int .i64 of_, .func (.func sf) #[] #[], .map (some ma), .map (some mb), .slice oa ((names.take (k)).filterMap (diffAt of_ nm sm A B)).length oc, .slice na names.length nc, .int .i64 names.length, .int .i64 k] ∧ L' = O ++ ([(p, .cells (List.toArray [.map (some bn)]) 72 (0, 0)), (bn, .map (entV zs) c2)] ++ L)) names.length ⟨0, [], none, 0, rfl, Nat.zero_le _, SlO.nil 85 3, rfl, rfl⟩ ?_
  rintro m g3 vs i' L' hi3 ⟨k, O, oa, oc, rfl, hk, hO, rfl, rfl⟩
  replace hma := hi3.blk _ _ hma
  replace hmb := hi3.blk _ _ hmb
  by_cases hlt : k < names.length
  · obtain ⟨b1, o1, c1, t1, z1, p1, e1, g1, h1⟩ := (hsn.le hi3).at hlt (by omega)
    cases e1
    obtain ⟨a, ha⟩ : ∃ a, names[k]? = some a := ⟨_, List.getElem?_eq_getElem hlt⟩
    have q1 := h1 0 (by omega)
    rw [strs_at, ha] at q1
    have hdl := take_filterMap_len (f := diffAt of_ nm sm A B) hk
    have hnx := take_filterMap (f := diffAt of_ nm sm A B) ha
    have hgA := hMA.get a
    have hgB := hMB.get a
    cases hfA : firstE nm A a with
    | none =>
      replace hgA : mget ms a = none := by rw [hgA, hfA]; rfl
      cases hfB : firstE nm B a with
      | none =>
        replace hgB : mget ns a = none := by rw [hgB, hfB]; rfl
        repeat' (first
          | refine CS.seq ?_
          | refine thenQ.normal ?_
          | refine CS.cond_true rfl ?_
          | refine CS.cond_false rfl ?_
          | refine CS.skip ?_
          | (refine CS.region (id := 13) ?_;
              (first | refine RS.pv (PV.lssT rfl rfl (by omega)) rfl ?_ | refine RS.pv (PV.lssF rfl rfl (by omega)) rfl ?_ | refine RS.ifLss rfl rfl rfl (fun h => ?_) (fun h => ?_));
              (all_goals refine RS.nil ?_))
          | (refine CS.region (id := 14) ?_;
              (first | refine RS.pv (PV.indexAddr tab_ok rfl rfl rfl (by omega)) rfl ?_ | refine RS.pv (PV.indexAddrA tab_ok rfl rfl rfl (by omega)) rfl ?_);
              refine RS.lv (LV.load1 tab_ok rfl (Has.imm g1) rfl q1) rfl ?_;
              (all_goals refine RS.pv (PV.all tab_ok rfl) rfl ?_);
              (all_goals refine RS.nil ?_))
          | (refine CS.region (id := 15) ?_;
              refine RS.pv (PV.all tab_ok rfl) rfl ?_;
              refine RS.pv (PV.all tab_ok rfl) rfl ?_;
              refine RS.lv (LV.lookupVn tab_ok rfl rfl ⟨_, rfl, rfl⟩ ⟨_, rfl, rfl⟩ Try.zeroValue109 (Has.imm hma) hgA) rfl ?_;
              (all_goals refine RS.pv (PV.all tab_ok rfl) rfl ?_);
              (all_goals refine RS.pv (PV.all tab_ok rfl) rfl ?_);
              (all_goals refine RS.pv (PV.all tab_ok rfl) rfl ?_);
              (all_goals refine RS.alloc tab_ok rfl rfl (fun bx => ?_));
              (all_goals (refine RS.storeW (k := 0) tab_ok rfl rfl rfl rfl rfl nofun rfl ?_; refine RS.freeze (fun i6 hi6 hbx => ?_); have hmb' := hi6.blk _ _ hmb));
              (all_goals refine RS.pv (PV.all tab_ok rfl) rfl ?_);
              (all_goals refine RS.nil ?_))
          | (refine CS.region (id := 16) ?_;
              refine RS.pv (PV.all tab_ok rfl) rfl ?_;
              refine RS.pv (PV.all tab_ok rfl) rfl ?_;
              refine RS.lv (LV.lookupVn tab_ok rfl rfl ⟨_, rfl, rfl⟩ ⟨_, rfl, rfl⟩ Try.zeroValue109 (Has.imm hmb') hgB) rfl ?_;
              (all_goals refine RS.pv (PV.all tab_ok rfl) rfl ?_);
              (all_goals refine RS.pv (PV.all tab_ok rfl) rfl ?_);
              (all_goals refine RS.pv (PV.all tab_ok rfl) rfl ?_);
              (all_goals refine RS.alloc tab_ok rfl rfl (fun b_y => ?_));
              (all_goals (refine RS.storeW (k := 0) tab_ok rfl rfl rfl rfl rfl nofun rfl ?_; refine RS.freeze (fun i7 hi7 hby => ?_)));
              (all_goals refine RS.pv (PV.all tab_ok rfl) rfl ?_);
              (all_goals refine RS.nil ?_))
          | (refine CS.region (id := 17) ?_;
              refine RS.pv (PV.all tab_ok rfl) rfl ?_;
              refine RS.nil ?_)
          | (refine CS.region (id := 18) ?_;
              refine RS.pv (PV.all tab_ok rfl) rfl ?_;
              refine RS.pv (PV.all tab_ok rfl) rfl ?_;
              refine RS.pv (PV.all tab_ok rfl) rfl ?_;
              refine RS.nil ?_)
          | (refine CS.region (id := 19) ?_;
              refine RS.pv (PV.all tab_ok rfl) rfl ?_;
              refine RS.nil ?_)
          | (refine CS.region (id := 24) ?_;
              refine RS.pv (PV.all tab_ok rfl) rfl ?_;
              (first | refine RS.pv (PV.gtrT rfl rfl (by omega)) rfl ?_ | refine RS.pv (PV.gtrF rfl rfl (by omega)) rfl ?_ | refine RS.ifGtr rfl rfl rfl (fun h => ?_) (fun h => ?_));
              (all_goals refine RS.nil ?_))
          | (refine CS.region (id := 25) ?_;
              refine RS.pv (PV.all tab_ok rfl) rfl ?_;
              refine RS.pv (PV.all tab_ok rfl) rfl ?_;
              refine RS.pv (PV.all tab_ok rfl) rfl ?_;
              refine RS.pv (PV.all tab_ok rfl) rfl ?_;
              refine RS.pv (PV.all tab_ok rfl) rfl ?_;
              refine RS.buildSliceF tab_ok 3 rfl rfl rfl (fun bb i9 hi9 hbs => ?_);
              (all_goals (refine RS.append tab_ok (sz := 3) (bytes := 32) (k := ((names.take k).filterMap (diffAt of_ nm sm A B)).length) (m := 1) (xs := diffs (((names.take k).filterMap (diffAt of_ nm sm A B)))) (news := [.int .i64 of_, .int .i64 1, .string a]) rfl rfl rfl ⟨_, rfl, rfl⟩ ⟨_, rfl, rfl, rfl⟩ (by omega) hO rfl (hbs.rd _) (by intro c hc; simp at hc; rcases hc with rfl | rfl | rfl <;> rfl) (by omega) (by omega) ?_; intro v' O' hO' hnil; obtain ⟨ao', cap', rfl⟩ := SlO.shape hO'));
              (all_goals refine RS.pv (PV.all tab_ok rfl) rfl ?_);
              (all_goals refine RS.nil ?_))
          | (refine CS.region (id := 26) ?_;
              refine RS.pv (PV.add rfl rfl (by omega)) rfl ?_;
              refine RS.pv (PV.all tab_ok rfl) rfl ?_;
              refine RS.nil ?_)
          | refine CS.ret ?_
          | refine thenQ.ret ?_
          | refine blkQ.ret ?_
          | refine retQ.ret ?_
          | refine CS.block ?_
          | refine CS.exit ?_
          | refine thenQ.exit ?_
          | refine blkQ.normal ?_
          | refine blkQ.here ?_
          | refine blkQ.past rfl ?_
          | refine retQ.normal ?_)
        have e : ((names.take (k + 1)).filterMap (diffAt of_ nm sm A B)) = ((names.take k).filterMap (diffAt of_ nm sm A B)) ++ [⟨of_, 1, a⟩] := by rw [hnx, diffAt_l hfA]; rfl
        have el : ((names.take (k + 1)).filterMap (diffAt of_ nm sm A B)).length = ((names.take k).filterMap (diffAt of_ nm sm A B)).length + 1 := by rw [e, List.length_append]; rfl
        exact ⟨names.length - (k + 1), by omega, k + 1, O', ao', cap', rfl, hlt, by rw [el, e, diffs_snoc]; exact hO', by rw [el]; rfl, rfl⟩
      | some y =>
        replace hgB : mget ns a = some (.agg (List.toArray (cl y))) := by rw [hgB, hfB]; rfl
        have hy0 : 7 = (cl y).length := (hB.len y (firstE_mem hfB).1).symm
        have hy1 : cl y ≠ [] := fun h => by rw [h] at hy0; cases hy0
        have hy2 : okStore tab 109 (cl y) = true := by
          show (Nat.beq (cl y).length 7 && (cl y).all (·.oneCell')) = true
          rw [← hy0, List.all_eq_true.2 (hB.one y (firstE_mem hfB).1)]; rfl
        repeat' (first
          | refine CS.seq ?_
          | refine thenQ.normal ?_
          | refine CS.cond_true rfl ?_
          | refine CS.cond_false rfl ?_
          | refine CS.skip ?_
          | (refine CS.region (id := 13) ?_;
              (first | refine RS.pv (PV.lssT rfl rfl (by omega)) rfl ?_ | refine RS.pv (PV.lssF rfl rfl (by omega)) rfl ?_ | refine RS.ifLss rfl rfl rfl (fun h => ?_) (fun h => ?_));
              (all_goals refine RS.nil ?_))
          | (refine CS.region (id := 14) ?_;
              (first | refine RS.pv (PV.indexAddr tab_ok rfl rfl rfl (by omega)) rfl ?_ | refine RS.pv (PV.indexAddrA tab_ok rfl rfl rfl (by omega)) rfl ?_);
              refine RS.lv (LV.load1 tab_ok rfl (Has.imm g1) rfl q1) rfl ?_;
              (all_goals refine RS.pv (PV.all tab_ok rfl) rfl ?_);
              (all_goals refine RS.nil ?_))
          | (refine CS.region (id := 15) ?_;
              refine RS.pv (PV.all tab_ok rfl) rfl ?_;
              refine RS.pv (PV.all tab_ok rfl) rfl ?_;
              refine RS.lv (LV.lookupVn tab_ok rfl rfl ⟨_, rfl, rfl⟩ ⟨_, rfl, rfl⟩ Try.zeroValue109 (Has.imm hma) hgA) rfl ?_;
              (all_goals refine RS.pv (PV.all tab_ok rfl) rfl ?_);
              (all_goals refine RS.pv (PV.all tab_ok rfl) rfl ?_);
              (all_goals refine RS.pv (PV.all tab_ok rfl) rfl ?_);
              (all_goals refine RS.alloc tab_ok rfl rfl (fun bx => ?_));
              (all_goals (refine RS.storeW (k := 0) tab_ok rfl rfl rfl rfl rfl nofun rfl ?_; refine RS.freeze (fun i6 hi6 hbx => ?_); have hmb' := hi6.blk _ _ hmb));
              (all_goals refine RS.pv (PV.all tab_ok rfl) rfl ?_);
              (all_goals refine RS.nil ?_))
          | (refine CS.region (id := 16) ?_;
              refine RS.pv (PV.all tab_ok rfl) rfl ?_;
              refine RS.pv (PV.all tab_ok rfl) rfl ?_;
              refine RS.lv (LV.lookupVs tab_ok rfl rfl ⟨_, rfl, rfl⟩ ⟨_, rfl, rfl⟩ Try.zeroValue109 (Has.imm hmb') hgB) rfl ?_;
              (all_goals refine RS.pv (PV.all tab_ok rfl) rfl ?_);
              (all_goals refine RS.pv (PV.all tab_ok rfl) rfl ?_);
              (all_goals refine RS.pv (PV.all tab_ok rfl) rfl ?_);
              (all_goals refine RS.alloc tab_ok rfl rfl (fun b_y => ?_));
              (all_goals (refine RS.storeW (k := 0) tab_ok rfl rfl rfl rfl hy0 hy1 hy2 ?_; refine RS.freeze (fun i7 hi7 hby => ?_)));
              (all_goals refine RS.pv (PV.all tab_ok rfl) rfl ?_);
              (all_goals refine RS.nil ?_))
          | (refine CS.region (id := 17) ?_;
              refine RS.pv (PV.all tab_ok rfl) rfl ?_;
              refine RS.nil ?_)
          | (refine CS.region (id := 18) ?_;
              refine RS.pv (PV.all tab_ok rfl) rfl ?_;
              refine RS.pv (PV.all tab_ok rfl) rfl ?_;
              refine RS.pv (PV.all tab_ok rfl) rfl ?_;
              refine RS.nil ?_)
          | (refine CS.region (id := 19) ?_;
              refine RS.pv (PV.all tab_ok rfl) rfl ?_;
              refine RS.nil ?_)
          | (refine CS.region (id := 24) ?_;
              refine RS.pv (PV.all tab_ok rfl) rfl ?_;
              (first | refine RS.pv (PV.gtrT rfl rfl (by omega)) rfl ?_ | refine RS.pv (PV.gtrF rfl rfl (by omega)) rfl ?_ | refine RS.ifGtr rfl rfl rfl (fun h => ?_) (fun h => ?_));
              (all_goals refine RS.nil ?_))
          | (refine CS.region (id := 25) ?_;
              refine RS.pv (PV.all tab_ok rfl) rfl ?_;
              refine RS.pv (PV.all tab_ok rfl) rfl ?_;
              refine RS.pv (PV.all tab_ok rfl) rfl ?_;
              refine RS.pv (PV.all tab_ok rfl) rfl ?_;
              refine RS.pv (PV.all tab_ok rfl) rfl ?_;
              refine RS.buildSliceF tab_ok 3 rfl rfl rfl (fun bb i9 hi9 hbs => ?_);
              (all_goals (refine RS.append tab_ok (sz := 3) (bytes := 32) (k := ((names.take k).filterMap (diffAt of_ nm sm A B)).length) (m := 1) (xs := diffs (((names.take k).filterMap (diffAt of_ nm sm A B)))) (news := [.int .i64 of_, .int .i64 1, .string a]) rfl rfl rfl ⟨_, rfl, rfl⟩ ⟨_, rfl, rfl, rfl⟩ (by omega) hO rfl (hbs.rd _) (by intro c hc; simp at hc; rcases hc with rfl | rfl | rfl <;> rfl) (by omega) (by omega) ?_; intro v' O' hO' hnil; obtain ⟨ao', cap', rfl⟩ := SlO.shape hO'));
              (all_goals refine RS.pv (PV.all tab_ok rfl) rfl ?_);
              (all_goals refine RS.nil ?_))
          | (refine CS.region (id := 26) ?_;
              refine RS.pv (PV.add rfl rfl (by omega)) rfl ?_;
              refine RS.pv (PV.all tab_ok rfl) rfl ?_;
              refine RS.nil ?_)
          | refine CS.ret ?_
          | refine thenQ.ret ?_
          | refine blkQ.ret ?_
          | refine retQ.ret ?_
          | refine CS.block ?_
          | refine CS.exit ?_
          | refine thenQ.exit ?_
          | refine blkQ.normal ?_
          | refine blkQ.here ?_
          | refine blkQ.past rfl ?_
          | refine retQ.normal ?_)
        have e : ((names.take (k + 1)).filterMap (diffAt of_ nm sm A B)) = ((names.take k).filterMap (diffAt of_ nm sm A B)) ++ [⟨of_, 1, a⟩] := by rw [hnx, diffAt_l hfA]; rfl
        have el : ((names.take (k + 1)).filterMap (diffAt of_ nm sm A B)).length = ((names.take k).filterMap (diffAt of_ nm sm A B)).length + 1 := by rw [e, List.length_append]; rfl
        exact ⟨names.length - (k + 1), by omega, k + 1, O', ao', cap', rfl, hlt, by rw [el, e, diffs_snoc]; exact hO', by rw [el]; rfl, rfl⟩
    | some x =>
      replace hgA : mget ms a = some (.agg (List.toArray (cl x))) := by rw [hgA, hfA]; rfl
      have hx0 : 7 = (cl x).length := (hA.len x (firstE_mem hfA).1).symm
      have hx1 : cl x ≠ [] := fun h => by rw [h] at hx0; cases hx0
      have hx2 : okStore tab 109 (cl x) = true := by
        show (Nat.beq (cl x).length 7 && (cl x).all (·.oneCell')) = true
        rw [← hx0, List.all_eq_true.2 (hA.one x (firstE_mem hfA).1)]; rfl
      cases hfB : firstE nm B a with
      | none =>
        replace hgB : mget ns a = none := by rw [hgB, hfB]; rfl
        repeat' (first
          | refine CS.seq ?_
          | refine thenQ.normal ?_
          | refine CS.cond_true rfl ?_
          | refine CS.cond_false rfl ?_
          | refine CS.skip ?_
          | (refine CS.region (id := 13) ?_;
              (first | refine RS.pv (PV.lssT rfl rfl (by omega)) rfl ?_ | refine RS.pv (PV.lssF rfl rfl (by omega)) rfl ?_ | refine RS.ifLss rfl rfl rfl (fun h => ?_) (fun h => ?_));
              (all_goals refine RS.nil ?_))
          | (refine CS.region (id := 14) ?_;
              (first | refine RS.pv (PV.indexAddr tab_ok rfl rfl rfl (by omega)) rfl ?_ | refine RS.pv (PV.indexAddrA tab_ok rfl rfl rfl (by omega)) rfl ?_);
              refine RS.lv (LV.load1 tab_ok rfl (Has.imm g1) rfl q1) rfl ?_;
              (all_goals refine RS.pv (PV.all tab_ok rfl) rfl ?_);
              (all_goals refine RS.nil ?_))
          | (refine CS.region (id := 15) ?_;
              refine RS.pv (PV.all tab_ok rfl) rfl ?_;
              refine RS.pv (PV.all tab_ok rfl) rfl ?_;
              refine RS.lv (LV.lookupVs tab_ok rfl rfl ⟨_, rfl, rfl⟩ ⟨_, rfl, rfl⟩ Try.zeroValue109 (Has.imm hma) hgA) rfl ?_;
              (all_goals refine RS.pv (PV.all tab_ok rfl) rfl ?_);
              (all_goals refine RS.pv (PV.all tab_ok rfl) rfl ?_);
              (all_goals refine RS.pv (PV.all tab_ok rfl) rfl ?_);
              (all_goals refine RS.alloc tab_ok rfl rfl (fun bx => ?_));
              (all_goals (refine RS.storeW (k := 0) tab_ok rfl rfl rfl rfl hx0 hx1 hx2 ?_; refine RS.freeze (fun i6 hi6 hbx => ?_); have hmb' := hi6.blk _ _ hmb));
              (all_goals refine RS.pv (PV.all tab_ok rfl) rfl ?_);
              (all_goals refine RS.nil ?_))
          | (refine CS.region (id := 16) ?_;
              refine RS.pv (PV.all tab_ok rfl) rfl ?_;
              refine RS.pv (PV.all tab_ok rfl) rfl ?_;
              refine RS.lv (LV.lookupVn tab_ok rfl rfl ⟨_, rfl, rfl⟩ ⟨_, rfl, rfl⟩ Try.zeroValue109 (Has.imm hmb') hgB) rfl ?_;
              (all_goals refine RS.pv (PV.all tab_ok rfl) rfl ?_);
              (all_goals refine RS.pv (PV.all tab_ok rfl) rfl ?_);
              (all_goals refine RS.pv (PV.all tab_ok rfl) rfl ?_);
              (all_goals refine RS.alloc tab_ok rfl rfl (fun b_y => ?_));
              (all_goals (refine RS.storeW (k := 0) tab_ok rfl rfl rfl rfl rfl nofun rfl ?_; refine RS.freeze (fun i7 hi7 hby => ?_)));
              (all_goals refine RS.pv (PV.all tab_ok rfl) rfl ?_);
              (all_goals refine RS.nil ?_))
          | (refine CS.region (id := 17) ?_;
              refine RS.pv (PV.all tab_ok rfl) rfl ?_;
              refine RS.nil ?_)
          | (refine CS.region (id := 18) ?_;
              refine RS.pv (PV.all tab_ok rfl) rfl ?_;
              refine RS.pv (PV.all tab_ok rfl) rfl ?_;
              refine RS.pv (PV.all tab_ok rfl) rfl ?_;
              refine RS.nil ?_)
          | (refine CS.region (id := 19) ?_;
              refine RS.pv (PV.all tab_ok rfl) rfl ?_;
              refine RS.nil ?_)
          | (refine CS.region (id := 20) ?_;
              refine RS.pv (PV.all tab_ok rfl) rfl ?_;
              refine RS.pv (PV.all tab_ok rfl) rfl ?_;
              refine RS.pv (PV.all tab_ok rfl) rfl ?_;
              refine RS.nil ?_)
          | (refine CS.region (id := 21) ?_;
              refine RS.pv (PV.all tab_ok rfl) rfl ?_;
              refine RS.nil ?_)
          | (refine CS.region (id := 24) ?_;
              refine RS.pv (PV.all tab_ok rfl) rfl ?_;
              (first | refine RS.pv (PV.gtrT rfl rfl (by omega)) rfl ?_ | refine RS.pv (PV.gtrF rfl rfl (by omega)) rfl ?_ | refine RS.ifGtr rfl rfl rfl (fun h => ?_) (fun h => ?_));
              (all_goals refine RS.nil ?_))
          | (refine CS.region (id := 25) ?_;
              refine RS.pv (PV.all tab_ok rfl) rfl ?_;
              refine RS.pv (PV.all tab_ok rfl) rfl ?_;
              refine RS.pv (PV.all tab_ok rfl) rfl ?_;
              refine RS.pv (PV.all tab_ok rfl) rfl ?_;
              refine RS.pv (PV.all tab_ok rfl) rfl ?_;
              refine RS.buildSliceF tab_ok 3 rfl rfl rfl (fun bb i9 hi9 hbs => ?_);
              (all_goals (refine RS.append tab_ok (sz := 3) (bytes := 32) (k := ((names.take k).filterMap (diffAt of_ nm sm A B)).length) (m := 1) (xs := diffs (((names.take k).filterMap (diffAt of_ nm sm A B)))) (news := [.int .i64 of_, .int .i64 2, .string a]) rfl rfl rfl ⟨_, rfl, rfl⟩ ⟨_, rfl, rfl, rfl⟩ (by omega) hO rfl (hbs.rd _) (by intro c hc; simp at hc; rcases hc with rfl | rfl | rfl <;> rfl) (by omega) (by omega) ?_; intro v' O' hO' hnil; obtain ⟨ao', cap', rfl⟩ := SlO.shape hO'));
              (all_goals refine RS.pv (PV.all tab_ok rfl) rfl ?_);
              (all_goals refine RS.nil ?_))
          | (refine CS.region (id := 26) ?_;
              refine RS.pv (PV.add rfl rfl (by omega)) rfl ?_;
              refine RS.pv (PV.all tab_ok rfl) rfl ?_;
              refine RS.nil ?_)
          | refine CS.ret ?_
          | refine thenQ.ret ?_
          | refine blkQ.ret ?_
          | refine retQ.ret ?_
          | refine CS.block ?_
          | refine CS.exit ?_
          | refine thenQ.exit ?_
          | refine blkQ.normal ?_
          | refine blkQ.here ?_
          | refine blkQ.past rfl ?_
          | refine retQ.normal ?_)
        have e : ((names.take (k + 1)).filterMap (diffAt of_ nm sm A B)) = ((names.take k).filterMap (diffAt of_ nm sm A B)) ++ [⟨of_, 2, a⟩] := by rw [hnx, diffAt_m hfA hfB]; rfl
        have el : ((names.take (k + 1)).filterMap (diffAt of_ nm sm A B)).length = ((names.take k).filterMap (diffAt of_ nm sm A B)).length + 1 := by rw [e, List.length_append]; rfl
        exact ⟨names.length - (k + 1), by omega, k + 1, O', ao', cap', rfl, hlt, by rw [el, e, diffs_snoc]; exact hO', by rw [el]; rfl, rfl⟩
      | some y =>
        replace hgB : mget ns a = some (.agg (List.toArray (cl y))) := by rw [hgB, hfB]; rfl
        have hy0 : 7 = (cl y).length := (hB.len y (firstE_mem hfB).1).symm
        have hy1 : cl y ≠ [] := fun h => by rw [h] at hy0; cases hy0
        have hy2 : okStore tab 109 (cl y) = true := by
          show (Nat.beq (cl y).length 7 && (cl y).all (·.oneCell')) = true
          rw [← hy0, List.all_eq_true.2 (hB.one y (firstE_mem hfB).1)]; rfl
        have hsx := hsm x (firstE_mem hfA).1 y (firstE_mem hfB).1
        cases hsb : sm x y with
        | true =>
          rw [hsb] at hsx
          repeat' (first
            | refine CS.seq ?_
            | refine thenQ.normal ?_
            | refine CS.cond_true rfl ?_
            | refine CS.cond_false rfl ?_
            | refine CS.skip ?_
            | (refine CS.region (id := 13) ?_;
                (first | refine RS.pv (PV.lssT rfl rfl (by omega)) rfl ?_ | refine RS.pv (PV.lssF rfl rfl (by omega)) rfl ?_ | refine RS.ifLss rfl rfl rfl (fun h => ?_) (fun h => ?_));
                (all_goals refine RS.nil ?_))
            | (refine CS.region (id := 14) ?_;
                (first | refine RS.pv (PV.indexAddr tab_ok rfl rfl rfl (by omega)) rfl ?_ | refine RS.pv (PV.indexAddrA tab_ok rfl rfl rfl (by omega)) rfl ?_);
                refine RS.lv (LV.load1 tab_ok rfl (Has.imm g1) rfl q1) rfl ?_;
                (all_goals refine RS.pv (PV.all tab_ok rfl) rfl ?_);
                (all_goals refine RS.nil ?_))
            | (refine CS.region (id := 15) ?_;
                refine RS.pv (PV.all tab_ok rfl) rfl ?_;
                refine RS.pv (PV.all tab_ok rfl) rfl ?_;
                refine RS.lv (LV.lookupVs tab_ok rfl rfl ⟨_, rfl, rfl⟩ ⟨_, rfl, rfl⟩ Try.zeroValue109 (Has.imm hma) hgA) rfl ?_;
                (all_goals refine RS.pv (PV.all tab_ok rfl) rfl ?_);
                (all_goals refine RS.pv (PV.all tab_ok rfl) rfl ?_);
                (all_goals refine RS.pv (PV.all tab_ok rfl) rfl ?_);
                (all_goals refine RS.alloc tab_ok rfl rfl (fun bx => ?_));
                (all_goals (refine RS.storeW (k := 0) tab_ok rfl rfl rfl rfl hx0 hx1 hx2 ?_; refine RS.freeze (fun i6 hi6 hbx => ?_); have hmb' := hi6.blk _ _ hmb));
                (all_goals refine RS.pv (PV.all tab_ok rfl) rfl ?_);
                (all_goals refine RS.nil ?_))
            | (refine CS.region (id := 16) ?_;
                refine RS.pv (PV.all tab_ok rfl) rfl ?_;
                refine RS.pv (PV.all tab_ok rfl) rfl ?_;
                refine RS.lv (LV.lookupVs tab_ok rfl rfl ⟨_, rfl, rfl⟩ ⟨_, rfl, rfl⟩ Try.zeroValue109 (Has.imm hmb') hgB) rfl ?_;
                (all_goals refine RS.pv (PV.all tab_ok rfl) rfl ?_);
                (all_goals refine RS.pv (PV.all tab_ok rfl) rfl ?_);
                (all_goals refine RS.pv (PV.all tab_ok rfl) rfl ?_);
                (all_goals refine RS.alloc tab_ok rfl rfl (fun b_y => ?_));
                (all_goals (refine RS.storeW (k := 0) tab_ok rfl rfl rfl rfl hy0 hy1 hy2 ?_; refine RS.freeze (fun i7 hi7 hby => ?_)));
                (all_goals refine RS.pv (PV.all tab_ok rfl) rfl ?_);
                (all_goals refine RS.nil ?_))
            | (refine CS.region (id := 17) ?_;
                refine RS.pv (PV.all tab_ok rfl) rfl ?_;
                refine RS.nil ?_)
            | (refine CS.region (id := 18) ?_;
                refine RS.pv (PV.all tab_ok rfl) rfl ?_;
                refine RS.pv (PV.all tab_ok rfl) rfl ?_;
                refine RS.pv (PV.all tab_ok rfl) rfl ?_;
                refine RS.nil ?_)
            | (refine CS.region (id := 19) ?_;
                refine RS.pv (PV.all tab_ok rfl) rfl ?_;
                refine RS.nil ?_)
            | (refine CS.region (id := 20) ?_;
                refine RS.pv (PV.all tab_ok rfl) rfl ?_;
                refine RS.pv (PV.all tab_ok rfl) rfl ?_;
                refine RS.pv (PV.all tab_ok rfl) rfl ?_;
                refine RS.nil ?_)
            | (refine CS.region (id := 21) ?_;
                refine RS.pv (PV.all tab_ok rfl) rfl ?_;
                refine RS.nil ?_)
            | (refine CS.region (id := 22) ?_;
                refine RS.pv (PV.all tab_ok rfl) rfl ?_;
                refine RS.lv (LV.loadL tab_ok rfl (Has.imm (hi7.blk _ _ hbx)) (l := cl x) rfl rfl (hA.len x (firstE_mem hfA).1) (fun d u hu => by rw [Nat.zero_add]; exact hu)) rfl ?_;
                (all_goals refine RS.lv (LV.loadL tab_ok rfl (Has.imm hby) (l := cl y) rfl rfl (hB.len y (firstE_mem hfB).1) (fun d u hu => by rw [Nat.zero_add]; exact hu)) rfl ?_);
                (all_goals (refine RS.callV (hsx _ _ (((((hi1.trans hi2).trans hi4).trans hi3).trans hi6).trans hi7)) rfl rfl hsf rfl ?_; rintro v i8 L8 hi8 ⟨rfl, rfl⟩));
                (all_goals refine RS.pv (PV.all tab_ok rfl) rfl ?_);
                (all_goals refine RS.pv (PV.all tab_ok rfl) rfl ?_);
                (all_goals refine RS.nil ?_))
            | (refine CS.region (id := 24) ?_;
                refine RS.pv (PV.all tab_ok rfl) rfl ?_;
                (first | refine RS.pv (PV.gtrT rfl rfl (by omega)) rfl ?_ | refine RS.pv (PV.gtrF rfl rfl (by omega)) rfl ?_ | refine RS.ifGtr rfl rfl rfl (fun h => ?_) (fun h => ?_));
                (all_goals refine RS.nil ?_))
            | (refine CS.region (id := 26) ?_;
                refine RS.pv (PV.add rfl rfl (by omega)) rfl ?_;
                refine RS.pv (PV.all tab_ok rfl) rfl ?_;
                refine RS.nil ?_)
            | refine CS.ret ?_
            | refine thenQ.ret ?_
            | refine blkQ.ret ?_
            | refine retQ.ret ?_
            | refine CS.block ?_
            | refine CS.exit ?_
            | refine thenQ.exit ?_
            | refine blkQ.normal ?_
            | refine blkQ.here ?_
            | refine blkQ.past rfl ?_
            | refine retQ.normal ?_)
          have e : ((names.take (k + 1)).filterMap (diffAt of_ nm sm A B)) = ((names.take k).filterMap (diffAt of_ nm sm A B)) := by rw [hnx, diffAt_s hfA hfB hsb]; simp
          exact ⟨names.length - (k + 1), by omega, k + 1, O, oa, oc, rfl, hlt, by rw [e]; exact hO, by rw [e]; rfl, rfl⟩
        | false =>
          rw [hsb] at hsx
          repeat' (first
            | refine CS.seq ?_
            | refine thenQ.normal ?_
            | refine CS.cond_true rfl ?_
            | refine CS.cond_false rfl ?_
            | refine CS.skip ?_
            | (refine CS.region (id := 13) ?_;
                (first | refine RS.pv (PV.lssT rfl rfl (by omega)) rfl ?_ | refine RS.pv (PV.lssF rfl rfl (by omega)) rfl ?_ | refine RS.ifLss rfl rfl rfl (fun h => ?_) (fun h => ?_));
                (all_goals refine RS.nil ?_))
            | (refine CS.region (id := 14) ?_;
                (first | refine RS.pv (PV.indexAddr tab_ok rfl rfl rfl (by omega)) rfl ?_ | refine RS.pv (PV.indexAddrA tab_ok rfl rfl rfl (by omega)) rfl ?_);
                refine RS.lv (LV.load1 tab_ok rfl (Has.imm g1) rfl q1) rfl ?_;
                (all_goals refine RS.pv (PV.all tab_ok rfl) rfl ?_);
                (all_goals refine RS.nil ?_))
            | (refine CS.region (id := 15) ?_;
                refine RS.pv (PV.all tab_ok rfl) rfl ?_;
                refine RS.pv (PV.all tab_ok rfl) rfl ?_;
                refine RS.lv (LV.lookupVs tab_ok rfl rfl ⟨_, rfl, rfl⟩ ⟨_, rfl, rfl⟩ Try.zeroValue109 (Has.imm hma) hgA) rfl ?_;
                (all_goals refine RS.pv (PV.all tab_ok rfl) rfl ?_);
                (all_goals refine RS.pv (PV.all tab_ok rfl) rfl ?_);
                (all_goals refine RS.pv (PV.all tab_ok rfl) rfl ?_);
                (all_goals refine RS.alloc tab_ok rfl rfl (fun bx => ?_));
                (all_goals (refine RS.storeW (k := 0) tab_ok rfl rfl rfl rfl hx0 hx1 hx2 ?_; refine RS.freeze (fun i6 hi6 hbx => ?_); have hmb' := hi6.blk _ _ hmb));
                (all_goals refine RS.pv (PV.all tab_ok rfl) rfl ?_);
                (all_goals refine RS.nil ?_))
            | (refine CS.region (id := 16) ?_;
                refine RS.pv (PV.all tab_ok rfl) rfl ?_;
                refine RS.pv (PV.all tab_ok rfl) rfl ?_;
                refine RS.lv (LV.lookupVs tab_ok rfl rfl ⟨_, rfl, rfl⟩ ⟨_, rfl, rfl⟩ Try.zeroValue109 (Has.imm hmb') hgB) rfl ?_;
                (all_goals refine RS.pv (PV.all tab_ok rfl) rfl ?_);
                (all_goals refine RS.pv (PV.all tab_ok rfl) rfl ?_);
                (all_goals refine RS.pv (PV.all tab_ok rfl) rfl ?_);
                (all_goals refine RS.alloc tab_ok rfl rfl (fun b_y => ?_));
                (all_goals (refine RS.storeW (k := 0) tab_ok rfl rfl rfl rfl hy0 hy1 hy2 ?_; refine RS.freeze (fun i7 hi7 hby => ?_)));
                (all_goals refine RS.pv (PV.all tab_ok rfl) rfl ?_);
                (all_goals refine RS.nil ?_))
            | (refine CS.region (id := 17) ?_;
                refine RS.pv (PV.all tab_ok rfl) rfl ?_;
                refine RS.nil ?_)
            | (refine CS.region (id := 18) ?_;
                refine RS.pv (PV.all tab_ok rfl) rfl ?_;
                refine RS.pv (PV.all tab_ok rfl) rfl ?_;
                refine RS.pv (PV.all tab_ok rfl) rfl ?_;
                refine RS.nil ?_)
            | (refine CS.region (id := 19) ?_;
                refine RS.pv (PV.all tab_ok rfl) rfl ?_;
                refine RS.nil ?_)
            | (refine CS.region (id := 20) ?_;
                refine RS.pv (PV.all tab_ok rfl) rfl ?_;
                refine RS.pv (PV.all tab_ok rfl) rfl ?_;
                refine RS.pv (PV.all tab_ok rfl) rfl ?_;
                refine RS.nil ?_)
            | (refine CS.region (id := 21) ?_;
                refine RS.pv (PV.all tab_ok rfl) rfl ?_;
                refine RS.nil ?_)
            | (refine CS.region (id := 22) ?_;
                refine RS.pv (PV.all tab_ok rfl) rfl ?_;
                refine RS.lv (LV.loadL tab_ok rfl (Has.imm (hi7.blk _ _ hbx)) (l := cl x) rfl rfl (hA.len x (firstE_mem hfA).1) (fun d u hu => by rw [Nat.zero_add]; exact hu)) rfl ?_;
                (all_goals refine RS.lv (LV.loadL tab_ok rfl (Has.imm hby) (l := cl y) rfl rfl (hB.len y (firstE_mem hfB).1) (fun d u hu => by rw [Nat.zero_add]; exact hu)) rfl ?_);
                (all_goals (refine RS.callV (hsx _ _ (((((hi1.trans hi2).trans hi4).trans hi3).trans hi6).trans hi7)) rfl rfl hsf rfl ?_; rintro v i8 L8 hi8 ⟨rfl, rfl⟩));
                (all_goals refine RS.pv (PV.all tab_ok rfl) rfl ?_);
                (all_goals refine RS.pv (PV.all tab_ok rfl) rfl ?_);
                (all_goals refine RS.nil ?_))
            | (refine CS.region (id := 23) ?_;
                refine RS.pv (PV.all tab_ok rfl) rfl ?_;
                refine RS.nil ?_)
            | (refine CS.region (id := 24) ?_;
                refine RS.pv (PV.all tab_ok rfl) rfl ?_;
                (first | refine RS.pv (PV.gtrT rfl rfl (by omega)) rfl ?_ | refine RS.pv (PV.gtrF rfl rfl (by omega)) rfl ?_ | refine RS.ifGtr rfl rfl rfl (fun h => ?_) (fun h => ?_));
                (all_goals refine RS.nil ?_))
            | (refine CS.region (id := 25) ?_;
                refine RS.pv (PV.all tab_ok rfl) rfl ?_;
                refine RS.pv (PV.all tab_ok rfl) rfl ?_;
                refine RS.pv (PV.all tab_ok rfl) rfl ?_;
                refine RS.pv (PV.all tab_ok rfl) rfl ?_;
                refine RS.pv (PV.all tab_ok rfl) rfl ?_;
                refine RS.buildSliceF tab_ok 3 rfl rfl rfl (fun bb i9 hi9 hbs => ?_);
                (all_goals (refine RS.append tab_ok (sz := 3) (bytes := 32) (k := ((names.take k).filterMap (diffAt of_ nm sm A B)).length) (m := 1) (xs := diffs (((names.take k).filterMap (diffAt of_ nm sm A B)))) (news := [.int .i64 of_, .int .i64 3, .string a]) rfl rfl rfl ⟨_, rfl, rfl⟩ ⟨_, rfl, rfl, rfl⟩ (by omega) hO rfl (hbs.rd _) (by intro c hc; simp at hc; rcases hc with rfl | rfl | rfl <;> rfl) (by omega) (by omega) ?_; intro v' O' hO' hnil; obtain ⟨ao', cap', rfl⟩ := SlO.shape hO'));
                (all_goals refine RS.pv (PV.all tab_ok rfl) rfl ?_);
                (all_goals refine RS.nil ?_))
            | (refine CS.region (id := 26) ?_;
                refine RS.pv (PV.add rfl rfl (by omega)) rfl ?_;
                refine RS.pv (PV.all tab_ok rfl) rfl ?_;
                refine RS.nil ?_)
            | refine CS.ret ?_
            | refine thenQ.ret ?_
            | refine blkQ.ret ?_
            | refine retQ.ret ?_
            | refine CS.block ?_
            | refine CS.exit ?_
            | refine thenQ.exit ?_
            | refine blkQ.normal ?_
            | refine blkQ.here ?_
            | refine blkQ.past rfl ?_
            | refine retQ.normal ?_)
          have e : ((names.take (k + 1)).filterMap (diffAt of_ nm sm A B)) = ((names.take k).filterMap (diffAt of_ nm sm A B)) ++ [⟨of_, 3, a⟩] := by rw [hnx, diffAt_o hfA hfB hsb]; rfl
          have el : ((names.take (k + 1)).filterMap (diffAt of_ nm sm A B)).length = ((names.take k).filterMap (diffAt of_ nm sm A B)).length + 1 := by rw [e, List.length_append]; rfl
          exact ⟨names.length - (k + 1), by omega, k + 1, O', ao', cap', rfl, hlt, by rw [el, e, diffs_snoc]; exact hO', by rw [el]; rfl, rfl⟩
  · have : k = names.length := by omega
    subst this
    repeat' (first
      | refine CS.seq ?_
      | refine thenQ.normal ?_
      | refine CS.cond_true rfl ?_
      | refine CS.cond_false rfl ?_
      | refine CS.skip ?_
      | (refine CS.region (id := 13) ?_;
          (first | refine RS.pv (PV.lssT rfl rfl (by omega)) rfl ?_ | refine RS.pv (PV.lssF rfl rfl (by omega)) rfl ?_ | refine RS.ifLss rfl rfl rfl (fun h => ?_) (fun h => ?_));
          (all_goals refine RS.nil ?_))
      | (refine CS.region (id := 27) ?_;
          refine RS.pv (PV.all tab_ok rfl) rfl ?_;
          refine RS.pv (PV.all tab_ok rfl) rfl ?_;
          refine RS.nil ?_)
      | refine CS.ret ?_
      | refine thenQ.ret ?_
      | refine blkQ.ret ?_
      | refine retQ.ret ?_
      | refine CS.block ?_
      | refine CS.exit ?_
      | refine thenQ.exit ?_
      | refine blkQ.normal ?_
      | refine blkQ.here ?_
      | refine blkQ.past rfl ?_
      | refine retQ.normal ?_)
    refine ⟨((names.take (names.length)).filterMap (diffAt of_ nm sm A B)), O, _, hO, rfl, ⟨names, hasc, hmn', by rw [List.take_length]⟩, ?_⟩
    have := take_filterMap_len (f := diffAt of_ nm sm A B) (Nat.le_refl names.length)
    omega
theorem Compare_69 {E : Type} (cl : E → List Value) (nm : E → ByteArray) (sm : E → E → Bool) (A B : List E) (of_ : Int) (sf : FuncId) (hsf : fnOk Try.prog sf = true) (va vb : Value) (i : Imm) (L : SH) (hA : ElsOk cl nm 3 A) (hB : ElsOk cl nm 3 B) (hsA : Sl i va 3 A.length (rowC cl A)) (hsB : Sl i vb 3 B.length (rowC cl B)) (hlA : A.length ≤ 10000000000) (hlB : B.length ≤ 10000000000)
    (hsm : ∀ x ∈ A, ∀ y ∈ B, ∀ i' L', i.le i' → FnS Try.prog sf [.agg (cl x).toArray, .agg (cl y).toArray] i' L' fun v _ L'' => v = .bool (sm x y) ∧ L'' = L') :
    FnS Try.prog 69 [.int .i64 of_, va, vb, .func (.func 70) #[] #[], .func (.func sf) #[] #[]] i L fun v i' L' => L' = L ∧ ∃ l, Sl i' v 3 l.length (diffs l) ∧ DiffOf of_ nm sm A B l ∧ l.length ≤ A.length + B.length := by
  refine FnS.state (K := fun v i' L' => ∃ l O M, SlO 85 v 3 l.length (diffs l) O ∧ L' = O ++ (M ++ L) ∧ DiffOf of_ nm sm A B l ∧ l.length ≤ A.length + B.length) ?_ ?_
  rotate_left
  · rintro v i' L' w _ hs ⟨l, O, M, hO, rfl, hd, hll⟩
    obtain ⟨i2, h1, h2, h3⟩ := hO.freeze hs
    exact ⟨i2, L, h1, h2.dropL, rfl, l, h3, hd, hll⟩
  obtain ⟨aa, ac, rfl, -⟩ := id hsA
  obtain ⟨ba, bc, rfl, -⟩ := id hsB
  refine FnS.intro1 Try.func69 rfl Try.ntmps69 (by simp) Try.results69 ?_
  repeat' (first
    | refine CS.seq ?_
    | refine thenQ.normal ?_
    | refine CS.cond_true rfl ?_
    | refine CS.cond_false rfl ?_
    | refine CS.skip ?_
    | (refine CS.region (id := 0) ?_;
        refine RS.pv (PV.all tab_ok rfl) rfl ?_;
        refine RS.nil ?_)
    | (refine CS.region (id := 1) ?_;
        refine RS.pv (PV.all tab_ok rfl) rfl ?_;
        refine RS.pv (PV.all tab_ok rfl) rfl ?_;
        (refine RS.call (First_96 cl nm A _ _ _ (fun e he => ⟨hA.len e he, hA.one e he, hA.name e he⟩) hsA (by omega)) rfl (by kernel_rfl) rfl ?_; rintro v i1 L1 hi1 ⟨hL1, ma, ms, ca, rfl, hma, hMA⟩; replace hL1 := hL1.symm; subst hL1);
        (all_goals refine RS.pv (PV.all tab_ok rfl) rfl ?_);
        (all_goals refine RS.pv (PV.all tab_ok rfl) rfl ?_);
        (all_goals (refine RS.call (First_96 cl nm B _ _ _ (fun e he => ⟨hB.len e he, hB.one e he, hB.name e he⟩) (hsB.le hi1) (by omega)) rfl (by kernel_rfl) rfl ?_; rintro v i2 L2 hi2 ⟨hL2, mb, ns, cb, rfl, hmb, hMB⟩; replace hL2 := hL2.symm; subst hL2));
        (all_goals refine RS.pv (PV.all tab_ok rfl) rfl ?_);
        (all_goals refine RS.pv (PV.all tab_ok rfl) rfl ?_);
        (all_goals refine RS.nil ?_))
    | (refine CS.region (id := 2) ?_;
        refine RS.makeMapV rfl (fun bn => ?_);
        (all_goals refine RS.pv (PV.all tab_ok rfl) rfl ?_);
        (all_goals refine RS.nil ?_))
    | (refine CS.region (id := 3) ?_;
        refine RS.pv (PV.all tab_ok rfl) rfl ?_;
        refine RS.rangeM tab_ok rfl rfl ⟨_, rfl, rfl⟩ (Has.imm (hi2.blk _ _ hma)) (fun it => ?_);
        (all_goals refine RS.nil ?_))
    | refine CS.ret ?_
    | refine thenQ.ret ?_
    | refine blkQ.ret ?_
    | refine retQ.ret ?_
    | refine CS.block ?_
    | refine CS.exit ?_
    | refine thenQ.exit ?_
    | refine blkQ.normal ?_
    | refine blkQ.here ?_
    | refine blkQ.past rfl ?_
    | refine retQ.normal ?_)
  replace hma := hi2.blk _ _ hma
  refine CS.loop [0, 4, 11, 12, 13, 32] (fun m vs i' L' => ∃ (xs : List VE) (c : Nat) (seen : Array Nat), m = leftM ms seen ∧ SetInv (fun _ => False) ms ms.length xs c seen ∧ vs = [.int .i64 of_, .func (.func sf) #[] #[], .map (some ma), .map (some mb), .map (some bn), .pointer (some ⟨it, 0, none⟩)] ∧ i2 = i' ∧ L' = (it, .mapIter (some ma) ca seen ca) :: (bn, .map (entV xs) c) :: L) ms.length ⟨[], 0, #[], (leftM_nil ms).symm, ⟨MapOk.nil, by rw [leftM_nil]; simp, fun a => by simp⟩, rfl, rfl, rfl⟩ ?_
  rintro m g vs i' L' hi ⟨xs, c, seen, rfl, hinv, rfl, rfl, rfl⟩
  repeat' (first
    | refine CS.seq ?_
    | refine thenQ.normal ?_
    | refine CS.cond_true rfl ?_
    | refine CS.cond_false rfl ?_
    | refine CS.skip ?_
    | (refine CS.region (id := 4) ?_;
        refine RS.nextM (k := 0) rfl rfl rfl (Has.imm hma) hMA.ok.lt (Nat.le_refl _) (fun hall => ?_) (fun e he hne => ?_);
        (all_goals refine RS.pv (PV.all tab_ok rfl) rfl ?_);
        (all_goals refine RS.nil ?_))
    | (refine CS.region (id := 5) ?_;
        refine RS.lv (LV.entryM (k := 0) rfl rfl (Has.imm hma) hMA.ok he) rfl ?_;
        (all_goals refine RS.pv (PV.all tab_ok rfl) rfl ?_);
        (all_goals refine RS.pv (PV.all tab_ok rfl) rfl ?_);
        (all_goals refine RS.nil ?_))
    | (refine CS.region (id := 6) ?_;
        refine RS.pv (PV.all tab_ok rfl) rfl ?_;
        refine RS.pv (PV.all tab_ok rfl) rfl ?_;
        refine RS.mapPut (k := 1) (a := e.1) tab_ok rfl rfl rfl rfl ⟨_, rfl, rfl⟩ ⟨_, rfl, rfl⟩ rfl rfl ?_;
        (all_goals refine RS.nil ?_))
    | refine CS.ret ?_
    | refine thenQ.ret ?_
    | refine blkQ.ret ?_
    | refine retQ.ret ?_
    | refine CS.block ?_
    | refine CS.exit ?_
    | refine thenQ.exit ?_
    | refine blkQ.normal ?_
    | refine blkQ.here ?_
    | refine blkQ.past rfl ?_
    | refine retQ.normal ?_)
  rotate_left
  · exact ⟨_, leftM_push ms seen e he hne, _, _, _, rfl, hinv.step hMA.ok he hne _, rfl, rfl, rfl⟩
  have hk1 : ∀ a, a ∈ xs.map (fun e => e.1) ↔ a ∈ A.map nm := fun a => by rw [hinv.all hall a, hMA.keys a]; simp
  have hx1 : xs.length ≤ ms.length := by have := hinv.few; omega
  have hok1 := hinv.ok
  clear hinv hall
  refine CS.drop ?_
  repeat' (first
    | refine CS.seq ?_
    | refine thenQ.normal ?_
    | refine CS.cond_true rfl ?_
    | refine CS.cond_false rfl ?_
    | refine CS.skip ?_
    | (refine CS.region (id := 7) ?_;
        refine RS.pv (PV.all tab_ok rfl) rfl ?_;
        refine RS.rangeM tab_ok rfl rfl ⟨_, rfl, rfl⟩ (Has.imm hmb) (fun it2 => ?_);
        (all_goals refine RS.nil ?_))
    | refine CS.ret ?_
    | refine thenQ.ret ?_
    | refine blkQ.ret ?_
    | refine retQ.ret ?_
    | refine CS.block ?_
    | refine CS.exit ?_
    | refine thenQ.exit ?_
    | refine blkQ.normal ?_
    | refine blkQ.here ?_
    | refine blkQ.past rfl ?_
    | refine retQ.normal ?_)
  refine CS.loop [0, 4, 11, 12, 13, 40] (fun m vs i' L' => ∃ (zs : List VE) (c : Nat) (seen : Array Nat), m = leftM ns seen ∧ SetInv (fun a => a ∈ A.map nm) ns (ms.length + ns.length) zs c seen ∧ vs = [.int .i64 of_, .func (.func sf) #[] #[], .map (some ma), .map (some mb), .map (some bn), .pointer (some ⟨it2, 0, none⟩)] ∧ i2 = i' ∧ L' = (it2, .mapIter (some mb) cb seen cb) :: (bn, .map (entV zs) c) :: L) ns.length ⟨xs, c, #[], (leftM_nil ns).symm, ⟨hok1, by rw [leftM_nil]; omega, fun a => by rw [hk1 a]; simp⟩, rfl, rfl, rfl⟩ ?_
  rintro m g2 vs i' L' hi' ⟨zs, c2, seen2, rfl, hinv, rfl, rfl, rfl⟩
  repeat' (first
    | refine CS.seq ?_
    | refine thenQ.normal ?_
    | refine CS.cond_true rfl ?_
    | refine CS.cond_false rfl ?_
    | refine CS.skip ?_
    | (refine CS.region (id := 8) ?_;
        refine RS.nextM (k := 0) rfl rfl rfl (Has.imm hmb) hMB.ok.lt (Nat.le_refl _) (fun hall => ?_) (fun e he hne => ?_);
        (all_goals refine RS.pv (PV.all tab_ok rfl) rfl ?_);
        (all_goals refine RS.nil ?_))
    | (refine CS.region (id := 9) ?_;
        refine RS.lv (LV.entryM (k := 0) rfl rfl (Has.imm hmb) hMB.ok he) rfl ?_;
        (all_goals refine RS.pv (PV.all tab_ok rfl) rfl ?_);
        (all_goals refine RS.pv (PV.all tab_ok rfl) rfl ?_);
        (all_goals refine RS.nil ?_))
    | (refine CS.region (id := 10) ?_;
        refine RS.pv (PV.all tab_ok rfl) rfl ?_;
        refine RS.pv (PV.all tab_ok rfl) rfl ?_;
        refine RS.mapPut (k := 1) (a := e.1) tab_ok rfl rfl rfl rfl ⟨_, rfl, rfl⟩ ⟨_, rfl, rfl⟩ rfl rfl ?_;
        (all_goals refine RS.nil ?_))
    | refine CS.ret ?_
    | refine thenQ.ret ?_
    | refine blkQ.ret ?_
    | refine retQ.ret ?_
    | refine CS.block ?_
    | refine CS.exit ?_
    | refine thenQ.exit ?_
    | refine blkQ.normal ?_
    | refine blkQ.here ?_
    | refine blkQ.past rfl ?_
    | refine retQ.normal ?_)
  rotate_left
  · exact ⟨_, leftM_push ns seen2 e he hne, _, _, _, rfl, hinv.step hMB.ok he hne _, rfl, rfl, rfl⟩
  have hk2 : ∀ a, a ∈ zs.map (fun e => e.1) ↔ a ∈ A.map nm ∨ a ∈ B.map nm := fun a => by rw [hinv.all hall a, hMB.keys a]
  have hx2 : zs.length ≤ ms.length + ns.length := by have := hinv.few; omega
  have hfa := hMA.few
  have hfb := hMB.few
  have hok2 := hinv.ok
  clear hinv hall hk1 hx1 hok1
  have hsz : ∀ e ∈ zs, e.1.size ≤ maxLen := fun e he => by
    have h1 := (hk2 e.1).1 (List.mem_map.2 ⟨e, he, rfl⟩)
    rw [List.mem_map, List.mem_map] at h1
    rcases h1 with ⟨x, hx, hxe⟩ | ⟨x, hx, hxe⟩
    · rw [← hxe]; exact hA.size x hx
    · rw [← hxe]; exact hB.size x hx
  refine CS.drop ?_
  repeat' (first
    | refine CS.seq ?_
    | refine thenQ.normal ?_
    | refine CS.cond_true rfl ?_
    | refine CS.cond_false rfl ?_
    | refine CS.skip ?_
    | (refine CS.region (id := 11) ?_;
        refine RS.pv (PV.all tab_ok rfl) rfl ?_;
        refine RS.nil ?_)
    | (refine CS.region (id := 12) ?_;
        refine RS.pv (PV.all tab_ok rfl) rfl ?_;
        (refine RS.call (Keys_94 _ _ _) rfl (by kernel_rfl) rfl ?_; rintro v i3 L3 hi3 ⟨rfl, p, rfl, rfl⟩);
        (all_goals (refine RS.call (Sorted_93 p bn c2 zs _ _ (Has.own 0 rfl) (Has.own 1 rfl) hok2 (by omega) hsz) rfl (by kernel_rfl) rfl ?_; rintro v i4 L4 hi4 ⟨rfl, names, hsn, hasc, hln, hmn⟩; obtain ⟨na, nc, rfl, -⟩ := id hsn));
        (all_goals (first | refine RS.pv (PV.lenS tab_ok rfl rfl) rfl ?_ | refine RS.pv (PV.lenT tab_ok rfl rfl) rfl ?_));
        (all_goals refine RS.pv (PV.all tab_ok rfl) rfl ?_);
        (all_goals refine RS.nil ?_))
    | refine CS.ret ?_
    | refine thenQ.ret ?_
    | refine blkQ.ret ?_
    | refine retQ.ret ?_
    | refine CS.block ?_
    | refine CS.exit ?_
    | refine thenQ.exit ?_
    | refine blkQ.normal ?_
    | refine blkQ.here ?_
    | refine blkQ.past rfl ?_
    | refine retQ.normal ?_)
  replace hma := hi4.blk _ _ hma
  replace hmb := hi4.blk _ _ hmb
  have hmn' : ∀ a, a ∈ names ↔ a ∈ A.map nm ∨ a ∈ B.map nm := fun a => (hmn a).trans (hk2 a)
  clear hmn hk2
  refine CS.loop [0, 4, 11, 12, 16, 49, 50, 51] (fun m vs i' L' => ∃ (k : Nat) (O : SH) (oa : Option Addr) (oc : Nat), m = names.length - k ∧ k ≤ names.length ∧ SlO 85 (.slice oa ((names.take (k)).filterMap (diffAt of_ nm sm A B)).length oc) 3 ((names.take (k)).filterMap (diffAt of_ nm sm A B)).length (diffs (((names.take (k)).filterMap (diffAt of_ nm sm A B)))) O ∧ vs = [.int .i64 of_, .func (.func sf) #[] #[], .map (some ma), .map (some mb), .slice oa ((names.take (k)).filterMap (diffAt of_ nm sm A B)).length oc, .slice na names.length nc, .int .i64 names.length, .int .i64 k] ∧ L' = O ++ ([(p, .cells (List.toArray [.map (some bn)]) 72 (0, 0)), (bn, .map (entV zs) c2)] ++ L)) names.length ⟨0, [], none, 0, rfl, Nat.zero_le _, SlO.nil 85 3, rfl, rfl⟩ ?_
  rintro m g3 vs i' L' hi3 ⟨k, O, oa, oc, rfl, hk, hO, rfl, rfl⟩
  replace hma := hi3.blk _ _ hma
  replace hmb := hi3.blk _ _ hmb
  by_cases hlt : k < names.length
  · obtain ⟨b1, o1, c1, t1, z1, p1, e1, g1, h1⟩ := (hsn.le hi3).at hlt (by omega)
    cases e1
    obtain ⟨a, ha⟩ : ∃ a, names[k]? = some a := ⟨_, List.getElem?_eq_getElem hlt⟩
    have q1 := h1 0 (by omega)
    rw [strs_at, ha] at q1
    have hdl := take_filterMap_len (f := diffAt of_ nm sm A B) hk
    have hnx := take_filterMap (f := diffAt of_ nm sm A B) ha
    have hgA := hMA.get a
    have hgB := hMB.get a
    cases hfA : firstE nm A a with
    | none =>
      replace hgA : mget ms a = none := by rw [hgA, hfA]; rfl
      cases hfB : firstE nm B a with
      | none =>
        replace hgB : mget ns a = none := by rw [hgB, hfB]; rfl
        repeat' (first
          | refine CS.seq ?_
          | refine thenQ.normal ?_
          | refine CS.cond_true rfl ?_
          | refine CS.cond_false rfl ?_
          | refine CS.skip ?_
          | (refine CS.region (id := 13) ?_;
              (first | refine RS.pv (PV.lssT rfl rfl (by omega)) rfl ?_ | refine RS.pv (PV.lssF rfl rfl (by omega)) rfl ?_ | refine RS.ifLss rfl rfl rfl (fun h => ?_) (fun h => ?_));
              (all_goals refine RS.nil ?_))
          | (refine CS.region (id := 14) ?_;
              (first | refine RS.pv (PV.indexAddr tab_ok rfl rfl rfl (by omega)) rfl ?_ | refine RS.pv (PV.indexAddrA tab_ok rfl rfl rfl (by omega)) rfl ?_);
              refine RS.lv (LV.load1 tab_ok rfl (Has.imm g1) rfl q1) rfl ?_;
              (all_goals refine RS.pv (PV.all tab_ok rfl) rfl ?_);
              (all_goals refine RS.nil ?_))
          | (refine CS.region (id := 15) ?_;
              refine RS.pv (PV.all tab_ok rfl) rfl ?_;
              refine RS.pv (PV.all tab_ok rfl) rfl ?_;
              refine RS.lv (LV.lookupVn tab_ok rfl rfl ⟨_, rfl, rfl⟩ ⟨_, rfl, rfl⟩ Try.zeroValue124 (Has.imm hma) hgA) rfl ?_;
              (all_goals refine RS.pv (PV.all tab_ok rfl) rfl ?_);
              (all_goals refine RS.pv (PV.all tab_ok rfl) rfl ?_);
              (all_goals refine RS.pv (PV.all tab_ok rfl) rfl ?_);
              (all_goals refine RS.alloc tab_ok rfl rfl (fun bx => ?_));
              (all_goals (refine RS.storeW (k := 0) tab_ok rfl rfl rfl rfl rfl nofun rfl ?_; refine RS.freeze (fun i6 hi6 hbx => ?_); have hmb' := hi6.blk _ _ hmb));
              (all_goals refine RS.pv (PV.all tab_ok rfl) rfl ?_);
              (all_goals refine RS.nil ?_))
          | (refine CS.region (id := 16) ?_;
              refine RS.pv (PV.all tab_ok rfl) rfl ?_;
              refine RS.pv (PV.all tab_ok rfl) rfl ?_;
              refine RS.lv (LV.lookupVn tab_ok rfl rfl ⟨_, rfl, rfl⟩ ⟨_, rfl, rfl⟩ Try.zeroValue124 (Has.imm hmb') hgB) rfl ?_;
              (all_goals refine RS.pv (PV.all tab_ok rfl) rfl ?_);
              (all_goals refine RS.pv (PV.all tab_ok rfl) rfl ?_);
              (all_goals refine RS.pv (PV.all tab_ok rfl) rfl ?_);
              (all_goals refine RS.alloc tab_ok rfl rfl (fun b_y => ?_));
              (all_goals (refine RS.storeW (k := 0) tab_ok rfl rfl rfl rfl rfl nofun rfl ?_; refine RS.freeze (fun i7 hi7 hby => ?_)));
              (all_goals refine RS.pv (PV.all tab_ok rfl) rfl ?_);
              (all_goals refine RS.nil ?_))
          | (refine CS.region (id := 17) ?_;
              refine RS.pv (PV.all tab_ok rfl) rfl ?_;
              refine RS.nil ?_)
          | (refine CS.region (id := 18) ?_;
              refine RS.pv (PV.all tab_ok rfl) rfl ?_;
              refine RS.pv (PV.all tab_ok rfl) rfl ?_;
              refine RS.pv (PV.all tab_ok rfl) rfl ?_;
              refine RS.nil ?_)
          | (refine CS.region (id := 19) ?_;
              refine RS.pv (PV.all tab_ok rfl) rfl ?_;
              refine RS.nil ?_)
          | (refine CS.region (id := 24) ?_;
              refine RS.pv (PV.all tab_ok rfl) rfl ?_;
              (first | refine RS.pv (PV.gtrT rfl rfl (by omega)) rfl ?_ | refine RS.pv (PV.gtrF rfl rfl (by omega)) rfl ?_ | refine RS.ifGtr rfl rfl rfl (fun h => ?_) (fun h => ?_));
              (all_goals refine RS.nil ?_))
          | (refine CS.region (id := 25) ?_;
              refine RS.pv (PV.all tab_ok rfl) rfl ?_;
              refine RS.pv (PV.all tab_ok rfl) rfl ?_;
              refine RS.pv (PV.all tab_ok rfl) rfl ?_;
              refine RS.pv (PV.all tab_ok rfl) rfl ?_;
              refine RS.pv (PV.all tab_ok rfl) rfl ?_;
              refine RS.buildSliceF tab_ok 3 rfl rfl rfl (fun bb i9 hi9 hbs => ?_);
              (all_goals (refine RS.append tab_ok (sz := 3) (bytes := 32) (k := ((names.take k).filterMap (diffAt of_ nm sm A B)).length) (m := 1) (xs := diffs (((names.take k).filterMap (diffAt of_ nm sm A B)))) (news := [.int .i64 of_, .int .i64 1, .string a]) rfl rfl rfl ⟨_, rfl, rfl⟩ ⟨_, rfl, rfl, rfl⟩ (by omega) hO rfl (hbs.rd _) (by intro c hc; simp at hc; rcases hc with rfl | rfl | rfl <;> rfl) (by omega) (by omega) ?_; intro v' O' hO' hnil; obtain ⟨ao', cap', rfl⟩ := SlO.shape hO'));
              (all_goals refine RS.pv (PV.all tab_ok rfl) rfl ?_);
              (all_goals refine RS.nil ?_))
          | (refine CS.region (id := 26) ?_;
              refine RS.pv (PV.add rfl rfl (by omega)) rfl ?_;
              refine RS.pv (PV.all tab_ok rfl) rfl ?_;
              refine RS.nil ?_)
          | refine CS.ret ?_
          | refine thenQ.ret ?_
          | refine blkQ.ret ?_
          | refine retQ.ret ?_
          | refine CS.block ?_
          | refine CS.exit ?_
          | refine thenQ.exit ?_
          | refine blkQ.normal ?_
          | refine blkQ.here ?_
          | refine blkQ.past rfl ?_
          | refine retQ.normal ?_)
        have e : ((names.take (k + 1)).filterMap (diffAt of_ nm sm A B)) = ((names.take k).filterMap (diffAt of_ nm sm A B)) ++ [⟨of_, 1, a⟩] := by rw [hnx, diffAt_l hfA]; rfl
        have el : ((names.take (k + 1)).filterMap (diffAt of_ nm sm A B)).length = ((names.take k).filterMap (diffAt of_ nm sm A B)).length + 1 := by rw [e, List.length_append]; rfl
        exact ⟨names.length - (k + 1), by omega, k + 1, O', ao', cap', rfl, hlt, by rw [el, e, diffs_snoc]; exact hO', by rw [el]; rfl, rfl⟩
      | some y =>
        replace hgB : mget ns a = some (.agg (List.toArray (cl y))) := by rw [hgB, hfB]; rfl
        have hy0 : 3 = (cl y).length := (hB.len y (firstE_mem hfB).1).symm
        have hy1 : cl y ≠ [] := fun h => by rw [h] at hy0; cases hy0
        have hy2 : okStore tab 124 (cl y) = true := by
          show (Nat.beq (cl y).length 3 && (cl y).all (·.oneCell')) = true
          rw [← hy0, List.all_eq_true.2 (hB.one y (firstE_mem hfB).1)]; rfl
        repeat' (first
          | refine CS.seq ?_
          | refine thenQ.normal ?_
          | refine CS.cond_true rfl ?_
          | refine CS.cond_false rfl ?_
          | refine CS.skip ?_
          | (refine CS.region (id := 13) ?_;
              (first | refine RS.pv (PV.lssT rfl rfl (by omega)) rfl ?_ | refine RS.pv (PV.lssF rfl rfl (by omega)) rfl ?_ | refine RS.ifLss rfl rfl rfl (fun h => ?_) (fun h => ?_));
              (all_goals refine RS.nil ?_))
          | (refine CS.region (id := 14) ?_;
              (first | refine RS.pv (PV.indexAddr tab_ok rfl rfl rfl (by omega)) rfl ?_ | refine RS.pv (PV.indexAddrA tab_ok rfl rfl rfl (by omega)) rfl ?_);
              refine RS.lv (LV.load1 tab_ok rfl (Has.imm g1) rfl q1) rfl ?_;
              (all_goals refine RS.pv (PV.all tab_ok rfl) rfl ?_);
              (all_goals refine RS.nil ?_))
          | (refine CS.region (id := 15) ?_;
              refine RS.pv (PV.all tab_ok rfl) rfl ?_;
              refine RS.pv (PV.all tab_ok rfl) rfl ?_;
              refine RS.lv (LV.lookupVn tab_ok rfl rfl ⟨_, rfl, rfl⟩ ⟨_, rfl, rfl⟩ Try.zeroValue124 (Has.imm hma) hgA) rfl ?_;
              (all_goals refine RS.pv (PV.all tab_ok rfl) rfl ?_);
              (all_goals refine RS.pv (PV.all tab_ok rfl) rfl ?_);
              (all_goals refine RS.pv (PV.all tab_ok rfl) rfl ?_);
              (all_goals refine RS.alloc tab_ok rfl rfl (fun bx => ?_));
              (all_goals (refine RS.storeW (k := 0) tab_ok rfl rfl rfl rfl rfl nofun rfl ?_; refine RS.freeze (fun i6 hi6 hbx => ?_); have hmb' := hi6.blk _ _ hmb));
              (all_goals refine RS.pv (PV.all tab_ok rfl) rfl ?_);
              (all_goals refine RS.nil ?_))
          | (refine CS.region (id := 16) ?_;
              refine RS.pv (PV.all tab_ok rfl) rfl ?_;
              refine RS.pv (PV.all tab_ok rfl) rfl ?_;
              refine RS.lv (LV.lookupVs tab_ok rfl rfl ⟨_, rfl, rfl⟩ ⟨_, rfl, rfl⟩ Try.zeroValue124 (Has.imm hmb') hgB) rfl ?_;
              (all_goals refine RS.pv (PV.all tab_ok rfl) rfl ?_);
              (all_goals refine RS.pv (PV.all tab_ok rfl) rfl ?_);
              (all_goals refine RS.pv (PV.all tab_ok rfl) rfl ?_);
              (all_goals refine RS.alloc tab_ok rfl rfl (fun b_y => ?_));
              (all_goals (refine RS.storeW (k := 0) tab_ok rfl rfl rfl rfl hy0 hy1 hy2 ?_; refine RS.freeze (fun i7 hi7 hby => ?_)));
              (all_goals refine RS.pv (PV.all tab_ok rfl) rfl ?_);
              (all_goals refine RS.nil ?_))
          | (refine CS.region (id := 17) ?_;
              refine RS.pv (PV.all tab_ok rfl) rfl ?_;
              refine RS.nil ?_)
          | (refine CS.region (id := 18) ?_;
              refine RS.pv (PV.all tab_ok rfl) rfl ?_;
              refine RS.pv (PV.all tab_ok rfl) rfl ?_;
              refine RS.pv (PV.all tab_ok rfl) rfl ?_;
              refine RS.nil ?_)
          | (refine CS.region (id := 19) ?_;
              refine RS.pv (PV.all tab_ok rfl) rfl ?_;
              refine RS.nil ?_)
          | (refine CS.region (id := 24) ?_;
              refine RS.pv (PV.all tab_ok rfl) rfl ?_;
              (first | refine RS.pv (PV.gtrT rfl rfl (by omega)) rfl ?_ | refine RS.pv (PV.gtrF rfl rfl (by omega)) rfl ?_ | refine RS.ifGtr rfl rfl rfl (fun h => ?_) (fun h => ?_));
              (all_goals refine RS.nil ?_))
          | (refine CS.region (id := 25) ?_;
              refine RS.pv (PV.all tab_ok rfl) rfl ?_;
              refine RS.pv (PV.all tab_ok rfl) rfl ?_;
              refine RS.pv (PV.all tab_ok rfl) rfl ?_;
              refine RS.pv (PV.all tab_ok rfl) rfl ?_;
              refine RS.pv (PV.all tab_ok rfl) rfl ?_;
              refine RS.buildSliceF tab_ok 3 rfl rfl rfl (fun bb i9 hi9 hbs => ?_);
              (all_goals (refine RS.append tab_ok (sz := 3) (bytes := 32) (k := ((names.take k).filterMap (diffAt of_ nm sm A B)).length) (m := 1) (xs := diffs (((names.take k).filterMap (diffAt of_ nm sm A B)))) (news := [.int .i64 of_, .int .i64 1, .string a]) rfl rfl rfl ⟨_, rfl, rfl⟩ ⟨_, rfl, rfl, rfl⟩ (by omega) hO rfl (hbs.rd _) (by intro c hc; simp at hc; rcases hc with rfl | rfl | rfl <;> rfl) (by omega) (by omega) ?_; intro v' O' hO' hnil; obtain ⟨ao', cap', rfl⟩ := SlO.shape hO'));
              (all_goals refine RS.pv (PV.all tab_ok rfl) rfl ?_);
              (all_goals refine RS.nil ?_))
          | (refine CS.region (id := 26) ?_;
              refine RS.pv (PV.add rfl rfl (by omega)) rfl ?_;
              refine RS.pv (PV.all tab_ok rfl) rfl ?_;
              refine RS.nil ?_)
          | refine CS.ret ?_
          | refine thenQ.ret ?_
          | refine blkQ.ret ?_
          | refine retQ.ret ?_
          | refine CS.block ?_
          | refine CS.exit ?_
          | refine thenQ.exit ?_
          | refine blkQ.normal ?_
          | refine blkQ.here ?_
          | refine blkQ.past rfl ?_
          | refine retQ.normal ?_)
        have e : ((names.take (k + 1)).filterMap (diffAt of_ nm sm A B)) = ((names.take k).filterMap (diffAt of_ nm sm A B)) ++ [⟨of_, 1, a⟩] := by rw [hnx, diffAt_l hfA]; rfl
        have el : ((names.take (k + 1)).filterMap (diffAt of_ nm sm A B)).length = ((names.take k).filterMap (diffAt of_ nm sm A B)).length + 1 := by rw [e, List.length_append]; rfl
        exact ⟨names.length - (k + 1), by omega, k + 1, O', ao', cap', rfl, hlt, by rw [el, e, diffs_snoc]; exact hO', by rw [el]; rfl, rfl⟩
    | some x =>
      replace hgA : mget ms a = some (.agg (List.toArray (cl x))) := by rw [hgA, hfA]; rfl
      have hx0 : 3 = (cl x).length := (hA.len x (firstE_mem hfA).1).symm
      have hx1 : cl x ≠ [] := fun h => by rw [h] at hx0; cases hx0
      have hx2 : okStore tab 124 (cl x) = true := by
        show (Nat.beq (cl x).length 3 && (cl x).all (·.oneCell')) = true
        rw [← hx0, List.all_eq_true.2 (hA.one x (firstE_mem hfA).1)]; rfl
      cases hfB : firstE nm B a with
      | none =>
        replace hgB : mget ns a = none := by rw [hgB, hfB]; rfl
        repeat' (first
          | refine CS.seq ?_
          | refine thenQ.normal ?_
          | refine CS.cond_true rfl ?_
          | refine CS.cond_false rfl ?_
          | refine CS.skip ?_
          | (refine CS.region (id := 13) ?_;
              (first | refine RS.pv (PV.lssT rfl rfl (by omega)) rfl ?_ | refine RS.pv (PV.lssF rfl rfl (by omega)) rfl ?_ | refine RS.ifLss rfl rfl rfl (fun h => ?_) (fun h => ?_));
              (all_goals refine RS.nil ?_))
          | (refine CS.region (id := 14) ?_;
              (first | refine RS.pv (PV.indexAddr tab_ok rfl rfl rfl (by omega)) rfl ?_ | refine RS.pv (PV.indexAddrA tab_ok rfl rfl rfl (by omega)) rfl ?_);
              refine RS.lv (LV.load1 tab_ok rfl (Has.imm g1) rfl q1) rfl ?_;
              (all_goals refine RS.pv (PV.all tab_ok rfl) rfl ?_);
              (all_goals refine RS.nil ?_))
          | (refine CS.region (id := 15) ?_;
              refine RS.pv (PV.all tab_ok rfl) rfl ?_;
              refine RS.pv (PV.all tab_ok rfl) rfl ?_;
              refine RS.lv (LV.lookupVs tab_ok rfl rfl ⟨_, rfl, rfl⟩ ⟨_, rfl, rfl⟩ Try.zeroValue124 (Has.imm hma) hgA) rfl ?_;
              (all_goals refine RS.pv (PV.all tab_ok rfl) rfl ?_);
              (all_goals refine RS.pv (PV.all tab_ok rfl) rfl ?_);
              (all_goals refine RS.pv (PV.all tab_ok rfl) rfl ?_);
              (all_goals refine RS.alloc tab_ok rfl rfl (fun bx => ?_));
              (all_goals (refine RS.storeW (k := 0) tab_ok rfl rfl rfl rfl hx0 hx1 hx2 ?_; refine RS.freeze (fun i6 hi6 hbx => ?_); have hmb' := hi6.blk _ _ hmb));
              (all_goals refine RS.pv (PV.all tab_ok rfl) rfl ?_);
              (all_goals refine RS.nil ?_))
          | (refine CS.region (id := 16) ?_;
              refine RS.pv (PV.all tab_ok rfl) rfl ?_;
              refine RS.pv (PV.all tab_ok rfl) rfl ?_;
              refine RS.lv (LV.lookupVn tab_ok rfl rfl ⟨_, rfl, rfl⟩ ⟨_, rfl, rfl⟩ Try.zeroValue124 (Has.imm hmb') hgB) rfl ?_;
              (all_goals refine RS.pv (PV.all tab_ok rfl) rfl ?_);
              (all_goals refine RS.pv (PV.all tab_ok rfl) rfl ?_);
              (all_goals refine RS.pv (PV.all tab_ok rfl) rfl ?_);
              (all_goals refine RS.alloc tab_ok rfl rfl (fun b_y => ?_));
              (all_goals (refine RS.storeW (k := 0) tab_ok rfl rfl rfl rfl rfl nofun rfl ?_; refine RS.freeze (fun i7 hi7 hby => ?_)));
              (all_goals refine RS.pv (PV.all tab_ok rfl) rfl ?_);
              (all_goals refine RS.nil ?_))
          | (refine CS.region (id := 17) ?_;
              refine RS.pv (PV.all tab_ok rfl) rfl ?_;
              refine RS.nil ?_)
          | (refine CS.region (id := 18) ?_;
              refine RS.pv (PV.all tab_ok rfl) rfl ?_;
              refine RS.pv (PV.all tab_ok rfl) rfl ?_;
              refine RS.pv (PV.all tab_ok rfl) rfl ?_;
              refine RS.nil ?_)
          | (refine CS.region (id := 19) ?_;
              refine RS.pv (PV.all tab_ok rfl) rfl ?_;
              refine RS.nil ?_)
          | (refine CS.region (id := 20) ?_;
              refine RS.pv (PV.all tab_ok rfl) rfl ?_;
              refine RS.pv (PV.all tab_ok rfl) rfl ?_;
              refine RS.pv (PV.all tab_ok rfl) rfl ?_;
              refine RS.nil ?_)
          | (refine CS.region (id := 21) ?_;
              refine RS.pv (PV.all tab_ok rfl) rfl ?_;
              refine RS.nil ?_)
          | (refine CS.region (id := 24) ?_;
              refine RS.pv (PV.all tab_ok rfl) rfl ?_;
              (first | refine RS.pv (PV.gtrT rfl rfl (by omega)) rfl ?_ | refine RS.pv (PV.gtrF rfl rfl (by omega)) rfl ?_ | refine RS.ifGtr rfl rfl rfl (fun h => ?_) (fun h => ?_));
              (all_goals refine RS.nil ?_))
          | (refine CS.region (id := 25) ?_;
              refine RS.pv (PV.all tab_ok rfl) rfl ?_;
              refine RS.pv (PV.all tab_ok rfl) rfl ?_;
              refine RS.pv (PV.all tab_ok rfl) rfl ?_;
              refine RS.pv (PV.all tab_ok rfl) rfl ?_;
              refine RS.pv (PV.all tab_ok rfl) rfl ?_;
              refine RS.buildSliceF tab_ok 3 rfl rfl rfl (fun bb i9 hi9 hbs => ?_);
              (all_goals (refine RS.append tab_ok (sz := 3) (bytes := 32) (k := ((names.take k).filterMap (diffAt of_ nm sm A B)).length) (m := 1) (xs := diffs (((names.take k).filterMap (diffAt of_ nm sm A B)))) (news := [.int .i64 of_, .int .i64 2, .string a]) rfl rfl rfl ⟨_, rfl, rfl⟩ ⟨_, rfl, rfl, rfl⟩ (by omega) hO rfl (hbs.rd _) (by intro c hc; simp at hc; rcases hc with rfl | rfl | rfl <;> rfl) (by omega) (by omega) ?_; intro v' O' hO' hnil; obtain ⟨ao', cap', rfl⟩ := SlO.shape hO'));
              (all_goals refine RS.pv (PV.all tab_ok rfl) rfl ?_);
              (all_goals refine RS.nil ?_))
          | (refine CS.region (id := 26) ?_;
              refine RS.pv (PV.add rfl rfl (by omega)) rfl ?_;
              refine RS.pv (PV.all tab_ok rfl) rfl ?_;
              refine RS.nil ?_)
          | refine CS.ret ?_
          | refine thenQ.ret ?_
          | refine blkQ.ret ?_
          | refine retQ.ret ?_
          | refine CS.block ?_
          | refine CS.exit ?_
          | refine thenQ.exit ?_
          | refine blkQ.normal ?_
          | refine blkQ.here ?_
          | refine blkQ.past rfl ?_
          | refine retQ.normal ?_)
        have e : ((names.take (k + 1)).filterMap (diffAt of_ nm sm A B)) = ((names.take k).filterMap (diffAt of_ nm sm A B)) ++ [⟨of_, 2, a⟩] := by rw [hnx, diffAt_m hfA hfB]; rfl
        have el : ((names.take (k + 1)).filterMap (diffAt of_ nm sm A B)).length = ((names.take k).filterMap (diffAt of_ nm sm A B)).length + 1 := by rw [e, List.length_append]; rfl
        exact ⟨names.length - (k + 1), by omega, k + 1, O', ao', cap', rfl, hlt, by rw [el, e, diffs_snoc]; exact hO', by rw [el]; rfl, rfl⟩
      | some y =>
        replace hgB : mget ns a = some (.agg (List.toArray (cl y))) := by rw [hgB, hfB]; rfl
        have hy0 : 3 = (cl y).length := (hB.len y (firstE_mem hfB).1).symm
        have hy1 : cl y ≠ [] := fun h => by rw [h] at hy0; cases hy0
        have hy2 : okStore tab 124 (cl y) = true := by
          show (Nat.beq (cl y).length 3 && (cl y).all (·.oneCell')) = true
          rw [← hy0, List.all_eq_true.2 (hB.one y (firstE_mem hfB).1)]; rfl
        have hsx := hsm x (firstE_mem hfA).1 y (firstE_mem hfB).1
        cases hsb : sm x y with
        | true =>
          rw [hsb] at hsx
          repeat' (first
            | refine CS.seq ?_
            | refine thenQ.normal ?_
            | refine CS.cond_true rfl ?_
            | refine CS.cond_false rfl ?_
            | refine CS.skip ?_
            | (refine CS.region (id := 13) ?_;
                (first | refine RS.pv (PV.lssT rfl rfl (by omega)) rfl ?_ | refine RS.pv (PV.lssF rfl rfl (by omega)) rfl ?_ | refine RS.ifLss rfl rfl rfl (fun h => ?_) (fun h => ?_));
                (all_goals refine RS.nil ?_))
            | (refine CS.region (id := 14) ?_;
                (first | refine RS.pv (PV.indexAddr tab_ok rfl rfl rfl (by omega)) rfl ?_ | refine RS.pv (PV.indexAddrA tab_ok rfl rfl rfl (by omega)) rfl ?_);
                refine RS.lv (LV.load1 tab_ok rfl (Has.imm g1) rfl q1) rfl ?_;
                (all_goals refine RS.pv (PV.all tab_ok rfl) rfl ?_);
                (all_goals refine RS.nil ?_))
            | (refine CS.region (id := 15) ?_;
                refine RS.pv (PV.all tab_ok rfl) rfl ?_;
                refine RS.pv (PV.all tab_ok rfl) rfl ?_;
                refine RS.lv (LV.lookupVs tab_ok rfl rfl ⟨_, rfl, rfl⟩ ⟨_, rfl, rfl⟩ Try.zeroValue124 (Has.imm hma) hgA) rfl ?_;
                (all_goals refine RS.pv (PV.all tab_ok rfl) rfl ?_);
                (all_goals refine RS.pv (PV.all tab_ok rfl) rfl ?_);
                (all_goals refine RS.pv (PV.all tab_ok rfl) rfl ?_);
                (all_goals refine RS.alloc tab_ok rfl rfl (fun bx => ?_));
                (all_goals (refine RS.storeW (k := 0) tab_ok rfl rfl rfl rfl hx0 hx1 hx2 ?_; refine RS.freeze (fun i6 hi6 hbx => ?_); have hmb' := hi6.blk _ _ hmb));
                (all_goals refine RS.pv (PV.all tab_ok rfl) rfl ?_);
                (all_goals refine RS.nil ?_))
            | (refine CS.region (id := 16) ?_;
                refine RS.pv (PV.all tab_ok rfl) rfl ?_;
                refine RS.pv (PV.all tab_ok rfl) rfl ?_;
                refine RS.lv (LV.lookupVs tab_ok rfl rfl ⟨_, rfl, rfl⟩ ⟨_, rfl, rfl⟩ Try.zeroValue124 (Has.imm hmb') hgB) rfl ?_;
                (all_goals refine RS.pv (PV.all tab_ok rfl) rfl ?_);
                (all_goals refine RS.pv (PV.all tab_ok rfl) rfl ?_);
                (all_goals refine RS.pv (PV.all tab_ok rfl) rfl ?_);
                (all_goals refine RS.alloc tab_ok rfl rfl (fun b_y => ?_));
                (all_goals (refine RS.storeW (k := 0) tab_ok rfl rfl rfl rfl hy0 hy1 hy2 ?_; refine RS.freeze (fun i7 hi7 hby => ?_)));
                (all_goals refine RS.pv (PV.all tab_ok rfl) rfl ?_);
                (all_goals refine RS.nil ?_))
            | (refine CS.region (id := 17) ?_;
                refine RS.pv (PV.all tab_ok rfl) rfl ?_;
                refine RS.nil ?_)
            | (refine CS.region (id := 18) ?_;
                refine RS.pv (PV.all tab_ok rfl) rfl ?_;
                refine RS.pv (PV.all tab_ok rfl) rfl ?_;
                refine RS.pv (PV.all tab_ok rfl) rfl ?_;
                refine RS.nil ?_)
            | (refine CS.region (id := 19) ?_;
                refine RS.pv (PV.all tab_ok rfl) rfl ?_;
                refine RS.nil ?_)
            | (refine CS.region (id := 20) ?_;
                refine RS.pv (PV.all tab_ok rfl) rfl ?_;
                refine RS.pv (PV.all tab_ok rfl) rfl ?_;
                refine RS.pv (PV.all tab_ok rfl) rfl ?_;
                refine RS.nil ?_)
            | (refine CS.region (id := 21) ?_;
                refine RS.pv (PV.all tab_ok rfl) rfl ?_;
                refine RS.nil ?_)
            | (refine CS.region (id := 22) ?_;
                refine RS.pv (PV.all tab_ok rfl) rfl ?_;
                refine RS.lv (LV.loadL tab_ok rfl (Has.imm (hi7.blk _ _ hbx)) (l := cl x) rfl rfl (hA.len x (firstE_mem hfA).1) (fun d u hu => by rw [Nat.zero_add]; exact hu)) rfl ?_;
                (all_goals refine RS.lv (LV.loadL tab_ok rfl (Has.imm hby) (l := cl y) rfl rfl (hB.len y (firstE_mem hfB).1) (fun d u hu => by rw [Nat.zero_add]; exact hu)) rfl ?_);
                (all_goals (refine RS.callV (hsx _ _ (((((hi1.trans hi2).trans hi4).trans hi3).trans hi6).trans hi7)) rfl rfl hsf rfl ?_; rintro v i8 L8 hi8 ⟨rfl, rfl⟩));
                (all_goals refine RS.pv (PV.all tab_ok rfl) rfl ?_);
                (all_goals refine RS.pv (PV.all tab_ok rfl) rfl ?_);
                (all_goals refine RS.nil ?_))
            | (refine CS.region (id := 24) ?_;
                refine RS.pv (PV.all tab_ok rfl) rfl ?_;
                (first | refine RS.pv (PV.gtrT rfl rfl (by omega)) rfl ?_ | refine RS.pv (PV.gtrF rfl rfl (by omega)) rfl ?_ | refine RS.ifGtr rfl rfl rfl (fun h => ?_) (fun h => ?_));
                (all_goals refine RS.nil ?_))
            | (refine CS.region (id := 26) ?_;
                refine RS.pv (PV.add rfl rfl (by omega)) rfl ?_;
                refine RS.pv (PV.all tab_ok rfl) rfl ?_;
                refine RS.nil ?_)
            | refine CS.ret ?_
            | refine thenQ.ret ?_
            | refine blkQ.ret ?_
            | refine retQ.ret ?_
            | refine CS.block ?_
            | refine CS.exit ?_
            | refine thenQ.exit ?_
            | refine blkQ.normal ?_
            | refine blkQ.here ?_
            | refine blkQ.past rfl ?_
            | refine retQ.normal ?_)
          have e : ((names.take (k + 1)).filterMap (diffAt of_ nm sm A B)) = ((names.take k).filterMap (diffAt of_ nm sm A B)) := by rw [hnx, diffAt_s hfA hfB hsb]; simp
          exact ⟨names.length - (k + 1), by omega, k + 1, O, oa, oc, rfl, hlt, by rw [e]; exact hO, by rw [e]; rfl, rfl⟩
        | false =>
          rw [hsb] at hsx
          repeat' (first
            | refine CS.seq ?_
            | refine thenQ.normal ?_
            | refine CS.cond_true rfl ?_
            | refine CS.cond_false rfl ?_
            | refine CS.skip ?_
            | (refine CS.region (id := 13) ?_;
                (first | refine RS.pv (PV.lssT rfl rfl (by omega)) rfl ?_ | refine RS.pv (PV.lssF rfl rfl (by omega)) rfl ?_ | refine RS.ifLss rfl rfl rfl (fun h => ?_) (fun h => ?_));
                (all_goals refine RS.nil ?_))
            | (refine CS.region (id := 14) ?_;
                (first | refine RS.pv (PV.indexAddr tab_ok rfl rfl rfl (by omega)) rfl ?_ | refine RS.pv (PV.indexAddrA tab_ok rfl rfl rfl (by omega)) rfl ?_);
                refine RS.lv (LV.load1 tab_ok rfl (Has.imm g1) rfl q1) rfl ?_;
                (all_goals refine RS.pv (PV.all tab_ok rfl) rfl ?_);
                (all_goals refine RS.nil ?_))
            | (refine CS.region (id := 15) ?_;
                refine RS.pv (PV.all tab_ok rfl) rfl ?_;
                refine RS.pv (PV.all tab_ok rfl) rfl ?_;
                refine RS.lv (LV.lookupVs tab_ok rfl rfl ⟨_, rfl, rfl⟩ ⟨_, rfl, rfl⟩ Try.zeroValue124 (Has.imm hma) hgA) rfl ?_;
                (all_goals refine RS.pv (PV.all tab_ok rfl) rfl ?_);
                (all_goals refine RS.pv (PV.all tab_ok rfl) rfl ?_);
                (all_goals refine RS.pv (PV.all tab_ok rfl) rfl ?_);
                (all_goals refine RS.alloc tab_ok rfl rfl (fun bx => ?_));
                (all_goals (refine RS.storeW (k := 0) tab_ok rfl rfl rfl rfl hx0 hx1 hx2 ?_; refine RS.freeze (fun i6 hi6 hbx => ?_); have hmb' := hi6.blk _ _ hmb));
                (all_goals refine RS.pv (PV.all tab_ok rfl) rfl ?_);
                (all_goals refine RS.nil ?_))
            | (refine CS.region (id := 16) ?_;
                refine RS.pv (PV.all tab_ok rfl) rfl ?_;
                refine RS.pv (PV.all tab_ok rfl) rfl ?_;
                refine RS.lv (LV.lookupVs tab_ok rfl rfl ⟨_, rfl, rfl⟩ ⟨_, rfl, rfl⟩ Try.zeroValue124 (Has.imm hmb') hgB) rfl ?_;
                (all_goals refine RS.pv (PV.all tab_ok rfl) rfl ?_);
                (all_goals refine RS.pv (PV.all tab_ok rfl) rfl ?_);
                (all_goals refine RS.pv (PV.all tab_ok rfl) rfl ?_);
                (all_goals refine RS.alloc tab_ok rfl rfl (fun b_y => ?_));
                (all_goals (refine RS.storeW (k := 0) tab_ok rfl rfl rfl rfl hy0 hy1 hy2 ?_; refine RS.freeze (fun i7 hi7 hby => ?_)));
                (all_goals refine RS.pv (PV.all tab_ok rfl) rfl ?_);
                (all_goals refine RS.nil ?_))
            | (refine CS.region (id := 17) ?_;
                refine RS.pv (PV.all tab_ok rfl) rfl ?_;
                refine RS.nil ?_)
            | (refine CS.region (id := 18) ?_;
                refine RS.pv (PV.all tab_ok rfl) rfl ?_;
                refine RS.pv (PV.all tab_ok rfl) rfl ?_;
                refine RS.pv (PV.all tab_ok rfl) rfl ?_;
                refine RS.nil ?_)
            | (refine CS.region (id := 19) ?_;
                refine RS.pv (PV.all tab_ok rfl) rfl ?_;
                refine RS.nil ?_)
            | (refine CS.region (id := 20) ?_;
                refine RS.pv (PV.all tab_ok rfl) rfl ?_;
                refine RS.pv (PV.all tab_ok rfl) rfl ?_;
                refine RS.pv (PV.all tab_ok rfl) rfl ?_;
                refine RS.nil ?_)
            | (refine CS.region (id := 21) ?_;
                refine RS.pv (PV.all tab_ok rfl) rfl ?_;
                refine RS.nil ?_)
            | (refine CS.region (id := 22) ?_;
                refine RS.pv (PV.all tab_ok rfl) rfl ?_;
                refine RS.lv (LV.loadL tab_ok rfl (Has.imm (hi7.blk _ _ hbx)) (l := cl x) rfl rfl (hA.len x (firstE_mem hfA).1) (fun d u hu => by rw [Nat.zero_add]; exact hu)) rfl ?_;
                (all_goals refine RS.lv (LV.loadL tab_ok rfl (Has.imm hby) (l := cl y) rfl rfl (hB.len y (firstE_mem hfB).1) (fun d u hu => by rw [Nat.zero_add]; exact hu)) rfl ?_);
                (all_goals (refine RS.callV (hsx _ _ (((((hi1.trans hi2).trans hi4).trans hi3).trans hi6).trans hi7)) rfl rfl hsf rfl ?_; rintro v i8 L8 hi8 ⟨rfl, rfl⟩));
                (all_goals refine RS.pv (PV.all tab_ok rfl) rfl ?_);
                (all_goals refine RS.pv (PV.all tab_ok rfl) rfl ?_);
                (all_goals refine RS.nil ?_))
            | (refine CS.region (id := 23) ?_;
                refine RS.pv (PV.all tab_ok rfl) rfl ?_;
                refine RS.nil ?_)
            | (refine CS.region (id := 24) ?_;
                refine RS.pv (PV.all tab_ok rfl) rfl ?_;
                (first | refine RS.pv (PV.gtrT rfl rfl (by omega)) rfl ?_ | refine RS.pv (PV.gtrF rfl rfl (by omega)) rfl ?_ | refine RS.ifGtr rfl rfl rfl (fun h => ?_) (fun h => ?_));
                (all_goals refine RS.nil ?_))
            | (refine CS.region (id := 25) ?_;
                refine RS.pv (PV.all tab_ok rfl) rfl ?_;
                refine RS.pv (PV.all tab_ok rfl) rfl ?_;
                refine RS.pv (PV.all tab_ok rfl) rfl ?_;
                refine RS.pv (PV.all tab_ok rfl) rfl ?_;
                refine RS.pv (PV.all tab_ok rfl) rfl ?_;
                refine RS.buildSliceF tab_ok 3 rfl rfl rfl (fun bb i9 hi9 hbs => ?_);
                (all_goals (refine RS.append tab_ok (sz := 3) (bytes := 32) (k := ((names.take k).filterMap (diffAt of_ nm sm A B)).length) (m := 1) (xs := diffs (((names.take k).filterMap (diffAt of_ nm sm A B)))) (news := [.int .i64 of_, .int .i64 3, .string a]) rfl rfl rfl ⟨_, rfl, rfl⟩ ⟨_, rfl, rfl, rfl⟩ (by omega) hO rfl (hbs.rd _) (by intro c hc; simp at hc; rcases hc with rfl | rfl | rfl <;> rfl) (by omega) (by omega) ?_; intro v' O' hO' hnil; obtain ⟨ao', cap', rfl⟩ := SlO.shape hO'));
                (all_goals refine RS.pv (PV.all tab_ok rfl) rfl ?_);
                (all_goals refine RS.nil ?_))
            | (refine CS.region (id := 26) ?_;
                refine RS.pv (PV.add rfl rfl (by omega)) rfl ?_;
                refine RS.pv (PV.all tab_ok rfl) rfl ?_;
                refine RS.nil ?_)
            | refine CS.ret ?_
            | refine thenQ.ret ?_
            | refine blkQ.ret ?_
            | refine retQ.ret ?_
            | refine CS.block ?_
            | refine CS.exit ?_
            | refine thenQ.exit ?_
            | refine blkQ.normal ?_
            | refine blkQ.here ?_
            | refine blkQ.past rfl ?_
            | refine retQ.normal ?_)
          have e : ((names.take (k + 1)).filterMap (diffAt of_ nm sm A B)) = ((names.take k).filterMap (diffAt of_ nm sm A B)) ++ [⟨of_, 3, a⟩] := by rw [hnx, diffAt_o hfA hfB hsb]; rfl
          have el : ((names.take (k + 1)).filterMap (diffAt of_ nm sm A B)).length = ((names.take k).filterMap (diffAt of_ nm sm A B)).length + 1 := by rw [e, List.length_append]; rfl
          exact ⟨names.length - (k + 1), by omega, k + 1, O', ao', cap', rfl, hlt, by rw [el, e, diffs_snoc]; exact hO', by rw [el]; rfl, rfl⟩
  · have : k = names.length := by omega
    subst this
    repeat' (first
      | refine CS.seq ?_
      | refine thenQ.normal ?_
      | refine CS.cond_true rfl ?_
      | refine CS.cond_false rfl ?_
      | refine CS.skip ?_
      | (refine CS.region (id := 13) ?_;
          (first | refine RS.pv (PV.lssT rfl rfl (by omega)) rfl ?_ | refine RS.pv (PV.lssF rfl rfl (by omega)) rfl ?_ | refine RS.ifLss rfl rfl rfl (fun h => ?_) (fun h => ?_));
          (all_goals refine RS.nil ?_))
      | (refine CS.region (id := 27) ?_;
          refine RS.pv (PV.all tab_ok rfl) rfl ?_;
          refine RS.pv (PV.all tab_ok rfl) rfl ?_;
          refine RS.nil ?_)
      | refine CS.ret ?_
      | refine thenQ.ret ?_
      | refine blkQ.ret ?_
      | refine retQ.ret ?_
      | refine CS.block ?_
      | refine CS.exit ?_
      | refine thenQ.exit ?_
      | refine blkQ.normal ?_
      | refine blkQ.here ?_
      | refine blkQ.past rfl ?_
      | refine retQ.normal ?_)
    refine ⟨((names.take (names.length)).filterMap (diffAt of_ nm sm A B)), O, _, hO, rfl, ⟨names, hasc, hmn', by rw [List.take_length]⟩, ?_⟩
    have := take_filterMap_len (f := diffAt of_ nm sm A B) (Nat.le_refl names.length)
    omega
theorem Compare_72 {E : Type} (cl : E → List Value) (nm : E → ByteArray) (sm : E → E → Bool) (A B : List E) (of_ : Int) (sf : FuncId) (hsf : fnOk Try.prog sf = true) (va vb : Value) (i : Imm) (L : SH) (hA : ElsOk cl nm 2 A) (hB : ElsOk cl nm 2 B) (hsA : Sl i va 2 A.length (rowC cl A)) (hsB : Sl i vb 2 B.length (rowC cl B)) (hlA : A.length ≤ 10000000000) (hlB : B.length ≤ 10000000000)
    (hsm : ∀ x ∈ A, ∀ y ∈ B, ∀ i' L', i.le i' → FnS Try.prog sf [.agg (cl x).toArray, .agg (cl y).toArray] i' L' fun v _ L'' => v = .bool (sm x y) ∧ L'' = L') :
    FnS Try.prog 72 [.int .i64 of_, va, vb, .func (.func 73) #[] #[], .func (.func sf) #[] #[]] i L fun v i' L' => L' = L ∧ ∃ l, Sl i' v 3 l.length (diffs l) ∧ DiffOf of_ nm sm A B l ∧ l.length ≤ A.length + B.length := by
  refine FnS.state (K := fun v i' L' => ∃ l O M, SlO 85 v 3 l.length (diffs l) O ∧ L' = O ++ (M ++ L) ∧ DiffOf of_ nm sm A B l ∧ l.length ≤ A.length + B.length) ?_ ?_
  rotate_left
  · rintro v i' L' w _ hs ⟨l, O, M, hO, rfl, hd, hll⟩
    obtain ⟨i2, h1, h2, h3⟩ := hO.freeze hs
    exact ⟨i2, L, h1, h2.dropL, rfl, l, h3, hd, hll⟩
  obtain ⟨aa, ac, rfl, -⟩ := id hsA
  obtain ⟨ba, bc, rfl, -⟩ := id hsB
  refine FnS.intro1 Try.func72 rfl Try.ntmps72 (by simp) Try.results72 ?_
  repeat' (first
    | refine CS.seq ?_
    | refine thenQ.normal ?_
    | refine CS.cond_true rfl ?_
    | refine CS.cond_false rfl ?_
    | refine CS.skip ?_
    | (refine CS.region (id := 0) ?_;
        refine RS.pv (PV.all tab_ok rfl) rfl ?_;
        refine RS.nil ?_)
    | (refine CS.region (id := 1) ?_;
        refine RS.pv (PV.all tab_ok rfl) rfl ?_;
        refine RS.pv (PV.all tab_ok rfl) rfl ?_;
        (refine RS.call (First_97 cl nm A _ _ _ (fun e he => ⟨hA.len e he, hA.one e he, hA.name e he⟩) hsA (by omega)) rfl (by kernel_rfl) rfl ?_; rintro v i1 L1 hi1 ⟨hL1, ma, ms, ca, rfl, hma, hMA⟩; replace hL1 := hL1.symm; subst hL1);
        (all_goals refine RS.pv (PV.all tab_ok rfl) rfl ?_);
        (all_goals refine RS.pv (PV.all tab_ok rfl) rfl ?_);
        (all_goals (refine RS.call (First_97 cl nm B _ _ _ (fun e he => ⟨hB.len e he, hB.one e he, hB.name e he⟩) (hsB.le hi1) (by omega)) rfl (by kernel_rfl) rfl ?_; rintro v i2 L2 hi2 ⟨hL2, mb, ns, cb, rfl, hmb, hMB⟩; replace hL2 := hL2.symm; subst hL2));
        (all_goals refine RS.pv (PV.all tab_ok rfl) rfl ?_);
        (all_goals refine RS.pv (PV.all tab_ok rfl) rfl ?_);
        (all_goals refine RS.nil ?_))
    | (refine CS.region (id := 2) ?_;
        refine RS.makeMapV rfl (fun bn => ?_);
        (all_goals refine RS.pv (PV.all tab_ok rfl) rfl ?_);
        (all_goals refine RS.nil ?_))
    | (refine CS.region (id := 3) ?_;
        refine RS.pv (PV.all tab_ok rfl) rfl ?_;
        refine RS.rangeM tab_ok rfl rfl ⟨_, rfl, rfl⟩ (Has.imm (hi2.blk _ _ hma)) (fun it => ?_);
        (all_goals refine RS.nil ?_))
    | refine CS.ret ?_
    | refine thenQ.ret ?_
    | refine blkQ.ret ?_
    | refine retQ.ret ?_
    | refine CS.block ?_
    | refine CS.exit ?_
    | refine thenQ.exit ?_
    | refine blkQ.normal ?_
    | refine blkQ.here ?_
    | refine blkQ.past rfl ?_
    | refine retQ.normal ?_)
  replace hma := hi2.blk _ _ hma
  refine CS.loop [0, 4, 11, 12, 13, 32] (fun m vs i' L' => ∃ (xs : List VE) (c : Nat) (seen : Array Nat), m = leftM ms seen ∧ SetInv (fun _ => False) ms ms.length xs c seen ∧ vs = [.int .i64 of_, .func (.func sf) #[] #[], .map (some ma), .map (some mb), .map (some bn), .pointer (some ⟨it, 0, none⟩)] ∧ i2 = i' ∧ L' = (it, .mapIter (some ma) ca seen ca) :: (bn, .map (entV xs) c) :: L) ms.length ⟨[], 0, #[], (leftM_nil ms).symm, ⟨MapOk.nil, by rw [leftM_nil]; simp, fun a => by simp⟩, rfl, rfl, rfl⟩ ?_
  rintro m g vs i' L' hi ⟨xs, c, seen, rfl, hinv, rfl, rfl, rfl⟩
  repeat' (first
    | refine CS.seq ?_
    | refine thenQ.normal ?_
    | refine CS.cond_true rfl ?_
    | refine CS.cond_false rfl ?_
    | refine CS.skip ?_
    | (refine CS.region (id := 4) ?_;
        refine RS.nextM (k := 0) rfl rfl rfl (Has.imm hma) hMA.ok.lt (Nat.le_refl _) (fun hall => ?_) (fun e he hne => ?_);
        (all_goals refine RS.pv (PV.all tab_ok rfl) rfl ?_);
        (all_goals refine RS.nil ?_))
    | (refine CS.region (id := 5) ?_;
        refine RS.lv (LV.entryM (k := 0) rfl rfl (Has.imm hma) hMA.ok he) rfl ?_;
        (all_goals refine RS.pv (PV.all tab_ok rfl) rfl ?_);
        (all_goals refine RS.pv (PV.all tab_ok rfl) rfl ?_);
        (all_goals refine RS.nil ?_))
    | (refine CS.region (id := 6) ?_;
        refine RS.pv (PV.all tab_ok rfl) rfl ?_;
        refine RS.pv (PV.all tab_ok rfl) rfl ?_;
        refine RS.mapPut (k := 1) (a := e.1) tab_ok rfl rfl rfl rfl ⟨_, rfl, rfl⟩ ⟨_, rfl, rfl⟩ rfl rfl ?_;
        (all_goals refine RS.nil ?_))
    | refine CS.ret ?_
    | refine thenQ.ret ?_
    | refine blkQ.ret ?_
    | refine retQ.ret ?_
    | refine CS.block ?_
    | refine CS.exit ?_
    | refine thenQ.exit ?_
    | refine blkQ.normal ?_
    | refine blkQ.here ?_
    | refine blkQ.past rfl ?_
    | refine retQ.normal ?_)
  rotate_left
  · exact ⟨_, leftM_push ms seen e he hne, _, _, _, rfl, hinv.step hMA.ok he hne _, rfl, rfl, rfl⟩
  have hk1 : ∀ a, a ∈ xs.map (fun e => e.1) ↔ a ∈ A.map nm := fun a => by rw [hinv.all hall a, hMA.keys a]; simp
  have hx1 : xs.length ≤ ms.length := by have := hinv.few; omega
  have hok1 := hinv.ok
  clear hinv hall
  refine CS.drop ?_
  repeat' (first
    | refine CS.seq ?_
    | refine thenQ.normal ?_
    | refine CS.cond_true rfl ?_
    | refine CS.cond_false rfl ?_
    | refine CS.skip ?_
    | (refine CS.region (id := 7) ?_;
        refine RS.pv (PV.all tab_ok rfl) rfl ?_;
        refine RS.rangeM tab_ok rfl rfl ⟨_, rfl, rfl⟩ (Has.imm hmb) (fun it2 => ?_);
        (all_goals refine RS.nil ?_))
    | refine CS.ret ?_
    | refine thenQ.ret ?_
    | refine blkQ.ret ?_
    | refine retQ.ret ?_
    | refine CS.block ?_
    | refine CS.exit ?_
    | refine thenQ.exit ?_
    | refine blkQ.normal ?_
    | refine blkQ.here ?_
    | refine blkQ.past rfl ?_
    | refine retQ.normal ?_)
  refine CS.loop [0, 4, 11, 12, 13, 40] (fun m vs i' L' => ∃ (zs : List VE) (c : Nat) (seen : Array Nat), m = leftM ns seen ∧ SetInv (fun a => a ∈ A.map nm) ns (ms.length + ns.length) zs c seen ∧ vs = [.int .i64 of_, .func (.func sf) #[] #[], .map (some ma), .map (some mb), .map (some bn), .pointer (some ⟨it2, 0, none⟩)] ∧ i2 = i' ∧ L' = (it2, .mapIter (some mb) cb seen cb) :: (bn, .map (entV zs) c) :: L) ns.length ⟨xs, c, #[], (leftM_nil ns).symm, ⟨hok1, by rw [leftM_nil]; omega, fun a => by rw [hk1 a]; simp⟩, rfl, rfl, rfl⟩ ?_
  rintro m g2 vs i' L' hi' ⟨zs, c2, seen2, rfl, hinv, rfl, rfl, rfl⟩
  repeat' (first
    | refine CS.seq ?_
    | refine thenQ.normal ?_
    | refine CS.cond_true rfl ?_
    | refine CS.cond_false rfl ?_
    | refine CS.skip ?_
    | (refine CS.region (id := 8) ?_;
        refine RS.nextM (k := 0) rfl rfl rfl (Has.imm hmb) hMB.ok.lt (Nat.le_refl _) (fun hall => ?_) (fun e he hne => ?_);
        (all_goals refine RS.pv (PV.all tab_ok rfl) rfl ?_);
        (all_goals refine RS.nil ?_))
    | (refine CS.region (id := 9) ?_;
        refine RS.lv (LV.entryM (k := 0) rfl rfl (Has.imm hmb) hMB.ok he) rfl ?_;
        (all_goals refine RS.pv (PV.all tab_ok rfl) rfl ?_);
        (all_goals refine RS.pv (PV.all tab_ok rfl) rfl ?_);
        (all_goals refine RS.nil ?_))
    | (refine CS.region (id := 10) ?_;
        refine RS.pv (PV.all tab_ok rfl) rfl ?_;
        refine RS.pv (PV.all tab_ok rfl) rfl ?_;
        refine RS.mapPut (k := 1) (a := e.1) tab_ok rfl rfl rfl rfl ⟨_, rfl, rfl⟩ ⟨_, rfl, rfl⟩ rfl rfl ?_;
        (all_goals refine RS.nil ?_))
    | refine CS.ret ?_
    | refine thenQ.ret ?_
    | refine blkQ.ret ?_
    | refine retQ.ret ?_
    | refine CS.block ?_
    | refine CS.exit ?_
    | refine thenQ.exit ?_
    | refine blkQ.normal ?_
    | refine blkQ.here ?_
    | refine blkQ.past rfl ?_
    | refine retQ.normal ?_)
  rotate_left
  · exact ⟨_, leftM_push ns seen2 e he hne, _, _, _, rfl, hinv.step hMB.ok he hne _, rfl, rfl, rfl⟩
  have hk2 : ∀ a, a ∈ zs.map (fun e => e.1) ↔ a ∈ A.map nm ∨ a ∈ B.map nm := fun a => by rw [hinv.all hall a, hMB.keys a]
  have hx2 : zs.length ≤ ms.length + ns.length := by have := hinv.few; omega
  have hfa := hMA.few
  have hfb := hMB.few
  have hok2 := hinv.ok
  clear hinv hall hk1 hx1 hok1
  have hsz : ∀ e ∈ zs, e.1.size ≤ maxLen := fun e he => by
    have h1 := (hk2 e.1).1 (List.mem_map.2 ⟨e, he, rfl⟩)
    rw [List.mem_map, List.mem_map] at h1
    rcases h1 with ⟨x, hx, hxe⟩ | ⟨x, hx, hxe⟩
    · rw [← hxe]; exact hA.size x hx
    · rw [← hxe]; exact hB.size x hx
  refine CS.drop ?_
  repeat' (first
    | refine CS.seq ?_
    | refine thenQ.normal ?_
    | refine CS.cond_true rfl ?_
    | refine CS.cond_false rfl ?_
    | refine CS.skip ?_
    | (refine CS.region (id := 11) ?_;
        refine RS.pv (PV.all tab_ok rfl) rfl ?_;
        refine RS.nil ?_)
    | (refine CS.region (id := 12) ?_;
        refine RS.pv (PV.all tab_ok rfl) rfl ?_;
        (refine RS.call (Keys_94 _ _ _) rfl (by kernel_rfl) rfl ?_; rintro v i3 L3 hi3 ⟨rfl, p, rfl, rfl⟩);
        (all_goals (refine RS.call (Sorted_93 p bn c2 zs _ _ (Has.own 0 rfl) (Has.own 1 rfl) hok2 (by omega) hsz) rfl (by kernel_rfl) rfl ?_; rintro v i4 L4 hi4 ⟨rfl, names, hsn, hasc, hln, hmn⟩; obtain ⟨na, nc, rfl, -⟩ := id hsn));
        (all_goals (first | refine RS.pv (PV.lenS tab_ok rfl rfl) rfl ?_ | refine RS.pv (PV.lenT tab_ok rfl rfl) rfl ?_));
        (all_goals refine RS.pv (PV.all tab_ok rfl) rfl ?_);
        (all_goals refine RS.nil ?_))
    | refine CS.ret ?_
    | refine thenQ.ret ?_
    | refine blkQ.ret ?_
    | refine retQ.ret ?_
    | refine CS.block ?_
    | refine CS.exit ?_
    | refine thenQ.exit ?_
    | refine blkQ.normal ?_
    | refine blkQ.here ?_
    | refine blkQ.past rfl ?_
    | refine retQ.normal ?_)
  replace hma := hi4.blk _ _ hma
  replace hmb := hi4.blk _ _ hmb
  have hmn' : ∀ a, a ∈ names ↔ a ∈ A.map nm ∨ a ∈ B.map nm := fun a => (hmn a).trans (hk2 a)
  clear hmn hk2
  refine CS.loop [0, 4, 11, 12, 16, 49, 50, 51] (fun m vs i' L' => ∃ (k : Nat) (O : SH) (oa : Option Addr) (oc : Nat), m = names.length - k ∧ k ≤ names.length ∧ SlO 85 (.slice oa ((names.take (k)).filterMap (diffAt of_ nm sm A B)).length oc) 3 ((names.take (k)).filterMap (diffAt of_ nm sm A B)).length (diffs (((names.take (k)).filterMap (diffAt of_ nm sm A B)))) O ∧ vs = [.int .i64 of_, .func (.func sf) #[] #[], .map (some ma), .map (some mb), .slice oa ((names.take (k)).filterMap (diffAt of_ nm sm A B)).length oc, .slice na names.length nc, .int .i64 names.length, .int .i64 k] ∧ L' = O ++ ([(p, .cells (List.toArray [.map (some bn)]) 72 (0, 0)), (bn, .map (entV zs) c2)] ++ L)) names.length ⟨0, [], none, 0, rfl, Nat.zero_le _, SlO.nil 85 3, rfl, rfl⟩ ?_
  rintro m g3 vs i' L' hi3 ⟨k, O, oa, oc, rfl, hk, hO, rfl, rfl⟩
  replace hma := hi3.blk _ _ hma
  replace hmb := hi3.blk _ _ hmb
  by_cases hlt : k < names.length
  · obtain ⟨b1, o1, c1, t1, z1, p1, e1, g1, h1⟩ := (hsn.le hi3).at hlt (by omega)
    cases e1
    obtain ⟨a, ha⟩ : ∃ a, names[k]? = some a := ⟨_, List.getElem?_eq_getElem hlt⟩
    have q1 := h1 0 (by omega)
    rw [strs_at, ha] at q1
    have hdl := take_filterMap_len (f := diffAt of_ nm sm A B) hk
    have hnx := take_filterMap (f := diffAt of_ nm sm A B) ha
    have hgA := hMA.get a
    have hgB := hMB.get a
    cases hfA : firstE nm A a with
    | none =>
      replace hgA : mget ms a = none := by rw [hgA, hfA]; rfl
      cases hfB : firstE nm B a with
      | none =>
        replace hgB : mget ns a = none := by rw [hgB, hfB]; rfl
        repeat' (first
          | refine CS.seq ?_
          | refine thenQ.normal ?_
          | refine CS.cond_true rfl ?_
          | refine CS.cond_false rfl ?_
          | refine CS.skip ?_
          | (refine CS.region (id := 13) ?_;
              (first | refine RS.pv (PV.lssT rfl rfl (by omega)) rfl ?_ | refine RS.pv (PV.lssF rfl rfl (by omega)) rfl ?_ | refine RS.ifLss rfl rfl rfl (fun h => ?_) (fun h => ?_));
              (all_goals refine RS.nil ?_))
          | (refine CS.region (id := 14) ?_;
              (first | refine RS.pv (PV.indexAddr tab_ok rfl rfl rfl (by omega)) rfl ?_ | refine RS.pv (PV.indexAddrA tab_ok rfl rfl rfl (by omega)) rfl ?_);
              refine RS.lv (LV.load1 tab_ok rfl (Has.imm g1) rfl q1) rfl ?_;
              (all_goals refine RS.pv (PV.all tab_ok rfl) rfl ?_);
              (all_goals refine RS.nil ?_))
          | (refine CS.region (id := 15) ?_;
              refine RS.pv (PV.all tab_ok rfl) rfl ?_;
              refine RS.pv (PV.all tab_ok rfl) rfl ?_;
              refine RS.lv (LV.lookupVn tab_ok rfl rfl ⟨_, rfl, rfl⟩ ⟨_, rfl, rfl⟩ Try.zeroValue103 (Has.imm hma) hgA) rfl ?_;
              (all_goals refine RS.pv (PV.all tab_ok rfl) rfl ?_);
              (all_goals refine RS.pv (PV.all tab_ok rfl) rfl ?_);
              (all_goals refine RS.pv (PV.all tab_ok rfl) rfl ?_);
              (all_goals refine RS.alloc tab_ok rfl rfl (fun bx => ?_));
              (all_goals (refine RS.storeW (k := 0) tab_ok rfl rfl rfl rfl rfl nofun rfl ?_; refine RS.freeze (fun i6 hi6 hbx => ?_); have hmb' := hi6.blk _ _ hmb));
              (all_goals refine RS.pv (PV.all tab_ok rfl) rfl ?_);
              (all_goals refine RS.nil ?_))
          | (refine CS.region (id := 16) ?_;
              refine RS.pv (PV.all tab_ok rfl) rfl ?_;
              refine RS.pv (PV.all tab_ok rfl) rfl ?_;
              refine RS.lv (LV.lookupVn tab_ok rfl rfl ⟨_, rfl, rfl⟩ ⟨_, rfl, rfl⟩ Try.zeroValue103 (Has.imm hmb') hgB) rfl ?_;
              (all_goals refine RS.pv (PV.all tab_ok rfl) rfl ?_);
              (all_goals refine RS.pv (PV.all tab_ok rfl) rfl ?_);
              (all_goals refine RS.pv (PV.all tab_ok rfl) rfl ?_);
              (all_goals refine RS.alloc tab_ok rfl rfl (fun b_y => ?_));
              (all_goals (refine RS.storeW (k := 0) tab_ok rfl rfl rfl rfl rfl nofun rfl ?_; refine RS.freeze (fun i7 hi7 hby => ?_)));
              (all_goals refine RS.pv (PV.all tab_ok rfl) rfl ?_);
              (all_goals refine RS.nil ?_))
          | (refine CS.region (id := 17) ?_;
              refine RS.pv (PV.all tab_ok rfl) rfl ?_;
              refine RS.nil ?_)
          | (refine CS.region (id := 18) ?_;
              refine RS.pv (PV.all tab_ok rfl) rfl ?_;
              refine RS.pv (PV.all tab_ok rfl) rfl ?_;
              refine RS.pv (PV.all tab_ok rfl) rfl ?_;
              refine RS.nil ?_)
          | (refine CS.region (id := 19) ?_;
              refine RS.pv (PV.all tab_ok rfl) rfl ?_;
              refine RS.nil ?_)
          | (refine CS.region (id := 24) ?_;
              refine RS.pv (PV.all tab_ok rfl) rfl ?_;
              (first | refine RS.pv (PV.gtrT rfl rfl (by omega)) rfl ?_ | refine RS.pv (PV.gtrF rfl rfl (by omega)) rfl ?_ | refine RS.ifGtr rfl rfl rfl (fun h => ?_) (fun h => ?_));
              (all_goals refine RS.nil ?_))
          | (refine CS.region (id := 25) ?_;
              refine RS.pv (PV.all tab_ok rfl) rfl ?_;
              refine RS.pv (PV.all tab_ok rfl) rfl ?_;
              refine RS.pv (PV.all tab_ok rfl) rfl ?_;
              refine RS.pv (PV.all tab_ok rfl) rfl ?_;
              refine RS.pv (PV.all tab_ok rfl) rfl ?_;
              refine RS.buildSliceF tab_ok 3 rfl rfl rfl (fun bb i9 hi9 hbs => ?_);
              (all_goals (refine RS.append tab_ok (sz := 3) (bytes := 32) (k := ((names.take k).filterMap (diffAt of_ nm sm A B)).length) (m := 1) (xs := diffs (((names.take k).filterMap (diffAt of_ nm sm A B)))) (news := [.int .i64 of_, .int .i64 1, .string a]) rfl rfl rfl ⟨_, rfl, rfl⟩ ⟨_, rfl, rfl, rfl⟩ (by omega) hO rfl (hbs.rd _) (by intro c hc; simp at hc; rcases hc with rfl | rfl | rfl <;> rfl) (by omega) (by omega) ?_; intro v' O' hO' hnil; obtain ⟨ao', cap', rfl⟩ := SlO.shape hO'));
              (all_goals refine RS.pv (PV.all tab_ok rfl) rfl ?_);
              (all_goals refine RS.nil ?_))
          | (refine CS.region (id := 26) ?_;
              refine RS.pv (PV.add rfl rfl (by omega)) rfl ?_;
              refine RS.pv (PV.all tab_ok rfl) rfl ?_;
              refine RS.nil ?_)
          | refine CS.ret ?_
          | refine thenQ.ret ?_
          | refine blkQ.ret ?_
          | refine retQ.ret ?_
          | refine CS.block ?_
          | refine CS.exit ?_
          | refine thenQ.exit ?_
          | refine blkQ.normal ?_
          | refine blkQ.here ?_
          | refine blkQ.past rfl ?_
          | refine retQ.normal ?_)
        have e : ((names.take (k + 1)).filterMap (diffAt of_ nm sm A B)) = ((names.take k).filterMap (diffAt of_ nm sm A B)) ++ [⟨of_, 1, a⟩] := by rw [hnx, diffAt_l hfA]; rfl
        have el : ((names.take (k + 1)).filterMap (diffAt of_ nm sm A B)).length = ((names.take k).filterMap (diffAt of_ nm sm A B)).length + 1 := by rw [e, List.length_append]; rfl
        exact ⟨names.length - (k + 1), by omega, k + 1, O', ao', cap', rfl, hlt, by rw [el, e, diffs_snoc]; exact hO', by rw [el]; rfl, rfl⟩
      | some y =>
        replace hgB : mget ns a = some (.agg (List.toArray (cl y))) := by rw [hgB, hfB]; rfl
        have hy0 : 2 = (cl y).length := (hB.len y (firstE_mem hfB).1).symm
        have hy1 : cl y ≠ [] := fun h => by rw [h] at hy0; cases hy0
        have hy2 : okStore tab 103 (cl y) = true := by
          show (Nat.beq (cl y).length 2 && (cl y).all (·.oneCell')) = true
          rw [← hy0, List.all_eq_true.2 (hB.one y (firstE_mem hfB).1)]; rfl
        repeat' (first
          | refine CS.seq ?_
          | refine thenQ.normal ?_
          | refine CS.cond_true rfl ?_
          | refine CS.cond_false rfl ?_
          | refine CS.skip ?_
          | (refine CS.region (id := 13) ?_;
              (first | refine RS.pv (PV.lssT rfl rfl (by omega)) rfl ?_ | refine RS.pv (PV.lssF rfl rfl (by omega)) rfl ?_ | refine RS.ifLss rfl rfl rfl (fun h => ?_) (fun h => ?_));
              (all_goals refine RS.nil ?_))
          | (refine CS.region (id := 14) ?_;
              (first | refine RS.pv (PV.indexAddr tab_ok rfl rfl rfl (by omega)) rfl ?_ | refine RS.pv (PV.indexAddrA tab_ok rfl rfl rfl (by omega)) rfl ?_);
              refine RS.lv (LV.load1 tab_ok rfl (Has.imm g1) rfl q1) rfl ?_;
              (all_goals refine RS.pv (PV.all tab_ok rfl) rfl ?_);
              (all_goals refine RS.nil ?_))
          | (refine CS.region (id := 15) ?_;
              refine RS.pv (PV.all tab_ok rfl) rfl ?_;
              refine RS.pv (PV.all tab_ok rfl) rfl ?_;
              refine RS.lv (LV.lookupVn tab_ok rfl rfl ⟨_, rfl, rfl⟩ ⟨_, rfl, rfl⟩ Try.zeroValue103 (Has.imm hma) hgA) rfl ?_;
              (all_goals refine RS.pv (PV.all tab_ok rfl) rfl ?_);
              (all_goals refine RS.pv (PV.all tab_ok rfl) rfl ?_);
              (all_goals refine RS.pv (PV.all tab_ok rfl) rfl ?_);
              (all_goals refine RS.alloc tab_ok rfl rfl (fun bx => ?_));
              (all_goals (refine RS.storeW (k := 0) tab_ok rfl rfl rfl rfl rfl nofun rfl ?_; refine RS.freeze (fun i6 hi6 hbx => ?_); have hmb' := hi6.blk _ _ hmb));
              (all_goals refine RS.pv (PV.all tab_ok rfl) rfl ?_);
              (all_goals refine RS.nil ?_))
          | (refine CS.region (id := 16) ?_;
              refine RS.pv (PV.all tab_ok rfl) rfl ?_;
              refine RS.pv (PV.all tab_ok rfl) rfl ?_;
              refine RS.lv (LV.lookupVs tab_ok rfl rfl ⟨_, rfl, rfl⟩ ⟨_, rfl, rfl⟩ Try.zeroValue103 (Has.imm hmb') hgB) rfl ?_;
              (all_goals refine RS.pv (PV.all tab_ok rfl) rfl ?_);
              (all_goals refine RS.pv (PV.all tab_ok rfl) rfl ?_);
              (all_goals refine RS.pv (PV.all tab_ok rfl) rfl ?_);
              (all_goals refine RS.alloc tab_ok rfl rfl (fun b_y => ?_));
              (all_goals (refine RS.storeW (k := 0) tab_ok rfl rfl rfl rfl hy0 hy1 hy2 ?_; refine RS.freeze (fun i7 hi7 hby => ?_)));
              (all_goals refine RS.pv (PV.all tab_ok rfl) rfl ?_);
              (all_goals refine RS.nil ?_))
          | (refine CS.region (id := 17) ?_;
              refine RS.pv (PV.all tab_ok rfl) rfl ?_;
              refine RS.nil ?_)
          | (refine CS.region (id := 18) ?_;
              refine RS.pv (PV.all tab_ok rfl) rfl ?_;
              refine RS.pv (PV.all tab_ok rfl) rfl ?_;
              refine RS.pv (PV.all tab_ok rfl) rfl ?_;
              refine RS.nil ?_)
          | (refine CS.region (id := 19) ?_;
              refine RS.pv (PV.all tab_ok rfl) rfl ?_;
              refine RS.nil ?_)
          | (refine CS.region (id := 24) ?_;
              refine RS.pv (PV.all tab_ok rfl) rfl ?_;
              (first | refine RS.pv (PV.gtrT rfl rfl (by omega)) rfl ?_ | refine RS.pv (PV.gtrF rfl rfl (by omega)) rfl ?_ | refine RS.ifGtr rfl rfl rfl (fun h => ?_) (fun h => ?_));
              (all_goals refine RS.nil ?_))
          | (refine CS.region (id := 25) ?_;
              refine RS.pv (PV.all tab_ok rfl) rfl ?_;
              refine RS.pv (PV.all tab_ok rfl) rfl ?_;
              refine RS.pv (PV.all tab_ok rfl) rfl ?_;
              refine RS.pv (PV.all tab_ok rfl) rfl ?_;
              refine RS.pv (PV.all tab_ok rfl) rfl ?_;
              refine RS.buildSliceF tab_ok 3 rfl rfl rfl (fun bb i9 hi9 hbs => ?_);
              (all_goals (refine RS.append tab_ok (sz := 3) (bytes := 32) (k := ((names.take k).filterMap (diffAt of_ nm sm A B)).length) (m := 1) (xs := diffs (((names.take k).filterMap (diffAt of_ nm sm A B)))) (news := [.int .i64 of_, .int .i64 1, .string a]) rfl rfl rfl ⟨_, rfl, rfl⟩ ⟨_, rfl, rfl, rfl⟩ (by omega) hO rfl (hbs.rd _) (by intro c hc; simp at hc; rcases hc with rfl | rfl | rfl <;> rfl) (by omega) (by omega) ?_; intro v' O' hO' hnil; obtain ⟨ao', cap', rfl⟩ := SlO.shape hO'));
              (all_goals refine RS.pv (PV.all tab_ok rfl) rfl ?_);
              (all_goals refine RS.nil ?_))
          | (refine CS.region (id := 26) ?_;
              refine RS.pv (PV.add rfl rfl (by omega)) rfl ?_;
              refine RS.pv (PV.all tab_ok rfl) rfl ?_;
              refine RS.nil ?_)
          | refine CS.ret ?_
          | refine thenQ.ret ?_
          | refine blkQ.ret ?_
          | refine retQ.ret ?_
          | refine CS.block ?_
          | refine CS.exit ?_
          | refine thenQ.exit ?_
          | refine blkQ.normal ?_
          | refine blkQ.here ?_
          | refine blkQ.past rfl ?_
          | refine retQ.normal ?_)
        have e : ((names.take (k + 1)).filterMap (diffAt of_ nm sm A B)) = ((names.take k).filterMap (diffAt of_ nm sm A B)) ++ [⟨of_, 1, a⟩] := by rw [hnx, diffAt_l hfA]; rfl
        have el : ((names.take (k + 1)).filterMap (diffAt of_ nm sm A B)).length = ((names.take k).filterMap (diffAt of_ nm sm A B)).length + 1 := by rw [e, List.length_append]; rfl
        exact ⟨names.length - (k + 1), by omega, k + 1, O', ao', cap', rfl, hlt, by rw [el, e, diffs_snoc]; exact hO', by rw [el]; rfl, rfl⟩
    | some x =>
      replace hgA : mget ms a = some (.agg (List.toArray (cl x))) := by rw [hgA, hfA]; rfl
      have hx0 : 2 = (cl x).length := (hA.len x (firstE_mem hfA).1).symm
      have hx1 : cl x ≠ [] := fun h => by rw [h] at hx0; cases hx0
      have hx2 : okStore tab 103 (cl x) = true := by
        show (Nat.beq (cl x).length 2 && (cl x).all (·.oneCell')) = true
        rw [← hx0, List.all_eq_true.2 (hA.one x (firstE_mem hfA).1)]; rfl
      cases hfB : firstE nm B a with
      | none =>
        replace hgB : mget ns a = none := by rw [hgB, hfB]; rfl
        repeat' (first
          | refine CS.seq ?_
          | refine thenQ.normal ?_
          | refine CS.cond_true rfl ?_
          | refine CS.cond_false rfl ?_
          | refine CS.skip ?_
          | (refine CS.region (id := 13) ?_;
              (first | refine RS.pv (PV.lssT rfl rfl (by omega)) rfl ?_ | refine RS.pv (PV.lssF rfl rfl (by omega)) rfl ?_ | refine RS.ifLss rfl rfl rfl (fun h => ?_) (fun h => ?_));
              (all_goals refine RS.nil ?_))
          | (refine CS.region (id := 14) ?_;
              (first | refine RS.pv (PV.indexAddr tab_ok rfl rfl rfl (by omega)) rfl ?_ | refine RS.pv (PV.indexAddrA tab_ok rfl rfl rfl (by omega)) rfl ?_);
              refine RS.lv (LV.load1 tab_ok rfl (Has.imm g1) rfl q1) rfl ?_;
              (all_goals refine RS.pv (PV.all tab_ok rfl) rfl ?_);
              (all_goals refine RS.nil ?_))
          | (refine CS.region (id := 15) ?_;
              refine RS.pv (PV.all tab_ok rfl) rfl ?_;
              refine RS.pv (PV.all tab_ok rfl) rfl ?_;
              refine RS.lv (LV.lookupVs tab_ok rfl rfl ⟨_, rfl, rfl⟩ ⟨_, rfl, rfl⟩ Try.zeroValue103 (Has.imm hma) hgA) rfl ?_;
              (all_goals refine RS.pv (PV.all tab_ok rfl) rfl ?_);
              (all_goals refine RS.pv (PV.all tab_ok rfl) rfl ?_);
              (all_goals refine RS.pv (PV.all tab_ok rfl) rfl ?_);
              (all_goals refine RS.alloc tab_ok rfl rfl (fun bx => ?_));
              (all_goals (refine RS.storeW (k := 0) tab_ok rfl rfl rfl rfl hx0 hx1 hx2 ?_; refine RS.freeze (fun i6 hi6 hbx => ?_); have hmb' := hi6.blk _ _ hmb));
              (all_goals refine RS.pv (PV.all tab_ok rfl) rfl ?_);
              (all_goals refine RS.nil ?_))
          | (refine CS.region (id := 16) ?_;
              refine RS.pv (PV.all tab_ok rfl) rfl ?_;
              refine RS.pv (PV.all tab_ok rfl) rfl ?_;
              refine RS.lv (LV.lookupVn tab_ok rfl rfl ⟨_, rfl, rfl⟩ ⟨_, rfl, rfl⟩ Try.zeroValue103 (Has.imm hmb') hgB) rfl ?_;
              (all_goals refine RS.pv (PV.all tab_ok rfl) rfl ?_);
              (all_goals refine RS.pv (PV.all tab_ok rfl) rfl ?_);
              (all_goals refine RS.pv (PV.all tab_ok rfl) rfl ?_);
              (all_goals refine RS.alloc tab_ok rfl rfl (fun b_y => ?_));
              (all_goals (refine RS.storeW (k := 0) tab_ok rfl rfl rfl rfl rfl nofun rfl ?_; refine RS.freeze (fun i7 hi7 hby => ?_)));
              (all_goals refine RS.pv (PV.all tab_ok rfl) rfl ?_);
              (all_goals refine RS.nil ?_))
          | (refine CS.region (id := 17) ?_;
              refine RS.pv (PV.all tab_ok rfl) rfl ?_;
              refine RS.nil ?_)
          | (refine CS.region (id := 18) ?_;
              refine RS.pv (PV.all tab_ok rfl) rfl ?_;
              refine RS.pv (PV.all tab_ok rfl) rfl ?_;
              refine RS.pv (PV.all tab_ok rfl) rfl ?_;
              refine RS.nil ?_)
          | (refine CS.region (id := 19) ?_;
              refine RS.pv (PV.all tab_ok rfl) rfl ?_;
              refine RS.nil ?_)
          | (refine CS.region (id := 20) ?_;
              refine RS.pv (PV.all tab_ok rfl) rfl ?_;
              refine RS.pv (PV.all tab_ok rfl) rfl ?_;
              refine RS.pv (PV.all tab_ok rfl) rfl ?_;
              refine RS.nil ?_)
          | (refine CS.region (id := 21) ?_;
              refine RS.pv (PV.all tab_ok rfl) rfl ?_;
              refine RS.nil ?_)
          | (refine CS.region (id := 24) ?_;
              refine RS.pv (PV.all tab_ok rfl) rfl ?_;
              (first | refine RS.pv (PV.gtrT rfl rfl (by omega)) rfl ?_ | refine RS.pv (PV.gtrF rfl rfl (by omega)) rfl ?_ | refine RS.ifGtr rfl rfl rfl (fun h => ?_) (fun h => ?_));
              (all_goals refine RS.nil ?_))
          | (refine CS.region (id := 25) ?_;
              refine RS.pv (PV.all tab_ok rfl) rfl ?_;
              refine RS.pv (PV.all tab_ok rfl) rfl ?_;
              refine RS.pv (PV.all tab_ok rfl) rfl ?_;
              refine RS.pv (PV.all tab_ok rfl) rfl ?_;
              refine RS.pv (PV.all tab_ok rfl) rfl ?_;
              refine RS.buildSliceF tab_ok 3 rfl rfl rfl (fun bb i9 hi9 hbs => ?_);
              (all_goals (refine RS.append tab_ok (sz := 3) (bytes := 32) (k := ((names.take k).filterMap (diffAt of_ nm sm A B)).length) (m := 1) (xs := diffs (((names.take k).filterMap (diffAt of_ nm sm A B)))) (news := [.int .i64 of_, .int .i64 2, .string a]) rfl rfl rfl ⟨_, rfl, rfl⟩ ⟨_, rfl, rfl, rfl⟩ (by omega) hO rfl (hbs.rd _) (by intro c hc; simp at hc; rcases hc with rfl | rfl | rfl <;> rfl) (by omega) (by omega) ?_; intro v' O' hO' hnil; obtain ⟨ao', cap', rfl⟩ := SlO.shape hO'));
              (all_goals refine RS.pv (PV.all tab_ok rfl) rfl ?_);
              (all_goals refine RS.nil ?_))
          | (refine CS.region (id := 26) ?_;
              refine RS.pv (PV.add rfl rfl (by omega)) rfl ?_;
              refine RS.pv (PV.all tab_ok rfl) rfl ?_;
              refine RS.nil ?_)
          | refine CS.ret ?_
          | refine thenQ.ret ?_
          | refine blkQ.ret ?_
          | refine retQ.ret ?_
          | refine CS.block ?_
          | refine CS.exit ?_
          | refine thenQ.exit ?_
          | refine blkQ.normal ?_
          | refine blkQ.here ?_
          | refine blkQ.past rfl ?_
          | refine retQ.normal ?_)
        have e : ((names.take (k + 1)).filterMap (diffAt of_ nm sm A B)) = ((names.take k).filterMap (diffAt of_ nm sm A B)) ++ [⟨of_, 2, a⟩] := by rw [hnx, diffAt_m hfA hfB]; rfl
        have el : ((names.take (k + 1)).filterMap (diffAt of_ nm sm A B)).length = ((names.take k).filterMap (diffAt of_ nm sm A B)).length + 1 := by rw [e, List.length_append]; rfl
        exact ⟨names.length - (k + 1), by omega, k + 1, O', ao', cap', rfl, hlt, by rw [el, e, diffs_snoc]; exact hO', by rw [el]; rfl, rfl⟩
      | some y =>
        replace hgB : mget ns a = some (.agg (List.toArray (cl y))) := by rw [hgB, hfB]; rfl
        have hy0 : 2 = (cl y).length := (hB.len y (firstE_mem hfB).1).symm
        have hy1 : cl y ≠ [] := fun h => by rw [h] at hy0; cases hy0
        have hy2 : okStore tab 103 (cl y) = true := by
          show (Nat.beq (cl y).length 2 && (cl y).all (·.oneCell')) = true
          rw [← hy0, List.all_eq_true.2 (hB.one y (firstE_mem hfB).1)]; rfl
        have hsx := hsm x (firstE_mem hfA).1 y (firstE_mem hfB).1
        cases hsb : sm x y with
        | true =>
          rw [hsb] at hsx
          repeat' (first
            | refine CS.seq ?_
            | refine thenQ.normal ?_
            | refine CS.cond_true rfl ?_
            | refine CS.cond_false rfl ?_
            | refine CS.skip ?_
            | (refine CS.region (id := 13) ?_;
                (first | refine RS.pv (PV.lssT rfl rfl (by omega)) rfl ?_ | refine RS.pv (PV.lssF rfl rfl (by omega)) rfl ?_ | refine RS.ifLss rfl rfl rfl (fun h => ?_) (fun h => ?_));
                (all_goals refine RS.nil ?_))
            | (refine CS.region (id := 14) ?_;
                (first | refine RS.pv (PV.indexAddr tab_ok rfl rfl rfl (by omega)) rfl ?_ | refine RS.pv (PV.indexAddrA tab_ok rfl rfl rfl (by omega)) rfl ?_);
                refine RS.lv (LV.load1 tab_ok rfl (Has.imm g1) rfl q1) rfl ?_;
                (all_goals refine RS.pv (PV.all tab_ok rfl) rfl ?_);
                (all_goals refine RS.nil ?_))
            | (refine CS.region (id := 15) ?_;
                refine RS.pv (PV.all tab_ok rfl) rfl ?_;
                refine RS.pv (PV.all tab_ok rfl) rfl ?_;
                refine RS.lv (LV.lookupVs tab_ok rfl rfl ⟨_, rfl, rfl⟩ ⟨_, rfl, rfl⟩ Try.zeroValue103 (Has.imm hma) hgA) rfl ?_;
                (all_goals refine RS.pv (PV.all tab_ok rfl) rfl ?_);
                (all_goals refine RS.pv (PV.all tab_ok rfl) rfl ?_);
                (all_goals refine RS.pv (PV.all tab_ok rfl) rfl ?_);
                (all_goals refine RS.alloc tab_ok rfl rfl (fun bx => ?_));
                (all_goals (refine RS.storeW (k := 0) tab_ok rfl rfl rfl rfl hx0 hx1 hx2 ?_; refine RS.freeze (fun i6 hi6 hbx => ?_); have hmb' := hi6.blk _ _ hmb));
                (all_goals refine RS.pv (PV.all tab_ok rfl) rfl ?_);
                (all_goals refine RS.nil ?_))
            | (refine CS.region (id := 16) ?_;
                refine RS.pv (PV.all tab_ok rfl) rfl ?_;
                refine RS.pv (PV.all tab_ok rfl) rfl ?_;
                refine RS.lv (LV.lookupVs tab_ok rfl rfl ⟨_, rfl, rfl⟩ ⟨_, rfl, rfl⟩ Try.zeroValue103 (Has.imm hmb') hgB) rfl ?_;
                (all_goals refine RS.pv (PV.all tab_ok rfl) rfl ?_);
                (all_goals refine RS.pv (PV.all tab_ok rfl) rfl ?_);
                (all_goals refine RS.pv (PV.all tab_ok rfl) rfl ?_);
                (all_goals refine RS.alloc tab_ok rfl rfl (fun b_y => ?_));
                (all_goals (refine RS.storeW (k := 0) tab_ok rfl rfl rfl rfl hy0 hy1 hy2 ?_; refine RS.freeze (fun i7 hi7 hby => ?_)));
                (all_goals refine RS.pv (PV.all tab_ok rfl) rfl ?_);
                (all_goals refine RS.nil ?_))
            | (refine CS.region (id := 17) ?_;
                refine RS.pv (PV.all tab_ok rfl) rfl ?_;
                refine RS.nil ?_)
            | (refine CS.region (id := 18) ?_;
                refine RS.pv (PV.all tab_ok rfl) rfl ?_;
                refine RS.pv (PV.all tab_ok rfl) rfl ?_;
                refine RS.pv (PV.all tab_ok rfl) rfl ?_;
                refine RS.nil ?_)
            | (refine CS.region (id := 19) ?_;
                refine RS.pv (PV.all tab_ok rfl) rfl ?_;
                refine RS.nil ?_)
            | (refine CS.region (id := 20) ?_;
                refine RS.pv (PV.all tab_ok rfl) rfl ?_;
                refine RS.pv (PV.all tab_ok rfl) rfl ?_;
                refine RS.pv (PV.all tab_ok rfl) rfl ?_;
                refine RS.nil ?_)
            | (refine CS.region (id := 21) ?_;
                refine RS.pv (PV.all tab_ok rfl) rfl ?_;
                refine RS.nil ?_)
            | (refine CS.region (id := 22) ?_;
                refine RS.pv (PV.all tab_ok rfl) rfl ?_;
                refine RS.lv (LV.loadL tab_ok rfl (Has.imm (hi7.blk _ _ hbx)) (l := cl x) rfl rfl (hA.len x (firstE_mem hfA).1) (fun d u hu => by rw [Nat.zero_add]; exact hu)) rfl ?_;
                (all_goals refine RS.lv (LV.loadL tab_ok rfl (Has.imm hby) (l := cl y) rfl rfl (hB.len y (firstE_mem hfB).1) (fun d u hu => by rw [Nat.zero_add]; exact hu)) rfl ?_);
                (all_goals (refine RS.callV (hsx _ _ (((((hi1.trans hi2).trans hi4).trans hi3).trans hi6).trans hi7)) rfl rfl hsf rfl ?_; rintro v i8 L8 hi8 ⟨rfl, rfl⟩));
                (all_goals refine RS.pv (PV.all tab_ok rfl) rfl ?_);
                (all_goals refine RS.pv (PV.all tab_ok rfl) rfl ?_);
                (all_goals refine RS.nil ?_))
            | (refine CS.region (id := 24) ?_;
                refine RS.pv (PV.all tab_ok rfl) rfl ?_;
                (first | refine RS.pv (PV.gtrT rfl rfl (by omega)) rfl ?_ | refine RS.pv (PV.gtrF rfl rfl (by omega)) rfl ?_ | refine RS.ifGtr rfl rfl rfl (fun h => ?_) (fun h => ?_));
                (all_goals refine RS.nil ?_))
            | (refine CS.region (id := 26) ?_;
                refine RS.pv (PV.add rfl rfl (by omega)) rfl ?_;
                refine RS.pv (PV.all tab_ok rfl) rfl ?_;
                refine RS.nil ?_)
            | refine CS.ret ?_
            | refine thenQ.ret ?_
            | refine blkQ.ret ?_
            | refine retQ.ret ?_
            | refine CS.block ?_
            | refine CS.exit ?_
            | refine thenQ.exit ?_
            | refine blkQ.normal ?_
            | refine blkQ.here ?_
            | refine blkQ.past rfl ?_
            | refine retQ.normal ?_)
          have e : ((names.take (k + 1)).filterMap (diffAt of_ nm sm A B)) = ((names.take k).filterMap (diffAt of_ nm sm A B)) := by rw [hnx, diffAt_s hfA hfB hsb]; simp
          exact ⟨names.length - (k + 1), by omega, k + 1, O, oa, oc, rfl, hlt, by rw [e]; exact hO, by rw [e]; rfl, rfl⟩
        | false =>
          rw [hsb] at hsx
          repeat' (first
            | refine CS.seq ?_
            | refine thenQ.normal ?_
            | refine CS.cond_true rfl ?_
            | refine CS.cond_false rfl ?_
            | refine CS.skip ?_
            | (refine CS.region (id := 13) ?_;
                (first | refine RS.pv (PV.lssT rfl rfl (by omega)) rfl ?_ | refine RS.pv (PV.lssF rfl rfl (by omega)) rfl ?_ | refine RS.ifLss rfl rfl rfl (fun h => ?_) (fun h => ?_));
                (all_goals refine RS.nil ?_))
            | (refine CS.region (id := 14) ?_;
                (first | refine RS.pv (PV.indexAddr tab_ok rfl rfl rfl (by omega)) rfl ?_ | refine RS.pv (PV.indexAddrA tab_ok rfl rfl rfl (by omega)) rfl ?_);
                refine RS.lv (LV.load1 tab_ok rfl (Has.imm g1) rfl q1) rfl ?_;
                (all_goals refine RS.pv (PV.all tab_ok rfl) rfl ?_);
                (all_goals refine RS.nil ?_))
            | (refine CS.region (id := 15) ?_;
                refine RS.pv (PV.all tab_ok rfl) rfl ?_;
                refine RS.pv (PV.all tab_ok rfl) rfl ?_;
                refine RS.lv (LV.lookupVs tab_ok rfl rfl ⟨_, rfl, rfl⟩ ⟨_, rfl, rfl⟩ Try.zeroValue103 (Has.imm hma) hgA) rfl ?_;
                (all_goals refine RS.pv (PV.all tab_ok rfl) rfl ?_);
                (all_goals refine RS.pv (PV.all tab_ok rfl) rfl ?_);
                (all_goals refine RS.pv (PV.all tab_ok rfl) rfl ?_);
                (all_goals refine RS.alloc tab_ok rfl rfl (fun bx => ?_));
                (all_goals (refine RS.storeW (k := 0) tab_ok rfl rfl rfl rfl hx0 hx1 hx2 ?_; refine RS.freeze (fun i6 hi6 hbx => ?_); have hmb' := hi6.blk _ _ hmb));
                (all_goals refine RS.pv (PV.all tab_ok rfl) rfl ?_);
                (all_goals refine RS.nil ?_))
            | (refine CS.region (id := 16) ?_;
                refine RS.pv (PV.all tab_ok rfl) rfl ?_;
                refine RS.pv (PV.all tab_ok rfl) rfl ?_;
                refine RS.lv (LV.lookupVs tab_ok rfl rfl ⟨_, rfl, rfl⟩ ⟨_, rfl, rfl⟩ Try.zeroValue103 (Has.imm hmb') hgB) rfl ?_;
                (all_goals refine RS.pv (PV.all tab_ok rfl) rfl ?_);
                (all_goals refine RS.pv (PV.all tab_ok rfl) rfl ?_);
                (all_goals refine RS.pv (PV.all tab_ok rfl) rfl ?_);
                (all_goals refine RS.alloc tab_ok rfl rfl (fun b_y => ?_));
                (all_goals (refine RS.storeW (k := 0) tab_ok rfl rfl rfl rfl hy0 hy1 hy2 ?_; refine RS.freeze (fun i7 hi7 hby => ?_)));
                (all_goals refine RS.pv (PV.all tab_ok rfl) rfl ?_);
                (all_goals refine RS.nil ?_))
            | (refine CS.region (id := 17) ?_;
                refine RS.pv (PV.all tab_ok rfl) rfl ?_;
                refine RS.nil ?_)
            | (refine CS.region (id := 18) ?_;
                refine RS.pv (PV.all tab_ok rfl) rfl ?_;
                refine RS.pv (PV.all tab_ok rfl) rfl ?_;
                refine RS.pv (PV.all tab_ok rfl) rfl ?_;
                refine RS.nil ?_)
            | (refine CS.region (id := 19) ?_;
                refine RS.pv (PV.all tab_ok rfl) rfl ?_;
                refine RS.nil ?_)
            | (refine CS.region (id := 20) ?_;
                refine RS.pv (PV.all tab_ok rfl) rfl ?_;
                refine RS.pv (PV.all tab_ok rfl) rfl ?_;
                refine RS.pv (PV.all tab_ok rfl) rfl ?_;
                refine RS.nil ?_)
            | (refine CS.region (id := 21) ?_;
                refine RS.pv (PV.all tab_ok rfl) rfl ?_;
                refine RS.nil ?_)
            | (refine CS.region (id := 22) ?_;
                refine RS.pv (PV.all tab_ok rfl) rfl ?_;
                refine RS.lv (LV.loadL tab_ok rfl (Has.imm (hi7.blk _ _ hbx)) (l := cl x) rfl rfl (hA.len x (firstE_mem hfA).1) (fun d u hu => by rw [Nat.zero_add]; exact hu)) rfl ?_;
                (all_goals refine RS.lv (LV.loadL tab_ok rfl (Has.imm hby) (l := cl y) rfl rfl (hB.len y (firstE_mem hfB).1) (fun d u hu => by rw [Nat.zero_add]; exact hu)) rfl ?_);
                (all_goals (refine RS.callV (hsx _ _ (((((hi1.trans hi2).trans hi4).trans hi3).trans hi6).trans hi7)) rfl rfl hsf rfl ?_; rintro v i8 L8 hi8 ⟨rfl, rfl⟩));
                (all_goals refine RS.pv (PV.all tab_ok rfl) rfl ?_);
                (all_goals refine RS.pv (PV.all tab_ok rfl) rfl ?_);
                (all_goals refine RS.nil ?_))
            | (refine CS.region (id := 23) ?_;
                refine RS.pv (PV.all tab_ok rfl) rfl ?_;
                refine RS.nil ?_)
            | (refine CS.region (id := 24) ?_;
                refine RS.pv (PV.all tab_ok rfl) rfl ?_;
                (first | refine RS.pv (PV.gtrT rfl rfl (by omega)) rfl ?_ | refine RS.pv (PV.gtrF rfl rfl (by omega)) rfl ?_ | refine RS.ifGtr rfl rfl rfl (fun h => ?_) (fun h => ?_));
                (all_goals refine RS.nil ?_))
            | (refine CS.region (id := 25) ?_;
                refine RS.pv (PV.all tab_ok rfl) rfl ?_;
                refine RS.pv (PV.all tab_ok rfl) rfl ?_;
                refine RS.pv (PV.all tab_ok rfl) rfl ?_;
                refine RS.pv (PV.all tab_ok rfl) rfl ?_;
                refine RS.pv (PV.all tab_ok rfl) rfl ?_;
                refine RS.buildSliceF tab_ok 3 rfl rfl rfl (fun bb i9 hi9 hbs => ?_);
                (all_goals (refine RS.append tab_ok (sz := 3) (bytes := 32) (k := ((names.take k).filterMap (diffAt of_ nm sm A B)).length) (m := 1) (xs := diffs (((names.take k).filterMap (diffAt of_ nm sm A B)))) (news := [.int .i64 of_, .int .i64 3, .string a]) rfl rfl rfl ⟨_, rfl, rfl⟩ ⟨_, rfl, rfl, rfl⟩ (by omega) hO rfl (hbs.rd _) (by intro c hc; simp at hc; rcases hc with rfl | rfl | rfl <;> rfl) (by omega) (by omega) ?_; intro v' O' hO' hnil; obtain ⟨ao', cap', rfl⟩ := SlO.shape hO'));
                (all_goals refine RS.pv (PV.all tab_ok rfl) rfl ?_);
                (all_goals refine RS.nil ?_))
            | (refine CS.region (id := 26) ?_;
                refine RS.pv (PV.add rfl rfl (by omega)) rfl ?_;
                refine RS.pv (PV.all tab_ok rfl) rfl ?_;
                refine RS.nil ?_)
            | refine CS.ret ?_
            | refine thenQ.ret ?_
            | refine blkQ.ret ?_
            | refine retQ.ret ?_
            | refine CS.block ?_
            | refine CS.exit ?_
            | refine thenQ.exit ?_
            | refine blkQ.normal ?_
            | refine blkQ.here ?_
            | refine blkQ.past rfl ?_
            | refine retQ.normal ?_)
          have e : ((names.take (k + 1)).filterMap (diffAt of_ nm sm A B)) = ((names.take k).filterMap (diffAt of_ nm sm A B)) ++ [⟨of_, 3, a⟩] := by rw [hnx, diffAt_o hfA hfB hsb]; rfl
          have el : ((names.take (k + 1)).filterMap (diffAt of_ nm sm A B)).length = ((names.take k).filterMap (diffAt of_ nm sm A B)).length + 1 := by rw [e, List.length_append]; rfl
          exact ⟨names.length - (k + 1), by omega, k + 1, O', ao', cap', rfl, hlt, by rw [el, e, diffs_snoc]; exact hO', by rw [el]; rfl, rfl⟩
  · have : k = names.length := by omega
    subst this
    repeat' (first
      | refine CS.seq ?_
      | refine thenQ.normal ?_
      | refine CS.cond_true rfl ?_
      | refine CS.cond_false rfl ?_
      | refine CS.skip ?_
      | (refine CS.region (id := 13) ?_;
          (first | refine RS.pv (PV.lssT rfl rfl (by omega)) rfl ?_ | refine RS.pv (PV.lssF rfl rfl (by omega)) rfl ?_ | refine RS.ifLss rfl rfl rfl (fun h => ?_) (fun h => ?_));
          (all_goals refine RS.nil ?_))
      | (refine CS.region (id := 27) ?_;
          refine RS.pv (PV.all tab_ok rfl) rfl ?_;
          refine RS.pv (PV.all tab_ok rfl) rfl ?_;
          refine RS.nil ?_)
      | refine CS.ret ?_
      | refine thenQ.ret ?_
      | refine blkQ.ret ?_
      | refine retQ.ret ?_
      | refine CS.block ?_
      | refine CS.exit ?_
      | refine thenQ.exit ?_
      | refine blkQ.normal ?_
      | refine blkQ.here ?_
      | refine blkQ.past rfl ?_
      | refine retQ.normal ?_)
    refine ⟨((names.take (names.length)).filterMap (diffAt of_ nm sm A B)), O, _, hO, rfl, ⟨names, hasc, hmn', by rw [List.take_length]⟩, ?_⟩
    have := take_filterMap_len (f := diffAt of_ nm sm A B) (Nat.le_refl names.length)
    omega
theorem Compare_75 (sm : ByteArray → ByteArray → Bool) (A B : List ByteArray) (of_ : Int) (sf : FuncId) (hsf : fnOk Try.prog sf = true) (va vb : Value) (i : Imm) (L : SH) (hA : ∀ e ∈ A, e.size ≤ maxLen) (hB : ∀ e ∈ B, e.size ≤ maxLen) (hsA : Sl i va 1 A.length (strs A)) (hsB : Sl i vb 1 B.length (strs B)) (hlA : A.length ≤ 10000000000) (hlB : B.length ≤ 10000000000)
    (hsm : ∀ x ∈ A, ∀ y ∈ B, ∀ i' L', i.le i' → FnS Try.prog sf [.string x, .string y] i' L' fun v _ L'' => v = .bool (sm x y) ∧ L'' = L') :
    FnS Try.prog 75 [.int .i64 of_, va, vb, .func (.func 76) #[] #[], .func (.func sf) #[] #[]] i L fun v i' L' => L' = L ∧ ∃ l, Sl i' v 3 l.length (diffs l) ∧ DiffOf of_ id sm A B l ∧ l.length ≤ A.length + B.length := by
  refine FnS.state (K := fun v i' L' => ∃ l O M, SlO 85 v 3 l.length (diffs l) O ∧ L' = O ++ (M ++ L) ∧ DiffOf of_ id sm A B l ∧ l.length ≤ A.length + B.length) ?_ ?_
  rotate_left
  · rintro v i' L' w _ hs ⟨l, O, M, hO, rfl, hd, hll⟩
    obtain ⟨i2, h1, h2, h3⟩ := hO.freeze hs
    exact ⟨i2, L, h1, h2.dropL, rfl, l, h3, hd, hll⟩
  obtain ⟨aa, ac, rfl, -⟩ := id hsA
  obtain ⟨ba, bc, rfl, -⟩ := id hsB
  refine FnS.intro1 Try.func75 rfl Try.ntmps75 (by simp) Try.results75 ?_
  repeat' (first
    | refine CS.seq ?_
    | refine thenQ.normal ?_
    | refine CS.cond_true rfl ?_
    | refine CS.cond_false rfl ?_
    | refine CS.skip ?_
    | (refine CS.region (id := 0) ?_;
        refine RS.pv (PV.all tab_ok rfl) rfl ?_;
        refine RS.nil ?_)
    | (refine CS.region (id := 1) ?_;
        refine RS.pv (PV.all tab_ok rfl) rfl ?_;
        refine RS.pv (PV.all tab_ok rfl) rfl ?_;
        (refine RS.call (First_98 A _ _ _ hsA (by omega)) rfl (by kernel_rfl) rfl ?_; rintro v i1 L1 hi1 ⟨hL1, ma, ms, ca, rfl, hma, hMA⟩; replace hL1 := hL1.symm; subst hL1);
        (all_goals refine RS.pv (PV.all tab_ok rfl) rfl ?_);
        (all_goals refine RS.pv (PV.all tab_ok rfl) rfl ?_);
        (all_goals (refine RS.call (First_98 B _ _ _ (hsB.le hi1) (by omega)) rfl (by kernel_rfl) rfl ?_; rintro v i2 L2 hi2 ⟨hL2, mb, ns, cb, rfl, hmb, hMB⟩; replace hL2 := hL2.symm; subst hL2));
        (all_goals refine RS.pv (PV.all tab_ok rfl) rfl ?_);
        (all_goals refine RS.pv (PV.all tab_ok rfl) rfl ?_);
        (all_goals refine RS.nil ?_))
    | (refine CS.region (id := 2) ?_;
        refine RS.makeMapV rfl (fun bn => ?_);
        (all_goals refine RS.pv (PV.all tab_ok rfl) rfl ?_);
        (all_goals refine RS.nil ?_))
    | (refine CS.region (id := 3) ?_;
        refine RS.pv (PV.all tab_ok rfl) rfl ?_;
        refine RS.rangeM tab_ok rfl rfl ⟨_, rfl, rfl⟩ (Has.imm (hi2.blk _ _ hma)) (fun it => ?_);
        (all_goals refine RS.nil ?_))
    | refine CS.ret ?_
    | refine thenQ.ret ?_
    | refine blkQ.ret ?_
    | refine retQ.ret ?_
    | refine CS.block ?_
    | refine CS.exit ?_
    | refine thenQ.exit ?_
    | refine blkQ.normal ?_
    | refine blkQ.here ?_
    | refine blkQ.past rfl ?_
    | refine retQ.normal ?_)
  replace hma := hi2.blk _ _ hma
  refine CS.loop [0, 4, 11, 12, 13, 32] (fun m vs i' L' => ∃ (xs : List VE) (c : Nat) (seen : Array Nat), m = leftM ms seen ∧ SetInv (fun _ => False) ms ms.length xs c seen ∧ vs = [.int .i64 of_, .func (.func sf) #[] #[], .map (some ma), .map (some mb), .map (some bn), .pointer (some ⟨it, 0, none⟩)] ∧ i2 = i' ∧ L' = (it, .mapIter (some ma) ca seen ca) :: (bn, .map (entV xs) c) :: L) ms.length ⟨[], 0, #[], (leftM_nil ms).symm, ⟨MapOk.nil, by rw [leftM_nil]; simp, fun a => by simp⟩, rfl, rfl, rfl⟩ ?_
  rintro m g vs i' L' hi ⟨xs, c, seen, rfl, hinv, rfl, rfl, rfl⟩
  repeat' (first
    | refine CS.seq ?_
    | refine thenQ.normal ?_
    | refine CS.cond_true rfl ?_
    | refine CS.cond_false rfl ?_
    | refine CS.skip ?_
    | (refine CS.region (id := 4) ?_;
        refine RS.nextM (k := 0) rfl rfl rfl (Has.imm hma) hMA.ok.lt (Nat.le_refl _) (fun hall => ?_) (fun e he hne => ?_);
        (all_goals refine RS.pv (PV.all tab_ok rfl) rfl ?_);
        (all_goals refine RS.nil ?_))
    | (refine CS.region (id := 5) ?_;
        refine RS.lv (LV.entryM (k := 0) rfl rfl (Has.imm hma) hMA.ok he) rfl ?_;
        (all_goals refine RS.pv (PV.all tab_ok rfl) rfl ?_);
        (all_goals refine RS.pv (PV.all tab_ok rfl) rfl ?_);
        (all_goals refine RS.nil ?_))
    | (refine CS.region (id := 6) ?_;
        refine RS.pv (PV.all tab_ok rfl) rfl ?_;
        refine RS.pv (PV.all tab_ok rfl) rfl ?_;
        refine RS.mapPut (k := 1) (a := e.1) tab_ok rfl rfl rfl rfl ⟨_, rfl, rfl⟩ ⟨_, rfl, rfl⟩ rfl rfl ?_;
        (all_goals refine RS.nil ?_))
    | refine CS.ret ?_
    | refine thenQ.ret ?_
    | refine blkQ.ret ?_
    | refine retQ.ret ?_
    | refine CS.block ?_
    | refine CS.exit ?_
    | refine thenQ.exit ?_
    | refine blkQ.normal ?_
    | refine blkQ.here ?_
    | refine blkQ.past rfl ?_
    | refine retQ.normal ?_)
  rotate_left
  · exact ⟨_, leftM_push ms seen e he hne, _, _, _, rfl, hinv.step hMA.ok he hne _, rfl, rfl, rfl⟩
  have hk1 : ∀ a, a ∈ xs.map (fun e => e.1) ↔ a ∈ A.map id := fun a => by rw [hinv.all hall a, hMA.keys a]; simp
  have hx1 : xs.length ≤ ms.length := by have := hinv.few; omega
  have hok1 := hinv.ok
  clear hinv hall
  refine CS.drop ?_
  repeat' (first
    | refine CS.seq ?_
    | refine thenQ.normal ?_
    | refine CS.cond_true rfl ?_
    | refine CS.cond_false rfl ?_
    | refine CS.skip ?_
    | (refine CS.region (id := 7) ?_;
        refine RS.pv (PV.all tab_ok rfl) rfl ?_;
        refine RS.rangeM tab_ok rfl rfl ⟨_, rfl, rfl⟩ (Has.imm hmb) (fun it2 => ?_);
        (all_goals refine RS.nil ?_))
    | refine CS.ret ?_
    | refine thenQ.ret ?_
    | refine blkQ.ret ?_
    | refine retQ.ret ?_
    | refine CS.block ?_
    | refine CS.exit ?_
    | refine thenQ.exit ?_
    | refine blkQ.normal ?_
    | refine blkQ.here ?_
    | refine blkQ.past rfl ?_
    | refine retQ.normal ?_)
  refine CS.loop [0, 4, 11, 12, 13, 40] (fun m vs i' L' => ∃ (zs : List VE) (c : Nat) (seen : Array Nat), m = leftM ns seen ∧ SetInv (fun a => a ∈ A.map id) ns (ms.length + ns.length) zs c seen ∧ vs = [.int .i64 of_, .func (.func sf) #[] #[], .map (some ma), .map (some mb), .map (some bn), .pointer (some ⟨it2, 0, none⟩)] ∧ i2 = i' ∧ L' = (it2, .mapIter (some mb) cb seen cb) :: (bn, .map (entV zs) c) :: L) ns.length ⟨xs, c, #[], (leftM_nil ns).symm, ⟨hok1, by rw [leftM_nil]; omega, fun a => by rw [hk1 a]; simp⟩, rfl, rfl, rfl⟩ ?_
  rintro m g2 vs i' L' hi' ⟨zs, c2, seen2, rfl, hinv, rfl, rfl, rfl⟩
  repeat' (first
    | refine CS.seq ?_
    | refine thenQ.normal ?_
    | refine CS.cond_true rfl ?_
    | refine CS.cond_false rfl ?_
    | refine CS.skip ?_
    | (refine CS.region (id := 8) ?_;
        refine RS.nextM (k := 0) rfl rfl rfl (Has.imm hmb) hMB.ok.lt (Nat.le_refl _) (fun hall => ?_) (fun e he hne => ?_);
        (all_goals refine RS.pv (PV.all tab_ok rfl) rfl ?_);
        (all_goals refine RS.nil ?_))
    | (refine CS.region (id := 9) ?_;
        refine RS.lv (LV.entryM (k := 0) rfl rfl (Has.imm hmb) hMB.ok he) rfl ?_;
        (all_goals refine RS.pv (PV.all tab_ok rfl) rfl ?_);
        (all_goals refine RS.pv (PV.all tab_ok rfl) rfl ?_);
        (all_goals refine RS.nil ?_))
    | (refine CS.region (id := 10) ?_;
        refine RS.pv (PV.all tab_ok rfl) rfl ?_;
        refine RS.pv (PV.all tab_ok rfl) rfl ?_;
        refine RS.mapPut (k := 1) (a := e.1) tab_ok rfl rfl rfl rfl ⟨_, rfl, rfl⟩ ⟨_, rfl, rfl⟩ rfl rfl ?_;
        (all_goals refine RS.nil ?_))
    | refine CS.ret ?_
    | refine thenQ.ret ?_
    | refine blkQ.ret ?_
    | refine retQ.ret ?_
    | refine CS.block ?_
    | refine CS.exit ?_
    | refine thenQ.exit ?_
    | refine blkQ.normal ?_
    | refine blkQ.here ?_
    | refine blkQ.past rfl ?_
    | refine retQ.normal ?_)
  rotate_left
  · exact ⟨_, leftM_push ns seen2 e he hne, _, _, _, rfl, hinv.step hMB.ok he hne _, rfl, rfl, rfl⟩
  have hk2 : ∀ a, a ∈ zs.map (fun e => e.1) ↔ a ∈ A.map id ∨ a ∈ B.map id := fun a => by rw [hinv.all hall a, hMB.keys a]
  have hx2 : zs.length ≤ ms.length + ns.length := by have := hinv.few; omega
  have hfa := hMA.few
  have hfb := hMB.few
  have hok2 := hinv.ok
  clear hinv hall hk1 hx1 hok1
  have hsz : ∀ e ∈ zs, e.1.size ≤ maxLen := fun e he => by
    have h1 := (hk2 e.1).1 (List.mem_map.2 ⟨e, he, rfl⟩)
    rw [List.mem_map, List.mem_map] at h1
    rcases h1 with ⟨x, hx, hxe⟩ | ⟨x, hx, hxe⟩
    · rw [← hxe]; exact hA x hx
    · rw [← hxe]; exact hB x hx
  refine CS.drop ?_
  repeat' (first
    | refine CS.seq ?_
    | refine thenQ.normal ?_
    | refine CS.cond_true rfl ?_
    | refine CS.cond_false rfl ?_
    | refine CS.skip ?_
    | (refine CS.region (id := 11) ?_;
        refine RS.pv (PV.all tab_ok rfl) rfl ?_;
        refine RS.nil ?_)
    | (refine CS.region (id := 12) ?_;
        refine RS.pv (PV.all tab_ok rfl) rfl ?_;
        (refine RS.call (Keys_94 _ _ _) rfl (by kernel_rfl) rfl ?_; rintro v i3 L3 hi3 ⟨rfl, p, rfl, rfl⟩);
        (all_goals (refine RS.call (Sorted_93 p bn c2 zs _ _ (Has.own 0 rfl) (Has.own 1 rfl) hok2 (by omega) hsz) rfl (by kernel_rfl) rfl ?_; rintro v i4 L4 hi4 ⟨rfl, names, hsn, hasc, hln, hmn⟩; obtain ⟨na, nc, rfl, -⟩ := id hsn));
        (all_goals (first | refine RS.pv (PV.lenS tab_ok rfl rfl) rfl ?_ | refine RS.pv (PV.lenT tab_ok rfl rfl) rfl ?_));
        (all_goals refine RS.pv (PV.all tab_ok rfl) rfl ?_);
        (all_goals refine RS.nil ?_))
    | refine CS.ret ?_
    | refine thenQ.ret ?_
    | refine blkQ.ret ?_
    | refine retQ.ret ?_
    | refine CS.block ?_
    | refine CS.exit ?_
    | refine thenQ.exit ?_
    | refine blkQ.normal ?_
    | refine blkQ.here ?_
    | refine blkQ.past rfl ?_
    | refine retQ.normal ?_)
  replace hma := hi4.blk _ _ hma
  replace hmb := hi4.blk _ _ hmb
  have hmn' : ∀ a, a ∈ names ↔ a ∈ A.map id ∨ a ∈ B.map id := fun a => (hmn a).trans (hk2 a)
  clear hmn hk2
  refine CS.loop [0, 4, 11, 12, 16, 49, 50, 51] (fun m vs i' L' => ∃ (k : Nat) (O : SH) (oa : Option Addr) (oc : Nat), m = names.length - k ∧ k ≤ names.length ∧ SlO 85 (.slice oa ((names.take (k)).filterMap (diffAt of_ id sm A B)).length oc) 3 ((names.take (k)).filterMap (diffAt of_ id sm A B)).length (diffs (((names.take (k)).filterMap (diffAt of_ id sm A B)))) O ∧ vs = [.int .i64 of_, .func (.func sf) #[] #[], .map (some ma), .map (some mb), .slice oa ((names.take (k)).filterMap (diffAt of_ id sm A B)).length oc, .slice na names.length nc, .int .i64 names.length, .int .i64 k] ∧ L' = O ++ ([(p, .cells (List.toArray [.map (some bn)]) 72 (0, 0)), (bn, .map (entV zs) c2)] ++ L)) names.length ⟨0, [], none, 0, rfl, Nat.zero_le _, SlO.nil 85 3, rfl, rfl⟩ ?_
  rintro m g3 vs i' L' hi3 ⟨k, O, oa, oc, rfl, hk, hO, rfl, rfl⟩
  replace hma := hi3.blk _ _ hma
  replace hmb := hi3.blk _ _ hmb
  by_cases hlt : k < names.length
  · obtain ⟨b1, o1, c1, t1, z1, p1, e1, g1, h1⟩ := (hsn.le hi3).at hlt (by omega)
    cases e1
    obtain ⟨a, ha⟩ : ∃ a, names[k]? = some a := ⟨_, List.getElem?_eq_getElem hlt⟩
    have q1 := h1 0 (by omega)
    rw [strs_at, ha] at q1
    have hdl := take_filterMap_len (f := diffAt of_ id sm A B) hk
    have hnx := take_filterMap (f := diffAt of_ id sm A B) ha
    have hgA := hMA.get a
    have hgB := hMB.get a
    cases hfA : firstE id A a with
    | none =>
      replace hgA : mget ms a = none := by rw [hgA, hfA]; rfl
      cases hfB : firstE id B a with
      | none =>
        replace hgB : mget ns a = none := by rw [hgB, hfB]; rfl
        repeat' (first
          | refine CS.seq ?_
          | refine thenQ.normal ?_
          | refine CS.cond_true rfl ?_
          | refine CS.cond_false rfl ?_
          | refine CS.skip ?_
          | (refine CS.region (id := 13) ?_;
              (first | refine RS.pv (PV.lssT rfl rfl (by omega)) rfl ?_ | refine RS.pv (PV.lssF rfl rfl (by omega)) rfl ?_ | refine RS.ifLss rfl rfl rfl (fun h => ?_) (fun h => ?_));
              (all_goals refine RS.nil ?_))
          | (refine CS.region (id := 14) ?_;
              (first | refine RS.pv (PV.indexAddr tab_ok rfl rfl rfl (by omega)) rfl ?_ | refine RS.pv (PV.indexAddrA tab_ok rfl rfl rfl (by omega)) rfl ?_);
              refine RS.lv (LV.load1 tab_ok rfl (Has.imm g1) rfl q1) rfl ?_;
              (all_goals refine RS.pv (PV.all tab_ok rfl) rfl ?_);
              (all_goals refine RS.nil ?_))
          | (refine CS.region (id := 15) ?_;
              refine RS.pv (PV.all tab_ok rfl) rfl ?_;
              refine RS.pv (PV.all tab_ok rfl) rfl ?_;
              refine RS.lv (LV.lookupVn tab_ok rfl rfl ⟨_, rfl, rfl⟩ ⟨_, rfl, rfl⟩ Try.zeroValue9 (Has.imm hma) hgA) rfl ?_;
              (all_goals refine RS.pv (PV.all tab_ok rfl) rfl ?_);
              (all_goals refine RS.pv (PV.all tab_ok rfl) rfl ?_);
              (all_goals refine RS.pv (PV.all tab_ok rfl) rfl ?_);
              (all_goals refine RS.pv (PV.all tab_ok rfl) rfl ?_);
              (all_goals refine RS.pv (PV.all tab_ok rfl) rfl ?_);
              (all_goals refine RS.nil ?_))
          | (refine CS.region (id := 16) ?_;
              refine RS.pv (PV.all tab_ok rfl) rfl ?_;
              refine RS.pv (PV.all tab_ok rfl) rfl ?_;
              refine RS.lv (LV.lookupVn tab_ok rfl rfl ⟨_, rfl, rfl⟩ ⟨_, rfl, rfl⟩ Try.zeroValue9 (Has.imm hmb) hgB) rfl ?_;
              (all_goals refine RS.pv (PV.all tab_ok rfl) rfl ?_);
              (all_goals refine RS.pv (PV.all tab_ok rfl) rfl ?_);
              (all_goals refine RS.pv (PV.all tab_ok rfl) rfl ?_);
              (all_goals refine RS.pv (PV.all tab_ok rfl) rfl ?_);
              (all_goals refine RS.pv (PV.all tab_ok rfl) rfl ?_);
              (all_goals refine RS.nil ?_))
          | (refine CS.region (id := 17) ?_;
              refine RS.pv (PV.all tab_ok rfl) rfl ?_;
              refine RS.nil ?_)
          | (refine CS.region (id := 18) ?_;
              refine RS.pv (PV.all tab_ok rfl) rfl ?_;
              refine RS.pv (PV.all tab_ok rfl) rfl ?_;
              refine RS.pv (PV.all tab_ok rfl) rfl ?_;
              refine RS.nil ?_)
          | (refine CS.region (id := 19) ?_;
              refine RS.pv (PV.all tab_ok rfl) rfl ?_;
              refine RS.nil ?_)
          | (refine CS.region (id := 24) ?_;
              refine RS.pv (PV.all tab_ok rfl) rfl ?_;
              (first | refine RS.pv (PV.gtrT rfl rfl (by omega)) rfl ?_ | refine RS.pv (PV.gtrF rfl rfl (by omega)) rfl ?_ | refine RS.ifGtr rfl rfl rfl (fun h => ?_) (fun h => ?_));
              (all_goals refine RS.nil ?_))
          | (refine CS.region (id := 25) ?_;
              refine RS.pv (PV.all tab_ok rfl) rfl ?_;
              refine RS.pv (PV.all tab_ok rfl) rfl ?_;
              refine RS.pv (PV.all tab_ok rfl) rfl ?_;
              refine RS.pv (PV.all tab_ok rfl) rfl ?_;
              refine RS.pv (PV.all tab_ok rfl) rfl ?_;
              refine RS.buildSliceF tab_ok 3 rfl rfl rfl (fun bb i9 hi9 hbs => ?_);
              (all_goals (refine RS.append tab_ok (sz := 3) (bytes := 32) (k := ((names.take k).filterMap (diffAt of_ id sm A B)).length) (m := 1) (xs := diffs (((names.take k).filterMap (diffAt of_ id sm A B)))) (news := [.int .i64 of_, .int .i64 1, .string a]) rfl rfl rfl ⟨_, rfl, rfl⟩ ⟨_, rfl, rfl, rfl⟩ (by omega) hO rfl (hbs.rd _) (by intro c hc; simp at hc; rcases hc with rfl | rfl | rfl <;> rfl) (by omega) (by omega) ?_; intro v' O' hO' hnil; obtain ⟨ao', cap', rfl⟩ := SlO.shape hO'));
              (all_goals refine RS.pv (PV.all tab_ok rfl) rfl ?_);
              (all_goals refine RS.nil ?_))
          | (refine CS.region (id := 26) ?_;
              refine RS.pv (PV.add rfl rfl (by omega)) rfl ?_;
              refine RS.pv (PV.all tab_ok rfl) rfl ?_;
              refine RS.nil ?_)
          | refine CS.ret ?_
          | refine thenQ.ret ?_
          | refine blkQ.ret ?_
          | refine retQ.ret ?_
          | refine CS.block ?_
          | refine CS.exit ?_
          | refine thenQ.exit ?_
          | refine blkQ.normal ?_
          | refine blkQ.here ?_
          | refine blkQ.past rfl ?_
          | refine retQ.normal ?_)
        have e : ((names.take (k + 1)).filterMap (diffAt of_ id sm A B)) = ((names.take k).filterMap (diffAt of_ id sm A B)) ++ [⟨of_, 1, a⟩] := by rw [hnx, diffAt_l hfA]; rfl
        have el : ((names.take (k + 1)).filterMap (diffAt of_ id sm A B)).length = ((names.take k).filterMap (diffAt of_ id sm A B)).length + 1 := by rw [e, List.length_append]; rfl
        exact ⟨names.length - (k + 1), by omega, k + 1, O', ao', cap', rfl, hlt, by rw [el, e, diffs_snoc]; exact hO', by rw [el]; rfl, rfl⟩
      | some y =>
        replace hgB : mget ns a = some (.string y) := by rw [hgB, hfB]; rfl
        repeat' (first
          | refine CS.seq ?_
          | refine thenQ.normal ?_
          | refine CS.cond_true rfl ?_
          | refine CS.cond_false rfl ?_
          | refine CS.skip ?_
          | (refine CS.region (id := 13) ?_;
              (first | refine RS.pv (PV.lssT rfl rfl (by omega)) rfl ?_ | refine RS.pv (PV.lssF rfl rfl (by omega)) rfl ?_ | refine RS.ifLss rfl rfl rfl (fun h => ?_) (fun h => ?_));
              (all_goals refine RS.nil ?_))
          | (refine CS.region (id := 14) ?_;
              (first | refine RS.pv (PV.indexAddr tab_ok rfl rfl rfl (by omega)) rfl ?_ | refine RS.pv (PV.indexAddrA tab_ok rfl rfl rfl (by omega)) rfl ?_);
              refine RS.lv (LV.load1 tab_ok rfl (Has.imm g1) rfl q1) rfl ?_;
              (all_goals refine RS.pv (PV.all tab_ok rfl) rfl ?_);
              (all_goals refine RS.nil ?_))
          | (refine CS.region (id := 15) ?_;
              refine RS.pv (PV.all tab_ok rfl) rfl ?_;
              refine RS.pv (PV.all tab_ok rfl) rfl ?_;
              refine RS.lv (LV.lookupVn tab_ok rfl rfl ⟨_, rfl, rfl⟩ ⟨_, rfl, rfl⟩ Try.zeroValue9 (Has.imm hma) hgA) rfl ?_;
              (all_goals refine RS.pv (PV.all tab_ok rfl) rfl ?_);
              (all_goals refine RS.pv (PV.all tab_ok rfl) rfl ?_);
              (all_goals refine RS.pv (PV.all tab_ok rfl) rfl ?_);
              (all_goals refine RS.pv (PV.all tab_ok rfl) rfl ?_);
              (all_goals refine RS.pv (PV.all tab_ok rfl) rfl ?_);
              (all_goals refine RS.nil ?_))
          | (refine CS.region (id := 16) ?_;
              refine RS.pv (PV.all tab_ok rfl) rfl ?_;
              refine RS.pv (PV.all tab_ok rfl) rfl ?_;
              refine RS.lv (LV.lookupVs tab_ok rfl rfl ⟨_, rfl, rfl⟩ ⟨_, rfl, rfl⟩ Try.zeroValue9 (Has.imm hmb) hgB) rfl ?_;
              (all_goals refine RS.pv (PV.all tab_ok rfl) rfl ?_);
              (all_goals refine RS.pv (PV.all tab_ok rfl) rfl ?_);
              (all_goals refine RS.pv (PV.all tab_ok rfl) rfl ?_);
              (all_goals refine RS.pv (PV.all tab_ok rfl) rfl ?_);
              (all_goals refine RS.pv (PV.all tab_ok rfl) rfl ?_);
              (all_goals refine RS.nil ?_))
          | (refine CS.region (id := 17) ?_;
              refine RS.pv (PV.all tab_ok rfl) rfl ?_;
              refine RS.nil ?_)
          | (refine CS.region (id := 18) ?_;
              refine RS.pv (PV.all tab_ok rfl) rfl ?_;
              refine RS.pv (PV.all tab_ok rfl) rfl ?_;
              refine RS.pv (PV.all tab_ok rfl) rfl ?_;
              refine RS.nil ?_)
          | (refine CS.region (id := 19) ?_;
              refine RS.pv (PV.all tab_ok rfl) rfl ?_;
              refine RS.nil ?_)
          | (refine CS.region (id := 24) ?_;
              refine RS.pv (PV.all tab_ok rfl) rfl ?_;
              (first | refine RS.pv (PV.gtrT rfl rfl (by omega)) rfl ?_ | refine RS.pv (PV.gtrF rfl rfl (by omega)) rfl ?_ | refine RS.ifGtr rfl rfl rfl (fun h => ?_) (fun h => ?_));
              (all_goals refine RS.nil ?_))
          | (refine CS.region (id := 25) ?_;
              refine RS.pv (PV.all tab_ok rfl) rfl ?_;
              refine RS.pv (PV.all tab_ok rfl) rfl ?_;
              refine RS.pv (PV.all tab_ok rfl) rfl ?_;
              refine RS.pv (PV.all tab_ok rfl) rfl ?_;
              refine RS.pv (PV.all tab_ok rfl) rfl ?_;
              refine RS.buildSliceF tab_ok 3 rfl rfl rfl (fun bb i9 hi9 hbs => ?_);
              (all_goals (refine RS.append tab_ok (sz := 3) (bytes := 32) (k := ((names.take k).filterMap (diffAt of_ id sm A B)).length) (m := 1) (xs := diffs (((names.take k).filterMap (diffAt of_ id sm A B)))) (news := [.int .i64 of_, .int .i64 1, .string a]) rfl rfl rfl ⟨_, rfl, rfl⟩ ⟨_, rfl, rfl, rfl⟩ (by omega) hO rfl (hbs.rd _) (by intro c hc; simp at hc; rcases hc with rfl | rfl | rfl <;> rfl) (by omega) (by omega) ?_; intro v' O' hO' hnil; obtain ⟨ao', cap', rfl⟩ := SlO.shape hO'));
              (all_goals refine RS.pv (PV.all tab_ok rfl) rfl ?_);
              (all_goals refine RS.nil ?_))
          | (refine CS.region (id := 26) ?_;
              refine RS.pv (PV.add rfl rfl (by omega)) rfl ?_;
              refine RS.pv (PV.all tab_ok rfl) rfl ?_;
              refine RS.nil ?_)
          | refine CS.ret ?_
          | refine thenQ.ret ?_
          | refine blkQ.ret ?_
          | refine retQ.ret ?_
          | refine CS.block ?_
          | refine CS.exit ?_
          | refine thenQ.exit ?_
          | refine blkQ.normal ?_
          | refine blkQ.here ?_
          | refine blkQ.past rfl ?_
          | refine retQ.normal ?_)
        have e : ((names.take (k + 1)).filterMap (diffAt of_ id sm A B)) = ((names.take k).filterMap (diffAt of_ id sm A B)) ++ [⟨of_, 1, a⟩] := by rw [hnx, diffAt_l hfA]; rfl
        have el : ((names.take (k + 1)).filterMap (diffAt of_ id sm A B)).length = ((names.take k).filterMap (diffAt of_ id sm A B)).length + 1 := by rw [e, List.length_append]; rfl
        exact ⟨names.length - (k + 1), by omega, k + 1, O', ao', cap', rfl, hlt, by rw [el, e, diffs_snoc]; exact hO', by rw [el]; rfl, rfl⟩
    | some x =>
      replace hgA : mget ms a = some (.string x) := by rw [hgA, hfA]; rfl
      cases hfB : firstE id B a with
      | none =>
        replace hgB : mget ns a = none := by rw [hgB, hfB]; rfl
        repeat' (first
          | refine CS.seq ?_
          | refine thenQ.normal ?_
          | refine CS.cond_true rfl ?_
          | refine CS.cond_false rfl ?_
          | refine CS.skip ?_
          | (refine CS.region (id := 13) ?_;
              (first | refine RS.pv (PV.lssT rfl rfl (by omega)) rfl ?_ | refine RS.pv (PV.lssF rfl rfl (by omega)) rfl ?_ | refine RS.ifLss rfl rfl rfl (fun h => ?_) (fun h => ?_));
              (all_goals refine RS.nil ?_))
          | (refine CS.region (id := 14) ?_;
              (first | refine RS.pv (PV.indexAddr tab_ok rfl rfl rfl (by omega)) rfl ?_ | refine RS.pv (PV.indexAddrA tab_ok rfl rfl rfl (by omega)) rfl ?_);
              refine RS.lv (LV.load1 tab_ok rfl (Has.imm g1) rfl q1) rfl ?_;
              (all_goals refine RS.pv (PV.all tab_ok rfl) rfl ?_);
              (all_goals refine RS.nil ?_))
          | (refine CS.region (id := 15) ?_;
              refine RS.pv (PV.all tab_ok rfl) rfl ?_;
              refine RS.pv (PV.all tab_ok rfl) rfl ?_;
              refine RS.lv (LV.lookupVs tab_ok rfl rfl ⟨_, rfl, rfl⟩ ⟨_, rfl, rfl⟩ Try.zeroValue9 (Has.imm hma) hgA) rfl ?_;
              (all_goals refine RS.pv (PV.all tab_ok rfl) rfl ?_);
              (all_goals refine RS.pv (PV.all tab_ok rfl) rfl ?_);
              (all_goals refine RS.pv (PV.all tab_ok rfl) rfl ?_);
              (all_goals refine RS.pv (PV.all tab_ok rfl) rfl ?_);
              (all_goals refine RS.pv (PV.all tab_ok rfl) rfl ?_);
              (all_goals refine RS.nil ?_))
          | (refine CS.region (id := 16) ?_;
              refine RS.pv (PV.all tab_ok rfl) rfl ?_;
              refine RS.pv (PV.all tab_ok rfl) rfl ?_;
              refine RS.lv (LV.lookupVn tab_ok rfl rfl ⟨_, rfl, rfl⟩ ⟨_, rfl, rfl⟩ Try.zeroValue9 (Has.imm hmb) hgB) rfl ?_;
              (all_goals refine RS.pv (PV.all tab_ok rfl) rfl ?_);
              (all_goals refine RS.pv (PV.all tab_ok rfl) rfl ?_);
              (all_goals refine RS.pv (PV.all tab_ok rfl) rfl ?_);
              (all_goals refine RS.pv (PV.all tab_ok rfl) rfl ?_);
              (all_goals refine RS.pv (PV.all tab_ok rfl) rfl ?_);
              (all_goals refine RS.nil ?_))
          | (refine CS.region (id := 17) ?_;
              refine RS.pv (PV.all tab_ok rfl) rfl ?_;
              refine RS.nil ?_)
          | (refine CS.region (id := 18) ?_;
              refine RS.pv (PV.all tab_ok rfl) rfl ?_;
              refine RS.pv (PV.all tab_ok rfl) rfl ?_;
              refine RS.pv (PV.all tab_ok rfl) rfl ?_;
              refine RS.nil ?_)
          | (refine CS.region (id := 19) ?_;
              refine RS.pv (PV.all tab_ok rfl) rfl ?_;
              refine RS.nil ?_)
          | (refine CS.region (id := 20) ?_;
              refine RS.pv (PV.all tab_ok rfl) rfl ?_;
              refine RS.pv (PV.all tab_ok rfl) rfl ?_;
              refine RS.pv (PV.all tab_ok rfl) rfl ?_;
              refine RS.nil ?_)
          | (refine CS.region (id := 21) ?_;
              refine RS.pv (PV.all tab_ok rfl) rfl ?_;
              refine RS.nil ?_)
          | (refine CS.region (id := 24) ?_;
              refine RS.pv (PV.all tab_ok rfl) rfl ?_;
              (first | refine RS.pv (PV.gtrT rfl rfl (by omega)) rfl ?_ | refine RS.pv (PV.gtrF rfl rfl (by omega)) rfl ?_ | refine RS.ifGtr rfl rfl rfl (fun h => ?_) (fun h => ?_));
              (all_goals refine RS.nil ?_))
          | (refine CS.region (id := 25) ?_;
              refine RS.pv (PV.all tab_ok rfl) rfl ?_;
              refine RS.pv (PV.all tab_ok rfl) rfl ?_;
              refine RS.pv (PV.all tab_ok rfl) rfl ?_;
              refine RS.pv (PV.all tab_ok rfl) rfl ?_;
              refine RS.pv (PV.all tab_ok rfl) rfl ?_;
              refine RS.buildSliceF tab_ok 3 rfl rfl rfl (fun bb i9 hi9 hbs => ?_);
              (all_goals (refine RS.append tab_ok (sz := 3) (bytes := 32) (k := ((names.take k).filterMap (diffAt of_ id sm A B)).length) (m := 1) (xs := diffs (((names.take k).filterMap (diffAt of_ id sm A B)))) (news := [.int .i64 of_, .int .i64 2, .string a]) rfl rfl rfl ⟨_, rfl, rfl⟩ ⟨_, rfl, rfl, rfl⟩ (by omega) hO rfl (hbs.rd _) (by intro c hc; simp at hc; rcases hc with rfl | rfl | rfl <;> rfl) (by omega) (by omega) ?_; intro v' O' hO' hnil; obtain ⟨ao', cap', rfl⟩ := SlO.shape hO'));
              (all_goals refine RS.pv (PV.all tab_ok rfl) rfl ?_);
              (all_goals refine RS.nil ?_))
          | (refine CS.region (id := 26) ?_;
              refine RS.pv (PV.add rfl rfl (by omega)) rfl ?_;
              refine RS.pv (PV.all tab_ok rfl) rfl ?_;
              refine RS.nil ?_)
          | refine CS.ret ?_
          | refine thenQ.ret ?_
          | refine blkQ.ret ?_
          | refine retQ.ret ?_
          | refine CS.block ?_
          | refine CS.exit ?_
          | refine thenQ.exit ?_
          | refine blkQ.normal ?_
          | refine blkQ.here ?_
          | refine blkQ.past rfl ?_
          | refine retQ.normal ?_)
        have e : ((names.take (k + 1)).filterMap (diffAt of_ id sm A B)) = ((names.take k).filterMap (diffAt of_ id sm A B)) ++ [⟨of_, 2, a⟩] := by rw [hnx, diffAt_m hfA hfB]; rfl
        have el : ((names.take (k + 1)).filterMap (diffAt of_ id sm A B)).length = ((names.take k).filterMap (diffAt of_ id sm A B)).length + 1 := by rw [e, List.length_append]; rfl
        exact ⟨names.length - (k + 1), by omega, k + 1, O', ao', cap', rfl, hlt, by rw [el, e, diffs_snoc]; exact hO', by rw [el]; rfl, rfl⟩
      | some y =>
        replace hgB : mget ns a = some (.string y) := by rw [hgB, hfB]; rfl
        have hsx := hsm x (firstE_mem hfA).1 y (firstE_mem hfB).1
        cases hsb : sm x y with
        | true =>
          rw [hsb] at hsx
          repeat' (first
            | refine CS.seq ?_
            | refine thenQ.normal ?_
            | refine CS.cond_true rfl ?_
            | refine CS.cond_false rfl ?_
            | refine CS.skip ?_
            | (refine CS.region (id := 13) ?_;
                (first | refine RS.pv (PV.lssT rfl rfl (by omega)) rfl ?_ | refine RS.pv (PV.lssF rfl rfl (by omega)) rfl ?_ | refine RS.ifLss rfl rfl rfl (fun h => ?_) (fun h => ?_));
                (all_goals refine RS.nil ?_))
            | (refine CS.region (id := 14) ?_;
                (first | refine RS.pv (PV.indexAddr tab_ok rfl rfl rfl (by omega)) rfl ?_ | refine RS.pv (PV.indexAddrA tab_ok rfl rfl rfl (by omega)) rfl ?_);
                refine RS.lv (LV.load1 tab_ok rfl (Has.imm g1) rfl q1) rfl ?_;
                (all_goals refine RS.pv (PV.all tab_ok rfl) rfl ?_);
                (all_goals refine RS.nil ?_))
            | (refine CS.region (id := 15) ?_;
                refine RS.pv (PV.all tab_ok rfl) rfl ?_;
                refine RS.pv (PV.all tab_ok rfl) rfl ?_;
                refine RS.lv (LV.lookupVs tab_ok rfl rfl ⟨_, rfl, rfl⟩ ⟨_, rfl, rfl⟩ Try.zeroValue9 (Has.imm hma) hgA) rfl ?_;
                (all_goals refine RS.pv (PV.all tab_ok rfl) rfl ?_);
                (all_goals refine RS.pv (PV.all tab_ok rfl) rfl ?_);
                (all_goals refine RS.pv (PV.all tab_ok rfl) rfl ?_);
                (all_goals refine RS.pv (PV.all tab_ok rfl) rfl ?_);
                (all_goals refine RS.pv (PV.all tab_ok rfl) rfl ?_);
                (all_goals refine RS.nil ?_))
            | (refine CS.region (id := 16) ?_;
                refine RS.pv (PV.all tab_ok rfl) rfl ?_;
                refine RS.pv (PV.all tab_ok rfl) rfl ?_;
                refine RS.lv (LV.lookupVs tab_ok rfl rfl ⟨_, rfl, rfl⟩ ⟨_, rfl, rfl⟩ Try.zeroValue9 (Has.imm hmb) hgB) rfl ?_;
                (all_goals refine RS.pv (PV.all tab_ok rfl) rfl ?_);
                (all_goals refine RS.pv (PV.all tab_ok rfl) rfl ?_);
                (all_goals refine RS.pv (PV.all tab_ok rfl) rfl ?_);
                (all_goals refine RS.pv (PV.all tab_ok rfl) rfl ?_);
                (all_goals refine RS.pv (PV.all tab_ok rfl) rfl ?_);
                (all_goals refine RS.nil ?_))
            | (refine CS.region (id := 17) ?_;
                refine RS.pv (PV.all tab_ok rfl) rfl ?_;
                refine RS.nil ?_)
            | (refine CS.region (id := 18) ?_;
                refine RS.pv (PV.all tab_ok rfl) rfl ?_;
                refine RS.pv (PV.all tab_ok rfl) rfl ?_;
                refine RS.pv (PV.all tab_ok rfl) rfl ?_;
                refine RS.nil ?_)
            | (refine CS.region (id := 19) ?_;
                refine RS.pv (PV.all tab_ok rfl) rfl ?_;
                refine RS.nil ?_)
            | (refine CS.region (id := 20) ?_;
                refine RS.pv (PV.all tab_ok rfl) rfl ?_;
                refine RS.pv (PV.all tab_ok rfl) rfl ?_;
                refine RS.pv (PV.all tab_ok rfl) rfl ?_;
                refine RS.nil ?_)
            | (refine CS.region (id := 21) ?_;
                refine RS.pv (PV.all tab_ok rfl) rfl ?_;
                refine RS.nil ?_)
            | (refine CS.region (id := 22) ?_;
                refine RS.pv (PV.all tab_ok rfl) rfl ?_;
                refine RS.pv (PV.all tab_ok rfl) rfl ?_;
                refine RS.pv (PV.all tab_ok rfl) rfl ?_;
                (refine RS.callV (hsx _ _ (((hi1.trans hi2).trans hi4).trans hi3)) rfl rfl hsf rfl ?_; rintro v i8 L8 hi8 ⟨rfl, rfl⟩);
                (all_goals refine RS.pv (PV.all tab_ok rfl) rfl ?_);
                (all_goals refine RS.pv (PV.all tab_ok rfl) rfl ?_);
                (all_goals refine RS.nil ?_))
            | (refine CS.region (id := 24) ?_;
                refine RS.pv (PV.all tab_ok rfl) rfl ?_;
                (first | refine RS.pv (PV.gtrT rfl rfl (by omega)) rfl ?_ | refine RS.pv (PV.gtrF rfl rfl (by omega)) rfl ?_ | refine RS.ifGtr rfl rfl rfl (fun h => ?_) (fun h => ?_));
                (all_goals refine RS.nil ?_))
            | (refine CS.region (id := 26) ?_;
                refine RS.pv (PV.add rfl rfl (by omega)) rfl ?_;
                refine RS.pv (PV.all tab_ok rfl) rfl ?_;
                refine RS.nil ?_)
            | refine CS.ret ?_
            | refine thenQ.ret ?_
            | refine blkQ.ret ?_
            | refine retQ.ret ?_
            | refine CS.block ?_
            | refine CS.exit ?_
            | refine thenQ.exit ?_
            | refine blkQ.normal ?_
            | refine blkQ.here ?_
            | refine blkQ.past rfl ?_
            | refine retQ.normal ?_)
          have e : ((names.take (k + 1)).filterMap (diffAt of_ id sm A B)) = ((names.take k).filterMap (diffAt of_ id sm A B)) := by rw [hnx, diffAt_s hfA hfB hsb]; simp
          exact ⟨names.length - (k + 1), by omega, k + 1, O, oa, oc, rfl, hlt, by rw [e]; exact hO, by rw [e]; rfl, rfl⟩
        | false =>
          rw [hsb] at hsx
          repeat' (first
            | refine CS.seq ?_
            | refine thenQ.normal ?_
            | refine CS.cond_true rfl ?_
            | refine CS.cond_false rfl ?_
            | refine CS.skip ?_
            | (refine CS.region (id := 13) ?_;
                (first | refine RS.pv (PV.lssT rfl rfl (by omega)) rfl ?_ | refine RS.pv (PV.lssF rfl rfl (by omega)) rfl ?_ | refine RS.ifLss rfl rfl rfl (fun h => ?_) (fun h => ?_));
                (all_goals refine RS.nil ?_))
            | (refine CS.region (id := 14) ?_;
                (first | refine RS.pv (PV.indexAddr tab_ok rfl rfl rfl (by omega)) rfl ?_ | refine RS.pv (PV.indexAddrA tab_ok rfl rfl rfl (by omega)) rfl ?_);
                refine RS.lv (LV.load1 tab_ok rfl (Has.imm g1) rfl q1) rfl ?_;
                (all_goals refine RS.pv (PV.all tab_ok rfl) rfl ?_);
                (all_goals refine RS.nil ?_))
            | (refine CS.region (id := 15) ?_;
                refine RS.pv (PV.all tab_ok rfl) rfl ?_;
                refine RS.pv (PV.all tab_ok rfl) rfl ?_;
                refine RS.lv (LV.lookupVs tab_ok rfl rfl ⟨_, rfl, rfl⟩ ⟨_, rfl, rfl⟩ Try.zeroValue9 (Has.imm hma) hgA) rfl ?_;
                (all_goals refine RS.pv (PV.all tab_ok rfl) rfl ?_);
                (all_goals refine RS.pv (PV.all tab_ok rfl) rfl ?_);
                (all_goals refine RS.pv (PV.all tab_ok rfl) rfl ?_);
                (all_goals refine RS.pv (PV.all tab_ok rfl) rfl ?_);
                (all_goals refine RS.pv (PV.all tab_ok rfl) rfl ?_);
                (all_goals refine RS.nil ?_))
            | (refine CS.region (id := 16) ?_;
                refine RS.pv (PV.all tab_ok rfl) rfl ?_;
                refine RS.pv (PV.all tab_ok rfl) rfl ?_;
                refine RS.lv (LV.lookupVs tab_ok rfl rfl ⟨_, rfl, rfl⟩ ⟨_, rfl, rfl⟩ Try.zeroValue9 (Has.imm hmb) hgB) rfl ?_;
                (all_goals refine RS.pv (PV.all tab_ok rfl) rfl ?_);
                (all_goals refine RS.pv (PV.all tab_ok rfl) rfl ?_);
                (all_goals refine RS.pv (PV.all tab_ok rfl) rfl ?_);
                (all_goals refine RS.pv (PV.all tab_ok rfl) rfl ?_);
                (all_goals refine RS.pv (PV.all tab_ok rfl) rfl ?_);
                (all_goals refine RS.nil ?_))
            | (refine CS.region (id := 17) ?_;
                refine RS.pv (PV.all tab_ok rfl) rfl ?_;
                refine RS.nil ?_)
            | (refine CS.region (id := 18) ?_;
                refine RS.pv (PV.all tab_ok rfl) rfl ?_;
                refine RS.pv (PV.all tab_ok rfl) rfl ?_;
                refine RS.pv (PV.all tab_ok rfl) rfl ?_;
                refine RS.nil ?_)
            | (refine CS.region (id := 19) ?_;
                refine RS.pv (PV.all tab_ok rfl) rfl ?_;
                refine RS.nil ?_)
            | (refine CS.region (id := 20) ?_;
                refine RS.pv (PV.all tab_ok rfl) rfl ?_;
                refine RS.pv (PV.all tab_ok rfl) rfl ?_;
                refine RS.pv (PV.all tab_ok rfl) rfl ?_;
                refine RS.nil ?_)
            | (refine CS.region (id := 21) ?_;
                refine RS.pv (PV.all tab_ok rfl) rfl ?_;
                refine RS.nil ?_)
            | (refine CS.region (id := 22) ?_;
                refine RS.pv (PV.all tab_ok rfl) rfl ?_;
                refine RS.pv (PV.all tab_ok rfl) rfl ?_;
                refine RS.pv (PV.all tab_ok rfl) rfl ?_;
                (refine RS.callV (hsx _ _ (((hi1.trans hi2).trans hi4).trans hi3)) rfl rfl hsf rfl ?_; rintro v i8 L8 hi8 ⟨rfl, rfl⟩);
                (all_goals refine RS.pv (PV.all tab_ok rfl) rfl ?_);
                (all_goals refine RS.pv (PV.all tab_ok rfl) rfl ?_);
                (all_goals refine RS.nil ?_))
            | (refine CS.region (id := 23) ?_;
                refine RS.pv (PV.all tab_ok rfl) rfl ?_;
                refine RS.nil ?_)
            | (refine CS.region (id := 24) ?_;
                refine RS.pv (PV.all tab_ok rfl) rfl ?_;
                (first | refine RS.pv (PV.gtrT rfl rfl (by omega)) rfl ?_ | refine RS.pv (PV.gtrF rfl rfl (by omega)) rfl ?_ | refine RS.ifGtr rfl rfl rfl (fun h => ?_) (fun h => ?_));
                (all_goals refine RS.nil ?_))
            | (refine CS.region (id := 25) ?_;
                refine RS.pv (PV.all tab_ok rfl) rfl ?_;
                refine RS.pv (PV.all tab_ok rfl) rfl ?_;
                refine RS.pv (PV.all tab_ok rfl) rfl ?_;
                refine RS.pv (PV.all tab_ok rfl) rfl ?_;
                refine RS.pv (PV.all tab_ok rfl) rfl ?_;
                refine RS.buildSliceF tab_ok 3 rfl rfl rfl (fun bb i9 hi9 hbs => ?_);
                (all_goals (refine RS.append tab_ok (sz := 3) (bytes := 32) (k := ((names.take k).filterMap (diffAt of_ id sm A B)).length) (m := 1) (xs := diffs (((names.take k).filterMap (diffAt of_ id sm A B)))) (news := [.int .i64 of_, .int .i64 3, .string a]) rfl rfl rfl ⟨_, rfl, rfl⟩ ⟨_, rfl, rfl, rfl⟩ (by omega) hO rfl (hbs.rd _) (by intro c hc; simp at hc; rcases hc with rfl | rfl | rfl <;> rfl) (by omega) (by omega) ?_; intro v' O' hO' hnil; obtain ⟨ao', cap', rfl⟩ := SlO.shape hO'));
                (all_goals refine RS.pv (PV.all tab_ok rfl) rfl ?_);
                (all_goals refine RS.nil ?_))
            | (refine CS.region (id := 26) ?_;
                refine RS.pv (PV.add rfl rfl (by omega)) rfl ?_;
                refine RS.pv (PV.all tab_ok rfl) rfl ?_;
                refine RS.nil ?_)
            | refine CS.ret ?_
            | refine thenQ.ret ?_
            | refine blkQ.ret ?_
            | refine retQ.ret ?_
            | refine CS.block ?_
            | refine CS.exit ?_
            | refine thenQ.exit ?_
            | refine blkQ.normal ?_
            | refine blkQ.here ?_
            | refine blkQ.past rfl ?_
            | refine retQ.normal ?_)
          have e : ((names.take (k + 1)).filterMap (diffAt of_ id sm A B)) = ((names.take k).filterMap (diffAt of_ id sm A B)) ++ [⟨of_, 3, a⟩] := by rw [hnx, diffAt_o hfA hfB hsb]; rfl
          have el : ((names.take (k + 1)).filterMap (diffAt of_ id sm A B)).length = ((names.take k).filterMap (diffAt of_ id sm A B)).length + 1 := by rw [e, List.length_append]; rfl
          exact ⟨names.length - (k + 1), by omega, k + 1, O', ao', cap', rfl, hlt, by rw [el, e, diffs_snoc]; exact hO', by rw [el]; rfl, rfl⟩
  · have : k = names.length := by omega
    subst this
    repeat' (first
      | refine CS.seq ?_
      | refine thenQ.normal ?_
      | refine CS.cond_true rfl ?_
      | refine CS.cond_false rfl ?_
      | refine CS.skip ?_
      | (refine CS.region (id := 13) ?_;
          (first | refine RS.pv (PV.lssT rfl rfl (by omega)) rfl ?_ | refine RS.pv (PV.lssF rfl rfl (by omega)) rfl ?_ | refine RS.ifLss rfl rfl rfl (fun h => ?_) (fun h => ?_));
          (all_goals refine RS.nil ?_))
      | (refine CS.region (id := 27) ?_;
          refine RS.pv (PV.all tab_ok rfl) rfl ?_;
          refine RS.pv (PV.all tab_ok rfl) rfl ?_;
          refine RS.nil ?_)
      | refine CS.ret ?_
      | refine thenQ.ret ?_
      | refine blkQ.ret ?_
      | refine retQ.ret ?_
      | refine CS.block ?_
      | refine CS.exit ?_
      | refine thenQ.exit ?_
      | refine blkQ.normal ?_
      | refine blkQ.here ?_
      | refine blkQ.past rfl ?_
      | refine retQ.normal ?_)
    refine ⟨((names.take (names.length)).filterMap (diffAt of_ id sm A B)), O, _, hO, rfl, ⟨names, hasc, hmn', by rw [List.take_length]⟩, ?_⟩
    have := take_filterMap_len (f := diffAt of_ id sm A B) (Nat.le_refl names.length)
    omega
end Go.Proofs.Ytmcajldlcomegaa
