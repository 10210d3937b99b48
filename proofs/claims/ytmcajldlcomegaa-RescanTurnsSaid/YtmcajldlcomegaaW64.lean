/- RescanTurns, part 2: Records. -/
import Derived.Test.YtmcajldlcomegaaW63
namespace Go.Proofs.Ytmcajldlcomegaa
open Go Go.Eng

theorem rowC_append {E : Type} (cl : E → List Value) (a b : List E) : rowC cl (a ++ b) = rowC cl a ++ rowC cl b := by simp [rowC]
theorem rowC_ins {E : Type} {cl : E → List Value} {sz : Nat} {es : List E} (h : ∀ e ∈ es, (cl e).length = sz) (e : E) {j : Nat} (hj : j ≤ es.length) :
    (rowC cl es).take (j * sz) ++ (cl e ++ (rowC cl es).drop (j * sz)) = rowC cl (es.take j ++ e :: es.drop j) := by
  have hl : (rowC cl (es.take j)).length = j * sz := by
    rw [rowC_len (sz := sz) fun x hx => h x (List.mem_of_mem_take hx), List.length_take, Nat.min_eq_left hj]
  have he : rowC cl es = rowC cl (es.take j) ++ rowC cl (es.drop j) := by rw [← rowC_append, List.take_append_drop]
  have h1 : (rowC cl es).take (j * sz) = rowC cl (es.take j) := by rw [he, ← hl, List.take_left']; rfl
  have h2 : (rowC cl es).drop (j * sz) = rowC cl (es.drop j) := by rw [he, ← hl, List.drop_left']; rfl
  rw [h1, h2, rowC_append]; rfl
/-- elements of a row of made records -/
def RecsV (i : Imm) (es : List (List Value × Rec)) : Prop := ∀ p ∈ es, RecV i p.1 p.2 ∧ p.2.small ∧ p.2.path.size ≤ maxLen
theorem Has.mono {i i' : Imm} {L : SH} {b : Nat} {o : Obj} (h : Has i L b o) (hi : i.le i') : Has i' L b o := h.imp_left (hi.blk b o)
theorem RecsV.nil (i : Imm) : RecsV i [] := fun p hp => by cases hp
theorem RecsV.le {i i' : Imm} {es : List (List Value × Rec)} (h : RecsV i es) (hi : i.le i') : RecsV i' es := fun p hp => ⟨(h p hp).1.le hi, (h p hp).2⟩
theorem RecsV.els {i : Imm} {es : List (List Value × Rec)} (h : RecsV i es) : ElsOk Prod.fst rnm 12 es := els_recs (fun p hp => (h p hp).1) fun p hp => (h p hp).2
theorem RecsV.ins {i : Imm} {es : List (List Value × Rec)} (h : RecsV i es) {p : List Value × Rec} (hp : RecV i p.1 p.2 ∧ p.2.small ∧ p.2.path.size ≤ maxLen) (j : Nat) : RecsV i (es.take j ++ p :: es.drop j) := by
  intro q hq
  rw [List.mem_append, List.mem_cons] at hq
  rcases hq with hq | rfl | hq
  · exact h q (List.mem_of_mem_take hq)
  · exact hp
  · exact h q (List.mem_of_mem_drop hq)
theorem Records0_s (tp : Nat) (lv : Value) (at_ : Int) (i : Imm) (R : SH) (hl : IntSl i lv) (ha : 0 ≤ at_ ∧ at_ ≤ 1000000) :
    FnS Try.prog 42 [.pointer (some ⟨tp, 0, none⟩), .int .i64 5] i ((tp, tapeO lv at_) :: R) fun v i' L' => ∃ (es : List (List Value × Rec)) (at' : Int) (O : SH), SlO 36 v 12 es.length (rowC Prod.fst es) O ∧ RecsV i' es ∧ es.length ≤ 5 ∧ at_ ≤ at' ∧ at' ≤ at_ + 300 ∧ L' = (tp, tapeO lv at') :: (O ++ R) := by
  have hmx : (30 : Nat) ≤ maxLen := by decide
  refine FnS.intro1 Try.func42 rfl Try.ntmps42 (by simp) Try.results42 ?_
  repeat' (first
    | refine CS.seq ?_
    | refine thenQ.normal ?_
    | refine CS.cond_true rfl ?_
    | refine CS.cond_false rfl ?_
    | refine CS.skip ?_
    | (refine CS.region (id := 0) ?_;
        refine RS.pv (PV.all tab_ok rfl) rfl ?_;
        refine RS.nil ?_)
    | (refine CS.region (id := 1) ?_;
        refine RS.pv (PV.all tab_ok rfl) rfl ?_;
        refine RS.nil ?_)
    | (refine CS.region (id := 2) ?_;
        refine RS.pv (PV.all tab_ok rfl) rfl ?_;
        refine RS.nil ?_)
    | refine CS.ret ?_
    | refine thenQ.ret ?_
    | refine blkQ.ret ?_
    | refine retQ.ret ?_
    | refine CS.block ?_
    | refine CS.exit ?_
    | refine thenQ.exit ?_
    | refine blkQ.normal ?_
    | refine blkQ.here ?_
    | refine blkQ.past rfl ?_
    | refine retQ.normal ?_)
  refine CS.loop [0, 1, 5, 6] (fun n vs i' L' => ∃ (k : Nat) (es : List (List Value × Rec)) (at' : Int) (O : SH) (oo : Option Addr) (oc : Nat), n = 5 - k ∧ k ≤ 5 ∧ es.length ≤ k ∧ SlO 36 (.slice oo es.length oc) 12 es.length (rowC Prod.fst es) O ∧ RecsV i' es ∧ IntSl i' lv ∧ at_ ≤ at' ∧ at' ≤ at_ + 50 * (k : Int) ∧ vs = [.pointer (some ⟨tp, 0, none⟩), .int .i64 5, .slice oo es.length oc, .int .i64 (k : Int)] ∧ L' = (tp, tapeO lv at') :: (O ++ R)) 5 ⟨0, [], at_, [], none, 0, rfl, by omega, Nat.le_refl _, SlO.nil 36 12, RecsV.nil i, hl, Int.le_refl _, by omega, rfl, rfl⟩ ?_
  rintro n g vs i0 L' _ ⟨k, es, at1, O, oo, oc, rfl, hk, hek, hO, hes, hl, ha1, ha2, rfl, rfl⟩
  by_cases hlt : k < 5
  · repeat' (first
      | refine CS.seq ?_
      | refine thenQ.normal ?_
      | refine CS.cond_true rfl ?_
      | refine CS.cond_false rfl ?_
      | refine CS.skip ?_
      | (refine CS.region (id := 0) ?_;
          refine RS.pv (PV.all tab_ok rfl) rfl ?_;
          refine RS.nil ?_)
      | (refine CS.region (id := 1) ?_;
          refine RS.pv (PV.all tab_ok rfl) rfl ?_;
          refine RS.nil ?_)
      | (refine CS.region (id := 2) ?_;
          refine RS.pv (PV.all tab_ok rfl) rfl ?_;
          refine RS.nil ?_)
      | (refine CS.region (id := 3) ?_;
          refine RS.pv (PV.all tab_ok rfl) rfl ?_;
          refine RS.pv (PV.all tab_ok rfl) rfl ?_;
          (first | refine RS.pv (PV.lssT rfl rfl (by omega)) rfl ?_ | refine RS.pv (PV.lssF rfl rfl (by omega)) rfl ?_ | refine RS.ifLss rfl rfl rfl (fun h => ?_) (fun h => ?_));
          (all_goals refine RS.nil ?_))
      | (refine CS.region (id := 4) ?_;
          refine RS.pv (PV.all tab_ok rfl) rfl ?_;
          refine RS.pv (PV.add rfl rfl (by omega)) rfl ?_;
          refine RS.pv (PV.all tab_ok rfl) rfl ?_;
          refine RS.nil ?_)
      | (refine CS.region (id := 5) ?_;
          refine RS.pv (PV.all tab_ok rfl) rfl ?_;
          refine RS.pv (PV.all tab_ok rfl) rfl ?_;
          (refine RS.call (Path_z tp 0 lv at1 _ _ hl (by omega) rfl) rfl (by kernel_rfl) rfl ?_; rintro v i1 L1 hi1 ⟨s, at2, rfl, hs, ha3, ha4, rfl⟩; replace hl := hl.le hi1);
          (all_goals refine RS.pv (PV.all tab_ok rfl) rfl ?_);
          (all_goals refine RS.pv (PV.mul rfl rfl (by omega)) rfl ?_);
          (all_goals refine RS.pv (PV.add rfl rfl (by omega)) rfl ?_);
          (all_goals refine RS.pv (PV.all tab_ok rfl) rfl ?_);
          (all_goals (refine RS.call (Next_s tp 0 lv at2 3 _ _ (by omega) hl (by omega) rfl) rfl (by kernel_rfl) rfl ?_; rintro v i2 L2 hi2 ⟨⟨x, rfl⟩, rfl, rfl⟩; have hx := foldI_bd x (n := 3) (by omega)));
          (all_goals refine RS.pv (PV.add rfl rfl (by omega)) rfl ?_);
          (all_goals (refine RS.call (Record_s tp 0 lv (at2 + 1) s _ _ _ hl (by omega) rfl) rfl (by kernel_rfl) rfl ?_; rintro v i3 L3 hi3 ⟨rc, r, at3, rfl, hr, hmade, ha5, ha6, rfl⟩; obtain ⟨a2, c2, a3, c3, a4, c4, a5, c5, a6, c6, hrc⟩ := hr.lit; generalize hrcv : rc = rc' at hrc; subst hrc));
          (all_goals refine RS.alloc tab_ok rfl rfl (fun b7 => ?_));
          (all_goals (refine RS.storeW (k := 0) tab_ok rfl rfl rfl rfl rfl (by simp) rfl ?_; refine RS.freeze (fun i4 hi4 hb => ?_)));
          (all_goals refine RS.nil ?_))
      | (refine CS.region (id := 6) ?_;
          refine RS.pv (PV.all tab_ok rfl) rfl ?_;
          refine RS.nil ?_)
      | refine CS.ret ?_
      | refine thenQ.ret ?_
      | refine blkQ.ret ?_
      | refine retQ.ret ?_
      | refine CS.block ?_
      | refine CS.exit ?_
      | refine thenQ.exit ?_
      | refine blkQ.normal ?_
      | refine blkQ.here ?_
      | refine blkQ.past rfl ?_
      | refine retQ.normal ?_)
    have hp : r.path = s := hmade.path
    have hok := hmade.ok.small
    replace hr := hr.le hi4
    replace hl := (hl.le hi3).le hi4
    replace hes := ((hes.le hi1).le (hi2.trans hi3)).le hi4
    have hP : RecV i4 (rc, r).1 (rc, r).2 ∧ (rc, r).2.small ∧ (rc, r).2.path.size ≤ maxLen := ⟨hr, hok, by show r.path.size ≤ _; rw [hp]; omega⟩
    have hin := hes.els
    refine CS.loop [0, 1, 5, 6, 7, 8] (fun m vs i' L' => ∃ j : Nat, m = es.length - j ∧ j ≤ es.length ∧ i4.le i' ∧ vs = [.pointer (some ⟨tp, 0, none⟩), .int .i64 5, .slice oo es.length oc, .int .i64 (k : Int), .pointer (some ⟨b7, 0, none⟩), .int .i64 (j : Int)] ∧ (tp, tapeO lv at3) :: (O ++ R) = L') es.length ⟨0, rfl, Nat.zero_le _, Imm.le.refl i4, rfl, rfl⟩ ?_
    rintro m g vs i' L' _ ⟨j, rfl, hj, hi', rfl, rfl⟩
    obtain ⟨hcap, hadr⟩ := hO.addr
    have hRd : Rd i' ((tp, tapeO lv at3) :: (O ++ R)) (.slice oo es.length oc) 12 es.length (rowC Prod.fst es) := (hO.rd (L := (tp, tapeO lv at3) :: R)).perm List.perm_middle
    replace hb := hi'.blk _ _ hb
    replace hP : RecV i' (rc, r).1 (rc, r).2 ∧ (rc, r).2.small ∧ (rc, r).2.path.size ≤ maxLen := ⟨hP.1.le hi', hP.2⟩
    replace hes := hes.le hi'
    replace hl := hl.le hi'
    have hadr1 : oo = none ∨ ∃ b o, oo = some ⟨b, o, none⟩ := hadr.imp And.left fun ⟨g, h⟩ => ⟨g, 0, h⟩
    have hcells := rowC_ins hin.len (rc, r) hj
    have hlen : j + (1 + (es.length - j)) = (es.take j ++ (rc, r) :: es.drop j).length := by simp; omega
    have hone : ∀ c ∈ rc ++ (rowC Prod.fst es).drop (j * 12), c.oneCell' = true := by
      intro c hc
      rcases List.mem_append.1 hc with hc | hc
      · have h1 : RecsV i' [(rc, r)] := fun p hp => by rw [List.mem_singleton.1 hp]; exact hP
        exact h1.els.one (rc, r) (List.mem_singleton.2 rfl) c hc
      · obtain ⟨p, hp, hc⟩ := List.mem_flatMap.1 (List.mem_of_mem_drop hc)
        exact hin.one p hp c hc
    by_cases hjl : j < es.length
    · obtain ⟨e, hej⟩ : ∃ e, es[j]? = some e := ⟨_, List.getElem?_eq_getElem hjl⟩
      obtain ⟨eb, eo, ecs, et, efz, ecap, hev, ehas, eat⟩ := hRd.at hjl (by omega)
      cases hev
      have q := eat 0 (by omega)
      rw [rowC_at hin.len hej 0 (by omega)] at q
      have hee := hes e (List.mem_of_getElem? hej)
      have q0 : e.1[0]? = some (.string e.2.path) := by obtain ⟨_, _, _, _, _, _, _, _, _, _, h⟩ := hee.1.lit; rw [h]; rfl
      rw [q0] at q
      repeat' (first
        | refine CS.seq ?_
        | refine thenQ.normal ?_
        | refine CS.cond_true rfl ?_
        | refine CS.cond_false rfl ?_
        | refine CS.skip ?_
        | (refine CS.region (id := 0) ?_;
            refine RS.pv (PV.all tab_ok rfl) rfl ?_;
            refine RS.nil ?_)
        | (refine CS.region (id := 1) ?_;
            refine RS.pv (PV.all tab_ok rfl) rfl ?_;
            refine RS.nil ?_)
        | (refine CS.region (id := 2) ?_;
            refine RS.pv (PV.all tab_ok rfl) rfl ?_;
            refine RS.nil ?_)
        | (refine CS.region (id := 3) ?_;
            refine RS.pv (PV.all tab_ok rfl) rfl ?_;
            refine RS.pv (PV.all tab_ok rfl) rfl ?_;
            (first | refine RS.pv (PV.lssT rfl rfl (by omega)) rfl ?_ | refine RS.pv (PV.lssF rfl rfl (by omega)) rfl ?_ | refine RS.ifLss rfl rfl rfl (fun h => ?_) (fun h => ?_));
            (all_goals refine RS.nil ?_))
        | (refine CS.region (id := 4) ?_;
            refine RS.pv (PV.all tab_ok rfl) rfl ?_;
            refine RS.pv (PV.add rfl rfl (by omega)) rfl ?_;
            refine RS.pv (PV.all tab_ok rfl) rfl ?_;
            refine RS.nil ?_)
        | (refine CS.region (id := 5) ?_;
            refine RS.pv (PV.all tab_ok rfl) rfl ?_;
            refine RS.pv (PV.all tab_ok rfl) rfl ?_)
        | (refine CS.region (id := 6) ?_;
            refine RS.pv (PV.all tab_ok rfl) rfl ?_;
            refine RS.nil ?_)
        | refine CS.ret ?_
        | refine thenQ.ret ?_
        | refine blkQ.ret ?_
        | refine retQ.ret ?_
        | refine CS.block ?_
        | refine CS.exit ?_
        | refine thenQ.exit ?_
        | refine blkQ.normal ?_
        | refine blkQ.here ?_
        | refine blkQ.past rfl ?_
        | refine retQ.normal ?_)
      refine CS.draw0 mix [0, 1, 2, 3, 4, 5, 6, 7, 8, 9, 10, 11, 12] [13] (by kernel_rfl) rfl ?_
      refine GS.pv (PV.all tab_ok rfl) rfl rfl rfl rfl rfl rfl ?_
      refine GS.pv (PV.all tab_ok rfl) rfl rfl rfl rfl rfl rfl ?_
      (first | refine GS.pv (PV.lenS tab_ok rfl rfl) rfl rfl rfl rfl rfl rfl ?_ | refine GS.pv (PV.lenT tab_ok rfl rfl) rfl rfl rfl rfl rfl rfl ?_)
      (first | refine GS.pv (PV.lssT rfl rfl (by omega)) rfl rfl rfl rfl rfl rfl ?_ | refine GS.pv (PV.lssF rfl rfl (by omega)) rfl rfl rfl rfl rfl rfl ?_ | refine GS.ifLss rfl rfl rfl rfl rfl rfl rfl (fun h => ?_) (fun h => ?_))
      (all_goals refine GS.pv (PV.all tab_ok rfl) rfl rfl rfl rfl rfl rfl ?_)
      (all_goals (first | refine GS.pv (PV.all tab_ok rfl) rfl rfl rfl rfl rfl rfl ?_ | refine GS.skip rfl rfl rfl rfl rfl ?_))
      (all_goals (first | refine GS.pv (PV.all tab_ok rfl) rfl rfl rfl rfl rfl rfl ?_ | refine GS.skip rfl rfl rfl rfl rfl ?_))
      (all_goals (first | refine GS.pv (PV.indexAddr tab_ok rfl rfl rfl (by omega)) rfl rfl rfl rfl rfl rfl ?_ | refine GS.pv (PV.indexAddrA tab_ok rfl rfl rfl (by omega)) rfl rfl rfl rfl rfl rfl ?_ | refine GS.skip rfl rfl rfl rfl rfl ?_))
      (all_goals (first | refine GS.pv (PV.all tab_ok rfl) rfl rfl rfl rfl rfl rfl ?_ | refine GS.skip rfl rfl rfl rfl rfl ?_))
      refine GS.lv (fun _i _hi => LV.load1 tab_ok rfl (Has.mono ehas _hi) rfl q) rfl rfl rfl rfl rfl rfl ?_
      (first | refine GS.pv (PV.all tab_ok rfl) rfl rfl rfl rfl rfl rfl ?_ | refine GS.skip rfl rfl rfl rfl rfl ?_)
      (first | refine GS.lv (fun _i _hi => LV.load tab_ok rfl (Has.imm (_hi.blk _ _ hb)) rfl) rfl rfl rfl rfl rfl rfl ?_ | refine GS.skip rfl rfl rfl rfl rfl ?_)
      refine GS.fact0 (fun (_ : Imm) v => ∃ b, v = Value.bool b) (fun _ _ _ _ h => h) rfl rfl rfl rfl rfl rfl (fun i' hi => OpS.call (by kernel_rfl) rfl (before_82 _ _ i' _ hee.2.2 hP.2.2) (fun _ _ _ _ h => h)) ?_
      refine GS.done rfl rfl (fun i5 hi5 => ?_)
      rintro v36 ⟨b, rfl⟩
      replace ehas := Has.mono ehas hi5; replace hb := hi5.blk _ _ hb; replace hes := hes.le hi5; replace hl := hl.le hi5; replace hi' := hi'.trans hi5
      replace hP : RecV i5 (rc, r).1 (rc, r).2 ∧ (rc, r).2.small ∧ (rc, r).2.path.size ≤ maxLen := ⟨hP.1.le hi5, hP.2⟩
      refine RS.pv (PV.all tab_ok rfl) rfl ?_
      refine RS.nil ?_
      refine thenQ.normal ?_
      cases b
      · repeat' (first
          | refine CS.seq ?_
          | refine thenQ.normal ?_
          | refine CS.cond_true rfl ?_
          | refine CS.cond_false rfl ?_
          | refine CS.skip ?_
          | (refine CS.region (id := 0) ?_;
              refine RS.pv (PV.all tab_ok rfl) rfl ?_;
              refine RS.nil ?_)
          | (refine CS.region (id := 1) ?_;
              refine RS.pv (PV.all tab_ok rfl) rfl ?_;
              refine RS.nil ?_)
          | (refine CS.region (id := 2) ?_;
              refine RS.pv (PV.all tab_ok rfl) rfl ?_;
              refine RS.nil ?_)
          | (refine CS.region (id := 4) ?_;
              refine RS.pv (PV.all tab_ok rfl) rfl ?_;
              refine RS.pv (PV.add rfl rfl (by omega)) rfl ?_;
              refine RS.pv (PV.all tab_ok rfl) rfl ?_;
              refine RS.nil ?_)
          | (refine CS.region (id := 5) ?_;
              refine RS.pv (PV.all tab_ok rfl) rfl ?_;
              refine RS.pv (PV.all tab_ok rfl) rfl ?_)
          | (refine CS.region (id := 6) ?_;
              refine RS.pv (PV.all tab_ok rfl) rfl ?_;
              refine RS.nil ?_)
          | (refine CS.drawQ (id := 7) mix (by kernel_rfl) ?_;
              refine QS.pv (PV.all tab_ok rfl) rfl ?_;
              refine QS.pv (PV.all tab_ok rfl) rfl ?_;
              (first | refine QS.pv (PV.lenS tab_ok rfl rfl) rfl ?_ | refine QS.pv (PV.lenT tab_ok rfl rfl) rfl ?_);
              (first | refine QS.pv (PV.lssT rfl rfl (by omega)) rfl ?_ | refine QS.pv (PV.lssF rfl rfl (by omega)) rfl ?_ | refine QS.ifLss rfl rfl rfl (fun h => ?_) (fun h => ?_));
              (all_goals refine QS.pv (PV.all tab_ok rfl) rfl ?_);
              (all_goals (first | refine QS.pv (PV.all tab_ok rfl) rfl ?_ | refine QS.skip rfl ?_));
              (all_goals (first | refine QS.pv (PV.all tab_ok rfl) rfl ?_ | refine QS.skip rfl ?_));
              (all_goals (first | refine QS.pv (PV.indexAddr tab_ok rfl rfl rfl (by omega)) rfl ?_ | refine QS.pv (PV.indexAddrA tab_ok rfl rfl rfl (by omega)) rfl ?_ | refine QS.skip rfl ?_));
              (all_goals (first | refine QS.pv (PV.all tab_ok rfl) rfl ?_ | refine QS.skip rfl ?_));
              (all_goals (first | refine QS.lv (LV.load tab_ok rfl (Has.own 0 rfl) rfl) rfl ?_ | refine QS.lv (LV.load tab_ok rfl (Has.own 1 rfl) rfl) rfl ?_ | refine QS.lv (LV.load tab_ok rfl (Has.own 2 rfl) rfl) rfl ?_ | refine QS.skip rfl ?_));
              (all_goals (first | refine QS.pv (PV.all tab_ok rfl) rfl ?_ | refine QS.skip rfl ?_));
              (all_goals (first | refine QS.lv (LV.load tab_ok rfl (Has.own 0 rfl) rfl) rfl ?_ | refine QS.lv (LV.load tab_ok rfl (Has.own 1 rfl) rfl) rfl ?_ | refine QS.lv (LV.load tab_ok rfl (Has.own 2 rfl) rfl) rfl ?_ | refine QS.skip rfl ?_)))
          | (refine CS.drawQ (id := 9) mix (by kernel_rfl) ?_;
              refine QS.pv (PV.all tab_ok rfl) rfl ?_;
              refine QS.pv (PV.all tab_ok rfl) rfl ?_;
              (first | refine QS.pv (PV.lenS tab_ok rfl rfl) rfl ?_ | refine QS.pv (PV.lenT tab_ok rfl rfl) rfl ?_);
              (first | refine QS.pv (PV.lssT rfl rfl (by omega)) rfl ?_ | refine QS.pv (PV.lssF rfl rfl (by omega)) rfl ?_ | refine QS.ifLss rfl rfl rfl (fun h => ?_) (fun h => ?_));
              (all_goals refine QS.pv (PV.all tab_ok rfl) rfl ?_);
              (all_goals (first | refine QS.pv (PV.all tab_ok rfl) rfl ?_ | refine QS.skip rfl ?_));
              (all_goals (first | refine QS.pv (PV.all tab_ok rfl) rfl ?_ | refine QS.skip rfl ?_));
              (all_goals (first | refine QS.pv (PV.indexAddr tab_ok rfl rfl rfl (by omega)) rfl ?_ | refine QS.pv (PV.indexAddrA tab_ok rfl rfl rfl (by omega)) rfl ?_ | refine QS.skip rfl ?_));
              (all_goals (first | refine QS.pv (PV.all tab_ok rfl) rfl ?_ | refine QS.skip rfl ?_));
              (all_goals refine QS.lv (LV.load1 tab_ok rfl ehas rfl q) rfl ?_);
              (all_goals (first | refine QS.pv (PV.all tab_ok rfl) rfl ?_ | refine QS.skip rfl ?_));
              (all_goals refine QS.lv (LV.load tab_ok rfl (Has.imm hb) rfl) rfl ?_);
              (all_goals (first | refine QS.pv (PV.all tab_ok rfl) rfl ?_ | refine QS.pv (PV.eqlT rfl rfl (by omega)) rfl ?_ | refine QS.pv (PV.eqlF rfl rfl (by omega)) rfl ?_ | refine QS.ifEql rfl rfl rfl (fun h => ?_) (fun h => ?_) | refine QS.ifSeql rfl rfl rfl (fun h => ?_) (fun h => ?_) | refine QS.skip rfl ?_));
              (all_goals refine QS.pv (PV.all tab_ok rfl) rfl ?_);
              (all_goals refine QS.nil ?_))
          | (refine CS.region (id := 11) ?_;
              refine RS.pv (PV.all tab_ok rfl) rfl ?_;
              refine RS.pv (PV.all tab_ok rfl) rfl ?_;
              refine RS.nil ?_)
          | refine CS.ret ?_
          | refine thenQ.ret ?_
          | refine blkQ.ret ?_
          | refine retQ.ret ?_
          | refine CS.block ?_
          | refine CS.exit ?_
          | refine thenQ.exit ?_
          | refine blkQ.normal ?_
          | refine blkQ.here ?_
          | refine blkQ.past rfl ?_
          | refine retQ.normal ?_)
        · exact ⟨5 - (k + 1), by omega, k + 1, es, at3, O, _, oc, rfl, hlt, by omega, hO, hes, hl, by omega, by omega, rfl, rfl⟩
        · refine CS.draw0 mix [0, 1, 2, 3, 4, 5, 6, 7, 8] [9, 10] (by kernel_rfl) rfl ?_
          refine GS.pv (PV.all tab_ok rfl) rfl rfl rfl rfl rfl rfl ?_
          refine GS.pv (PV.all tab_ok rfl) rfl rfl rfl rfl rfl rfl ?_
          refine GS.pv (PV.sliceHi (sz := 12) tab_ok rfl rfl rfl hadr1 ⟨by omega, by omega⟩) rfl rfl rfl rfl rfl rfl ?_
          refine GS.lv (fun _i _hi => LV.load tab_ok rfl (Has.imm (_hi.blk _ _ hb)) rfl) rfl rfl rfl rfl rfl rfl ?_
          refine GS.fact0 (fun i v => (∃ b, v = Value.slice (some ⟨b, 0, none⟩) 1 1) ∧ Sl i v 12 1 rc) (fun _ _ hi _ ⟨h1, h2⟩ => ⟨h1, h2.le hi⟩) rfl rfl rfl rfl rfl rfl (fun i' hi => (OpS.buildSliceF (sz := 12) tab_ok rfl rfl).mono fun _ _ _ _ ⟨h1, b, h2, h3⟩ => ⟨h1, ⟨b, h2⟩, by rw [hrcv]; exact h3⟩) ?_
          refine GS.pv (PV.all tab_ok rfl) rfl rfl rfl rfl rfl rfl ?_
          refine GS.pv (PV.all tab_ok rfl) rfl rfl rfl rfl rfl rfl ?_
          refine GS.pv (PV.sliceLoA (sz := 12) tab_ok rfl rfl rfl hadr hj) rfl rfl rfl rfl rfl rfl ?_
          refine GS.factF (fun i v => Sl i v 12 (1 + (es.length - j)) (rc ++ (rowC Prod.fst es).drop (j * 12))) (fun _ _ hi _ h => h.le hi) rfl rfl rfl rfl (fun i' hi => ?_) ?_
          · rintro v58 ⟨⟨b, rfl⟩, hs58⟩
            exact ⟨rfl, OpS.appendF tab_ok (sz := 12) (k := 1) (bytes := 208) rfl rfl rfl ⟨_, rfl, rfl⟩ ⟨_, rfl, rfl, rfl⟩ (by omega) hs58 (by omega) (hO.tailRd (L := (tp, tapeO lv at3) :: R) hj List.perm_middle) (by omega) (by omega) (fun v' i'' _ h => ⟨rfl, h⟩)⟩
          refine GS.done rfl rfl (fun i5 hi5 => ?_)
          rintro v62 h62 v58 -
          refine RS.perm (L' := O ++ ((tp, tapeO lv at3) :: R)) List.perm_middle.symm ?_
          refine RS.append tab_ok (sz := 12) (bytes := 208) (k := j) (m := 1 + (es.length - j)) (xs := (rowC Prod.fst es).take (j * 12)) (news := rc ++ (rowC Prod.fst es).drop (j * 12)) rfl rfl rfl ⟨_, rfl, rfl⟩ ⟨_, rfl, rfl, rfl⟩ (by omega) (hO.takeO hj) rfl (h62.rd _) hone (by omega) (by omega) ?_
          intro v' O' hO' _
          obtain ⟨ao', cap2, rfl⟩ := SlO.shape hO'
          rw [hcells, hlen] at hO'
          refine RS.perm List.perm_middle ?_
          refine RS.pv (PV.all tab_ok rfl) rfl ?_
          refine RS.nil ?_
          repeat' (first
            | refine CS.seq ?_
            | refine thenQ.normal ?_
            | refine CS.cond_true rfl ?_
            | refine CS.cond_false rfl ?_
            | refine CS.skip ?_
            | (refine CS.region (id := 0) ?_;
                refine RS.pv (PV.all tab_ok rfl) rfl ?_;
                refine RS.nil ?_)
            | (refine CS.region (id := 1) ?_;
                refine RS.pv (PV.all tab_ok rfl) rfl ?_;
                refine RS.nil ?_)
            | (refine CS.region (id := 2) ?_;
                refine RS.pv (PV.all tab_ok rfl) rfl ?_;
                refine RS.nil ?_)
            | (refine CS.region (id := 4) ?_;
                refine RS.pv (PV.all tab_ok rfl) rfl ?_;
                refine RS.pv (PV.add rfl rfl (by omega)) rfl ?_;
                refine RS.pv (PV.all tab_ok rfl) rfl ?_;
                refine RS.nil ?_)
            | (refine CS.region (id := 5) ?_;
                refine RS.pv (PV.all tab_ok rfl) rfl ?_;
                refine RS.pv (PV.all tab_ok rfl) rfl ?_)
            | (refine CS.region (id := 6) ?_;
                refine RS.pv (PV.all tab_ok rfl) rfl ?_;
                refine RS.nil ?_)
            | (refine CS.drawQ (id := 7) mix (by kernel_rfl) ?_;
                refine QS.pv (PV.all tab_ok rfl) rfl ?_;
                refine QS.pv (PV.all tab_ok rfl) rfl ?_;
                (first | refine QS.pv (PV.lenS tab_ok rfl rfl) rfl ?_ | refine QS.pv (PV.lenT tab_ok rfl rfl) rfl ?_);
                (first | refine QS.pv (PV.lssT rfl rfl (by omega)) rfl ?_ | refine QS.pv (PV.lssF rfl rfl (by omega)) rfl ?_ | refine QS.ifLss rfl rfl rfl (fun h => ?_) (fun h => ?_));
                (all_goals refine QS.pv (PV.all tab_ok rfl) rfl ?_);
                (all_goals (first | refine QS.pv (PV.all tab_ok rfl) rfl ?_ | refine QS.skip rfl ?_));
                (all_goals (first | refine QS.pv (PV.all tab_ok rfl) rfl ?_ | refine QS.skip rfl ?_));
                (all_goals (first | refine QS.pv (PV.indexAddr tab_ok rfl rfl rfl (by omega)) rfl ?_ | refine QS.pv (PV.indexAddrA tab_ok rfl rfl rfl (by omega)) rfl ?_ | refine QS.skip rfl ?_));
                (all_goals (first | refine QS.pv (PV.all tab_ok rfl) rfl ?_ | refine QS.skip rfl ?_));
                (all_goals (first | refine QS.lv (LV.load tab_ok rfl (Has.own 0 rfl) rfl) rfl ?_ | refine QS.lv (LV.load tab_ok rfl (Has.own 1 rfl) rfl) rfl ?_ | refine QS.lv (LV.load tab_ok rfl (Has.own 2 rfl) rfl) rfl ?_ | refine QS.skip rfl ?_));
                (all_goals (first | refine QS.pv (PV.all tab_ok rfl) rfl ?_ | refine QS.skip rfl ?_));
                (all_goals (first | refine QS.lv (LV.load tab_ok rfl (Has.own 0 rfl) rfl) rfl ?_ | refine QS.lv (LV.load tab_ok rfl (Has.own 1 rfl) rfl) rfl ?_ | refine QS.lv (LV.load tab_ok rfl (Has.own 2 rfl) rfl) rfl ?_ | refine QS.skip rfl ?_)))
            | (refine CS.region (id := 8) ?_;
                refine RS.pv (PV.all tab_ok rfl) rfl ?_;
                refine RS.pv (PV.add rfl rfl (by omega)) rfl ?_;
                refine RS.pv (PV.all tab_ok rfl) rfl ?_;
                refine RS.nil ?_)
            | (refine CS.drawQ (id := 9) mix (by kernel_rfl) ?_;
                refine QS.pv (PV.all tab_ok rfl) rfl ?_;
                refine QS.pv (PV.all tab_ok rfl) rfl ?_;
                (first | refine QS.pv (PV.lenS tab_ok rfl rfl) rfl ?_ | refine QS.pv (PV.lenT tab_ok rfl rfl) rfl ?_);
                (first | refine QS.pv (PV.lssT rfl rfl (by omega)) rfl ?_ | refine QS.pv (PV.lssF rfl rfl (by omega)) rfl ?_ | refine QS.ifLss rfl rfl rfl (fun h => ?_) (fun h => ?_));
                (all_goals refine QS.pv (PV.all tab_ok rfl) rfl ?_);
                (all_goals (first | refine QS.pv (PV.all tab_ok rfl) rfl ?_ | refine QS.skip rfl ?_));
                (all_goals (first | refine QS.pv (PV.all tab_ok rfl) rfl ?_ | refine QS.skip rfl ?_));
                (all_goals (first | refine QS.pv (PV.indexAddr tab_ok rfl rfl rfl (by omega)) rfl ?_ | refine QS.pv (PV.indexAddrA tab_ok rfl rfl rfl (by omega)) rfl ?_ | refine QS.skip rfl ?_));
                (all_goals (first | refine QS.pv (PV.all tab_ok rfl) rfl ?_ | refine QS.skip rfl ?_));
                (all_goals (first | refine QS.lv (LV.load tab_ok rfl (Has.own 0 rfl) rfl) rfl ?_ | refine QS.lv (LV.load tab_ok rfl (Has.own 1 rfl) rfl) rfl ?_ | refine QS.lv (LV.load tab_ok rfl (Has.own 2 rfl) rfl) rfl ?_ | refine QS.skip rfl ?_));
                (all_goals (first | refine QS.pv (PV.all tab_ok rfl) rfl ?_ | refine QS.skip rfl ?_));
                (all_goals (first | refine QS.lv (LV.load tab_ok rfl (Has.own 0 rfl) rfl) rfl ?_ | refine QS.lv (LV.load tab_ok rfl (Has.own 1 rfl) rfl) rfl ?_ | refine QS.lv (LV.load tab_ok rfl (Has.own 2 rfl) rfl) rfl ?_ | refine QS.skip rfl ?_));
                (all_goals (first | refine QS.pv (PV.all tab_ok rfl) rfl ?_ | refine QS.pv (PV.eqlT rfl rfl (by omega)) rfl ?_ | refine QS.pv (PV.eqlF rfl rfl (by omega)) rfl ?_ | refine QS.ifEql rfl rfl rfl (fun h => ?_) (fun h => ?_) | refine QS.ifSeql rfl rfl rfl (fun h => ?_) (fun h => ?_) | refine QS.skip rfl ?_));
                (all_goals refine QS.pv (PV.all tab_ok rfl) rfl ?_);
                (all_goals refine QS.nil ?_))
            | (refine CS.drawQ (id := 10) mix (by kernel_rfl) ?_;
                refine QS.pv (PV.all tab_ok rfl) rfl ?_;
                refine QS.pv (PV.all tab_ok rfl) rfl ?_;
                refine QS.pv (PV.sliceArr tab_ok rfl rfl rfl (by omega)) rfl ?_;
                (first | refine QS.lv (LV.load tab_ok rfl (Has.own 0 rfl) rfl) rfl ?_ | refine QS.lv (LV.load tab_ok rfl (Has.own 1 rfl) rfl) rfl ?_ | refine QS.lv (LV.load tab_ok rfl (Has.own 2 rfl) rfl) rfl ?_))
            | (refine CS.region (id := 11) ?_;
                refine RS.pv (PV.all tab_ok rfl) rfl ?_;
                refine RS.pv (PV.all tab_ok rfl) rfl ?_;
                refine RS.nil ?_)
            | refine CS.ret ?_
            | refine thenQ.ret ?_
            | refine blkQ.ret ?_
            | refine retQ.ret ?_
            | refine CS.block ?_
            | refine CS.exit ?_
            | refine thenQ.exit ?_
            | refine blkQ.normal ?_
            | refine blkQ.here ?_
            | refine blkQ.past rfl ?_
            | refine retQ.normal ?_)
          exact ⟨5 - (k + 1), by omega, k + 1, es.take j ++ (rc, r) :: es.drop j, at3, O', ao', cap2, rfl, hlt, by rw [← hlen]; omega, hO', (hes.le hi5).ins ⟨hP.1.le hi5, hP.2⟩ j, hl.le hi5, by omega, by omega, by rw [← hlen]; rfl, rfl⟩
      · repeat' (first
          | refine CS.seq ?_
          | refine thenQ.normal ?_
          | refine CS.cond_true rfl ?_
          | refine CS.cond_false rfl ?_
          | refine CS.skip ?_
          | (refine CS.region (id := 0) ?_;
              refine RS.pv (PV.all tab_ok rfl) rfl ?_;
              refine RS.nil ?_)
          | (refine CS.region (id := 1) ?_;
              refine RS.pv (PV.all tab_ok rfl) rfl ?_;
              refine RS.nil ?_)
          | (refine CS.region (id := 2) ?_;
              refine RS.pv (PV.all tab_ok rfl) rfl ?_;
              refine RS.nil ?_)
          | (refine CS.region (id := 3) ?_;
              refine RS.pv (PV.all tab_ok rfl) rfl ?_;
              refine RS.pv (PV.all tab_ok rfl) rfl ?_;
              (first | refine RS.pv (PV.lssT rfl rfl (by omega)) rfl ?_ | refine RS.pv (PV.lssF rfl rfl (by omega)) rfl ?_ | refine RS.ifLss rfl rfl rfl (fun h => ?_) (fun h => ?_));
              (all_goals refine RS.nil ?_))
          | (refine CS.region (id := 4) ?_;
              refine RS.pv (PV.all tab_ok rfl) rfl ?_;
              refine RS.pv (PV.add rfl rfl (by omega)) rfl ?_;
              refine RS.pv (PV.all tab_ok rfl) rfl ?_;
              refine RS.nil ?_)
          | (refine CS.region (id := 5) ?_;
              refine RS.pv (PV.all tab_ok rfl) rfl ?_;
              refine RS.pv (PV.all tab_ok rfl) rfl ?_)
          | (refine CS.region (id := 6) ?_;
              refine RS.pv (PV.all tab_ok rfl) rfl ?_;
              refine RS.nil ?_)
          | (refine CS.region (id := 8) ?_;
              refine RS.pv (PV.all tab_ok rfl) rfl ?_;
              refine RS.pv (PV.add rfl rfl (by omega)) rfl ?_;
              refine RS.pv (PV.all tab_ok rfl) rfl ?_;
              refine RS.nil ?_)
          | (refine CS.drawQ (id := 10) mix (by kernel_rfl) ?_;
              refine QS.pv (PV.all tab_ok rfl) rfl ?_;
              refine QS.pv (PV.all tab_ok rfl) rfl ?_;
              refine QS.pv (PV.sliceArr tab_ok rfl rfl rfl (by omega)) rfl ?_;
              (first | refine QS.lv (LV.load tab_ok rfl (Has.own 0 rfl) rfl) rfl ?_ | refine QS.lv (LV.load tab_ok rfl (Has.own 1 rfl) rfl) rfl ?_ | refine QS.lv (LV.load tab_ok rfl (Has.own 2 rfl) rfl) rfl ?_))
          | (refine CS.region (id := 11) ?_;
              refine RS.pv (PV.all tab_ok rfl) rfl ?_;
              refine RS.pv (PV.all tab_ok rfl) rfl ?_;
              refine RS.nil ?_)
          | refine CS.ret ?_
          | refine thenQ.ret ?_
          | refine blkQ.ret ?_
          | refine retQ.ret ?_
          | refine CS.block ?_
          | refine CS.exit ?_
          | refine thenQ.exit ?_
          | refine blkQ.normal ?_
          | refine blkQ.here ?_
          | refine blkQ.past rfl ?_
          | refine retQ.normal ?_)
        exact ⟨es.length - (j + 1), by omega, j + 1, rfl, hjl, hi', rfl, rfl⟩
    · repeat' (first
        | refine CS.seq ?_
        | refine thenQ.normal ?_
        | refine CS.cond_true rfl ?_
        | refine CS.cond_false rfl ?_
        | refine CS.skip ?_
        | (refine CS.region (id := 0) ?_;
            refine RS.pv (PV.all tab_ok rfl) rfl ?_;
            refine RS.nil ?_)
        | (refine CS.region (id := 1) ?_;
            refine RS.pv (PV.all tab_ok rfl) rfl ?_;
            refine RS.nil ?_)
        | (refine CS.region (id := 2) ?_;
            refine RS.pv (PV.all tab_ok rfl) rfl ?_;
            refine RS.nil ?_)
        | (refine CS.region (id := 3) ?_;
            refine RS.pv (PV.all tab_ok rfl) rfl ?_;
            refine RS.pv (PV.all tab_ok rfl) rfl ?_;
            (first | refine RS.pv (PV.lssT rfl rfl (by omega)) rfl ?_ | refine RS.pv (PV.lssF rfl rfl (by omega)) rfl ?_ | refine RS.ifLss rfl rfl rfl (fun h => ?_) (fun h => ?_));
            (all_goals refine RS.nil ?_))
        | (refine CS.region (id := 4) ?_;
            refine RS.pv (PV.all tab_ok rfl) rfl ?_;
            refine RS.pv (PV.add rfl rfl (by omega)) rfl ?_;
            refine RS.pv (PV.all tab_ok rfl) rfl ?_;
            refine RS.nil ?_)
        | (refine CS.region (id := 5) ?_;
            refine RS.pv (PV.all tab_ok rfl) rfl ?_;
            refine RS.pv (PV.all tab_ok rfl) rfl ?_)
        | (refine CS.region (id := 6) ?_;
            refine RS.pv (PV.all tab_ok rfl) rfl ?_;
            refine RS.nil ?_)
        | (refine CS.drawQ (id := 7) mix (by kernel_rfl) ?_;
            refine QS.pv (PV.all tab_ok rfl) rfl ?_;
            refine QS.pv (PV.all tab_ok rfl) rfl ?_;
            (first | refine QS.pv (PV.lenS tab_ok rfl rfl) rfl ?_ | refine QS.pv (PV.lenT tab_ok rfl rfl) rfl ?_);
            (first | refine QS.pv (PV.lssT rfl rfl (by omega)) rfl ?_ | refine QS.pv (PV.lssF rfl rfl (by omega)) rfl ?_ | refine QS.ifLss rfl rfl rfl (fun h => ?_) (fun h => ?_));
            (all_goals refine QS.pv (PV.all tab_ok rfl) rfl ?_);
            (all_goals (first | refine QS.pv (PV.all tab_ok rfl) rfl ?_ | refine QS.skip rfl ?_));
            (all_goals (first | refine QS.pv (PV.all tab_ok rfl) rfl ?_ | refine QS.skip rfl ?_));
            (all_goals (first | refine QS.pv (PV.indexAddr tab_ok rfl rfl rfl (by omega)) rfl ?_ | refine QS.pv (PV.indexAddrA tab_ok rfl rfl rfl (by omega)) rfl ?_ | refine QS.skip rfl ?_));
            (all_goals (first | refine QS.pv (PV.all tab_ok rfl) rfl ?_ | refine QS.skip rfl ?_));
            (all_goals (first | refine QS.lv (LV.load tab_ok rfl (Has.own 0 rfl) rfl) rfl ?_ | refine QS.lv (LV.load tab_ok rfl (Has.own 1 rfl) rfl) rfl ?_ | refine QS.lv (LV.load tab_ok rfl (Has.own 2 rfl) rfl) rfl ?_ | refine QS.skip rfl ?_));
            (all_goals (first | refine QS.pv (PV.all tab_ok rfl) rfl ?_ | refine QS.skip rfl ?_));
            (all_goals (first | refine QS.lv (LV.load tab_ok rfl (Has.own 0 rfl) rfl) rfl ?_ | refine QS.lv (LV.load tab_ok rfl (Has.own 1 rfl) rfl) rfl ?_ | refine QS.lv (LV.load tab_ok rfl (Has.own 2 rfl) rfl) rfl ?_ | refine QS.skip rfl ?_));
            (all_goals refine QS.skip rfl ?_);
            (all_goals refine QS.pv (PV.all tab_ok rfl) rfl ?_);
            (all_goals refine QS.nil ?_))
        | (refine CS.drawQ (id := 9) mix (by kernel_rfl) ?_;
            refine QS.pv (PV.all tab_ok rfl) rfl ?_;
            refine QS.pv (PV.all tab_ok rfl) rfl ?_;
            (first | refine QS.pv (PV.lenS tab_ok rfl rfl) rfl ?_ | refine QS.pv (PV.lenT tab_ok rfl rfl) rfl ?_);
            (first | refine QS.pv (PV.lssT rfl rfl (by omega)) rfl ?_ | refine QS.pv (PV.lssF rfl rfl (by omega)) rfl ?_ | refine QS.ifLss rfl rfl rfl (fun h => ?_) (fun h => ?_));
            (all_goals refine QS.pv (PV.all tab_ok rfl) rfl ?_);
            (all_goals (first | refine QS.pv (PV.all tab_ok rfl) rfl ?_ | refine QS.skip rfl ?_));
            (all_goals (first | refine QS.pv (PV.all tab_ok rfl) rfl ?_ | refine QS.skip rfl ?_));
            (all_goals (first | refine QS.pv (PV.indexAddr tab_ok rfl rfl rfl (by omega)) rfl ?_ | refine QS.pv (PV.indexAddrA tab_ok rfl rfl rfl (by omega)) rfl ?_ | refine QS.skip rfl ?_));
            (all_goals (first | refine QS.pv (PV.all tab_ok rfl) rfl ?_ | refine QS.skip rfl ?_));
            (all_goals (first | refine QS.lv (LV.load tab_ok rfl (Has.own 0 rfl) rfl) rfl ?_ | refine QS.lv (LV.load tab_ok rfl (Has.own 1 rfl) rfl) rfl ?_ | refine QS.lv (LV.load tab_ok rfl (Has.own 2 rfl) rfl) rfl ?_ | refine QS.skip rfl ?_));
            (all_goals (first | refine QS.pv (PV.all tab_ok rfl) rfl ?_ | refine QS.skip rfl ?_));
            (all_goals (first | refine QS.lv (LV.load tab_ok rfl (Has.own 0 rfl) rfl) rfl ?_ | refine QS.lv (LV.load tab_ok rfl (Has.own 1 rfl) rfl) rfl ?_ | refine QS.lv (LV.load tab_ok rfl (Has.own 2 rfl) rfl) rfl ?_ | refine QS.skip rfl ?_));
            (all_goals (first | refine QS.pv (PV.all tab_ok rfl) rfl ?_ | refine QS.pv (PV.eqlT rfl rfl (by omega)) rfl ?_ | refine QS.pv (PV.eqlF rfl rfl (by omega)) rfl ?_ | refine QS.ifEql rfl rfl rfl (fun h => ?_) (fun h => ?_) | refine QS.ifSeql rfl rfl rfl (fun h => ?_) (fun h => ?_) | refine QS.skip rfl ?_));
            (all_goals refine QS.pv (PV.all tab_ok rfl) rfl ?_);
            (all_goals refine QS.nil ?_))
        | (refine CS.region (id := 11) ?_;
            refine RS.pv (PV.all tab_ok rfl) rfl ?_;
            refine RS.pv (PV.all tab_ok rfl) rfl ?_;
            refine RS.nil ?_)
        | refine CS.ret ?_
        | refine thenQ.ret ?_
        | refine blkQ.ret ?_
        | refine retQ.ret ?_
        | refine CS.block ?_
        | refine CS.exit ?_
        | refine thenQ.exit ?_
        | refine blkQ.normal ?_
        | refine blkQ.here ?_
        | refine blkQ.past rfl ?_
        | refine retQ.normal ?_)
      refine CS.draw0 mix [0, 1, 2, 3, 4, 5, 6, 7, 8] [9, 10] (by kernel_rfl) rfl ?_
      refine GS.pv (PV.all tab_ok rfl) rfl rfl rfl rfl rfl rfl ?_
      refine GS.pv (PV.all tab_ok rfl) rfl rfl rfl rfl rfl rfl ?_
      refine GS.pv (PV.sliceHi (sz := 12) tab_ok rfl rfl rfl hadr1 ⟨by omega, by omega⟩) rfl rfl rfl rfl rfl rfl ?_
      refine GS.lv (fun _i _hi => LV.load tab_ok rfl (Has.imm (_hi.blk _ _ hb)) rfl) rfl rfl rfl rfl rfl rfl ?_
      refine GS.fact0 (fun i v => (∃ b, v = Value.slice (some ⟨b, 0, none⟩) 1 1) ∧ Sl i v 12 1 rc) (fun _ _ hi _ ⟨h1, h2⟩ => ⟨h1, h2.le hi⟩) rfl rfl rfl rfl rfl rfl (fun i' hi => (OpS.buildSliceF (sz := 12) tab_ok rfl rfl).mono fun _ _ _ _ ⟨h1, b, h2, h3⟩ => ⟨h1, ⟨b, h2⟩, by rw [hrcv]; exact h3⟩) ?_
      refine GS.pv (PV.all tab_ok rfl) rfl rfl rfl rfl rfl rfl ?_
      refine GS.pv (PV.all tab_ok rfl) rfl rfl rfl rfl rfl rfl ?_
      refine GS.pv (PV.sliceLoA (sz := 12) tab_ok rfl rfl rfl hadr hj) rfl rfl rfl rfl rfl rfl ?_
      refine GS.factF (fun i v => Sl i v 12 (1 + (es.length - j)) (rc ++ (rowC Prod.fst es).drop (j * 12))) (fun _ _ hi _ h => h.le hi) rfl rfl rfl rfl (fun i' hi => ?_) ?_
      · rintro v58 ⟨⟨b, rfl⟩, hs58⟩
        exact ⟨rfl, OpS.appendF tab_ok (sz := 12) (k := 1) (bytes := 208) rfl rfl rfl ⟨_, rfl, rfl⟩ ⟨_, rfl, rfl, rfl⟩ (by omega) hs58 (by omega) (hO.tailRd (L := (tp, tapeO lv at3) :: R) hj List.perm_middle) (by omega) (by omega) (fun v' i'' _ h => ⟨rfl, h⟩)⟩
      refine GS.done rfl rfl (fun i5 hi5 => ?_)
      rintro v62 h62 v58 -
      refine RS.perm (L' := O ++ ((tp, tapeO lv at3) :: R)) List.perm_middle.symm ?_
      refine RS.append tab_ok (sz := 12) (bytes := 208) (k := j) (m := 1 + (es.length - j)) (xs := (rowC Prod.fst es).take (j * 12)) (news := rc ++ (rowC Prod.fst es).drop (j * 12)) rfl rfl rfl ⟨_, rfl, rfl⟩ ⟨_, rfl, rfl, rfl⟩ (by omega) (hO.takeO hj) rfl (h62.rd _) hone (by omega) (by omega) ?_
      intro v' O' hO' _
      obtain ⟨ao', cap2, rfl⟩ := SlO.shape hO'
      rw [hcells, hlen] at hO'
      refine RS.perm List.perm_middle ?_
      refine RS.pv (PV.all tab_ok rfl) rfl ?_
      refine RS.nil ?_
      repeat' (first
        | refine CS.seq ?_
        | refine thenQ.normal ?_
        | refine CS.cond_true rfl ?_
        | refine CS.cond_false rfl ?_
        | refine CS.skip ?_
        | (refine CS.region (id := 0) ?_;
            refine RS.pv (PV.all tab_ok rfl) rfl ?_;
            refine RS.nil ?_)
        | (refine CS.region (id := 1) ?_;
            refine RS.pv (PV.all tab_ok rfl) rfl ?_;
            refine RS.nil ?_)
        | (refine CS.region (id := 2) ?_;
            refine RS.pv (PV.all tab_ok rfl) rfl ?_;
            refine RS.nil ?_)
        | (refine CS.region (id := 4) ?_;
            refine RS.pv (PV.all tab_ok rfl) rfl ?_;
            refine RS.pv (PV.add rfl rfl (by omega)) rfl ?_;
            refine RS.pv (PV.all tab_ok rfl) rfl ?_;
            refine RS.nil ?_)
        | (refine CS.region (id := 5) ?_;
            refine RS.pv (PV.all tab_ok rfl) rfl ?_;
            refine RS.pv (PV.all tab_ok rfl) rfl ?_)
        | (refine CS.region (id := 6) ?_;
            refine RS.pv (PV.all tab_ok rfl) rfl ?_;
            refine RS.nil ?_)
        | (refine CS.drawQ (id := 7) mix (by kernel_rfl) ?_;
            refine QS.pv (PV.all tab_ok rfl) rfl ?_;
            refine QS.pv (PV.all tab_ok rfl) rfl ?_;
            (first | refine QS.pv (PV.lenS tab_ok rfl rfl) rfl ?_ | refine QS.pv (PV.lenT tab_ok rfl rfl) rfl ?_);
            (first | refine QS.pv (PV.lssT rfl rfl (by omega)) rfl ?_ | refine QS.pv (PV.lssF rfl rfl (by omega)) rfl ?_ | refine QS.ifLss rfl rfl rfl (fun h => ?_) (fun h => ?_));
            (all_goals refine QS.pv (PV.all tab_ok rfl) rfl ?_);
            (all_goals (first | refine QS.pv (PV.all tab_ok rfl) rfl ?_ | refine QS.skip rfl ?_));
            (all_goals (first | refine QS.pv (PV.all tab_ok rfl) rfl ?_ | refine QS.skip rfl ?_));
            (all_goals (first | refine QS.pv (PV.indexAddr tab_ok rfl rfl rfl (by omega)) rfl ?_ | refine QS.pv (PV.indexAddrA tab_ok rfl rfl rfl (by omega)) rfl ?_ | refine QS.skip rfl ?_));
            (all_goals (first | refine QS.pv (PV.all tab_ok rfl) rfl ?_ | refine QS.skip rfl ?_));
            (all_goals (first | refine QS.lv (LV.load tab_ok rfl (Has.own 0 rfl) rfl) rfl ?_ | refine QS.lv (LV.load tab_ok rfl (Has.own 1 rfl) rfl) rfl ?_ | refine QS.lv (LV.load tab_ok rfl (Has.own 2 rfl) rfl) rfl ?_ | refine QS.skip rfl ?_));
            (all_goals (first | refine QS.pv (PV.all tab_ok rfl) rfl ?_ | refine QS.skip rfl ?_));
            (all_goals (first | refine QS.lv (LV.load tab_ok rfl (Has.own 0 rfl) rfl) rfl ?_ | refine QS.lv (LV.load tab_ok rfl (Has.own 1 rfl) rfl) rfl ?_ | refine QS.lv (LV.load tab_ok rfl (Has.own 2 rfl) rfl) rfl ?_ | refine QS.skip rfl ?_)))
        | (refine CS.region (id := 8) ?_;
            refine RS.pv (PV.all tab_ok rfl) rfl ?_;
            refine RS.pv (PV.add rfl rfl (by omega)) rfl ?_;
            refine RS.pv (PV.all tab_ok rfl) rfl ?_;
            refine RS.nil ?_)
        | (refine CS.drawQ (id := 9) mix (by kernel_rfl) ?_;
            refine QS.pv (PV.all tab_ok rfl) rfl ?_;
            refine QS.pv (PV.all tab_ok rfl) rfl ?_;
            (first | refine QS.pv (PV.lenS tab_ok rfl rfl) rfl ?_ | refine QS.pv (PV.lenT tab_ok rfl rfl) rfl ?_);
            (first | refine QS.pv (PV.lssT rfl rfl (by omega)) rfl ?_ | refine QS.pv (PV.lssF rfl rfl (by omega)) rfl ?_ | refine QS.ifLss rfl rfl rfl (fun h => ?_) (fun h => ?_));
            (all_goals refine QS.pv (PV.all tab_ok rfl) rfl ?_);
            (all_goals (first | refine QS.pv (PV.all tab_ok rfl) rfl ?_ | refine QS.skip rfl ?_));
            (all_goals (first | refine QS.pv (PV.all tab_ok rfl) rfl ?_ | refine QS.skip rfl ?_));
            (all_goals (first | refine QS.pv (PV.indexAddr tab_ok rfl rfl rfl (by omega)) rfl ?_ | refine QS.pv (PV.indexAddrA tab_ok rfl rfl rfl (by omega)) rfl ?_ | refine QS.skip rfl ?_));
            (all_goals (first | refine QS.pv (PV.all tab_ok rfl) rfl ?_ | refine QS.skip rfl ?_));
            (all_goals (first | refine QS.lv (LV.load tab_ok rfl (Has.own 0 rfl) rfl) rfl ?_ | refine QS.lv (LV.load tab_ok rfl (Has.own 1 rfl) rfl) rfl ?_ | refine QS.lv (LV.load tab_ok rfl (Has.own 2 rfl) rfl) rfl ?_ | refine QS.skip rfl ?_));
            (all_goals (first | refine QS.pv (PV.all tab_ok rfl) rfl ?_ | refine QS.skip rfl ?_));
            (all_goals (first | refine QS.lv (LV.load tab_ok rfl (Has.own 0 rfl) rfl) rfl ?_ | refine QS.lv (LV.load tab_ok rfl (Has.own 1 rfl) rfl) rfl ?_ | refine QS.lv (LV.load tab_ok rfl (Has.own 2 rfl) rfl) rfl ?_ | refine QS.skip rfl ?_));
            (all_goals (first | refine QS.pv (PV.all tab_ok rfl) rfl ?_ | refine QS.pv (PV.eqlT rfl rfl (by omega)) rfl ?_ | refine QS.pv (PV.eqlF rfl rfl (by omega)) rfl ?_ | refine QS.ifEql rfl rfl rfl (fun h => ?_) (fun h => ?_) | refine QS.ifSeql rfl rfl rfl (fun h => ?_) (fun h => ?_) | refine QS.skip rfl ?_));
            (all_goals refine QS.pv (PV.all tab_ok rfl) rfl ?_);
            (all_goals refine QS.nil ?_))
        | (refine CS.drawQ (id := 10) mix (by kernel_rfl) ?_;
            refine QS.pv (PV.all tab_ok rfl) rfl ?_;
            refine QS.pv (PV.all tab_ok rfl) rfl ?_;
            refine QS.pv (PV.sliceArr tab_ok rfl rfl rfl (by omega)) rfl ?_;
            (first | refine QS.lv (LV.load tab_ok rfl (Has.own 0 rfl) rfl) rfl ?_ | refine QS.lv (LV.load tab_ok rfl (Has.own 1 rfl) rfl) rfl ?_ | refine QS.lv (LV.load tab_ok rfl (Has.own 2 rfl) rfl) rfl ?_))
        | (refine CS.region (id := 11) ?_;
            refine RS.pv (PV.all tab_ok rfl) rfl ?_;
            refine RS.pv (PV.all tab_ok rfl) rfl ?_;
            refine RS.nil ?_)
        | refine CS.ret ?_
        | refine thenQ.ret ?_
        | refine blkQ.ret ?_
        | refine retQ.ret ?_
        | refine CS.block ?_
        | refine CS.exit ?_
        | refine thenQ.exit ?_
        | refine blkQ.normal ?_
        | refine blkQ.here ?_
        | refine blkQ.past rfl ?_
        | refine retQ.normal ?_)
      exact ⟨5 - (k + 1), by omega, k + 1, es.take j ++ (rc, r) :: es.drop j, at3, O', ao', cap2, rfl, hlt, by rw [← hlen]; omega, hO', (hes.le hi5).ins ⟨hP.1.le hi5, hP.2⟩ j, hl.le hi5, by omega, by omega, by rw [← hlen]; rfl, rfl⟩
  · repeat' (first
      | refine CS.seq ?_
      | refine thenQ.normal ?_
      | refine CS.cond_true rfl ?_
      | refine CS.cond_false rfl ?_
      | refine CS.skip ?_
      | (refine CS.region (id := 0) ?_;
          refine RS.pv (PV.all tab_ok rfl) rfl ?_;
          refine RS.nil ?_)
      | (refine CS.region (id := 1) ?_;
          refine RS.pv (PV.all tab_ok rfl) rfl ?_;
          refine RS.nil ?_)
      | (refine CS.region (id := 2) ?_;
          refine RS.pv (PV.all tab_ok rfl) rfl ?_;
          refine RS.nil ?_)
      | (refine CS.region (id := 3) ?_;
          refine RS.pv (PV.all tab_ok rfl) rfl ?_;
          refine RS.pv (PV.all tab_ok rfl) rfl ?_;
          (first | refine RS.pv (PV.lssT rfl rfl (by omega)) rfl ?_ | refine RS.pv (PV.lssF rfl rfl (by omega)) rfl ?_ | refine RS.ifLss rfl rfl rfl (fun h => ?_) (fun h => ?_));
          (all_goals refine RS.nil ?_))
      | (refine CS.region (id := 4) ?_;
          refine RS.pv (PV.all tab_ok rfl) rfl ?_;
          refine RS.pv (PV.add rfl rfl (by omega)) rfl ?_;
          refine RS.pv (PV.all tab_ok rfl) rfl ?_;
          refine RS.nil ?_)
      | (refine CS.region (id := 11) ?_;
          refine RS.pv (PV.all tab_ok rfl) rfl ?_;
          refine RS.pv (PV.all tab_ok rfl) rfl ?_;
          refine RS.nil ?_)
      | refine CS.ret ?_
      | refine thenQ.ret ?_
      | refine blkQ.ret ?_
      | refine retQ.ret ?_
      | refine CS.block ?_
      | refine CS.exit ?_
      | refine thenQ.exit ?_
      | refine blkQ.normal ?_
      | refine blkQ.here ?_
      | refine blkQ.past rfl ?_
      | refine retQ.normal ?_)
    exact ⟨es, at1, O, hO, hes, by omega, ha1, by omega, rfl⟩
end Go.Proofs.Ytmcajldlcomegaa
