/- The reference's pool: its jobs, its room, giving and cancelling. -/
import Derived.Test.YtmcajldlcomegaaW26
namespace Go.Proofs.Ytmcajldlcomegaa
open Go Go.Eng

def rj (l : List (Option JobD)) (k : Nat) : List JobD := (l.take k).filterMap id
theorem rj_none {l : List (Option JobD)} {k : Nat} (h : l[k]? = some none) : rj l (k + 1) = rj l k := by
  unfold rj; rw [List.take_add_one, List.filterMap_append, h]; simp
theorem rj_some {l : List (Option JobD)} {k : Nat} {x : JobD} (h : l[k]? = some (some x)) : rj l (k + 1) = rj l k ++ [x] := by
  unfold rj; rw [List.take_add_one, List.filterMap_append, h]; simp
theorem rj_len (l : List (Option JobD)) (k : Nat) : (rj l k).length ≤ k := by
  have := List.length_filterMap_le id (l.take k)
  unfold rj; simp at this ⊢; omega
theorem rj_ods (js : List (Option JobP)) (nw : Nat) : rj (ods js nw) nw = jds js nw := by
  unfold rj ods jds
  rw [List.take_of_length_le (by simp; omega), List.filterMap_map]
  rfl
/-- a row of the reference's pool, read -/
theorem RefV.at {i : Imm} {v : Value} {nw k : Nat} {l : List (Option JobD)} {o : Option JobD} (h : RefV i v nw l) (hk : l[k]? = some o) :
    ∃ b off cs t fz cap r, v = .agg #[.slice (some ⟨b, off, none⟩) nw cap] ∧ i.blk b = some (.cells (List.toArray cs) t fz) ∧ RowV i r o ∧ ∀ d u, r[d]? = some u → cs[off + ((k : Nat) : Int).toNat * 14 + d]? = some u := by
  obtain ⟨sv, cs, rfl, hs, hrw, hl⟩ := h
  have hlt : k < nw := by rw [← hl]; exact (List.getElem?_eq_some_iff.1 hk).1
  obtain ⟨b, off, cs', t, fz, cap, rfl, hb, hc⟩ := hs.at hlt (by omega)
  obtain ⟨r, hr, hrc⟩ := Rw.at (V := RowV i) RowV.len hrw hk
  refine ⟨b, off, cs', t, fz, cap, r, rfl, hb, hr, fun d u hu => ?_⟩
  have hd : d < 14 := by rw [← RowV.len r o hr]; exact (List.getElem?_eq_some_iff.1 hu).1
  rw [hc d hd, hrc d hd, hu]
theorem rJobs_s (v : Value) (nw : Nat) (l : List (Option JobD)) (i : Imm) (L : SH) (hv : RefS i v nw l) :
    FnS Try.prog 26 [v] i L fun v' i' L' => ∃ cs, Sl i' v' 14 (rj l nw).length cs ∧ Rw (JobV i') cs (rj l nw) ∧ L' = L := by
  refine FnS.state (K := fun v' i' L' => ∃ cs O b, SlO 41 v' 14 (rj l nw).length cs O ∧ Rw (JobV i') cs (rj l nw) ∧ L'.Perm (O ++ (b :: L))) ?_ ?_
  rotate_left
  · rintro v' i' L' w _ hs ⟨cs, O, b, h1, h2, hL⟩
    obtain ⟨i2, h3, h4, h5⟩ := SlO.freeze h1 (hs.perm hL)
    exact ⟨i2, _, h3, h4.drop, cs, h5, Rw.mono h2 fun r j h => h.le h3, rfl⟩
  have hnw := hv.le
  have hl : l.length = nw := by obtain ⟨_, _, _, _, _, h⟩ := hv.ref; exact h
  obtain ⟨ao, cap, rfl⟩ := hv.ref.shape
  refine FnS.intro1 Try.func26 rfl Try.ntmps26 (by simp) Try.results26 ?_
  repeat' (first
    | refine CS.seq ?_
    | refine thenQ.normal ?_
    | refine CS.cond_true rfl ?_
    | refine CS.cond_false rfl ?_
    | refine CS.skip ?_
    | (refine CS.region (id := 0) ?_;
        refine RS.box rfl rfl (fun b1 => ?_);
        (all_goals refine RS.pv (PV.all tab_ok rfl) rfl ?_);
        (all_goals refine RS.nil ?_))
    | (refine CS.region (id := 1) ?_;
        refine RS.pv (PV.all tab_ok rfl) rfl ?_;
        refine RS.nil ?_)
    | (refine CS.region (id := 2) ?_;
        refine RS.pv (PV.all tab_ok rfl) rfl ?_;
        refine RS.nil ?_)
    | refine CS.ret ?_
    | refine thenQ.ret ?_
    | refine blkQ.ret ?_
    | refine retQ.ret ?_
    | refine CS.block ?_
    | refine CS.exit ?_
    | refine thenQ.exit ?_
    | refine blkQ.normal ?_
    | refine blkQ.here ?_
    | refine blkQ.past rfl ?_
    | refine retQ.normal ?_)
  refine CS.loop [1, 3, 4] (fun m vs i' L' => ∃ (k : Nat) (so : Option Addr) (sc : Nat) (cs : List Value) (O : SH), m = nw - k ∧ k ≤ nw ∧ i.le i' ∧ SlO 41 (.slice so (rj l k).length sc) 14 (rj l k).length cs O ∧ Rw (JobV i') cs (rj l k) ∧ vs = [.pointer (some ⟨b1, 0, none⟩), .slice so (rj l k).length sc, .int .i64 (k : Int)] ∧ L' = (b1, .cells [.slice ao nw cap].toArray 45 (0, 0)) :: (O ++ L)) nw ⟨0, none, 0, [], [], rfl, Nat.zero_le _, Imm.le.refl i, SlO.nil 41 14, Rw.nil, rfl, rfl⟩ ?_
  rintro m g vs i' L' _ ⟨k, so, sc, cs, O, rfl, hkn, hi, hsl, hrw, rfl, rfl⟩
  by_cases hlt : k < nw
  · obtain ⟨o, ho⟩ : ∃ o, l[k]? = some o := ⟨_, List.getElem?_eq_getElem (by omega)⟩
    obtain ⟨b, off, cc, t, fz, cap', r, e, hb, hr, hc⟩ := (hv.ref.le hi).at ho
    cases e
    obtain ⟨x1, x2, x3, x4, a2, n2, c2, a3, n3, c3, a4, n4, c4, a5, n5, c5, a6, n6, c6, x5, x6, x7, x8, x9, rfl, hidx⟩ := hr.lit
    have q0 := hc 0 _ rfl
    have hlen := rj_len l (k + 1)
    cases o with
    | none =>
      have e1 := rj_none ho
      have hx0 : x1 = 0 := hidx
      repeat' (first
        | refine CS.seq ?_
        | refine thenQ.normal ?_
        | refine CS.cond_true rfl ?_
        | refine CS.cond_false rfl ?_
        | refine CS.skip ?_
        | (refine CS.region (id := 0) ?_;
            refine RS.box rfl rfl (fun b => ?_);
            refine RS.pv (PV.all tab_ok rfl) rfl ?_;
            refine RS.nil ?_)
        | (refine CS.region (id := 1) ?_;
            refine RS.pv (PV.all tab_ok rfl) rfl ?_;
            refine RS.nil ?_)
        | (refine CS.region (id := 3) ?_;
            refine RS.pv (PV.all tab_ok rfl) rfl ?_;
            refine RS.pv (PV.all tab_ok rfl) rfl ?_;
            (first | refine RS.lv (LV.load tab_ok rfl (Has.own 0 rfl) rfl) rfl ?_ | refine RS.lv (LV.load tab_ok rfl (Has.own 1 rfl) rfl) rfl ?_ | refine RS.lv (LV.load tab_ok rfl (Has.own 2 rfl) rfl) rfl ?_);
            (first | refine RS.pv (PV.lenS tab_ok rfl rfl) rfl ?_ | refine RS.pv (PV.lenT tab_ok rfl rfl) rfl ?_);
            (first | refine RS.pv (PV.lssT rfl rfl (by omega)) rfl ?_ | refine RS.pv (PV.lssF rfl rfl (by omega)) rfl ?_ | refine RS.ifLss rfl rfl rfl (fun h => ?_) (fun h => ?_));
            (all_goals refine RS.nil ?_))
        | (refine CS.region (id := 4) ?_;
            refine RS.pv (PV.all tab_ok rfl) rfl ?_;
            refine RS.pv (PV.add rfl rfl (by omega)) rfl ?_;
            refine RS.pv (PV.all tab_ok rfl) rfl ?_;
            refine RS.nil ?_)
        | (refine CS.region (id := 5) ?_;
            refine RS.pv (PV.all tab_ok rfl) rfl ?_;
            (first | refine RS.lv (LV.load tab_ok rfl (Has.own 0 rfl) rfl) rfl ?_ | refine RS.lv (LV.load tab_ok rfl (Has.own 1 rfl) rfl) rfl ?_ | refine RS.lv (LV.load tab_ok rfl (Has.own 2 rfl) rfl) rfl ?_);
            refine RS.pv (PV.all tab_ok rfl) rfl ?_;
            (first | refine RS.pv (PV.indexAddr tab_ok rfl rfl rfl (by omega)) rfl ?_ | refine RS.pv (PV.indexAddrA tab_ok rfl rfl rfl (by omega)) rfl ?_);
            refine RS.pv (PV.all tab_ok rfl) rfl ?_;
            refine RS.lv (LV.load1 tab_ok rfl (Has.imm hb) rfl q0) rfl ?_;
            (all_goals (first | refine RS.pv (PV.gtrT rfl rfl (by omega)) rfl ?_ | refine RS.pv (PV.gtrF rfl rfl (by omega)) rfl ?_ | refine RS.ifGtr rfl rfl rfl (fun h => ?_) (fun h => ?_)));
            (all_goals refine RS.nil ?_))
        | refine CS.ret ?_
        | refine thenQ.ret ?_
        | refine blkQ.ret ?_
        | refine retQ.ret ?_
        | refine CS.block ?_
        | refine CS.exit ?_
        | refine thenQ.exit ?_
        | refine blkQ.normal ?_
        | refine blkQ.here ?_
        | refine blkQ.past rfl ?_
        | refine retQ.normal ?_)
      exact ⟨nw - (k + 1), by omega, k + 1, so, sc, cs, O, rfl, hlt, hi, by rw [e1]; exact hsl, by rw [e1]; exact hrw, by rw [e1]; rfl, rfl⟩
    | some j =>
      have e1 := rj_some ho
      have e0 : (rj l (k + 1)).length = (rj l k).length + 1 := by rw [e1]; simp
      have hj := hv.job j (List.mem_of_getElem? ho)
      have hx0 : x1 = j.index := hidx
      repeat' (first
        | refine CS.seq ?_
        | refine thenQ.normal ?_
        | refine CS.cond_true rfl ?_
        | refine CS.cond_false rfl ?_
        | refine CS.skip ?_
        | (refine CS.region (id := 0) ?_;
            refine RS.box rfl rfl (fun b => ?_);
            refine RS.pv (PV.all tab_ok rfl) rfl ?_;
            refine RS.nil ?_)
        | (refine CS.region (id := 1) ?_;
            refine RS.pv (PV.all tab_ok rfl) rfl ?_;
            refine RS.nil ?_)
        | (refine CS.region (id := 3) ?_;
            refine RS.pv (PV.all tab_ok rfl) rfl ?_;
            refine RS.pv (PV.all tab_ok rfl) rfl ?_;
            (first | refine RS.lv (LV.load tab_ok rfl (Has.own 0 rfl) rfl) rfl ?_ | refine RS.lv (LV.load tab_ok rfl (Has.own 1 rfl) rfl) rfl ?_ | refine RS.lv (LV.load tab_ok rfl (Has.own 2 rfl) rfl) rfl ?_);
            (first | refine RS.pv (PV.lenS tab_ok rfl rfl) rfl ?_ | refine RS.pv (PV.lenT tab_ok rfl rfl) rfl ?_);
            (first | refine RS.pv (PV.lssT rfl rfl (by omega)) rfl ?_ | refine RS.pv (PV.lssF rfl rfl (by omega)) rfl ?_ | refine RS.ifLss rfl rfl rfl (fun h => ?_) (fun h => ?_));
            (all_goals refine RS.nil ?_))
        | (refine CS.region (id := 4) ?_;
            refine RS.pv (PV.all tab_ok rfl) rfl ?_;
            refine RS.pv (PV.add rfl rfl (by omega)) rfl ?_;
            refine RS.pv (PV.all tab_ok rfl) rfl ?_;
            refine RS.nil ?_)
        | (refine CS.region (id := 5) ?_;
            refine RS.pv (PV.all tab_ok rfl) rfl ?_;
            (first | refine RS.lv (LV.load tab_ok rfl (Has.own 0 rfl) rfl) rfl ?_ | refine RS.lv (LV.load tab_ok rfl (Has.own 1 rfl) rfl) rfl ?_ | refine RS.lv (LV.load tab_ok rfl (Has.own 2 rfl) rfl) rfl ?_);
            refine RS.pv (PV.all tab_ok rfl) rfl ?_;
            (first | refine RS.pv (PV.indexAddr tab_ok rfl rfl rfl (by omega)) rfl ?_ | refine RS.pv (PV.indexAddrA tab_ok rfl rfl rfl (by omega)) rfl ?_);
            refine RS.pv (PV.all tab_ok rfl) rfl ?_;
            refine RS.lv (LV.load1 tab_ok rfl (Has.imm hb) rfl q0) rfl ?_;
            (all_goals (first | refine RS.pv (PV.gtrT rfl rfl (by omega)) rfl ?_ | refine RS.pv (PV.gtrF rfl rfl (by omega)) rfl ?_ | refine RS.ifGtr rfl rfl rfl (fun h => ?_) (fun h => ?_)));
            (all_goals refine RS.nil ?_))
        | (refine CS.region (id := 6) ?_;
            refine RS.pv (PV.all tab_ok rfl) rfl ?_;
            refine RS.pv (PV.all tab_ok rfl) rfl ?_;
            (first | refine RS.lv (LV.load tab_ok rfl (Has.own 0 rfl) rfl) rfl ?_ | refine RS.lv (LV.load tab_ok rfl (Has.own 1 rfl) rfl) rfl ?_ | refine RS.lv (LV.load tab_ok rfl (Has.own 2 rfl) rfl) rfl ?_);
            refine RS.pv (PV.all tab_ok rfl) rfl ?_;
            (first | refine RS.pv (PV.indexAddr tab_ok rfl rfl rfl (by omega)) rfl ?_ | refine RS.pv (PV.indexAddrA tab_ok rfl rfl rfl (by omega)) rfl ?_);
            refine RS.lv (LV.loadL tab_ok rfl (Has.imm hb) (l := [.int .i64 x1, .int .i64 x2, .string x3, .int .i64 x4, .slice a2 n2 c2, .slice a3 n3 c3, .slice a4 n4 c4, .slice a5 n5 c5, .slice a6 n6 c6, .string x5, .int .i64 x6, .string x7, .string x8, .int .i64 x9]) rfl rfl rfl hc) rfl ?_;
            (all_goals refine RS.buildSliceF tab_ok 14 rfl rfl rfl (fun bb i2 hi2 hbs => ?_));
            (all_goals (refine RS.perm (L' := O ++ ((b1, .cells [.slice (some ⟨b, off, none⟩) nw cap].toArray 45 (0, 0)) :: L)) List.perm_middle.symm ?_; refine RS.append tab_ok (sz := 14) (bytes := 224) (k := (rj l k).length) (m := 1) (xs := cs) (news := [.int .i64 x1, .int .i64 x2, .string x3, .int .i64 x4, .slice a2 n2 c2, .slice a3 n3 c3, .slice a4 n4 c4, .slice a5 n5 c5, .slice a6 n6 c6, .string x5, .int .i64 x6, .string x7, .string x8, .int .i64 x9]) rfl rfl rfl ⟨_, rfl, rfl⟩ ⟨_, rfl, rfl, rfl⟩ (by omega) hsl rfl (hbs.rd _) (RowV.one hr) (by omega) (by omega) ?_; intro v' O' hO' hnil; rw [← e0] at hO'; obtain ⟨ao', cap2, rfl⟩ := SlO.shape hO'; refine RS.perm List.perm_middle ?_));
            (all_goals refine RS.pv (PV.all tab_ok rfl) rfl ?_);
            (all_goals refine RS.nil ?_))
        | refine CS.ret ?_
        | refine thenQ.ret ?_
        | refine blkQ.ret ?_
        | refine retQ.ret ?_
        | refine CS.block ?_
        | refine CS.exit ?_
        | refine thenQ.exit ?_
        | refine blkQ.normal ?_
        | refine blkQ.here ?_
        | refine blkQ.past rfl ?_
        | refine retQ.normal ?_)
      exact ⟨nw - (k + 1), by omega, k + 1, ao', cap2, _, O', rfl, hlt, hi.trans hi2, hO', by rw [e1]; exact (Rw.mono hrw fun r j h => h.le hi2).snoc (JobV.le hr hi2), rfl, rfl⟩
  · have hke : k = nw := by omega
    subst hke
    repeat' (first
      | refine CS.seq ?_
      | refine thenQ.normal ?_
      | refine CS.cond_true rfl ?_
      | refine CS.cond_false rfl ?_
      | refine CS.skip ?_
      | (refine CS.region (id := 0) ?_;
          refine RS.box rfl rfl (fun b => ?_);
          refine RS.pv (PV.all tab_ok rfl) rfl ?_;
          refine RS.nil ?_)
      | (refine CS.region (id := 1) ?_;
          refine RS.pv (PV.all tab_ok rfl) rfl ?_;
          refine RS.nil ?_)
      | (refine CS.region (id := 3) ?_;
          refine RS.pv (PV.all tab_ok rfl) rfl ?_;
          refine RS.pv (PV.all tab_ok rfl) rfl ?_;
          (first | refine RS.lv (LV.load tab_ok rfl (Has.own 0 rfl) rfl) rfl ?_ | refine RS.lv (LV.load tab_ok rfl (Has.own 1 rfl) rfl) rfl ?_ | refine RS.lv (LV.load tab_ok rfl (Has.own 2 rfl) rfl) rfl ?_);
          (first | refine RS.pv (PV.lenS tab_ok rfl rfl) rfl ?_ | refine RS.pv (PV.lenT tab_ok rfl rfl) rfl ?_);
          (first | refine RS.pv (PV.lssT rfl rfl (by omega)) rfl ?_ | refine RS.pv (PV.lssF rfl rfl (by omega)) rfl ?_ | refine RS.ifLss rfl rfl rfl (fun h => ?_) (fun h => ?_));
          (all_goals refine RS.nil ?_))
      | (refine CS.region (id := 7) ?_;
          refine RS.pv (PV.all tab_ok rfl) rfl ?_;
          refine RS.pv (PV.all tab_ok rfl) rfl ?_;
          refine RS.nil ?_)
      | refine CS.ret ?_
      | refine thenQ.ret ?_
      | refine blkQ.ret ?_
      | refine retQ.ret ?_
      | refine CS.block ?_
      | refine CS.exit ?_
      | refine thenQ.exit ?_
      | refine blkQ.normal ?_
      | refine blkQ.here ?_
      | refine blkQ.past rfl ?_
      | refine retQ.normal ?_)
    exact ⟨cs, O, _, hsl, hrw, List.perm_middle.symm⟩
theorem rRoom_s (v : Value) (nw : Nat) (l : List (Option JobD)) (i : Imm) (L : SH) (hv : RefS i v nw l) :
    FnS Try.prog 24 [v] i L fun v' _ L' => v' = .int .i64 ((nw : Int) - (rj l nw).length) ∧ L' = L := by
  refine FnS.state (K := fun v' i' L' => ∃ b, v' = .int .i64 ((nw : Int) - (rj l nw).length) ∧ L' = b :: L) ?_ ?_
  rotate_left
  · rintro v' i' L' w _ hs ⟨b, h1, rfl⟩
    exact ⟨i', _, Imm.le.refl i', hs.drop, h1, rfl⟩
  have hnw := hv.le
  have hlen := rj_len l nw
  obtain ⟨ao, cap, rfl⟩ := hv.ref.shape
  refine FnS.intro1 Try.func24 rfl Try.ntmps24 (by simp) Try.results24 ?_
  repeat' (first
    | refine CS.seq ?_
    | refine thenQ.normal ?_
    | refine CS.cond_true rfl ?_
    | refine CS.cond_false rfl ?_
    | refine CS.skip ?_
    | (refine CS.region (id := 0) ?_;
        refine RS.box rfl rfl (fun b1 => ?_);
        (all_goals refine RS.pv (PV.all tab_ok rfl) rfl ?_);
        (all_goals refine RS.nil ?_))
    | refine CS.ret ?_
    | refine thenQ.ret ?_
    | refine blkQ.ret ?_
    | refine retQ.ret ?_
    | refine CS.block ?_
    | refine CS.exit ?_
    | refine thenQ.exit ?_
    | refine blkQ.normal ?_
    | refine blkQ.here ?_
    | refine blkQ.past rfl ?_
    | refine retQ.normal ?_)
  refine CS.draw0 mix [0, 1, 2, 3, 4, 5, 6] [7] (by kernel_rfl) rfl ?_
  refine GS.pv (PV.all tab_ok rfl) rfl rfl rfl rfl rfl rfl ?_
  (first | refine GS.lv (fun _ _ => LV.load tab_ok rfl (Has.own 0 rfl) rfl) rfl rfl rfl rfl rfl rfl ?_ | refine GS.lv (fun _ _ => LV.load tab_ok rfl (Has.own 1 rfl) rfl) rfl rfl rfl rfl rfl rfl ?_ | refine GS.lv (fun _ _ => LV.load tab_ok rfl (Has.own 2 rfl) rfl) rfl rfl rfl rfl rfl rfl ?_)
  (first | refine GS.pv (PV.lenS tab_ok rfl rfl) rfl rfl rfl rfl rfl rfl ?_ | refine GS.pv (PV.lenT tab_ok rfl rfl) rfl rfl rfl rfl rfl rfl ?_)
  (first | refine GS.lv (fun _ _ => LV.load tab_ok rfl (Has.own 0 rfl) rfl) rfl rfl rfl rfl rfl rfl ?_ | refine GS.lv (fun _ _ => LV.load tab_ok rfl (Has.own 1 rfl) rfl) rfl rfl rfl rfl rfl rfl ?_ | refine GS.lv (fun _ _ => LV.load tab_ok rfl (Has.own 2 rfl) rfl) rfl rfl rfl rfl rfl rfl ?_)
  refine GS.fact0 (fun _ v => ∃ ao cap, v = .slice ao (rj l nw).length cap) (fun _ _ _ _ h => h) rfl rfl rfl rfl rfl rfl (fun i' hi => OpS.call (by kernel_rfl) rfl (rJobs_s _ nw l i' _ (hv.up hi)) (fun _ _ _ _ ⟨cs, hs, _, hL⟩ => ⟨hL, by obtain ⟨ao, cap, h, _⟩ := hs; exact ⟨ao, cap, h⟩⟩)) ?_
  (all_goals refine GS.valF (v := .int .i64 (rj l nw).length) rfl rfl rfl rfl (fun i' hi => by rintro v ⟨ao, cap, rfl⟩; exact ⟨rfl, OpS.len tab_ok rfl rfl⟩) ?_)
  (all_goals refine GS.pv (PV.sub rfl rfl (by omega)) rfl rfl rfl rfl rfl rfl ?_)
  refine GS.done rfl rfl (fun i2 hi2 => ?_)
  intro w2 g2
  refine RS.pv (PV.all tab_ok rfl) rfl ?_
  refine RS.nil ?_
  refine thenQ.normal ?_
  refine CS.ret ?_
  refine retQ.ret ?_
  exact ⟨_, rfl, rfl⟩

/-! ### giving and cancelling, told of the jobs alone -/
def isI (index : Int) : Option JobD → Bool
  | some j => decide (j.index = index)
  | none => false
def giveD (l : List (Option JobD)) (index ticks : Int) (r : Rec) : Int × List (Option JobD) :=
  if index < 1 then (291, l) else if 0 ≤ fidx (isI index) l then (292, l) else if fidx Option.isNone l < 0 then (293, l) else (0, l.set (fidx Option.isNone l).toNat (some ⟨index, min (max ticks 1) 16000, r⟩))
def cancelD (l : List (Option JobD)) (index : Int) : Int × List (Option JobD) :=
  if fidx (isI index) l < 0 then (294, l) else (0, l.set (fidx (isI index) l).toNat none)
theorem fidx_map {α β : Type} (f : α → β) (p : β → Bool) (l : List α) : fidx p (l.map f) = fidx (fun x => p (f x)) l := by
  unfold fidx
  rw [List.findIdx?_map]
  rfl
theorem fidx_congr {α : Type} {p q : α → Bool} {l : List α} (h : ∀ x, p x = q x) : fidx p l = fidx q l := by
  have : p = q := funext h
  rw [this]
theorem fidx_ods (js : List (Option JobP)) (nw : Nat) (index : Int) : fidx (isI index) (ods js nw) = fidx (isIdx index) (js.take nw) := by
  unfold ods
  rw [fidx_map]
  refine fidx_congr fun o => ?_
  cases o <;> rfl
theorem fidx_ods0 (js : List (Option JobP)) (nw : Nat) : fidx Option.isNone (ods js nw) = fidx Option.isNone (js.take nw) := by
  unfold ods
  rw [fidx_map]
  refine fidx_congr fun o => ?_
  cases o <;> rfl
theorem ods_set (js : List (Option JobP)) (nw k : Nat) (o : Option JobP) : ods (js.set k o) nw = (ods js nw).set k (o.map fun x => x.jd) := by
  unfold ods
  rw [← List.map_set, List.take_set]
theorem GiveTo.giveD {js js' : List (Option JobP)} {nw : Nat} {index ticks e : Int} {r : Rec} {i : Imm} (h : GiveTo js nw index ticks r i e js') : giveD (ods js nw) index ticks r = (e, ods js' nw) := by
  unfold Go.Proofs.Ytmcajldlcomegaa.giveD
  rw [fidx_ods, fidx_ods0]
  cases h with
  | low h => rw [if_pos h]
  | taken h1 h2 => rw [if_neg (by omega), if_pos h2]
  | full h1 h2 h3 => rw [if_neg (by omega), if_neg (by omega), if_pos h3]
  | ok k x h1 h2 h3 h4 h5 h6 _ => rw [if_neg (by omega), if_neg (by omega), if_neg (by omega), h3, ods_set, Int.toNat_natCast]; rw [← h6]; rfl
theorem CancelTo.cancelD {js js' : List (Option JobP)} {nw : Nat} {index e : Int} (h : CancelTo js nw index e js') : cancelD (ods js nw) index = (e, ods js' nw) := by
  unfold Go.Proofs.Ytmcajldlcomegaa.cancelD
  rw [fidx_ods]
  cases h with
  | none h => rw [if_pos h]
  | ok k h1 h2 => rw [if_neg (by omega), h1, ods_set, Int.toNat_natCast]; rfl
theorem fidx_ge {α : Type} {p : α → Bool} {l : List α} {k : Nat} {x : α} (h : l[k]? = some x) (hp : p x = true) : 0 ≤ fidx p l := by
  unfold fidx
  cases hf : l.findIdx? p with
  | some k => simp
  | none =>
    rw [List.findIdx?_eq_none_iff] at hf
    have := hf x (List.mem_of_getElem? h)
    rw [hp] at this; cases this
/-- the smallest free worker from q on -/
def freeFrom (l : List (Option JobD)) (q : Nat) (f : Int) : Prop :=
  (f = -1 ∧ ∀ j, q ≤ j → l[j]? ≠ some none) ∨ ∃ k : Nat, f = k ∧ q ≤ k ∧ l[k]? = some none ∧ ∀ j, q ≤ j → j < k → l[j]? ≠ some none
theorem freeFrom.end {l : List (Option JobD)} {f : Int} (h : freeFrom l 0 f) : f = fidx Option.isNone l := by
  rcases h with ⟨rfl, h⟩ | ⟨k, rfl, _, h1, h2⟩
  · refine (fidx_none fun j y hy => ?_).symm
    cases y with
    | some x => rfl
    | none => exact absurd hy (h j (Nat.zero_le _))
  · refine (fidx_at h1 rfl fun j y hj hy => ?_).symm
    cases y with
    | some x => rfl
    | none => exact absurd hy (h2 j (Nat.zero_le _) hj)
theorem rGive_s (v : Value) (nw : Nat) (l : List (Option JobD)) (index ticks : Int) (rc : List Value) (r : Rec) (i : Imm) (L : SH) (hv : RefS i v nw l) (hr : RecV i rc r) :
    FnS Try.prog 49 [v, .int .i64 index, .agg rc.toArray, .int .i64 ticks] i L fun v' i' L' => (∃ w, v' = .tuple #[w, .int .i64 (giveD l index ticks r).1] ∧ RefV i' w nw (giveD l index ticks r).2) ∧ L' = L := by
  refine FnS.state (K := fun v' i' L' => ∃ G w, v' = .tuple #[w, .int .i64 (giveD l index ticks r).1] ∧ RefV i' w nw (giveD l index ticks r).2 ∧ L' = G ++ L) ?_ ?_
  rotate_left
  · rintro v' i' L' w _ hs ⟨G, w, h1, h2, rfl⟩
    exact ⟨i', _, Imm.le.refl i', hs.dropL, ⟨w, h1, h2⟩, rfl⟩
  have hnw := hv.le
  have hl : l.length = nw := by obtain ⟨_, _, _, _, _, h⟩ := hv.ref; exact h
  obtain ⟨ao, cap, rfl⟩ := hv.ref.shape
  obtain ⟨ra2, rc2, ra3, rc3, ra4, rc4, ra5, rc5, ra6, rc6, rfl⟩ := hr.lit
  refine FnS.introCT tab_ok Try.func49 rfl Try.ntmps49 (by simp) Try.results49 ?_
  by_cases hlow : index < 1
  · have e : giveD l index ticks r = (291, l) := if_pos hlow
    rw [e]
    repeat' (first
      | refine CS.seq ?_
      | refine thenQ.normal ?_
      | refine CS.cond_true rfl ?_
      | refine CS.cond_false rfl ?_
      | refine CS.skip ?_
      | (refine CS.region (id := 0) ?_;
          refine RS.box rfl rfl (fun b => ?_);
          refine RS.box rfl rfl (fun b => ?_);
          refine RS.alloc tab_ok rfl rfl (fun b => ?_);
          refine RS.pv (PV.all tab_ok rfl) rfl ?_;
          refine RS.nil ?_)
      | (refine CS.region (id := 1) ?_;
          refine RS.pv (PV.all tab_ok rfl) rfl ?_;
          (first | refine RS.pv (PV.lssT rfl rfl (by omega)) rfl ?_ | refine RS.pv (PV.lssF rfl rfl (by omega)) rfl ?_ | refine RS.ifLss rfl rfl rfl (fun h => ?_) (fun h => ?_));
          (all_goals refine RS.nil ?_))
      | (refine CS.region (id := 2) ?_;
          (first | refine RS.lv (LV.load tab_ok rfl (Has.own 0 rfl) rfl) rfl ?_ | refine RS.lv (LV.load tab_ok rfl (Has.own 1 rfl) rfl) rfl ?_ | refine RS.lv (LV.load tab_ok rfl (Has.own 2 rfl) rfl) rfl ?_);
          (first | refine RS.store (k := 0) tab_ok rfl rfl rfl rfl rfl rfl rfl rfl ?_ | refine RS.store (k := 1) tab_ok rfl rfl rfl rfl rfl rfl rfl rfl ?_ | refine RS.store (k := 2) tab_ok rfl rfl rfl rfl rfl rfl rfl rfl ?_);
          refine RS.pv (PV.all tab_ok rfl) rfl ?_;
          refine RS.nil ?_)
      | refine CS.ret ?_
      | refine thenQ.ret ?_
      | refine blkQ.ret ?_
      | refine retQ.ret ?_
      | refine CS.block ?_
      | refine CS.exit ?_
      | refine thenQ.exit ?_
      | refine blkQ.normal ?_
      | refine blkQ.here ?_
      | refine blkQ.past rfl ?_
      | refine retQ.normal ?_)
    exact ⟨_, _, _, _, _, _, rfl, Has.own 0 rfl, rfl, [_, _, _], _, rfl, hv.ref, rfl⟩
  repeat' (first
    | refine CS.seq ?_
    | refine thenQ.normal ?_
    | refine CS.cond_true rfl ?_
    | refine CS.cond_false rfl ?_
    | refine CS.skip ?_
    | (refine CS.region (id := 0) ?_;
        refine RS.box rfl rfl (fun b4 => ?_);
        (all_goals refine RS.box rfl rfl (fun b6 => ?_));
        (all_goals refine RS.alloc tab_ok rfl rfl (fun b8 => ?_));
        (all_goals refine RS.pv (PV.all tab_ok rfl) rfl ?_);
        (all_goals refine RS.nil ?_))
    | (refine CS.region (id := 1) ?_;
        refine RS.pv (PV.all tab_ok rfl) rfl ?_;
        (first | refine RS.pv (PV.lssT rfl rfl (by omega)) rfl ?_ | refine RS.pv (PV.lssF rfl rfl (by omega)) rfl ?_ | refine RS.ifLss rfl rfl rfl (fun h => ?_) (fun h => ?_));
        (all_goals refine RS.nil ?_))
    | (refine CS.region (id := 3) ?_;
        refine RS.pv (PV.all tab_ok rfl) rfl ?_;
        refine RS.nil ?_)
    | (refine CS.region (id := 4) ?_;
        refine RS.pv (PV.all tab_ok rfl) rfl ?_;
        (first | refine RS.lv (LV.load tab_ok rfl (Has.own 0 rfl) rfl) rfl ?_ | refine RS.lv (LV.load tab_ok rfl (Has.own 1 rfl) rfl) rfl ?_ | refine RS.lv (LV.load tab_ok rfl (Has.own 2 rfl) rfl) rfl ?_);
        (first | refine RS.pv (PV.lenS tab_ok rfl rfl) rfl ?_ | refine RS.pv (PV.lenT tab_ok rfl rfl) rfl ?_);
        refine RS.pv (PV.sub rfl rfl (by omega)) rfl ?_;
        refine RS.pv (PV.all tab_ok rfl) rfl ?_;
        refine RS.nil ?_)
    | refine CS.ret ?_
    | refine thenQ.ret ?_
    | refine blkQ.ret ?_
    | refine retQ.ret ?_
    | refine CS.block ?_
    | refine CS.exit ?_
    | refine thenQ.exit ?_
    | refine blkQ.normal ?_
    | refine blkQ.here ?_
    | refine blkQ.past rfl ?_
    | refine retQ.normal ?_)
  refine CS.loop [1, 3, 4, 6, 8, 10, 11] (fun m vs i' L' => ∃ (q : Nat) (f : Int), q = m ∧ q ≤ nw ∧ (∀ j o, q ≤ j → l[j]? = some o → isI index o = false) ∧ freeFrom l q f ∧ vs = [.int .i64 index, .int .i64 ticks, .pointer (some ⟨b4, 0, none⟩), .pointer (some ⟨b6, 0, none⟩), .pointer (some ⟨b8, 0, none⟩), .int .i64 f, .int .i64 ((q : Int) - 1)] ∧ i' = i ∧ L' = _ :: _ :: _ :: L) nw ⟨nw, -1, rfl, Nat.le_refl _, fun j o hj ho => (by have := (List.getElem?_eq_some_iff.1 ho).1; omega), .inl ⟨rfl, fun j hj ho => (by have := (List.getElem?_eq_some_iff.1 ho).1; omega)⟩, rfl, rfl, rfl⟩ ?_
  rintro m g vs i' L' _ ⟨q, f, rfl, hq, hno, hfr, rfl, rfl, rfl⟩
  by_cases hlt : 0 < q
  · obtain ⟨k, rfl⟩ : ∃ k, q = k + 1 := ⟨q - 1, by omega⟩
    rw [show (((k + 1 : Nat) : Int) - 1) = (k : Int) by omega]
    obtain ⟨o, ho⟩ : ∃ o, l[k]? = some o := ⟨_, List.getElem?_eq_getElem (by omega)⟩
    obtain ⟨b, off, cc, t, fz, cap', rr, e, hb, hrw, hc⟩ := hv.ref.at ho
    cases e
    obtain ⟨x1, x2, x3, x4, a2, n2, c2, a3, n3, c3, a4, n4, c4, a5, n5, c5, a6, n6, c6, x5, x6, x7, x8, x9, rfl, hidx⟩ := hrw.lit
    have q0 := hc 0 _ rfl
    cases o with
    | none =>
      have hx0 : x1 = 0 := hidx
      subst hx0
      repeat' (first
        | refine CS.seq ?_
        | refine thenQ.normal ?_
        | refine CS.cond_true rfl ?_
        | refine CS.cond_false rfl ?_
        | refine CS.skip ?_
        | (refine CS.region (id := 0) ?_;
            refine RS.box rfl rfl (fun b => ?_);
            refine RS.box rfl rfl (fun b => ?_);
            refine RS.alloc tab_ok rfl rfl (fun b => ?_);
            refine RS.pv (PV.all tab_ok rfl) rfl ?_;
            refine RS.nil ?_)
        | (refine CS.region (id := 1) ?_;
            refine RS.pv (PV.all tab_ok rfl) rfl ?_;
            (first | refine RS.pv (PV.lssT rfl rfl (by omega)) rfl ?_ | refine RS.pv (PV.lssF rfl rfl (by omega)) rfl ?_ | refine RS.ifLss rfl rfl rfl (fun h => ?_) (fun h => ?_));
            (all_goals refine RS.nil ?_))
        | (refine CS.region (id := 3) ?_;
            refine RS.pv (PV.all tab_ok rfl) rfl ?_;
            refine RS.nil ?_)
        | (refine CS.region (id := 5) ?_;
            refine RS.pv (PV.all tab_ok rfl) rfl ?_;
            (first | refine RS.pv (PV.geqT rfl rfl (by omega)) rfl ?_ | refine RS.pv (PV.geqF rfl rfl (by omega)) rfl ?_ | refine RS.ifGeq rfl rfl rfl (fun h => ?_) (fun h => ?_));
            (all_goals refine RS.nil ?_))
        | (refine CS.region (id := 6) ?_;
            refine RS.pv (PV.all tab_ok rfl) rfl ?_;
            refine RS.pv (PV.sub rfl rfl (by omega)) rfl ?_;
            refine RS.pv (PV.all tab_ok rfl) rfl ?_;
            refine RS.nil ?_)
        | (refine CS.region (id := 7) ?_;
            refine RS.pv (PV.all tab_ok rfl) rfl ?_;
            (first | refine RS.lv (LV.load tab_ok rfl (Has.own 0 rfl) rfl) rfl ?_ | refine RS.lv (LV.load tab_ok rfl (Has.own 1 rfl) rfl) rfl ?_ | refine RS.lv (LV.load tab_ok rfl (Has.own 2 rfl) rfl) rfl ?_);
            refine RS.pv (PV.all tab_ok rfl) rfl ?_;
            (first | refine RS.pv (PV.indexAddr tab_ok rfl rfl rfl (by omega)) rfl ?_ | refine RS.pv (PV.indexAddrA tab_ok rfl rfl rfl (by omega)) rfl ?_);
            refine RS.pv (PV.all tab_ok rfl) rfl ?_;
            refine RS.lv (LV.load1 tab_ok rfl (Has.imm hb) rfl q0) rfl ?_;
            (all_goals refine RS.pv (PV.all tab_ok rfl) rfl ?_);
            (all_goals (first | refine RS.pv (PV.all tab_ok rfl) rfl ?_ | refine RS.pv (PV.eqlT rfl rfl (by omega)) rfl ?_ | refine RS.pv (PV.eqlF rfl rfl (by omega)) rfl ?_ | refine RS.ifEql rfl rfl rfl (fun h => ?_) (fun h => ?_) | refine RS.ifSeql rfl rfl rfl (fun h => ?_) (fun h => ?_)));
            (all_goals refine RS.nil ?_))
        | (refine CS.region (id := 9) ?_;
            refine RS.pv (PV.all tab_ok rfl) rfl ?_;
            (first | refine RS.lv (LV.load tab_ok rfl (Has.own 0 rfl) rfl) rfl ?_ | refine RS.lv (LV.load tab_ok rfl (Has.own 1 rfl) rfl) rfl ?_ | refine RS.lv (LV.load tab_ok rfl (Has.own 2 rfl) rfl) rfl ?_);
            refine RS.pv (PV.all tab_ok rfl) rfl ?_;
            (first | refine RS.pv (PV.indexAddr tab_ok rfl rfl rfl (by omega)) rfl ?_ | refine RS.pv (PV.indexAddrA tab_ok rfl rfl rfl (by omega)) rfl ?_);
            refine RS.pv (PV.all tab_ok rfl) rfl ?_;
            refine RS.lv (LV.load1 tab_ok rfl (Has.imm hb) rfl q0) rfl ?_;
            (all_goals (first | refine RS.pv (PV.all tab_ok rfl) rfl ?_ | refine RS.pv (PV.eqlT rfl rfl (by omega)) rfl ?_ | refine RS.pv (PV.eqlF rfl rfl (by omega)) rfl ?_ | refine RS.ifEql rfl rfl rfl (fun h => ?_) (fun h => ?_) | refine RS.ifSeql rfl rfl rfl (fun h => ?_) (fun h => ?_)));
            (all_goals refine RS.nil ?_))
        | (refine CS.region (id := 10) ?_;
            refine RS.pv (PV.all tab_ok rfl) rfl ?_;
            refine RS.pv (PV.all tab_ok rfl) rfl ?_;
            refine RS.nil ?_)
        | refine CS.ret ?_
        | refine thenQ.ret ?_
        | refine blkQ.ret ?_
        | refine retQ.ret ?_
        | refine CS.block ?_
        | refine CS.exit ?_
        | refine thenQ.exit ?_
        | refine blkQ.normal ?_
        | refine blkQ.here ?_
        | refine blkQ.past rfl ?_
        | refine retQ.normal ?_)
      refine ⟨k, by omega, k, k, rfl, by omega, fun j o hj ho' => ?_, .inr ⟨k, rfl, Nat.le_refl _, ho, fun j hj hj2 => absurd hj2 (by omega)⟩, rfl, rfl, rfl⟩
      rcases Nat.lt_or_ge k j with h | h
      · exact hno j o h ho'
      · have : j = k := by omega
        subst this
        rw [ho] at ho'; cases ho'; rfl
    | some j =>
      have hx0 : x1 = j.index := hidx
      have hj := hv.job j (List.mem_of_getElem? ho)
      by_cases hix : j.index = index
      · have e : giveD l index ticks r = (292, l) := by
          unfold giveD
          rw [if_neg hlow, if_pos (fidx_ge ho (decide_eq_true hix))]
        rw [e]
        repeat' (first
          | refine CS.seq ?_
          | refine thenQ.normal ?_
          | refine CS.cond_true rfl ?_
          | refine CS.cond_false rfl ?_
          | refine CS.skip ?_
          | (refine CS.region (id := 0) ?_;
              refine RS.box rfl rfl (fun b => ?_);
              refine RS.box rfl rfl (fun b => ?_);
              refine RS.alloc tab_ok rfl rfl (fun b => ?_);
              refine RS.pv (PV.all tab_ok rfl) rfl ?_;
              refine RS.nil ?_)
          | (refine CS.region (id := 1) ?_;
              refine RS.pv (PV.all tab_ok rfl) rfl ?_;
              (first | refine RS.pv (PV.lssT rfl rfl (by omega)) rfl ?_ | refine RS.pv (PV.lssF rfl rfl (by omega)) rfl ?_ | refine RS.ifLss rfl rfl rfl (fun h => ?_) (fun h => ?_));
              (all_goals refine RS.nil ?_))
          | (refine CS.region (id := 3) ?_;
              refine RS.pv (PV.all tab_ok rfl) rfl ?_;
              refine RS.nil ?_)
          | (refine CS.region (id := 5) ?_;
              refine RS.pv (PV.all tab_ok rfl) rfl ?_;
              (first | refine RS.pv (PV.geqT rfl rfl (by omega)) rfl ?_ | refine RS.pv (PV.geqF rfl rfl (by omega)) rfl ?_ | refine RS.ifGeq rfl rfl rfl (fun h => ?_) (fun h => ?_));
              (all_goals refine RS.nil ?_))
          | (refine CS.region (id := 7) ?_;
              refine RS.pv (PV.all tab_ok rfl) rfl ?_;
              (first | refine RS.lv (LV.load tab_ok rfl (Has.own 0 rfl) rfl) rfl ?_ | refine RS.lv (LV.load tab_ok rfl (Has.own 1 rfl) rfl) rfl ?_ | refine RS.lv (LV.load tab_ok rfl (Has.own 2 rfl) rfl) rfl ?_);
              refine RS.pv (PV.all tab_ok rfl) rfl ?_;
              (first | refine RS.pv (PV.indexAddr tab_ok rfl rfl rfl (by omega)) rfl ?_ | refine RS.pv (PV.indexAddrA tab_ok rfl rfl rfl (by omega)) rfl ?_);
              refine RS.pv (PV.all tab_ok rfl) rfl ?_;
              refine RS.lv (LV.load1 tab_ok rfl (Has.imm hb) rfl q0) rfl ?_;
              (all_goals refine RS.pv (PV.all tab_ok rfl) rfl ?_);
              (all_goals (first | refine RS.pv (PV.all tab_ok rfl) rfl ?_ | refine RS.pv (PV.eqlT rfl rfl (by omega)) rfl ?_ | refine RS.pv (PV.eqlF rfl rfl (by omega)) rfl ?_ | refine RS.ifEql rfl rfl rfl (fun h => ?_) (fun h => ?_) | refine RS.ifSeql rfl rfl rfl (fun h => ?_) (fun h => ?_)));
              (all_goals refine RS.nil ?_))
          | (refine CS.region (id := 8) ?_;
              (first | refine RS.lv (LV.load tab_ok rfl (Has.own 0 rfl) rfl) rfl ?_ | refine RS.lv (LV.load tab_ok rfl (Has.own 1 rfl) rfl) rfl ?_ | refine RS.lv (LV.load tab_ok rfl (Has.own 2 rfl) rfl) rfl ?_);
              (first | refine RS.store (k := 0) tab_ok rfl rfl rfl rfl rfl rfl rfl rfl ?_ | refine RS.store (k := 1) tab_ok rfl rfl rfl rfl rfl rfl rfl rfl ?_ | refine RS.store (k := 2) tab_ok rfl rfl rfl rfl rfl rfl rfl rfl ?_);
              refine RS.pv (PV.all tab_ok rfl) rfl ?_;
              refine RS.nil ?_)
          | refine CS.ret ?_
          | refine thenQ.ret ?_
          | refine blkQ.ret ?_
          | refine retQ.ret ?_
          | refine CS.block ?_
          | refine CS.exit ?_
          | refine thenQ.exit ?_
          | refine blkQ.normal ?_
          | refine blkQ.here ?_
          | refine blkQ.past rfl ?_
          | refine retQ.normal ?_)
        exact ⟨_, _, _, _, _, _, rfl, Has.own 0 rfl, rfl, [_, _, _], _, rfl, hv.ref, rfl⟩
      · repeat' (first
          | refine CS.seq ?_
          | refine thenQ.normal ?_
          | refine CS.cond_true rfl ?_
          | refine CS.cond_false rfl ?_
          | refine CS.skip ?_
          | (refine CS.region (id := 0) ?_;
              refine RS.box rfl rfl (fun b => ?_);
              refine RS.box rfl rfl (fun b => ?_);
              refine RS.alloc tab_ok rfl rfl (fun b => ?_);
              refine RS.pv (PV.all tab_ok rfl) rfl ?_;
              refine RS.nil ?_)
          | (refine CS.region (id := 1) ?_;
              refine RS.pv (PV.all tab_ok rfl) rfl ?_;
              (first | refine RS.pv (PV.lssT rfl rfl (by omega)) rfl ?_ | refine RS.pv (PV.lssF rfl rfl (by omega)) rfl ?_ | refine RS.ifLss rfl rfl rfl (fun h => ?_) (fun h => ?_));
              (all_goals refine RS.nil ?_))
          | (refine CS.region (id := 3) ?_;
              refine RS.pv (PV.all tab_ok rfl) rfl ?_;
              refine RS.nil ?_)
          | (refine CS.region (id := 5) ?_;
              refine RS.pv (PV.all tab_ok rfl) rfl ?_;
              (first | refine RS.pv (PV.geqT rfl rfl (by omega)) rfl ?_ | refine RS.pv (PV.geqF rfl rfl (by omega)) rfl ?_ | refine RS.ifGeq rfl rfl rfl (fun h => ?_) (fun h => ?_));
              (all_goals refine RS.nil ?_))
          | (refine CS.region (id := 6) ?_;
              refine RS.pv (PV.all tab_ok rfl) rfl ?_;
              refine RS.pv (PV.sub rfl rfl (by omega)) rfl ?_;
              refine RS.pv (PV.all tab_ok rfl) rfl ?_;
              refine RS.nil ?_)
          | (refine CS.region (id := 7) ?_;
              refine RS.pv (PV.all tab_ok rfl) rfl ?_;
              (first | refine RS.lv (LV.load tab_ok rfl (Has.own 0 rfl) rfl) rfl ?_ | refine RS.lv (LV.load tab_ok rfl (Has.own 1 rfl) rfl) rfl ?_ | refine RS.lv (LV.load tab_ok rfl (Has.own 2 rfl) rfl) rfl ?_);
              refine RS.pv (PV.all tab_ok rfl) rfl ?_;
              (first | refine RS.pv (PV.indexAddr tab_ok rfl rfl rfl (by omega)) rfl ?_ | refine RS.pv (PV.indexAddrA tab_ok rfl rfl rfl (by omega)) rfl ?_);
              refine RS.pv (PV.all tab_ok rfl) rfl ?_;
              refine RS.lv (LV.load1 tab_ok rfl (Has.imm hb) rfl q0) rfl ?_;
              (all_goals refine RS.pv (PV.all tab_ok rfl) rfl ?_);
              (all_goals (first | refine RS.pv (PV.all tab_ok rfl) rfl ?_ | refine RS.pv (PV.eqlT rfl rfl (by omega)) rfl ?_ | refine RS.pv (PV.eqlF rfl rfl (by omega)) rfl ?_ | refine RS.ifEql rfl rfl rfl (fun h => ?_) (fun h => ?_) | refine RS.ifSeql rfl rfl rfl (fun h => ?_) (fun h => ?_)));
              (all_goals refine RS.nil ?_))
          | (refine CS.region (id := 9) ?_;
              refine RS.pv (PV.all tab_ok rfl) rfl ?_;
              (first | refine RS.lv (LV.load tab_ok rfl (Has.own 0 rfl) rfl) rfl ?_ | refine RS.lv (LV.load tab_ok rfl (Has.own 1 rfl) rfl) rfl ?_ | refine RS.lv (LV.load tab_ok rfl (Has.own 2 rfl) rfl) rfl ?_);
              refine RS.pv (PV.all tab_ok rfl) rfl ?_;
              (first | refine RS.pv (PV.indexAddr tab_ok rfl rfl rfl (by omega)) rfl ?_ | refine RS.pv (PV.indexAddrA tab_ok rfl rfl rfl (by omega)) rfl ?_);
              refine RS.pv (PV.all tab_ok rfl) rfl ?_;
              refine RS.lv (LV.load1 tab_ok rfl (Has.imm hb) rfl q0) rfl ?_;
              (all_goals (first | refine RS.pv (PV.all tab_ok rfl) rfl ?_ | refine RS.pv (PV.eqlT rfl rfl (by omega)) rfl ?_ | refine RS.pv (PV.eqlF rfl rfl (by omega)) rfl ?_ | refine RS.ifEql rfl rfl rfl (fun h => ?_) (fun h => ?_) | refine RS.ifSeql rfl rfl rfl (fun h => ?_) (fun h => ?_)));
              (all_goals refine RS.nil ?_))
          | refine CS.ret ?_
          | refine thenQ.ret ?_
          | refine blkQ.ret ?_
          | refine retQ.ret ?_
          | refine CS.block ?_
          | refine CS.exit ?_
          | refine thenQ.exit ?_
          | refine blkQ.normal ?_
          | refine blkQ.here ?_
          | refine blkQ.past rfl ?_
          | refine retQ.normal ?_)
        refine ⟨k, by omega, k, f, rfl, by omega, fun j2 o hj2 ho' => ?_, ?_, rfl, rfl, rfl⟩
        · rcases Nat.lt_or_ge k j2 with h | h
          · exact hno j2 o h ho'
          · have : j2 = k := by omega
            subst this
            rw [ho] at ho'; cases ho'; exact decide_eq_false hix
        · rcases hfr with ⟨h1, h2⟩ | ⟨k2, h1, h2, h3, h4⟩
          · refine .inl ⟨h1, fun j2 hj2 hn => ?_⟩
            rcases Nat.lt_or_ge k j2 with h | h
            · exact h2 j2 h hn
            · have : j2 = k := by omega
              subst this
              rw [ho] at hn; cases hn
          · refine .inr ⟨k2, h1, by omega, h3, fun j2 hj2 hj3 hn => ?_⟩
            rcases Nat.lt_or_ge k j2 with h | h
            · exact h4 j2 h hj3 hn
            · have : j2 = k := by omega
              subst this
              rw [ho] at hn; cases hn
  · have hq0 : q = 0 := by omega
    subst hq0
    have hfd := hfr.end
    have hti : fidx (isI index) l = -1 := fidx_none fun j o ho => hno j o (Nat.zero_le _) ho
    by_cases hfl : f < 0
    · have e : giveD l index ticks r = (293, l) := by
        unfold giveD
        rw [if_neg hlow, if_neg (by omega), if_pos (by omega)]
      rw [e]
      repeat' (first
        | refine CS.seq ?_
        | refine thenQ.normal ?_
        | refine CS.cond_true rfl ?_
        | refine CS.cond_false rfl ?_
        | refine CS.skip ?_
        | (refine CS.region (id := 0) ?_;
            refine RS.box rfl rfl (fun b => ?_);
            refine RS.box rfl rfl (fun b => ?_);
            refine RS.alloc tab_ok rfl rfl (fun b => ?_);
            refine RS.pv (PV.all tab_ok rfl) rfl ?_;
            refine RS.nil ?_)
        | (refine CS.region (id := 1) ?_;
            refine RS.pv (PV.all tab_ok rfl) rfl ?_;
            (first | refine RS.pv (PV.lssT rfl rfl (by omega)) rfl ?_ | refine RS.pv (PV.lssF rfl rfl (by omega)) rfl ?_ | refine RS.ifLss rfl rfl rfl (fun h => ?_) (fun h => ?_));
            (all_goals refine RS.nil ?_))
        | (refine CS.region (id := 3) ?_;
            refine RS.pv (PV.all tab_ok rfl) rfl ?_;
            refine RS.nil ?_)
        | (refine CS.region (id := 5) ?_;
            refine RS.pv (PV.all tab_ok rfl) rfl ?_;
            (first | refine RS.pv (PV.geqT rfl rfl (by omega)) rfl ?_ | refine RS.pv (PV.geqF rfl rfl (by omega)) rfl ?_ | refine RS.ifGeq rfl rfl rfl (fun h => ?_) (fun h => ?_));
            (all_goals refine RS.nil ?_))
        | (refine CS.region (id := 11) ?_;
            refine RS.pv (PV.all tab_ok rfl) rfl ?_;
            (first | refine RS.pv (PV.lssT rfl rfl (by omega)) rfl ?_ | refine RS.pv (PV.lssF rfl rfl (by omega)) rfl ?_ | refine RS.ifLss rfl rfl rfl (fun h => ?_) (fun h => ?_));
            (all_goals refine RS.nil ?_))
        | (refine CS.region (id := 12) ?_;
            (first | refine RS.lv (LV.load tab_ok rfl (Has.own 0 rfl) rfl) rfl ?_ | refine RS.lv (LV.load tab_ok rfl (Has.own 1 rfl) rfl) rfl ?_ | refine RS.lv (LV.load tab_ok rfl (Has.own 2 rfl) rfl) rfl ?_);
            (first | refine RS.store (k := 0) tab_ok rfl rfl rfl rfl rfl rfl rfl rfl ?_ | refine RS.store (k := 1) tab_ok rfl rfl rfl rfl rfl rfl rfl rfl ?_ | refine RS.store (k := 2) tab_ok rfl rfl rfl rfl rfl rfl rfl rfl ?_);
            refine RS.pv (PV.all tab_ok rfl) rfl ?_;
            refine RS.nil ?_)
        | refine CS.ret ?_
        | refine thenQ.ret ?_
        | refine blkQ.ret ?_
        | refine retQ.ret ?_
        | refine CS.block ?_
        | refine CS.exit ?_
        | refine thenQ.exit ?_
        | refine blkQ.normal ?_
        | refine blkQ.here ?_
        | refine blkQ.past rfl ?_
        | refine retQ.normal ?_)
      exact ⟨_, _, _, _, _, _, rfl, Has.own 0 rfl, rfl, [_, _, _], _, rfl, hv.ref, rfl⟩
    · obtain ⟨k, rfl⟩ : ∃ k : Nat, f = k := ⟨f.toNat, by omega⟩
      have e : giveD l index ticks r = (0, l.set k (some ⟨index, min (max ticks 1) 16000, r⟩)) := by
        unfold giveD
        rw [if_neg hlow, if_neg (by omega), if_neg (by omega), ← hfd, Int.toNat_natCast]
      rw [e]
      have hk : k < nw := by
        rcases hfr with ⟨h1, _⟩ | ⟨k2, h1, _, h3, _⟩
        · omega
        · have := (List.getElem?_eq_some_iff.1 h3).1; omega
      have hmm : max 1 (min ticks 16000) = min (max ticks 1) 16000 := by omega
      repeat' (first
        | refine CS.seq ?_
        | refine thenQ.normal ?_
        | refine CS.cond_true rfl ?_
        | refine CS.cond_false rfl ?_
        | refine CS.skip ?_
        | (refine CS.region (id := 0) ?_;
            refine RS.box rfl rfl (fun b => ?_);
            refine RS.box rfl rfl (fun b => ?_);
            refine RS.alloc tab_ok rfl rfl (fun b => ?_);
            refine RS.pv (PV.all tab_ok rfl) rfl ?_;
            refine RS.nil ?_)
        | (refine CS.region (id := 1) ?_;
            refine RS.pv (PV.all tab_ok rfl) rfl ?_;
            (first | refine RS.pv (PV.lssT rfl rfl (by omega)) rfl ?_ | refine RS.pv (PV.lssF rfl rfl (by omega)) rfl ?_ | refine RS.ifLss rfl rfl rfl (fun h => ?_) (fun h => ?_));
            (all_goals refine RS.nil ?_))
        | (refine CS.region (id := 3) ?_;
            refine RS.pv (PV.all tab_ok rfl) rfl ?_;
            refine RS.nil ?_)
        | (refine CS.region (id := 5) ?_;
            refine RS.pv (PV.all tab_ok rfl) rfl ?_;
            (first | refine RS.pv (PV.geqT rfl rfl (by omega)) rfl ?_ | refine RS.pv (PV.geqF rfl rfl (by omega)) rfl ?_ | refine RS.ifGeq rfl rfl rfl (fun h => ?_) (fun h => ?_));
            (all_goals refine RS.nil ?_))
        | (refine CS.region (id := 11) ?_;
            refine RS.pv (PV.all tab_ok rfl) rfl ?_;
            (first | refine RS.pv (PV.lssT rfl rfl (by omega)) rfl ?_ | refine RS.pv (PV.lssF rfl rfl (by omega)) rfl ?_ | refine RS.ifLss rfl rfl rfl (fun h => ?_) (fun h => ?_));
            (all_goals refine RS.nil ?_))
        | (refine CS.region (id := 12) ?_;
            (first | refine RS.lv (LV.load tab_ok rfl (Has.own 0 rfl) rfl) rfl ?_ | refine RS.lv (LV.load tab_ok rfl (Has.own 1 rfl) rfl) rfl ?_ | refine RS.lv (LV.load tab_ok rfl (Has.own 2 rfl) rfl) rfl ?_);
            (first | refine RS.store (k := 0) tab_ok rfl rfl rfl rfl rfl rfl rfl rfl ?_ | refine RS.store (k := 1) tab_ok rfl rfl rfl rfl rfl rfl rfl rfl ?_ | refine RS.store (k := 2) tab_ok rfl rfl rfl rfl rfl rfl rfl rfl ?_);
            refine RS.pv (PV.all tab_ok rfl) rfl ?_;
            refine RS.nil ?_)
        | refine CS.ret ?_
        | refine thenQ.ret ?_
        | refine blkQ.ret ?_
        | refine retQ.ret ?_
        | refine CS.block ?_
        | refine CS.exit ?_
        | refine thenQ.exit ?_
        | refine blkQ.normal ?_
        | refine blkQ.here ?_
        | refine blkQ.past rfl ?_
        | refine retQ.normal ?_)
      refine CS.region (id := 13) ?_
      (first | refine RS.lv (LV.load tab_ok rfl (Has.own 0 rfl) rfl) rfl ?_ | refine RS.lv (LV.load tab_ok rfl (Has.own 1 rfl) rfl) rfl ?_ | refine RS.lv (LV.load tab_ok rfl (Has.own 2 rfl) rfl) rfl ?_)
      refine RS.pv (PV.all tab_ok rfl) rfl ?_
      refine RS.pv (PV.all tab_ok rfl) rfl ?_
      refine RS.pv (PV.all tab_ok rfl) rfl ?_
      refine RS.pv (PV.minI rfl rfl) rfl ?_
      refine RS.pv (PV.maxI rfl rfl) rfl ?_
      (first | refine RS.lv (LV.load tab_ok rfl (Has.own 0 rfl) rfl) rfl ?_ | refine RS.lv (LV.load tab_ok rfl (Has.own 1 rfl) rfl) rfl ?_ | refine RS.lv (LV.load tab_ok rfl (Has.own 2 rfl) rfl) rfl ?_)
      refine RS.pv (PV.all tab_ok rfl) rfl ?_
      rw [hmm]
      refine RS.call (set_s _ nw k l (.int .i64 index :: .int .i64 (min (max ticks 1) 16000) :: [.string r.path, .int .i64 r.index, .slice ra2 r.props.length rc2, .slice ra3 r.tags.length rc3, .slice ra4 r.links.length rc4, .slice ra5 r.run.length rc5, .slice ra6 r.load.length rc6, .string r.name, .int .i64 r.priority, .string r.owner, .string r.group, .int .i64 r.mode]) (some ⟨index, min (max ticks 1) 16000, r⟩) _ _ hv.ref hnw hk ⟨_, rfl, hr⟩) rfl (by kernel_rfl) rfl ?_
      rintro v i3 L3 hi3 ⟨hv3, rfl⟩
      obtain ⟨ao3, cap3, rfl⟩ := hv3.shape
      (first | refine RS.store (k := 0) tab_ok rfl rfl rfl rfl rfl rfl rfl rfl ?_ | refine RS.store (k := 1) tab_ok rfl rfl rfl rfl rfl rfl rfl rfl ?_ | refine RS.store (k := 2) tab_ok rfl rfl rfl rfl rfl rfl rfl rfl ?_)
      refine RS.pv (PV.all tab_ok rfl) rfl ?_
      refine RS.nil ?_
      refine thenQ.normal ?_
      refine CS.ret ?_
      refine retQ.ret ?_
      exact ⟨_, _, _, _, _, _, rfl, Has.own 0 rfl, rfl, [_, _, _], _, rfl, hv3, rfl⟩
theorem zrow_v (i : Imm) : RowV i zrow none := rfl
theorem rCancel_s (v : Value) (nw : Nat) (l : List (Option JobD)) (index : Int) (i : Imm) (L : SH) (hv : RefS i v nw l) :
    FnS Try.prog 50 [v, .int .i64 index] i L fun v' i' L' => (∃ w, v' = .tuple #[w, .int .i64 (cancelD l index).1] ∧ RefV i' w nw (cancelD l index).2) ∧ L' = L := by
  refine FnS.state (K := fun v' i' L' => ∃ G w, v' = .tuple #[w, .int .i64 (cancelD l index).1] ∧ RefV i' w nw (cancelD l index).2 ∧ L' = G ++ L) ?_ ?_
  rotate_left
  · rintro v' i' L' w _ hs ⟨G, w, h1, h2, rfl⟩
    exact ⟨i', _, Imm.le.refl i', hs.dropL, ⟨w, h1, h2⟩, rfl⟩
  have hnw := hv.le
  have hl : l.length = nw := by obtain ⟨_, _, _, _, _, h⟩ := hv.ref; exact h
  obtain ⟨ao, cap, rfl⟩ := hv.ref.shape
  refine FnS.introCT tab_ok Try.func50 rfl Try.ntmps50 (by simp) Try.results50 ?_
  repeat' (first
    | refine CS.seq ?_
    | refine thenQ.normal ?_
    | refine CS.cond_true rfl ?_
    | refine CS.cond_false rfl ?_
    | refine CS.skip ?_
    | (refine CS.region (id := 0) ?_;
        refine RS.box rfl rfl (fun b2 => ?_);
        (all_goals refine RS.alloc tab_ok rfl rfl (fun b4 => ?_));
        (all_goals refine RS.pv (PV.all tab_ok rfl) rfl ?_);
        (all_goals refine RS.nil ?_))
    | (refine CS.region (id := 1) ?_;
        refine RS.pv (PV.all tab_ok rfl) rfl ?_;
        refine RS.nil ?_)
    | refine CS.ret ?_
    | refine thenQ.ret ?_
    | refine blkQ.ret ?_
    | refine retQ.ret ?_
    | refine CS.block ?_
    | refine CS.exit ?_
    | refine thenQ.exit ?_
    | refine blkQ.normal ?_
    | refine blkQ.here ?_
    | refine blkQ.past rfl ?_
    | refine retQ.normal ?_)
  refine CS.loop [1, 2, 4, 6] (fun m vs i' L' => ∃ k : Nat, m = nw - k ∧ k ≤ nw ∧ (∀ j o, j < k → l[j]? = some o → isI index o = false) ∧ vs = [.int .i64 index, .pointer (some ⟨b2, 0, none⟩), .pointer (some ⟨b4, 0, none⟩), .int .i64 (k : Int)] ∧ i' = i ∧ L' = _ :: _ :: L) nw ⟨0, rfl, Nat.zero_le _, fun j o hj => absurd hj (by omega), rfl, rfl, rfl⟩ ?_
  rintro m g vs i' L' _ ⟨k, rfl, hkn, hno, rfl, rfl, rfl⟩
  by_cases hlt : k < nw
  · obtain ⟨o, ho⟩ : ∃ o, l[k]? = some o := ⟨_, List.getElem?_eq_getElem (by omega)⟩
    obtain ⟨b, off, cc, t, fz, cap', rr, e, hb, hrw, hc⟩ := hv.ref.at ho
    cases e
    obtain ⟨x1, x2, x3, x4, a2, n2, c2, a3, n3, c3, a4, n4, c4, a5, n5, c5, a6, n6, c6, x5, x6, x7, x8, x9, rfl, hidx⟩ := hrw.lit
    have q0 := hc 0 _ rfl
    by_cases his : isI index o = true
    · obtain ⟨j, rfl, hji⟩ : ∃ j, o = some j ∧ j.index = index := by
        cases o with
        | none => cases his
        | some j => exact ⟨j, rfl, of_decide_eq_true his⟩
      have hj := hv.job j (List.mem_of_getElem? ho)
      have hx0 : x1 = j.index := hidx
      have hf : fidx (isI index) l = k := fidx_at ho his fun j2 y hj2 hy => hno j2 y hj2 hy
      have e : cancelD l index = (0, l.set k none) := by unfold cancelD; rw [if_neg (by omega), hf, Int.toNat_natCast]
      rw [e]
      repeat' (first
        | refine CS.seq ?_
        | refine thenQ.normal ?_
        | refine CS.cond_true rfl ?_
        | refine CS.cond_false rfl ?_
        | refine CS.skip ?_
        | (refine CS.region (id := 0) ?_;
            refine RS.box rfl rfl (fun b => ?_);
            refine RS.alloc tab_ok rfl rfl (fun b => ?_);
            refine RS.pv (PV.all tab_ok rfl) rfl ?_;
            refine RS.nil ?_)
        | (refine CS.region (id := 2) ?_;
            refine RS.pv (PV.all tab_ok rfl) rfl ?_;
            refine RS.pv (PV.all tab_ok rfl) rfl ?_;
            (first | refine RS.lv (LV.load tab_ok rfl (Has.own 0 rfl) rfl) rfl ?_ | refine RS.lv (LV.load tab_ok rfl (Has.own 1 rfl) rfl) rfl ?_ | refine RS.lv (LV.load tab_ok rfl (Has.own 2 rfl) rfl) rfl ?_);
            (first | refine RS.pv (PV.lenS tab_ok rfl rfl) rfl ?_ | refine RS.pv (PV.lenT tab_ok rfl rfl) rfl ?_);
            (first | refine RS.pv (PV.lssT rfl rfl (by omega)) rfl ?_ | refine RS.pv (PV.lssF rfl rfl (by omega)) rfl ?_ | refine RS.ifLss rfl rfl rfl (fun h => ?_) (fun h => ?_));
            (all_goals refine RS.nil ?_))
        | (refine CS.region (id := 4) ?_;
            refine RS.pv (PV.all tab_ok rfl) rfl ?_;
            (first | refine RS.pv (PV.gtrT rfl rfl (by omega)) rfl ?_ | refine RS.pv (PV.gtrF rfl rfl (by omega)) rfl ?_ | refine RS.ifGtr rfl rfl rfl (fun h => ?_) (fun h => ?_));
            (all_goals refine RS.pv (PV.all tab_ok rfl) rfl ?_);
            (all_goals (first | refine RS.pv (PV.all tab_ok rfl) rfl ?_ | refine RS.skip rfl ?_));
            (all_goals (first | refine RS.lv (LV.load tab_ok rfl (Has.own 0 rfl) rfl) rfl ?_ | refine RS.lv (LV.load tab_ok rfl (Has.own 1 rfl) rfl) rfl ?_ | refine RS.lv (LV.load tab_ok rfl (Has.own 2 rfl) rfl) rfl ?_ | refine RS.skip rfl ?_));
            (all_goals (first | refine RS.pv (PV.all tab_ok rfl) rfl ?_ | refine RS.skip rfl ?_));
            (all_goals (first | refine RS.pv (PV.indexAddr tab_ok rfl rfl rfl (by omega)) rfl ?_ | refine RS.pv (PV.indexAddrA tab_ok rfl rfl rfl (by omega)) rfl ?_ | refine RS.skip rfl ?_));
            (all_goals (first | refine RS.pv (PV.all tab_ok rfl) rfl ?_ | refine RS.skip rfl ?_));
            (all_goals refine RS.lv (LV.load1 tab_ok rfl (Has.imm hb) rfl q0) rfl ?_);
            (all_goals (first | refine RS.pv (PV.all tab_ok rfl) rfl ?_ | refine RS.skip rfl ?_));
            (all_goals (first | refine RS.pv (PV.all tab_ok rfl) rfl ?_ | refine RS.pv (PV.eqlT rfl rfl (by omega)) rfl ?_ | refine RS.pv (PV.eqlF rfl rfl (by omega)) rfl ?_ | refine RS.ifEql rfl rfl rfl (fun h => ?_) (fun h => ?_) | refine RS.ifSeql rfl rfl rfl (fun h => ?_) (fun h => ?_) | refine RS.skip rfl ?_));
            (all_goals refine RS.pv (PV.all tab_ok rfl) rfl ?_);
            (all_goals refine RS.nil ?_))
        | (refine CS.region (id := 5) ?_;
            (first | refine RS.lv (LV.load tab_ok rfl (Has.own 0 rfl) rfl) rfl ?_ | refine RS.lv (LV.load tab_ok rfl (Has.own 1 rfl) rfl) rfl ?_ | refine RS.lv (LV.load tab_ok rfl (Has.own 2 rfl) rfl) rfl ?_);
            refine RS.pv (PV.all tab_ok rfl) rfl ?_;
            refine RS.pv (PV.all tab_ok rfl) rfl ?_;
            (refine RS.call (set_s _ nw k l zrow none _ _ hv.ref hnw hlt (zrow_v _)) rfl (by kernel_rfl) rfl ?_; rintro v i3 L3 hi3 ⟨hv3, rfl⟩; obtain ⟨ao3, cap3, rfl⟩ := hv3.shape);
            (all_goals (first | refine RS.store (k := 0) tab_ok rfl rfl rfl rfl rfl rfl rfl rfl ?_ | refine RS.store (k := 1) tab_ok rfl rfl rfl rfl rfl rfl rfl rfl ?_ | refine RS.store (k := 2) tab_ok rfl rfl rfl rfl rfl rfl rfl rfl ?_));
            (all_goals refine RS.pv (PV.all tab_ok rfl) rfl ?_);
            (all_goals refine RS.nil ?_))
        | refine CS.ret ?_
        | refine thenQ.ret ?_
        | refine blkQ.ret ?_
        | refine retQ.ret ?_
        | refine CS.block ?_
        | refine CS.exit ?_
        | refine thenQ.exit ?_
        | refine blkQ.normal ?_
        | refine blkQ.here ?_
        | refine blkQ.past rfl ?_
        | refine retQ.normal ?_)
      exact ⟨_, _, _, _, _, _, rfl, Has.own 0 rfl, rfl, [_, _], _, rfl, hv3, rfl⟩
    · have hx0 : x1 = idxD o := hidx
      have hne : 0 < index → x1 ≠ index := by
        intro h0 h1
        cases o with
        | none => rw [hx0] at h1; simp only [idxD] at h1; omega
        | some j => exact his (decide_eq_true (by rw [← h1, hx0]; rfl))
      have fin2 : ∃ m', m' < nw - k ∧ ∃ k' : Nat, m' = nw - k' ∧ k' ≤ nw ∧ (∀ j o, j < k' → l[j]? = some o → isI index o = false) ∧ k' = k + 1 := by
        refine ⟨nw - (k + 1), by omega, k + 1, rfl, hlt, fun j2 o2 hj2 ho2 => ?_, rfl⟩
        rcases Nat.lt_succ_iff_lt_or_eq.1 hj2 with h | rfl
        · exact hno j2 o2 h ho2
        · rw [ho] at ho2; cases ho2; simpa using his
      obtain ⟨m', hm', k', h1, h2, h3, rfl⟩ := fin2
      by_cases h0 : 0 < index
      · have hne' := hne h0
        repeat' (first
          | refine CS.seq ?_
          | refine thenQ.normal ?_
          | refine CS.cond_true rfl ?_
          | refine CS.cond_false rfl ?_
          | refine CS.skip ?_
          | (refine CS.region (id := 0) ?_;
              refine RS.box rfl rfl (fun b => ?_);
              refine RS.alloc tab_ok rfl rfl (fun b => ?_);
              refine RS.pv (PV.all tab_ok rfl) rfl ?_;
              refine RS.nil ?_)
          | (refine CS.region (id := 2) ?_;
              refine RS.pv (PV.all tab_ok rfl) rfl ?_;
              refine RS.pv (PV.all tab_ok rfl) rfl ?_;
              (first | refine RS.lv (LV.load tab_ok rfl (Has.own 0 rfl) rfl) rfl ?_ | refine RS.lv (LV.load tab_ok rfl (Has.own 1 rfl) rfl) rfl ?_ | refine RS.lv (LV.load tab_ok rfl (Has.own 2 rfl) rfl) rfl ?_);
              (first | refine RS.pv (PV.lenS tab_ok rfl rfl) rfl ?_ | refine RS.pv (PV.lenT tab_ok rfl rfl) rfl ?_);
              (first | refine RS.pv (PV.lssT rfl rfl (by omega)) rfl ?_ | refine RS.pv (PV.lssF rfl rfl (by omega)) rfl ?_ | refine RS.ifLss rfl rfl rfl (fun h => ?_) (fun h => ?_));
              (all_goals refine RS.nil ?_))
          | (refine CS.region (id := 3) ?_;
              refine RS.pv (PV.all tab_ok rfl) rfl ?_;
              refine RS.pv (PV.add rfl rfl (by omega)) rfl ?_;
              refine RS.pv (PV.all tab_ok rfl) rfl ?_;
              refine RS.nil ?_)
          | (refine CS.region (id := 4) ?_;
              refine RS.pv (PV.all tab_ok rfl) rfl ?_;
              (first | refine RS.pv (PV.gtrT rfl rfl (by omega)) rfl ?_ | refine RS.pv (PV.gtrF rfl rfl (by omega)) rfl ?_ | refine RS.ifGtr rfl rfl rfl (fun h => ?_) (fun h => ?_));
              (all_goals refine RS.pv (PV.all tab_ok rfl) rfl ?_);
              (all_goals (first | refine RS.pv (PV.all tab_ok rfl) rfl ?_ | refine RS.skip rfl ?_));
              (all_goals (first | refine RS.lv (LV.load tab_ok rfl (Has.own 0 rfl) rfl) rfl ?_ | refine RS.lv (LV.load tab_ok rfl (Has.own 1 rfl) rfl) rfl ?_ | refine RS.lv (LV.load tab_ok rfl (Has.own 2 rfl) rfl) rfl ?_ | refine RS.skip rfl ?_));
              (all_goals (first | refine RS.pv (PV.all tab_ok rfl) rfl ?_ | refine RS.skip rfl ?_));
              (all_goals (first | refine RS.pv (PV.indexAddr tab_ok rfl rfl rfl (by omega)) rfl ?_ | refine RS.pv (PV.indexAddrA tab_ok rfl rfl rfl (by omega)) rfl ?_ | refine RS.skip rfl ?_));
              (all_goals (first | refine RS.pv (PV.all tab_ok rfl) rfl ?_ | refine RS.skip rfl ?_));
              (all_goals refine RS.lv (LV.load1 tab_ok rfl (Has.imm hb) rfl q0) rfl ?_);
              (all_goals (first | refine RS.pv (PV.all tab_ok rfl) rfl ?_ | refine RS.skip rfl ?_));
              (all_goals (first | refine RS.pv (PV.all tab_ok rfl) rfl ?_ | refine RS.pv (PV.eqlT rfl rfl (by omega)) rfl ?_ | refine RS.pv (PV.eqlF rfl rfl (by omega)) rfl ?_ | refine RS.ifEql rfl rfl rfl (fun h => ?_) (fun h => ?_) | refine RS.ifSeql rfl rfl rfl (fun h => ?_) (fun h => ?_) | refine RS.skip rfl ?_));
              (all_goals refine RS.pv (PV.all tab_ok rfl) rfl ?_);
              (all_goals refine RS.nil ?_))
          | refine CS.ret ?_
          | refine thenQ.ret ?_
          | refine blkQ.ret ?_
          | refine retQ.ret ?_
          | refine CS.block ?_
          | refine CS.exit ?_
          | refine thenQ.exit ?_
          | refine blkQ.normal ?_
          | refine blkQ.here ?_
          | refine blkQ.past rfl ?_
          | refine retQ.normal ?_)
        exact ⟨m', hm', k + 1, h1, h2, h3, rfl, rfl, rfl⟩
      · repeat' (first
          | refine CS.seq ?_
          | refine thenQ.normal ?_
          | refine CS.cond_true rfl ?_
          | refine CS.cond_false rfl ?_
          | refine CS.skip ?_
          | (refine CS.region (id := 0) ?_;
              refine RS.box rfl rfl (fun b => ?_);
              refine RS.alloc tab_ok rfl rfl (fun b => ?_);
              refine RS.pv (PV.all tab_ok rfl) rfl ?_;
              refine RS.nil ?_)
          | (refine CS.region (id := 2) ?_;
              refine RS.pv (PV.all tab_ok rfl) rfl ?_;
              refine RS.pv (PV.all tab_ok rfl) rfl ?_;
              (first | refine RS.lv (LV.load tab_ok rfl (Has.own 0 rfl) rfl) rfl ?_ | refine RS.lv (LV.load tab_ok rfl (Has.own 1 rfl) rfl) rfl ?_ | refine RS.lv (LV.load tab_ok rfl (Has.own 2 rfl) rfl) rfl ?_);
              (first | refine RS.pv (PV.lenS tab_ok rfl rfl) rfl ?_ | refine RS.pv (PV.lenT tab_ok rfl rfl) rfl ?_);
              (first | refine RS.pv (PV.lssT rfl rfl (by omega)) rfl ?_ | refine RS.pv (PV.lssF rfl rfl (by omega)) rfl ?_ | refine RS.ifLss rfl rfl rfl (fun h => ?_) (fun h => ?_));
              (all_goals refine RS.nil ?_))
          | (refine CS.region (id := 3) ?_;
              refine RS.pv (PV.all tab_ok rfl) rfl ?_;
              refine RS.pv (PV.add rfl rfl (by omega)) rfl ?_;
              refine RS.pv (PV.all tab_ok rfl) rfl ?_;
              refine RS.nil ?_)
          | (refine CS.region (id := 4) ?_;
              refine RS.pv (PV.all tab_ok rfl) rfl ?_;
              (first | refine RS.pv (PV.gtrT rfl rfl (by omega)) rfl ?_ | refine RS.pv (PV.gtrF rfl rfl (by omega)) rfl ?_ | refine RS.ifGtr rfl rfl rfl (fun h => ?_) (fun h => ?_));
              (all_goals refine RS.pv (PV.all tab_ok rfl) rfl ?_);
              (all_goals (first | refine RS.pv (PV.all tab_ok rfl) rfl ?_ | refine RS.skip rfl ?_));
              (all_goals (first | refine RS.lv (LV.load tab_ok rfl (Has.own 0 rfl) rfl) rfl ?_ | refine RS.lv (LV.load tab_ok rfl (Has.own 1 rfl) rfl) rfl ?_ | refine RS.lv (LV.load tab_ok rfl (Has.own 2 rfl) rfl) rfl ?_ | refine RS.skip rfl ?_));
              (all_goals (first | refine RS.pv (PV.all tab_ok rfl) rfl ?_ | refine RS.skip rfl ?_));
              (all_goals (first | refine RS.pv (PV.indexAddr tab_ok rfl rfl rfl (by omega)) rfl ?_ | refine RS.pv (PV.indexAddrA tab_ok rfl rfl rfl (by omega)) rfl ?_ | refine RS.skip rfl ?_));
              (all_goals (first | refine RS.pv (PV.all tab_ok rfl) rfl ?_ | refine RS.skip rfl ?_));
              (all_goals (first | refine RS.lv (LV.load tab_ok rfl (Has.own 0 rfl) rfl) rfl ?_ | refine RS.lv (LV.load tab_ok rfl (Has.own 1 rfl) rfl) rfl ?_ | refine RS.lv (LV.load tab_ok rfl (Has.own 2 rfl) rfl) rfl ?_ | refine RS.skip rfl ?_));
              (all_goals (first | refine RS.pv (PV.all tab_ok rfl) rfl ?_ | refine RS.skip rfl ?_));
              (all_goals (first | refine RS.pv (PV.all tab_ok rfl) rfl ?_ | refine RS.pv (PV.eqlT rfl rfl (by omega)) rfl ?_ | refine RS.pv (PV.eqlF rfl rfl (by omega)) rfl ?_ | refine RS.ifEql rfl rfl rfl (fun h => ?_) (fun h => ?_) | refine RS.ifSeql rfl rfl rfl (fun h => ?_) (fun h => ?_) | refine RS.skip rfl ?_));
              (all_goals refine RS.pv (PV.all tab_ok rfl) rfl ?_);
              (all_goals refine RS.nil ?_))
          | refine CS.ret ?_
          | refine thenQ.ret ?_
          | refine blkQ.ret ?_
          | refine retQ.ret ?_
          | refine CS.block ?_
          | refine CS.exit ?_
          | refine thenQ.exit ?_
          | refine blkQ.normal ?_
          | refine blkQ.here ?_
          | refine blkQ.past rfl ?_
          | refine retQ.normal ?_)
        exact ⟨m', hm', k + 1, h1, h2, h3, rfl, rfl, rfl⟩
  · have hke : k = nw := by omega
    subst hke
    have hf : fidx (isI index) l = -1 := fidx_none fun j o ho => hno j o (by have := (List.getElem?_eq_some_iff.1 ho).1; omega) ho
    have e : cancelD l index = (294, l) := if_pos (by omega)
    rw [e]
    repeat' (first
      | refine CS.seq ?_
      | refine thenQ.normal ?_
      | refine CS.cond_true rfl ?_
      | refine CS.cond_false rfl ?_
      | refine CS.skip ?_
      | (refine CS.region (id := 0) ?_;
          refine RS.box rfl rfl (fun b => ?_);
          refine RS.alloc tab_ok rfl rfl (fun b => ?_);
          refine RS.pv (PV.all tab_ok rfl) rfl ?_;
          refine RS.nil ?_)
      | (refine CS.region (id := 2) ?_;
          refine RS.pv (PV.all tab_ok rfl) rfl ?_;
          refine RS.pv (PV.all tab_ok rfl) rfl ?_;
          (first | refine RS.lv (LV.load tab_ok rfl (Has.own 0 rfl) rfl) rfl ?_ | refine RS.lv (LV.load tab_ok rfl (Has.own 1 rfl) rfl) rfl ?_ | refine RS.lv (LV.load tab_ok rfl (Has.own 2 rfl) rfl) rfl ?_);
          (first | refine RS.pv (PV.lenS tab_ok rfl rfl) rfl ?_ | refine RS.pv (PV.lenT tab_ok rfl rfl) rfl ?_);
          (first | refine RS.pv (PV.lssT rfl rfl (by omega)) rfl ?_ | refine RS.pv (PV.lssF rfl rfl (by omega)) rfl ?_ | refine RS.ifLss rfl rfl rfl (fun h => ?_) (fun h => ?_));
          (all_goals refine RS.nil ?_))
      | (refine CS.region (id := 6) ?_;
          (first | refine RS.lv (LV.load tab_ok rfl (Has.own 0 rfl) rfl) rfl ?_ | refine RS.lv (LV.load tab_ok rfl (Has.own 1 rfl) rfl) rfl ?_ | refine RS.lv (LV.load tab_ok rfl (Has.own 2 rfl) rfl) rfl ?_);
          (first | refine RS.store (k := 0) tab_ok rfl rfl rfl rfl rfl rfl rfl rfl ?_ | refine RS.store (k := 1) tab_ok rfl rfl rfl rfl rfl rfl rfl rfl ?_ | refine RS.store (k := 2) tab_ok rfl rfl rfl rfl rfl rfl rfl rfl ?_);
          refine RS.pv (PV.all tab_ok rfl) rfl ?_;
          refine RS.nil ?_)
      | refine CS.ret ?_
      | refine thenQ.ret ?_
      | refine blkQ.ret ?_
      | refine retQ.ret ?_
      | refine CS.block ?_
      | refine CS.exit ?_
      | refine thenQ.exit ?_
      | refine blkQ.normal ?_
      | refine blkQ.here ?_
      | refine blkQ.past rfl ?_
      | refine retQ.normal ?_)
    exact ⟨_, _, _, _, _, _, rfl, Has.own 0 rfl, rfl, [_, _], _, rfl, hv.ref, rfl⟩
end Go.Proofs.Ytmcajldlcomegaa
