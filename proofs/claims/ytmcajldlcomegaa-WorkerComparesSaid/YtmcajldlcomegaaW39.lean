/- WorkerEffects: the two records. -/
import Derived.Test.YtmcajldlcomegaaW38
namespace Go.Proofs.Ytmcajldlcomegaa
open Go Go.Eng

/-- behind the drawn region: of what has been done, of the slots, of memory -/
def H11 (f0 : Fr) (tp bx : Nat) (lv : Value) (at0 : Int) (X : SH) (path : ByteArray) (ox : Obj) (R : SH) (s : Nat → Bool) (g : Fr) (i : Imm) (L : SH) : Prop :=
  ∃ (b : Nat) (at' : Int), (∀ t, t ∉ [20, 21, 22, 23, 24, 25, 26, 5] → g t = f0 t) ∧ (s 0 = true → g 20 = .pointer (some ⟨tp, 0, none⟩)) ∧ (s 1 = true → g 21 = .pointer (some ⟨bx, 0, none⟩)) ∧ (s 2 = true → g 22 = .string path) ∧ (s 3 = true → g 23 = .pointer (some ⟨tp, 0, none⟩)) ∧ (s 4 = true → ∃ y, g 24 = .int .i64 (foldI y 2)) ∧ (s 5 = true → ∃ k, g 25 = .int .i64 k) ∧
    (s 6 = true → ∃ rc r k, g 26 = .agg (List.toArray rc) ∧ RecV i rc r ∧ Made r path k) ∧ (s 7 = true → g 5 = .pointer (some ⟨b, 0, none⟩)) ∧ IntSl i lv ∧ at0 ≤ at' ∧ at' ≤ at0 + (bif s 4 then 1 else 0) + (bif s 6 then 40 else 0) ∧ X = X ∧
    L.Perm ((bx, ox) :: (tp, tapeO lv (at')) :: (xS (s 7) (b, .cells (List.toArray [.string ByteArray.empty, .int .i64 0, .slice none 0 0, .slice none 0 0, .slice none 0 0, .slice none 0 0, .slice none 0 0, .string ByteArray.empty, .int .i64 0, .string ByteArray.empty, .string ByteArray.empty, .int .i64 0]) 36 (0, 0)) ++ R))
theorem Effects_s (lv : Value) (i : Imm) (R : SH) (hl : IntSl i lv) : FnS Try.prog 11 [lv] i R fun v _ _ => v = .bool true := by
  obtain ⟨ao, ln, cap, hlv, -⟩ := id hl
  subst hlv
  refine FnS.intro1 Try.func11 rfl Try.ntmps11 (by simp) Try.results11 ?_
  repeat' (first
    | refine CS.cut (x := .region 3 _ _) [3, 4, 5] (fun vs i' L' => ∃ (b : Nat) (at' : Int) (rc : List Value) (y : Rec) (k : Int), RecV i' rc y ∧ Made y x.path k ∧ IntSl i' (.slice ao ln cap) ∧ vs = [.pointer (some ⟨tp, 0, none⟩), .pointer (some ⟨bx, 0, none⟩), .pointer (some ⟨b, 0, none⟩)] ∧ L' = (b, .cells (List.toArray rc) 36 (0, 0)) :: (bx, .cells (List.toArray [.string x.path, .int .i64 x.index, .slice a2 x.props.length c2, .slice a3 x.tags.length c3, .slice a4 x.links.length c4, .slice a5 x.run.length c5, .slice a6 x.load.length c6, .string x.name, .int .i64 x.priority, .string x.owner, .string x.group, .int .i64 x.mode]) 36 (0, 0)) :: (tp, tapeO (.slice ao ln cap) (at')) :: R) ?_ ?_
    | refine CS.seq ?_
    | refine thenQ.normal ?_
    | refine CS.cond_true rfl ?_
    | refine CS.cond_false rfl ?_
    | refine CS.skip ?_
    | (refine CS.region (id := 0) ?_;
        refine RS.pv (PV.all tab_ok rfl) rfl ?_;
        refine RS.nil ?_)
    | (refine CS.region (id := 1) ?_;
        refine RS.pv (PV.all tab_ok rfl) rfl ?_;
        refine RS.pv (PV.all tab_ok rfl) rfl ?_;
        refine RS.box rfl rfl (fun tp => ?_);
        (all_goals refine RS.pv (PV.all tab_ok rfl) rfl ?_);
        (all_goals refine RS.nil ?_))
    | (refine CS.region (id := 2) ?_;
        refine RS.pv (PV.all tab_ok rfl) rfl ?_;
        refine RS.pv (PV.all tab_ok rfl) rfl ?_;
        (refine RS.call (Path_s tp 0 (.slice ao ln cap) 0 _ _ hl (by omega) rfl) rfl (by kernel_rfl) rfl ?_; rintro v i5 L5 hi5 ⟨ps, at2, rfl, ha2, ha3, rfl⟩; replace hl := hl.le hi5);
        (all_goals (refine RS.call (Record_s tp 0 (.slice ao ln cap) at2 _ _ _ _ hl (by omega) rfl) rfl (by kernel_rfl) rfl ?_; rintro v i6 L6 hi6 ⟨rv, x, at3, rfl, hx, hmx, ha4, ha5, rfl⟩; replace hl := hl.le hi6; obtain ⟨a2, c2, a3, c3, a4, c4, a5, c5, a6, c6, rfl⟩ := hx.lit));
        (all_goals refine RS.alloc tab_ok rfl rfl (fun bx => ?_));
        (all_goals (first | refine RS.store (k := 0) tab_ok rfl rfl rfl rfl rfl rfl rfl rfl ?_ | refine RS.store (k := 1) tab_ok rfl rfl rfl rfl rfl rfl rfl rfl ?_ | refine RS.store (k := 2) tab_ok rfl rfl rfl rfl rfl rfl rfl rfl ?_));
        (all_goals refine RS.nil ?_))
    | refine CS.ret ?_
    | refine thenQ.ret ?_
    | refine blkQ.ret ?_
    | refine retQ.ret ?_
    | refine CS.block ?_
    | refine CS.exit ?_
    | refine thenQ.exit ?_
    | refine blkQ.normal ?_
    | refine blkQ.here ?_
    | refine blkQ.past rfl ?_
    | refine retQ.normal ?_)
  · refine CS.named fun f0 hf0 => ?_
    have f3 : f0 3 = .pointer (some ⟨tp, 0, none⟩) := by rw [hf0]; rfl
    have f4 : f0 4 = .pointer (some ⟨bx, 0, none⟩) := by rw [hf0]; rfl
    clear hf0
    refine CS.drawH mix [0, 1, 2, 3, 4, 5, 6, 7] [8] (by kernel_rfl) rfl (H11 f0 tp bx (.slice ao ln cap) at3 [] x.path (.cells (List.toArray [.string x.path, .int .i64 x.index, .slice a2 x.props.length c2, .slice a3 x.tags.length c3, .slice a4 x.links.length c4, .slice a5 x.run.length c5, .slice a6 x.load.length c6, .string x.name, .int .i64 x.priority, .string x.owner, .string x.group, .int .i64 x.mode]) 36 (0, 0)) R) ⟨0, at3, fun _ _ => rfl, nofun, nofun, nofun, nofun, nofun, nofun, nofun, nofun, hl, by omega, by show at3 ≤ at3 + 0 + 0; omega, rfl, List.Perm.refl _⟩ ?_ ?_
    · rintro j hj o ho s hs hp g i' L' hi ⟨b, at', hfr, q0, q1, q2, q3, q4, q5, q6, q7, hl, hb1, hb2, -, hL⟩
      have g3 : g 3 = .pointer (some ⟨tp, 0, none⟩) := (hfr 3 (by decide)).trans f3
      have g4 : g 4 = .pointer (some ⟨bx, 0, none⟩) := (hfr 4 (by decide)).trans f4
      have hmem : (bx, Obj.cells (List.toArray [.string x.path, .int .i64 x.index, .slice a2 x.props.length c2, .slice a3 x.tags.length c3, .slice a4 x.links.length c4, .slice a5 x.run.length c5, .slice a6 x.load.length c6, .string x.name, .int .i64 x.priority, .string x.owner, .string x.group, .int .i64 x.mode]) 36 (0, 0)) ∈ L' := hL.mem_iff.2 (List.mem_cons_self ..)
      have up6 : ∀ i'', Imm.le i' i'' → (s 6 = true → ∃ rc r k, g 26 = .agg (List.toArray rc) ∧ RecV i'' rc r ∧ Made r x.path k) := fun i'' h' h6 => by
        obtain ⟨rc, r, k, e1, e2, e3⟩ := q6 h6
        exact ⟨rc, r, k, e1, e2.le h', e3⟩
      simp only [List.mem_cons, List.not_mem_nil, or_false] at hj
      rcases hj with rfl | rfl | rfl | rfl | rfl | rfl | rfl | rfl
      all_goals cases ho
      · refine .inl ⟨rfl, OpS.mono (OpS.pv (PV.move (v := .pointer (some ⟨tp, 0, none⟩)) (by show sv (g 3) = _; rw [g3]; rfl))) fun v i'' _ hi' ⟨hL', hv⟩ => ?_⟩
        subst hL'; subst hv
        exact ⟨b, at', (fun t ht => (upd_ne g _ (fun e => ht (by rw [e]; decide))).trans (hfr t ht)), fun _ => upd_same g _ _, q1, q2, q3, q4, q5, up6 _ hi', q7, hl.le hi', hb1, hb2, rfl, hL⟩
      · refine .inl ⟨rfl, OpS.mono (OpS.pv (PV.fieldAddr tab_ok (b := bx) (o := 0) (by show g 4 = _; rw [g4]) rfl)) fun v i'' _ hi' ⟨hL', hv⟩ => ?_⟩
        subst hL'; subst hv
        exact ⟨b, at', (fun t ht => (upd_ne g _ (fun e => ht (by rw [e]; decide))).trans (hfr t ht)), q0, fun _ => upd_same g _ _, q2, q3, q4, q5, up6 _ hi', q7, hl.le hi', hb1, hb2, rfl, hL⟩
      · have h1 := q1 (hp ⟨1, .data⟩ (by simp) rfl)
        refine .inl ⟨rfl, OpS.mono (OpS.lv (LV.load1 tab_ok (b := bx) (off := 0) (v := .string x.path) (by show g 21 = _; rw [h1]) (Has.mem hmem) rfl rfl)) fun v i'' _ hi' ⟨hL', hv⟩ => ?_⟩
        subst hL'; subst hv
        exact ⟨b, at', (fun t ht => (upd_ne g _ (fun e => ht (by rw [e]; decide))).trans (hfr t ht)), q0, q1, fun _ => upd_same g _ _, q3, q4, q5, up6 _ hi', q7, hl.le hi', hb1, hb2, rfl, hL⟩
      · refine .inl ⟨rfl, OpS.mono (OpS.pv (PV.move (v := .pointer (some ⟨tp, 0, none⟩)) (by show sv (g 3) = _; rw [g3]; rfl))) fun v i'' _ hi' ⟨hL', hv⟩ => ?_⟩
        subst hL'; subst hv
        exact ⟨b, at', (fun t ht => (upd_ne g _ (fun e => ht (by rw [e]; decide))).trans (hfr t ht)), q0, q1, q2, fun _ => upd_same g _ _, q4, q5, up6 _ hi', q7, hl.le hi', hb1, hb2, rfl, hL⟩
      · have h3 := q3 (hp ⟨3, .data⟩ (by simp) rfl)
        have hbb : at' ≤ at3 + 40 := by rw [hs] at hb2; cases h6 : s 6 <;> rw [h6] at hb2 <;> simp only [cond_true, cond_false] at hb2 <;> omega
        refine .inl ⟨rfl, OpS.mono (OpS.call (vs := [.pointer (some ⟨tp, 0, none⟩), .int .i64 2]) (by kernel_rfl) (by show [g 23, Value.int .i64 2] = _; rw [h3]) (FnS.frame hL (Next_s tp 1 (.slice ao ln cap) at' 2 _ _ (by omega) hl (by omega) rfl)) fun _ _ _ _ h => h) fun v i'' _ hi' ⟨⟨z, hz⟩, _, hL'⟩ => ?_⟩
        subst hL'; subst hz
        refine ⟨b, at' + 1, (fun t ht => (upd_ne g _ (fun e => ht (by rw [e]; decide))).trans (hfr t ht)), q0, q1, q2, q3, fun _ => ⟨z, upd_same g _ _⟩, q5, up6 _ hi', q7, hl.le hi', by omega, ?_, rfl, List.Perm.refl _⟩
        show at' + 1 ≤ at3 + 1 + (bif s 6 then 40 else 0)
        rw [hs] at hb2
        simp only [cond_false] at hb2
        omega
      · obtain ⟨z, hz⟩ := q4 (hp ⟨4, .data⟩ (by simp) rfl)
        have hz2 := foldI_bd z (n := 2) (by omega)
        refine .inl ⟨rfl, OpS.mono (OpS.pv (PV.add (a := 1) (b := foldI z 2) rfl (by show g 24 = _; rw [hz]) (by omega))) fun v i'' _ hi' ⟨hL', hv⟩ => ?_⟩
        subst hL'; subst hv
        exact ⟨b, at', (fun t ht => (upd_ne g _ (fun e => ht (by rw [e]; decide))).trans (hfr t ht)), q0, q1, q2, q3, q4, fun _ => ⟨_, upd_same g _ _⟩, up6 _ hi', q7, hl.le hi', hb1, hb2, rfl, hL⟩
      · have h0 := q0 (hp ⟨0, .data⟩ (by simp) rfl)
        have h2 := q2 (hp ⟨2, .data⟩ (by simp) rfl)
        obtain ⟨k, h5⟩ := q5 (hp ⟨5, .data⟩ (by simp) rfl)
        have hbb : at' ≤ at3 + 1 := by rw [hs] at hb2; cases h4 : s 4 <;> rw [h4] at hb2 <;> simp only [cond_true, cond_false] at hb2 <;> omega
        refine .inl ⟨rfl, OpS.mono (OpS.call (vs := [.pointer (some ⟨tp, 0, none⟩), .string x.path, .int .i64 k]) (by kernel_rfl) (by show [g 20, g 22, g 25] = _; rw [h0, h2, h5]) (FnS.frame hL (Record_s tp 1 (.slice ao ln cap) at' x.path k _ _ hl (by omega) rfl)) fun _ _ _ _ h => h) fun v i'' _ hi' ⟨rc, r, at5, hv, hrr, hmm, hc1, hc2, hL'⟩ => ?_⟩
        subst hL'; subst hv
        refine ⟨b, at5, (fun t ht => (upd_ne g _ (fun e => ht (by rw [e]; decide))).trans (hfr t ht)), q0, q1, q2, q3, q4, q5, fun _ => ⟨rc, r, k, upd_same g _ _, hrr, hmm⟩, q7, hl.le hi', by omega, ?_, rfl, List.Perm.refl _⟩
        show at5 ≤ at3 + (bif s 4 then 1 else 0) + 40
        rw [hs] at hb2
        simp only [cond_false] at hb2
        omega
      · refine .inl ⟨rfl, OpS.alloc tab_ok rfl fun b' => ?_⟩
        refine ⟨b', at', (fun t ht => (upd_ne g _ (fun e => ht (by rw [e]; decide))).trans (hfr t ht)), q0, q1, q2, q3, q4, q5, q6, fun _ => upd_same g _ _, hl, hb1, hb2, rfl, ?_⟩
        rw [hs] at hL
        refine (List.Perm.cons _ hL).trans ?_
        refine perm_of_sum _ _ fun f => ?_
        simp only [xS, setS, Nat.beq, cond_true, List.map_append, List.map_cons, List.sum_append, List.sum_cons, List.map_nil, List.sum_nil]
        omega
    · rintro g i' L' hi ⟨b, at', hfr, q0, q1, q2, q3, q4, q5, q6, q7, hl', hb1, hb2, -, hL⟩
      have g3 : g 3 = .pointer (some ⟨tp, 0, none⟩) := (hfr 3 (by decide)).trans f3
      have g4 : g 4 = .pointer (some ⟨bx, 0, none⟩) := (hfr 4 (by decide)).trans f4
      obtain ⟨rc, r, k, h26, hrr, hmm⟩ := q6 rfl
      have h5 := q7 rfl
      obtain ⟨b2, d2, b3, d3, b4, d4, b5, d5, b6, d6, rfl⟩ := hrr.lit
      refine RS.perm (L' := (b, .cells (List.toArray [.string ByteArray.empty, .int .i64 0, .slice none 0 0, .slice none 0 0, .slice none 0 0, .slice none 0 0, .slice none 0 0, .string ByteArray.empty, .int .i64 0, .string ByteArray.empty, .string ByteArray.empty, .int .i64 0]) 36 (0, 0)) :: (bx, .cells (List.toArray [.string x.path, .int .i64 x.index, .slice a2 x.props.length c2, .slice a3 x.tags.length c3, .slice a4 x.links.length c4, .slice a5 x.run.length c5, .slice a6 x.load.length c6, .string x.name, .int .i64 x.priority, .string x.owner, .string x.group, .int .i64 x.mode]) 36 (0, 0)) :: (tp, tapeO (.slice ao ln cap) (at')) :: R) (hL.trans ?_) ?_
      · refine List.Perm.trans (l₂ := (bx, .cells (List.toArray [.string x.path, .int .i64 x.index, .slice a2 x.props.length c2, .slice a3 x.tags.length c3, .slice a4 x.links.length c4, .slice a5 x.run.length c5, .slice a6 x.load.length c6, .string x.name, .int .i64 x.priority, .string x.owner, .string x.group, .int .i64 x.mode]) 36 (0, 0)) :: (tp, tapeO (.slice ao ln cap) (at')) :: ([(b, .cells (List.toArray [.string ByteArray.empty, .int .i64 0, .slice none 0 0, .slice none 0 0, .slice none 0 0, .slice none 0 0, .slice none 0 0, .string ByteArray.empty, .int .i64 0, .string ByteArray.empty, .string ByteArray.empty, .int .i64 0]) 36 (0, 0))] ++ R)) (List.Perm.of_eq rfl) ?_
        refine perm_of_sum _ _ fun f => ?_
        simp only [List.map_append, List.map_cons, List.sum_append, List.sum_cons, List.map_nil, List.sum_nil]
        omega
      refine RS.store (k := 0) tab_ok rfl (by show g 5 = _; rw [h5]) (by show g 26 = _; rw [h26]) rfl rfl rfl rfl rfl ?_
      refine RS.nil ?_
      refine thenQ.normal ?_
      refine ⟨b, at', _, r, k, hrr, hmm, hl', ?_, rfl⟩
      show [g 3, g 4, g 5] = _
      rw [g3, g4, h5]
  rintro fr vs i2 L2 hi2 ⟨b, at4, rc, y, k, hy, hmy, hl2, rfl, rfl⟩
  replace hx := hx.le hi2
  obtain ⟨b2, d2, b3, d3, b4, d4, b5, d5, b6, d6, rfl⟩ := hy.lit
  have hlx := hmx.few
  have hly := hmy.few
  have hnx := hmx.links
  have hny := hmy.links
  repeat' (first
    | refine CS.seq ?_
    | refine thenQ.normal ?_
    | refine CS.cond_true rfl ?_
    | refine CS.cond_false rfl ?_
    | refine CS.skip ?_
    | (refine CS.region (id := 0) ?_;
        refine RS.pv (PV.all tab_ok rfl) rfl ?_;
        refine RS.nil ?_)
    | (refine CS.region (id := 1) ?_;
        refine RS.pv (PV.all tab_ok rfl) rfl ?_;
        refine RS.pv (PV.all tab_ok rfl) rfl ?_;
        refine RS.box rfl rfl (fun b => ?_);
        refine RS.pv (PV.all tab_ok rfl) rfl ?_;
        refine RS.nil ?_)
    | (refine CS.region (id := 2) ?_;
        refine RS.pv (PV.all tab_ok rfl) rfl ?_;
        refine RS.pv (PV.all tab_ok rfl) rfl ?_)
    | (refine CS.drawQ (id := 3) mix (by kernel_rfl) ?_;
        refine QS.pv (PV.all tab_ok rfl) rfl ?_;
        refine QS.pv (PV.all tab_ok rfl) rfl ?_;
        (first | refine QS.lv (LV.load tab_ok rfl (Has.own 0 rfl) rfl) rfl ?_ | refine QS.lv (LV.load tab_ok rfl (Has.own 1 rfl) rfl) rfl ?_ | refine QS.lv (LV.load tab_ok rfl (Has.own 2 rfl) rfl) rfl ?_);
        refine QS.pv (PV.all tab_ok rfl) rfl ?_)
    | (refine CS.region (id := 4) ?_;
        (first | refine RS.lv (LV.load tab_ok rfl (Has.own 0 rfl) rfl) rfl ?_ | refine RS.lv (LV.load tab_ok rfl (Has.own 1 rfl) rfl) rfl ?_ | refine RS.lv (LV.load tab_ok rfl (Has.own 2 rfl) rfl) rfl ?_);
        (first | refine RS.lv (LV.load tab_ok rfl (Has.own 0 rfl) rfl) rfl ?_ | refine RS.lv (LV.load tab_ok rfl (Has.own 1 rfl) rfl) rfl ?_ | refine RS.lv (LV.load tab_ok rfl (Has.own 2 rfl) rfl) rfl ?_);
        (refine RS.call (Compare_s _ _ x y true _ _ hx hy hmx.ok.small (by omega) (by omega)) rfl (by kernel_rfl) rfl ?_; rintro v i3 L3 hi3 ⟨⟨e, hev, heo⟩, rfl⟩; obtain ⟨ga, gc, ca, cc, rfl, hga, hca⟩ := hev);
        (all_goals refine RS.alloc tab_ok rfl rfl (fun be => ?_));
        (all_goals (first | refine RS.store (k := 0) tab_ok rfl rfl rfl rfl rfl rfl rfl rfl ?_ | refine RS.store (k := 1) tab_ok rfl rfl rfl rfl rfl rfl rfl rfl ?_ | refine RS.store (k := 2) tab_ok rfl rfl rfl rfl rfl rfl rfl rfl ?_));
        (all_goals refine RS.nil ?_))
    | (refine CS.region (id := 5) ?_;
        refine RS.makeMapS rfl (fun mb => ?_);
        (all_goals refine RS.pv (PV.all tab_ok rfl) rfl ?_);
        (all_goals refine RS.nil ?_))
    | (refine CS.region (id := 6) ?_;
        refine RS.pv (PV.all tab_ok rfl) rfl ?_;
        refine RS.nil ?_)
    | refine CS.ret ?_
    | refine thenQ.ret ?_
    | refine blkQ.ret ?_
    | refine retQ.ret ?_
    | refine CS.block ?_
    | refine CS.exit ?_
    | refine thenQ.exit ?_
    | refine blkQ.normal ?_
    | refine blkQ.here ?_
    | refine blkQ.past rfl ?_
    | refine retQ.normal ?_)
  obtain ⟨rb, bb, gn, cm⟩ := e
  unfold EffOf at heo
  rw [if_pos rfl] at heo
  obtain ⟨hrb, hbb, hgn, hcm⟩ := heo
  simp only at hrb hbb hgn hcm hga hca
  have hgl : gn.length ≤ 4 := by rw [hgn]; have := wout_len x.links y.links; omega
  have hcl : cm.length ≤ 4 := by rw [hcm]; have := wout_len y.links x.links; omega
  obtain ⟨-, -, hx4, -⟩ : True ∧ True ∧ Sl i3 (.slice a4 x.links.length c4) 1 x.links.length (strs x.links) ∧ True := by
    obtain ⟨v2, v3, v4, v5, v6, e1, -, -, g4, -, -⟩ := hx.le hi3
    simp only [List.cons.injEq, true_and, and_true] at e1
    obtain ⟨rfl, rfl, rfl, rfl, rfl⟩ := e1
    exact ⟨trivial, trivial, g4, trivial⟩
  have hy4 : Sl i3 (.slice b4 y.links.length d4) 1 y.links.length (strs y.links) := by
    obtain ⟨v2, v3, v4, v5, v6, e1, -, -, g4, -, -⟩ := hy.le hi3
    simp only [List.cons.injEq, true_and, and_true] at e1
    obtain ⟨rfl, rfl, rfl, rfl, rfl⟩ := e1
    exact g4
  have hzb : ∀ i, Try.prog.info? 4 = some i → i.zero = some (.bool false) := fun i hi => by
    have h := inf4
    rw [hi] at h
    simp only [Option.map_some, Option.some.injEq, Prod.mk.injEq] at h
    exact h.2.2
  refine CS.loop [4, 5, 6, 7, 8] (fun m vs i' L' => ∃ (j : Nat) (ks : List KE) (c : Nat), m = x.links.length - j ∧ j ≤ x.links.length ∧ (keysS ks).Nodup ∧ (∀ k, k ∈ keysS ks ↔ k ∈ x.links.take j) ∧ vs = [.pointer (some ⟨bx, 0, none⟩), .pointer (some ⟨b, 0, none⟩), .pointer (some ⟨be, 0, none⟩), .map (some mb), .int .i64 (j : Int)] ∧ i3 = i' ∧ L' = (mb, .map (entS ks) c) :: (be, .cells (List.toArray [.bool rb, .bool bb, .slice ga gn.length gc, .slice ca cm.length cc]) 69 (0, 0)) :: (b, .cells (List.toArray [.string y.path, .int .i64 y.index, .slice b2 y.props.length d2, .slice b3 y.tags.length d3, .slice b4 y.links.length d4, .slice b5 y.run.length d5, .slice b6 y.load.length d6, .string y.name, .int .i64 y.priority, .string y.owner, .string y.group, .int .i64 y.mode]) 36 (0, 0)) :: (bx, .cells (List.toArray [.string x.path, .int .i64 x.index, .slice a2 x.props.length c2, .slice a3 x.tags.length c3, .slice a4 x.links.length c4, .slice a5 x.run.length c5, .slice a6 x.load.length c6, .string x.name, .int .i64 x.priority, .string x.owner, .string x.group, .int .i64 x.mode]) 36 (0, 0)) :: (tp, tapeO (.slice ao ln cap) (at4)) :: R) x.links.length ⟨0, [], 0, rfl, Nat.zero_le _, List.nodup_nil, fun k => by simp [keysS], rfl, rfl, rfl⟩ ?_
  rintro m fr1 vs i' L' _ ⟨j, ks, c, rfl, hj, hkn, hkm, rfl, rfl, rfl⟩
  by_cases hlt : j < x.links.length
  · obtain ⟨q, o, cs, t, fz, cp, e, hb, hc⟩ := hx4.at (k := j) (by omega) (by omega); cases e; obtain ⟨s, hs⟩ : ∃ s, x.links[j]? = some s := ⟨_, List.getElem?_eq_getElem (by omega)⟩; have q1 := hc 0 (by omega); rw [strs_at, hs] at q1
    have hnot : s ∉ keysS ks := fun h => nodup_at hnx hs ((hkm s).1 h)
    repeat' (first
      | refine CS.seq ?_
      | refine thenQ.normal ?_
      | refine CS.cond_true rfl ?_
      | refine CS.cond_false rfl ?_
      | refine CS.skip ?_
      | (refine CS.region (id := 0) ?_;
          refine RS.pv (PV.all tab_ok rfl) rfl ?_;
          refine RS.nil ?_)
      | (refine CS.region (id := 1) ?_;
          refine RS.pv (PV.all tab_ok rfl) rfl ?_;
          refine RS.pv (PV.all tab_ok rfl) rfl ?_;
          refine RS.box rfl rfl (fun b => ?_);
          refine RS.pv (PV.all tab_ok rfl) rfl ?_;
          refine RS.nil ?_)
      | (refine CS.region (id := 2) ?_;
          refine RS.pv (PV.all tab_ok rfl) rfl ?_;
          refine RS.pv (PV.all tab_ok rfl) rfl ?_)
      | (refine CS.drawQ (id := 3) mix (by kernel_rfl) ?_;
          refine QS.pv (PV.all tab_ok rfl) rfl ?_;
          refine QS.pv (PV.all tab_ok rfl) rfl ?_;
          (first | refine QS.lv (LV.load tab_ok rfl (Has.own 0 rfl) rfl) rfl ?_ | refine QS.lv (LV.load tab_ok rfl (Has.own 1 rfl) rfl) rfl ?_ | refine QS.lv (LV.load tab_ok rfl (Has.own 2 rfl) rfl) rfl ?_ | refine QS.lv (LV.load tab_ok rfl (Has.own 3 rfl) rfl) rfl ?_ | refine QS.lv (LV.load tab_ok rfl (Has.own 4 rfl) rfl) rfl ?_);
          refine QS.pv (PV.all tab_ok rfl) rfl ?_)
      | (refine CS.region (id := 4) ?_;
          (first | refine RS.lv (LV.load tab_ok rfl (Has.own 0 rfl) rfl) rfl ?_ | refine RS.lv (LV.load tab_ok rfl (Has.own 1 rfl) rfl) rfl ?_ | refine RS.lv (LV.load tab_ok rfl (Has.own 2 rfl) rfl) rfl ?_ | refine RS.lv (LV.load tab_ok rfl (Has.own 3 rfl) rfl) rfl ?_ | refine RS.lv (LV.load tab_ok rfl (Has.own 4 rfl) rfl) rfl ?_);
          (first | refine RS.lv (LV.load tab_ok rfl (Has.own 0 rfl) rfl) rfl ?_ | refine RS.lv (LV.load tab_ok rfl (Has.own 1 rfl) rfl) rfl ?_ | refine RS.lv (LV.load tab_ok rfl (Has.own 2 rfl) rfl) rfl ?_ | refine RS.lv (LV.load tab_ok rfl (Has.own 3 rfl) rfl) rfl ?_ | refine RS.lv (LV.load tab_ok rfl (Has.own 4 rfl) rfl) rfl ?_))
      | (refine CS.region (id := 5) ?_)
      | (refine CS.region (id := 6) ?_;
          refine RS.pv (PV.all tab_ok rfl) rfl ?_;
          refine RS.nil ?_)
      | (refine CS.region (id := 7) ?_;
          refine RS.pv (PV.all tab_ok rfl) rfl ?_;
          refine RS.pv (PV.all tab_ok rfl) rfl ?_;
          (first | refine RS.lv (LV.load tab_ok rfl (Has.own 0 rfl) rfl) rfl ?_ | refine RS.lv (LV.load tab_ok rfl (Has.own 1 rfl) rfl) rfl ?_ | refine RS.lv (LV.load tab_ok rfl (Has.own 2 rfl) rfl) rfl ?_ | refine RS.lv (LV.load tab_ok rfl (Has.own 3 rfl) rfl) rfl ?_ | refine RS.lv (LV.load tab_ok rfl (Has.own 4 rfl) rfl) rfl ?_);
          (first | refine RS.pv (PV.lenS tab_ok rfl rfl) rfl ?_ | refine RS.pv (PV.lenT tab_ok rfl rfl) rfl ?_);
          (first | refine RS.pv (PV.lssT rfl rfl (by omega)) rfl ?_ | refine RS.pv (PV.lssF rfl rfl (by omega)) rfl ?_ | refine RS.ifLss rfl rfl rfl (fun h => ?_) (fun h => ?_));
          (all_goals refine RS.nil ?_))
      | (refine CS.region (id := 8) ?_;
          refine RS.pv (PV.all tab_ok rfl) rfl ?_;
          refine RS.pv (PV.add rfl rfl (by omega)) rfl ?_;
          refine RS.pv (PV.all tab_ok rfl) rfl ?_;
          refine RS.nil ?_)
      | (refine CS.region (id := 9) ?_;
          refine RS.pv (PV.all tab_ok rfl) rfl ?_;
          refine RS.pv (PV.all tab_ok rfl) rfl ?_;
          (first | refine RS.lv (LV.load tab_ok rfl (Has.own 0 rfl) rfl) rfl ?_ | refine RS.lv (LV.load tab_ok rfl (Has.own 1 rfl) rfl) rfl ?_ | refine RS.lv (LV.load tab_ok rfl (Has.own 2 rfl) rfl) rfl ?_ | refine RS.lv (LV.load tab_ok rfl (Has.own 3 rfl) rfl) rfl ?_ | refine RS.lv (LV.load tab_ok rfl (Has.own 4 rfl) rfl) rfl ?_);
          refine RS.pv (PV.all tab_ok rfl) rfl ?_;
          (first | refine RS.pv (PV.indexAddr tab_ok rfl rfl rfl (by omega)) rfl ?_ | refine RS.pv (PV.indexAddrA tab_ok rfl rfl rfl (by omega)) rfl ?_);
          refine RS.lv (LV.load1 tab_ok rfl (Has.imm hb) rfl q1) rfl ?_;
          (all_goals refine RS.mapAddS (k := 0) tab_ok rfl rfl rfl rfl ⟨_, rfl, rfl⟩ ⟨_, rfl, rfl⟩ rfl hnot rfl ?_);
          (all_goals refine RS.nil ?_))
      | refine CS.ret ?_
      | refine thenQ.ret ?_
      | refine blkQ.ret ?_
      | refine retQ.ret ?_
      | refine CS.block ?_
      | refine CS.exit ?_
      | refine thenQ.exit ?_
      | refine blkQ.normal ?_
      | refine blkQ.here ?_
      | refine blkQ.past rfl ?_
      | refine retQ.normal ?_)
    refine ⟨x.links.length - (j + 1), by omega, j + 1, ks ++ [(s, c)], c + 1, rfl, hlt, ?_, fun k => ?_, rfl, rfl, rfl⟩
    · rw [keysS_snoc, List.nodup_append]
      exact ⟨hkn, by simp, fun p hp q hq => by rw [List.mem_singleton.1 hq]; rintro rfl; exact hnot hp⟩
    · rw [keysS_snoc, List.mem_append, List.mem_singleton, hkm, mem_take_succ hs]
  have hje : j = x.links.length := by omega
  subst hje
  rw [List.take_length] at hkm
  repeat' (first
    | refine CS.seq ?_
    | refine thenQ.normal ?_
    | refine CS.cond_true rfl ?_
    | refine CS.cond_false rfl ?_
    | refine CS.skip ?_
    | (refine CS.region (id := 0) ?_;
        refine RS.pv (PV.all tab_ok rfl) rfl ?_;
        refine RS.nil ?_)
    | (refine CS.region (id := 1) ?_;
        refine RS.pv (PV.all tab_ok rfl) rfl ?_;
        refine RS.pv (PV.all tab_ok rfl) rfl ?_;
        refine RS.box rfl rfl (fun b => ?_);
        refine RS.pv (PV.all tab_ok rfl) rfl ?_;
        refine RS.nil ?_)
    | (refine CS.region (id := 2) ?_;
        refine RS.pv (PV.all tab_ok rfl) rfl ?_;
        refine RS.pv (PV.all tab_ok rfl) rfl ?_)
    | (refine CS.drawQ (id := 3) mix (by kernel_rfl) ?_;
        refine QS.pv (PV.all tab_ok rfl) rfl ?_;
        refine QS.pv (PV.all tab_ok rfl) rfl ?_;
        (first | refine QS.lv (LV.load tab_ok rfl (Has.own 0 rfl) rfl) rfl ?_ | refine QS.lv (LV.load tab_ok rfl (Has.own 1 rfl) rfl) rfl ?_ | refine QS.lv (LV.load tab_ok rfl (Has.own 2 rfl) rfl) rfl ?_ | refine QS.lv (LV.load tab_ok rfl (Has.own 3 rfl) rfl) rfl ?_ | refine QS.lv (LV.load tab_ok rfl (Has.own 4 rfl) rfl) rfl ?_);
        refine QS.pv (PV.all tab_ok rfl) rfl ?_)
    | (refine CS.region (id := 4) ?_;
        (first | refine RS.lv (LV.load tab_ok rfl (Has.own 0 rfl) rfl) rfl ?_ | refine RS.lv (LV.load tab_ok rfl (Has.own 1 rfl) rfl) rfl ?_ | refine RS.lv (LV.load tab_ok rfl (Has.own 2 rfl) rfl) rfl ?_ | refine RS.lv (LV.load tab_ok rfl (Has.own 3 rfl) rfl) rfl ?_ | refine RS.lv (LV.load tab_ok rfl (Has.own 4 rfl) rfl) rfl ?_);
        (first | refine RS.lv (LV.load tab_ok rfl (Has.own 0 rfl) rfl) rfl ?_ | refine RS.lv (LV.load tab_ok rfl (Has.own 1 rfl) rfl) rfl ?_ | refine RS.lv (LV.load tab_ok rfl (Has.own 2 rfl) rfl) rfl ?_ | refine RS.lv (LV.load tab_ok rfl (Has.own 3 rfl) rfl) rfl ?_ | refine RS.lv (LV.load tab_ok rfl (Has.own 4 rfl) rfl) rfl ?_))
    | (refine CS.region (id := 5) ?_)
    | (refine CS.region (id := 6) ?_;
        refine RS.pv (PV.all tab_ok rfl) rfl ?_;
        refine RS.nil ?_)
    | (refine CS.region (id := 7) ?_;
        refine RS.pv (PV.all tab_ok rfl) rfl ?_;
        refine RS.pv (PV.all tab_ok rfl) rfl ?_;
        (first | refine RS.lv (LV.load tab_ok rfl (Has.own 0 rfl) rfl) rfl ?_ | refine RS.lv (LV.load tab_ok rfl (Has.own 1 rfl) rfl) rfl ?_ | refine RS.lv (LV.load tab_ok rfl (Has.own 2 rfl) rfl) rfl ?_ | refine RS.lv (LV.load tab_ok rfl (Has.own 3 rfl) rfl) rfl ?_ | refine RS.lv (LV.load tab_ok rfl (Has.own 4 rfl) rfl) rfl ?_);
        (first | refine RS.pv (PV.lenS tab_ok rfl rfl) rfl ?_ | refine RS.pv (PV.lenT tab_ok rfl rfl) rfl ?_);
        (first | refine RS.pv (PV.lssT rfl rfl (by omega)) rfl ?_ | refine RS.pv (PV.lssF rfl rfl (by omega)) rfl ?_ | refine RS.ifLss rfl rfl rfl (fun h => ?_) (fun h => ?_));
        (all_goals refine RS.nil ?_))
    | (refine CS.region (id := 10) ?_;
        refine RS.pv (PV.all tab_ok rfl) rfl ?_;
        refine RS.nil ?_)
    | refine CS.ret ?_
    | refine thenQ.ret ?_
    | refine blkQ.ret ?_
    | refine retQ.ret ?_
    | refine CS.block ?_
    | refine CS.exit ?_
    | refine thenQ.exit ?_
    | refine blkQ.normal ?_
    | refine blkQ.here ?_
    | refine blkQ.past rfl ?_
    | refine retQ.normal ?_)
  refine CS.loop [4, 5, 6, 7, 9] (fun m vs i' L' => ∃ (j : Nat) (ks : List KE) (c : Nat), m = gn.length - j ∧ j ≤ gn.length ∧ (keysS ks).Nodup ∧ (∀ k, k ∈ keysS ks ↔ k ∈ x.links ∧ k ∉ gn.take j) ∧ vs = [.pointer (some ⟨bx, 0, none⟩), .pointer (some ⟨b, 0, none⟩), .pointer (some ⟨be, 0, none⟩), .map (some mb), .int .i64 (j : Int)] ∧ i3 = i' ∧ L' = (mb, .map (entS ks) c) :: (be, .cells (List.toArray [.bool rb, .bool bb, .slice ga gn.length gc, .slice ca cm.length cc]) 69 (0, 0)) :: (b, .cells (List.toArray [.string y.path, .int .i64 y.index, .slice b2 y.props.length d2, .slice b3 y.tags.length d3, .slice b4 y.links.length d4, .slice b5 y.run.length d5, .slice b6 y.load.length d6, .string y.name, .int .i64 y.priority, .string y.owner, .string y.group, .int .i64 y.mode]) 36 (0, 0)) :: (bx, .cells (List.toArray [.string x.path, .int .i64 x.index, .slice a2 x.props.length c2, .slice a3 x.tags.length c3, .slice a4 x.links.length c4, .slice a5 x.run.length c5, .slice a6 x.load.length c6, .string x.name, .int .i64 x.priority, .string x.owner, .string x.group, .int .i64 x.mode]) 36 (0, 0)) :: (tp, tapeO (.slice ao ln cap) (at4)) :: R) gn.length ⟨0, ks, c, rfl, Nat.zero_le _, hkn, fun k => by rw [hkm]; simp, rfl, rfl, rfl⟩ ?_
  clear hkn hkm hj hlt
  clear ks c
  rintro m fr2 vs i' L' _ ⟨j, ks, c, rfl, hj, hkn, hkm, rfl, rfl, rfl⟩
  have hgnn : gn.Nodup := by rw [hgn]; exact wout_nodup _ _
  by_cases hlt : j < gn.length
  · obtain ⟨q, o, cs, t, fz, cp, e, hb, hc⟩ := hga.at (k := j) (by omega) (by omega); cases e; obtain ⟨s, hs⟩ : ∃ s, gn[j]? = some s := ⟨_, List.getElem?_eq_getElem (by omega)⟩; have q1 := hc 0 (by omega); rw [strs_at, hs] at q1
    have hsg : s ∈ gn := List.mem_of_getElem? hs
    have hin : s ∈ keysS ks := (hkm s).2 ⟨by rw [hgn] at hsg; exact (wout_mem.1 hsg).1, nodup_at hgnn hs⟩
    obtain ⟨jd, hjd, hjk⟩ := findS_some (i := 0) hin
    rw [Nat.zero_add] at hjd
    have hlk : decide (s ∈ keysS ks) = true := decide_eq_true hin
    repeat' (first
      | refine CS.seq ?_
      | refine thenQ.normal ?_
      | refine CS.cond_true rfl ?_
      | refine CS.cond_false rfl ?_
      | refine CS.skip ?_
      | (refine CS.region (id := 0) ?_;
          refine RS.pv (PV.all tab_ok rfl) rfl ?_;
          refine RS.nil ?_)
      | (refine CS.region (id := 1) ?_;
          refine RS.pv (PV.all tab_ok rfl) rfl ?_;
          refine RS.pv (PV.all tab_ok rfl) rfl ?_;
          refine RS.box rfl rfl (fun b => ?_);
          refine RS.pv (PV.all tab_ok rfl) rfl ?_;
          refine RS.nil ?_)
      | (refine CS.region (id := 2) ?_;
          refine RS.pv (PV.all tab_ok rfl) rfl ?_;
          refine RS.pv (PV.all tab_ok rfl) rfl ?_)
      | (refine CS.drawQ (id := 3) mix (by kernel_rfl) ?_;
          refine QS.pv (PV.all tab_ok rfl) rfl ?_;
          refine QS.pv (PV.all tab_ok rfl) rfl ?_;
          (first | refine QS.lv (LV.load tab_ok rfl (Has.own 0 rfl) rfl) rfl ?_ | refine QS.lv (LV.load tab_ok rfl (Has.own 1 rfl) rfl) rfl ?_ | refine QS.lv (LV.load tab_ok rfl (Has.own 2 rfl) rfl) rfl ?_ | refine QS.lv (LV.load tab_ok rfl (Has.own 3 rfl) rfl) rfl ?_ | refine QS.lv (LV.load tab_ok rfl (Has.own 4 rfl) rfl) rfl ?_);
          refine QS.pv (PV.all tab_ok rfl) rfl ?_)
      | (refine CS.region (id := 4) ?_;
          (first | refine RS.lv (LV.load tab_ok rfl (Has.own 0 rfl) rfl) rfl ?_ | refine RS.lv (LV.load tab_ok rfl (Has.own 1 rfl) rfl) rfl ?_ | refine RS.lv (LV.load tab_ok rfl (Has.own 2 rfl) rfl) rfl ?_ | refine RS.lv (LV.load tab_ok rfl (Has.own 3 rfl) rfl) rfl ?_ | refine RS.lv (LV.load tab_ok rfl (Has.own 4 rfl) rfl) rfl ?_);
          (first | refine RS.lv (LV.load tab_ok rfl (Has.own 0 rfl) rfl) rfl ?_ | refine RS.lv (LV.load tab_ok rfl (Has.own 1 rfl) rfl) rfl ?_ | refine RS.lv (LV.load tab_ok rfl (Has.own 2 rfl) rfl) rfl ?_ | refine RS.lv (LV.load tab_ok rfl (Has.own 3 rfl) rfl) rfl ?_ | refine RS.lv (LV.load tab_ok rfl (Has.own 4 rfl) rfl) rfl ?_))
      | (refine CS.region (id := 5) ?_)
      | (refine CS.region (id := 6) ?_;
          refine RS.pv (PV.all tab_ok rfl) rfl ?_;
          refine RS.nil ?_)
      | (refine CS.region (id := 7) ?_;
          refine RS.pv (PV.all tab_ok rfl) rfl ?_;
          refine RS.pv (PV.all tab_ok rfl) rfl ?_;
          (first | refine RS.lv (LV.load tab_ok rfl (Has.own 0 rfl) rfl) rfl ?_ | refine RS.lv (LV.load tab_ok rfl (Has.own 1 rfl) rfl) rfl ?_ | refine RS.lv (LV.load tab_ok rfl (Has.own 2 rfl) rfl) rfl ?_ | refine RS.lv (LV.load tab_ok rfl (Has.own 3 rfl) rfl) rfl ?_ | refine RS.lv (LV.load tab_ok rfl (Has.own 4 rfl) rfl) rfl ?_);
          (first | refine RS.pv (PV.lenS tab_ok rfl rfl) rfl ?_ | refine RS.pv (PV.lenT tab_ok rfl rfl) rfl ?_);
          (first | refine RS.pv (PV.lssT rfl rfl (by omega)) rfl ?_ | refine RS.pv (PV.lssF rfl rfl (by omega)) rfl ?_ | refine RS.ifLss rfl rfl rfl (fun h => ?_) (fun h => ?_));
          (all_goals refine RS.nil ?_))
      | (refine CS.region (id := 8) ?_;
          refine RS.pv (PV.all tab_ok rfl) rfl ?_;
          refine RS.pv (PV.add rfl rfl (by omega)) rfl ?_;
          refine RS.pv (PV.all tab_ok rfl) rfl ?_;
          refine RS.nil ?_)
      | (refine CS.region (id := 9) ?_;
          refine RS.pv (PV.all tab_ok rfl) rfl ?_;
          refine RS.pv (PV.all tab_ok rfl) rfl ?_;
          (first | refine RS.lv (LV.load tab_ok rfl (Has.own 0 rfl) rfl) rfl ?_ | refine RS.lv (LV.load tab_ok rfl (Has.own 1 rfl) rfl) rfl ?_ | refine RS.lv (LV.load tab_ok rfl (Has.own 2 rfl) rfl) rfl ?_ | refine RS.lv (LV.load tab_ok rfl (Has.own 3 rfl) rfl) rfl ?_ | refine RS.lv (LV.load tab_ok rfl (Has.own 4 rfl) rfl) rfl ?_);
          refine RS.pv (PV.all tab_ok rfl) rfl ?_;
          (first | refine RS.pv (PV.indexAddr tab_ok rfl rfl rfl (by omega)) rfl ?_ | refine RS.pv (PV.indexAddrA tab_ok rfl rfl rfl (by omega)) rfl ?_);
          (first | refine RS.lv (LV.load tab_ok rfl (Has.own 0 rfl) rfl) rfl ?_ | refine RS.lv (LV.load tab_ok rfl (Has.own 1 rfl) rfl) rfl ?_ | refine RS.lv (LV.load tab_ok rfl (Has.own 2 rfl) rfl) rfl ?_ | refine RS.lv (LV.load tab_ok rfl (Has.own 3 rfl) rfl) rfl ?_ | refine RS.lv (LV.load tab_ok rfl (Has.own 4 rfl) rfl) rfl ?_))
      | (refine CS.region (id := 10) ?_;
          refine RS.pv (PV.all tab_ok rfl) rfl ?_;
          refine RS.nil ?_)
      | (refine CS.region (id := 11) ?_;
          refine RS.pv (PV.all tab_ok rfl) rfl ?_;
          refine RS.pv (PV.all tab_ok rfl) rfl ?_;
          (first | refine RS.lv (LV.load tab_ok rfl (Has.own 0 rfl) rfl) rfl ?_ | refine RS.lv (LV.load tab_ok rfl (Has.own 1 rfl) rfl) rfl ?_ | refine RS.lv (LV.load tab_ok rfl (Has.own 2 rfl) rfl) rfl ?_ | refine RS.lv (LV.load tab_ok rfl (Has.own 3 rfl) rfl) rfl ?_ | refine RS.lv (LV.load tab_ok rfl (Has.own 4 rfl) rfl) rfl ?_);
          (first | refine RS.pv (PV.lenS tab_ok rfl rfl) rfl ?_ | refine RS.pv (PV.lenT tab_ok rfl rfl) rfl ?_);
          (first | refine RS.pv (PV.lssT rfl rfl (by omega)) rfl ?_ | refine RS.pv (PV.lssF rfl rfl (by omega)) rfl ?_ | refine RS.ifLss rfl rfl rfl (fun h => ?_) (fun h => ?_));
          (all_goals refine RS.nil ?_))
      | (refine CS.region (id := 12) ?_;
          refine RS.pv (PV.all tab_ok rfl) rfl ?_;
          refine RS.pv (PV.add rfl rfl (by omega)) rfl ?_;
          refine RS.pv (PV.all tab_ok rfl) rfl ?_;
          refine RS.nil ?_)
      | (refine CS.region (id := 13) ?_;
          refine RS.pv (PV.all tab_ok rfl) rfl ?_;
          refine RS.pv (PV.all tab_ok rfl) rfl ?_;
          (first | refine RS.lv (LV.load tab_ok rfl (Has.own 0 rfl) rfl) rfl ?_ | refine RS.lv (LV.load tab_ok rfl (Has.own 1 rfl) rfl) rfl ?_ | refine RS.lv (LV.load tab_ok rfl (Has.own 2 rfl) rfl) rfl ?_ | refine RS.lv (LV.load tab_ok rfl (Has.own 3 rfl) rfl) rfl ?_ | refine RS.lv (LV.load tab_ok rfl (Has.own 4 rfl) rfl) rfl ?_);
          refine RS.pv (PV.all tab_ok rfl) rfl ?_;
          (first | refine RS.pv (PV.indexAddr tab_ok rfl rfl rfl (by omega)) rfl ?_ | refine RS.pv (PV.indexAddrA tab_ok rfl rfl rfl (by omega)) rfl ?_);
          refine RS.lv (LV.load1 tab_ok rfl (Has.imm hb) rfl q1) rfl ?_;
          (all_goals (refine RS.lv (LV.lookupS tab_ok rfl rfl ⟨_, rfl, rfl⟩ ⟨_, rfl, rfl⟩ ⟨_, rfl, rfl, rfl⟩ hzb (Has.own 0 rfl)) rfl ?_; rw [hlk]));
          (all_goals refine RS.pv (PV.all tab_ok rfl) rfl ?_);
          (all_goals refine RS.nil ?_))
      | (refine CS.region (id := 15) ?_;
          refine RS.pv (PV.all tab_ok rfl) rfl ?_;
          refine RS.pv (PV.all tab_ok rfl) rfl ?_;
          (first | refine RS.lv (LV.load tab_ok rfl (Has.own 0 rfl) rfl) rfl ?_ | refine RS.lv (LV.load tab_ok rfl (Has.own 1 rfl) rfl) rfl ?_ | refine RS.lv (LV.load tab_ok rfl (Has.own 2 rfl) rfl) rfl ?_ | refine RS.lv (LV.load tab_ok rfl (Has.own 3 rfl) rfl) rfl ?_ | refine RS.lv (LV.load tab_ok rfl (Has.own 4 rfl) rfl) rfl ?_);
          refine RS.pv (PV.all tab_ok rfl) rfl ?_;
          (first | refine RS.pv (PV.indexAddr tab_ok rfl rfl rfl (by omega)) rfl ?_ | refine RS.pv (PV.indexAddrA tab_ok rfl rfl rfl (by omega)) rfl ?_);
          refine RS.lv (LV.load1 tab_ok rfl (Has.imm hb) rfl q1) rfl ?_;
          (all_goals refine RS.mapDelS (k := 0) tab_ok rfl rfl rfl ⟨_, rfl, rfl⟩ ⟨_, rfl, rfl⟩ rfl hjd rfl ?_);
          (all_goals refine RS.nil ?_))
      | refine CS.ret ?_
      | refine thenQ.ret ?_
      | refine blkQ.ret ?_
      | refine retQ.ret ?_
      | refine CS.block ?_
      | refine CS.exit ?_
      | refine thenQ.exit ?_
      | refine blkQ.normal ?_
      | refine blkQ.here ?_
      | refine blkQ.past rfl ?_
      | refine retQ.normal ?_)
    obtain ⟨e1, e2⟩ := nodup_erase hkn hjk
    refine ⟨gn.length - (j + 1), by omega, j + 1, ks.eraseIdx jd, c, rfl, hlt, by rw [keysS_erase]; exact e1, fun k => ?_, rfl, rfl, rfl⟩
    rw [keysS_erase, e2, hkm, mem_take_succ hs]
    constructor
    · rintro ⟨⟨h1, h2⟩, h3⟩; exact ⟨h1, fun h => h.elim h2 h3⟩
    · rintro ⟨h1, h2⟩; exact ⟨⟨h1, fun h => h2 (.inl h)⟩, fun h => h2 (.inr h)⟩
  have hje : j = gn.length := by omega
  subst hje
  rw [List.take_length] at hkm
  repeat' (first
    | refine CS.seq ?_
    | refine thenQ.normal ?_
    | refine CS.cond_true rfl ?_
    | refine CS.cond_false rfl ?_
    | refine CS.skip ?_
    | (refine CS.region (id := 0) ?_;
        refine RS.pv (PV.all tab_ok rfl) rfl ?_;
        refine RS.nil ?_)
    | (refine CS.region (id := 1) ?_;
        refine RS.pv (PV.all tab_ok rfl) rfl ?_;
        refine RS.pv (PV.all tab_ok rfl) rfl ?_;
        refine RS.box rfl rfl (fun b => ?_);
        refine RS.pv (PV.all tab_ok rfl) rfl ?_;
        refine RS.nil ?_)
    | (refine CS.region (id := 2) ?_;
        refine RS.pv (PV.all tab_ok rfl) rfl ?_;
        refine RS.pv (PV.all tab_ok rfl) rfl ?_)
    | (refine CS.drawQ (id := 3) mix (by kernel_rfl) ?_;
        refine QS.pv (PV.all tab_ok rfl) rfl ?_;
        refine QS.pv (PV.all tab_ok rfl) rfl ?_;
        (first | refine QS.lv (LV.load tab_ok rfl (Has.own 0 rfl) rfl) rfl ?_ | refine QS.lv (LV.load tab_ok rfl (Has.own 1 rfl) rfl) rfl ?_ | refine QS.lv (LV.load tab_ok rfl (Has.own 2 rfl) rfl) rfl ?_ | refine QS.lv (LV.load tab_ok rfl (Has.own 3 rfl) rfl) rfl ?_ | refine QS.lv (LV.load tab_ok rfl (Has.own 4 rfl) rfl) rfl ?_);
        refine QS.pv (PV.all tab_ok rfl) rfl ?_)
    | (refine CS.region (id := 4) ?_;
        (first | refine RS.lv (LV.load tab_ok rfl (Has.own 0 rfl) rfl) rfl ?_ | refine RS.lv (LV.load tab_ok rfl (Has.own 1 rfl) rfl) rfl ?_ | refine RS.lv (LV.load tab_ok rfl (Has.own 2 rfl) rfl) rfl ?_ | refine RS.lv (LV.load tab_ok rfl (Has.own 3 rfl) rfl) rfl ?_ | refine RS.lv (LV.load tab_ok rfl (Has.own 4 rfl) rfl) rfl ?_);
        (first | refine RS.lv (LV.load tab_ok rfl (Has.own 0 rfl) rfl) rfl ?_ | refine RS.lv (LV.load tab_ok rfl (Has.own 1 rfl) rfl) rfl ?_ | refine RS.lv (LV.load tab_ok rfl (Has.own 2 rfl) rfl) rfl ?_ | refine RS.lv (LV.load tab_ok rfl (Has.own 3 rfl) rfl) rfl ?_ | refine RS.lv (LV.load tab_ok rfl (Has.own 4 rfl) rfl) rfl ?_))
    | (refine CS.region (id := 5) ?_)
    | (refine CS.region (id := 6) ?_;
        refine RS.pv (PV.all tab_ok rfl) rfl ?_;
        refine RS.nil ?_)
    | (refine CS.region (id := 7) ?_;
        refine RS.pv (PV.all tab_ok rfl) rfl ?_;
        refine RS.pv (PV.all tab_ok rfl) rfl ?_;
        (first | refine RS.lv (LV.load tab_ok rfl (Has.own 0 rfl) rfl) rfl ?_ | refine RS.lv (LV.load tab_ok rfl (Has.own 1 rfl) rfl) rfl ?_ | refine RS.lv (LV.load tab_ok rfl (Has.own 2 rfl) rfl) rfl ?_ | refine RS.lv (LV.load tab_ok rfl (Has.own 3 rfl) rfl) rfl ?_ | refine RS.lv (LV.load tab_ok rfl (Has.own 4 rfl) rfl) rfl ?_);
        (first | refine RS.pv (PV.lenS tab_ok rfl rfl) rfl ?_ | refine RS.pv (PV.lenT tab_ok rfl rfl) rfl ?_);
        (first | refine RS.pv (PV.lssT rfl rfl (by omega)) rfl ?_ | refine RS.pv (PV.lssF rfl rfl (by omega)) rfl ?_ | refine RS.ifLss rfl rfl rfl (fun h => ?_) (fun h => ?_));
        (all_goals refine RS.nil ?_))
    | (refine CS.region (id := 8) ?_;
        refine RS.pv (PV.all tab_ok rfl) rfl ?_;
        refine RS.pv (PV.add rfl rfl (by omega)) rfl ?_;
        refine RS.pv (PV.all tab_ok rfl) rfl ?_;
        refine RS.nil ?_)
    | (refine CS.region (id := 9) ?_;
        refine RS.pv (PV.all tab_ok rfl) rfl ?_;
        refine RS.pv (PV.all tab_ok rfl) rfl ?_;
        (first | refine RS.lv (LV.load tab_ok rfl (Has.own 0 rfl) rfl) rfl ?_ | refine RS.lv (LV.load tab_ok rfl (Has.own 1 rfl) rfl) rfl ?_ | refine RS.lv (LV.load tab_ok rfl (Has.own 2 rfl) rfl) rfl ?_ | refine RS.lv (LV.load tab_ok rfl (Has.own 3 rfl) rfl) rfl ?_ | refine RS.lv (LV.load tab_ok rfl (Has.own 4 rfl) rfl) rfl ?_);
        refine RS.pv (PV.all tab_ok rfl) rfl ?_;
        (first | refine RS.pv (PV.indexAddr tab_ok rfl rfl rfl (by omega)) rfl ?_ | refine RS.pv (PV.indexAddrA tab_ok rfl rfl rfl (by omega)) rfl ?_);
        (first | refine RS.lv (LV.load tab_ok rfl (Has.own 0 rfl) rfl) rfl ?_ | refine RS.lv (LV.load tab_ok rfl (Has.own 1 rfl) rfl) rfl ?_ | refine RS.lv (LV.load tab_ok rfl (Has.own 2 rfl) rfl) rfl ?_ | refine RS.lv (LV.load tab_ok rfl (Has.own 3 rfl) rfl) rfl ?_ | refine RS.lv (LV.load tab_ok rfl (Has.own 4 rfl) rfl) rfl ?_))
    | (refine CS.region (id := 10) ?_;
        refine RS.pv (PV.all tab_ok rfl) rfl ?_;
        refine RS.nil ?_)
    | (refine CS.region (id := 11) ?_;
        refine RS.pv (PV.all tab_ok rfl) rfl ?_;
        refine RS.pv (PV.all tab_ok rfl) rfl ?_;
        (first | refine RS.lv (LV.load tab_ok rfl (Has.own 0 rfl) rfl) rfl ?_ | refine RS.lv (LV.load tab_ok rfl (Has.own 1 rfl) rfl) rfl ?_ | refine RS.lv (LV.load tab_ok rfl (Has.own 2 rfl) rfl) rfl ?_ | refine RS.lv (LV.load tab_ok rfl (Has.own 3 rfl) rfl) rfl ?_ | refine RS.lv (LV.load tab_ok rfl (Has.own 4 rfl) rfl) rfl ?_);
        (first | refine RS.pv (PV.lenS tab_ok rfl rfl) rfl ?_ | refine RS.pv (PV.lenT tab_ok rfl rfl) rfl ?_);
        (first | refine RS.pv (PV.lssT rfl rfl (by omega)) rfl ?_ | refine RS.pv (PV.lssF rfl rfl (by omega)) rfl ?_ | refine RS.ifLss rfl rfl rfl (fun h => ?_) (fun h => ?_));
        (all_goals refine RS.nil ?_))
    | (refine CS.region (id := 16) ?_;
        refine RS.pv (PV.all tab_ok rfl) rfl ?_;
        refine RS.nil ?_)
    | refine CS.ret ?_
    | refine thenQ.ret ?_
    | refine blkQ.ret ?_
    | refine retQ.ret ?_
    | refine CS.block ?_
    | refine CS.exit ?_
    | refine thenQ.exit ?_
    | refine blkQ.normal ?_
    | refine blkQ.here ?_
    | refine blkQ.past rfl ?_
    | refine retQ.normal ?_)
  refine CS.loop [4, 5, 6, 7, 10] (fun m vs i' L' => ∃ (j : Nat) (ks : List KE) (c : Nat), m = cm.length - j ∧ j ≤ cm.length ∧ (keysS ks).Nodup ∧ (∀ k, k ∈ keysS ks ↔ (k ∈ x.links ∧ k ∉ gn) ∨ k ∈ cm.take j) ∧ vs = [.pointer (some ⟨bx, 0, none⟩), .pointer (some ⟨b, 0, none⟩), .pointer (some ⟨be, 0, none⟩), .map (some mb), .int .i64 (j : Int)] ∧ i3 = i' ∧ L' = (mb, .map (entS ks) c) :: (be, .cells (List.toArray [.bool rb, .bool bb, .slice ga gn.length gc, .slice ca cm.length cc]) 69 (0, 0)) :: (b, .cells (List.toArray [.string y.path, .int .i64 y.index, .slice b2 y.props.length d2, .slice b3 y.tags.length d3, .slice b4 y.links.length d4, .slice b5 y.run.length d5, .slice b6 y.load.length d6, .string y.name, .int .i64 y.priority, .string y.owner, .string y.group, .int .i64 y.mode]) 36 (0, 0)) :: (bx, .cells (List.toArray [.string x.path, .int .i64 x.index, .slice a2 x.props.length c2, .slice a3 x.tags.length c3, .slice a4 x.links.length c4, .slice a5 x.run.length c5, .slice a6 x.load.length c6, .string x.name, .int .i64 x.priority, .string x.owner, .string x.group, .int .i64 x.mode]) 36 (0, 0)) :: (tp, tapeO (.slice ao ln cap) (at4)) :: R) cm.length ⟨0, ks, c, rfl, Nat.zero_le _, hkn, fun k => by rw [hkm]; simp, rfl, rfl, rfl⟩ ?_
  clear hkn hkm hj hlt
  clear ks c
  rintro m fr3 vs i' L' _ ⟨j, ks, c, rfl, hj, hkn, hkm, rfl, rfl, rfl⟩
  have hcmn : cm.Nodup := by rw [hcm]; exact wout_nodup _ _
  by_cases hlt : j < cm.length
  · obtain ⟨q, o, cs, t, fz, cp, e, hb, hc⟩ := hca.at (k := j) (by omega) (by omega); cases e; obtain ⟨s, hs⟩ : ∃ s, cm[j]? = some s := ⟨_, List.getElem?_eq_getElem (by omega)⟩; have q1 := hc 0 (by omega); rw [strs_at, hs] at q1
    have hsc : s ∈ cm := List.mem_of_getElem? hs
    have hnot : s ∉ keysS ks := fun h => by
      rcases (hkm s).1 h with ⟨h1, _⟩ | h1
      · rw [hcm] at hsc; exact (wout_mem.1 hsc).2 h1
      · exact nodup_at hcmn hs h1
    have hlk : decide (s ∈ keysS ks) = false := decide_eq_false hnot
    repeat' (first
      | refine CS.seq ?_
      | refine thenQ.normal ?_
      | refine CS.cond_true rfl ?_
      | refine CS.cond_false rfl ?_
      | refine CS.skip ?_
      | (refine CS.region (id := 0) ?_;
          refine RS.pv (PV.all tab_ok rfl) rfl ?_;
          refine RS.nil ?_)
      | (refine CS.region (id := 1) ?_;
          refine RS.pv (PV.all tab_ok rfl) rfl ?_;
          refine RS.pv (PV.all tab_ok rfl) rfl ?_;
          refine RS.box rfl rfl (fun b => ?_);
          refine RS.pv (PV.all tab_ok rfl) rfl ?_;
          refine RS.nil ?_)
      | (refine CS.region (id := 2) ?_;
          refine RS.pv (PV.all tab_ok rfl) rfl ?_;
          refine RS.pv (PV.all tab_ok rfl) rfl ?_)
      | (refine CS.drawQ (id := 3) mix (by kernel_rfl) ?_;
          refine QS.pv (PV.all tab_ok rfl) rfl ?_;
          refine QS.pv (PV.all tab_ok rfl) rfl ?_;
          (first | refine QS.lv (LV.load tab_ok rfl (Has.own 0 rfl) rfl) rfl ?_ | refine QS.lv (LV.load tab_ok rfl (Has.own 1 rfl) rfl) rfl ?_ | refine QS.lv (LV.load tab_ok rfl (Has.own 2 rfl) rfl) rfl ?_ | refine QS.lv (LV.load tab_ok rfl (Has.own 3 rfl) rfl) rfl ?_ | refine QS.lv (LV.load tab_ok rfl (Has.own 4 rfl) rfl) rfl ?_);
          refine QS.pv (PV.all tab_ok rfl) rfl ?_)
      | (refine CS.region (id := 4) ?_;
          (first | refine RS.lv (LV.load tab_ok rfl (Has.own 0 rfl) rfl) rfl ?_ | refine RS.lv (LV.load tab_ok rfl (Has.own 1 rfl) rfl) rfl ?_ | refine RS.lv (LV.load tab_ok rfl (Has.own 2 rfl) rfl) rfl ?_ | refine RS.lv (LV.load tab_ok rfl (Has.own 3 rfl) rfl) rfl ?_ | refine RS.lv (LV.load tab_ok rfl (Has.own 4 rfl) rfl) rfl ?_);
          (first | refine RS.lv (LV.load tab_ok rfl (Has.own 0 rfl) rfl) rfl ?_ | refine RS.lv (LV.load tab_ok rfl (Has.own 1 rfl) rfl) rfl ?_ | refine RS.lv (LV.load tab_ok rfl (Has.own 2 rfl) rfl) rfl ?_ | refine RS.lv (LV.load tab_ok rfl (Has.own 3 rfl) rfl) rfl ?_ | refine RS.lv (LV.load tab_ok rfl (Has.own 4 rfl) rfl) rfl ?_))
      | (refine CS.region (id := 5) ?_)
      | (refine CS.region (id := 6) ?_;
          refine RS.pv (PV.all tab_ok rfl) rfl ?_;
          refine RS.nil ?_)
      | (refine CS.region (id := 7) ?_;
          refine RS.pv (PV.all tab_ok rfl) rfl ?_;
          refine RS.pv (PV.all tab_ok rfl) rfl ?_;
          (first | refine RS.lv (LV.load tab_ok rfl (Has.own 0 rfl) rfl) rfl ?_ | refine RS.lv (LV.load tab_ok rfl (Has.own 1 rfl) rfl) rfl ?_ | refine RS.lv (LV.load tab_ok rfl (Has.own 2 rfl) rfl) rfl ?_ | refine RS.lv (LV.load tab_ok rfl (Has.own 3 rfl) rfl) rfl ?_ | refine RS.lv (LV.load tab_ok rfl (Has.own 4 rfl) rfl) rfl ?_);
          (first | refine RS.pv (PV.lenS tab_ok rfl rfl) rfl ?_ | refine RS.pv (PV.lenT tab_ok rfl rfl) rfl ?_);
          (first | refine RS.pv (PV.lssT rfl rfl (by omega)) rfl ?_ | refine RS.pv (PV.lssF rfl rfl (by omega)) rfl ?_ | refine RS.ifLss rfl rfl rfl (fun h => ?_) (fun h => ?_));
          (all_goals refine RS.nil ?_))
      | (refine CS.region (id := 8) ?_;
          refine RS.pv (PV.all tab_ok rfl) rfl ?_;
          refine RS.pv (PV.add rfl rfl (by omega)) rfl ?_;
          refine RS.pv (PV.all tab_ok rfl) rfl ?_;
          refine RS.nil ?_)
      | (refine CS.region (id := 9) ?_;
          refine RS.pv (PV.all tab_ok rfl) rfl ?_;
          refine RS.pv (PV.all tab_ok rfl) rfl ?_;
          (first | refine RS.lv (LV.load tab_ok rfl (Has.own 0 rfl) rfl) rfl ?_ | refine RS.lv (LV.load tab_ok rfl (Has.own 1 rfl) rfl) rfl ?_ | refine RS.lv (LV.load tab_ok rfl (Has.own 2 rfl) rfl) rfl ?_ | refine RS.lv (LV.load tab_ok rfl (Has.own 3 rfl) rfl) rfl ?_ | refine RS.lv (LV.load tab_ok rfl (Has.own 4 rfl) rfl) rfl ?_);
          refine RS.pv (PV.all tab_ok rfl) rfl ?_;
          (first | refine RS.pv (PV.indexAddr tab_ok rfl rfl rfl (by omega)) rfl ?_ | refine RS.pv (PV.indexAddrA tab_ok rfl rfl rfl (by omega)) rfl ?_);
          (first | refine RS.lv (LV.load tab_ok rfl (Has.own 0 rfl) rfl) rfl ?_ | refine RS.lv (LV.load tab_ok rfl (Has.own 1 rfl) rfl) rfl ?_ | refine RS.lv (LV.load tab_ok rfl (Has.own 2 rfl) rfl) rfl ?_ | refine RS.lv (LV.load tab_ok rfl (Has.own 3 rfl) rfl) rfl ?_ | refine RS.lv (LV.load tab_ok rfl (Has.own 4 rfl) rfl) rfl ?_))
      | (refine CS.region (id := 10) ?_;
          refine RS.pv (PV.all tab_ok rfl) rfl ?_;
          refine RS.nil ?_)
      | (refine CS.region (id := 11) ?_;
          refine RS.pv (PV.all tab_ok rfl) rfl ?_;
          refine RS.pv (PV.all tab_ok rfl) rfl ?_;
          (first | refine RS.lv (LV.load tab_ok rfl (Has.own 0 rfl) rfl) rfl ?_ | refine RS.lv (LV.load tab_ok rfl (Has.own 1 rfl) rfl) rfl ?_ | refine RS.lv (LV.load tab_ok rfl (Has.own 2 rfl) rfl) rfl ?_ | refine RS.lv (LV.load tab_ok rfl (Has.own 3 rfl) rfl) rfl ?_ | refine RS.lv (LV.load tab_ok rfl (Has.own 4 rfl) rfl) rfl ?_);
          (first | refine RS.pv (PV.lenS tab_ok rfl rfl) rfl ?_ | refine RS.pv (PV.lenT tab_ok rfl rfl) rfl ?_);
          (first | refine RS.pv (PV.lssT rfl rfl (by omega)) rfl ?_ | refine RS.pv (PV.lssF rfl rfl (by omega)) rfl ?_ | refine RS.ifLss rfl rfl rfl (fun h => ?_) (fun h => ?_));
          (all_goals refine RS.nil ?_))
      | (refine CS.region (id := 12) ?_;
          refine RS.pv (PV.all tab_ok rfl) rfl ?_;
          refine RS.pv (PV.add rfl rfl (by omega)) rfl ?_;
          refine RS.pv (PV.all tab_ok rfl) rfl ?_;
          refine RS.nil ?_)
      | (refine CS.region (id := 13) ?_;
          refine RS.pv (PV.all tab_ok rfl) rfl ?_;
          refine RS.pv (PV.all tab_ok rfl) rfl ?_;
          (first | refine RS.lv (LV.load tab_ok rfl (Has.own 0 rfl) rfl) rfl ?_ | refine RS.lv (LV.load tab_ok rfl (Has.own 1 rfl) rfl) rfl ?_ | refine RS.lv (LV.load tab_ok rfl (Has.own 2 rfl) rfl) rfl ?_ | refine RS.lv (LV.load tab_ok rfl (Has.own 3 rfl) rfl) rfl ?_ | refine RS.lv (LV.load tab_ok rfl (Has.own 4 rfl) rfl) rfl ?_);
          refine RS.pv (PV.all tab_ok rfl) rfl ?_;
          (first | refine RS.pv (PV.indexAddr tab_ok rfl rfl rfl (by omega)) rfl ?_ | refine RS.pv (PV.indexAddrA tab_ok rfl rfl rfl (by omega)) rfl ?_);
          (first | refine RS.lv (LV.load tab_ok rfl (Has.own 0 rfl) rfl) rfl ?_ | refine RS.lv (LV.load tab_ok rfl (Has.own 1 rfl) rfl) rfl ?_ | refine RS.lv (LV.load tab_ok rfl (Has.own 2 rfl) rfl) rfl ?_ | refine RS.lv (LV.load tab_ok rfl (Has.own 3 rfl) rfl) rfl ?_ | refine RS.lv (LV.load tab_ok rfl (Has.own 4 rfl) rfl) rfl ?_))
      | (refine CS.region (id := 14) ?_;
          refine RS.pv (PV.all tab_ok rfl) rfl ?_;
          refine RS.nil ?_)
      | (refine CS.region (id := 15) ?_;
          refine RS.pv (PV.all tab_ok rfl) rfl ?_;
          refine RS.pv (PV.all tab_ok rfl) rfl ?_;
          (first | refine RS.lv (LV.load tab_ok rfl (Has.own 0 rfl) rfl) rfl ?_ | refine RS.lv (LV.load tab_ok rfl (Has.own 1 rfl) rfl) rfl ?_ | refine RS.lv (LV.load tab_ok rfl (Has.own 2 rfl) rfl) rfl ?_ | refine RS.lv (LV.load tab_ok rfl (Has.own 3 rfl) rfl) rfl ?_ | refine RS.lv (LV.load tab_ok rfl (Has.own 4 rfl) rfl) rfl ?_);
          refine RS.pv (PV.all tab_ok rfl) rfl ?_;
          (first | refine RS.pv (PV.indexAddr tab_ok rfl rfl rfl (by omega)) rfl ?_ | refine RS.pv (PV.indexAddrA tab_ok rfl rfl rfl (by omega)) rfl ?_);
          (first | refine RS.lv (LV.load tab_ok rfl (Has.own 0 rfl) rfl) rfl ?_ | refine RS.lv (LV.load tab_ok rfl (Has.own 1 rfl) rfl) rfl ?_ | refine RS.lv (LV.load tab_ok rfl (Has.own 2 rfl) rfl) rfl ?_ | refine RS.lv (LV.load tab_ok rfl (Has.own 3 rfl) rfl) rfl ?_ | refine RS.lv (LV.load tab_ok rfl (Has.own 4 rfl) rfl) rfl ?_))
      | (refine CS.region (id := 16) ?_;
          refine RS.pv (PV.all tab_ok rfl) rfl ?_;
          refine RS.nil ?_)
      | (refine CS.region (id := 17) ?_;
          refine RS.pv (PV.all tab_ok rfl) rfl ?_;
          refine RS.pv (PV.all tab_ok rfl) rfl ?_;
          (first | refine RS.lv (LV.load tab_ok rfl (Has.own 0 rfl) rfl) rfl ?_ | refine RS.lv (LV.load tab_ok rfl (Has.own 1 rfl) rfl) rfl ?_ | refine RS.lv (LV.load tab_ok rfl (Has.own 2 rfl) rfl) rfl ?_ | refine RS.lv (LV.load tab_ok rfl (Has.own 3 rfl) rfl) rfl ?_ | refine RS.lv (LV.load tab_ok rfl (Has.own 4 rfl) rfl) rfl ?_);
          (first | refine RS.pv (PV.lenS tab_ok rfl rfl) rfl ?_ | refine RS.pv (PV.lenT tab_ok rfl rfl) rfl ?_);
          (first | refine RS.pv (PV.lssT rfl rfl (by omega)) rfl ?_ | refine RS.pv (PV.lssF rfl rfl (by omega)) rfl ?_ | refine RS.ifLss rfl rfl rfl (fun h => ?_) (fun h => ?_));
          (all_goals refine RS.nil ?_))
      | (refine CS.region (id := 18) ?_;
          refine RS.pv (PV.all tab_ok rfl) rfl ?_;
          refine RS.pv (PV.add rfl rfl (by omega)) rfl ?_;
          refine RS.pv (PV.all tab_ok rfl) rfl ?_;
          refine RS.nil ?_)
      | (refine CS.region (id := 19) ?_;
          refine RS.pv (PV.all tab_ok rfl) rfl ?_;
          refine RS.pv (PV.all tab_ok rfl) rfl ?_;
          (first | refine RS.lv (LV.load tab_ok rfl (Has.own 0 rfl) rfl) rfl ?_ | refine RS.lv (LV.load tab_ok rfl (Has.own 1 rfl) rfl) rfl ?_ | refine RS.lv (LV.load tab_ok rfl (Has.own 2 rfl) rfl) rfl ?_ | refine RS.lv (LV.load tab_ok rfl (Has.own 3 rfl) rfl) rfl ?_ | refine RS.lv (LV.load tab_ok rfl (Has.own 4 rfl) rfl) rfl ?_);
          refine RS.pv (PV.all tab_ok rfl) rfl ?_;
          (first | refine RS.pv (PV.indexAddr tab_ok rfl rfl rfl (by omega)) rfl ?_ | refine RS.pv (PV.indexAddrA tab_ok rfl rfl rfl (by omega)) rfl ?_);
          refine RS.lv (LV.load1 tab_ok rfl (Has.imm hb) rfl q1) rfl ?_;
          (all_goals (refine RS.lv (LV.lookupS tab_ok rfl rfl ⟨_, rfl, rfl⟩ ⟨_, rfl, rfl⟩ ⟨_, rfl, rfl, rfl⟩ hzb (Has.own 0 rfl)) rfl ?_; rw [hlk]));
          (all_goals refine RS.nil ?_))
      | (refine CS.region (id := 21) ?_;
          refine RS.pv (PV.all tab_ok rfl) rfl ?_;
          refine RS.pv (PV.all tab_ok rfl) rfl ?_;
          (first | refine RS.lv (LV.load tab_ok rfl (Has.own 0 rfl) rfl) rfl ?_ | refine RS.lv (LV.load tab_ok rfl (Has.own 1 rfl) rfl) rfl ?_ | refine RS.lv (LV.load tab_ok rfl (Has.own 2 rfl) rfl) rfl ?_ | refine RS.lv (LV.load tab_ok rfl (Has.own 3 rfl) rfl) rfl ?_ | refine RS.lv (LV.load tab_ok rfl (Has.own 4 rfl) rfl) rfl ?_);
          refine RS.pv (PV.all tab_ok rfl) rfl ?_;
          (first | refine RS.pv (PV.indexAddr tab_ok rfl rfl rfl (by omega)) rfl ?_ | refine RS.pv (PV.indexAddrA tab_ok rfl rfl rfl (by omega)) rfl ?_);
          refine RS.lv (LV.load1 tab_ok rfl (Has.imm hb) rfl q1) rfl ?_;
          (all_goals refine RS.mapAddS (k := 0) tab_ok rfl rfl rfl rfl ⟨_, rfl, rfl⟩ ⟨_, rfl, rfl⟩ rfl hnot rfl ?_);
          (all_goals refine RS.nil ?_))
      | refine CS.ret ?_
      | refine thenQ.ret ?_
      | refine blkQ.ret ?_
      | refine retQ.ret ?_
      | refine CS.block ?_
      | refine CS.exit ?_
      | refine thenQ.exit ?_
      | refine blkQ.normal ?_
      | refine blkQ.here ?_
      | refine blkQ.past rfl ?_
      | refine retQ.normal ?_)
    refine ⟨cm.length - (j + 1), by omega, j + 1, ks ++ [(s, c)], c + 1, rfl, hlt, ?_, fun k => ?_, rfl, rfl, rfl⟩
    · rw [keysS_snoc, List.nodup_append]
      exact ⟨hkn, by simp, fun p hp q hq => by rw [List.mem_singleton.1 hq]; rintro rfl; exact hnot hp⟩
    · rw [keysS_snoc, List.mem_append, List.mem_singleton, hkm, mem_take_succ hs, or_assoc]
  have hje : j = cm.length := by omega
  subst hje
  rw [List.take_length] at hkm
  have hky : ∀ k, k ∈ keysS ks ↔ k ∈ y.links := fun k => by
    rw [hkm, hgn, hcm, wout_mem, wout_mem]
    constructor
    · rintro (⟨h1, h2⟩ | ⟨h1, _⟩)
      · rcases Decidable.em (k ∈ y.links) with h | h
        · exact h
        · exact absurd ⟨h1, h⟩ h2
      · exact h1
    · intro h
      rcases Decidable.em (k ∈ x.links) with h1 | h1
      · exact .inl ⟨h1, fun h2 => h2.2 h⟩
      · exact .inr ⟨h, h1⟩
  have hlen : ks.length = y.links.length := by
    have := nodup_len hkn hny hky
    simpa [keysS] using this
  repeat' (first
    | refine CS.seq ?_
    | refine thenQ.normal ?_
    | refine CS.cond_true rfl ?_
    | refine CS.cond_false rfl ?_
    | refine CS.skip ?_
    | (refine CS.region (id := 0) ?_;
        refine RS.pv (PV.all tab_ok rfl) rfl ?_;
        refine RS.nil ?_)
    | (refine CS.region (id := 1) ?_;
        refine RS.pv (PV.all tab_ok rfl) rfl ?_;
        refine RS.pv (PV.all tab_ok rfl) rfl ?_;
        refine RS.box rfl rfl (fun b => ?_);
        refine RS.pv (PV.all tab_ok rfl) rfl ?_;
        refine RS.nil ?_)
    | (refine CS.region (id := 2) ?_;
        refine RS.pv (PV.all tab_ok rfl) rfl ?_;
        refine RS.pv (PV.all tab_ok rfl) rfl ?_)
    | (refine CS.drawQ (id := 3) mix (by kernel_rfl) ?_;
        refine QS.pv (PV.all tab_ok rfl) rfl ?_;
        refine QS.pv (PV.all tab_ok rfl) rfl ?_;
        (first | refine QS.lv (LV.load tab_ok rfl (Has.own 0 rfl) rfl) rfl ?_ | refine QS.lv (LV.load tab_ok rfl (Has.own 1 rfl) rfl) rfl ?_ | refine QS.lv (LV.load tab_ok rfl (Has.own 2 rfl) rfl) rfl ?_ | refine QS.lv (LV.load tab_ok rfl (Has.own 3 rfl) rfl) rfl ?_ | refine QS.lv (LV.load tab_ok rfl (Has.own 4 rfl) rfl) rfl ?_);
        refine QS.pv (PV.all tab_ok rfl) rfl ?_)
    | (refine CS.region (id := 4) ?_;
        (first | refine RS.lv (LV.load tab_ok rfl (Has.own 0 rfl) rfl) rfl ?_ | refine RS.lv (LV.load tab_ok rfl (Has.own 1 rfl) rfl) rfl ?_ | refine RS.lv (LV.load tab_ok rfl (Has.own 2 rfl) rfl) rfl ?_ | refine RS.lv (LV.load tab_ok rfl (Has.own 3 rfl) rfl) rfl ?_ | refine RS.lv (LV.load tab_ok rfl (Has.own 4 rfl) rfl) rfl ?_);
        (first | refine RS.lv (LV.load tab_ok rfl (Has.own 0 rfl) rfl) rfl ?_ | refine RS.lv (LV.load tab_ok rfl (Has.own 1 rfl) rfl) rfl ?_ | refine RS.lv (LV.load tab_ok rfl (Has.own 2 rfl) rfl) rfl ?_ | refine RS.lv (LV.load tab_ok rfl (Has.own 3 rfl) rfl) rfl ?_ | refine RS.lv (LV.load tab_ok rfl (Has.own 4 rfl) rfl) rfl ?_))
    | (refine CS.region (id := 5) ?_)
    | (refine CS.region (id := 6) ?_;
        refine RS.pv (PV.all tab_ok rfl) rfl ?_;
        refine RS.nil ?_)
    | (refine CS.region (id := 7) ?_;
        refine RS.pv (PV.all tab_ok rfl) rfl ?_;
        refine RS.pv (PV.all tab_ok rfl) rfl ?_;
        (first | refine RS.lv (LV.load tab_ok rfl (Has.own 0 rfl) rfl) rfl ?_ | refine RS.lv (LV.load tab_ok rfl (Has.own 1 rfl) rfl) rfl ?_ | refine RS.lv (LV.load tab_ok rfl (Has.own 2 rfl) rfl) rfl ?_ | refine RS.lv (LV.load tab_ok rfl (Has.own 3 rfl) rfl) rfl ?_ | refine RS.lv (LV.load tab_ok rfl (Has.own 4 rfl) rfl) rfl ?_);
        (first | refine RS.pv (PV.lenS tab_ok rfl rfl) rfl ?_ | refine RS.pv (PV.lenT tab_ok rfl rfl) rfl ?_);
        (first | refine RS.pv (PV.lssT rfl rfl (by omega)) rfl ?_ | refine RS.pv (PV.lssF rfl rfl (by omega)) rfl ?_ | refine RS.ifLss rfl rfl rfl (fun h => ?_) (fun h => ?_));
        (all_goals refine RS.nil ?_))
    | (refine CS.region (id := 8) ?_;
        refine RS.pv (PV.all tab_ok rfl) rfl ?_;
        refine RS.pv (PV.add rfl rfl (by omega)) rfl ?_;
        refine RS.pv (PV.all tab_ok rfl) rfl ?_;
        refine RS.nil ?_)
    | (refine CS.region (id := 9) ?_;
        refine RS.pv (PV.all tab_ok rfl) rfl ?_;
        refine RS.pv (PV.all tab_ok rfl) rfl ?_;
        (first | refine RS.lv (LV.load tab_ok rfl (Has.own 0 rfl) rfl) rfl ?_ | refine RS.lv (LV.load tab_ok rfl (Has.own 1 rfl) rfl) rfl ?_ | refine RS.lv (LV.load tab_ok rfl (Has.own 2 rfl) rfl) rfl ?_ | refine RS.lv (LV.load tab_ok rfl (Has.own 3 rfl) rfl) rfl ?_ | refine RS.lv (LV.load tab_ok rfl (Has.own 4 rfl) rfl) rfl ?_);
        refine RS.pv (PV.all tab_ok rfl) rfl ?_;
        (first | refine RS.pv (PV.indexAddr tab_ok rfl rfl rfl (by omega)) rfl ?_ | refine RS.pv (PV.indexAddrA tab_ok rfl rfl rfl (by omega)) rfl ?_);
        (first | refine RS.lv (LV.load tab_ok rfl (Has.own 0 rfl) rfl) rfl ?_ | refine RS.lv (LV.load tab_ok rfl (Has.own 1 rfl) rfl) rfl ?_ | refine RS.lv (LV.load tab_ok rfl (Has.own 2 rfl) rfl) rfl ?_ | refine RS.lv (LV.load tab_ok rfl (Has.own 3 rfl) rfl) rfl ?_ | refine RS.lv (LV.load tab_ok rfl (Has.own 4 rfl) rfl) rfl ?_))
    | (refine CS.region (id := 10) ?_;
        refine RS.pv (PV.all tab_ok rfl) rfl ?_;
        refine RS.nil ?_)
    | (refine CS.region (id := 11) ?_;
        refine RS.pv (PV.all tab_ok rfl) rfl ?_;
        refine RS.pv (PV.all tab_ok rfl) rfl ?_;
        (first | refine RS.lv (LV.load tab_ok rfl (Has.own 0 rfl) rfl) rfl ?_ | refine RS.lv (LV.load tab_ok rfl (Has.own 1 rfl) rfl) rfl ?_ | refine RS.lv (LV.load tab_ok rfl (Has.own 2 rfl) rfl) rfl ?_ | refine RS.lv (LV.load tab_ok rfl (Has.own 3 rfl) rfl) rfl ?_ | refine RS.lv (LV.load tab_ok rfl (Has.own 4 rfl) rfl) rfl ?_);
        (first | refine RS.pv (PV.lenS tab_ok rfl rfl) rfl ?_ | refine RS.pv (PV.lenT tab_ok rfl rfl) rfl ?_);
        (first | refine RS.pv (PV.lssT rfl rfl (by omega)) rfl ?_ | refine RS.pv (PV.lssF rfl rfl (by omega)) rfl ?_ | refine RS.ifLss rfl rfl rfl (fun h => ?_) (fun h => ?_));
        (all_goals refine RS.nil ?_))
    | (refine CS.region (id := 12) ?_;
        refine RS.pv (PV.all tab_ok rfl) rfl ?_;
        refine RS.pv (PV.add rfl rfl (by omega)) rfl ?_;
        refine RS.pv (PV.all tab_ok rfl) rfl ?_;
        refine RS.nil ?_)
    | (refine CS.region (id := 13) ?_;
        refine RS.pv (PV.all tab_ok rfl) rfl ?_;
        refine RS.pv (PV.all tab_ok rfl) rfl ?_;
        (first | refine RS.lv (LV.load tab_ok rfl (Has.own 0 rfl) rfl) rfl ?_ | refine RS.lv (LV.load tab_ok rfl (Has.own 1 rfl) rfl) rfl ?_ | refine RS.lv (LV.load tab_ok rfl (Has.own 2 rfl) rfl) rfl ?_ | refine RS.lv (LV.load tab_ok rfl (Has.own 3 rfl) rfl) rfl ?_ | refine RS.lv (LV.load tab_ok rfl (Has.own 4 rfl) rfl) rfl ?_);
        refine RS.pv (PV.all tab_ok rfl) rfl ?_;
        (first | refine RS.pv (PV.indexAddr tab_ok rfl rfl rfl (by omega)) rfl ?_ | refine RS.pv (PV.indexAddrA tab_ok rfl rfl rfl (by omega)) rfl ?_);
        (first | refine RS.lv (LV.load tab_ok rfl (Has.own 0 rfl) rfl) rfl ?_ | refine RS.lv (LV.load tab_ok rfl (Has.own 1 rfl) rfl) rfl ?_ | refine RS.lv (LV.load tab_ok rfl (Has.own 2 rfl) rfl) rfl ?_ | refine RS.lv (LV.load tab_ok rfl (Has.own 3 rfl) rfl) rfl ?_ | refine RS.lv (LV.load tab_ok rfl (Has.own 4 rfl) rfl) rfl ?_))
    | (refine CS.region (id := 14) ?_;
        refine RS.pv (PV.all tab_ok rfl) rfl ?_;
        refine RS.nil ?_)
    | (refine CS.region (id := 15) ?_;
        refine RS.pv (PV.all tab_ok rfl) rfl ?_;
        refine RS.pv (PV.all tab_ok rfl) rfl ?_;
        (first | refine RS.lv (LV.load tab_ok rfl (Has.own 0 rfl) rfl) rfl ?_ | refine RS.lv (LV.load tab_ok rfl (Has.own 1 rfl) rfl) rfl ?_ | refine RS.lv (LV.load tab_ok rfl (Has.own 2 rfl) rfl) rfl ?_ | refine RS.lv (LV.load tab_ok rfl (Has.own 3 rfl) rfl) rfl ?_ | refine RS.lv (LV.load tab_ok rfl (Has.own 4 rfl) rfl) rfl ?_);
        refine RS.pv (PV.all tab_ok rfl) rfl ?_;
        (first | refine RS.pv (PV.indexAddr tab_ok rfl rfl rfl (by omega)) rfl ?_ | refine RS.pv (PV.indexAddrA tab_ok rfl rfl rfl (by omega)) rfl ?_);
        (first | refine RS.lv (LV.load tab_ok rfl (Has.own 0 rfl) rfl) rfl ?_ | refine RS.lv (LV.load tab_ok rfl (Has.own 1 rfl) rfl) rfl ?_ | refine RS.lv (LV.load tab_ok rfl (Has.own 2 rfl) rfl) rfl ?_ | refine RS.lv (LV.load tab_ok rfl (Has.own 3 rfl) rfl) rfl ?_ | refine RS.lv (LV.load tab_ok rfl (Has.own 4 rfl) rfl) rfl ?_))
    | (refine CS.region (id := 16) ?_;
        refine RS.pv (PV.all tab_ok rfl) rfl ?_;
        refine RS.nil ?_)
    | (refine CS.region (id := 17) ?_;
        refine RS.pv (PV.all tab_ok rfl) rfl ?_;
        refine RS.pv (PV.all tab_ok rfl) rfl ?_;
        (first | refine RS.lv (LV.load tab_ok rfl (Has.own 0 rfl) rfl) rfl ?_ | refine RS.lv (LV.load tab_ok rfl (Has.own 1 rfl) rfl) rfl ?_ | refine RS.lv (LV.load tab_ok rfl (Has.own 2 rfl) rfl) rfl ?_ | refine RS.lv (LV.load tab_ok rfl (Has.own 3 rfl) rfl) rfl ?_ | refine RS.lv (LV.load tab_ok rfl (Has.own 4 rfl) rfl) rfl ?_);
        (first | refine RS.pv (PV.lenS tab_ok rfl rfl) rfl ?_ | refine RS.pv (PV.lenT tab_ok rfl rfl) rfl ?_);
        (first | refine RS.pv (PV.lssT rfl rfl (by omega)) rfl ?_ | refine RS.pv (PV.lssF rfl rfl (by omega)) rfl ?_ | refine RS.ifLss rfl rfl rfl (fun h => ?_) (fun h => ?_));
        (all_goals refine RS.nil ?_))
    | (refine CS.region (id := 22) ?_;
        refine RS.pv (PV.all tab_ok rfl) rfl ?_;
        refine RS.nil ?_)
    | refine CS.ret ?_
    | refine thenQ.ret ?_
    | refine blkQ.ret ?_
    | refine retQ.ret ?_
    | refine CS.block ?_
    | refine CS.exit ?_
    | refine thenQ.exit ?_
    | refine blkQ.normal ?_
    | refine blkQ.here ?_
    | refine blkQ.past rfl ?_
    | refine retQ.normal ?_)
  refine CS.loop [4, 5, 6, 7, 11] (fun m vs i' L' => ∃ (j : Nat), m = y.links.length - j ∧ j ≤ y.links.length ∧ vs = [.pointer (some ⟨bx, 0, none⟩), .pointer (some ⟨b, 0, none⟩), .pointer (some ⟨be, 0, none⟩), .map (some mb), .int .i64 (j : Int)] ∧ i3 = i' ∧ L' = (mb, .map (entS ks) c) :: (be, .cells (List.toArray [.bool rb, .bool bb, .slice ga gn.length gc, .slice ca cm.length cc]) 69 (0, 0)) :: (b, .cells (List.toArray [.string y.path, .int .i64 y.index, .slice b2 y.props.length d2, .slice b3 y.tags.length d3, .slice b4 y.links.length d4, .slice b5 y.run.length d5, .slice b6 y.load.length d6, .string y.name, .int .i64 y.priority, .string y.owner, .string y.group, .int .i64 y.mode]) 36 (0, 0)) :: (bx, .cells (List.toArray [.string x.path, .int .i64 x.index, .slice a2 x.props.length c2, .slice a3 x.tags.length c3, .slice a4 x.links.length c4, .slice a5 x.run.length c5, .slice a6 x.load.length c6, .string x.name, .int .i64 x.priority, .string x.owner, .string x.group, .int .i64 x.mode]) 36 (0, 0)) :: (tp, tapeO (.slice ao ln cap) (at4)) :: R) y.links.length ⟨0, rfl, Nat.zero_le _, rfl, rfl, rfl⟩ ?_
  rintro m fr4 vs i' L' _ ⟨j, rfl, hj, rfl, rfl, rfl⟩
  by_cases hlt : j < y.links.length
  · obtain ⟨q, o, cs, t, fz, cp, e, hb, hc⟩ := hy4.at (k := j) (by omega) (by omega); cases e; obtain ⟨s, hs⟩ : ∃ s, y.links[j]? = some s := ⟨_, List.getElem?_eq_getElem (by omega)⟩; have q1 := hc 0 (by omega); rw [strs_at, hs] at q1
    have hlk : decide (s ∈ keysS ks) = true := decide_eq_true ((hky s).2 (List.mem_of_getElem? hs))
    repeat' (first
      | refine CS.seq ?_
      | refine thenQ.normal ?_
      | refine CS.cond_true rfl ?_
      | refine CS.cond_false rfl ?_
      | refine CS.skip ?_
      | (refine CS.region (id := 0) ?_;
          refine RS.pv (PV.all tab_ok rfl) rfl ?_;
          refine RS.nil ?_)
      | (refine CS.region (id := 1) ?_;
          refine RS.pv (PV.all tab_ok rfl) rfl ?_;
          refine RS.pv (PV.all tab_ok rfl) rfl ?_;
          refine RS.box rfl rfl (fun b => ?_);
          refine RS.pv (PV.all tab_ok rfl) rfl ?_;
          refine RS.nil ?_)
      | (refine CS.region (id := 2) ?_;
          refine RS.pv (PV.all tab_ok rfl) rfl ?_;
          refine RS.pv (PV.all tab_ok rfl) rfl ?_)
      | (refine CS.drawQ (id := 3) mix (by kernel_rfl) ?_;
          refine QS.pv (PV.all tab_ok rfl) rfl ?_;
          refine QS.pv (PV.all tab_ok rfl) rfl ?_;
          (first | refine QS.lv (LV.load tab_ok rfl (Has.own 0 rfl) rfl) rfl ?_ | refine QS.lv (LV.load tab_ok rfl (Has.own 1 rfl) rfl) rfl ?_ | refine QS.lv (LV.load tab_ok rfl (Has.own 2 rfl) rfl) rfl ?_ | refine QS.lv (LV.load tab_ok rfl (Has.own 3 rfl) rfl) rfl ?_ | refine QS.lv (LV.load tab_ok rfl (Has.own 4 rfl) rfl) rfl ?_);
          refine QS.pv (PV.all tab_ok rfl) rfl ?_)
      | (refine CS.region (id := 4) ?_;
          (first | refine RS.lv (LV.load tab_ok rfl (Has.own 0 rfl) rfl) rfl ?_ | refine RS.lv (LV.load tab_ok rfl (Has.own 1 rfl) rfl) rfl ?_ | refine RS.lv (LV.load tab_ok rfl (Has.own 2 rfl) rfl) rfl ?_ | refine RS.lv (LV.load tab_ok rfl (Has.own 3 rfl) rfl) rfl ?_ | refine RS.lv (LV.load tab_ok rfl (Has.own 4 rfl) rfl) rfl ?_);
          (first | refine RS.lv (LV.load tab_ok rfl (Has.own 0 rfl) rfl) rfl ?_ | refine RS.lv (LV.load tab_ok rfl (Has.own 1 rfl) rfl) rfl ?_ | refine RS.lv (LV.load tab_ok rfl (Has.own 2 rfl) rfl) rfl ?_ | refine RS.lv (LV.load tab_ok rfl (Has.own 3 rfl) rfl) rfl ?_ | refine RS.lv (LV.load tab_ok rfl (Has.own 4 rfl) rfl) rfl ?_))
      | (refine CS.region (id := 5) ?_)
      | (refine CS.region (id := 6) ?_;
          refine RS.pv (PV.all tab_ok rfl) rfl ?_;
          refine RS.nil ?_)
      | (refine CS.region (id := 7) ?_;
          refine RS.pv (PV.all tab_ok rfl) rfl ?_;
          refine RS.pv (PV.all tab_ok rfl) rfl ?_;
          (first | refine RS.lv (LV.load tab_ok rfl (Has.own 0 rfl) rfl) rfl ?_ | refine RS.lv (LV.load tab_ok rfl (Has.own 1 rfl) rfl) rfl ?_ | refine RS.lv (LV.load tab_ok rfl (Has.own 2 rfl) rfl) rfl ?_ | refine RS.lv (LV.load tab_ok rfl (Has.own 3 rfl) rfl) rfl ?_ | refine RS.lv (LV.load tab_ok rfl (Has.own 4 rfl) rfl) rfl ?_);
          (first | refine RS.pv (PV.lenS tab_ok rfl rfl) rfl ?_ | refine RS.pv (PV.lenT tab_ok rfl rfl) rfl ?_);
          (first | refine RS.pv (PV.lssT rfl rfl (by omega)) rfl ?_ | refine RS.pv (PV.lssF rfl rfl (by omega)) rfl ?_ | refine RS.ifLss rfl rfl rfl (fun h => ?_) (fun h => ?_));
          (all_goals refine RS.nil ?_))
      | (refine CS.region (id := 8) ?_;
          refine RS.pv (PV.all tab_ok rfl) rfl ?_;
          refine RS.pv (PV.add rfl rfl (by omega)) rfl ?_;
          refine RS.pv (PV.all tab_ok rfl) rfl ?_;
          refine RS.nil ?_)
      | (refine CS.region (id := 9) ?_;
          refine RS.pv (PV.all tab_ok rfl) rfl ?_;
          refine RS.pv (PV.all tab_ok rfl) rfl ?_;
          (first | refine RS.lv (LV.load tab_ok rfl (Has.own 0 rfl) rfl) rfl ?_ | refine RS.lv (LV.load tab_ok rfl (Has.own 1 rfl) rfl) rfl ?_ | refine RS.lv (LV.load tab_ok rfl (Has.own 2 rfl) rfl) rfl ?_ | refine RS.lv (LV.load tab_ok rfl (Has.own 3 rfl) rfl) rfl ?_ | refine RS.lv (LV.load tab_ok rfl (Has.own 4 rfl) rfl) rfl ?_);
          refine RS.pv (PV.all tab_ok rfl) rfl ?_;
          (first | refine RS.pv (PV.indexAddr tab_ok rfl rfl rfl (by omega)) rfl ?_ | refine RS.pv (PV.indexAddrA tab_ok rfl rfl rfl (by omega)) rfl ?_);
          (first | refine RS.lv (LV.load tab_ok rfl (Has.own 0 rfl) rfl) rfl ?_ | refine RS.lv (LV.load tab_ok rfl (Has.own 1 rfl) rfl) rfl ?_ | refine RS.lv (LV.load tab_ok rfl (Has.own 2 rfl) rfl) rfl ?_ | refine RS.lv (LV.load tab_ok rfl (Has.own 3 rfl) rfl) rfl ?_ | refine RS.lv (LV.load tab_ok rfl (Has.own 4 rfl) rfl) rfl ?_))
      | (refine CS.region (id := 10) ?_;
          refine RS.pv (PV.all tab_ok rfl) rfl ?_;
          refine RS.nil ?_)
      | (refine CS.region (id := 11) ?_;
          refine RS.pv (PV.all tab_ok rfl) rfl ?_;
          refine RS.pv (PV.all tab_ok rfl) rfl ?_;
          (first | refine RS.lv (LV.load tab_ok rfl (Has.own 0 rfl) rfl) rfl ?_ | refine RS.lv (LV.load tab_ok rfl (Has.own 1 rfl) rfl) rfl ?_ | refine RS.lv (LV.load tab_ok rfl (Has.own 2 rfl) rfl) rfl ?_ | refine RS.lv (LV.load tab_ok rfl (Has.own 3 rfl) rfl) rfl ?_ | refine RS.lv (LV.load tab_ok rfl (Has.own 4 rfl) rfl) rfl ?_);
          (first | refine RS.pv (PV.lenS tab_ok rfl rfl) rfl ?_ | refine RS.pv (PV.lenT tab_ok rfl rfl) rfl ?_);
          (first | refine RS.pv (PV.lssT rfl rfl (by omega)) rfl ?_ | refine RS.pv (PV.lssF rfl rfl (by omega)) rfl ?_ | refine RS.ifLss rfl rfl rfl (fun h => ?_) (fun h => ?_));
          (all_goals refine RS.nil ?_))
      | (refine CS.region (id := 12) ?_;
          refine RS.pv (PV.all tab_ok rfl) rfl ?_;
          refine RS.pv (PV.add rfl rfl (by omega)) rfl ?_;
          refine RS.pv (PV.all tab_ok rfl) rfl ?_;
          refine RS.nil ?_)
      | (refine CS.region (id := 13) ?_;
          refine RS.pv (PV.all tab_ok rfl) rfl ?_;
          refine RS.pv (PV.all tab_ok rfl) rfl ?_;
          (first | refine RS.lv (LV.load tab_ok rfl (Has.own 0 rfl) rfl) rfl ?_ | refine RS.lv (LV.load tab_ok rfl (Has.own 1 rfl) rfl) rfl ?_ | refine RS.lv (LV.load tab_ok rfl (Has.own 2 rfl) rfl) rfl ?_ | refine RS.lv (LV.load tab_ok rfl (Has.own 3 rfl) rfl) rfl ?_ | refine RS.lv (LV.load tab_ok rfl (Has.own 4 rfl) rfl) rfl ?_);
          refine RS.pv (PV.all tab_ok rfl) rfl ?_;
          (first | refine RS.pv (PV.indexAddr tab_ok rfl rfl rfl (by omega)) rfl ?_ | refine RS.pv (PV.indexAddrA tab_ok rfl rfl rfl (by omega)) rfl ?_);
          (first | refine RS.lv (LV.load tab_ok rfl (Has.own 0 rfl) rfl) rfl ?_ | refine RS.lv (LV.load tab_ok rfl (Has.own 1 rfl) rfl) rfl ?_ | refine RS.lv (LV.load tab_ok rfl (Has.own 2 rfl) rfl) rfl ?_ | refine RS.lv (LV.load tab_ok rfl (Has.own 3 rfl) rfl) rfl ?_ | refine RS.lv (LV.load tab_ok rfl (Has.own 4 rfl) rfl) rfl ?_))
      | (refine CS.region (id := 14) ?_;
          refine RS.pv (PV.all tab_ok rfl) rfl ?_;
          refine RS.nil ?_)
      | (refine CS.region (id := 15) ?_;
          refine RS.pv (PV.all tab_ok rfl) rfl ?_;
          refine RS.pv (PV.all tab_ok rfl) rfl ?_;
          (first | refine RS.lv (LV.load tab_ok rfl (Has.own 0 rfl) rfl) rfl ?_ | refine RS.lv (LV.load tab_ok rfl (Has.own 1 rfl) rfl) rfl ?_ | refine RS.lv (LV.load tab_ok rfl (Has.own 2 rfl) rfl) rfl ?_ | refine RS.lv (LV.load tab_ok rfl (Has.own 3 rfl) rfl) rfl ?_ | refine RS.lv (LV.load tab_ok rfl (Has.own 4 rfl) rfl) rfl ?_);
          refine RS.pv (PV.all tab_ok rfl) rfl ?_;
          (first | refine RS.pv (PV.indexAddr tab_ok rfl rfl rfl (by omega)) rfl ?_ | refine RS.pv (PV.indexAddrA tab_ok rfl rfl rfl (by omega)) rfl ?_);
          (first | refine RS.lv (LV.load tab_ok rfl (Has.own 0 rfl) rfl) rfl ?_ | refine RS.lv (LV.load tab_ok rfl (Has.own 1 rfl) rfl) rfl ?_ | refine RS.lv (LV.load tab_ok rfl (Has.own 2 rfl) rfl) rfl ?_ | refine RS.lv (LV.load tab_ok rfl (Has.own 3 rfl) rfl) rfl ?_ | refine RS.lv (LV.load tab_ok rfl (Has.own 4 rfl) rfl) rfl ?_))
      | (refine CS.region (id := 16) ?_;
          refine RS.pv (PV.all tab_ok rfl) rfl ?_;
          refine RS.nil ?_)
      | (refine CS.region (id := 17) ?_;
          refine RS.pv (PV.all tab_ok rfl) rfl ?_;
          refine RS.pv (PV.all tab_ok rfl) rfl ?_;
          (first | refine RS.lv (LV.load tab_ok rfl (Has.own 0 rfl) rfl) rfl ?_ | refine RS.lv (LV.load tab_ok rfl (Has.own 1 rfl) rfl) rfl ?_ | refine RS.lv (LV.load tab_ok rfl (Has.own 2 rfl) rfl) rfl ?_ | refine RS.lv (LV.load tab_ok rfl (Has.own 3 rfl) rfl) rfl ?_ | refine RS.lv (LV.load tab_ok rfl (Has.own 4 rfl) rfl) rfl ?_);
          (first | refine RS.pv (PV.lenS tab_ok rfl rfl) rfl ?_ | refine RS.pv (PV.lenT tab_ok rfl rfl) rfl ?_);
          (first | refine RS.pv (PV.lssT rfl rfl (by omega)) rfl ?_ | refine RS.pv (PV.lssF rfl rfl (by omega)) rfl ?_ | refine RS.ifLss rfl rfl rfl (fun h => ?_) (fun h => ?_));
          (all_goals refine RS.nil ?_))
      | (refine CS.region (id := 18) ?_;
          refine RS.pv (PV.all tab_ok rfl) rfl ?_;
          refine RS.pv (PV.add rfl rfl (by omega)) rfl ?_;
          refine RS.pv (PV.all tab_ok rfl) rfl ?_;
          refine RS.nil ?_)
      | (refine CS.region (id := 19) ?_;
          refine RS.pv (PV.all tab_ok rfl) rfl ?_;
          refine RS.pv (PV.all tab_ok rfl) rfl ?_;
          (first | refine RS.lv (LV.load tab_ok rfl (Has.own 0 rfl) rfl) rfl ?_ | refine RS.lv (LV.load tab_ok rfl (Has.own 1 rfl) rfl) rfl ?_ | refine RS.lv (LV.load tab_ok rfl (Has.own 2 rfl) rfl) rfl ?_ | refine RS.lv (LV.load tab_ok rfl (Has.own 3 rfl) rfl) rfl ?_ | refine RS.lv (LV.load tab_ok rfl (Has.own 4 rfl) rfl) rfl ?_);
          refine RS.pv (PV.all tab_ok rfl) rfl ?_;
          (first | refine RS.pv (PV.indexAddr tab_ok rfl rfl rfl (by omega)) rfl ?_ | refine RS.pv (PV.indexAddrA tab_ok rfl rfl rfl (by omega)) rfl ?_);
          (first | refine RS.lv (LV.load tab_ok rfl (Has.own 0 rfl) rfl) rfl ?_ | refine RS.lv (LV.load tab_ok rfl (Has.own 1 rfl) rfl) rfl ?_ | refine RS.lv (LV.load tab_ok rfl (Has.own 2 rfl) rfl) rfl ?_ | refine RS.lv (LV.load tab_ok rfl (Has.own 3 rfl) rfl) rfl ?_ | refine RS.lv (LV.load tab_ok rfl (Has.own 4 rfl) rfl) rfl ?_))
      | (refine CS.region (id := 20) ?_;
          refine RS.pv (PV.all tab_ok rfl) rfl ?_;
          refine RS.nil ?_)
      | (refine CS.region (id := 21) ?_;
          refine RS.pv (PV.all tab_ok rfl) rfl ?_;
          refine RS.pv (PV.all tab_ok rfl) rfl ?_;
          (first | refine RS.lv (LV.load tab_ok rfl (Has.own 0 rfl) rfl) rfl ?_ | refine RS.lv (LV.load tab_ok rfl (Has.own 1 rfl) rfl) rfl ?_ | refine RS.lv (LV.load tab_ok rfl (Has.own 2 rfl) rfl) rfl ?_ | refine RS.lv (LV.load tab_ok rfl (Has.own 3 rfl) rfl) rfl ?_ | refine RS.lv (LV.load tab_ok rfl (Has.own 4 rfl) rfl) rfl ?_);
          refine RS.pv (PV.all tab_ok rfl) rfl ?_;
          (first | refine RS.pv (PV.indexAddr tab_ok rfl rfl rfl (by omega)) rfl ?_ | refine RS.pv (PV.indexAddrA tab_ok rfl rfl rfl (by omega)) rfl ?_);
          (first | refine RS.lv (LV.load tab_ok rfl (Has.own 0 rfl) rfl) rfl ?_ | refine RS.lv (LV.load tab_ok rfl (Has.own 1 rfl) rfl) rfl ?_ | refine RS.lv (LV.load tab_ok rfl (Has.own 2 rfl) rfl) rfl ?_ | refine RS.lv (LV.load tab_ok rfl (Has.own 3 rfl) rfl) rfl ?_ | refine RS.lv (LV.load tab_ok rfl (Has.own 4 rfl) rfl) rfl ?_))
      | (refine CS.region (id := 23) ?_;
          refine RS.pv (PV.all tab_ok rfl) rfl ?_;
          refine RS.pv (PV.all tab_ok rfl) rfl ?_;
          (first | refine RS.lv (LV.load tab_ok rfl (Has.own 0 rfl) rfl) rfl ?_ | refine RS.lv (LV.load tab_ok rfl (Has.own 1 rfl) rfl) rfl ?_ | refine RS.lv (LV.load tab_ok rfl (Has.own 2 rfl) rfl) rfl ?_ | refine RS.lv (LV.load tab_ok rfl (Has.own 3 rfl) rfl) rfl ?_ | refine RS.lv (LV.load tab_ok rfl (Has.own 4 rfl) rfl) rfl ?_);
          (first | refine RS.pv (PV.lenS tab_ok rfl rfl) rfl ?_ | refine RS.pv (PV.lenT tab_ok rfl rfl) rfl ?_);
          (first | refine RS.pv (PV.lssT rfl rfl (by omega)) rfl ?_ | refine RS.pv (PV.lssF rfl rfl (by omega)) rfl ?_ | refine RS.ifLss rfl rfl rfl (fun h => ?_) (fun h => ?_));
          (all_goals refine RS.nil ?_))
      | (refine CS.region (id := 24) ?_;
          refine RS.pv (PV.all tab_ok rfl) rfl ?_;
          refine RS.pv (PV.add rfl rfl (by omega)) rfl ?_;
          refine RS.pv (PV.all tab_ok rfl) rfl ?_;
          refine RS.nil ?_)
      | (refine CS.region (id := 25) ?_;
          refine RS.pv (PV.all tab_ok rfl) rfl ?_;
          refine RS.pv (PV.all tab_ok rfl) rfl ?_;
          (first | refine RS.lv (LV.load tab_ok rfl (Has.own 0 rfl) rfl) rfl ?_ | refine RS.lv (LV.load tab_ok rfl (Has.own 1 rfl) rfl) rfl ?_ | refine RS.lv (LV.load tab_ok rfl (Has.own 2 rfl) rfl) rfl ?_ | refine RS.lv (LV.load tab_ok rfl (Has.own 3 rfl) rfl) rfl ?_ | refine RS.lv (LV.load tab_ok rfl (Has.own 4 rfl) rfl) rfl ?_);
          refine RS.pv (PV.all tab_ok rfl) rfl ?_;
          (first | refine RS.pv (PV.indexAddr tab_ok rfl rfl rfl (by omega)) rfl ?_ | refine RS.pv (PV.indexAddrA tab_ok rfl rfl rfl (by omega)) rfl ?_);
          refine RS.lv (LV.load1 tab_ok rfl (Has.imm hb) rfl q1) rfl ?_;
          (all_goals (refine RS.lv (LV.lookupS tab_ok rfl rfl ⟨_, rfl, rfl⟩ ⟨_, rfl, rfl⟩ ⟨_, rfl, rfl, rfl⟩ hzb (Has.own 0 rfl)) rfl ?_; rw [hlk]));
          (all_goals refine RS.pv (PV.all tab_ok rfl) rfl ?_);
          (all_goals refine RS.nil ?_))
      | refine CS.ret ?_
      | refine thenQ.ret ?_
      | refine blkQ.ret ?_
      | refine retQ.ret ?_
      | refine CS.block ?_
      | refine CS.exit ?_
      | refine thenQ.exit ?_
      | refine blkQ.normal ?_
      | refine blkQ.here ?_
      | refine blkQ.past rfl ?_
      | refine retQ.normal ?_)
    exact ⟨y.links.length - (j + 1), by omega, j + 1, rfl, hlt, rfl, rfl, rfl⟩
  have hwx := wout_self x.links
  have heff : ∀ e, EffOf x true x e → e = ⟨false, false, [], []⟩ := by
    rintro ⟨rb', bb', gn', cm'⟩ heo
    unfold EffOf at heo
    rw [if_pos rfl, hwx] at heo
    obtain ⟨hrb', hbb', h1, h2⟩ := heo
    simp only at hrb' hbb' h1 h2
    have e1 : rb' = false := by cases rb' <;> simp at hrb' ⊢
    have e2 : bb' = false := by cases bb' <;> simp [belowP] at hbb' ⊢
    rw [e1, e2, h1, h2]
  have hbr : bb = true → rb = true := fun h => by
    rw [hrb]
    rw [hbb] at h
    rintro rfl
    rcases h with h | h | h <;> exact h rfl
  repeat' (first
    | refine CS.seq ?_
    | refine thenQ.normal ?_
    | refine CS.cond_true rfl ?_
    | refine CS.cond_false rfl ?_
    | refine CS.skip ?_
    | (refine CS.region (id := 0) ?_;
        refine RS.pv (PV.all tab_ok rfl) rfl ?_;
        refine RS.nil ?_)
    | (refine CS.region (id := 1) ?_;
        refine RS.pv (PV.all tab_ok rfl) rfl ?_;
        refine RS.pv (PV.all tab_ok rfl) rfl ?_;
        refine RS.box rfl rfl (fun b => ?_);
        refine RS.pv (PV.all tab_ok rfl) rfl ?_;
        refine RS.nil ?_)
    | (refine CS.region (id := 2) ?_;
        refine RS.pv (PV.all tab_ok rfl) rfl ?_;
        refine RS.pv (PV.all tab_ok rfl) rfl ?_)
    | (refine CS.drawQ (id := 3) mix (by kernel_rfl) ?_;
        refine QS.pv (PV.all tab_ok rfl) rfl ?_;
        refine QS.pv (PV.all tab_ok rfl) rfl ?_;
        (first | refine QS.lv (LV.load tab_ok rfl (Has.own 0 rfl) rfl) rfl ?_ | refine QS.lv (LV.load tab_ok rfl (Has.own 1 rfl) rfl) rfl ?_ | refine QS.lv (LV.load tab_ok rfl (Has.own 2 rfl) rfl) rfl ?_ | refine QS.lv (LV.load tab_ok rfl (Has.own 3 rfl) rfl) rfl ?_ | refine QS.lv (LV.load tab_ok rfl (Has.own 4 rfl) rfl) rfl ?_);
        refine QS.pv (PV.all tab_ok rfl) rfl ?_)
    | (refine CS.region (id := 4) ?_;
        (first | refine RS.lv (LV.load tab_ok rfl (Has.own 0 rfl) rfl) rfl ?_ | refine RS.lv (LV.load tab_ok rfl (Has.own 1 rfl) rfl) rfl ?_ | refine RS.lv (LV.load tab_ok rfl (Has.own 2 rfl) rfl) rfl ?_ | refine RS.lv (LV.load tab_ok rfl (Has.own 3 rfl) rfl) rfl ?_ | refine RS.lv (LV.load tab_ok rfl (Has.own 4 rfl) rfl) rfl ?_);
        (first | refine RS.lv (LV.load tab_ok rfl (Has.own 0 rfl) rfl) rfl ?_ | refine RS.lv (LV.load tab_ok rfl (Has.own 1 rfl) rfl) rfl ?_ | refine RS.lv (LV.load tab_ok rfl (Has.own 2 rfl) rfl) rfl ?_ | refine RS.lv (LV.load tab_ok rfl (Has.own 3 rfl) rfl) rfl ?_ | refine RS.lv (LV.load tab_ok rfl (Has.own 4 rfl) rfl) rfl ?_))
    | (refine CS.region (id := 5) ?_)
    | (refine CS.region (id := 6) ?_;
        refine RS.pv (PV.all tab_ok rfl) rfl ?_;
        refine RS.nil ?_)
    | (refine CS.region (id := 7) ?_;
        refine RS.pv (PV.all tab_ok rfl) rfl ?_;
        refine RS.pv (PV.all tab_ok rfl) rfl ?_;
        (first | refine RS.lv (LV.load tab_ok rfl (Has.own 0 rfl) rfl) rfl ?_ | refine RS.lv (LV.load tab_ok rfl (Has.own 1 rfl) rfl) rfl ?_ | refine RS.lv (LV.load tab_ok rfl (Has.own 2 rfl) rfl) rfl ?_ | refine RS.lv (LV.load tab_ok rfl (Has.own 3 rfl) rfl) rfl ?_ | refine RS.lv (LV.load tab_ok rfl (Has.own 4 rfl) rfl) rfl ?_);
        (first | refine RS.pv (PV.lenS tab_ok rfl rfl) rfl ?_ | refine RS.pv (PV.lenT tab_ok rfl rfl) rfl ?_);
        (first | refine RS.pv (PV.lssT rfl rfl (by omega)) rfl ?_ | refine RS.pv (PV.lssF rfl rfl (by omega)) rfl ?_ | refine RS.ifLss rfl rfl rfl (fun h => ?_) (fun h => ?_));
        (all_goals refine RS.nil ?_))
    | (refine CS.region (id := 8) ?_;
        refine RS.pv (PV.all tab_ok rfl) rfl ?_;
        refine RS.pv (PV.add rfl rfl (by omega)) rfl ?_;
        refine RS.pv (PV.all tab_ok rfl) rfl ?_;
        refine RS.nil ?_)
    | (refine CS.region (id := 9) ?_;
        refine RS.pv (PV.all tab_ok rfl) rfl ?_;
        refine RS.pv (PV.all tab_ok rfl) rfl ?_;
        (first | refine RS.lv (LV.load tab_ok rfl (Has.own 0 rfl) rfl) rfl ?_ | refine RS.lv (LV.load tab_ok rfl (Has.own 1 rfl) rfl) rfl ?_ | refine RS.lv (LV.load tab_ok rfl (Has.own 2 rfl) rfl) rfl ?_ | refine RS.lv (LV.load tab_ok rfl (Has.own 3 rfl) rfl) rfl ?_ | refine RS.lv (LV.load tab_ok rfl (Has.own 4 rfl) rfl) rfl ?_);
        refine RS.pv (PV.all tab_ok rfl) rfl ?_;
        (first | refine RS.pv (PV.indexAddr tab_ok rfl rfl rfl (by omega)) rfl ?_ | refine RS.pv (PV.indexAddrA tab_ok rfl rfl rfl (by omega)) rfl ?_);
        (first | refine RS.lv (LV.load tab_ok rfl (Has.own 0 rfl) rfl) rfl ?_ | refine RS.lv (LV.load tab_ok rfl (Has.own 1 rfl) rfl) rfl ?_ | refine RS.lv (LV.load tab_ok rfl (Has.own 2 rfl) rfl) rfl ?_ | refine RS.lv (LV.load tab_ok rfl (Has.own 3 rfl) rfl) rfl ?_ | refine RS.lv (LV.load tab_ok rfl (Has.own 4 rfl) rfl) rfl ?_))
    | (refine CS.region (id := 10) ?_;
        refine RS.pv (PV.all tab_ok rfl) rfl ?_;
        refine RS.nil ?_)
    | (refine CS.region (id := 11) ?_;
        refine RS.pv (PV.all tab_ok rfl) rfl ?_;
        refine RS.pv (PV.all tab_ok rfl) rfl ?_;
        (first | refine RS.lv (LV.load tab_ok rfl (Has.own 0 rfl) rfl) rfl ?_ | refine RS.lv (LV.load tab_ok rfl (Has.own 1 rfl) rfl) rfl ?_ | refine RS.lv (LV.load tab_ok rfl (Has.own 2 rfl) rfl) rfl ?_ | refine RS.lv (LV.load tab_ok rfl (Has.own 3 rfl) rfl) rfl ?_ | refine RS.lv (LV.load tab_ok rfl (Has.own 4 rfl) rfl) rfl ?_);
        (first | refine RS.pv (PV.lenS tab_ok rfl rfl) rfl ?_ | refine RS.pv (PV.lenT tab_ok rfl rfl) rfl ?_);
        (first | refine RS.pv (PV.lssT rfl rfl (by omega)) rfl ?_ | refine RS.pv (PV.lssF rfl rfl (by omega)) rfl ?_ | refine RS.ifLss rfl rfl rfl (fun h => ?_) (fun h => ?_));
        (all_goals refine RS.nil ?_))
    | (refine CS.region (id := 12) ?_;
        refine RS.pv (PV.all tab_ok rfl) rfl ?_;
        refine RS.pv (PV.add rfl rfl (by omega)) rfl ?_;
        refine RS.pv (PV.all tab_ok rfl) rfl ?_;
        refine RS.nil ?_)
    | (refine CS.region (id := 13) ?_;
        refine RS.pv (PV.all tab_ok rfl) rfl ?_;
        refine RS.pv (PV.all tab_ok rfl) rfl ?_;
        (first | refine RS.lv (LV.load tab_ok rfl (Has.own 0 rfl) rfl) rfl ?_ | refine RS.lv (LV.load tab_ok rfl (Has.own 1 rfl) rfl) rfl ?_ | refine RS.lv (LV.load tab_ok rfl (Has.own 2 rfl) rfl) rfl ?_ | refine RS.lv (LV.load tab_ok rfl (Has.own 3 rfl) rfl) rfl ?_ | refine RS.lv (LV.load tab_ok rfl (Has.own 4 rfl) rfl) rfl ?_);
        refine RS.pv (PV.all tab_ok rfl) rfl ?_;
        (first | refine RS.pv (PV.indexAddr tab_ok rfl rfl rfl (by omega)) rfl ?_ | refine RS.pv (PV.indexAddrA tab_ok rfl rfl rfl (by omega)) rfl ?_);
        (first | refine RS.lv (LV.load tab_ok rfl (Has.own 0 rfl) rfl) rfl ?_ | refine RS.lv (LV.load tab_ok rfl (Has.own 1 rfl) rfl) rfl ?_ | refine RS.lv (LV.load tab_ok rfl (Has.own 2 rfl) rfl) rfl ?_ | refine RS.lv (LV.load tab_ok rfl (Has.own 3 rfl) rfl) rfl ?_ | refine RS.lv (LV.load tab_ok rfl (Has.own 4 rfl) rfl) rfl ?_))
    | (refine CS.region (id := 14) ?_;
        refine RS.pv (PV.all tab_ok rfl) rfl ?_;
        refine RS.nil ?_)
    | (refine CS.region (id := 15) ?_;
        refine RS.pv (PV.all tab_ok rfl) rfl ?_;
        refine RS.pv (PV.all tab_ok rfl) rfl ?_;
        (first | refine RS.lv (LV.load tab_ok rfl (Has.own 0 rfl) rfl) rfl ?_ | refine RS.lv (LV.load tab_ok rfl (Has.own 1 rfl) rfl) rfl ?_ | refine RS.lv (LV.load tab_ok rfl (Has.own 2 rfl) rfl) rfl ?_ | refine RS.lv (LV.load tab_ok rfl (Has.own 3 rfl) rfl) rfl ?_ | refine RS.lv (LV.load tab_ok rfl (Has.own 4 rfl) rfl) rfl ?_);
        refine RS.pv (PV.all tab_ok rfl) rfl ?_;
        (first | refine RS.pv (PV.indexAddr tab_ok rfl rfl rfl (by omega)) rfl ?_ | refine RS.pv (PV.indexAddrA tab_ok rfl rfl rfl (by omega)) rfl ?_);
        (first | refine RS.lv (LV.load tab_ok rfl (Has.own 0 rfl) rfl) rfl ?_ | refine RS.lv (LV.load tab_ok rfl (Has.own 1 rfl) rfl) rfl ?_ | refine RS.lv (LV.load tab_ok rfl (Has.own 2 rfl) rfl) rfl ?_ | refine RS.lv (LV.load tab_ok rfl (Has.own 3 rfl) rfl) rfl ?_ | refine RS.lv (LV.load tab_ok rfl (Has.own 4 rfl) rfl) rfl ?_))
    | (refine CS.region (id := 16) ?_;
        refine RS.pv (PV.all tab_ok rfl) rfl ?_;
        refine RS.nil ?_)
    | (refine CS.region (id := 17) ?_;
        refine RS.pv (PV.all tab_ok rfl) rfl ?_;
        refine RS.pv (PV.all tab_ok rfl) rfl ?_;
        (first | refine RS.lv (LV.load tab_ok rfl (Has.own 0 rfl) rfl) rfl ?_ | refine RS.lv (LV.load tab_ok rfl (Has.own 1 rfl) rfl) rfl ?_ | refine RS.lv (LV.load tab_ok rfl (Has.own 2 rfl) rfl) rfl ?_ | refine RS.lv (LV.load tab_ok rfl (Has.own 3 rfl) rfl) rfl ?_ | refine RS.lv (LV.load tab_ok rfl (Has.own 4 rfl) rfl) rfl ?_);
        (first | refine RS.pv (PV.lenS tab_ok rfl rfl) rfl ?_ | refine RS.pv (PV.lenT tab_ok rfl rfl) rfl ?_);
        (first | refine RS.pv (PV.lssT rfl rfl (by omega)) rfl ?_ | refine RS.pv (PV.lssF rfl rfl (by omega)) rfl ?_ | refine RS.ifLss rfl rfl rfl (fun h => ?_) (fun h => ?_));
        (all_goals refine RS.nil ?_))
    | (refine CS.region (id := 18) ?_;
        refine RS.pv (PV.all tab_ok rfl) rfl ?_;
        refine RS.pv (PV.add rfl rfl (by omega)) rfl ?_;
        refine RS.pv (PV.all tab_ok rfl) rfl ?_;
        refine RS.nil ?_)
    | (refine CS.region (id := 19) ?_;
        refine RS.pv (PV.all tab_ok rfl) rfl ?_;
        refine RS.pv (PV.all tab_ok rfl) rfl ?_;
        (first | refine RS.lv (LV.load tab_ok rfl (Has.own 0 rfl) rfl) rfl ?_ | refine RS.lv (LV.load tab_ok rfl (Has.own 1 rfl) rfl) rfl ?_ | refine RS.lv (LV.load tab_ok rfl (Has.own 2 rfl) rfl) rfl ?_ | refine RS.lv (LV.load tab_ok rfl (Has.own 3 rfl) rfl) rfl ?_ | refine RS.lv (LV.load tab_ok rfl (Has.own 4 rfl) rfl) rfl ?_);
        refine RS.pv (PV.all tab_ok rfl) rfl ?_;
        (first | refine RS.pv (PV.indexAddr tab_ok rfl rfl rfl (by omega)) rfl ?_ | refine RS.pv (PV.indexAddrA tab_ok rfl rfl rfl (by omega)) rfl ?_);
        (first | refine RS.lv (LV.load tab_ok rfl (Has.own 0 rfl) rfl) rfl ?_ | refine RS.lv (LV.load tab_ok rfl (Has.own 1 rfl) rfl) rfl ?_ | refine RS.lv (LV.load tab_ok rfl (Has.own 2 rfl) rfl) rfl ?_ | refine RS.lv (LV.load tab_ok rfl (Has.own 3 rfl) rfl) rfl ?_ | refine RS.lv (LV.load tab_ok rfl (Has.own 4 rfl) rfl) rfl ?_))
    | (refine CS.region (id := 20) ?_;
        refine RS.pv (PV.all tab_ok rfl) rfl ?_;
        refine RS.nil ?_)
    | (refine CS.region (id := 21) ?_;
        refine RS.pv (PV.all tab_ok rfl) rfl ?_;
        refine RS.pv (PV.all tab_ok rfl) rfl ?_;
        (first | refine RS.lv (LV.load tab_ok rfl (Has.own 0 rfl) rfl) rfl ?_ | refine RS.lv (LV.load tab_ok rfl (Has.own 1 rfl) rfl) rfl ?_ | refine RS.lv (LV.load tab_ok rfl (Has.own 2 rfl) rfl) rfl ?_ | refine RS.lv (LV.load tab_ok rfl (Has.own 3 rfl) rfl) rfl ?_ | refine RS.lv (LV.load tab_ok rfl (Has.own 4 rfl) rfl) rfl ?_);
        refine RS.pv (PV.all tab_ok rfl) rfl ?_;
        (first | refine RS.pv (PV.indexAddr tab_ok rfl rfl rfl (by omega)) rfl ?_ | refine RS.pv (PV.indexAddrA tab_ok rfl rfl rfl (by omega)) rfl ?_);
        (first | refine RS.lv (LV.load tab_ok rfl (Has.own 0 rfl) rfl) rfl ?_ | refine RS.lv (LV.load tab_ok rfl (Has.own 1 rfl) rfl) rfl ?_ | refine RS.lv (LV.load tab_ok rfl (Has.own 2 rfl) rfl) rfl ?_ | refine RS.lv (LV.load tab_ok rfl (Has.own 3 rfl) rfl) rfl ?_ | refine RS.lv (LV.load tab_ok rfl (Has.own 4 rfl) rfl) rfl ?_))
    | (refine CS.region (id := 22) ?_;
        refine RS.pv (PV.all tab_ok rfl) rfl ?_;
        refine RS.nil ?_)
    | (refine CS.region (id := 23) ?_;
        refine RS.pv (PV.all tab_ok rfl) rfl ?_;
        refine RS.pv (PV.all tab_ok rfl) rfl ?_;
        (first | refine RS.lv (LV.load tab_ok rfl (Has.own 0 rfl) rfl) rfl ?_ | refine RS.lv (LV.load tab_ok rfl (Has.own 1 rfl) rfl) rfl ?_ | refine RS.lv (LV.load tab_ok rfl (Has.own 2 rfl) rfl) rfl ?_ | refine RS.lv (LV.load tab_ok rfl (Has.own 3 rfl) rfl) rfl ?_ | refine RS.lv (LV.load tab_ok rfl (Has.own 4 rfl) rfl) rfl ?_);
        (first | refine RS.pv (PV.lenS tab_ok rfl rfl) rfl ?_ | refine RS.pv (PV.lenT tab_ok rfl rfl) rfl ?_);
        (first | refine RS.pv (PV.lssT rfl rfl (by omega)) rfl ?_ | refine RS.pv (PV.lssF rfl rfl (by omega)) rfl ?_ | refine RS.ifLss rfl rfl rfl (fun h => ?_) (fun h => ?_));
        (all_goals refine RS.nil ?_))
    | (refine CS.region (id := 27) ?_;
        (first | refine RS.lv (LV.load tab_ok rfl (Has.own 0 rfl) rfl) rfl ?_ | refine RS.lv (LV.load tab_ok rfl (Has.own 1 rfl) rfl) rfl ?_ | refine RS.lv (LV.load tab_ok rfl (Has.own 2 rfl) rfl) rfl ?_ | refine RS.lv (LV.load tab_ok rfl (Has.own 3 rfl) rfl) rfl ?_ | refine RS.lv (LV.load tab_ok rfl (Has.own 4 rfl) rfl) rfl ?_);
        (first | refine RS.lv (LV.load tab_ok rfl (Has.own 0 rfl) rfl) rfl ?_ | refine RS.lv (LV.load tab_ok rfl (Has.own 1 rfl) rfl) rfl ?_ | refine RS.lv (LV.load tab_ok rfl (Has.own 2 rfl) rfl) rfl ?_ | refine RS.lv (LV.load tab_ok rfl (Has.own 3 rfl) rfl) rfl ?_ | refine RS.lv (LV.load tab_ok rfl (Has.own 4 rfl) rfl) rfl ?_);
        (refine RS.call (Compare_s _ _ x x true _ _ (hx.le hi3) (hx.le hi3) hmx.ok.small (by omega) (by omega)) rfl (by kernel_rfl) rfl ?_; rintro v i4 L4 hi4 ⟨⟨e, hev, heo⟩, rfl⟩; have e0 := heff e heo; subst e0; obtain ⟨ga', gc', ca', cc', hv, -, -⟩ := hev; simp only [List.length_nil] at hv; subst hv);
        (all_goals refine RS.alloc tab_ok rfl rfl (fun b12 => ?_));
        (all_goals (first | refine RS.store (k := 0) tab_ok rfl rfl rfl rfl rfl rfl rfl rfl ?_ | refine RS.store (k := 1) tab_ok rfl rfl rfl rfl rfl rfl rfl rfl ?_ | refine RS.store (k := 2) tab_ok rfl rfl rfl rfl rfl rfl rfl rfl ?_ | refine RS.store (k := 3) tab_ok rfl rfl rfl rfl rfl rfl rfl rfl ?_ | refine RS.store (k := 4) tab_ok rfl rfl rfl rfl rfl rfl rfl rfl ?_));
        (all_goals refine RS.nil ?_))
    | refine CS.ret ?_
    | refine thenQ.ret ?_
    | refine blkQ.ret ?_
    | refine retQ.ret ?_
    | refine CS.block ?_
    | refine CS.exit ?_
    | refine thenQ.exit ?_
    | refine blkQ.normal ?_
    | refine blkQ.here ?_
    | refine blkQ.past rfl ?_
    | refine retQ.normal ?_)
  cases bb <;> cases rb
  all_goals first
    | (exact absurd (hbr rfl) (by decide))
    | skip
  all_goals
    repeat' (first
      | refine CS.seq ?_
      | refine thenQ.normal ?_
      | refine CS.cond_true rfl ?_
      | refine CS.cond_false rfl ?_
      | refine CS.skip ?_
      | (refine CS.region (id := 0) ?_;
          refine RS.pv (PV.all tab_ok rfl) rfl ?_;
          refine RS.nil ?_)
      | (refine CS.region (id := 1) ?_;
          refine RS.pv (PV.all tab_ok rfl) rfl ?_;
          refine RS.pv (PV.all tab_ok rfl) rfl ?_;
          refine RS.box rfl rfl (fun b => ?_);
          refine RS.pv (PV.all tab_ok rfl) rfl ?_;
          refine RS.nil ?_)
      | (refine CS.region (id := 2) ?_;
          refine RS.pv (PV.all tab_ok rfl) rfl ?_;
          refine RS.pv (PV.all tab_ok rfl) rfl ?_)
      | (refine CS.drawQ (id := 3) mix (by kernel_rfl) ?_;
          refine QS.pv (PV.all tab_ok rfl) rfl ?_;
          refine QS.pv (PV.all tab_ok rfl) rfl ?_;
          (first | refine QS.lv (LV.load tab_ok rfl (Has.own 0 rfl) rfl) rfl ?_ | refine QS.lv (LV.load tab_ok rfl (Has.own 1 rfl) rfl) rfl ?_ | refine QS.lv (LV.load tab_ok rfl (Has.own 2 rfl) rfl) rfl ?_ | refine QS.lv (LV.load tab_ok rfl (Has.own 3 rfl) rfl) rfl ?_ | refine QS.lv (LV.load tab_ok rfl (Has.own 4 rfl) rfl) rfl ?_ | refine QS.lv (LV.load tab_ok rfl (Has.own 5 rfl) rfl) rfl ?_);
          refine QS.pv (PV.all tab_ok rfl) rfl ?_)
      | (refine CS.region (id := 4) ?_;
          (first | refine RS.lv (LV.load tab_ok rfl (Has.own 0 rfl) rfl) rfl ?_ | refine RS.lv (LV.load tab_ok rfl (Has.own 1 rfl) rfl) rfl ?_ | refine RS.lv (LV.load tab_ok rfl (Has.own 2 rfl) rfl) rfl ?_ | refine RS.lv (LV.load tab_ok rfl (Has.own 3 rfl) rfl) rfl ?_ | refine RS.lv (LV.load tab_ok rfl (Has.own 4 rfl) rfl) rfl ?_ | refine RS.lv (LV.load tab_ok rfl (Has.own 5 rfl) rfl) rfl ?_);
          (first | refine RS.lv (LV.load tab_ok rfl (Has.own 0 rfl) rfl) rfl ?_ | refine RS.lv (LV.load tab_ok rfl (Has.own 1 rfl) rfl) rfl ?_ | refine RS.lv (LV.load tab_ok rfl (Has.own 2 rfl) rfl) rfl ?_ | refine RS.lv (LV.load tab_ok rfl (Has.own 3 rfl) rfl) rfl ?_ | refine RS.lv (LV.load tab_ok rfl (Has.own 4 rfl) rfl) rfl ?_ | refine RS.lv (LV.load tab_ok rfl (Has.own 5 rfl) rfl) rfl ?_))
      | (refine CS.region (id := 5) ?_)
      | (refine CS.region (id := 6) ?_;
          refine RS.pv (PV.all tab_ok rfl) rfl ?_;
          refine RS.nil ?_)
      | (refine CS.region (id := 7) ?_;
          refine RS.pv (PV.all tab_ok rfl) rfl ?_;
          refine RS.pv (PV.all tab_ok rfl) rfl ?_;
          (first | refine RS.lv (LV.load tab_ok rfl (Has.own 0 rfl) rfl) rfl ?_ | refine RS.lv (LV.load tab_ok rfl (Has.own 1 rfl) rfl) rfl ?_ | refine RS.lv (LV.load tab_ok rfl (Has.own 2 rfl) rfl) rfl ?_ | refine RS.lv (LV.load tab_ok rfl (Has.own 3 rfl) rfl) rfl ?_ | refine RS.lv (LV.load tab_ok rfl (Has.own 4 rfl) rfl) rfl ?_ | refine RS.lv (LV.load tab_ok rfl (Has.own 5 rfl) rfl) rfl ?_);
          (first | refine RS.pv (PV.lenS tab_ok rfl rfl) rfl ?_ | refine RS.pv (PV.lenT tab_ok rfl rfl) rfl ?_);
          (first | refine RS.pv (PV.lssT rfl rfl (by omega)) rfl ?_ | refine RS.pv (PV.lssF rfl rfl (by omega)) rfl ?_ | refine RS.ifLss rfl rfl rfl (fun h => ?_) (fun h => ?_));
          (all_goals refine RS.nil ?_))
      | (refine CS.region (id := 8) ?_;
          refine RS.pv (PV.all tab_ok rfl) rfl ?_;
          refine RS.pv (PV.add rfl rfl (by omega)) rfl ?_;
          refine RS.pv (PV.all tab_ok rfl) rfl ?_;
          refine RS.nil ?_)
      | (refine CS.region (id := 9) ?_;
          refine RS.pv (PV.all tab_ok rfl) rfl ?_;
          refine RS.pv (PV.all tab_ok rfl) rfl ?_;
          (first | refine RS.lv (LV.load tab_ok rfl (Has.own 0 rfl) rfl) rfl ?_ | refine RS.lv (LV.load tab_ok rfl (Has.own 1 rfl) rfl) rfl ?_ | refine RS.lv (LV.load tab_ok rfl (Has.own 2 rfl) rfl) rfl ?_ | refine RS.lv (LV.load tab_ok rfl (Has.own 3 rfl) rfl) rfl ?_ | refine RS.lv (LV.load tab_ok rfl (Has.own 4 rfl) rfl) rfl ?_ | refine RS.lv (LV.load tab_ok rfl (Has.own 5 rfl) rfl) rfl ?_);
          refine RS.pv (PV.all tab_ok rfl) rfl ?_;
          (first | refine RS.pv (PV.indexAddr tab_ok rfl rfl rfl (by omega)) rfl ?_ | refine RS.pv (PV.indexAddrA tab_ok rfl rfl rfl (by omega)) rfl ?_);
          (first | refine RS.lv (LV.load tab_ok rfl (Has.own 0 rfl) rfl) rfl ?_ | refine RS.lv (LV.load tab_ok rfl (Has.own 1 rfl) rfl) rfl ?_ | refine RS.lv (LV.load tab_ok rfl (Has.own 2 rfl) rfl) rfl ?_ | refine RS.lv (LV.load tab_ok rfl (Has.own 3 rfl) rfl) rfl ?_ | refine RS.lv (LV.load tab_ok rfl (Has.own 4 rfl) rfl) rfl ?_ | refine RS.lv (LV.load tab_ok rfl (Has.own 5 rfl) rfl) rfl ?_))
      | (refine CS.region (id := 10) ?_;
          refine RS.pv (PV.all tab_ok rfl) rfl ?_;
          refine RS.nil ?_)
      | (refine CS.region (id := 11) ?_;
          refine RS.pv (PV.all tab_ok rfl) rfl ?_;
          refine RS.pv (PV.all tab_ok rfl) rfl ?_;
          (first | refine RS.lv (LV.load tab_ok rfl (Has.own 0 rfl) rfl) rfl ?_ | refine RS.lv (LV.load tab_ok rfl (Has.own 1 rfl) rfl) rfl ?_ | refine RS.lv (LV.load tab_ok rfl (Has.own 2 rfl) rfl) rfl ?_ | refine RS.lv (LV.load tab_ok rfl (Has.own 3 rfl) rfl) rfl ?_ | refine RS.lv (LV.load tab_ok rfl (Has.own 4 rfl) rfl) rfl ?_ | refine RS.lv (LV.load tab_ok rfl (Has.own 5 rfl) rfl) rfl ?_);
          (first | refine RS.pv (PV.lenS tab_ok rfl rfl) rfl ?_ | refine RS.pv (PV.lenT tab_ok rfl rfl) rfl ?_);
          (first | refine RS.pv (PV.lssT rfl rfl (by omega)) rfl ?_ | refine RS.pv (PV.lssF rfl rfl (by omega)) rfl ?_ | refine RS.ifLss rfl rfl rfl (fun h => ?_) (fun h => ?_));
          (all_goals refine RS.nil ?_))
      | (refine CS.region (id := 12) ?_;
          refine RS.pv (PV.all tab_ok rfl) rfl ?_;
          refine RS.pv (PV.add rfl rfl (by omega)) rfl ?_;
          refine RS.pv (PV.all tab_ok rfl) rfl ?_;
          refine RS.nil ?_)
      | (refine CS.region (id := 13) ?_;
          refine RS.pv (PV.all tab_ok rfl) rfl ?_;
          refine RS.pv (PV.all tab_ok rfl) rfl ?_;
          (first | refine RS.lv (LV.load tab_ok rfl (Has.own 0 rfl) rfl) rfl ?_ | refine RS.lv (LV.load tab_ok rfl (Has.own 1 rfl) rfl) rfl ?_ | refine RS.lv (LV.load tab_ok rfl (Has.own 2 rfl) rfl) rfl ?_ | refine RS.lv (LV.load tab_ok rfl (Has.own 3 rfl) rfl) rfl ?_ | refine RS.lv (LV.load tab_ok rfl (Has.own 4 rfl) rfl) rfl ?_ | refine RS.lv (LV.load tab_ok rfl (Has.own 5 rfl) rfl) rfl ?_);
          refine RS.pv (PV.all tab_ok rfl) rfl ?_;
          (first | refine RS.pv (PV.indexAddr tab_ok rfl rfl rfl (by omega)) rfl ?_ | refine RS.pv (PV.indexAddrA tab_ok rfl rfl rfl (by omega)) rfl ?_);
          (first | refine RS.lv (LV.load tab_ok rfl (Has.own 0 rfl) rfl) rfl ?_ | refine RS.lv (LV.load tab_ok rfl (Has.own 1 rfl) rfl) rfl ?_ | refine RS.lv (LV.load tab_ok rfl (Has.own 2 rfl) rfl) rfl ?_ | refine RS.lv (LV.load tab_ok rfl (Has.own 3 rfl) rfl) rfl ?_ | refine RS.lv (LV.load tab_ok rfl (Has.own 4 rfl) rfl) rfl ?_ | refine RS.lv (LV.load tab_ok rfl (Has.own 5 rfl) rfl) rfl ?_))
      | (refine CS.region (id := 14) ?_;
          refine RS.pv (PV.all tab_ok rfl) rfl ?_;
          refine RS.nil ?_)
      | (refine CS.region (id := 15) ?_;
          refine RS.pv (PV.all tab_ok rfl) rfl ?_;
          refine RS.pv (PV.all tab_ok rfl) rfl ?_;
          (first | refine RS.lv (LV.load tab_ok rfl (Has.own 0 rfl) rfl) rfl ?_ | refine RS.lv (LV.load tab_ok rfl (Has.own 1 rfl) rfl) rfl ?_ | refine RS.lv (LV.load tab_ok rfl (Has.own 2 rfl) rfl) rfl ?_ | refine RS.lv (LV.load tab_ok rfl (Has.own 3 rfl) rfl) rfl ?_ | refine RS.lv (LV.load tab_ok rfl (Has.own 4 rfl) rfl) rfl ?_ | refine RS.lv (LV.load tab_ok rfl (Has.own 5 rfl) rfl) rfl ?_);
          refine RS.pv (PV.all tab_ok rfl) rfl ?_;
          (first | refine RS.pv (PV.indexAddr tab_ok rfl rfl rfl (by omega)) rfl ?_ | refine RS.pv (PV.indexAddrA tab_ok rfl rfl rfl (by omega)) rfl ?_);
          (first | refine RS.lv (LV.load tab_ok rfl (Has.own 0 rfl) rfl) rfl ?_ | refine RS.lv (LV.load tab_ok rfl (Has.own 1 rfl) rfl) rfl ?_ | refine RS.lv (LV.load tab_ok rfl (Has.own 2 rfl) rfl) rfl ?_ | refine RS.lv (LV.load tab_ok rfl (Has.own 3 rfl) rfl) rfl ?_ | refine RS.lv (LV.load tab_ok rfl (Has.own 4 rfl) rfl) rfl ?_ | refine RS.lv (LV.load tab_ok rfl (Has.own 5 rfl) rfl) rfl ?_))
      | (refine CS.region (id := 16) ?_;
          refine RS.pv (PV.all tab_ok rfl) rfl ?_;
          refine RS.nil ?_)
      | (refine CS.region (id := 17) ?_;
          refine RS.pv (PV.all tab_ok rfl) rfl ?_;
          refine RS.pv (PV.all tab_ok rfl) rfl ?_;
          (first | refine RS.lv (LV.load tab_ok rfl (Has.own 0 rfl) rfl) rfl ?_ | refine RS.lv (LV.load tab_ok rfl (Has.own 1 rfl) rfl) rfl ?_ | refine RS.lv (LV.load tab_ok rfl (Has.own 2 rfl) rfl) rfl ?_ | refine RS.lv (LV.load tab_ok rfl (Has.own 3 rfl) rfl) rfl ?_ | refine RS.lv (LV.load tab_ok rfl (Has.own 4 rfl) rfl) rfl ?_ | refine RS.lv (LV.load tab_ok rfl (Has.own 5 rfl) rfl) rfl ?_);
          (first | refine RS.pv (PV.lenS tab_ok rfl rfl) rfl ?_ | refine RS.pv (PV.lenT tab_ok rfl rfl) rfl ?_);
          (first | refine RS.pv (PV.lssT rfl rfl (by omega)) rfl ?_ | refine RS.pv (PV.lssF rfl rfl (by omega)) rfl ?_ | refine RS.ifLss rfl rfl rfl (fun h => ?_) (fun h => ?_));
          (all_goals refine RS.nil ?_))
      | (refine CS.region (id := 18) ?_;
          refine RS.pv (PV.all tab_ok rfl) rfl ?_;
          refine RS.pv (PV.add rfl rfl (by omega)) rfl ?_;
          refine RS.pv (PV.all tab_ok rfl) rfl ?_;
          refine RS.nil ?_)
      | (refine CS.region (id := 19) ?_;
          refine RS.pv (PV.all tab_ok rfl) rfl ?_;
          refine RS.pv (PV.all tab_ok rfl) rfl ?_;
          (first | refine RS.lv (LV.load tab_ok rfl (Has.own 0 rfl) rfl) rfl ?_ | refine RS.lv (LV.load tab_ok rfl (Has.own 1 rfl) rfl) rfl ?_ | refine RS.lv (LV.load tab_ok rfl (Has.own 2 rfl) rfl) rfl ?_ | refine RS.lv (LV.load tab_ok rfl (Has.own 3 rfl) rfl) rfl ?_ | refine RS.lv (LV.load tab_ok rfl (Has.own 4 rfl) rfl) rfl ?_ | refine RS.lv (LV.load tab_ok rfl (Has.own 5 rfl) rfl) rfl ?_);
          refine RS.pv (PV.all tab_ok rfl) rfl ?_;
          (first | refine RS.pv (PV.indexAddr tab_ok rfl rfl rfl (by omega)) rfl ?_ | refine RS.pv (PV.indexAddrA tab_ok rfl rfl rfl (by omega)) rfl ?_);
          (first | refine RS.lv (LV.load tab_ok rfl (Has.own 0 rfl) rfl) rfl ?_ | refine RS.lv (LV.load tab_ok rfl (Has.own 1 rfl) rfl) rfl ?_ | refine RS.lv (LV.load tab_ok rfl (Has.own 2 rfl) rfl) rfl ?_ | refine RS.lv (LV.load tab_ok rfl (Has.own 3 rfl) rfl) rfl ?_ | refine RS.lv (LV.load tab_ok rfl (Has.own 4 rfl) rfl) rfl ?_ | refine RS.lv (LV.load tab_ok rfl (Has.own 5 rfl) rfl) rfl ?_))
      | (refine CS.region (id := 20) ?_;
          refine RS.pv (PV.all tab_ok rfl) rfl ?_;
          refine RS.nil ?_)
      | (refine CS.region (id := 21) ?_;
          refine RS.pv (PV.all tab_ok rfl) rfl ?_;
          refine RS.pv (PV.all tab_ok rfl) rfl ?_;
          (first | refine RS.lv (LV.load tab_ok rfl (Has.own 0 rfl) rfl) rfl ?_ | refine RS.lv (LV.load tab_ok rfl (Has.own 1 rfl) rfl) rfl ?_ | refine RS.lv (LV.load tab_ok rfl (Has.own 2 rfl) rfl) rfl ?_ | refine RS.lv (LV.load tab_ok rfl (Has.own 3 rfl) rfl) rfl ?_ | refine RS.lv (LV.load tab_ok rfl (Has.own 4 rfl) rfl) rfl ?_ | refine RS.lv (LV.load tab_ok rfl (Has.own 5 rfl) rfl) rfl ?_);
          refine RS.pv (PV.all tab_ok rfl) rfl ?_;
          (first | refine RS.pv (PV.indexAddr tab_ok rfl rfl rfl (by omega)) rfl ?_ | refine RS.pv (PV.indexAddrA tab_ok rfl rfl rfl (by omega)) rfl ?_);
          (first | refine RS.lv (LV.load tab_ok rfl (Has.own 0 rfl) rfl) rfl ?_ | refine RS.lv (LV.load tab_ok rfl (Has.own 1 rfl) rfl) rfl ?_ | refine RS.lv (LV.load tab_ok rfl (Has.own 2 rfl) rfl) rfl ?_ | refine RS.lv (LV.load tab_ok rfl (Has.own 3 rfl) rfl) rfl ?_ | refine RS.lv (LV.load tab_ok rfl (Has.own 4 rfl) rfl) rfl ?_ | refine RS.lv (LV.load tab_ok rfl (Has.own 5 rfl) rfl) rfl ?_))
      | (refine CS.region (id := 22) ?_;
          refine RS.pv (PV.all tab_ok rfl) rfl ?_;
          refine RS.nil ?_)
      | (refine CS.region (id := 23) ?_;
          refine RS.pv (PV.all tab_ok rfl) rfl ?_;
          refine RS.pv (PV.all tab_ok rfl) rfl ?_;
          (first | refine RS.lv (LV.load tab_ok rfl (Has.own 0 rfl) rfl) rfl ?_ | refine RS.lv (LV.load tab_ok rfl (Has.own 1 rfl) rfl) rfl ?_ | refine RS.lv (LV.load tab_ok rfl (Has.own 2 rfl) rfl) rfl ?_ | refine RS.lv (LV.load tab_ok rfl (Has.own 3 rfl) rfl) rfl ?_ | refine RS.lv (LV.load tab_ok rfl (Has.own 4 rfl) rfl) rfl ?_ | refine RS.lv (LV.load tab_ok rfl (Has.own 5 rfl) rfl) rfl ?_);
          (first | refine RS.pv (PV.lenS tab_ok rfl rfl) rfl ?_ | refine RS.pv (PV.lenT tab_ok rfl rfl) rfl ?_);
          (first | refine RS.pv (PV.lssT rfl rfl (by omega)) rfl ?_ | refine RS.pv (PV.lssF rfl rfl (by omega)) rfl ?_ | refine RS.ifLss rfl rfl rfl (fun h => ?_) (fun h => ?_));
          (all_goals refine RS.nil ?_))
      | (refine CS.region (id := 24) ?_;
          refine RS.pv (PV.all tab_ok rfl) rfl ?_;
          refine RS.pv (PV.add rfl rfl (by omega)) rfl ?_;
          refine RS.pv (PV.all tab_ok rfl) rfl ?_;
          refine RS.nil ?_)
      | (refine CS.region (id := 25) ?_;
          refine RS.pv (PV.all tab_ok rfl) rfl ?_;
          refine RS.pv (PV.all tab_ok rfl) rfl ?_;
          (first | refine RS.lv (LV.load tab_ok rfl (Has.own 0 rfl) rfl) rfl ?_ | refine RS.lv (LV.load tab_ok rfl (Has.own 1 rfl) rfl) rfl ?_ | refine RS.lv (LV.load tab_ok rfl (Has.own 2 rfl) rfl) rfl ?_ | refine RS.lv (LV.load tab_ok rfl (Has.own 3 rfl) rfl) rfl ?_ | refine RS.lv (LV.load tab_ok rfl (Has.own 4 rfl) rfl) rfl ?_ | refine RS.lv (LV.load tab_ok rfl (Has.own 5 rfl) rfl) rfl ?_);
          refine RS.pv (PV.all tab_ok rfl) rfl ?_;
          (first | refine RS.pv (PV.indexAddr tab_ok rfl rfl rfl (by omega)) rfl ?_ | refine RS.pv (PV.indexAddrA tab_ok rfl rfl rfl (by omega)) rfl ?_);
          (first | refine RS.lv (LV.load tab_ok rfl (Has.own 0 rfl) rfl) rfl ?_ | refine RS.lv (LV.load tab_ok rfl (Has.own 1 rfl) rfl) rfl ?_ | refine RS.lv (LV.load tab_ok rfl (Has.own 2 rfl) rfl) rfl ?_ | refine RS.lv (LV.load tab_ok rfl (Has.own 3 rfl) rfl) rfl ?_ | refine RS.lv (LV.load tab_ok rfl (Has.own 4 rfl) rfl) rfl ?_ | refine RS.lv (LV.load tab_ok rfl (Has.own 5 rfl) rfl) rfl ?_))
      | (refine CS.region (id := 26) ?_;
          refine RS.pv (PV.all tab_ok rfl) rfl ?_;
          refine RS.nil ?_)
      | (refine CS.region (id := 27) ?_;
          (first | refine RS.lv (LV.load tab_ok rfl (Has.own 0 rfl) rfl) rfl ?_ | refine RS.lv (LV.load tab_ok rfl (Has.own 1 rfl) rfl) rfl ?_ | refine RS.lv (LV.load tab_ok rfl (Has.own 2 rfl) rfl) rfl ?_ | refine RS.lv (LV.load tab_ok rfl (Has.own 3 rfl) rfl) rfl ?_ | refine RS.lv (LV.load tab_ok rfl (Has.own 4 rfl) rfl) rfl ?_ | refine RS.lv (LV.load tab_ok rfl (Has.own 5 rfl) rfl) rfl ?_);
          (first | refine RS.lv (LV.load tab_ok rfl (Has.own 0 rfl) rfl) rfl ?_ | refine RS.lv (LV.load tab_ok rfl (Has.own 1 rfl) rfl) rfl ?_ | refine RS.lv (LV.load tab_ok rfl (Has.own 2 rfl) rfl) rfl ?_ | refine RS.lv (LV.load tab_ok rfl (Has.own 3 rfl) rfl) rfl ?_ | refine RS.lv (LV.load tab_ok rfl (Has.own 4 rfl) rfl) rfl ?_ | refine RS.lv (LV.load tab_ok rfl (Has.own 5 rfl) rfl) rfl ?_))
      | (refine CS.region (id := 28) ?_;
          refine RS.pv (PV.all tab_ok rfl) rfl ?_;
          refine RS.lv (LV.lenM tab_ok rfl ⟨_, rfl, rfl⟩ (Has.own 1 rfl)) rfl ?_;
          (all_goals refine RS.pv (PV.all tab_ok rfl) rfl ?_);
          (all_goals (first | refine RS.lv (LV.load tab_ok rfl (Has.own 0 rfl) rfl) rfl ?_ | refine RS.lv (LV.load tab_ok rfl (Has.own 1 rfl) rfl) rfl ?_ | refine RS.lv (LV.load tab_ok rfl (Has.own 2 rfl) rfl) rfl ?_ | refine RS.lv (LV.load tab_ok rfl (Has.own 3 rfl) rfl) rfl ?_ | refine RS.lv (LV.load tab_ok rfl (Has.own 4 rfl) rfl) rfl ?_ | refine RS.lv (LV.load tab_ok rfl (Has.own 5 rfl) rfl) rfl ?_));
          (all_goals (first | refine RS.pv (PV.lenS tab_ok rfl rfl) rfl ?_ | refine RS.pv (PV.lenT tab_ok rfl rfl) rfl ?_));
          (all_goals (first | refine RS.pv (PV.all tab_ok rfl) rfl ?_ | refine RS.pv (PV.eqlT rfl rfl (by omega)) rfl ?_ | refine RS.pv (PV.eqlF rfl rfl (by omega)) rfl ?_ | refine RS.ifEql rfl rfl rfl (fun h => ?_) (fun h => ?_) | refine RS.ifSeql rfl rfl rfl (fun h => ?_) (fun h => ?_)));
          (all_goals refine RS.pv (PV.all tab_ok rfl) rfl ?_);
          (all_goals (first | refine RS.pv (PV.all tab_ok rfl) rfl ?_ | refine RS.skip rfl ?_));
          (all_goals (first | refine RS.lv (LV.load tab_ok rfl (Has.own 0 rfl) rfl) rfl ?_ | refine RS.lv (LV.load tab_ok rfl (Has.own 1 rfl) rfl) rfl ?_ | refine RS.lv (LV.load tab_ok rfl (Has.own 2 rfl) rfl) rfl ?_ | refine RS.lv (LV.load tab_ok rfl (Has.own 3 rfl) rfl) rfl ?_ | refine RS.lv (LV.load tab_ok rfl (Has.own 4 rfl) rfl) rfl ?_ | refine RS.lv (LV.load tab_ok rfl (Has.own 5 rfl) rfl) rfl ?_ | refine RS.skip rfl ?_));
          (all_goals (first | refine RS.pv (PV.all tab_ok rfl) rfl ?_ | refine RS.skip rfl ?_));
          (all_goals (first | refine RS.pv (PV.all tab_ok rfl) rfl ?_ | refine RS.skip rfl ?_));
          (all_goals (first | refine RS.pv (PV.all tab_ok rfl) rfl ?_ | refine RS.skip rfl ?_));
          (all_goals (first | refine RS.lv (LV.load tab_ok rfl (Has.own 0 rfl) rfl) rfl ?_ | refine RS.lv (LV.load tab_ok rfl (Has.own 1 rfl) rfl) rfl ?_ | refine RS.lv (LV.load tab_ok rfl (Has.own 2 rfl) rfl) rfl ?_ | refine RS.lv (LV.load tab_ok rfl (Has.own 3 rfl) rfl) rfl ?_ | refine RS.lv (LV.load tab_ok rfl (Has.own 4 rfl) rfl) rfl ?_ | refine RS.lv (LV.load tab_ok rfl (Has.own 5 rfl) rfl) rfl ?_ | refine RS.skip rfl ?_));
          (all_goals (first | refine RS.pv (PV.all tab_ok rfl) rfl ?_ | refine RS.skip rfl ?_));
          (all_goals refine RS.pv (PV.all tab_ok rfl) rfl ?_);
          (all_goals refine RS.pv (PV.all tab_ok rfl) rfl ?_);
          (all_goals (first | refine RS.pv (PV.all tab_ok rfl) rfl ?_ | refine RS.skip rfl ?_));
          (all_goals (first | refine RS.lv (LV.load tab_ok rfl (Has.own 0 rfl) rfl) rfl ?_ | refine RS.lv (LV.load tab_ok rfl (Has.own 1 rfl) rfl) rfl ?_ | refine RS.lv (LV.load tab_ok rfl (Has.own 2 rfl) rfl) rfl ?_ | refine RS.lv (LV.load tab_ok rfl (Has.own 3 rfl) rfl) rfl ?_ | refine RS.lv (LV.load tab_ok rfl (Has.own 4 rfl) rfl) rfl ?_ | refine RS.lv (LV.load tab_ok rfl (Has.own 5 rfl) rfl) rfl ?_ | refine RS.skip rfl ?_));
          (all_goals (first | refine RS.pv (PV.all tab_ok rfl) rfl ?_ | refine RS.skip rfl ?_));
          (all_goals refine RS.pv (PV.all tab_ok rfl) rfl ?_);
          (all_goals refine RS.pv (PV.all tab_ok rfl) rfl ?_);
          (all_goals (first | refine RS.pv (PV.all tab_ok rfl) rfl ?_ | refine RS.skip rfl ?_));
          (all_goals (first | refine RS.lv (LV.load tab_ok rfl (Has.own 0 rfl) rfl) rfl ?_ | refine RS.lv (LV.load tab_ok rfl (Has.own 1 rfl) rfl) rfl ?_ | refine RS.lv (LV.load tab_ok rfl (Has.own 2 rfl) rfl) rfl ?_ | refine RS.lv (LV.load tab_ok rfl (Has.own 3 rfl) rfl) rfl ?_ | refine RS.lv (LV.load tab_ok rfl (Has.own 4 rfl) rfl) rfl ?_ | refine RS.lv (LV.load tab_ok rfl (Has.own 5 rfl) rfl) rfl ?_ | refine RS.skip rfl ?_));
          (all_goals (first | refine RS.pv (PV.all tab_ok rfl) rfl ?_ | refine RS.skip rfl ?_));
          (all_goals refine RS.pv (PV.all tab_ok rfl) rfl ?_);
          (all_goals refine RS.pv (PV.all tab_ok rfl) rfl ?_);
          (all_goals (first | refine RS.pv (PV.all tab_ok rfl) rfl ?_ | refine RS.skip rfl ?_));
          (all_goals (first | refine RS.lv (LV.load tab_ok rfl (Has.own 0 rfl) rfl) rfl ?_ | refine RS.lv (LV.load tab_ok rfl (Has.own 1 rfl) rfl) rfl ?_ | refine RS.lv (LV.load tab_ok rfl (Has.own 2 rfl) rfl) rfl ?_ | refine RS.lv (LV.load tab_ok rfl (Has.own 3 rfl) rfl) rfl ?_ | refine RS.lv (LV.load tab_ok rfl (Has.own 4 rfl) rfl) rfl ?_ | refine RS.lv (LV.load tab_ok rfl (Has.own 5 rfl) rfl) rfl ?_ | refine RS.skip rfl ?_));
          (all_goals (first | refine RS.pv (PV.lenS tab_ok rfl rfl) rfl ?_ | refine RS.pv (PV.lenT tab_ok rfl rfl) rfl ?_ | refine RS.skip rfl ?_));
          (all_goals (first | refine RS.pv (PV.all tab_ok rfl) rfl ?_ | refine RS.skip rfl ?_));
          (all_goals (first | refine RS.lv (LV.load tab_ok rfl (Has.own 0 rfl) rfl) rfl ?_ | refine RS.lv (LV.load tab_ok rfl (Has.own 1 rfl) rfl) rfl ?_ | refine RS.lv (LV.load tab_ok rfl (Has.own 2 rfl) rfl) rfl ?_ | refine RS.lv (LV.load tab_ok rfl (Has.own 3 rfl) rfl) rfl ?_ | refine RS.lv (LV.load tab_ok rfl (Has.own 4 rfl) rfl) rfl ?_ | refine RS.lv (LV.load tab_ok rfl (Has.own 5 rfl) rfl) rfl ?_ | refine RS.skip rfl ?_));
          (all_goals (first | refine RS.pv (PV.lenS tab_ok rfl rfl) rfl ?_ | refine RS.pv (PV.lenT tab_ok rfl rfl) rfl ?_ | refine RS.skip rfl ?_));
          (all_goals (first | refine RS.pv (PV.add rfl rfl (by omega)) rfl ?_ | refine RS.skip rfl ?_));
          (all_goals (first | refine RS.pv (PV.all tab_ok rfl) rfl ?_ | refine RS.pv (PV.eqlT rfl rfl (by omega)) rfl ?_ | refine RS.pv (PV.eqlF rfl rfl (by omega)) rfl ?_ | refine RS.ifEql rfl rfl rfl (fun h => ?_) (fun h => ?_) | refine RS.ifSeql rfl rfl rfl (fun h => ?_) (fun h => ?_) | refine RS.skip rfl ?_));
          (all_goals refine RS.pv (PV.all tab_ok rfl) rfl ?_);
          (all_goals refine RS.pv (PV.all tab_ok rfl) rfl ?_);
          (all_goals (refine RS.call (known_s _ _) rfl (by kernel_rfl) rfl ?_; rintro v i8 L8 hi8 ⟨rfl, rfl⟩));
          (all_goals refine RS.pv (PV.all tab_ok rfl) rfl ?_);
          (all_goals refine RS.pv (PV.all tab_ok rfl) rfl ?_);
          (all_goals refine RS.nil ?_))
      | refine CS.ret ?_
      | refine thenQ.ret ?_
      | refine blkQ.ret ?_
      | refine retQ.ret ?_
      | refine CS.block ?_
      | refine CS.exit ?_
      | refine thenQ.exit ?_
      | refine blkQ.normal ?_
      | refine blkQ.here ?_
      | refine blkQ.past rfl ?_
      | refine retQ.normal ?_)
    rfl
end Go.Proofs.Ytmcajldlcomegaa
