/- WorkerCompares: the walk. -/
import Derived.Test.YtmcajldlcomegaaW41
namespace Go.Proofs.Ytmcajldlcomegaa
open Go Go.Eng

/-- lists that memory bears -/
structure Rec.sane (r : Rec) : Prop where
  props : r.props.length ≤ 10000000000000
  tags : r.tags.length ≤ 10000000000000
  links : r.links.length ≤ 10000000000000
  run : r.run.length ≤ 10000000000000
  load : r.load.length ≤ 10000000000000
theorem Rec.sane.small {r : Rec} (h : r.sane) : r.small := by
  obtain ⟨h1, h2, h3, h4, h5⟩ := h
  exact ⟨by omega, by omega, by omega, by omega, by omega⟩
theorem effOf_len {r s : Rec} {had : Bool} {e : Eff} (h : EffOf r had s e) : e.gone.length ≤ r.links.length ∧ e.come.length ≤ s.links.length := by
  unfold EffOf at h
  split at h
  · obtain ⟨_, _, h3, h4⟩ := h
    rw [h3, h4]
    exact ⟨wout_len _ _, wout_len _ _⟩
  · rw [h]
    exact ⟨Nat.zero_le _, wout_len _ _⟩
/-- behind the drawn region: of what has been done, of the slots, of memory -/
def H10 (f0 : Fr) (tp bx : Nat) (lv : Value) (at0 : Int) (X : SH) (path : ByteArray) (ox : Obj) (R : SH) (s : Nat → Bool) (g : Fr) (i : Imm) (L : SH) : Prop :=
  ∃ (b : Nat) (at' : Int), (∀ t, t ∉ [47, 48, 49, 50, 51, 52, 53, 11] → g t = f0 t) ∧ (s 0 = true → g 47 = .pointer (some ⟨tp, 0, none⟩)) ∧ (s 1 = true → g 48 = .pointer (some ⟨bx, 0, none⟩)) ∧ (s 2 = true → g 49 = .string path) ∧ (s 3 = true → g 50 = .pointer (some ⟨tp, 0, none⟩)) ∧ (s 4 = true → ∃ y, g 51 = .int .i64 (foldI y 3)) ∧ (s 5 = true → ∃ k, g 52 = .int .i64 k) ∧
    (s 6 = true → ∃ rc r k, g 53 = .agg (List.toArray rc) ∧ RecV i rc r ∧ Made r path k) ∧ (s 7 = true → g 11 = .pointer (some ⟨b, 0, none⟩)) ∧ IntSl i lv ∧ at0 ≤ at' ∧ at' ≤ at0 + (bif s 4 then 1 else 0) + (bif s 6 then 40 else 0) ∧ X = X ∧
    L.Perm ((bx, ox) :: (tp, tapeO lv (at')) :: (xS (s 7) (b, .cells (List.toArray [.string ByteArray.empty, .int .i64 0, .slice none 0 0, .slice none 0 0, .slice none 0 0, .slice none 0 0, .slice none 0 0, .string ByteArray.empty, .int .i64 0, .string ByteArray.empty, .string ByteArray.empty, .int .i64 0]) 36 (0, 0)) ++ R))
theorem Compares_s (lv : Value) (had : Bool) (ac bc : List Value) (a b0 : Rec) (i : Imm) (R : SH) (hl : IntSl i lv) (ha : RecV i ac a) (hb : RecV i bc b0) (hsa : a.sane) (hsb : b0.sane) :
    FnS Try.prog 10 [lv, .bool had, .agg ac.toArray, .agg bc.toArray] i R fun v _ _ => v = .bool true := by
  obtain ⟨ao, ln, cap, hlv, -⟩ := id hl
  subst hlv
  obtain ⟨pa2, pc2, pa3, pc3, pa4, pc4, pa5, pc5, pa6, pc6, rfl⟩ := ha.lit
  obtain ⟨pb2, pd2, pb3, pd3, pb4, pd4, pb5, pd5, pb6, pd6, rfl⟩ := hb.lit
  obtain ⟨t1, t2, t3, -, -⟩ := id hsa
  obtain ⟨u1, u2, u3, -, -⟩ := id hsb
  refine FnS.intro1 Try.func10 rfl Try.ntmps10 (by simp) Try.results10 ?_
  repeat' (first
    | refine CS.seq ?_
    | refine thenQ.normal ?_
    | refine CS.cond_true rfl ?_
    | refine CS.cond_false rfl ?_
    | refine CS.skip ?_
    | (refine CS.region (id := 0) ?_;
        refine RS.box rfl rfl (fun ba => ?_);
        (all_goals refine RS.box rfl rfl (fun bb => ?_));
        (all_goals refine RS.pv (PV.all tab_ok rfl) rfl ?_);
        (all_goals refine RS.nil ?_))
    | (refine CS.region (id := 1) ?_;
        refine RS.pv (PV.all tab_ok rfl) rfl ?_;
        (first | refine RS.lv (LV.load tab_ok rfl (Has.own 0 rfl) rfl) rfl ?_ | refine RS.lv (LV.load tab_ok rfl (Has.own 1 rfl) rfl) rfl ?_ | refine RS.lv (LV.load tab_ok rfl (Has.own 2 rfl) rfl) rfl ?_);
        (first | refine RS.pv (PV.lenS tab_ok rfl rfl) rfl ?_ | refine RS.pv (PV.lenT tab_ok rfl rfl) rfl ?_);
        refine RS.pv (PV.all tab_ok rfl) rfl ?_;
        (first | refine RS.lv (LV.load tab_ok rfl (Has.own 0 rfl) rfl) rfl ?_ | refine RS.lv (LV.load tab_ok rfl (Has.own 1 rfl) rfl) rfl ?_ | refine RS.lv (LV.load tab_ok rfl (Has.own 2 rfl) rfl) rfl ?_);
        (first | refine RS.pv (PV.lenS tab_ok rfl rfl) rfl ?_ | refine RS.pv (PV.lenT tab_ok rfl rfl) rfl ?_);
        refine RS.pv (PV.add rfl rfl (by omega)) rfl ?_;
        refine RS.pv (PV.all tab_ok rfl) rfl ?_;
        (first | refine RS.lv (LV.load tab_ok rfl (Has.own 0 rfl) rfl) rfl ?_ | refine RS.lv (LV.load tab_ok rfl (Has.own 1 rfl) rfl) rfl ?_ | refine RS.lv (LV.load tab_ok rfl (Has.own 2 rfl) rfl) rfl ?_);
        (first | refine RS.pv (PV.lenS tab_ok rfl rfl) rfl ?_ | refine RS.pv (PV.lenT tab_ok rfl rfl) rfl ?_);
        refine RS.pv (PV.add rfl rfl (by omega)) rfl ?_;
        refine RS.pv (PV.all tab_ok rfl) rfl ?_;
        (first | refine RS.lv (LV.load tab_ok rfl (Has.own 0 rfl) rfl) rfl ?_ | refine RS.lv (LV.load tab_ok rfl (Has.own 1 rfl) rfl) rfl ?_ | refine RS.lv (LV.load tab_ok rfl (Has.own 2 rfl) rfl) rfl ?_);
        (first | refine RS.pv (PV.lenS tab_ok rfl rfl) rfl ?_ | refine RS.pv (PV.lenT tab_ok rfl rfl) rfl ?_);
        refine RS.pv (PV.add rfl rfl (by omega)) rfl ?_;
        refine RS.pv (PV.all tab_ok rfl) rfl ?_;
        (first | refine RS.lv (LV.load tab_ok rfl (Has.own 0 rfl) rfl) rfl ?_ | refine RS.lv (LV.load tab_ok rfl (Has.own 1 rfl) rfl) rfl ?_ | refine RS.lv (LV.load tab_ok rfl (Has.own 2 rfl) rfl) rfl ?_);
        (first | refine RS.pv (PV.lenS tab_ok rfl rfl) rfl ?_ | refine RS.pv (PV.lenT tab_ok rfl rfl) rfl ?_);
        refine RS.pv (PV.add rfl rfl (by omega)) rfl ?_;
        refine RS.pv (PV.all tab_ok rfl) rfl ?_;
        (first | refine RS.lv (LV.load tab_ok rfl (Has.own 0 rfl) rfl) rfl ?_ | refine RS.lv (LV.load tab_ok rfl (Has.own 1 rfl) rfl) rfl ?_ | refine RS.lv (LV.load tab_ok rfl (Has.own 2 rfl) rfl) rfl ?_);
        (first | refine RS.pv (PV.lenS tab_ok rfl rfl) rfl ?_ | refine RS.pv (PV.lenT tab_ok rfl rfl) rfl ?_);
        refine RS.pv (PV.add rfl rfl (by omega)) rfl ?_;
        (first | refine RS.pv (PV.gtrT rfl rfl (by omega)) rfl ?_ | refine RS.pv (PV.gtrF rfl rfl (by omega)) rfl ?_ | refine RS.ifGtr rfl rfl rfl (fun h => ?_) (fun h => ?_));
        (all_goals refine RS.nil ?_))
    | (refine CS.region (id := 2) ?_;
        (refine RS.call (known_s _ _) rfl (by kernel_rfl) rfl ?_; rintro v i8 L8 hi8 ⟨rfl, rfl⟩);
        (all_goals refine RS.pv (PV.all tab_ok rfl) rfl ?_);
        (all_goals refine RS.nil ?_))
    | refine CS.ret ?_
    | refine thenQ.ret ?_
    | refine blkQ.ret ?_
    | refine retQ.ret ?_
    | refine CS.block ?_
    | refine CS.exit ?_
    | refine thenQ.exit ?_
    | refine blkQ.normal ?_
    | refine blkQ.here ?_
    | refine blkQ.past rfl ?_
    | refine retQ.normal ?_)
  · rfl
  repeat' (first
    | refine CS.cut (x := .region 5 _ _) [1, 6, 7, 9, 10, 11] (fun vs i' L' => ∃ (b : Nat) (at' : Int) (rc : List Value) (y : Rec) (k : Int), RecV i' rc y ∧ Made y x.path k ∧ IntSl i' (.slice ao ln cap) ∧ at3 ≤ at' ∧ at' ≤ 1000 ∧ vs = [.bool had, .pointer (some ⟨ba, 0, none⟩), .pointer (some ⟨bb, 0, none⟩), .pointer (some ⟨tp, 0, none⟩), .pointer (some ⟨bx, 0, none⟩), .pointer (some ⟨b, 0, none⟩)] ∧ L' = (b, .cells (List.toArray rc) 36 (0, 0)) :: (bx, .cells (List.toArray [.string x.path, .int .i64 x.index, .slice a2 x.props.length c2, .slice a3 x.tags.length c3, .slice a4 x.links.length c4, .slice a5 x.run.length c5, .slice a6 x.load.length c6, .string x.name, .int .i64 x.priority, .string x.owner, .string x.group, .int .i64 x.mode]) 36 (0, 0)) :: (tp, tapeO (.slice ao ln cap) (at')) :: ((bb, .cells (List.toArray [.string b0.path, .int .i64 b0.index, .slice pb2 b0.props.length pd2, .slice pb3 b0.tags.length pd3, .slice pb4 b0.links.length pd4, .slice pb5 b0.run.length pd5, .slice pb6 b0.load.length pd6, .string b0.name, .int .i64 b0.priority, .string b0.owner, .string b0.group, .int .i64 b0.mode]) 36 (0, 0)) :: (ba, .cells (List.toArray [.string a.path, .int .i64 a.index, .slice pa2 a.props.length pc2, .slice pa3 a.tags.length pc3, .slice pa4 a.links.length pc4, .slice pa5 a.run.length pc5, .slice pa6 a.load.length pc6, .string a.name, .int .i64 a.priority, .string a.owner, .string a.group, .int .i64 a.mode]) 36 (0, 0)) :: R)) ?_ ?_
    | refine CS.seq ?_
    | refine thenQ.normal ?_
    | refine CS.cond_true rfl ?_
    | refine CS.cond_false rfl ?_
    | refine CS.skip ?_
    | (refine CS.region (id := 0) ?_;
        refine RS.box rfl rfl (fun b => ?_);
        refine RS.box rfl rfl (fun b => ?_);
        refine RS.pv (PV.all tab_ok rfl) rfl ?_;
        refine RS.nil ?_)
    | (refine CS.region (id := 1) ?_;
        refine RS.pv (PV.all tab_ok rfl) rfl ?_;
        (first | refine RS.lv (LV.load tab_ok rfl (Has.own 0 rfl) rfl) rfl ?_ | refine RS.lv (LV.load tab_ok rfl (Has.own 1 rfl) rfl) rfl ?_ | refine RS.lv (LV.load tab_ok rfl (Has.own 2 rfl) rfl) rfl ?_);
        (first | refine RS.pv (PV.lenS tab_ok rfl rfl) rfl ?_ | refine RS.pv (PV.lenT tab_ok rfl rfl) rfl ?_);
        refine RS.pv (PV.all tab_ok rfl) rfl ?_;
        (first | refine RS.lv (LV.load tab_ok rfl (Has.own 0 rfl) rfl) rfl ?_ | refine RS.lv (LV.load tab_ok rfl (Has.own 1 rfl) rfl) rfl ?_ | refine RS.lv (LV.load tab_ok rfl (Has.own 2 rfl) rfl) rfl ?_);
        (first | refine RS.pv (PV.lenS tab_ok rfl rfl) rfl ?_ | refine RS.pv (PV.lenT tab_ok rfl rfl) rfl ?_);
        refine RS.pv (PV.add rfl rfl (by omega)) rfl ?_;
        refine RS.pv (PV.all tab_ok rfl) rfl ?_;
        (first | refine RS.lv (LV.load tab_ok rfl (Has.own 0 rfl) rfl) rfl ?_ | refine RS.lv (LV.load tab_ok rfl (Has.own 1 rfl) rfl) rfl ?_ | refine RS.lv (LV.load tab_ok rfl (Has.own 2 rfl) rfl) rfl ?_);
        (first | refine RS.pv (PV.lenS tab_ok rfl rfl) rfl ?_ | refine RS.pv (PV.lenT tab_ok rfl rfl) rfl ?_);
        refine RS.pv (PV.add rfl rfl (by omega)) rfl ?_;
        refine RS.pv (PV.all tab_ok rfl) rfl ?_;
        (first | refine RS.lv (LV.load tab_ok rfl (Has.own 0 rfl) rfl) rfl ?_ | refine RS.lv (LV.load tab_ok rfl (Has.own 1 rfl) rfl) rfl ?_ | refine RS.lv (LV.load tab_ok rfl (Has.own 2 rfl) rfl) rfl ?_);
        (first | refine RS.pv (PV.lenS tab_ok rfl rfl) rfl ?_ | refine RS.pv (PV.lenT tab_ok rfl rfl) rfl ?_);
        refine RS.pv (PV.add rfl rfl (by omega)) rfl ?_;
        refine RS.pv (PV.all tab_ok rfl) rfl ?_;
        (first | refine RS.lv (LV.load tab_ok rfl (Has.own 0 rfl) rfl) rfl ?_ | refine RS.lv (LV.load tab_ok rfl (Has.own 1 rfl) rfl) rfl ?_ | refine RS.lv (LV.load tab_ok rfl (Has.own 2 rfl) rfl) rfl ?_);
        (first | refine RS.pv (PV.lenS tab_ok rfl rfl) rfl ?_ | refine RS.pv (PV.lenT tab_ok rfl rfl) rfl ?_);
        refine RS.pv (PV.add rfl rfl (by omega)) rfl ?_;
        refine RS.pv (PV.all tab_ok rfl) rfl ?_;
        (first | refine RS.lv (LV.load tab_ok rfl (Has.own 0 rfl) rfl) rfl ?_ | refine RS.lv (LV.load tab_ok rfl (Has.own 1 rfl) rfl) rfl ?_ | refine RS.lv (LV.load tab_ok rfl (Has.own 2 rfl) rfl) rfl ?_);
        (first | refine RS.pv (PV.lenS tab_ok rfl rfl) rfl ?_ | refine RS.pv (PV.lenT tab_ok rfl rfl) rfl ?_);
        refine RS.pv (PV.add rfl rfl (by omega)) rfl ?_;
        (first | refine RS.pv (PV.gtrT rfl rfl (by omega)) rfl ?_ | refine RS.pv (PV.gtrF rfl rfl (by omega)) rfl ?_ | refine RS.ifGtr rfl rfl rfl (fun h => ?_) (fun h => ?_));
        (all_goals refine RS.nil ?_))
    | (refine CS.region (id := 2) ?_)
    | (refine CS.region (id := 3) ?_;
        refine RS.pv (PV.all tab_ok rfl) rfl ?_;
        refine RS.pv (PV.all tab_ok rfl) rfl ?_;
        refine RS.box rfl rfl (fun tp => ?_);
        (all_goals refine RS.pv (PV.all tab_ok rfl) rfl ?_);
        (all_goals refine RS.nil ?_))
    | (refine CS.region (id := 4) ?_;
        refine RS.pv (PV.all tab_ok rfl) rfl ?_;
        refine RS.pv (PV.all tab_ok rfl) rfl ?_;
        (refine RS.call (Path_s tp 0 (.slice ao ln cap) 0 _ _ hl (by omega) rfl) rfl (by kernel_rfl) rfl ?_; rintro v i5 L5 hi5 ⟨ps, at2, rfl, ha2, ha3, rfl⟩; replace hl := hl.le hi5);
        (all_goals refine RS.pv (PV.all tab_ok rfl) rfl ?_);
        (all_goals (refine RS.call (Next_s tp 0 (.slice ao ln cap) at2 3 _ _ (by omega) hl (by omega) rfl) rfl (by kernel_rfl) rfl ?_; rintro v i7 L7 hi7 ⟨⟨x1, rfl⟩, rfl, rfl⟩; have hx1 := foldI_bd x1 (n := 3) (by omega)));
        (all_goals refine RS.pv (PV.add rfl rfl (by omega)) rfl ?_);
        (all_goals (refine RS.call (Record_s tp 0 (.slice ao ln cap) (at2 + 1) _ _ _ _ hl (by omega) rfl) rfl (by kernel_rfl) rfl ?_; rintro v i6 L6 hi6 ⟨rv, x, at3, rfl, hx, hmx, ha4, ha5, rfl⟩; replace hl := hl.le hi6; obtain ⟨a2, c2, a3, c3, a4, c4, a5, c5, a6, c6, rfl⟩ := hx.lit));
        (all_goals refine RS.alloc tab_ok rfl rfl (fun bx => ?_));
        (all_goals (first | refine RS.store (k := 0) tab_ok rfl rfl rfl rfl rfl rfl rfl rfl ?_ | refine RS.store (k := 1) tab_ok rfl rfl rfl rfl rfl rfl rfl rfl ?_ | refine RS.store (k := 2) tab_ok rfl rfl rfl rfl rfl rfl rfl rfl ?_));
        (all_goals refine RS.nil ?_))
    | refine CS.ret ?_
    | refine thenQ.ret ?_
    | refine blkQ.ret ?_
    | refine retQ.ret ?_
    | refine CS.block ?_
    | refine CS.exit ?_
    | refine thenQ.exit ?_
    | refine blkQ.normal ?_
    | refine blkQ.here ?_
    | refine blkQ.past rfl ?_
    | refine retQ.normal ?_)
  · refine CS.named fun f0 hf0 => ?_
    have f3 : f0 9 = .pointer (some ⟨tp, 0, none⟩) := by rw [hf0]; rfl
    have f4 : f0 10 = .pointer (some ⟨bx, 0, none⟩) := by rw [hf0]; rfl
    have f1 : f0 1 = .bool had := by rw [hf0]; rfl
    have f6 : f0 6 = .pointer (some ⟨ba, 0, none⟩) := by rw [hf0]; rfl
    have f7 : f0 7 = .pointer (some ⟨bb, 0, none⟩) := by rw [hf0]; rfl
    clear hf0
    refine CS.drawH mix [0, 1, 2, 3, 4, 5, 6, 7] [8] (by kernel_rfl) rfl (H10 f0 tp bx (.slice ao ln cap) at3 [] x.path (.cells (List.toArray [.string x.path, .int .i64 x.index, .slice a2 x.props.length c2, .slice a3 x.tags.length c3, .slice a4 x.links.length c4, .slice a5 x.run.length c5, .slice a6 x.load.length c6, .string x.name, .int .i64 x.priority, .string x.owner, .string x.group, .int .i64 x.mode]) 36 (0, 0)) ((bb, .cells (List.toArray [.string b0.path, .int .i64 b0.index, .slice pb2 b0.props.length pd2, .slice pb3 b0.tags.length pd3, .slice pb4 b0.links.length pd4, .slice pb5 b0.run.length pd5, .slice pb6 b0.load.length pd6, .string b0.name, .int .i64 b0.priority, .string b0.owner, .string b0.group, .int .i64 b0.mode]) 36 (0, 0)) :: (ba, .cells (List.toArray [.string a.path, .int .i64 a.index, .slice pa2 a.props.length pc2, .slice pa3 a.tags.length pc3, .slice pa4 a.links.length pc4, .slice pa5 a.run.length pc5, .slice pa6 a.load.length pc6, .string a.name, .int .i64 a.priority, .string a.owner, .string a.group, .int .i64 a.mode]) 36 (0, 0)) :: R)) ⟨0, at3, fun _ _ => rfl, nofun, nofun, nofun, nofun, nofun, nofun, nofun, nofun, hl, by omega, by show at3 ≤ at3 + 0 + 0; omega, rfl, List.Perm.refl _⟩ ?_ ?_
    · rintro j hj o ho s hs hp g i' L' hi ⟨b, at', hfr, q0, q1, q2, q3, q4, q5, q6, q7, hl, hb1, hb2, -, hL⟩
      have g3 : g 9 = .pointer (some ⟨tp, 0, none⟩) := (hfr 9 (by decide)).trans f3
      have g4 : g 10 = .pointer (some ⟨bx, 0, none⟩) := (hfr 10 (by decide)).trans f4
      have hmem : (bx, Obj.cells (List.toArray [.string x.path, .int .i64 x.index, .slice a2 x.props.length c2, .slice a3 x.tags.length c3, .slice a4 x.links.length c4, .slice a5 x.run.length c5, .slice a6 x.load.length c6, .string x.name, .int .i64 x.priority, .string x.owner, .string x.group, .int .i64 x.mode]) 36 (0, 0)) ∈ L' := hL.mem_iff.2 (List.mem_cons_self ..)
      have up6 : ∀ i'', Imm.le i' i'' → (s 6 = true → ∃ rc r k, g 53 = .agg (List.toArray rc) ∧ RecV i'' rc r ∧ Made r x.path k) := fun i'' h' h6 => by
        obtain ⟨rc, r, k, e1, e2, e3⟩ := q6 h6
        exact ⟨rc, r, k, e1, e2.le h', e3⟩
      simp only [List.mem_cons, List.not_mem_nil, or_false] at hj
      rcases hj with rfl | rfl | rfl | rfl | rfl | rfl | rfl | rfl
      all_goals cases ho
      · refine .inl ⟨rfl, OpS.mono (OpS.pv (PV.move (v := .pointer (some ⟨tp, 0, none⟩)) (by show sv (g 9) = _; rw [g3]; rfl))) fun v i'' _ hi' ⟨hL', hv⟩ => ?_⟩
        subst hL'; subst hv
        exact ⟨b, at', (fun t ht => (upd_ne g _ (fun e => ht (by rw [e]; decide))).trans (hfr t ht)), fun _ => upd_same g _ _, q1, q2, q3, q4, q5, up6 _ hi', q7, hl.le hi', hb1, hb2, rfl, hL⟩
      · refine .inl ⟨rfl, OpS.mono (OpS.pv (PV.fieldAddr tab_ok (b := bx) (o := 0) (by show g 10 = _; rw [g4]) rfl)) fun v i'' _ hi' ⟨hL', hv⟩ => ?_⟩
        subst hL'; subst hv
        exact ⟨b, at', (fun t ht => (upd_ne g _ (fun e => ht (by rw [e]; decide))).trans (hfr t ht)), q0, fun _ => upd_same g _ _, q2, q3, q4, q5, up6 _ hi', q7, hl.le hi', hb1, hb2, rfl, hL⟩
      · have h1 := q1 (hp ⟨1, .data⟩ (by simp) rfl)
        refine .inl ⟨rfl, OpS.mono (OpS.lv (LV.load1 tab_ok (b := bx) (off := 0) (v := .string x.path) (by show g 48 = _; rw [h1]) (Has.mem hmem) rfl rfl)) fun v i'' _ hi' ⟨hL', hv⟩ => ?_⟩
        subst hL'; subst hv
        exact ⟨b, at', (fun t ht => (upd_ne g _ (fun e => ht (by rw [e]; decide))).trans (hfr t ht)), q0, q1, fun _ => upd_same g _ _, q3, q4, q5, up6 _ hi', q7, hl.le hi', hb1, hb2, rfl, hL⟩
      · refine .inl ⟨rfl, OpS.mono (OpS.pv (PV.move (v := .pointer (some ⟨tp, 0, none⟩)) (by show sv (g 9) = _; rw [g3]; rfl))) fun v i'' _ hi' ⟨hL', hv⟩ => ?_⟩
        subst hL'; subst hv
        exact ⟨b, at', (fun t ht => (upd_ne g _ (fun e => ht (by rw [e]; decide))).trans (hfr t ht)), q0, q1, q2, fun _ => upd_same g _ _, q4, q5, up6 _ hi', q7, hl.le hi', hb1, hb2, rfl, hL⟩
      · have h3 := q3 (hp ⟨3, .data⟩ (by simp) rfl)
        have hbb : at' ≤ at3 + 40 := by rw [hs] at hb2; cases h6 : s 6 <;> rw [h6] at hb2 <;> simp only [cond_true, cond_false] at hb2 <;> omega
        refine .inl ⟨rfl, OpS.mono (OpS.call (vs := [.pointer (some ⟨tp, 0, none⟩), .int .i64 3]) (by kernel_rfl) (by show [g 50, Value.int .i64 3] = _; rw [h3]) (FnS.frame hL (Next_s tp 1 (.slice ao ln cap) at' 3 _ _ (by omega) hl (by omega) rfl)) fun _ _ _ _ h => h) fun v i'' _ hi' ⟨⟨z, hz⟩, _, hL'⟩ => ?_⟩
        subst hL'; subst hz
        refine ⟨b, at' + 1, (fun t ht => (upd_ne g _ (fun e => ht (by rw [e]; decide))).trans (hfr t ht)), q0, q1, q2, q3, fun _ => ⟨z, upd_same g _ _⟩, q5, up6 _ hi', q7, hl.le hi', by omega, ?_, rfl, List.Perm.refl _⟩
        show at' + 1 ≤ at3 + 1 + (bif s 6 then 40 else 0)
        rw [hs] at hb2
        simp only [cond_false] at hb2
        omega
      · obtain ⟨z, hz⟩ := q4 (hp ⟨4, .data⟩ (by simp) rfl)
        have hz2 := foldI_bd z (n := 3) (by omega)
        refine .inl ⟨rfl, OpS.mono (OpS.pv (PV.add (a := 1) (b := foldI z 3) rfl (by show g 51 = _; rw [hz]) (by omega))) fun v i'' _ hi' ⟨hL', hv⟩ => ?_⟩
        subst hL'; subst hv
        exact ⟨b, at', (fun t ht => (upd_ne g _ (fun e => ht (by rw [e]; decide))).trans (hfr t ht)), q0, q1, q2, q3, q4, fun _ => ⟨_, upd_same g _ _⟩, up6 _ hi', q7, hl.le hi', hb1, hb2, rfl, hL⟩
      · have h0 := q0 (hp ⟨0, .data⟩ (by simp) rfl)
        have h2 := q2 (hp ⟨2, .data⟩ (by simp) rfl)
        obtain ⟨k, h5⟩ := q5 (hp ⟨5, .data⟩ (by simp) rfl)
        have hbb : at' ≤ at3 + 1 := by rw [hs] at hb2; cases h4 : s 4 <;> rw [h4] at hb2 <;> simp only [cond_true, cond_false] at hb2 <;> omega
        refine .inl ⟨rfl, OpS.mono (OpS.call (vs := [.pointer (some ⟨tp, 0, none⟩), .string x.path, .int .i64 k]) (by kernel_rfl) (by show [g 47, g 49, g 52] = _; rw [h0, h2, h5]) (FnS.frame hL (Record_s tp 1 (.slice ao ln cap) at' x.path k _ _ hl (by omega) rfl)) fun _ _ _ _ h => h) fun v i'' _ hi' ⟨rc, r, at5, hv, hrr, hmm, hc1, hc2, hL'⟩ => ?_⟩
        subst hL'; subst hv
        refine ⟨b, at5, (fun t ht => (upd_ne g _ (fun e => ht (by rw [e]; decide))).trans (hfr t ht)), q0, q1, q2, q3, q4, q5, fun _ => ⟨rc, r, k, upd_same g _ _, hrr, hmm⟩, q7, hl.le hi', by omega, ?_, rfl, List.Perm.refl _⟩
        show at5 ≤ at3 + (bif s 4 then 1 else 0) + 40
        rw [hs] at hb2
        simp only [cond_false] at hb2
        omega
      · refine .inl ⟨rfl, OpS.alloc tab_ok rfl fun b' => ?_⟩
        refine ⟨b', at', (fun t ht => (upd_ne g _ (fun e => ht (by rw [e]; decide))).trans (hfr t ht)), q0, q1, q2, q3, q4, q5, q6, fun _ => upd_same g _ _, hl, hb1, hb2, rfl, ?_⟩
        rw [hs] at hL
        refine (List.Perm.cons _ hL).trans ?_
        refine perm_of_sum _ _ fun f => ?_
        simp only [xS, setS, Nat.beq, cond_true, List.map_append, List.map_cons, List.sum_append, List.sum_cons, List.map_nil, List.sum_nil]
        omega
    · rintro g i' L' hi ⟨b, at', hfr, q0, q1, q2, q3, q4, q5, q6, q7, hl', hb1, hb2, -, hL⟩
      have g3 : g 9 = .pointer (some ⟨tp, 0, none⟩) := (hfr 9 (by decide)).trans f3
      have g4 : g 10 = .pointer (some ⟨bx, 0, none⟩) := (hfr 10 (by decide)).trans f4
      obtain ⟨rc, r, k, h53, hrr, hmm⟩ := q6 rfl
      have h5 := q7 rfl
      obtain ⟨b2, d2, b3, d3, b4, d4, b5, d5, b6, d6, rfl⟩ := hrr.lit
      refine RS.perm (L' := (b, .cells (List.toArray [.string ByteArray.empty, .int .i64 0, .slice none 0 0, .slice none 0 0, .slice none 0 0, .slice none 0 0, .slice none 0 0, .string ByteArray.empty, .int .i64 0, .string ByteArray.empty, .string ByteArray.empty, .int .i64 0]) 36 (0, 0)) :: (bx, .cells (List.toArray [.string x.path, .int .i64 x.index, .slice a2 x.props.length c2, .slice a3 x.tags.length c3, .slice a4 x.links.length c4, .slice a5 x.run.length c5, .slice a6 x.load.length c6, .string x.name, .int .i64 x.priority, .string x.owner, .string x.group, .int .i64 x.mode]) 36 (0, 0)) :: (tp, tapeO (.slice ao ln cap) (at')) :: ((bb, .cells (List.toArray [.string b0.path, .int .i64 b0.index, .slice pb2 b0.props.length pd2, .slice pb3 b0.tags.length pd3, .slice pb4 b0.links.length pd4, .slice pb5 b0.run.length pd5, .slice pb6 b0.load.length pd6, .string b0.name, .int .i64 b0.priority, .string b0.owner, .string b0.group, .int .i64 b0.mode]) 36 (0, 0)) :: (ba, .cells (List.toArray [.string a.path, .int .i64 a.index, .slice pa2 a.props.length pc2, .slice pa3 a.tags.length pc3, .slice pa4 a.links.length pc4, .slice pa5 a.run.length pc5, .slice pa6 a.load.length pc6, .string a.name, .int .i64 a.priority, .string a.owner, .string a.group, .int .i64 a.mode]) 36 (0, 0)) :: R)) (hL.trans ?_) ?_
      · refine List.Perm.trans (l₂ := (bx, .cells (List.toArray [.string x.path, .int .i64 x.index, .slice a2 x.props.length c2, .slice a3 x.tags.length c3, .slice a4 x.links.length c4, .slice a5 x.run.length c5, .slice a6 x.load.length c6, .string x.name, .int .i64 x.priority, .string x.owner, .string x.group, .int .i64 x.mode]) 36 (0, 0)) :: (tp, tapeO (.slice ao ln cap) (at')) :: ([(b, .cells (List.toArray [.string ByteArray.empty, .int .i64 0, .slice none 0 0, .slice none 0 0, .slice none 0 0, .slice none 0 0, .slice none 0 0, .string ByteArray.empty, .int .i64 0, .string ByteArray.empty, .string ByteArray.empty, .int .i64 0]) 36 (0, 0))] ++ ((bb, .cells (List.toArray [.string b0.path, .int .i64 b0.index, .slice pb2 b0.props.length pd2, .slice pb3 b0.tags.length pd3, .slice pb4 b0.links.length pd4, .slice pb5 b0.run.length pd5, .slice pb6 b0.load.length pd6, .string b0.name, .int .i64 b0.priority, .string b0.owner, .string b0.group, .int .i64 b0.mode]) 36 (0, 0)) :: (ba, .cells (List.toArray [.string a.path, .int .i64 a.index, .slice pa2 a.props.length pc2, .slice pa3 a.tags.length pc3, .slice pa4 a.links.length pc4, .slice pa5 a.run.length pc5, .slice pa6 a.load.length pc6, .string a.name, .int .i64 a.priority, .string a.owner, .string a.group, .int .i64 a.mode]) 36 (0, 0)) :: R))) (List.Perm.of_eq rfl) ?_
        refine perm_of_sum _ _ fun f => ?_
        simp only [List.map_append, List.map_cons, List.sum_append, List.sum_cons, List.map_nil, List.sum_nil]
        omega
      refine RS.store (k := 0) tab_ok rfl (by show g 11 = _; rw [h5]) (by show g 53 = _; rw [h53]) rfl rfl rfl rfl rfl ?_
      refine RS.nil ?_
      refine thenQ.normal ?_
      refine ⟨b, at', _, r, k, hrr, hmm, hl', hb1, ?_, ?_, rfl⟩
      · simp only [List.contains, List.elem, cond_true] at hb2
        revert hb2
        show at' ≤ at3 + 1 + 40 → _
        intro hb2; omega
      show [g 1, g 6, g 7, g 9, g 10, g 11] = _
      rw [hfr 1 (by decide), hfr 6 (by decide), hfr 7 (by decide), f1, f6, f7, g3, g4, h5]
  rintro fr vs i2 L2 hi2 ⟨b, at4, rc, y, k, hy, hmy, hl2, ha6, ha7, rfl, rfl⟩
  replace hx := hx.le hi2
  have ha2 := ((ha.le hi5).le hi6).le hi2
  have hb2 := ((hb.le hi5).le hi6).le hi2
  obtain ⟨b2, d2, b3, d3, b4, d4, b5, d5, b6, d6, rfl⟩ := hy.lit
  have hlx := hmx.few
  have hty : y.tame := by
    obtain ⟨q1, q2, q3, q4⟩ := hmy.lows
    have q5 := hmy.few
    exact ⟨by omega, by omega, by omega, by omega, by omega⟩
  repeat' (first
    | refine CS.cut (x := .seq (.region 6 _ _) _) [1, 6, 7, 10, 11] (fun vs i' L' => ∃ (at' : Int) (rc : List Value) (y : Rec), RecV i' rc y ∧ y.tame ∧ vs = [.bool had, .pointer (some ⟨ba, 0, none⟩), .pointer (some ⟨bb, 0, none⟩), .pointer (some ⟨bx, 0, none⟩), .pointer (some ⟨b, 0, none⟩)] ∧ L' = (b, .cells (List.toArray rc) 36 (0, 0)) :: (bx, .cells (List.toArray [.string x.path, .int .i64 x.index, .slice a2 x.props.length c2, .slice a3 x.tags.length c3, .slice a4 x.links.length c4, .slice a5 x.run.length c5, .slice a6 x.load.length c6, .string x.name, .int .i64 x.priority, .string x.owner, .string x.group, .int .i64 x.mode]) 36 (0, 0)) :: (tp, tapeO (.slice ao ln cap) (at')) :: ((bb, .cells (List.toArray [.string b0.path, .int .i64 b0.index, .slice pb2 b0.props.length pd2, .slice pb3 b0.tags.length pd3, .slice pb4 b0.links.length pd4, .slice pb5 b0.run.length pd5, .slice pb6 b0.load.length pd6, .string b0.name, .int .i64 b0.priority, .string b0.owner, .string b0.group, .int .i64 b0.mode]) 36 (0, 0)) :: (ba, .cells (List.toArray [.string a.path, .int .i64 a.index, .slice pa2 a.props.length pc2, .slice pa3 a.tags.length pc3, .slice pa4 a.links.length pc4, .slice pa5 a.run.length pc5, .slice pa6 a.load.length pc6, .string a.name, .int .i64 a.priority, .string a.owner, .string a.group, .int .i64 a.mode]) 36 (0, 0)) :: R)) ?_ ?_
    | refine CS.seq ?_
    | refine thenQ.normal ?_
    | refine CS.cond_true rfl ?_
    | refine CS.cond_false rfl ?_
    | refine CS.skip ?_
    | (refine CS.region (id := 0) ?_;
        refine RS.box rfl rfl (fun b => ?_);
        refine RS.box rfl rfl (fun b => ?_);
        refine RS.pv (PV.all tab_ok rfl) rfl ?_;
        refine RS.nil ?_)
    | (refine CS.region (id := 1) ?_;
        refine RS.pv (PV.all tab_ok rfl) rfl ?_;
        (first | refine RS.lv (LV.load tab_ok rfl (Has.own 0 rfl) rfl) rfl ?_ | refine RS.lv (LV.load tab_ok rfl (Has.own 1 rfl) rfl) rfl ?_ | refine RS.lv (LV.load tab_ok rfl (Has.own 2 rfl) rfl) rfl ?_);
        (first | refine RS.pv (PV.lenS tab_ok rfl rfl) rfl ?_ | refine RS.pv (PV.lenT tab_ok rfl rfl) rfl ?_);
        refine RS.pv (PV.all tab_ok rfl) rfl ?_;
        (first | refine RS.lv (LV.load tab_ok rfl (Has.own 0 rfl) rfl) rfl ?_ | refine RS.lv (LV.load tab_ok rfl (Has.own 1 rfl) rfl) rfl ?_ | refine RS.lv (LV.load tab_ok rfl (Has.own 2 rfl) rfl) rfl ?_);
        (first | refine RS.pv (PV.lenS tab_ok rfl rfl) rfl ?_ | refine RS.pv (PV.lenT tab_ok rfl rfl) rfl ?_);
        refine RS.pv (PV.add rfl rfl (by omega)) rfl ?_;
        refine RS.pv (PV.all tab_ok rfl) rfl ?_;
        (first | refine RS.lv (LV.load tab_ok rfl (Has.own 0 rfl) rfl) rfl ?_ | refine RS.lv (LV.load tab_ok rfl (Has.own 1 rfl) rfl) rfl ?_ | refine RS.lv (LV.load tab_ok rfl (Has.own 2 rfl) rfl) rfl ?_);
        (first | refine RS.pv (PV.lenS tab_ok rfl rfl) rfl ?_ | refine RS.pv (PV.lenT tab_ok rfl rfl) rfl ?_);
        refine RS.pv (PV.add rfl rfl (by omega)) rfl ?_;
        refine RS.pv (PV.all tab_ok rfl) rfl ?_;
        (first | refine RS.lv (LV.load tab_ok rfl (Has.own 0 rfl) rfl) rfl ?_ | refine RS.lv (LV.load tab_ok rfl (Has.own 1 rfl) rfl) rfl ?_ | refine RS.lv (LV.load tab_ok rfl (Has.own 2 rfl) rfl) rfl ?_);
        (first | refine RS.pv (PV.lenS tab_ok rfl rfl) rfl ?_ | refine RS.pv (PV.lenT tab_ok rfl rfl) rfl ?_);
        refine RS.pv (PV.add rfl rfl (by omega)) rfl ?_;
        refine RS.pv (PV.all tab_ok rfl) rfl ?_;
        (first | refine RS.lv (LV.load tab_ok rfl (Has.own 0 rfl) rfl) rfl ?_ | refine RS.lv (LV.load tab_ok rfl (Has.own 1 rfl) rfl) rfl ?_ | refine RS.lv (LV.load tab_ok rfl (Has.own 2 rfl) rfl) rfl ?_);
        (first | refine RS.pv (PV.lenS tab_ok rfl rfl) rfl ?_ | refine RS.pv (PV.lenT tab_ok rfl rfl) rfl ?_);
        refine RS.pv (PV.add rfl rfl (by omega)) rfl ?_;
        refine RS.pv (PV.all tab_ok rfl) rfl ?_;
        (first | refine RS.lv (LV.load tab_ok rfl (Has.own 0 rfl) rfl) rfl ?_ | refine RS.lv (LV.load tab_ok rfl (Has.own 1 rfl) rfl) rfl ?_ | refine RS.lv (LV.load tab_ok rfl (Has.own 2 rfl) rfl) rfl ?_);
        (first | refine RS.pv (PV.lenS tab_ok rfl rfl) rfl ?_ | refine RS.pv (PV.lenT tab_ok rfl rfl) rfl ?_);
        refine RS.pv (PV.add rfl rfl (by omega)) rfl ?_;
        (first | refine RS.pv (PV.gtrT rfl rfl (by omega)) rfl ?_ | refine RS.pv (PV.gtrF rfl rfl (by omega)) rfl ?_ | refine RS.ifGtr rfl rfl rfl (fun h => ?_) (fun h => ?_));
        (all_goals refine RS.nil ?_))
    | (refine CS.region (id := 2) ?_)
    | (refine CS.region (id := 3) ?_;
        refine RS.pv (PV.all tab_ok rfl) rfl ?_;
        refine RS.pv (PV.all tab_ok rfl) rfl ?_;
        refine RS.box rfl rfl (fun b => ?_);
        refine RS.pv (PV.all tab_ok rfl) rfl ?_;
        refine RS.nil ?_)
    | (refine CS.region (id := 4) ?_;
        refine RS.pv (PV.all tab_ok rfl) rfl ?_;
        refine RS.pv (PV.all tab_ok rfl) rfl ?_)
    | (refine CS.drawQ (id := 5) mix (by kernel_rfl) ?_;
        refine QS.pv (PV.all tab_ok rfl) rfl ?_;
        refine QS.pv (PV.all tab_ok rfl) rfl ?_;
        (first | refine QS.lv (LV.load tab_ok rfl (Has.own 0 rfl) rfl) rfl ?_ | refine QS.lv (LV.load tab_ok rfl (Has.own 1 rfl) rfl) rfl ?_ | refine QS.lv (LV.load tab_ok rfl (Has.own 2 rfl) rfl) rfl ?_);
        refine QS.pv (PV.all tab_ok rfl) rfl ?_)
    | (refine CS.region (id := 6) ?_;
        refine RS.pv (PV.all tab_ok rfl) rfl ?_;
        (refine RS.call (Next_s tp 2 (.slice ao ln cap) at4 2 _ _ (by omega) hl2 (by omega) rfl) rfl (by kernel_rfl) rfl ?_; rintro v i7 L7 hi7 ⟨⟨x2, rfl⟩, rfl, rfl⟩; have hx2 := foldI_bd x2 (n := 2) (by omega));
        (all_goals (first | refine RS.pv (PV.all tab_ok rfl) rfl ?_ | refine RS.pv (PV.eqlT rfl rfl (by omega)) rfl ?_ | refine RS.pv (PV.eqlF rfl rfl (by omega)) rfl ?_ | refine RS.ifEql rfl rfl rfl (fun h => ?_) (fun h => ?_) | refine RS.ifSeql rfl rfl rfl (fun h => ?_) (fun h => ?_)));
        (all_goals refine RS.nil ?_))
    | (refine CS.region (id := 7) ?_;
        refine RS.pv (PV.all tab_ok rfl) rfl ?_;
        (first | refine RS.lv (LV.load tab_ok rfl (Has.own 0 rfl) rfl) rfl ?_ | refine RS.lv (LV.load tab_ok rfl (Has.own 1 rfl) rfl) rfl ?_ | refine RS.lv (LV.load tab_ok rfl (Has.own 2 rfl) rfl) rfl ?_);
        (refine RS.call (Spoilt_s tp 2 (.slice ao ln cap) (at4 + 1) _ x _ _ hl2 (by omega) hx hmx.lows hmx.few rfl) rfl (by kernel_rfl) rfl ?_; rintro v i9 L9 hi9 ⟨rc', y', at5, rfl, hy', ht', rfl⟩; obtain ⟨g2, w2, g3, w3, g4, w4, g5, w5, g6, w6, rfl⟩ := hy'.lit);
        (all_goals (first | refine RS.store (k := 0) tab_ok rfl rfl rfl rfl rfl rfl rfl rfl ?_ | refine RS.store (k := 1) tab_ok rfl rfl rfl rfl rfl rfl rfl rfl ?_ | refine RS.store (k := 2) tab_ok rfl rfl rfl rfl rfl rfl rfl rfl ?_));
        (all_goals refine RS.nil ?_))
    | refine CS.ret ?_
    | refine thenQ.ret ?_
    | refine blkQ.ret ?_
    | refine retQ.ret ?_
    | refine CS.block ?_
    | refine CS.exit ?_
    | refine thenQ.exit ?_
    | refine blkQ.normal ?_
    | refine blkQ.here ?_
    | refine blkQ.past rfl ?_
    | refine retQ.normal ?_)
  · exact ⟨at5, _, y', hy', ht', rfl, rfl⟩
  · exact ⟨_, _, y, hy, hty, rfl, rfl⟩
  clear hty hmy hy
  rintro fr3 vs i3 L3 hi3 ⟨at5, rc, z, hz, htz, rfl, rfl⟩
  obtain ⟨g2, w2, g3, w3, g4, w4, g5, w5, g6, w6, rfl⟩ := hz.lit
  replace hx := hx.le hi3
  replace ha2 := ha2.le hi3
  replace hb2 := hb2.le hi3
  have hlz := htz.links
  have hxs := hmx.ok.small
  have has := hsa.small
  repeat' (first
    | refine CS.seq ?_
    | refine thenQ.normal ?_
    | refine CS.cond_true rfl ?_
    | refine CS.cond_false rfl ?_
    | refine CS.skip ?_
    | (refine CS.region (id := 0) ?_;
        refine RS.box rfl rfl (fun b => ?_);
        refine RS.box rfl rfl (fun b => ?_);
        refine RS.pv (PV.all tab_ok rfl) rfl ?_;
        refine RS.nil ?_)
    | (refine CS.region (id := 1) ?_;
        refine RS.pv (PV.all tab_ok rfl) rfl ?_;
        (first | refine RS.lv (LV.load tab_ok rfl (Has.own 0 rfl) rfl) rfl ?_ | refine RS.lv (LV.load tab_ok rfl (Has.own 1 rfl) rfl) rfl ?_ | refine RS.lv (LV.load tab_ok rfl (Has.own 2 rfl) rfl) rfl ?_);
        (first | refine RS.pv (PV.lenS tab_ok rfl rfl) rfl ?_ | refine RS.pv (PV.lenT tab_ok rfl rfl) rfl ?_);
        refine RS.pv (PV.all tab_ok rfl) rfl ?_;
        (first | refine RS.lv (LV.load tab_ok rfl (Has.own 0 rfl) rfl) rfl ?_ | refine RS.lv (LV.load tab_ok rfl (Has.own 1 rfl) rfl) rfl ?_ | refine RS.lv (LV.load tab_ok rfl (Has.own 2 rfl) rfl) rfl ?_);
        (first | refine RS.pv (PV.lenS tab_ok rfl rfl) rfl ?_ | refine RS.pv (PV.lenT tab_ok rfl rfl) rfl ?_);
        refine RS.pv (PV.add rfl rfl (by omega)) rfl ?_;
        refine RS.pv (PV.all tab_ok rfl) rfl ?_;
        (first | refine RS.lv (LV.load tab_ok rfl (Has.own 0 rfl) rfl) rfl ?_ | refine RS.lv (LV.load tab_ok rfl (Has.own 1 rfl) rfl) rfl ?_ | refine RS.lv (LV.load tab_ok rfl (Has.own 2 rfl) rfl) rfl ?_);
        (first | refine RS.pv (PV.lenS tab_ok rfl rfl) rfl ?_ | refine RS.pv (PV.lenT tab_ok rfl rfl) rfl ?_);
        refine RS.pv (PV.add rfl rfl (by omega)) rfl ?_;
        refine RS.pv (PV.all tab_ok rfl) rfl ?_;
        (first | refine RS.lv (LV.load tab_ok rfl (Has.own 0 rfl) rfl) rfl ?_ | refine RS.lv (LV.load tab_ok rfl (Has.own 1 rfl) rfl) rfl ?_ | refine RS.lv (LV.load tab_ok rfl (Has.own 2 rfl) rfl) rfl ?_);
        (first | refine RS.pv (PV.lenS tab_ok rfl rfl) rfl ?_ | refine RS.pv (PV.lenT tab_ok rfl rfl) rfl ?_);
        refine RS.pv (PV.add rfl rfl (by omega)) rfl ?_;
        refine RS.pv (PV.all tab_ok rfl) rfl ?_;
        (first | refine RS.lv (LV.load tab_ok rfl (Has.own 0 rfl) rfl) rfl ?_ | refine RS.lv (LV.load tab_ok rfl (Has.own 1 rfl) rfl) rfl ?_ | refine RS.lv (LV.load tab_ok rfl (Has.own 2 rfl) rfl) rfl ?_);
        (first | refine RS.pv (PV.lenS tab_ok rfl rfl) rfl ?_ | refine RS.pv (PV.lenT tab_ok rfl rfl) rfl ?_);
        refine RS.pv (PV.add rfl rfl (by omega)) rfl ?_;
        refine RS.pv (PV.all tab_ok rfl) rfl ?_;
        (first | refine RS.lv (LV.load tab_ok rfl (Has.own 0 rfl) rfl) rfl ?_ | refine RS.lv (LV.load tab_ok rfl (Has.own 1 rfl) rfl) rfl ?_ | refine RS.lv (LV.load tab_ok rfl (Has.own 2 rfl) rfl) rfl ?_);
        (first | refine RS.pv (PV.lenS tab_ok rfl rfl) rfl ?_ | refine RS.pv (PV.lenT tab_ok rfl rfl) rfl ?_);
        refine RS.pv (PV.add rfl rfl (by omega)) rfl ?_;
        (first | refine RS.pv (PV.gtrT rfl rfl (by omega)) rfl ?_ | refine RS.pv (PV.gtrF rfl rfl (by omega)) rfl ?_ | refine RS.ifGtr rfl rfl rfl (fun h => ?_) (fun h => ?_));
        (all_goals refine RS.nil ?_))
    | (refine CS.region (id := 2) ?_)
    | (refine CS.region (id := 3) ?_;
        refine RS.pv (PV.all tab_ok rfl) rfl ?_;
        refine RS.pv (PV.all tab_ok rfl) rfl ?_;
        refine RS.box rfl rfl (fun b => ?_);
        refine RS.pv (PV.all tab_ok rfl) rfl ?_;
        refine RS.nil ?_)
    | (refine CS.region (id := 4) ?_;
        refine RS.pv (PV.all tab_ok rfl) rfl ?_;
        refine RS.pv (PV.all tab_ok rfl) rfl ?_)
    | (refine CS.drawQ (id := 5) mix (by kernel_rfl) ?_;
        refine QS.pv (PV.all tab_ok rfl) rfl ?_;
        refine QS.pv (PV.all tab_ok rfl) rfl ?_;
        (first | refine QS.lv (LV.load tab_ok rfl (Has.own 0 rfl) rfl) rfl ?_ | refine QS.lv (LV.load tab_ok rfl (Has.own 1 rfl) rfl) rfl ?_ | refine QS.lv (LV.load tab_ok rfl (Has.own 2 rfl) rfl) rfl ?_);
        refine QS.pv (PV.all tab_ok rfl) rfl ?_)
    | (refine CS.region (id := 6) ?_;
        refine RS.pv (PV.all tab_ok rfl) rfl ?_)
    | (refine CS.region (id := 7) ?_;
        refine RS.pv (PV.all tab_ok rfl) rfl ?_;
        (first | refine RS.lv (LV.load tab_ok rfl (Has.own 0 rfl) rfl) rfl ?_ | refine RS.lv (LV.load tab_ok rfl (Has.own 1 rfl) rfl) rfl ?_ | refine RS.lv (LV.load tab_ok rfl (Has.own 2 rfl) rfl) rfl ?_))
    | refine CS.ret ?_
    | refine thenQ.ret ?_
    | refine blkQ.ret ?_
    | refine retQ.ret ?_
    | refine CS.block ?_
    | refine CS.exit ?_
    | refine thenQ.exit ?_
    | refine blkQ.normal ?_
    | refine blkQ.here ?_
    | refine blkQ.past rfl ?_
    | refine retQ.normal ?_)
  refine CS.draw0 mix [0, 1, 2, 3, 4, 5, 6, 7, 8, 9, 10, 11, 12, 13, 14, 15, 16, 17, 18, 19, 20, 21, 22] [23] (by kernel_rfl) rfl ?_
  (first | refine GS.lv (fun _ _ => LV.load tab_ok rfl (Has.own 0 rfl) rfl) rfl rfl rfl rfl rfl rfl ?_ | refine GS.lv (fun _ _ => LV.load tab_ok rfl (Has.own 1 rfl) rfl) rfl rfl rfl rfl rfl rfl ?_ | refine GS.lv (fun _ _ => LV.load tab_ok rfl (Has.own 2 rfl) rfl) rfl rfl rfl rfl rfl rfl ?_ | refine GS.lv (fun _ _ => LV.load tab_ok rfl (Has.own 3 rfl) rfl) rfl rfl rfl rfl rfl rfl ?_ | refine GS.lv (fun _ _ => LV.load tab_ok rfl (Has.own 4 rfl) rfl) rfl rfl rfl rfl rfl rfl ?_)
  refine GS.pv (PV.all tab_ok rfl) rfl rfl rfl rfl rfl rfl ?_
  (first | refine GS.lv (fun _ _ => LV.load tab_ok rfl (Has.own 0 rfl) rfl) rfl rfl rfl rfl rfl rfl ?_ | refine GS.lv (fun _ _ => LV.load tab_ok rfl (Has.own 1 rfl) rfl) rfl rfl rfl rfl rfl rfl ?_ | refine GS.lv (fun _ _ => LV.load tab_ok rfl (Has.own 2 rfl) rfl) rfl rfl rfl rfl rfl rfl ?_ | refine GS.lv (fun _ _ => LV.load tab_ok rfl (Has.own 3 rfl) rfl) rfl rfl rfl rfl rfl rfl ?_ | refine GS.lv (fun _ _ => LV.load tab_ok rfl (Has.own 4 rfl) rfl) rfl rfl rfl rfl rfl rfl ?_)
  refine GS.fact0 (fun i v => ∃ e, EffV i v e ∧ EffOf x had z e) (fun _ _ hi _ ⟨e, h1, h2⟩ => ⟨e, h1.le hi, h2⟩) rfl rfl rfl rfl rfl rfl (fun i' hi => OpS.call (by kernel_rfl) rfl (Compare_s _ _ x z had i' _ (hx.le hi) (hz.le hi) hxs (by omega) (by omega)) (fun _ _ _ _ ⟨h1, h2⟩ => ⟨h2, h1⟩)) ?_
  (all_goals (first | refine GS.lv (fun _ _ => LV.load tab_ok rfl (Has.own 0 rfl) rfl) rfl rfl rfl rfl rfl rfl ?_ | refine GS.lv (fun _ _ => LV.load tab_ok rfl (Has.own 1 rfl) rfl) rfl rfl rfl rfl rfl rfl ?_ | refine GS.lv (fun _ _ => LV.load tab_ok rfl (Has.own 2 rfl) rfl) rfl rfl rfl rfl rfl rfl ?_ | refine GS.lv (fun _ _ => LV.load tab_ok rfl (Has.own 3 rfl) rfl) rfl rfl rfl rfl rfl rfl ?_ | refine GS.lv (fun _ _ => LV.load tab_ok rfl (Has.own 4 rfl) rfl) rfl rfl rfl rfl rfl rfl ?_))
  (all_goals refine GS.pv (PV.all tab_ok rfl) rfl rfl rfl rfl rfl rfl ?_)
  (all_goals (first | refine GS.lv (fun _ _ => LV.load tab_ok rfl (Has.own 0 rfl) rfl) rfl rfl rfl rfl rfl rfl ?_ | refine GS.lv (fun _ _ => LV.load tab_ok rfl (Has.own 1 rfl) rfl) rfl rfl rfl rfl rfl rfl ?_ | refine GS.lv (fun _ _ => LV.load tab_ok rfl (Has.own 2 rfl) rfl) rfl rfl rfl rfl rfl rfl ?_ | refine GS.lv (fun _ _ => LV.load tab_ok rfl (Has.own 3 rfl) rfl) rfl rfl rfl rfl rfl rfl ?_ | refine GS.lv (fun _ _ => LV.load tab_ok rfl (Has.own 4 rfl) rfl) rfl rfl rfl rfl rfl rfl ?_))
  (all_goals refine GS.fact0 (fun i v => ∃ e, EffV i v e ∧ EffOf x had z e) (fun _ _ hi _ ⟨e, h1, h2⟩ => ⟨e, h1.le hi, h2⟩) rfl rfl rfl rfl rfl rfl (fun i' hi => OpS.call (by kernel_rfl) rfl (rCompare_s _ _ x z had i' _ (hx.le hi) (hz.le hi) hxs (by omega) (by omega)) (fun _ _ _ _ ⟨h1, h2⟩ => ⟨h2, h1⟩)) ?_)
  (all_goals refine GS.valF (v := .bool true) rfl rfl rfl rfl (fun i' hi => by rintro v1 ⟨e1, h1, h2⟩ v2 ⟨e2, k1, k2⟩; obtain rfl := EffOf.eq h2 k2; have hle := effOf_len h2; exact ⟨rfl, OpS.call (by kernel_rfl) rfl (SameEffects_s _ _ e1 i' _ h1 k1 (by omega) (by omega)) (fun _ _ _ _ ⟨h1, h2⟩ => ⟨h2, h1⟩)⟩) ?_)
  (all_goals refine GS.pv (PV.all tab_ok rfl) rfl rfl rfl rfl rfl rfl ?_)
  (all_goals (first | refine GS.lv (fun _ _ => LV.load tab_ok rfl (Has.own 0 rfl) rfl) rfl rfl rfl rfl rfl rfl ?_ | refine GS.lv (fun _ _ => LV.load tab_ok rfl (Has.own 1 rfl) rfl) rfl rfl rfl rfl rfl rfl ?_ | refine GS.lv (fun _ _ => LV.load tab_ok rfl (Has.own 2 rfl) rfl) rfl rfl rfl rfl rfl rfl ?_ | refine GS.lv (fun _ _ => LV.load tab_ok rfl (Has.own 3 rfl) rfl) rfl rfl rfl rfl rfl rfl ?_ | refine GS.lv (fun _ _ => LV.load tab_ok rfl (Has.own 4 rfl) rfl) rfl rfl rfl rfl rfl rfl ?_ | refine GS.skip rfl rfl rfl rfl rfl ?_))
  (all_goals (first | refine GS.pv (PV.all tab_ok rfl) rfl rfl rfl rfl rfl rfl ?_ | refine GS.skip rfl rfl rfl rfl rfl ?_))
  (all_goals (first | refine GS.lv (fun _ _ => LV.load tab_ok rfl (Has.own 0 rfl) rfl) rfl rfl rfl rfl rfl rfl ?_ | refine GS.lv (fun _ _ => LV.load tab_ok rfl (Has.own 1 rfl) rfl) rfl rfl rfl rfl rfl rfl ?_ | refine GS.lv (fun _ _ => LV.load tab_ok rfl (Has.own 2 rfl) rfl) rfl rfl rfl rfl rfl rfl ?_ | refine GS.lv (fun _ _ => LV.load tab_ok rfl (Has.own 3 rfl) rfl) rfl rfl rfl rfl rfl rfl ?_ | refine GS.lv (fun _ _ => LV.load tab_ok rfl (Has.own 4 rfl) rfl) rfl rfl rfl rfl rfl rfl ?_ | refine GS.skip rfl rfl rfl rfl rfl ?_))
  (all_goals refine GS.fact0 (fun i v => ∃ e, EffV i v e ∧ EffOf a had b0 e) (fun _ _ hi _ ⟨e, h1, h2⟩ => ⟨e, h1.le hi, h2⟩) rfl rfl rfl rfl rfl rfl (fun i' hi => OpS.call (by kernel_rfl) rfl (Compare_s _ _ a b0 had i' _ (ha2.le hi) (hb2.le hi) has (by omega) (by omega)) (fun _ _ _ _ ⟨h1, h2⟩ => ⟨h2, h1⟩)) ?_)
  (all_goals (first | refine GS.lv (fun _ _ => LV.load tab_ok rfl (Has.own 0 rfl) rfl) rfl rfl rfl rfl rfl rfl ?_ | refine GS.lv (fun _ _ => LV.load tab_ok rfl (Has.own 1 rfl) rfl) rfl rfl rfl rfl rfl rfl ?_ | refine GS.lv (fun _ _ => LV.load tab_ok rfl (Has.own 2 rfl) rfl) rfl rfl rfl rfl rfl rfl ?_ | refine GS.lv (fun _ _ => LV.load tab_ok rfl (Has.own 3 rfl) rfl) rfl rfl rfl rfl rfl rfl ?_ | refine GS.lv (fun _ _ => LV.load tab_ok rfl (Has.own 4 rfl) rfl) rfl rfl rfl rfl rfl rfl ?_ | refine GS.skip rfl rfl rfl rfl rfl ?_))
  (all_goals (first | refine GS.pv (PV.all tab_ok rfl) rfl rfl rfl rfl rfl rfl ?_ | refine GS.skip rfl rfl rfl rfl rfl ?_))
  (all_goals (first | refine GS.lv (fun _ _ => LV.load tab_ok rfl (Has.own 0 rfl) rfl) rfl rfl rfl rfl rfl rfl ?_ | refine GS.lv (fun _ _ => LV.load tab_ok rfl (Has.own 1 rfl) rfl) rfl rfl rfl rfl rfl rfl ?_ | refine GS.lv (fun _ _ => LV.load tab_ok rfl (Has.own 2 rfl) rfl) rfl rfl rfl rfl rfl rfl ?_ | refine GS.lv (fun _ _ => LV.load tab_ok rfl (Has.own 3 rfl) rfl) rfl rfl rfl rfl rfl rfl ?_ | refine GS.lv (fun _ _ => LV.load tab_ok rfl (Has.own 4 rfl) rfl) rfl rfl rfl rfl rfl rfl ?_ | refine GS.skip rfl rfl rfl rfl rfl ?_))
  (all_goals refine GS.fact0 (fun i v => ∃ e, EffV i v e ∧ EffOf a had b0 e) (fun _ _ hi _ ⟨e, h1, h2⟩ => ⟨e, h1.le hi, h2⟩) rfl rfl rfl rfl rfl rfl (fun i' hi => OpS.call (by kernel_rfl) rfl (rCompare_s _ _ a b0 had i' _ (ha2.le hi) (hb2.le hi) has (by omega) (by omega)) (fun _ _ _ _ ⟨h1, h2⟩ => ⟨h2, h1⟩)) ?_)
  (all_goals refine GS.valF (v := .bool true) rfl rfl rfl rfl (fun i' hi => by rintro v1 ⟨e1, h1, h2⟩ v2 ⟨e2, k1, k2⟩; obtain rfl := EffOf.eq h2 k2; have hle := effOf_len h2; exact ⟨rfl, OpS.call (by kernel_rfl) rfl (SameEffects_s _ _ e1 i' _ h1 k1 (by omega) (by omega)) (fun _ _ _ _ ⟨h1, h2⟩ => ⟨h2, h1⟩)⟩) ?_)
  (all_goals refine GS.pv (PV.all tab_ok rfl) rfl rfl rfl rfl rfl rfl ?_)
  (all_goals refine GS.pv (PV.all tab_ok rfl) rfl rfl rfl rfl rfl rfl ?_)
  (all_goals refine GS.val0 (v := .bool true) rfl rfl rfl rfl rfl rfl (fun i' hi => OpS.call (by kernel_rfl) rfl (known_s _ _) (fun _ _ _ _ ⟨h1, h2⟩ => ⟨h2, h1⟩)) ?_)
  (all_goals refine GS.pv (PV.all tab_ok rfl) rfl rfl rfl rfl rfl rfl ?_)
  refine GS.done rfl rfl (fun i5 hi5 => ?_)
  intro w1 _ w2 _ w3 _ w4 _
  refine RS.pv (PV.all tab_ok rfl) rfl ?_
  refine RS.nil ?_
  refine thenQ.normal ?_
  refine CS.ret ?_
  refine retQ.ret ?_
  rfl
end Go.Proofs.Ytmcajldlcomegaa
