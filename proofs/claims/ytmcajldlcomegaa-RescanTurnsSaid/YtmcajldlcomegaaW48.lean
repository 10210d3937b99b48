/- RescanCompares, part 3: rescan.first. -/
import Derived.Test.YtmcajldlcomegaaW47
namespace Go.Proofs.Ytmcajldlcomegaa
open Go Go.Eng

/-- an element's name is its first cell -/
def nmAt (cl : List Value) (s : ByteArray) : Prop := cl[0]? = some (.string s)
theorem nameF_65 (c : List Value) (s : ByteArray) (i : Imm) (L : SH) (hl : c.length = 12) (hc : nmAt c s) : FnS Try.prog 65 [.agg c.toArray] i L fun v i' L' => v = .string s ∧ i' = i ∧ L' = L := by
  refine FnS.state (K := fun v i' L' => ∃ M, v = .string s ∧ i' = i ∧ L' = M ++ L) ?_ ?_
  rotate_left
  · rintro v i' L' w _ hs ⟨M, hv, rfl, rfl⟩
    exact ⟨i', _, Imm.le.refl i', hs.dropL, hv, rfl, rfl⟩
  refine FnS.intro1 Try.func65 rfl Try.ntmps65 (by simp) Try.results65 ?_
  repeat' (first
    | refine CS.seq ?_
    | refine thenQ.normal ?_
    | refine CS.cond_true rfl ?_
    | refine CS.cond_false rfl ?_
    | refine CS.skip ?_
    | (refine CS.region (id := 0) ?_;
        refine RS.box rfl rfl (fun b => ?_);
        refine RS.pv (PV.all tab_ok rfl) rfl ?_;
        refine RS.nil ?_)
    | (refine CS.region (id := 1) ?_;
        refine RS.pv (PV.all tab_ok rfl) rfl ?_;
        refine RS.lv (LV.load1 tab_ok rfl (Has.own 0 rfl) rfl hc) rfl ?_;
        (all_goals refine RS.pv (PV.all tab_ok rfl) rfl ?_);
        (all_goals refine RS.nil ?_))
    | refine CS.ret ?_
    | refine thenQ.ret ?_
    | refine blkQ.ret ?_
    | refine retQ.ret ?_
    | refine CS.block ?_
    | refine CS.exit ?_
    | refine thenQ.exit ?_
    | refine blkQ.normal ?_
    | refine blkQ.here ?_
    | refine blkQ.past rfl ?_
    | refine retQ.normal ?_)
  exact ⟨[_], rfl, rfl, rfl⟩
theorem nameF_67 (c : List Value) (s : ByteArray) (i : Imm) (L : SH) (hl : c.length = 7) (hc : nmAt c s) : FnS Try.prog 67 [.agg c.toArray] i L fun v i' L' => v = .string s ∧ i' = i ∧ L' = L := by
  refine FnS.state (K := fun v i' L' => ∃ M, v = .string s ∧ i' = i ∧ L' = M ++ L) ?_ ?_
  rotate_left
  · rintro v i' L' w _ hs ⟨M, hv, rfl, rfl⟩
    exact ⟨i', _, Imm.le.refl i', hs.dropL, hv, rfl, rfl⟩
  refine FnS.intro1 Try.func67 rfl Try.ntmps67 (by simp) Try.results67 ?_
  repeat' (first
    | refine CS.seq ?_
    | refine thenQ.normal ?_
    | refine CS.cond_true rfl ?_
    | refine CS.cond_false rfl ?_
    | refine CS.skip ?_
    | (refine CS.region (id := 0) ?_;
        refine RS.box rfl rfl (fun b => ?_);
        refine RS.pv (PV.all tab_ok rfl) rfl ?_;
        refine RS.nil ?_)
    | (refine CS.region (id := 1) ?_;
        refine RS.pv (PV.all tab_ok rfl) rfl ?_;
        refine RS.lv (LV.load1 tab_ok rfl (Has.own 0 rfl) rfl hc) rfl ?_;
        (all_goals refine RS.pv (PV.all tab_ok rfl) rfl ?_);
        (all_goals refine RS.nil ?_))
    | refine CS.ret ?_
    | refine thenQ.ret ?_
    | refine blkQ.ret ?_
    | refine retQ.ret ?_
    | refine CS.block ?_
    | refine CS.exit ?_
    | refine thenQ.exit ?_
    | refine blkQ.normal ?_
    | refine blkQ.here ?_
    | refine blkQ.past rfl ?_
    | refine retQ.normal ?_)
  exact ⟨[_], rfl, rfl, rfl⟩
theorem nameF_70 (c : List Value) (s : ByteArray) (i : Imm) (L : SH) (hl : c.length = 3) (hc : nmAt c s) : FnS Try.prog 70 [.agg c.toArray] i L fun v i' L' => v = .string s ∧ i' = i ∧ L' = L := by
  refine FnS.state (K := fun v i' L' => ∃ M, v = .string s ∧ i' = i ∧ L' = M ++ L) ?_ ?_
  rotate_left
  · rintro v i' L' w _ hs ⟨M, hv, rfl, rfl⟩
    exact ⟨i', _, Imm.le.refl i', hs.dropL, hv, rfl, rfl⟩
  refine FnS.intro1 Try.func70 rfl Try.ntmps70 (by simp) Try.results70 ?_
  repeat' (first
    | refine CS.seq ?_
    | refine thenQ.normal ?_
    | refine CS.cond_true rfl ?_
    | refine CS.cond_false rfl ?_
    | refine CS.skip ?_
    | (refine CS.region (id := 0) ?_;
        refine RS.box rfl rfl (fun b => ?_);
        refine RS.pv (PV.all tab_ok rfl) rfl ?_;
        refine RS.nil ?_)
    | (refine CS.region (id := 1) ?_;
        refine RS.pv (PV.all tab_ok rfl) rfl ?_;
        refine RS.lv (LV.load1 tab_ok rfl (Has.own 0 rfl) rfl hc) rfl ?_;
        (all_goals refine RS.pv (PV.all tab_ok rfl) rfl ?_);
        (all_goals refine RS.nil ?_))
    | refine CS.ret ?_
    | refine thenQ.ret ?_
    | refine blkQ.ret ?_
    | refine retQ.ret ?_
    | refine CS.block ?_
    | refine CS.exit ?_
    | refine thenQ.exit ?_
    | refine blkQ.normal ?_
    | refine blkQ.here ?_
    | refine blkQ.past rfl ?_
    | refine retQ.normal ?_)
  exact ⟨[_], rfl, rfl, rfl⟩
theorem nameF_73 (c : List Value) (s : ByteArray) (i : Imm) (L : SH) (hl : c.length = 2) (hc : nmAt c s) : FnS Try.prog 73 [.agg c.toArray] i L fun v i' L' => v = .string s ∧ i' = i ∧ L' = L := by
  refine FnS.state (K := fun v i' L' => ∃ M, v = .string s ∧ i' = i ∧ L' = M ++ L) ?_ ?_
  rotate_left
  · rintro v i' L' w _ hs ⟨M, hv, rfl, rfl⟩
    exact ⟨i', _, Imm.le.refl i', hs.dropL, hv, rfl, rfl⟩
  refine FnS.intro1 Try.func73 rfl Try.ntmps73 (by simp) Try.results73 ?_
  repeat' (first
    | refine CS.seq ?_
    | refine thenQ.normal ?_
    | refine CS.cond_true rfl ?_
    | refine CS.cond_false rfl ?_
    | refine CS.skip ?_
    | (refine CS.region (id := 0) ?_;
        refine RS.box rfl rfl (fun b => ?_);
        refine RS.pv (PV.all tab_ok rfl) rfl ?_;
        refine RS.nil ?_)
    | (refine CS.region (id := 1) ?_;
        refine RS.pv (PV.all tab_ok rfl) rfl ?_;
        refine RS.lv (LV.load1 tab_ok rfl (Has.own 0 rfl) rfl hc) rfl ?_;
        (all_goals refine RS.pv (PV.all tab_ok rfl) rfl ?_);
        (all_goals refine RS.nil ?_))
    | refine CS.ret ?_
    | refine thenQ.ret ?_
    | refine blkQ.ret ?_
    | refine retQ.ret ?_
    | refine CS.block ?_
    | refine CS.exit ?_
    | refine thenQ.exit ?_
    | refine blkQ.normal ?_
    | refine blkQ.here ?_
    | refine blkQ.past rfl ?_
    | refine retQ.normal ?_)
  exact ⟨[_], rfl, rfl, rfl⟩
theorem nameF_76 (s : ByteArray) (i : Imm) (L : SH) : FnS Try.prog 76 [.string s] i L fun v i' L' => v = .string s ∧ i' = i ∧ L' = L := by
  refine FnS.intro1 Try.func76 rfl Try.ntmps76 (by simp) Try.results76 ?_
  repeat' (first
    | refine CS.seq ?_
    | refine thenQ.normal ?_
    | refine CS.cond_true rfl ?_
    | refine CS.cond_false rfl ?_
    | refine CS.skip ?_
    | (refine CS.region (id := 0) ?_;
        refine RS.pv (PV.all tab_ok rfl) rfl ?_;
        refine RS.nil ?_)
    | (refine CS.region (id := 1) ?_;
        refine RS.pv (PV.all tab_ok rfl) rfl ?_;
        refine RS.pv (PV.all tab_ok rfl) rfl ?_;
        refine RS.nil ?_)
    | refine CS.ret ?_
    | refine thenQ.ret ?_
    | refine blkQ.ret ?_
    | refine retQ.ret ?_
    | refine CS.block ?_
    | refine CS.exit ?_
    | refine thenQ.exit ?_
    | refine blkQ.normal ?_
    | refine blkQ.here ?_
    | refine blkQ.past rfl ?_
    | refine retQ.normal ?_)
  exact ⟨rfl, rfl, rfl⟩
/-- a map holds the first element of each name -/
structure MapOf {E : Type} (vl : E → Value) (nm : E → ByteArray) (es : List E) (ms : List VE) (c : Nat) : Prop where
  ok : MapOk ms c
  get : ∀ a, mget ms a = (firstE nm es a).map vl
  few : ms.length ≤ es.length
theorem MapOf.put {E : Type} {vl : E → Value} {nm : E → ByteArray} {es : List E} {ms : List VE} {c : Nat} (h : MapOf vl nm es ms c) (e : E) : MapOf vl nm (e :: es) (mput ms (nm e) (vl e) c) (mclk ms (nm e) c) :=
  ⟨h.ok.put _ _, fun a => by
    rw [mget_put, firstE_cons]
    by_cases k : a = nm e
    · rw [if_pos k, if_pos k]; rfl
    · rw [if_neg k, if_neg k]; exact h.get a, by
    have h1 := mput_len ms (nm e) (vl e) c
    have h2 := h.few
    rw [List.length_cons]; omega⟩
theorem First_92 {E : Type} (cl : E → List Value) (nm : E → ByteArray) (es : List E) (v : Value) (i : Imm) (L : SH) (hcl : ∀ e ∈ es, (cl e).length = 12 ∧ (∀ c ∈ cl e, c.oneCell' = true) ∧ nmAt (cl e) (nm e)) (hs : Sl i v 12 es.length (rowC cl es)) (hn : es.length ≤ 10000000000000) :
    FnS Try.prog 92 [v, .func (.func 65) #[] #[]] i L fun u i' L' => L' = L ∧ ∃ b ms c, u = .map (some b) ∧ i'.blk b = some (.map (entV ms) c) ∧ MapOf (fun e => .agg (cl e).toArray) nm es ms c := by
  obtain ⟨ao, cap, rfl, -⟩ := id hs
  refine FnS.state (K := fun u i' L' => ∃ x y b ms c, u = .map (some b) ∧ L' = x :: (b, .map (entV ms) c) :: y :: L ∧ MapOf (fun e => .agg (cl e).toArray) nm es ms c) ?_ ?_
  rotate_left
  · rintro u i' L' w _ hs ⟨x, y, b, ms, c, rfl, rfl, hm⟩
    obtain ⟨h1, h2⟩ := hs.drop.freeze
    exact ⟨_, _, h1, h2.drop, rfl, b, ms, c, rfl, by simp [Imm.add], hm⟩
  refine FnS.introM Try.func92 rfl Try.ntmps92 (by simp) Try.results92 ?_
  refine CX.seqL ?_
  refine CS.region (id := 0) ?_
  refine RS.box rfl rfl (fun bn => ?_)
  (all_goals refine RS.pv (PV.all tab_ok rfl) rfl ?_)
  (all_goals refine RS.nil ?_)
  refine thenQ.normal ?_
  refine CX.seqL ?_
  refine CS.region (id := 1) ?_
  refine RS.makeMapV rfl (fun bm => ?_)
  (all_goals refine RS.alloc tab_ok rfl rfl (fun b5 => ?_))
  (all_goals (first | refine RS.store (k := 0) tab_ok rfl rfl rfl rfl rfl rfl rfl rfl ?_ | refine RS.store (k := 1) tab_ok rfl rfl rfl rfl rfl rfl rfl rfl ?_ | refine RS.store (k := 2) tab_ok rfl rfl rfl rfl rfl rfl rfl rfl ?_))
  (all_goals refine RS.nil ?_)
  refine thenQ.normal ?_
  refine CX.seq ?_
  refine CX.seqL ?_
  refine CS.region (id := 2) ?_
  refine RS.pv (PV.all tab_ok rfl) rfl ?_
  (refine RS.call (Backward_105 ao es.length cap _ _) rfl (by kernel_rfl) rfl ?_; rintro v i1 L1 hi1 ⟨rfl, bb, rfl, hbb⟩)
  (all_goals refine RS.nil ?_)
  refine thenQ.normal ?_
  refine CX.block ?_
  refine CX.rangeFunc (I := fun k i' L' => ∃ ms c, L' = (b5, .cells (List.toArray [.map (some bm)]) 145 (0, 0)) :: (bm, .map (entV (ms)) (c)) :: (bn, .cells (List.toArray [.func (.func 65) #[] #[]]) 118 (0, 0)) :: L ∧ MapOf (fun e => .agg (cl e).toArray) nm (es.drop (es.length - k)) ms c) rfl (by kernel_rfl) (Iter_114 cl es ao cap bb i1 (fun e he => (hcl e he).1) (hs.le hi1) hn hbb) (fun d hd => ?_) ⟨[], 0, rfl, MapOk.nil, fun a => by simp [firstE, mget], Nat.zero_le _⟩ ?_ ?_
  · obtain ⟨k, hk⟩ := List.getElem?_of_mem hd
    obtain ⟨_, e, _, rfl⟩ := bw_inv hk
    rfl
  · rintro k d i2 L2 R hd hi2 ⟨ms, c, rfl, hm⟩
    obtain ⟨hk, e, he, rfl⟩ := bw_inv hd
    obtain ⟨c1, c2, c3⟩ := hcl e (List.mem_of_getElem? he)
    have hst : okStore tab 36 (cl e) = true := by
      have h1 : Nat.beq (cl e).length 12 = true := by rw [c1]; rfl
      have h2 : (cl e).all (·.oneCell') = true := List.all_eq_true.2 c2
      show (Nat.beq (cl e).length 12 && (cl e).all (·.oneCell')) = true
      rw [h1, h2]; rfl
    refine CS.region (id := 3) ?_
    refine RS.alloc tab_ok rfl rfl (fun b7 => ?_)
    (all_goals refine RS.storeW (k := 0) tab_ok rfl rfl rfl rfl (by rw [c1]; rfl) (fun h => by rw [h] at c1; cases c1) hst ?_)
    (all_goals refine RS.nil ?_)
    refine thenQ.normal ?_
    refine ⟨(b7, .cells (List.toArray (cl e)) 36 (0, 0)) :: ((b5, .cells (List.toArray [.map (some bm)]) 145 (0, 0)) :: (bm, .map (entV (ms)) (c)) :: (bn, .cells (List.toArray [.func (.func 65) #[] #[]]) 118 (0, 0)) :: L), rfl, fun R' => ?_⟩
    refine CS.block ?_
    have q1 : ∀ d u, (cl e)[d]? = some u → (cl e)[0 + d]? = some u := fun d u hu => by rw [Nat.zero_add]; exact hu
    refine CS.draw0 mix [0, 1, 2, 3, 4] [5] (by kernel_rfl) rfl ?_
    (first | refine GS.lv (fun _i _hi => LV.load tab_ok rfl (Has.own 0 rfl) rfl) rfl rfl rfl rfl rfl rfl ?_ | refine GS.lv (fun _i _hi => LV.load tab_ok rfl (Has.own 1 rfl) rfl) rfl rfl rfl rfl rfl rfl ?_ | refine GS.lv (fun _i _hi => LV.load tab_ok rfl (Has.own 2 rfl) rfl) rfl rfl rfl rfl rfl rfl ?_ | refine GS.lv (fun _i _hi => LV.load tab_ok rfl (Has.own 3 rfl) rfl) rfl rfl rfl rfl rfl rfl ?_ | refine GS.lv (fun _i _hi => LV.load tab_ok rfl (Has.own 4 rfl) rfl) rfl rfl rfl rfl rfl rfl ?_)
    refine GS.lv (fun _ _ => LV.loadU Try.underlying118 rfl rfl (Has.own 3 rfl) rfl) rfl rfl rfl rfl rfl rfl ?_
    (all_goals refine GS.lv (fun _ _ => LV.loadL tab_ok rfl (Has.own 0 rfl) (l := cl e) rfl rfl c1 q1) rfl rfl rfl rfl rfl rfl ?_)
    (all_goals refine GS.val0 (v := .string (nm e)) rfl rfl rfl rfl rfl rfl (fun i' hi => OpS.callV rfl (by kernel_rfl) rfl (nameF_65 (cl e) (nm e) _ _ c1 c3) (fun _ _ _ _ ⟨h1, _, h2⟩ => ⟨h2, h1⟩)) ?_)
    (all_goals refine GS.lv (fun _ _ => LV.loadL tab_ok rfl (Has.own 0 rfl) (l := cl e) rfl rfl c1 q1) rfl rfl rfl rfl rfl rfl ?_)
    refine GS.done rfl rfl (fun i5 hi5 => ?_)
    refine RS.drop ?_
    refine RS.mapPut (k := 1) (a := nm e) tab_ok rfl rfl rfl rfl ⟨_, rfl, rfl⟩ ⟨_, rfl, rfl⟩ rfl rfl ?_
    refine RS.nil ?_
    refine blkQ.normal ?_
    refine thenQ.normal ?_
    refine ⟨(b5, .cells (List.toArray [.map (some bm)]) 145 (0, 0)) :: (bm, .map (entV (mput ms (nm e) (.agg (cl e).toArray) c)) (mclk ms (nm e) c)) :: (bn, .cells (List.toArray [.func (.func 65) #[] #[]]) 118 (0, 0)) :: L, rfl, _, _, rfl, ?_⟩
    rw [drop_pred hk he]
    exact hm.put e
  · rintro r i2 L2 hi2 ⟨ms, c, rfl, hm⟩
    refine blkQ.normal ?_
    refine thenQ.normal ?_
    refine CX.of ?_
    repeat' (first
      | refine CS.seq ?_
      | refine thenQ.normal ?_
      | refine CS.cond_true rfl ?_
      | refine CS.cond_false rfl ?_
      | refine CS.skip ?_
      | (refine CS.region (id := 0) ?_;
          refine RS.box rfl rfl (fun b => ?_);
          refine RS.pv (PV.all tab_ok rfl) rfl ?_;
          refine RS.nil ?_)
      | (refine CS.region (id := 1) ?_)
      | (refine CS.region (id := 2) ?_;
          refine RS.pv (PV.all tab_ok rfl) rfl ?_)
      | (refine CS.region (id := 3) ?_;
          refine RS.alloc tab_ok rfl rfl (fun b => ?_);
          (first | refine RS.store (k := 0) tab_ok rfl rfl rfl rfl rfl rfl rfl rfl ?_ | refine RS.store (k := 1) tab_ok rfl rfl rfl rfl rfl rfl rfl rfl ?_ | refine RS.store (k := 2) tab_ok rfl rfl rfl rfl rfl rfl rfl rfl ?_ | refine RS.store (k := 3) tab_ok rfl rfl rfl rfl rfl rfl rfl rfl ?_ | refine RS.store (k := 4) tab_ok rfl rfl rfl rfl rfl rfl rfl rfl ?_);
          refine RS.nil ?_)
      | (refine CS.drawQ (id := 4) mix (by kernel_rfl) ?_;
          (first | refine QS.lv (LV.load tab_ok rfl (Has.own 0 rfl) rfl) rfl ?_ | refine QS.lv (LV.load tab_ok rfl (Has.own 1 rfl) rfl) rfl ?_ | refine QS.lv (LV.load tab_ok rfl (Has.own 2 rfl) rfl) rfl ?_ | refine QS.lv (LV.load tab_ok rfl (Has.own 3 rfl) rfl) rfl ?_ | refine QS.lv (LV.load tab_ok rfl (Has.own 4 rfl) rfl) rfl ?_);
          (first | refine QS.lv (LV.load tab_ok rfl (Has.own 0 rfl) rfl) rfl ?_ | refine QS.lv (LV.load tab_ok rfl (Has.own 1 rfl) rfl) rfl ?_ | refine QS.lv (LV.load tab_ok rfl (Has.own 2 rfl) rfl) rfl ?_ | refine QS.lv (LV.load tab_ok rfl (Has.own 3 rfl) rfl) rfl ?_ | refine QS.lv (LV.load tab_ok rfl (Has.own 4 rfl) rfl) rfl ?_);
          (first | refine QS.lv (LV.load tab_ok rfl (Has.own 0 rfl) rfl) rfl ?_ | refine QS.lv (LV.load tab_ok rfl (Has.own 1 rfl) rfl) rfl ?_ | refine QS.lv (LV.load tab_ok rfl (Has.own 2 rfl) rfl) rfl ?_ | refine QS.lv (LV.load tab_ok rfl (Has.own 3 rfl) rfl) rfl ?_ | refine QS.lv (LV.load tab_ok rfl (Has.own 4 rfl) rfl) rfl ?_))
      | (refine CS.region (id := 5) ?_;
          (first | refine RS.lv (LV.load tab_ok rfl (Has.own 0 rfl) rfl) rfl ?_ | refine RS.lv (LV.load tab_ok rfl (Has.own 1 rfl) rfl) rfl ?_ | refine RS.lv (LV.load tab_ok rfl (Has.own 2 rfl) rfl) rfl ?_ | refine RS.lv (LV.load tab_ok rfl (Has.own 3 rfl) rfl) rfl ?_ | refine RS.lv (LV.load tab_ok rfl (Has.own 4 rfl) rfl) rfl ?_);
          refine RS.pv (PV.all tab_ok rfl) rfl ?_;
          refine RS.nil ?_)
      | refine CS.ret ?_
      | refine thenQ.ret ?_
      | refine blkQ.ret ?_
      | refine retQ.ret ?_
      | refine CS.block ?_
      | refine CS.exit ?_
      | refine thenQ.exit ?_
      | refine blkQ.normal ?_
      | refine blkQ.here ?_
      | refine blkQ.past rfl ?_
      | refine retQ.normal ?_)
    refine ⟨[r], _, rfl, rfl, ?_⟩
    refine ⟨_, _, bm, ms, c, rfl, rfl, ?_⟩
    rw [bw_len, Nat.sub_self, List.drop_zero] at hm
    exact hm
theorem First_95 {E : Type} (cl : E → List Value) (nm : E → ByteArray) (es : List E) (v : Value) (i : Imm) (L : SH) (hcl : ∀ e ∈ es, (cl e).length = 7 ∧ (∀ c ∈ cl e, c.oneCell' = true) ∧ nmAt (cl e) (nm e)) (hs : Sl i v 7 es.length (rowC cl es)) (hn : es.length ≤ 10000000000000) :
    FnS Try.prog 95 [v, .func (.func 67) #[] #[]] i L fun u i' L' => L' = L ∧ ∃ b ms c, u = .map (some b) ∧ i'.blk b = some (.map (entV ms) c) ∧ MapOf (fun e => .agg (cl e).toArray) nm es ms c := by
  obtain ⟨ao, cap, rfl, -⟩ := id hs
  refine FnS.state (K := fun u i' L' => ∃ x y b ms c, u = .map (some b) ∧ L' = x :: (b, .map (entV ms) c) :: y :: L ∧ MapOf (fun e => .agg (cl e).toArray) nm es ms c) ?_ ?_
  rotate_left
  · rintro u i' L' w _ hs ⟨x, y, b, ms, c, rfl, rfl, hm⟩
    obtain ⟨h1, h2⟩ := hs.drop.freeze
    exact ⟨_, _, h1, h2.drop, rfl, b, ms, c, rfl, by simp [Imm.add], hm⟩
  refine FnS.introM Try.func95 rfl Try.ntmps95 (by simp) Try.results95 ?_
  refine CX.seqL ?_
  refine CS.region (id := 0) ?_
  refine RS.box rfl rfl (fun bn => ?_)
  (all_goals refine RS.pv (PV.all tab_ok rfl) rfl ?_)
  (all_goals refine RS.nil ?_)
  refine thenQ.normal ?_
  refine CX.seqL ?_
  refine CS.region (id := 1) ?_
  refine RS.makeMapV rfl (fun bm => ?_)
  (all_goals refine RS.alloc tab_ok rfl rfl (fun b5 => ?_))
  (all_goals (first | refine RS.store (k := 0) tab_ok rfl rfl rfl rfl rfl rfl rfl rfl ?_ | refine RS.store (k := 1) tab_ok rfl rfl rfl rfl rfl rfl rfl rfl ?_ | refine RS.store (k := 2) tab_ok rfl rfl rfl rfl rfl rfl rfl rfl ?_))
  (all_goals refine RS.nil ?_)
  refine thenQ.normal ?_
  refine CX.seq ?_
  refine CX.seqL ?_
  refine CS.region (id := 2) ?_
  refine RS.pv (PV.all tab_ok rfl) rfl ?_
  (refine RS.call (Backward_109 ao es.length cap _ _) rfl (by kernel_rfl) rfl ?_; rintro v i1 L1 hi1 ⟨rfl, bb, rfl, hbb⟩)
  (all_goals refine RS.nil ?_)
  refine thenQ.normal ?_
  refine CX.block ?_
  refine CX.rangeFunc (I := fun k i' L' => ∃ ms c, L' = (b5, .cells (List.toArray [.map (some bm)]) 152 (0, 0)) :: (bm, .map (entV (ms)) (c)) :: (bn, .cells (List.toArray [.func (.func 67) #[] #[]]) 120 (0, 0)) :: L ∧ MapOf (fun e => .agg (cl e).toArray) nm (es.drop (es.length - k)) ms c) rfl (by kernel_rfl) (Iter_118 cl es ao cap bb i1 (fun e he => (hcl e he).1) (hs.le hi1) hn hbb) (fun d hd => ?_) ⟨[], 0, rfl, MapOk.nil, fun a => by simp [firstE, mget], Nat.zero_le _⟩ ?_ ?_
  · obtain ⟨k, hk⟩ := List.getElem?_of_mem hd
    obtain ⟨_, e, _, rfl⟩ := bw_inv hk
    rfl
  · rintro k d i2 L2 R hd hi2 ⟨ms, c, rfl, hm⟩
    obtain ⟨hk, e, he, rfl⟩ := bw_inv hd
    obtain ⟨c1, c2, c3⟩ := hcl e (List.mem_of_getElem? he)
    have hst : okStore tab 109 (cl e) = true := by
      have h1 : Nat.beq (cl e).length 7 = true := by rw [c1]; rfl
      have h2 : (cl e).all (·.oneCell') = true := List.all_eq_true.2 c2
      show (Nat.beq (cl e).length 7 && (cl e).all (·.oneCell')) = true
      rw [h1, h2]; rfl
    refine CS.region (id := 3) ?_
    refine RS.alloc tab_ok rfl rfl (fun b7 => ?_)
    (all_goals refine RS.storeW (k := 0) tab_ok rfl rfl rfl rfl (by rw [c1]; rfl) (fun h => by rw [h] at c1; cases c1) hst ?_)
    (all_goals refine RS.nil ?_)
    refine thenQ.normal ?_
    refine ⟨(b7, .cells (List.toArray (cl e)) 109 (0, 0)) :: ((b5, .cells (List.toArray [.map (some bm)]) 152 (0, 0)) :: (bm, .map (entV (ms)) (c)) :: (bn, .cells (List.toArray [.func (.func 67) #[] #[]]) 120 (0, 0)) :: L), rfl, fun R' => ?_⟩
    refine CS.block ?_
    have q1 : ∀ d u, (cl e)[d]? = some u → (cl e)[0 + d]? = some u := fun d u hu => by rw [Nat.zero_add]; exact hu
    refine CS.draw0 mix [0, 1, 2, 3, 4] [5] (by kernel_rfl) rfl ?_
    (first | refine GS.lv (fun _i _hi => LV.load tab_ok rfl (Has.own 0 rfl) rfl) rfl rfl rfl rfl rfl rfl ?_ | refine GS.lv (fun _i _hi => LV.load tab_ok rfl (Has.own 1 rfl) rfl) rfl rfl rfl rfl rfl rfl ?_ | refine GS.lv (fun _i _hi => LV.load tab_ok rfl (Has.own 2 rfl) rfl) rfl rfl rfl rfl rfl rfl ?_ | refine GS.lv (fun _i _hi => LV.load tab_ok rfl (Has.own 3 rfl) rfl) rfl rfl rfl rfl rfl rfl ?_ | refine GS.lv (fun _i _hi => LV.load tab_ok rfl (Has.own 4 rfl) rfl) rfl rfl rfl rfl rfl rfl ?_)
    refine GS.lv (fun _ _ => LV.loadU Try.underlying120 rfl rfl (Has.own 3 rfl) rfl) rfl rfl rfl rfl rfl rfl ?_
    (all_goals refine GS.lv (fun _ _ => LV.loadL tab_ok rfl (Has.own 0 rfl) (l := cl e) rfl rfl c1 q1) rfl rfl rfl rfl rfl rfl ?_)
    (all_goals refine GS.val0 (v := .string (nm e)) rfl rfl rfl rfl rfl rfl (fun i' hi => OpS.callV rfl (by kernel_rfl) rfl (nameF_67 (cl e) (nm e) _ _ c1 c3) (fun _ _ _ _ ⟨h1, _, h2⟩ => ⟨h2, h1⟩)) ?_)
    (all_goals refine GS.lv (fun _ _ => LV.loadL tab_ok rfl (Has.own 0 rfl) (l := cl e) rfl rfl c1 q1) rfl rfl rfl rfl rfl rfl ?_)
    refine GS.done rfl rfl (fun i5 hi5 => ?_)
    refine RS.drop ?_
    refine RS.mapPut (k := 1) (a := nm e) tab_ok rfl rfl rfl rfl ⟨_, rfl, rfl⟩ ⟨_, rfl, rfl⟩ rfl rfl ?_
    refine RS.nil ?_
    refine blkQ.normal ?_
    refine thenQ.normal ?_
    refine ⟨(b5, .cells (List.toArray [.map (some bm)]) 152 (0, 0)) :: (bm, .map (entV (mput ms (nm e) (.agg (cl e).toArray) c)) (mclk ms (nm e) c)) :: (bn, .cells (List.toArray [.func (.func 67) #[] #[]]) 120 (0, 0)) :: L, rfl, _, _, rfl, ?_⟩
    rw [drop_pred hk he]
    exact hm.put e
  · rintro r i2 L2 hi2 ⟨ms, c, rfl, hm⟩
    refine blkQ.normal ?_
    refine thenQ.normal ?_
    refine CX.of ?_
    repeat' (first
      | refine CS.seq ?_
      | refine thenQ.normal ?_
      | refine CS.cond_true rfl ?_
      | refine CS.cond_false rfl ?_
      | refine CS.skip ?_
      | (refine CS.region (id := 0) ?_;
          refine RS.box rfl rfl (fun b => ?_);
          refine RS.pv (PV.all tab_ok rfl) rfl ?_;
          refine RS.nil ?_)
      | (refine CS.region (id := 1) ?_)
      | (refine CS.region (id := 2) ?_;
          refine RS.pv (PV.all tab_ok rfl) rfl ?_)
      | (refine CS.region (id := 3) ?_;
          refine RS.alloc tab_ok rfl rfl (fun b => ?_);
          (first | refine RS.store (k := 0) tab_ok rfl rfl rfl rfl rfl rfl rfl rfl ?_ | refine RS.store (k := 1) tab_ok rfl rfl rfl rfl rfl rfl rfl rfl ?_ | refine RS.store (k := 2) tab_ok rfl rfl rfl rfl rfl rfl rfl rfl ?_ | refine RS.store (k := 3) tab_ok rfl rfl rfl rfl rfl rfl rfl rfl ?_ | refine RS.store (k := 4) tab_ok rfl rfl rfl rfl rfl rfl rfl rfl ?_);
          refine RS.nil ?_)
      | (refine CS.drawQ (id := 4) mix (by kernel_rfl) ?_;
          (first | refine QS.lv (LV.load tab_ok rfl (Has.own 0 rfl) rfl) rfl ?_ | refine QS.lv (LV.load tab_ok rfl (Has.own 1 rfl) rfl) rfl ?_ | refine QS.lv (LV.load tab_ok rfl (Has.own 2 rfl) rfl) rfl ?_ | refine QS.lv (LV.load tab_ok rfl (Has.own 3 rfl) rfl) rfl ?_ | refine QS.lv (LV.load tab_ok rfl (Has.own 4 rfl) rfl) rfl ?_);
          (first | refine QS.lv (LV.load tab_ok rfl (Has.own 0 rfl) rfl) rfl ?_ | refine QS.lv (LV.load tab_ok rfl (Has.own 1 rfl) rfl) rfl ?_ | refine QS.lv (LV.load tab_ok rfl (Has.own 2 rfl) rfl) rfl ?_ | refine QS.lv (LV.load tab_ok rfl (Has.own 3 rfl) rfl) rfl ?_ | refine QS.lv (LV.load tab_ok rfl (Has.own 4 rfl) rfl) rfl ?_);
          (first | refine QS.lv (LV.load tab_ok rfl (Has.own 0 rfl) rfl) rfl ?_ | refine QS.lv (LV.load tab_ok rfl (Has.own 1 rfl) rfl) rfl ?_ | refine QS.lv (LV.load tab_ok rfl (Has.own 2 rfl) rfl) rfl ?_ | refine QS.lv (LV.load tab_ok rfl (Has.own 3 rfl) rfl) rfl ?_ | refine QS.lv (LV.load tab_ok rfl (Has.own 4 rfl) rfl) rfl ?_))
      | (refine CS.region (id := 5) ?_;
          (first | refine RS.lv (LV.load tab_ok rfl (Has.own 0 rfl) rfl) rfl ?_ | refine RS.lv (LV.load tab_ok rfl (Has.own 1 rfl) rfl) rfl ?_ | refine RS.lv (LV.load tab_ok rfl (Has.own 2 rfl) rfl) rfl ?_ | refine RS.lv (LV.load tab_ok rfl (Has.own 3 rfl) rfl) rfl ?_ | refine RS.lv (LV.load tab_ok rfl (Has.own 4 rfl) rfl) rfl ?_);
          refine RS.pv (PV.all tab_ok rfl) rfl ?_;
          refine RS.nil ?_)
      | refine CS.ret ?_
      | refine thenQ.ret ?_
      | refine blkQ.ret ?_
      | refine retQ.ret ?_
      | refine CS.block ?_
      | refine CS.exit ?_
      | refine thenQ.exit ?_
      | refine blkQ.normal ?_
      | refine blkQ.here ?_
      | refine blkQ.past rfl ?_
      | refine retQ.normal ?_)
    refine ⟨[r], _, rfl, rfl, ?_⟩
    refine ⟨_, _, bm, ms, c, rfl, rfl, ?_⟩
    rw [bw_len, Nat.sub_self, List.drop_zero] at hm
    exact hm
theorem First_96 {E : Type} (cl : E → List Value) (nm : E → ByteArray) (es : List E) (v : Value) (i : Imm) (L : SH) (hcl : ∀ e ∈ es, (cl e).length = 3 ∧ (∀ c ∈ cl e, c.oneCell' = true) ∧ nmAt (cl e) (nm e)) (hs : Sl i v 3 es.length (rowC cl es)) (hn : es.length ≤ 10000000000000) :
    FnS Try.prog 96 [v, .func (.func 70) #[] #[]] i L fun u i' L' => L' = L ∧ ∃ b ms c, u = .map (some b) ∧ i'.blk b = some (.map (entV ms) c) ∧ MapOf (fun e => .agg (cl e).toArray) nm es ms c := by
  obtain ⟨ao, cap, rfl, -⟩ := id hs
  refine FnS.state (K := fun u i' L' => ∃ x y b ms c, u = .map (some b) ∧ L' = x :: (b, .map (entV ms) c) :: y :: L ∧ MapOf (fun e => .agg (cl e).toArray) nm es ms c) ?_ ?_
  rotate_left
  · rintro u i' L' w _ hs ⟨x, y, b, ms, c, rfl, rfl, hm⟩
    obtain ⟨h1, h2⟩ := hs.drop.freeze
    exact ⟨_, _, h1, h2.drop, rfl, b, ms, c, rfl, by simp [Imm.add], hm⟩
  refine FnS.introM Try.func96 rfl Try.ntmps96 (by simp) Try.results96 ?_
  refine CX.seqL ?_
  refine CS.region (id := 0) ?_
  refine RS.box rfl rfl (fun bn => ?_)
  (all_goals refine RS.pv (PV.all tab_ok rfl) rfl ?_)
  (all_goals refine RS.nil ?_)
  refine thenQ.normal ?_
  refine CX.seqL ?_
  refine CS.region (id := 1) ?_
  refine RS.makeMapV rfl (fun bm => ?_)
  (all_goals refine RS.alloc tab_ok rfl rfl (fun b5 => ?_))
  (all_goals (first | refine RS.store (k := 0) tab_ok rfl rfl rfl rfl rfl rfl rfl rfl ?_ | refine RS.store (k := 1) tab_ok rfl rfl rfl rfl rfl rfl rfl rfl ?_ | refine RS.store (k := 2) tab_ok rfl rfl rfl rfl rfl rfl rfl rfl ?_))
  (all_goals refine RS.nil ?_)
  refine thenQ.normal ?_
  refine CX.seq ?_
  refine CX.seqL ?_
  refine CS.region (id := 2) ?_
  refine RS.pv (PV.all tab_ok rfl) rfl ?_
  (refine RS.call (Backward_110 ao es.length cap _ _) rfl (by kernel_rfl) rfl ?_; rintro v i1 L1 hi1 ⟨rfl, bb, rfl, hbb⟩)
  (all_goals refine RS.nil ?_)
  refine thenQ.normal ?_
  refine CX.block ?_
  refine CX.rangeFunc (I := fun k i' L' => ∃ ms c, L' = (b5, .cells (List.toArray [.map (some bm)]) 155 (0, 0)) :: (bm, .map (entV (ms)) (c)) :: (bn, .cells (List.toArray [.func (.func 70) #[] #[]]) 125 (0, 0)) :: L ∧ MapOf (fun e => .agg (cl e).toArray) nm (es.drop (es.length - k)) ms c) rfl (by kernel_rfl) (Iter_119 cl es ao cap bb i1 (fun e he => (hcl e he).1) (hs.le hi1) hn hbb) (fun d hd => ?_) ⟨[], 0, rfl, MapOk.nil, fun a => by simp [firstE, mget], Nat.zero_le _⟩ ?_ ?_
  · obtain ⟨k, hk⟩ := List.getElem?_of_mem hd
    obtain ⟨_, e, _, rfl⟩ := bw_inv hk
    rfl
  · rintro k d i2 L2 R hd hi2 ⟨ms, c, rfl, hm⟩
    obtain ⟨hk, e, he, rfl⟩ := bw_inv hd
    obtain ⟨c1, c2, c3⟩ := hcl e (List.mem_of_getElem? he)
    have hst : okStore tab 124 (cl e) = true := by
      have h1 : Nat.beq (cl e).length 3 = true := by rw [c1]; rfl
      have h2 : (cl e).all (·.oneCell') = true := List.all_eq_true.2 c2
      show (Nat.beq (cl e).length 3 && (cl e).all (·.oneCell')) = true
      rw [h1, h2]; rfl
    refine CS.region (id := 3) ?_
    refine RS.alloc tab_ok rfl rfl (fun b7 => ?_)
    (all_goals refine RS.storeW (k := 0) tab_ok rfl rfl rfl rfl (by rw [c1]; rfl) (fun h => by rw [h] at c1; cases c1) hst ?_)
    (all_goals refine RS.nil ?_)
    refine thenQ.normal ?_
    refine ⟨(b7, .cells (List.toArray (cl e)) 124 (0, 0)) :: ((b5, .cells (List.toArray [.map (some bm)]) 155 (0, 0)) :: (bm, .map (entV (ms)) (c)) :: (bn, .cells (List.toArray [.func (.func 70) #[] #[]]) 125 (0, 0)) :: L), rfl, fun R' => ?_⟩
    refine CS.block ?_
    have q1 : ∀ d u, (cl e)[d]? = some u → (cl e)[0 + d]? = some u := fun d u hu => by rw [Nat.zero_add]; exact hu
    refine CS.draw0 mix [0, 1, 2, 3, 4] [5] (by kernel_rfl) rfl ?_
    (first | refine GS.lv (fun _i _hi => LV.load tab_ok rfl (Has.own 0 rfl) rfl) rfl rfl rfl rfl rfl rfl ?_ | refine GS.lv (fun _i _hi => LV.load tab_ok rfl (Has.own 1 rfl) rfl) rfl rfl rfl rfl rfl rfl ?_ | refine GS.lv (fun _i _hi => LV.load tab_ok rfl (Has.own 2 rfl) rfl) rfl rfl rfl rfl rfl rfl ?_ | refine GS.lv (fun _i _hi => LV.load tab_ok rfl (Has.own 3 rfl) rfl) rfl rfl rfl rfl rfl rfl ?_ | refine GS.lv (fun _i _hi => LV.load tab_ok rfl (Has.own 4 rfl) rfl) rfl rfl rfl rfl rfl rfl ?_)
    refine GS.lv (fun _ _ => LV.loadU Try.underlying125 rfl rfl (Has.own 3 rfl) rfl) rfl rfl rfl rfl rfl rfl ?_
    (all_goals refine GS.lv (fun _ _ => LV.loadL tab_ok rfl (Has.own 0 rfl) (l := cl e) rfl rfl c1 q1) rfl rfl rfl rfl rfl rfl ?_)
    (all_goals refine GS.val0 (v := .string (nm e)) rfl rfl rfl rfl rfl rfl (fun i' hi => OpS.callV rfl (by kernel_rfl) rfl (nameF_70 (cl e) (nm e) _ _ c1 c3) (fun _ _ _ _ ⟨h1, _, h2⟩ => ⟨h2, h1⟩)) ?_)
    (all_goals refine GS.lv (fun _ _ => LV.loadL tab_ok rfl (Has.own 0 rfl) (l := cl e) rfl rfl c1 q1) rfl rfl rfl rfl rfl rfl ?_)
    refine GS.done rfl rfl (fun i5 hi5 => ?_)
    refine RS.drop ?_
    refine RS.mapPut (k := 1) (a := nm e) tab_ok rfl rfl rfl rfl ⟨_, rfl, rfl⟩ ⟨_, rfl, rfl⟩ rfl rfl ?_
    refine RS.nil ?_
    refine blkQ.normal ?_
    refine thenQ.normal ?_
    refine ⟨(b5, .cells (List.toArray [.map (some bm)]) 155 (0, 0)) :: (bm, .map (entV (mput ms (nm e) (.agg (cl e).toArray) c)) (mclk ms (nm e) c)) :: (bn, .cells (List.toArray [.func (.func 70) #[] #[]]) 125 (0, 0)) :: L, rfl, _, _, rfl, ?_⟩
    rw [drop_pred hk he]
    exact hm.put e
  · rintro r i2 L2 hi2 ⟨ms, c, rfl, hm⟩
    refine blkQ.normal ?_
    refine thenQ.normal ?_
    refine CX.of ?_
    repeat' (first
      | refine CS.seq ?_
      | refine thenQ.normal ?_
      | refine CS.cond_true rfl ?_
      | refine CS.cond_false rfl ?_
      | refine CS.skip ?_
      | (refine CS.region (id := 0) ?_;
          refine RS.box rfl rfl (fun b => ?_);
          refine RS.pv (PV.all tab_ok rfl) rfl ?_;
          refine RS.nil ?_)
      | (refine CS.region (id := 1) ?_)
      | (refine CS.region (id := 2) ?_;
          refine RS.pv (PV.all tab_ok rfl) rfl ?_)
      | (refine CS.region (id := 3) ?_;
          refine RS.alloc tab_ok rfl rfl (fun b => ?_);
          (first | refine RS.store (k := 0) tab_ok rfl rfl rfl rfl rfl rfl rfl rfl ?_ | refine RS.store (k := 1) tab_ok rfl rfl rfl rfl rfl rfl rfl rfl ?_ | refine RS.store (k := 2) tab_ok rfl rfl rfl rfl rfl rfl rfl rfl ?_ | refine RS.store (k := 3) tab_ok rfl rfl rfl rfl rfl rfl rfl rfl ?_ | refine RS.store (k := 4) tab_ok rfl rfl rfl rfl rfl rfl rfl rfl ?_);
          refine RS.nil ?_)
      | (refine CS.drawQ (id := 4) mix (by kernel_rfl) ?_;
          (first | refine QS.lv (LV.load tab_ok rfl (Has.own 0 rfl) rfl) rfl ?_ | refine QS.lv (LV.load tab_ok rfl (Has.own 1 rfl) rfl) rfl ?_ | refine QS.lv (LV.load tab_ok rfl (Has.own 2 rfl) rfl) rfl ?_ | refine QS.lv (LV.load tab_ok rfl (Has.own 3 rfl) rfl) rfl ?_ | refine QS.lv (LV.load tab_ok rfl (Has.own 4 rfl) rfl) rfl ?_);
          (first | refine QS.lv (LV.load tab_ok rfl (Has.own 0 rfl) rfl) rfl ?_ | refine QS.lv (LV.load tab_ok rfl (Has.own 1 rfl) rfl) rfl ?_ | refine QS.lv (LV.load tab_ok rfl (Has.own 2 rfl) rfl) rfl ?_ | refine QS.lv (LV.load tab_ok rfl (Has.own 3 rfl) rfl) rfl ?_ | refine QS.lv (LV.load tab_ok rfl (Has.own 4 rfl) rfl) rfl ?_);
          (first | refine QS.lv (LV.load tab_ok rfl (Has.own 0 rfl) rfl) rfl ?_ | refine QS.lv (LV.load tab_ok rfl (Has.own 1 rfl) rfl) rfl ?_ | refine QS.lv (LV.load tab_ok rfl (Has.own 2 rfl) rfl) rfl ?_ | refine QS.lv (LV.load tab_ok rfl (Has.own 3 rfl) rfl) rfl ?_ | refine QS.lv (LV.load tab_ok rfl (Has.own 4 rfl) rfl) rfl ?_))
      | (refine CS.region (id := 5) ?_;
          (first | refine RS.lv (LV.load tab_ok rfl (Has.own 0 rfl) rfl) rfl ?_ | refine RS.lv (LV.load tab_ok rfl (Has.own 1 rfl) rfl) rfl ?_ | refine RS.lv (LV.load tab_ok rfl (Has.own 2 rfl) rfl) rfl ?_ | refine RS.lv (LV.load tab_ok rfl (Has.own 3 rfl) rfl) rfl ?_ | refine RS.lv (LV.load tab_ok rfl (Has.own 4 rfl) rfl) rfl ?_);
          refine RS.pv (PV.all tab_ok rfl) rfl ?_;
          refine RS.nil ?_)
      | refine CS.ret ?_
      | refine thenQ.ret ?_
      | refine blkQ.ret ?_
      | refine retQ.ret ?_
      | refine CS.block ?_
      | refine CS.exit ?_
      | refine thenQ.exit ?_
      | refine blkQ.normal ?_
      | refine blkQ.here ?_
      | refine blkQ.past rfl ?_
      | refine retQ.normal ?_)
    refine ⟨[r], _, rfl, rfl, ?_⟩
    refine ⟨_, _, bm, ms, c, rfl, rfl, ?_⟩
    rw [bw_len, Nat.sub_self, List.drop_zero] at hm
    exact hm
theorem First_97 {E : Type} (cl : E → List Value) (nm : E → ByteArray) (es : List E) (v : Value) (i : Imm) (L : SH) (hcl : ∀ e ∈ es, (cl e).length = 2 ∧ (∀ c ∈ cl e, c.oneCell' = true) ∧ nmAt (cl e) (nm e)) (hs : Sl i v 2 es.length (rowC cl es)) (hn : es.length ≤ 10000000000000) :
    FnS Try.prog 97 [v, .func (.func 73) #[] #[]] i L fun u i' L' => L' = L ∧ ∃ b ms c, u = .map (some b) ∧ i'.blk b = some (.map (entV ms) c) ∧ MapOf (fun e => .agg (cl e).toArray) nm es ms c := by
  obtain ⟨ao, cap, rfl, -⟩ := id hs
  refine FnS.state (K := fun u i' L' => ∃ x y b ms c, u = .map (some b) ∧ L' = x :: (b, .map (entV ms) c) :: y :: L ∧ MapOf (fun e => .agg (cl e).toArray) nm es ms c) ?_ ?_
  rotate_left
  · rintro u i' L' w _ hs ⟨x, y, b, ms, c, rfl, rfl, hm⟩
    obtain ⟨h1, h2⟩ := hs.drop.freeze
    exact ⟨_, _, h1, h2.drop, rfl, b, ms, c, rfl, by simp [Imm.add], hm⟩
  refine FnS.introM Try.func97 rfl Try.ntmps97 (by simp) Try.results97 ?_
  refine CX.seqL ?_
  refine CS.region (id := 0) ?_
  refine RS.box rfl rfl (fun bn => ?_)
  (all_goals refine RS.pv (PV.all tab_ok rfl) rfl ?_)
  (all_goals refine RS.nil ?_)
  refine thenQ.normal ?_
  refine CX.seqL ?_
  refine CS.region (id := 1) ?_
  refine RS.makeMapV rfl (fun bm => ?_)
  (all_goals refine RS.alloc tab_ok rfl rfl (fun b5 => ?_))
  (all_goals (first | refine RS.store (k := 0) tab_ok rfl rfl rfl rfl rfl rfl rfl rfl ?_ | refine RS.store (k := 1) tab_ok rfl rfl rfl rfl rfl rfl rfl rfl ?_ | refine RS.store (k := 2) tab_ok rfl rfl rfl rfl rfl rfl rfl rfl ?_))
  (all_goals refine RS.nil ?_)
  refine thenQ.normal ?_
  refine CX.seq ?_
  refine CX.seqL ?_
  refine CS.region (id := 2) ?_
  refine RS.pv (PV.all tab_ok rfl) rfl ?_
  (refine RS.call (Backward_111 ao es.length cap _ _) rfl (by kernel_rfl) rfl ?_; rintro v i1 L1 hi1 ⟨rfl, bb, rfl, hbb⟩)
  (all_goals refine RS.nil ?_)
  refine thenQ.normal ?_
  refine CX.block ?_
  refine CX.rangeFunc (I := fun k i' L' => ∃ ms c, L' = (b5, .cells (List.toArray [.map (some bm)]) 158 (0, 0)) :: (bm, .map (entV (ms)) (c)) :: (bn, .cells (List.toArray [.func (.func 73) #[] #[]]) 128 (0, 0)) :: L ∧ MapOf (fun e => .agg (cl e).toArray) nm (es.drop (es.length - k)) ms c) rfl (by kernel_rfl) (Iter_120 cl es ao cap bb i1 (fun e he => (hcl e he).1) (hs.le hi1) hn hbb) (fun d hd => ?_) ⟨[], 0, rfl, MapOk.nil, fun a => by simp [firstE, mget], Nat.zero_le _⟩ ?_ ?_
  · obtain ⟨k, hk⟩ := List.getElem?_of_mem hd
    obtain ⟨_, e, _, rfl⟩ := bw_inv hk
    rfl
  · rintro k d i2 L2 R hd hi2 ⟨ms, c, rfl, hm⟩
    obtain ⟨hk, e, he, rfl⟩ := bw_inv hd
    obtain ⟨c1, c2, c3⟩ := hcl e (List.mem_of_getElem? he)
    have hst : okStore tab 103 (cl e) = true := by
      have h1 : Nat.beq (cl e).length 2 = true := by rw [c1]; rfl
      have h2 : (cl e).all (·.oneCell') = true := List.all_eq_true.2 c2
      show (Nat.beq (cl e).length 2 && (cl e).all (·.oneCell')) = true
      rw [h1, h2]; rfl
    refine CS.region (id := 3) ?_
    refine RS.alloc tab_ok rfl rfl (fun b7 => ?_)
    (all_goals refine RS.storeW (k := 0) tab_ok rfl rfl rfl rfl (by rw [c1]; rfl) (fun h => by rw [h] at c1; cases c1) hst ?_)
    (all_goals refine RS.nil ?_)
    refine thenQ.normal ?_
    refine ⟨(b7, .cells (List.toArray (cl e)) 103 (0, 0)) :: ((b5, .cells (List.toArray [.map (some bm)]) 158 (0, 0)) :: (bm, .map (entV (ms)) (c)) :: (bn, .cells (List.toArray [.func (.func 73) #[] #[]]) 128 (0, 0)) :: L), rfl, fun R' => ?_⟩
    refine CS.block ?_
    have q1 : ∀ d u, (cl e)[d]? = some u → (cl e)[0 + d]? = some u := fun d u hu => by rw [Nat.zero_add]; exact hu
    refine CS.draw0 mix [0, 1, 2, 3, 4] [5] (by kernel_rfl) rfl ?_
    (first | refine GS.lv (fun _i _hi => LV.load tab_ok rfl (Has.own 0 rfl) rfl) rfl rfl rfl rfl rfl rfl ?_ | refine GS.lv (fun _i _hi => LV.load tab_ok rfl (Has.own 1 rfl) rfl) rfl rfl rfl rfl rfl rfl ?_ | refine GS.lv (fun _i _hi => LV.load tab_ok rfl (Has.own 2 rfl) rfl) rfl rfl rfl rfl rfl rfl ?_ | refine GS.lv (fun _i _hi => LV.load tab_ok rfl (Has.own 3 rfl) rfl) rfl rfl rfl rfl rfl rfl ?_ | refine GS.lv (fun _i _hi => LV.load tab_ok rfl (Has.own 4 rfl) rfl) rfl rfl rfl rfl rfl rfl ?_)
    refine GS.lv (fun _ _ => LV.loadU Try.underlying128 rfl rfl (Has.own 3 rfl) rfl) rfl rfl rfl rfl rfl rfl ?_
    (all_goals refine GS.lv (fun _ _ => LV.loadL tab_ok rfl (Has.own 0 rfl) (l := cl e) rfl rfl c1 q1) rfl rfl rfl rfl rfl rfl ?_)
    (all_goals refine GS.val0 (v := .string (nm e)) rfl rfl rfl rfl rfl rfl (fun i' hi => OpS.callV rfl (by kernel_rfl) rfl (nameF_73 (cl e) (nm e) _ _ c1 c3) (fun _ _ _ _ ⟨h1, _, h2⟩ => ⟨h2, h1⟩)) ?_)
    (all_goals refine GS.lv (fun _ _ => LV.loadL tab_ok rfl (Has.own 0 rfl) (l := cl e) rfl rfl c1 q1) rfl rfl rfl rfl rfl rfl ?_)
    refine GS.done rfl rfl (fun i5 hi5 => ?_)
    refine RS.drop ?_
    refine RS.mapPut (k := 1) (a := nm e) tab_ok rfl rfl rfl rfl ⟨_, rfl, rfl⟩ ⟨_, rfl, rfl⟩ rfl rfl ?_
    refine RS.nil ?_
    refine blkQ.normal ?_
    refine thenQ.normal ?_
    refine ⟨(b5, .cells (List.toArray [.map (some bm)]) 158 (0, 0)) :: (bm, .map (entV (mput ms (nm e) (.agg (cl e).toArray) c)) (mclk ms (nm e) c)) :: (bn, .cells (List.toArray [.func (.func 73) #[] #[]]) 128 (0, 0)) :: L, rfl, _, _, rfl, ?_⟩
    rw [drop_pred hk he]
    exact hm.put e
  · rintro r i2 L2 hi2 ⟨ms, c, rfl, hm⟩
    refine blkQ.normal ?_
    refine thenQ.normal ?_
    refine CX.of ?_
    repeat' (first
      | refine CS.seq ?_
      | refine thenQ.normal ?_
      | refine CS.cond_true rfl ?_
      | refine CS.cond_false rfl ?_
      | refine CS.skip ?_
      | (refine CS.region (id := 0) ?_;
          refine RS.box rfl rfl (fun b => ?_);
          refine RS.pv (PV.all tab_ok rfl) rfl ?_;
          refine RS.nil ?_)
      | (refine CS.region (id := 1) ?_)
      | (refine CS.region (id := 2) ?_;
          refine RS.pv (PV.all tab_ok rfl) rfl ?_)
      | (refine CS.region (id := 3) ?_;
          refine RS.alloc tab_ok rfl rfl (fun b => ?_);
          (first | refine RS.store (k := 0) tab_ok rfl rfl rfl rfl rfl rfl rfl rfl ?_ | refine RS.store (k := 1) tab_ok rfl rfl rfl rfl rfl rfl rfl rfl ?_ | refine RS.store (k := 2) tab_ok rfl rfl rfl rfl rfl rfl rfl rfl ?_ | refine RS.store (k := 3) tab_ok rfl rfl rfl rfl rfl rfl rfl rfl ?_ | refine RS.store (k := 4) tab_ok rfl rfl rfl rfl rfl rfl rfl rfl ?_);
          refine RS.nil ?_)
      | (refine CS.drawQ (id := 4) mix (by kernel_rfl) ?_;
          (first | refine QS.lv (LV.load tab_ok rfl (Has.own 0 rfl) rfl) rfl ?_ | refine QS.lv (LV.load tab_ok rfl (Has.own 1 rfl) rfl) rfl ?_ | refine QS.lv (LV.load tab_ok rfl (Has.own 2 rfl) rfl) rfl ?_ | refine QS.lv (LV.load tab_ok rfl (Has.own 3 rfl) rfl) rfl ?_ | refine QS.lv (LV.load tab_ok rfl (Has.own 4 rfl) rfl) rfl ?_);
          (first | refine QS.lv (LV.load tab_ok rfl (Has.own 0 rfl) rfl) rfl ?_ | refine QS.lv (LV.load tab_ok rfl (Has.own 1 rfl) rfl) rfl ?_ | refine QS.lv (LV.load tab_ok rfl (Has.own 2 rfl) rfl) rfl ?_ | refine QS.lv (LV.load tab_ok rfl (Has.own 3 rfl) rfl) rfl ?_ | refine QS.lv (LV.load tab_ok rfl (Has.own 4 rfl) rfl) rfl ?_);
          (first | refine QS.lv (LV.load tab_ok rfl (Has.own 0 rfl) rfl) rfl ?_ | refine QS.lv (LV.load tab_ok rfl (Has.own 1 rfl) rfl) rfl ?_ | refine QS.lv (LV.load tab_ok rfl (Has.own 2 rfl) rfl) rfl ?_ | refine QS.lv (LV.load tab_ok rfl (Has.own 3 rfl) rfl) rfl ?_ | refine QS.lv (LV.load tab_ok rfl (Has.own 4 rfl) rfl) rfl ?_))
      | (refine CS.region (id := 5) ?_;
          (first | refine RS.lv (LV.load tab_ok rfl (Has.own 0 rfl) rfl) rfl ?_ | refine RS.lv (LV.load tab_ok rfl (Has.own 1 rfl) rfl) rfl ?_ | refine RS.lv (LV.load tab_ok rfl (Has.own 2 rfl) rfl) rfl ?_ | refine RS.lv (LV.load tab_ok rfl (Has.own 3 rfl) rfl) rfl ?_ | refine RS.lv (LV.load tab_ok rfl (Has.own 4 rfl) rfl) rfl ?_);
          refine RS.pv (PV.all tab_ok rfl) rfl ?_;
          refine RS.nil ?_)
      | refine CS.ret ?_
      | refine thenQ.ret ?_
      | refine blkQ.ret ?_
      | refine retQ.ret ?_
      | refine CS.block ?_
      | refine CS.exit ?_
      | refine thenQ.exit ?_
      | refine blkQ.normal ?_
      | refine blkQ.here ?_
      | refine blkQ.past rfl ?_
      | refine retQ.normal ?_)
    refine ⟨[r], _, rfl, rfl, ?_⟩
    refine ⟨_, _, bm, ms, c, rfl, rfl, ?_⟩
    rw [bw_len, Nat.sub_self, List.drop_zero] at hm
    exact hm
theorem First_98 (es : List ByteArray) (v : Value) (i : Imm) (L : SH) (hs : Sl i v 1 es.length (strs es)) (hn : es.length ≤ 10000000000000) :
    FnS Try.prog 98 [v, .func (.func 76) #[] #[]] i L fun u i' L' => L' = L ∧ ∃ b ms c, u = .map (some b) ∧ i'.blk b = some (.map (entV ms) c) ∧ MapOf Value.string id es ms c := by
  obtain ⟨ao, cap, rfl, -⟩ := id hs
  refine FnS.state (K := fun u i' L' => ∃ x y b ms c, u = .map (some b) ∧ L' = x :: (b, .map (entV ms) c) :: y :: L ∧ MapOf Value.string id es ms c) ?_ ?_
  rotate_left
  · rintro u i' L' w _ hs ⟨x, y, b, ms, c, rfl, rfl, hm⟩
    obtain ⟨h1, h2⟩ := hs.drop.freeze
    exact ⟨_, _, h1, h2.drop, rfl, b, ms, c, rfl, by simp [Imm.add], hm⟩
  refine FnS.introM Try.func98 rfl Try.ntmps98 (by simp) Try.results98 ?_
  refine CX.seqL ?_
  refine CS.region (id := 0) ?_
  refine RS.box rfl rfl (fun bn => ?_)
  (all_goals refine RS.pv (PV.all tab_ok rfl) rfl ?_)
  (all_goals refine RS.nil ?_)
  refine thenQ.normal ?_
  refine CX.seqL ?_
  refine CS.region (id := 1) ?_
  refine RS.makeMapV rfl (fun bm => ?_)
  (all_goals refine RS.alloc tab_ok rfl rfl (fun b5 => ?_))
  (all_goals (first | refine RS.store (k := 0) tab_ok rfl rfl rfl rfl rfl rfl rfl rfl ?_ | refine RS.store (k := 1) tab_ok rfl rfl rfl rfl rfl rfl rfl rfl ?_ | refine RS.store (k := 2) tab_ok rfl rfl rfl rfl rfl rfl rfl rfl ?_))
  (all_goals refine RS.nil ?_)
  refine thenQ.normal ?_
  refine CX.seq ?_
  refine CX.seqL ?_
  refine CS.region (id := 2) ?_
  refine RS.pv (PV.all tab_ok rfl) rfl ?_
  (refine RS.call (Backward_112 ao es.length cap _ _) rfl (by kernel_rfl) rfl ?_; rintro v i1 L1 hi1 ⟨rfl, bb, rfl, hbb⟩)
  (all_goals refine RS.nil ?_)
  refine thenQ.normal ?_
  refine CX.block ?_
  refine CX.rangeFunc (I := fun k i' L' => ∃ ms c, L' = (b5, .cells (List.toArray [.map (some bm)]) 161 (0, 0)) :: (bm, .map (entV (ms)) (c)) :: (bn, .cells (List.toArray [.func (.func 76) #[] #[]]) 131 (0, 0)) :: L ∧ MapOf Value.string id (es.drop (es.length - k)) ms c) rfl (by kernel_rfl) (Iter_121 es ao cap bb i1 (hs.le hi1) hn hbb) (fun d hd => ?_) ⟨[], 0, rfl, MapOk.nil, fun a => by simp [firstE, mget], Nat.zero_le _⟩ ?_ ?_
  · obtain ⟨k, hk⟩ := List.getElem?_of_mem hd
    obtain ⟨_, e, _, rfl⟩ := bw_inv hk
    rfl
  · rintro k d i2 L2 R hd hi2 ⟨ms, c, rfl, hm⟩
    obtain ⟨hk, e, he, rfl⟩ := bw_inv hd
    refine CS.region (id := 3) ?_
    refine RS.pv (PV.all tab_ok rfl) rfl ?_
    refine RS.nil ?_
    refine thenQ.normal ?_
    refine ⟨(b5, .cells (List.toArray [.map (some bm)]) 161 (0, 0)) :: (bm, .map (entV (ms)) (c)) :: (bn, .cells (List.toArray [.func (.func 76) #[] #[]]) 131 (0, 0)) :: L, rfl, fun R' => ?_⟩
    refine CS.block ?_
    refine CS.draw0 mix [0, 1, 2, 3, 4] [5] (by kernel_rfl) rfl ?_
    (first | refine GS.lv (fun _i _hi => LV.load tab_ok rfl (Has.own 0 rfl) rfl) rfl rfl rfl rfl rfl rfl ?_ | refine GS.lv (fun _i _hi => LV.load tab_ok rfl (Has.own 1 rfl) rfl) rfl rfl rfl rfl rfl rfl ?_ | refine GS.lv (fun _i _hi => LV.load tab_ok rfl (Has.own 2 rfl) rfl) rfl rfl rfl rfl rfl rfl ?_ | refine GS.lv (fun _i _hi => LV.load tab_ok rfl (Has.own 3 rfl) rfl) rfl rfl rfl rfl rfl rfl ?_ | refine GS.lv (fun _i _hi => LV.load tab_ok rfl (Has.own 4 rfl) rfl) rfl rfl rfl rfl rfl rfl ?_)
    refine GS.lv (fun _ _ => LV.loadU Try.underlying131 rfl rfl (Has.own 2 rfl) rfl) rfl rfl rfl rfl rfl rfl ?_
    (all_goals refine GS.pv (PV.all tab_ok rfl) rfl rfl rfl rfl rfl rfl ?_)
    (all_goals refine GS.val0 (v := .string e) rfl rfl rfl rfl rfl rfl (fun i' hi => OpS.callV rfl (by kernel_rfl) rfl (nameF_76 e _ _) (fun _ _ _ _ ⟨h1, _, h2⟩ => ⟨h2, h1⟩)) ?_)
    (all_goals refine GS.pv (PV.all tab_ok rfl) rfl rfl rfl rfl rfl rfl ?_)
    refine GS.done rfl rfl (fun i5 hi5 => ?_)
    refine RS.mapPut (k := 1) (a := e) tab_ok rfl rfl rfl rfl ⟨_, rfl, rfl⟩ ⟨_, rfl, rfl⟩ rfl rfl ?_
    refine RS.nil ?_
    refine blkQ.normal ?_
    refine thenQ.normal ?_
    refine ⟨(b5, .cells (List.toArray [.map (some bm)]) 161 (0, 0)) :: (bm, .map (entV (mput ms e (.string e) c)) (mclk ms e c)) :: (bn, .cells (List.toArray [.func (.func 76) #[] #[]]) 131 (0, 0)) :: L, rfl, _, _, rfl, ?_⟩
    rw [drop_pred hk he]
    exact hm.put e
  · rintro r i2 L2 hi2 ⟨ms, c, rfl, hm⟩
    refine blkQ.normal ?_
    refine thenQ.normal ?_
    refine CX.of ?_
    repeat' (first
      | refine CS.seq ?_
      | refine thenQ.normal ?_
      | refine CS.cond_true rfl ?_
      | refine CS.cond_false rfl ?_
      | refine CS.skip ?_
      | (refine CS.region (id := 0) ?_;
          refine RS.box rfl rfl (fun b => ?_);
          refine RS.pv (PV.all tab_ok rfl) rfl ?_;
          refine RS.nil ?_)
      | (refine CS.region (id := 1) ?_)
      | (refine CS.region (id := 2) ?_;
          refine RS.pv (PV.all tab_ok rfl) rfl ?_)
      | (refine CS.region (id := 3) ?_;
          refine RS.pv (PV.all tab_ok rfl) rfl ?_;
          refine RS.nil ?_)
      | (refine CS.drawQ (id := 4) mix (by kernel_rfl) ?_;
          (first | refine QS.lv (LV.load tab_ok rfl (Has.own 0 rfl) rfl) rfl ?_ | refine QS.lv (LV.load tab_ok rfl (Has.own 1 rfl) rfl) rfl ?_ | refine QS.lv (LV.load tab_ok rfl (Has.own 2 rfl) rfl) rfl ?_ | refine QS.lv (LV.load tab_ok rfl (Has.own 3 rfl) rfl) rfl ?_ | refine QS.lv (LV.load tab_ok rfl (Has.own 4 rfl) rfl) rfl ?_);
          (first | refine QS.lv (LV.load tab_ok rfl (Has.own 0 rfl) rfl) rfl ?_ | refine QS.lv (LV.load tab_ok rfl (Has.own 1 rfl) rfl) rfl ?_ | refine QS.lv (LV.load tab_ok rfl (Has.own 2 rfl) rfl) rfl ?_ | refine QS.lv (LV.load tab_ok rfl (Has.own 3 rfl) rfl) rfl ?_ | refine QS.lv (LV.load tab_ok rfl (Has.own 4 rfl) rfl) rfl ?_);
          refine QS.pv (PV.all tab_ok rfl) rfl ?_)
      | (refine CS.region (id := 5) ?_;
          (first | refine RS.lv (LV.load tab_ok rfl (Has.own 0 rfl) rfl) rfl ?_ | refine RS.lv (LV.load tab_ok rfl (Has.own 1 rfl) rfl) rfl ?_ | refine RS.lv (LV.load tab_ok rfl (Has.own 2 rfl) rfl) rfl ?_ | refine RS.lv (LV.load tab_ok rfl (Has.own 3 rfl) rfl) rfl ?_ | refine RS.lv (LV.load tab_ok rfl (Has.own 4 rfl) rfl) rfl ?_);
          refine RS.pv (PV.all tab_ok rfl) rfl ?_;
          refine RS.nil ?_)
      | refine CS.ret ?_
      | refine thenQ.ret ?_
      | refine blkQ.ret ?_
      | refine retQ.ret ?_
      | refine CS.block ?_
      | refine CS.exit ?_
      | refine thenQ.exit ?_
      | refine blkQ.normal ?_
      | refine blkQ.here ?_
      | refine blkQ.past rfl ?_
      | refine retQ.normal ?_)
    refine ⟨[r], _, rfl, rfl, ?_⟩
    refine ⟨_, _, bm, ms, c, rfl, rfl, ?_⟩
    rw [bw_len, Nat.sub_self, List.drop_zero] at hm
    exact hm
end Go.Proofs.Ytmcajldlcomegaa
