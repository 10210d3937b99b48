/- The reference's pool: rows of cells, setting a job, its jobs and room. -/
import Derived.Test.YtmcajldlcomegaaW24
namespace Go.Proofs.Ytmcajldlcomegaa
open Go Go.Eng

/-- rows of cells, each as told -/
def Rw {α : Type} (V : List Value → α → Prop) (cs : List Value) (l : List α) : Prop :=
  ∃ rows : List (List Value), cs = rows.flatten ∧ rows.length = l.length ∧ ∀ (k : Nat) (o : α), l[k]? = some o → ∃ r, rows[k]? = some r ∧ V r o
section
variable {α : Type} {V : List Value → α → Prop} {cs : List Value} {l : List α} {k w : Nat} {o : α}
theorem flatten_len {w : Nat} : ∀ {rows : List (List Value)}, (∀ r ∈ rows, r.length = w) → rows.flatten.length = rows.length * w
  | [], _ => by simp
  | r :: rows, h => by
    have h1 := h r (List.mem_cons_self ..)
    have h2 := flatten_len (rows := rows) fun x hx => h x (List.mem_cons_of_mem _ hx)
    rw [List.flatten_cons, List.length_append, h1, h2, List.length_cons, Nat.add_mul]
    omega
theorem Rw.rows (hV : ∀ r o, V r o → r.length = w) {rows : List (List Value)} (h2 : rows.length = l.length) (h3 : ∀ (k : Nat) (o : α), l[k]? = some o → ∃ r, rows[k]? = some r ∧ V r o) : ∀ r ∈ rows, r.length = w := by
  intro r hr
  obtain ⟨k, hk⟩ := List.mem_iff_getElem?.1 hr
  have hlt := (List.getElem?_eq_some_iff.1 hk).1
  obtain ⟨r', h4, h5⟩ := h3 k l[k] (List.getElem?_eq_getElem (by omega))
  rw [hk] at h4; cases h4
  exact hV _ _ h5
theorem Rw.len (hV : ∀ r o, V r o → r.length = w) (h : Rw V cs l) : cs.length = l.length * w := by
  obtain ⟨rows, rfl, h2, h3⟩ := h
  rw [flatten_len (Rw.rows hV h2 h3), h2]
theorem Rw.at (hV : ∀ r o, V r o → r.length = w) (h : Rw V cs l) (hk : l[k]? = some o) : ∃ r, V r o ∧ ∀ d, d < w → cs[k * w + d]? = r[d]? := by
  obtain ⟨rows, rfl, h2, h3⟩ := h
  obtain ⟨r, h4, h5⟩ := h3 k o hk
  have hw := Rw.rows hV h2 h3
  obtain ⟨A, B, rfl, rfl, _⟩ := split_at h4
  refine ⟨r, h5, fun d hd => ?_⟩
  have hA := flatten_len (rows := A) fun x hx => hw x (List.mem_append_left _ hx)
  have hr := hV _ _ h5
  rw [List.flatten_append, List.flatten_cons, ← hA, List.getElem?_append_right (by omega), Nat.add_sub_cancel_left, List.getElem?_append_left (by omega)]
theorem Rw.set (hV : ∀ r o, V r o → r.length = w) (h : Rw V cs l) (hk : k < l.length) {r' : List Value} {o' : α} (hr : V r' o') (sp : List Value) : ∃ cs', putAt (cs ++ sp) (k * w) r' = some (cs' ++ sp) ∧ Rw V cs' (l.set k o') := by
  obtain ⟨rows, rfl, h2, h3⟩ := h
  obtain ⟨r, h4, h5⟩ := h3 k l[k] (List.getElem?_eq_getElem hk)
  have hw := Rw.rows hV h2 h3
  obtain ⟨A, B, h6, h7, h8⟩ := split_at h4
  have hA := flatten_len (rows := A) fun x hx => hw x (by rw [h6]; exact List.mem_append_left _ hx)
  refine ⟨(rows.set k r').flatten, ?_, rows.set k r', rfl, by simp [h2], fun j o hj => ?_⟩
  · rw [h8, h6, ← h7, ← hA]
    simp only [List.flatten_append, List.flatten_cons, List.append_assoc]
    exact putAt_mid r' r A.flatten (B.flatten ++ sp) (by rw [hV _ _ h5, hV _ _ hr])
  · rw [List.getElem?_set] at hj ⊢
    split at hj
    · rename_i e
      subst e
      rw [if_pos rfl]
      cases hj
      rw [if_pos (by omega)]
      exact ⟨r', rfl, hr⟩
    · rename_i e
      rw [if_neg e]
      exact h3 j o hj
theorem Rw.snoc (h : Rw V cs l) {r : List Value} {o : α} (hr : V r o) : Rw V (cs ++ r) (l ++ [o]) := by
  obtain ⟨rows, rfl, h2, h3⟩ := h
  refine ⟨rows ++ [r], by simp, by simp [h2], fun k o' hk => ?_⟩
  rcases Nat.lt_or_ge k l.length with h | h
  · rw [List.getElem?_append_left h] at hk
    rw [List.getElem?_append_left (by omega)]
    exact h3 k o' hk
  · rw [List.getElem?_append_right h] at hk
    rw [List.getElem?_append_right (by omega), h2]
    have : k - l.length = 0 := by have := (List.getElem?_eq_some_iff.1 hk).1; simp at this; omega
    rw [this] at hk ⊢
    cases hk
    exact ⟨r, rfl, hr⟩
theorem Rw.nil : Rw V [] [] := ⟨[], rfl, rfl, fun k o h => by cases h⟩
theorem Rw.mono {V' : List Value → α → Prop} (h : Rw V cs l) (hv : ∀ r o, V r o → V' r o) : Rw V' cs l := by
  obtain ⟨rows, h1, h2, h3⟩ := h
  exact ⟨rows, h1, h2, fun k o hk => by obtain ⟨r, h4, h5⟩ := h3 k o hk; exact ⟨r, h4, hv _ _ h5⟩⟩
end
theorem JobV.len {i : Imm} (r : List Value) (j : JobD) (h : JobV i r j) : r.length = 14 := by
  obtain ⟨rc, rfl, h2⟩ := h
  simp [h2.one.1]
theorem RowV.len {i : Imm} (r : List Value) (o : Option JobD) (h : RowV i r o) : r.length = 14 := by
  cases o with
  | none => rw [show r = zrow from h]; rfl
  | some j => exact JobV.len r j h
theorem JL.rw {i : Imm} {cs : List Value} {l : List JobD} (h : JL i cs l) : Rw (JobV i) cs l := by
  induction h with
  | nil => exact Rw.nil
  | snoc _ h2 ih => exact ih.snoc h2
theorem JobV.one {i : Imm} {r : List Value} {j : JobD} (h : JobV i r j) : ∀ c ∈ r, c.oneCell' = true := by
  obtain ⟨rc, rfl, h2⟩ := h
  obtain ⟨a2, c2, a3, c3, a4, c4, a5, c5, a6, c6, rfl⟩ := h2.lit
  intro c hc
  simp only [List.mem_cons, List.not_mem_nil, or_false] at hc
  rcases hc with rfl | rfl | rfl | rfl | rfl | rfl | rfl | rfl | rfl | rfl | rfl | rfl | rfl | rfl <;> rfl
theorem RowV.one {i : Imm} {r : List Value} {o : Option JobD} (h : RowV i r o) : ∀ c ∈ r, c.oneCell' = true := by
  cases o with
  | some j => exact JobV.one h
  | none =>
    rw [show r = zrow from h]
    intro c hc
    simp only [zrow, rzc, List.mem_cons, List.not_mem_nil, or_false] at hc
    rcases hc with rfl | rfl | rfl | rfl | rfl | rfl | rfl | rfl | rfl | rfl | rfl | rfl | rfl | rfl <;> rfl
def idxD : Option JobD → Int
  | some j => j.index
  | none => 0
theorem RowV.lit {i : Imm} {r : List Value} {o : Option JobD} (h : RowV i r o) : ∃ x l s n a2 n2 c2 a3 n3 c3 a4 n4 c4 a5 n5 c5 a6 n6 c6 nm pr ow gr md, r = [.int .i64 x, .int .i64 l, .string s, .int .i64 n, .slice a2 n2 c2, .slice a3 n3 c3, .slice a4 n4 c4, .slice a5 n5 c5, .slice a6 n6 c6, .string nm, .int .i64 pr, .string ow, .string gr, .int .i64 md] ∧ x = idxD o := by
  cases o with
  | some j =>
    obtain ⟨rc, rfl, h2⟩ := h
    obtain ⟨a2, c2, a3, c3, a4, c4, a5, c5, a6, c6, rfl⟩ := h2.lit
    exact ⟨_, _, _, _, _, _, _, _, _, _, _, _, _, _, _, _, _, _, _, _, _, _, _, _, rfl, rfl⟩
  | none =>
    have e : r = zrow := h
    subst e
    exact ⟨_, _, _, _, _, _, _, _, _, _, _, _, _, _, _, _, _, _, _, _, _, _, _, _, rfl, rfl⟩
theorem Rw.one {i : Imm} {cs : List Value} {l : List (Option JobD)} (h : Rw (RowV i) cs l) : ∀ c ∈ cs, c.oneCell' = true := by
  obtain ⟨rows, rfl, h2, h3⟩ := h
  intro c hc
  obtain ⟨r, hr, hcr⟩ := List.mem_flatten.1 hc
  obtain ⟨k, hk⟩ := List.mem_iff_getElem?.1 hr
  have hlt := (List.getElem?_eq_some_iff.1 hk).1
  obtain ⟨r', h4, h5⟩ := h3 k l[k] (List.getElem?_eq_getElem (by omega))
  rw [hk] at h4; cases h4
  exact RowV.one h5 c hcr
/-- the reference's pool as a value, its jobs sound -/
structure RefS (i : Imm) (v : Value) (nw : Nat) (l : List (Option JobD)) : Prop where
  ref : RefV i v nw l
  pos : 1 ≤ nw
  le : nw ≤ 8
  job : ∀ j, some j ∈ l → 1 ≤ j.index ∧ 1 ≤ j.left ∧ j.left ≤ 16000 ∧ j.rcd.ok
theorem RefS.up {i i' : Imm} {v : Value} {nw : Nat} {l : List (Option JobD)} (h : RefS i v nw l) (hi : i.le i') : RefS i' v nw l := ⟨h.ref.le hi, h.pos, h.le, h.job⟩

theorem set_s (v : Value) (nw k : Nat) (l : List (Option JobD)) (jc : List Value) (o : Option JobD) (i : Imm) (L : SH) (hv : RefV i v nw l) (hw : nw ≤ 8) (hk : k < nw) (hj : RowV i jc o) :
    FnS Try.prog 88 [v, .int .i64 k, .agg jc.toArray] i L fun v' i' L' => RefV i' v' nw (l.set k o) ∧ L' = L := by
  obtain ⟨sv, cs, rfl, hs, hrw, hl⟩ := hv
  obtain ⟨ao, cap, rfl, hcl, _⟩ := id hs
  obtain ⟨x1, x2, x3, x4, a2, n2, c2, a3, n3, c3, a4, n4, c4, a5, n5, c5, a6, n6, c6, x5, x6, x7, x8, x9, hjc, _⟩ := hj.lit
  refine FnS.state (K := fun v' i' L' => ∃ O cs' ao' cap' b1 b2 b3, v' = .agg #[.slice ao' nw cap'] ∧ SlO 41 (.slice ao' nw cap') 14 nw cs' O ∧ RowsV i' cs' (l.set k o) ∧ L' = O ++ (b1 :: b2 :: b3 :: L)) ?_ ?_
  rotate_left
  · rintro v' i' L' w _ hst ⟨O, cs', ao', cap', b1, b2, b3, rfl, hO, hr, rfl⟩
    obtain ⟨i2, h3, h4, h5⟩ := hO.freeze hst
    refine ⟨i2, L, h3, h4.drop.drop.drop, ⟨_, _, rfl, h5, ?_, by simp [hl]⟩, rfl⟩
    exact Rw.mono (V' := RowV i2) hr fun r o h => h.le h3
  subst hjc
  refine FnS.introC tab_ok Try.func88 rfl Try.ntmps88 (by simp) Try.results88 ?_
  repeat' (first
    | refine CS.seq ?_
    | refine thenQ.normal ?_
    | refine CS.cond_true rfl ?_
    | refine CS.cond_false rfl ?_
    | refine CS.skip ?_
    | (refine CS.region (id := 0) ?_;
        refine RS.box rfl rfl (fun b => ?_);
        refine RS.box rfl rfl (fun b => ?_);
        refine RS.alloc tab_ok rfl rfl (fun b => ?_);
        refine RS.nil ?_)
    | (refine CS.region (id := 1) ?_;
        refine RS.pv (PV.all tab_ok rfl) rfl ?_;
        (first | refine RS.lv (LV.load tab_ok rfl (Has.own 0 rfl) rfl) rfl ?_ | refine RS.lv (LV.load tab_ok rfl (Has.own 1 rfl) rfl) rfl ?_ | refine RS.lv (LV.load tab_ok rfl (Has.own 2 rfl) rfl) rfl ?_);
        (refine RS.append tab_ok (sz := 14) (bytes := 224) (k := 0) (m := nw) (xs := []) (news := cs) rfl rfl rfl ⟨_, rfl, rfl⟩ ⟨_, rfl, rfl, rfl⟩ (by omega) (SlO.nil 41 14) rfl (hs.rd _) (Rw.one hrw) (by omega) (by omega) ?_; intro v' O' hO' hnil; rw [Nat.zero_add, List.nil_append] at hO'; obtain ⟨ao', cap', rfl⟩ := SlO.shape hO');
        (all_goals refine RS.pv (PV.all tab_ok rfl) rfl ?_);
        (all_goals refine RS.nil ?_))
    | refine CS.ret ?_
    | refine thenQ.ret ?_
    | refine blkQ.ret ?_
    | refine retQ.ret ?_
    | refine CS.block ?_
    | refine CS.exit ?_
    | refine thenQ.exit ?_
    | refine blkQ.normal ?_
    | refine blkQ.here ?_
    | refine blkQ.past rfl ?_
    | refine retQ.normal ?_)
  obtain ⟨_, ⟨h0, h01, _⟩ | ⟨g, cap2, sp, h3, h4, h5, rfl⟩⟩ := hO'
  · omega
  cases h3
  obtain ⟨cs', hput, hrw'⟩ := Rw.set (V := RowV i) RowV.len hrw (k := k) (by omega) hj sp
  have hput' : putAt (cs ++ sp) (0 + ((k : Nat) : Int).toNat * 14) [.int .i64 x1, .int .i64 x2, .string x3, .int .i64 x4, .slice a2 n2 c2, .slice a3 n3 c3, .slice a4 n4 c4, .slice a5 n5 c5, .slice a6 n6 c6, .string x5, .int .i64 x6, .string x7, .string x8, .int .i64 x9] = some (cs' ++ sp) := by
    rw [Nat.zero_add, Int.toNat_natCast]; exact hput
  have hcl' : cs'.length = nw * 14 := by have := Rw.len (V := RowV i) RowV.len hrw'; simp only [List.length_set] at this; rw [this, hl]
  repeat' (first
    | refine CS.seq ?_
    | refine thenQ.normal ?_
    | refine CS.cond_true rfl ?_
    | refine CS.cond_false rfl ?_
    | refine CS.skip ?_
    | (refine CS.region (id := 0) ?_;
        refine RS.box rfl rfl (fun b => ?_);
        refine RS.box rfl rfl (fun b => ?_);
        refine RS.alloc tab_ok rfl rfl (fun b => ?_);
        refine RS.nil ?_)
    | (refine CS.region (id := 2) ?_;
        refine RS.pv (PV.all tab_ok rfl) rfl ?_;
        refine RS.pv (PV.all tab_ok rfl) rfl ?_;
        (first | refine RS.lv (LV.load tab_ok rfl (Has.own 0 rfl) rfl) rfl ?_ | refine RS.lv (LV.load tab_ok rfl (Has.own 1 rfl) rfl) rfl ?_ | refine RS.lv (LV.load tab_ok rfl (Has.own 2 rfl) rfl) rfl ?_);
        (first | refine RS.pv (PV.indexAddr tab_ok rfl rfl rfl (by omega)) rfl ?_ | refine RS.pv (PV.indexAddrA tab_ok rfl rfl rfl (by omega)) rfl ?_);
        refine RS.store (k := 0) tab_ok rfl rfl rfl rfl rfl rfl hput' rfl ?_;
        (all_goals refine RS.nil ?_))
    | (refine CS.region (id := 3) ?_;
        refine RS.pv (PV.all tab_ok rfl) rfl ?_;
        refine RS.pv (PV.all tab_ok rfl) rfl ?_;
        refine RS.store (k := 1) tab_ok rfl rfl rfl rfl rfl rfl rfl rfl ?_;
        (all_goals refine RS.nil ?_))
    | refine CS.ret ?_
    | refine thenQ.ret ?_
    | refine blkQ.ret ?_
    | refine retQ.ret ?_
    | refine CS.block ?_
    | refine CS.exit ?_
    | refine thenQ.exit ?_
    | refine blkQ.normal ?_
    | refine blkQ.here ?_
    | refine blkQ.past rfl ?_
    | refine retQ.normal ?_)
  refine ⟨_, 0, _, _, _, _, rfl, Has.own 1 rfl, rfl, [_], cs', _, _, _, _, _, rfl, ⟨hcl', .inr ⟨g, cap', sp, rfl, h4, ?_, rfl⟩⟩, hrw', rfl⟩
  rw [List.length_append] at h5 ⊢
  omega
end Go.Proofs.Ytmcajldlcomegaa
